/- The statement StoreTorn of layer 25: the walk. Condition: errors.errorType holds its type's handle. -/
import Derived.Test.YtbfflffekdadnaaDoorYStoreLaws
import Derived.Deep.QuietTactic
import Derived.BigQuiet
import Derived.Deep.LoopGhost
namespace Go.Proofs.YtbfflffekdadnaaDoor.YErr
open Go.RowKit Go.Extern.Stop Go.Stop Go.Extern Go.Proofs.YtbfflffekdadnaaDoorW.PrintWords Go.Proofs.YtbfflffekdadnaaDoorW.PrintLast
set_option linter.unusedVariables false
set_option linter.unusedSimpArgs false

theorem Src.bel {w w' : World} {A : Option Addr} {xs : List Int} (h : Src w A xs) (g : Below w.heap.size w w') : Src w' A xs := by
  intro i hi
  obtain ⟨q, rfl, hq⟩ := h i hi
  have := lt_of_cell hq
  exact ⟨q, rfl, (World.cell?_of_block (w := w) (g.block _ this)).trans hq⟩
theorem Src.ne {w : World} {A : Option Addr} {xs : List Int} {p : Nat} (h : Src w A xs) (hp : w.heap.size ≤ p) : ∀ q, A = some q → 0 < xs.length → q.block ≠ p := by
  intro q hq h0
  obtain ⟨q', e, hc⟩ := h 0 h0
  rw [hq] at e
  cases e
  have := lt_of_cell hc
  rw [show (q.add 0) = q by unfold Addr.add; simp] at this
  omega
/-- The bytes old, filled so far. -/
def fill (k : Nat) : List Int := List.replicate k 238 ++ List.replicate (200 - k) 0
theorem fill_len {k : Nat} (h : k ≤ 200) : (fill k).length = 200 := by unfold fill; simp; omega
theorem fill_set {k : Nat} (h : k < 200) : (fill k).set k 238 = fill (k + 1) := by
  unfold fill
  apply List.ext_getElem?
  intro i
  simp only [List.getElem?_set, List.getElem?_append, List.length_replicate, List.getElem?_replicate, List.length_append]
  by_cases h1 : k = i
  · subst h1; simp; omega
  · by_cases h2 : i < k
    · have : i < k + 1 := by omega
      simp [h1, h2, this]
    · have h3 : ¬ i < k + 1 := by omega
      have e : i - k < 200 - k ↔ i - (k + 1) < 200 - (k + 1) := by omega
      simp only [h1, h2, h3, if_false]
      by_cases h4 : i - k < 200 - k
      · rw [if_pos h4, if_pos (by omega)]
      · rw [if_neg h4, if_neg (by omega)]
theorem made200 (w : World) : ∃ W, (Instr.makeSlice 59 (.int .i64 200) (.int .i64 200)).run Tryd.prog w = .ok (.slice (some ⟨w.heap.size, 0, none⟩) 200 200) W ∧ Byt W w.heap.size (fill 0) ∧ Below w.heap.size w W :=
  ⟨_, made_bytes 200 200 rfl (by decide) w, by have := Blk.new w (((List.replicate 200 (0 : Int)).map (Value.int .u8)).toArray) 5; exact this, (Below.refl _ _).alloc (Nat.le_refl _) _⟩
theorem Byt.put {w : World} {g k : Nat} {l : List Int} (h : Byt w g l) (v : Int) : Byt (w.setCell ⟨g, k, none⟩ (.int .u8 v)) g (l.set k v) := by
  have := Blk.set h k (.int .u8 v)
  unfold Byt
  rw [List.map_set]
  simpa using this
theorem putAt_all {l xs : List Int} (h : l.length = xs.length) : putAt l 0 xs = xs := by unfold putAt; simp [h]
/-- The bytes old. -/
def oldB : List Int := fill 200
theorem oldB_len : oldB.length = 200 := fill_len (by omega)
section
variable {w : World} {p b g : Nat}
theorem t_W1 (s : Sto w p b (List.replicate 200 0) (-1) false) (h : Byt w g (fill 200)) : Calls Tryd.prog 27 #[.pointer (some ⟨p, 0, none⟩), .int .i64 0, .slice (some ⟨g, 0, none⟩) 200 200] w
    fun e w' => e = .returned .nilIface ∧ Sto w' p b oldB (-1) false ∧ Two w w' p b := by
  have := Write_free (a := 0) (c := 200) (xs := oldB) s (by decide) (by rw [oldB_len, List.length_replicate]; omega) (by rw [oldB_len]; omega) (RowOf.of_byt h).src (by rw [List.length_replicate]; omega)
  rw [oldB_len, putAt_all (by rw [oldB_len, List.length_replicate])] at this
  exact this
theorem t_fits {at_ : Int} {l a : List Int} {A : Option Addr} {c m n : Nat} (s : Sto w p b l (m : Int) false) (hl : l.length = 200) (ha : at_ = n) (hn : n ≤ 100) (h : a.length ≤ m) (mm : m ≤ 256) (la : a.length ≤ 60) (hc : a.length ≤ c) (hs : Src w A a) (hp : ∀ q, A = some q → 0 < a.length → q.block ≠ p) :
    Calls Tryd.prog 27 #[.pointer (some ⟨p, 0, none⟩), .int .i64 at_, .slice A a.length c] w fun e w' => e = .returned .nilIface ∧ Sto w' p b (putAt l n a) ((m - a.length : Nat) : Int) false ∧ Two w w' p b := by
  subst ha
  exact Write_fits s h (by omega) (by omega) hc hs hp (by omega)
theorem t_torn {at_ : Int} {l a : List Int} {A : Option Addr} {c m n : Nat} (s : Sto w p b l (m : Int) false) (hl : l.length = 200) (ha : at_ = n) (hn : n ≤ 100) (h : m < a.length) (mm : m ≤ 256) (la : a.length ≤ 60) (hc : a.length ≤ c) (hs : Src w A a) (hp : ∀ q, A = some q → 0 < a.length → q.block ≠ p) :
    Calls Tryd.prog 27 #[.pointer (some ⟨p, 0, none⟩), .int .i64 at_, .slice A a.length c] w fun e w' => ∃ v, e = .returned v ∧ ErrFrom op25 w.heap.size w' v 40 ∧ Sto w' p b (putAt l n (a.take m)) 0 true ∧ Two w w' p b := by
  subst ha
  exact Write_torn s h (by omega) (by omega) hc hs hp (by omega)
theorem t_down {at_ : Int} {l : List Int} {left : Int} {A : Option Addr} {n c : Nat} (s : Sto w p b l left true) :
    Calls Tryd.prog 27 #[.pointer (some ⟨p, 0, none⟩), .int .i64 at_, .slice A n c] w fun e w' => ∃ v, e = .returned v ∧ ErrFrom op25 w.heap.size w' v 40 ∧ Below w.heap.size w w' :=
  Write_bad (B := 0) (by decide) (out_down s)
theorem t_last {l : List Int} (s : Sto w p b l (-1) false) (hl : l.length = 200) : Calls Tryd.prog 27 #[.pointer (some ⟨p, 0, none⟩), .int .i64 199, .slice (some ⟨w.heap.size, 0, none⟩) 1 1] (w.alloc (.cells #[.int .u8 1] 5))
    fun e w' => e = .returned .nilIface ∧ Two (w.alloc (.cells #[.int .u8 1] 5)) w' p b := by
  have h := Write_free (w := w.alloc (.cells #[.int .u8 1] 5)) (a := 199) (c := 1) (xs := [1]) (s.alloc _) (by decide) (by simp; omega) (by decide) (Src_new w [1] (0, 0)) (by omega)
  exact h.mono fun e w' ⟨he, _, h⟩ => ⟨he, h⟩
theorem t_read {l : List Int} {left : Int} (s : Sto w p b l left false) (hl : l.length = 200) : Calls Tryd.prog 32 #[.pointer (some ⟨p, 0, none⟩), .int .i64 0, .int .i64 200] w
    fun e w' => ∃ g c, e = .returned (.tuple #[.slice (some ⟨g, 0, none⟩) 200 c, .nilIface]) ∧ w.heap.size ≤ g ∧ RowOf w' g l ∧ Below w.heap.size w w' := by
  have := Read_all s (by omega)
  rw [hl] at this
  exact this
theorem t_str {l : List Int} {g c : Nat} (h : RowOf w g l) (hl : l.length = 200) : (convert 59 9 (.slice (some ⟨g, 0, none⟩) 200 c)).run Tryd.prog w = .ok (.string (strOf l)) w := by
  have := to_string (c := c) h.src
  rwa [hl] at this
theorem ErrFrom.some {op : ByteArray} {B : Nat} {v : Value} {c : Int} (h : ErrFrom op B w v c) (hc : c ≠ 0) : ∃ a, v = .iface 80 (.pointer (Option.some a)) := by
  rcases h with h | ⟨_, a, hv, _⟩
  · exact absurd h.1 hc
  · exact ⟨a, hv⟩
end
set_option maxRecDepth 100000 in
set_option maxHeartbeats 4000000 in
theorem Torn_walk (A : Option Addr) (c : Nat) (a : List Int) (A' : Option Addr) (c' : Nat) (b : List Int) (k : Nat) (w : World) (hg : Laid w) (hA : Src w A a) (hB : Src w A' b) (ca : a.length ≤ c) (cb : b.length ≤ c') (k1 : k < 256) (la : a.length ≤ 60) (lb : b.length ≤ 60) :
    Calls Tryd.prog 8 #[.slice A a.length c, .slice A' b.length c', .int .u8 (k : Int)] w fun e w' => e = .returned (.bool true) ∧ Below w.heap.size w w' := by
  have K := known25 w hg
  have hgl := lt_of_cell hg
  have N := New_any 200 200 (by decide)
  have la' : ¬ 60 < a.length := by omega
  have lb' : ¬ 60 < b.length := by omega
  have k2 : 0 ≤ (k : Int) := by omega
  have k3 : (k : Int) < 256 := by omega
  go_enter Tryd.func8, Tryd.ntmps8
  go_wp2_with fail
  refine K.mono ?_; rintro e w0 ⟨rfl, b0⟩
  go_wp2_with fail
  refine (N _).mono ?_; rintro e w1 ⟨p, x, rfl, hp, hx, s1, g1⟩
  have b1 := bb b0 g1
  have s1 : Sto w1 p x (List.replicate 200 0) (-1) false := s1
  obtain ⟨W2, mk, f2, g2⟩ := made200 w1
  have b2 := bb b1 g2
  have s2 := s1.keep g2
  have z1 := b1.size
  have z0 := b0.size
  have hwp : w.heap.size ≤ p := by omega
  have hwx : w.heap.size ≤ x := by omega
  go_wp2_with fail
  clear mk
  have z2 := Blk.lt f2
  have hpg : p ≠ w1.heap.size := by have := s1.1.lt; omega
  have hxg : x ≠ w1.heap.size := by have := Blk.lt s1.2.1; omega
  go_loopw [9] (fun i wx => ∃ j : Nat, j ≤ 200 ∧ i = .int .i64 j ∧ Byt wx w1.heap.size (fill j) ∧ W2.grownBy wx (some w1.heap.size)) (fun i _ => 200 - (intOf i).toNat)
  case atStart => exact ⟨0, by omega, rfl, f2, gro_refl _ _⟩
  case round =>
    obtain ⟨j, hj, rfl, fx, gx⟩ := hrel
    by_cases hlt : j < 200
    · have F := Blk.free fx j
      have hlen := fill_len hj
      have C : ∃ v, wr.cell? ⟨w1.heap.size, j, none⟩ = some v := by
        rw [Blk.cell fx j]
        exact ⟨_, Array.getElem?_eq_getElem (by simp [hlen]; omega)⟩
      obtain ⟨v, C⟩ := C
      have fy := Byt.put fx (k := j) 238
      rw [fill_set hlt] at fy
      have gy := gro_set gx j (.int .u8 238)
      have FY := Lib.hid fy
      clear fy fx hlen
      have j0 : (j : Int) < 200 := by omega
      go_wp2_with fail
      go_roundw
      case rel => exact ⟨j + 1, by omega, by go_num, FY.out, gy⟩
      case measure => simp [intOf]; omega
    · have hj2 : j = 200 := by omega
      subst hj2
      have s3 : Sto wr p x (List.replicate 200 0) (-1) false := ⟨s2.1.grown gx (by simpa using hpg), Blk.grown s2.2.1 gx (by simpa using hxg), s2.2.2⟩
      have b3 := bg b2 gx z1
      have T1 := t_W1 s3 fx
      go_wp2_with fail
      refine T1.mono ?_; rintro e w4 ⟨rfl, s4, t4⟩
      have b4 := t4.under b3 hwp hwx
      have f4 : RowOf w4 w1.heap.size oldB := RowOf.two (RowOf.of_byt fx) t4 (Ne.symm hpg) (Ne.symm hxg)
      have C := Cut_calls (k : Int) s4
      clear T1
      go_wp2_with fail
      refine C.mono ?_; rintro e w5 ⟨rfl, s5, g5⟩
      have t5 : Two w4 w5 p x := Two.grown g5 (.inl rfl)
      have b5 := t5.under b4 hwp hwx
      have f5 := RowOf.two f4 t5 (Ne.symm hpg) (Ne.symm hxg)
      rw [show mx (k : Int) 0 = k by unfold mx; split <;> omega] at s5
      clear C
      have sa5 := hA.bel b5
      have na := hA.ne hwp
      have nb := hB.ne hwp
      have info := info_parts info_byte
      obtain ⟨i0, hi, hz0, hz1, hz2⟩ := info
      have lo1 : (putAt oldB 0 (a.take k)).length = 200 := by rw [putAt_len (by rw [oldB_len, List.length_take]; omega), oldB_len]
      have lo2 : (putAt (putAt oldB 0 (a.take k)) 100 (b.take (k - a.length))).length = 200 := by rw [putAt_len (by rw [lo1, List.length_take]; omega), lo1]
      by_cases h1 : a.length ≤ k
      · have U1 := t_fits (at_ := 0) (n := 0) s5 oldB_len rfl (by omega) h1 (by omega) la ca sa5 na
        have ea : a.take k = a := List.take_of_length_le h1
        rw [ea] at lo1 lo2
        go_wp2_with fail
        refine U1.mono ?_; rintro e w6 ⟨rfl, s6, t6⟩
        have b6 := t6.under b5 hwp hwx
        have f6 := RowOf.two f5 t6 (Ne.symm hpg) (Ne.symm hxg)
        have sb6 := hB.bel b6
        clear U1
        by_cases h2 : b.length ≤ k - a.length
        · have U2 := t_fits (at_ := 100) (n := 100) s6 lo1 rfl (by omega) h2 (by omega) lb cb sb6 nb
          have eb : b.take (k - a.length) = b := List.take_of_length_le h2
          rw [eb] at lo2
          go_wp2_with fail
          refine U2.mono ?_; rintro e w7 ⟨rfl, s7, t7⟩
          have b7 := t7.under b6 hwp hwx
          have f7 := RowOf.two f6 t7 (Ne.symm hpg) (Ne.symm hxg)
          clear U2
          have src7 := f7.src
          have OL := Lib.hid oldB_len
          go_wp2_with (at_builtin; refine wpList_append_own _ rfl _ _ 59 rfl w7.heap.size 5 i0 (.int .u8 0) 1 1 Tryd.underlying59 hi hz0 hz1 hz2 rfl (by decide) (.slice none 0 0) 0 [] rfl ⟨by simp, .inl ⟨rfl, rfl⟩⟩ ⟨w1.heap.size, 0, none⟩ 200 200 (oldB.map (Value.int .u8)) rfl ?qc1 ?qc2 ?qc3 ?qc4 ?qc5 ?qc6 ?_)
          case qc1 => rw [List.length_map, OL.out]
          case qc2 =>
            intro j u hj
            have hjn : j < oldB.length := by
              have := (List.getElem?_eq_some_iff.1 hj).1
              simpa using this
            obtain ⟨q', e, h⟩ := src7 j hjn
            cases e
            rw [h, ← hj]
            simp [List.getD, hjn]
          case qc3 => intro u hu; obtain ⟨x, _, rfl⟩ := List.mem_map.1 hu; rfl
          case qc4 => unfold maxLen; omega
          case qc5 => omega
          case qc6 => exact Nat.le_refl _
          intro v8 w8 hown hgrow _
          obtain ⟨gw, cap, rfl, hgw, cap1, _, r8, hxx⟩ := RowOf.own (l := oldB) (by simpa using hown) (by decide)
          clear hxx
          have b8 := bb b7 (below_gro hgrow)
          have hgw2 : w.heap.size ≤ gw := by have := b7.size; omega
          have gwp : gw ≠ p := by have := s7.1.lt; omega
          have gwx : gw ≠ x := by have := Blk.lt s7.2.1; omega
          have s8 := s7.keep (below_gro hgrow)
          have e1 : min (a.length : Int) (k : Int) = (a.length : Int) := by omega
          have e1a : (a.length : Int) ≤ (cap : Int) := by omega
          obtain ⟨w9, r9, row9, gr9⟩ := copied_row (g := gw) (a := 0) (n := a.length) (m := cap) (c := c) (k := a.length) (L := a.length) (xs := a) r8 ((hA.bel b7).bel (below_gro hgrow)) rfl (by omega) (by rw [oldB_len]; omega)
          have b9 := bg b8 gr9 hgw2
          have s9 : Sto w9 p x _ _ _ := ⟨s8.1.grown gr9 (by simp; omega), Blk.grown s8.2.1 gr9 (by simp; omega), s8.2.2⟩
          rw [List.take_of_length_le (Nat.le_refl _)] at row9
          obtain ⟨w10, r10, row10, gr10⟩ := copied_row (g := gw) (a := 100) (n := (100 + min (b.length : Int) ((k : Int) - (a.length : Int))).toNat - 100) (m := cap - 100) (c := c') (k := b.length) (L := b.length) (xs := b) row9 (hB.bel b9) rfl (by omega) (by omega)
          have b10 := bg b9 gr10 hgw2
          have s10 : Sto w10 p x _ _ _ := ⟨s9.1.grown gr10 (by simp; omega), Blk.grown s9.2.1 gr10 (by simp; omega), s9.2.2⟩
          rw [List.take_of_length_le (Nat.le_refl _)] at row10
          go_wp2_with fail
          clear e1 e1a
          have z1 : IntKind.i64.wrap ((a.length : Int) + (b.length : Int)) = (a.length : Int) + (b.length : Int) := IntWalk.i64_in _ (by omega)
          have h3 : (a.length : Int) + (b.length : Int) ≤ (k : Int) := by omega
          have h4 : a.length + b.length ≤ k := by omega
          have h5 : (a.length : Int) ≤ (k : Int) := by omega
          go_quiet ((go_at_call 30; exact Calls.quiet_of_same (Down_calls (w := _) s10)))
          go_wp2_with fail
          refine (Reopen_calls (w := w10.drewN nq) s10).mono ?_; rintro e w11 ⟨rfl, s11, g11⟩
          have t11 : Two (w10.drewN nq) w11 p x := Two.grown g11 (.inl rfl)
          have b11 : Below w.heap.size w w11 := t11.under (below_drewN b10 _) hwp hwx
          have row11 : RowOf w11 gw _ := RowOf.two (w := w10.drewN nq) row10 t11 gwp gwx
          have R := t_read s11 lo2
          clear z1
          go_wp2_with fail
          refine R.mono ?_; rintro e w12 ⟨g12, c12, rfl, _, row12, gg⟩
          have row12' := row11.keep gg
          have TS1 := t_str (c := c12) row12 lo2
          have TS2 := t_str (c := cap) row12' lo2
          have s12 := s11.keep gg
          have LW := t_last s12 lo2
          clear R
          go_wp2_with fail
          refine LW.mono ?_; rintro e w13 ⟨rfl, t13⟩
          go_wp2_with fail
          go_ret
          exact ⟨rfl, t13.under (bb (bb b11 gg) ((Below.refl _ _).alloc (Nat.le_refl _) _)) hwp hwx⟩
        · have U2 := t_torn (at_ := 100) (n := 100) s6 lo1 rfl (by omega) (by omega) (by omega) lb cb sb6 nb
          go_wp2_with fail
          refine U2.mono ?_; rintro e w7 ⟨v7, rfl, hv7, s7, t7⟩
          obtain ⟨q7, rfl⟩ := hv7.some (by decide)
          have b7 := t7.under b6 hwp hwx
          have f7 := RowOf.two f6 t7 (Ne.symm hpg) (Ne.symm hxg)
          clear U2
          have src7 := f7.src
          have OL := Lib.hid oldB_len
          go_wp2_with (at_builtin; refine wpList_append_own _ rfl _ _ 59 rfl w7.heap.size 5 i0 (.int .u8 0) 1 1 Tryd.underlying59 hi hz0 hz1 hz2 rfl (by decide) (.slice none 0 0) 0 [] rfl ⟨by simp, .inl ⟨rfl, rfl⟩⟩ ⟨w1.heap.size, 0, none⟩ 200 200 (oldB.map (Value.int .u8)) rfl ?qc1 ?qc2 ?qc3 ?qc4 ?qc5 ?qc6 ?_)
          case qc1 => rw [List.length_map, OL.out]
          case qc2 =>
            intro j u hj
            have hjn : j < oldB.length := by
              have := (List.getElem?_eq_some_iff.1 hj).1
              simpa using this
            obtain ⟨q', e, h⟩ := src7 j hjn
            cases e
            rw [h, ← hj]
            simp [List.getD, hjn]
          case qc3 => intro u hu; obtain ⟨x, _, rfl⟩ := List.mem_map.1 hu; rfl
          case qc4 => unfold maxLen; omega
          case qc5 => omega
          case qc6 => exact Nat.le_refl _
          intro v8 w8 hown hgrow _
          obtain ⟨gw, cap, rfl, hgw, cap1, _, r8, hxx⟩ := RowOf.own (l := oldB) (by simpa using hown) (by decide)
          clear hxx
          have b8 := bb b7 (below_gro hgrow)
          have hgw2 : w.heap.size ≤ gw := by have := b7.size; omega
          have gwp : gw ≠ p := by have := s7.1.lt; omega
          have gwx : gw ≠ x := by have := Blk.lt s7.2.1; omega
          have s8 := s7.keep (below_gro hgrow)
          have e1 : min (a.length : Int) (k : Int) = (a.length : Int) := by omega
          have e1a : (a.length : Int) ≤ (cap : Int) := by omega
          obtain ⟨w9, r9, row9, gr9⟩ := copied_row (g := gw) (a := 0) (n := a.length) (m := cap) (c := c) (k := a.length) (L := a.length) (xs := a) r8 ((hA.bel b7).bel (below_gro hgrow)) rfl (by omega) (by rw [oldB_len]; omega)
          have b9 := bg b8 gr9 hgw2
          have s9 : Sto w9 p x _ _ _ := ⟨s8.1.grown gr9 (by simp; omega), Blk.grown s8.2.1 gr9 (by simp; omega), s8.2.2⟩
          rw [List.take_of_length_le (Nat.le_refl _)] at row9
          obtain ⟨w10, r10, row10, gr10⟩ := copied_row (g := gw) (a := 100) (n := (100 + min (b.length : Int) ((k : Int) - (a.length : Int))).toNat - 100) (m := cap - 100) (c := c') (k := k - a.length) (L := b.length) (xs := b) row9 (hB.bel b9) rfl (by omega) (by omega)
          have b10 := bg b9 gr10 hgw2
          have s10 : Sto w10 p x _ _ _ := ⟨s9.1.grown gr10 (by simp; omega), Blk.grown s9.2.1 gr10 (by simp; omega), s9.2.2⟩
          go_wp2_with fail
          clear e1 e1a
          have z1 : IntKind.i64.wrap ((a.length : Int) + (b.length : Int)) = (a.length : Int) + (b.length : Int) := IntWalk.i64_in _ (by omega)
          have h3 : decide ((a.length : Int) + (b.length : Int) ≤ (k : Int)) = false := by rw [decide_eq_false_iff_not]; omega
          have h4 : decide (a.length + b.length ≤ k) = false := by rw [decide_eq_false_iff_not]; omega
          have h5 : (a.length : Int) ≤ (k : Int) := by omega
          go_quiet ((go_at_call 30; exact Calls.quiet_of_same (Down_calls (w := _) s10)))
          go_wp2_with fail
          refine (Reopen_calls (w := w10.drewN nq) s10).mono ?_; rintro e w11 ⟨rfl, s11, g11⟩
          have t11 : Two (w10.drewN nq) w11 p x := Two.grown g11 (.inl rfl)
          have b11 : Below w.heap.size w w11 := t11.under (below_drewN b10 _) hwp hwx
          have row11 : RowOf w11 gw _ := RowOf.two (w := w10.drewN nq) row10 t11 gwp gwx
          have R := t_read s11 lo2
          clear z1
          go_wp2_with fail
          refine R.mono ?_; rintro e w12 ⟨g12, c12, rfl, _, row12, gg⟩
          have row12' := row11.keep gg
          have TS1 := t_str (c := c12) row12 lo2
          have TS2 := t_str (c := cap) row12' lo2
          have s12 := s11.keep gg
          have LW := t_last s12 lo2
          clear R
          go_wp2_with fail
          refine LW.mono ?_; rintro e w13 ⟨rfl, t13⟩
          go_wp2_with fail
          go_ret
          exact ⟨rfl, t13.under (bb (bb b11 gg) ((Below.refl _ _).alloc (Nat.le_refl _) _)) hwp hwx⟩
      · have U1 := t_torn (at_ := 0) (n := 0) s5 oldB_len rfl (by omega) (by omega) (by omega) la ca sa5 na
        go_wp2_with fail
        refine U1.mono ?_; rintro e w6 ⟨v6, rfl, hv6, s6, t6⟩
        obtain ⟨q6, rfl⟩ := hv6.some (by decide)
        have b6 := t6.under b5 hwp hwx
        have f6 := RowOf.two f5 t6 (Ne.symm hpg) (Ne.symm hxg)
        have U2 := t_down (at_ := 100) (A := A') (n := b.length) (c := c') s6
        clear U1
        go_wp2_with fail
        refine U2.mono ?_; rintro e w7 ⟨v7, rfl, hv7, g7⟩
        obtain ⟨q7, rfl⟩ := hv7.some (by decide)
        have b7 := bb b6 g7
        have s7 := s6.keep g7
        have f7 := RowOf.keep f6 g7
        clear U2
        have src7 := f7.src
        have OL := Lib.hid oldB_len
        go_wp2_with (at_builtin; refine wpList_append_own _ rfl _ _ 59 rfl w7.heap.size 5 i0 (.int .u8 0) 1 1 Tryd.underlying59 hi hz0 hz1 hz2 rfl (by decide) (.slice none 0 0) 0 [] rfl ⟨by simp, .inl ⟨rfl, rfl⟩⟩ ⟨w1.heap.size, 0, none⟩ 200 200 (oldB.map (Value.int .u8)) rfl ?qc1 ?qc2 ?qc3 ?qc4 ?qc5 ?qc6 ?_)
        case qc1 => rw [List.length_map, OL.out]
        case qc2 =>
          intro j u hj
          have hjn : j < oldB.length := by
            have := (List.getElem?_eq_some_iff.1 hj).1
            simpa using this
          obtain ⟨q', e, h⟩ := src7 j hjn
          cases e
          rw [h, ← hj]
          simp [List.getD, hjn]
        case qc3 => intro u hu; obtain ⟨x, _, rfl⟩ := List.mem_map.1 hu; rfl
        case qc4 => unfold maxLen; omega
        case qc5 => omega
        case qc6 => exact Nat.le_refl _
        intro v8 w8 hown hgrow _
        obtain ⟨gw, cap, rfl, hgw, cap1, _, r8, hxx⟩ := RowOf.own (l := oldB) (by simpa using hown) (by decide)
        clear hxx
        have b8 := bb b7 (below_gro hgrow)
        have hgw2 : w.heap.size ≤ gw := by have := b7.size; omega
        have gwp : gw ≠ p := by have := s7.1.lt; omega
        have gwx : gw ≠ x := by have := Blk.lt s7.2.1; omega
        have s8 := s7.keep (below_gro hgrow)
        have e1 : min (a.length : Int) (k : Int) = (k : Int) := by omega
        have e1a : (k : Int) ≤ (cap : Int) := by omega
        obtain ⟨w9, r9, row9, gr9⟩ := copied_row (g := gw) (a := 0) (n := k) (m := cap) (c := c) (k := k) (L := a.length) (xs := a) r8 ((hA.bel b7).bel (below_gro hgrow)) rfl (by omega) (by rw [oldB_len]; omega)
        have b9 := bg b8 gr9 hgw2
        have s9 : Sto w9 p x _ _ _ := ⟨s8.1.grown gr9 (by simp; omega), Blk.grown s8.2.1 gr9 (by simp; omega), s8.2.2⟩
        have row10 := row9
        have s10 := s9
        have b10 := b9
        go_wp2_with fail
        clear e1 e1a
        have z1 : IntKind.i64.wrap ((a.length : Int) + (b.length : Int)) = (a.length : Int) + (b.length : Int) := IntWalk.i64_in _ (by omega)
        have h3 : decide ((a.length : Int) + (b.length : Int) ≤ (k : Int)) = false := by rw [decide_eq_false_iff_not]; omega
        have h4 : decide (a.length + b.length ≤ k) = false := by rw [decide_eq_false_iff_not]; omega
        have h5 : decide ((a.length : Int) ≤ (k : Int)) = false := by rw [decide_eq_false_iff_not]; omega
        have h6 : decide (a.length ≤ k) = false := by rw [decide_eq_false_iff_not]; omega
        go_quiet ((go_at_call 30; exact Calls.quiet_of_same (Down_calls (w := _) s10)))
        go_wp2_with fail
        refine (Reopen_calls (w := w9.drewN nq) s10).mono ?_; rintro e w11 ⟨rfl, s11, g11⟩
        have t11 : Two (w9.drewN nq) w11 p x := Two.grown g11 (.inl rfl)
        have b11 : Below w.heap.size w w11 := t11.under (below_drewN b10 _) hwp hwx
        have row11 : RowOf w11 gw _ := RowOf.two (w := w9.drewN nq) row9 t11 gwp gwx
        have R := t_read s11 lo1
        clear z1
        go_wp2_with fail
        refine R.mono ?_; rintro e w12 ⟨g12, c12, rfl, _, row12, gg⟩
        have row12' := row11.keep gg
        have TS1 := t_str (c := c12) row12 lo1
        have TS2 := t_str (c := cap) row12' lo1
        have s12 := s11.keep gg
        have LW := t_last s12 lo1
        clear R
        go_wp2_with fail
        refine LW.mono ?_; rintro e w13 ⟨rfl, t13⟩
        go_wp2_with fail
        go_ret
        exact ⟨rfl, t13.under (bb (bb b11 gg) ((Below.refl _ _).alloc (Nat.le_refl _) _)) hwp hwx⟩
/-- A slice of bytes that came in. -/
theorem src_of {w : World} {A : Option Addr} {l : List Int} (h : 0 < l.length → ∃ b off, A = some ⟨b, off, none⟩ ∧ ∀ i, i < l.length → w.cell? ⟨b, off + i, none⟩ = some (.int .u8 (l.getD i 0))) : Src w A l := by
  intro i hi
  obtain ⟨b, off, rfl, hc⟩ := h (by omega)
  refine ⟨_, rfl, ?_⟩
  rw [show (⟨b, off, none⟩ : Addr).add i = ⟨b, off + i, none⟩ by unfold Addr.add; split <;> simp_all]
  exact hc i hi
set_option maxRecDepth 100000 in
set_option maxHeartbeats 2000000 in
theorem StoreTorn_law (A : Option Addr) (c : Nat) (a : List Int) (A' : Option Addr) (c' : Nat) (b : List Int) (k : Int) (w : World) (hg : Laid w)
    (c0 : a.length ≤ c) (c1 : c ≤ maxLen) (wl : ∀ n ∈ a, (Lit.int .u8 n).wf = true) (hl : 0 < a.length → ∃ b off, A = some ⟨b, off, none⟩ ∧ ∀ i, i < a.length → w.cell? ⟨b, off + i, none⟩ = some (.int .u8 (a.getD i 0)))
    (c0' : b.length ≤ c') (c1' : c' ≤ maxLen) (wn : ∀ n ∈ b, (Lit.int .u8 n).wf = true) (hn : 0 < b.length → ∃ b' off, A' = some ⟨b', off, none⟩ ∧ ∀ i, i < b.length → w.cell? ⟨b', off + i, none⟩ = some (.int .u8 (b.getD i 0)))
    (wk : (Lit.int .u8 k).wf = true) :
    Calls Tryd.prog 8 #[.slice A a.length c, .slice A' b.length c', .int .u8 k] w fun e w' => e = .returned (.bool true) ∧ Below w.heap.size w w' := by
  have hk : 0 ≤ k ∧ k < 256 := by simp [Lit.wf, IntKind.min, IntKind.max, IntKind.bits, IntKind.signed] at wk; omega
  obtain ⟨m, rfl⟩ : ∃ m : Nat, k = m := ⟨k.toNat, by omega⟩
  have m1 : m < 256 := by omega
  by_cases h1 : a.length ≤ 60
  · by_cases h2 : b.length ≤ 60
    · exact Torn_walk A c a A' c' b m w hg (src_of hl) (src_of hn) c0 c0' m1 h1 h2
    · have K := known25 w hg
      have z : 60 < b.length := by omega
      have z1 : ¬ 60 < a.length := by omega
      clear wl wn hl hn h2 wk hk
      go_enter Tryd.func8, Tryd.ntmps8
      go_wp2_with fail
      refine K.mono ?_; rintro e w0 ⟨rfl, k0⟩
      go_wp2_with fail
      go_ret
      exact ⟨rfl, k0⟩
  · have K := known25 w hg
    have z : 60 < a.length := by omega
    clear wl wn hl hn h1 wk hk
    go_enter Tryd.func8, Tryd.ntmps8
    go_wp2_with fail
    refine K.mono ?_; rintro e w0 ⟨rfl, k0⟩
    go_wp2_with fail
    go_ret
    exact ⟨rfl, k0⟩
end Go.Proofs.YtbfflffekdadnaaDoor.YErr
