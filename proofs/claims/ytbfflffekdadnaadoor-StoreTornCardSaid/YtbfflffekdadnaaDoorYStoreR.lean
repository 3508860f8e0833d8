/- Package store: Read, bytes.Clone, a write that is refused, strings of bytes, rows whose head is known. -/
import Derived.Test.YtbfflffekdadnaaDoorYStoreW
import Derived.Laws.BytesString
import Derived.Laws.AppendOwn
import Derived.Laws.IdiomStrings
import Derived.Lib.SlBytesConst
import Derived.WalkSpells
import Derived.Shelf.Slices.Clone
namespace Go.Proofs.YtbfflffekdadnaaDoor.YErr
open Go.RowKit Go.Extern.Stop Go.Stop Go.Extern Go.Proofs.YtbfflffekdadnaaDoorW.PrintWords Go.Proofs.YtbfflffekdadnaaDoorW.PrintLast
set_option linter.unusedVariables false
set_option linter.unusedSimpArgs false

def strOf (l : List Int) : ByteArray := l.foldl (fun r n => r.push (UInt8.ofNat n.toNat)) ByteArray.empty
theorem to_string {w : World} {q : Addr} {c : Nat} {xs : List Int} (h : Src w (some q) xs) : (convert 59 9 (.slice (some q) xs.length c)).run Tryd.prog w = .ok (.string (strOf xs)) w := by
  rw [run_convert_bytes_string w 59 9 5 _ _ _ Tryd.underlying59 Tryd.underlying5 Tryd.underlying9]
  refine run_bytesToString w q xs.length c xs ?_
  have := run_loadCells_list (P := Tryd.prog) w q (xs.map (Value.int .u8)) (fun j v hj => by
    have hl : j < xs.length := by have := (List.getElem?_eq_some_iff.1 hj).1; simpa using this
    obtain ⟨q', e, hq⟩ := h j hl
    cases e
    rw [hq, ← hj]
    simp [List.getD, hl])
  simpa using this
/-- A row whose first cells are these bytes. -/
def RowOf (w : World) (g : Nat) (l : List Int) : Prop := ∃ cs, Blk w g cs 5 ∧ cs.toList.take l.length = l.map (Value.int .u8) ∧ l.length ≤ cs.size
theorem RowOf.src {w : World} {g : Nat} {l : List Int} (h : RowOf w g l) : Src w (some ⟨g, 0, none⟩) l := by
  obtain ⟨cs, hb, ht, hl⟩ := h
  intro i hi
  refine ⟨_, rfl, ?_⟩
  rw [show (⟨g, 0, none⟩ : Addr).add i = ⟨g, i, none⟩ by unfold Addr.add; split <;> simp_all, hb.cell]
  have := congrArg (fun z => z[i]?) ht
  simp only [List.getElem?_take, hi, if_true, List.getElem?_map] at this
  rw [← Array.getElem?_toList, this]
  simp [List.getD, hi]
theorem RowOf.two {w w' : World} {g p b : Nat} {l : List Int} (h : RowOf w g l) (t : Two w w' p b) (h1 : g ≠ p) (h2 : g ≠ b) : RowOf w' g l := by
  obtain ⟨cs, hb, ht, hl⟩ := h
  exact ⟨cs, hb.two t h1 h2, ht, hl⟩
theorem RowOf.lt {w : World} {g : Nat} {l : List Int} (h : RowOf w g l) : g < w.heap.size := h.choose_spec.1.lt
theorem RowOf.keep {w w' : World} {g : Nat} {l : List Int} (h : RowOf w g l) (t : Below w.heap.size w w') : RowOf w' g l := by
  obtain ⟨cs, hb, ht, hl⟩ := h
  exact ⟨cs, hb.keep t, ht, hl⟩
theorem RowOf.of_byt {w : World} {g : Nat} {l : List Int} (h : Byt w g l) : RowOf w g l := ⟨_, h, by rw [List.take_of_length_le (by simp)], by simp⟩
theorem RowOf.own {w : World} {B n : Nat} {v : Value} {l : List Int} (h : w.ownsRow B 5 1 v n (l.map (Value.int .u8))) (hn : 0 < n) : ∃ g c, v = .slice (some ⟨g, 0, none⟩) n c ∧ B ≤ g ∧ n ≤ c ∧ c ≤ maxLen ∧ RowOf w g l ∧ n = l.length := by
  obtain ⟨h1, h2⟩ := h
  rcases h2 with ⟨_, h0⟩ | ⟨g, c, cur, hv, hB, hb, hc, hm, hs, ht⟩
  · omega
  · have e : n = l.length := by simpa using h1.symm
    subst e
    exact ⟨g, c, hv, hB, hc, hm, ⟨cur, hb, by simpa using ht, by omega⟩, rfl⟩
/-- A copy into a row whose head is known. -/
theorem copied_row {w : World} {g a n m c k L : Nat} {l xs : List Int} {A : Option Addr} (hR : RowOf w g l) (hs : Src w A xs) (hL : L = xs.length) (hk : k = min L n) (ha : a + k ≤ l.length) :
    ∃ w', (Builtin.copy_ #[59, 59] 3 #[.slice (some ⟨g, a, none⟩) n m, .slice A L c]).run Tryd.prog w = .ok (goInt k) w' ∧ RowOf w' g (putAt l a (xs.take k)) ∧ w.grownBy w' (some g) := by
  subst hL
  have ek : (xs.take k).length = k := by rw [List.length_take]; omega
  rcases Nat.eq_zero_or_pos k with h0 | h0
  · subst h0
    have h := run_copy_none (P := Tryd.prog) w 59 59 3 5 (some ⟨g, a, none⟩) A n m xs.length c Tryd.underlying59 info_byte1 hk.symm
    exact ⟨w, h, by simpa [putAt] using hR, gro_refl _ _⟩
  · obtain ⟨q, rfl, _⟩ := hs 0 (by omega)
    obtain ⟨cs, hb, ht, hl⟩ := hR
    have h := run_copy_row (P := Tryd.prog) w 59 59 3 5 g a n m q xs.length c cs 5 ((xs.take k).map (Value.int .u8)) Tryd.underlying59 info_byte1 hb (by rw [List.length_map, ek]; exact hk)
      (fun j v hv => by
        have hj : j < k := by have := (List.getElem?_eq_some_iff.1 hv).1; rw [List.length_map, ek] at this; exact this
        obtain ⟨q', e, h⟩ := hs j (by omega)
        cases e
        rw [h, ← hv]
        simp [List.getD, hj, show j < xs.length by omega])
      (by rw [List.length_map, ek]; omega) (fun v hv => by obtain ⟨x, _, rfl⟩ := List.mem_map.1 hv; rfl)
    rw [List.length_map, ek] at h
    refine ⟨_, h, ⟨_, setRow_heap _ _ _ _ _ _ hb, ?_, ?_⟩, ⟨rfl, rfl, rfl, by simp, fun j _ hj => setRow_other _ _ _ _ (fun e => hj (by rw [e]))⟩⟩
    · have hpl : (putAt l a (xs.take k)).length = l.length := putAt_len (by omega)
      rw [hpl]
      unfold putAt
      simp only [List.map_append, List.map_take, List.map_drop, ← ht, ek]
      apply List.ext_getElem?
      intro i
      have es : cs.toList.length = cs.size := by simp
      simp only [List.getElem?_take, List.getElem?_append, List.length_append, List.length_take, List.length_map, List.getElem?_drop, es, List.length_drop]
      have m1 : min a cs.size = a := by omega
      have m2 : min a (min l.length cs.size) = a := by omega
      have m3 : min k xs.length = k := by omega
      rw [m1, m2, m3]
      by_cases h1 : i < a
      · have : i < l.length := by omega
        have : i < a + k := by omega
        simp_all
      · by_cases h2 : i < a + k
        · have h3 : i - a < k := by omega
          have h4 : i < l.length := by omega
          simp [h1, h2, h3, h4]
        · by_cases h4 : i < l.length
          · have h5 : a + k + (i - (a + k)) = i := by omega
            simp [h1, h2, h4, h5]
          · have h5 : a + k + (i - (a + k)) = i := by omega
            simp [h1, h2, h4, h5]
    · rw [putAt_len (by omega)]
      simp [ek]
      omega
section
variable {w : World} {p b : Nat} {l : List Int} {left : Int}
set_option maxRecDepth 100000 in
set_option maxHeartbeats 4000000 in
theorem Clone_c (q : Addr) (c : Nat) (xs : List Int) (w : World) (hbig : xs.length ≤ 4096) (hc : Src w (some q) xs) :
    Calls Tryd.prog 41 #[.slice (some q) xs.length c] w fun e w' => ∃ v', e = .returned v' ∧ w'.ownsRow w.heap.size 5 1 v' xs.length (xs.map (Value.int .u8)) ∧ Below w.heap.size w w' := by
  have q22 : ∀ (w : World) (a : Option Addr) (n c n' c' : Nat), (binOp .eql 59 (.slice a n c) (.slice none n' c')).run Tryd.prog w = .ok (.bool a.isNone) w := fun w a n c n' c' => Lib.run_eql_slice_nil w _ _ a n c n' c' Tryd.underlying59
  obtain ⟨i0, hi, hz0, hz1, hz2⟩ := info_parts info_byte
  have Hc := Lib.hid hc
  clear hc
  go_enter Tryd.func41, Tryd.ntmps41
  go_wp2_with (at_builtin; refine wpList_append_own _ rfl _ _ 59 rfl w.heap.size 5 i0 (.int .u8 0) 1 1 Tryd.underlying59 hi hz0 hz1 hz2 rfl (by decide) _ _ _ rfl (World.ownsRow_made w #[] 0 (Nat.le_refl _) (Nat.zero_le _) rfl) q xs.length c (xs.map (Value.int .u8)) rfl ?qc1 ?qc2 ?qc3 ?qc4 ?qc5 ?qc6 ?_)
  case qc1 => simp
  case qc2 =>
    intro j u hj
    have hjn : j < xs.length := by
      have := (List.getElem?_eq_some_iff.1 hj).1
      simpa using this
    refine Lib.cell?_alloc_some _ ?_
    obtain ⟨q', e, h⟩ := Hc.out j hjn
    cases e
    rw [h, ← hj]
    simp [List.getD, hjn]
  case qc3 => intro u hu; obtain ⟨x, _, rfl⟩ := List.mem_map.1 hu; rfl
  case qc4 => unfold maxLen; omega
  case qc5 => omega
  case qc6 => simp
  intro v' w1 hown hgrow hnil
  go_wp2
  go_ret
  exact ⟨v', rfl, by simpa using hown, ((Below.refl _ w).alloc (Nat.le_refl _) _).grown hgrow (by simp) (by intro k hk; simp [Value.ownBlock] at hk; omega)⟩
set_option maxRecDepth 100000 in
set_option maxHeartbeats 4000000 in
theorem Read_all (h : Sto w p b l left false) (hl : 0 < l.length) :
    Calls Tryd.prog 32 #[.pointer (some ⟨p, 0, none⟩), .int .i64 0, .int .i64 l.length] w fun e w' => ∃ g c, e = .returned (.tuple #[.slice (some ⟨g, 0, none⟩) l.length c, .nilIface]) ∧ w.heap.size ≤ g ∧ RowOf w' g l ∧ Below w.heap.size w w' := by
  have c0 : w.cell? ⟨p, 0, none⟩ = some (.slice (some ⟨b, 0, none⟩) l.length l.length) := Blk.cell h.1 0
  have O := out_ok (a := 0) (n := (l.length : Int)) h (by omega) (by omega) (by omega)
  have C := Clone_c ⟨b, 0, none⟩ l.length l w h.2.2.2 (RowOf.of_byt h.2.1).src
  have s2 : (l.length : Int) ≤ 4096 := by have := h.2.2.2; omega
  have s3 : ¬ l.length = 0 := by omega
  clear h
  go_enter Tryd.func32, Tryd.ntmps32
  go_wp2_with fail
  refine O.mono ?_; rintro e w1 ⟨rfl, rfl⟩
  go_wp2_with fail
  refine C.mono ?_; rintro e w2 ⟨v, rfl, hv, hb⟩
  obtain ⟨g, c, rfl, hB, _, _, hr, _⟩ := RowOf.own hv hl
  go_wp2_with fail
  go_ret2
  exact ⟨g, c, rfl, hB, hr, hb⟩
set_option maxRecDepth 100000 in
set_option maxHeartbeats 4000000 in
theorem Read_range {a n : Int} (h : Sto w p b l left false) (hr : a < 0 ∨ n < 0 ∨ (l.length : Int) < a ∨ (l.length : Int) < a + n) :
    Calls Tryd.prog 32 #[.pointer (some ⟨p, 0, none⟩), .int .i64 a, .int .i64 n] w fun e w' => ∃ v, e = .returned (.tuple #[.slice none 0 0, v]) ∧ ErrFrom op25 w.heap.size w' v 20 ∧ Below w.heap.size w w' := by
  have O := out_range h hr
  clear h hr
  go_enter Tryd.func32, Tryd.ntmps32
  go_wp2_with fail
  refine O.mono ?_; rintro e w1 ⟨v, rfl, hv, hb⟩
  have H := Lib.hid hv
  rcases hv with ⟨h0, _⟩ | ⟨_, q, rfl, _⟩
  · cases h0
  · go_wp2_with fail
    go_ret2
    exact ⟨_, rfl, H.out, hb⟩
set_option maxRecDepth 100000 in
set_option maxHeartbeats 4000000 in
theorem Write_bad {c : Int} {a : Int} {A : Option Addr} {n m : Nat} {B : Nat} (hc : c ≠ 0) (O : Calls Tryd.prog 39 #[.pointer (some ⟨p, 0, none⟩), .int .i64 a, .int .i64 (n : Int)] w fun e w' => ∃ v, e = .returned v ∧ ErrFrom op25 w.heap.size w' v c ∧ Below w.heap.size w w') :
    Calls Tryd.prog 27 #[.pointer (some ⟨p, 0, none⟩), .int .i64 a, .slice A n m] w fun e w' => ∃ v, e = .returned v ∧ ErrFrom op25 w.heap.size w' v c ∧ Below w.heap.size w w' := by
  go_enter Tryd.func27, Tryd.ntmps27
  go_wp2_with fail
  refine O.mono ?_; rintro e w1 ⟨v, rfl, hv, hb⟩
  have H := Lib.hid hv
  have HC := Lib.hid hc
  rcases hv with ⟨h0, _⟩ | ⟨_, q, rfl, _⟩
  · exact absurd h0 hc
  · clear hc
    go_wp2_with fail
    go_ret
    exact ⟨_, rfl, H.out, hb⟩
end
end Go.Proofs.YtbfflffekdadnaaDoor.YErr
