/- The law TablePlays of layer 24: the walk. Condition: errors.errorType holds its type's handle. -/
import Derived.Test.YtekcemncmgingaaDoorYTPlay
import Derived.Test.YtekcemncmgingaaDoorYTClone
import Derived.Test.YtekcemncmgingaaDoorYTableFull
import Derived.Deep.DeepCutAuto
import Derived.Deep.CutBlock
import Derived.Deep.RegionHeld3
namespace Go.Proofs.YtekcemncmgingaaDoor.YErr
open Go.RowKit Go.Extern.Stop Go.Stop Go.Extern
set_option linter.unusedVariables false
set_option linter.unusedSimpArgs false
/-- A script's act. -/
structure Ac where
  what : Int
  id : Int
  slot : Int
  x : Int
  y : Int
  r : Int
  on : Bool
instance : Inhabited Ac := ⟨⟨0, 0, 0, 0, 0, 0, false⟩⟩
def AcAt (w : World) (b o : Nat) (x : Ac) : Prop := w.cell? ⟨b, o, none⟩ = some (.int .u8 x.what) ∧ w.cell? ⟨b, o + 1, none⟩ = some (.int .u8 x.id) ∧ w.cell? ⟨b, o + 2, none⟩ = some (.int .i64 x.slot) ∧ w.cell? ⟨b, o + 3, none⟩ = some (.int .i64 x.x) ∧ w.cell? ⟨b, o + 4, none⟩ = some (.int .i64 x.y) ∧ w.cell? ⟨b, o + 5, none⟩ = some (.int .i64 x.r) ∧ w.cell? ⟨b, o + 6, none⟩ = some (.bool x.on)
theorem AcAt.keep {w w' : World} {b o : Nat} {x : Ac} (h : AcAt w b o x) (g : Below w.heap.size w w') : AcAt w' b o x := by
  obtain ⟨h0, h1, h2, h3, h4, h5, h6⟩ := h
  have k : ∀ {a : Addr} {v : Value}, w.cell? a = some v → w'.cell? a = some v := fun h => (g.cell (World.block_lt_of_cell? w _ h)).trans h
  exact ⟨k h0, k h1, k h2, k h3, k h4, k h5, k h6⟩
theorem ac3 {w : World} {b : Nat} {a0 a1 a2 : Value} {x y r : Int} {o : Bool} (k : Blk w b #[a0, a1, a2, .int .i64 x, .int .i64 y, .int .i64 r, .bool o] 58) : w.cell? ⟨b, 3, none⟩ = some (.int .i64 x) ∧ w.cell? ⟨b, 4, none⟩ = some (.int .i64 y) ∧ w.cell? ⟨b, 5, none⟩ = some (.int .i64 r) := ⟨k.cell 3, k.cell 4, k.cell 5⟩
def LiesA (w : World) (A : Option Addr) (l : List Ac) : Prop := 0 < l.length → ∃ b off, A = some ⟨b, off, none⟩ ∧ ∀ i (h : i < l.length), AcAt w b (off + i * 7) l[i]
theorem LiesA.keep {w w' : World} {A : Option Addr} {l : List Ac} (h : LiesA w A l) (g : Below w.heap.size w w') : LiesA w' A l := fun hp => by
  obtain ⟨b, off, e, hc⟩ := h hp
  exact ⟨b, off, e, fun i hi => (hc i hi).keep g⟩
def AcWf (x : Ac) : Prop := (0 ≤ x.what ∧ x.what ≤ 255) ∧ (0 ≤ x.id ∧ x.id ≤ 255) ∧ (-9223372036854775808 ≤ x.slot ∧ x.slot ≤ 9223372036854775807)
theorem info_a : (Tryd.prog.info? 58).map (·.size) = some 7 := by kernel_rfl
theorem stAc {ops : Array Oper} {rest : List Oper} {o : Oper} {act : Act} {w : World} {Q : Exit → Act → World → Prop} {p : Nat} {old : Array Value} {x : Ac} (k : Blk w p old 58) (h0 : old.size = 7) (a b : Operand) (hgd : o.guard = Option.none) (ho : o.op = .store 58 a b) (hx : act.eval a = .pointer (some ⟨p, 0, Option.none⟩)) (hy : act.eval b = .agg #[.int .u8 x.what, .int .u8 x.id, .int .i64 x.slot, .int .i64 x.x, .int .i64 x.y, .int .i64 x.r, .bool x.on])
    (h : wpList Tryd.prog ops Q rest (act.put o.dst undef) (w.setRow p #[.int .u8 x.what, .int .u8 x.id, .int .i64 x.slot, .int .i64 x.x, .int .i64 x.y, .int .i64 x.r, .bool x.on])) : wpList Tryd.prog ops Q (o :: rest) act w :=
  wpList_store_row hgd 58 a b ho p #[.int .u8 x.what, .int .u8 x.id, .int .i64 x.slot, .int .i64 x.x, .int .i64 x.y, .int .i64 x.r, .bool x.on] hx hy 58 old k info_a h0 (by simp [Value.oneCell']) h
theorem newA (w : World) (x : Ac) : Blk (w.alloc (.cells #[.int .u8 0, .int .u8 0, .int .i64 0, .int .i64 0, .int .i64 0, .int .i64 0, .bool false] 58)) w.heap.size #[.int .u8 0, .int .u8 0, .int .i64 0, .int .i64 0, .int .i64 0, .int .i64 0, .bool false] 58 ∧
    ∃ w', w' = (w.alloc (.cells #[.int .u8 0, .int .u8 0, .int .i64 0, .int .i64 0, .int .i64 0, .int .i64 0, .bool false] 58)).setRow w.heap.size #[.int .u8 x.what, .int .u8 x.id, .int .i64 x.slot, .int .i64 x.x, .int .i64 x.y, .int .i64 x.r, .bool x.on] ∧ Blk w' w.heap.size #[.int .u8 x.what, .int .u8 x.id, .int .i64 x.slot, .int .i64 x.x, .int .i64 x.y, .int .i64 x.r, .bool x.on] 58 ∧ Below w.heap.size w w' := by
  have K0 := Blk.new w #[.int .u8 0, .int .u8 0, .int .i64 0, .int .i64 0, .int .i64 0, .int .i64 0, .bool false] 58
  have B0 : Below w.heap.size w (w.alloc (.cells #[.int .u8 0, .int .u8 0, .int .i64 0, .int .i64 0, .int .i64 0, .int .i64 0, .bool false] 58)) := (Below.refl _ _).alloc (Nat.le_refl _) _
  exact ⟨K0, _, rfl, setRow_heap5 (cs := #[.int .u8 x.what, .int .u8 x.id, .int .i64 x.slot, .int .i64 x.x, .int .i64 x.y, .int .i64 x.r, .bool x.on]) K0, ⟨B0.os, B0.tape, B0.output, by simp, fun k hk => (setRow_other _ _ _ _ (by omega)).trans (B0.block k hk)⟩⟩
theorem cell_spot' {w : World} {a : Addr} {v : Value} (h : w.cell? a = some v) : a.spot = none := by
  unfold World.cell? at h
  split at h
  · split at h
    · cases h
    · rename_i h'; simpa using h'
  · cases h
/-- An error stays where the document's table alone is written. -/
theorem err_one {op : ByteArray} {w w' : World} {v : Value} {c : Int} {q B : Nat} {s : T3} (h : ErrIs op w v c) (T : RT w q B s) (g : One w w' q) : ErrIs op w' v c := by
  obtain ⟨A0, c0, A1, c1, A2, c2, T, _⟩ := T
  rcases h with h | ⟨hc, a, hv, h0, h1⟩
  · exact .inl h
  · have hq : a.block ≠ q := by
      intro e
      have hs := cell_spot' h0
      obtain ⟨ab, ao, asp⟩ := a
      have hs : asp = none := hs
      have e : ab = q := e
      subst hs
      subst e
      have hh := (Blk.cell T ao).symm.trans h0
      have hlt : ao < 15 := by
        rcases Nat.lt_or_ge ao 15 with h | h
        · exact h
        · rw [Array.getElem?_eq_none (by simpa [rcs] using h)] at hh; cases hh
      rcases ao with _ | _ | _ | _ | _ | _ | _ | _ | _ | _ | _ | _ | _ | _ | _ | n <;> first | omega | (simp [rcs] at hh)
    exact .inr ⟨hc, a, hv, (World.cell?_of_block (g.2.2.2.2 _ (World.block_lt_of_cell? w _ h0) hq)).trans h0, (World.cell?_of_block (a := ⟨a.block, a.off + 1, none⟩) (g.2.2.2.2 a.block (World.block_lt_of_cell? w a h0) hq)).trans h1⟩

set_option maxRecDepth 100000 in
set_option maxHeartbeats 16000000 in
theorem Place4 (k : Int) (h0 : -9223372036854775808 ≤ k) (h1 : k ≤ 9223372036854775807) (w : World) : Calls Tryd.prog 18 #[.int .i64 k, .int .i64 4] w fun r w' => (∃ n : Int, r = .returned (.int .i64 n)) ∧ w' = w := by
  go_enter Tryd.func18, Tryd.ntmps18
  go_wp2
  all_goals go_ret
  all_goals exact ⟨⟨_, rfl⟩, rfl⟩

section
variable {w w3 w4 w5 w6 W : World} {p q : Nat} {s s' : T3}
theorem says_mid {v : Value} {c : Int} (hg : Laid w) (B3 : Below w.heap.size w w3) (hp : w.heap.size ≤ p) (hpq : p < q) (Q3 : RT w3 q (q + 1) s) (E4 : ErrIs op24 w4 v c) (o4 : One w3 w4 p) (o5 : One w4 w5 q) (b : Below w5.heap.size w5 W) :
    Calls Tryd.prog 14 #[v, .int .i64 c] W fun e w' => e = .returned (.bool true) ∧ Below W.heap.size W w' := by
  have Q4 : RT w4 q (q + 1) s := Q3.one o4 (by omega) (by omega)
  have B5 : Below w.heap.size w w5 := One.below o5 (One.below o4 B3 hp) (by omega)
  have := says24 c W (hg.below (bbT B5 b)) ((err_one E4 Q4 o5).below b)
  simpa only [decide_true] using this
theorem fin_mid (B3 : Below w.heap.size w w3) (hp : w.heap.size ≤ p) (hpq : p < q) (hz : q + 1 ≤ w3.heap.size) (P4 : PT w4 p (q + 1) s') (Q5 : RT w5 q (q + 1) s') (o4 : One w3 w4 p) (o5 : One w4 w5 q) (b : Below w5.heap.size w5 w6) :
    PT w6 p (q + 1) s' ∧ RT w6 q (q + 1) s' ∧ q + 1 ≤ w6.heap.size ∧ Below w.heap.size w w6 :=
  ⟨(P4.one o5 (by omega) (by omega)).keep b, Q5.keep b, by have h1 := o4.2.2.2.1; have h2 := o5.2.2.2.1; have h3 := b.size; omega, bbT (One.below o5 (One.below o4 B3 hp) (by omega)) b⟩
end

set_option maxRecDepth 100000 in
set_option maxHeartbeats 16000000 in
theorem Plays_walk (A1 : Option Addr) (c1 : Nat) (l : List Ac) (w : World) (hg : Laid w) (hl : LiesA w A1 l) (hw : ∀ x ∈ l, AcWf x) (ll : l.length ≤ 60) :
    Calls Tryd.prog 6 #[.slice A1 l.length c1] w fun r w' => r = .returned (.bool true) ∧ Below w.heap.size w w' := by
  have K := known24 w hg
  have ll' : (l.length : Int) ≤ 60 := by omega
  have HL := Lib.hid hl
  have HW := Lib.hid hw
  clear hl hw
  go_enter Tryd.func6, Tryd.ntmps6
  go_wp2_with fail
  refine K.mono ?_; rintro r w0 ⟨rfl, B0⟩
  clear K
  go_wp2_with fail
  refine (New_c w0).mono ?_; rintro r w1 ⟨rfl, T, h0⟩
  have B1 := bbT B0 h0
  have hp : w.heap.size ≤ w0.heap.size := B0.size
  have hpq : w0.heap.size < w1.heap.size := Blk.lt T
  clear B0 h0
  go_wp2_with fail
  have TQ : Rt (w1.alloc (.cells (rcs Sl.none Sl.none Sl.none) 56)) w1.heap.size Sl.none Sl.none Sl.none := Blk.new _ _ _
  have P0 : PT (w1.alloc (.cells (rcs Sl.none Sl.none Sl.none) 56)) w0.heap.size (w1.heap.size + 1) T3.zero := PT.new (Blk.alloc T _)
  have Q0 : RT (w1.alloc (.cells (rcs Sl.none Sl.none Sl.none) 56)) w1.heap.size (w1.heap.size + 1) T3.zero := RT.new TQ
  have B2 := B1.alloc B1.size (.cells (rcs Sl.none Sl.none Sl.none) 56)
  have hz2 : w1.heap.size + 1 ≤ (w1.alloc (.cells (rcs Sl.none Sl.none Sl.none) 56)).heap.size := by simp
  have hq : w.heap.size ≤ w1.heap.size := by omega
  simp only [rcs, Sl.none] at P0 Q0 B2 hz2
  generalize (w1.alloc (.cells _ 56)) = w2 at *
  clear TQ T B1
  generalize w1.heap.size = q at *
  generalize w0.heap.size = p at *
  go_wp2_with fail
  go_loopw [5] (fun i wr => ∃ (j : Nat) (s : T3), j ≤ l.length ∧ i = .int .i64 j ∧ s.good ∧ PT wr p (q + 1) s ∧ RT wr q (q + 1) s ∧ q + 1 ≤ wr.heap.size ∧ Below w.heap.size w wr) (fun i _ => l.length - (intOf i).toNat)
  case atStart => exact ⟨0, T3.zero, Nat.zero_le _, rfl, ⟨Good.zero, Good.zero, Good.zero⟩, P0, Q0, hz2, B2⟩
  case round =>
    obtain ⟨j, s, hj, rfl, G, P, Q, hz, B⟩ := hrel
    clear P0 Q0 B2 hz2
    by_cases hlt : j < l.length
    · obtain ⟨bl, off, rfl, hc⟩ := (HL.out.keep B) (by omega)
      obtain ⟨q0, q1, q2, q3, q4, q5, q6⟩ := hc j hlt
      obtain ⟨⟨x0, x1⟩, ⟨x2, x3⟩, ⟨x4, x5⟩⟩ := HW.out l[j] (List.getElem_mem hlt)
      clear hc
      have hj' : (j : Int) < (l.length : Int) := by omega
      have hj0 : (0 : Int) ≤ (j : Int) := by omega
      generalize l[j] = x at *
      obtain ⟨k0, w3, hw3, k3, b3⟩ := newA wr x
      go_upto_region 10 with (first | (refine stAc k0 rfl _ _ rfl rfl rfl rfl ?_))
      rw [← hw3]
      have P3 := P.keep b3
      have Q3 := Q.keep b3
      have B3 := bbT B b3
      have hz3 : q + 1 ≤ w3.heap.size := Nat.le_trans hz b3.size
      clear P Q B b3 hw3 k0 q0 q1 q2 q3 q4 q5 q6
      have l0 := (Blk.cell k3 0).trans (show _ = some (.int .u8 x.what) from rfl)
      have l1 := (Blk.cell k3 1).trans (show _ = some (.int .u8 x.id) from rfl)
      have l2 := (Blk.cell k3 2).trans (show _ = some (.int .i64 x.slot) from rfl)
      generalize hxb : wr.heap.size = xb at *
      clear hxb wr
      have hxz : q + 1 ≤ xb := hz
      clear hz
      have PL := fun W => Place4 x.slot x4 x5 W
      go_upto_if 48 with fail
      go_cut [8] (fun s8 wx => ∃ k : Int, s8 = .int .i64 k ∧ wx = w3)
      case first =>
        go_wp2_with (first | (go_at_call 18; (with_reducible refine (PL _).mono ?_); rintro e w4 ⟨⟨n, rfl⟩, e4⟩; subst e4))
        all_goals (go_meet; exact ⟨_, rfl, rfl⟩)
      case rest =>
      obtain ⟨k, rfl, e3⟩ := hcut
      have e3' := e3.symm
      clear e3
      subst e3'
      generalize x.id % 5 = id at *
      go_upto_block 2 with fail
      go_cut [9] (fun s9 wx => s9 = .bool true ∧ ∃ s' : T3, s'.good ∧ PT wx p (q + 1) s' ∧ RT wx q (q + 1) s' ∧ q + 1 ≤ wx.heap.size ∧ Below w.heap.size w wx)
      case first =>
        have hwh0 : 0 ≤ x.what % 8 := by omega
        have hwh1 : x.what % 8 < 8 := by omega
        generalize x.what % 8 = wh at *
        have hp1 : p < q + 1 := by omega
        have hq1 : q < q + 1 := by omega
        have hx : xb ≠ p := by omega
        have hxq : xb ≠ q := by omega
        clear HL HW ll ll' PL x0 x1 x2 x3 x4 x5 hj' hj0 hlt hj
        by_cases h3 : wh = 3
        · subst h3
          have KP := fun W (b : Below w3.heap.size w3 W) => (Keep_t (P3.keep b) G hp1 (Nat.le_trans hz3 b.size) k x.x x.y x.r).mono fun e w' ⟨v, he, hv, hP, ho⟩ => (show ∃ v, e = Ending.returned v ∧ ErrIs op24 w' v (keepC s k) ∧ PT w' p (q + 1) (keepS s k x.x x.y x.r) ∧ One w3 w' p from ⟨v, he, hv, hP, One.trans (One.of b) ho⟩)
          have KQ := fun w4 (o4 : One w3 w4 p) W (b : Below w4.heap.size w4 W) => (RKeep_t ((Q3.one o4 hp1 (by omega)).keep b) G hq1 (Nat.le_trans hz3 (Nat.le_trans o4.2.2.2.1 b.size)) k x.x x.y x.r).mono fun e w' ⟨he, hP, ho⟩ => (show e = Ending.returned (.int .i64 (keepC s k)) ∧ RT w' q (q + 1) (keepS s k x.x x.y x.r) ∧ One w4 w' q from ⟨he, hP, One.trans (One.of b) ho⟩)
          have gS := keepS_good G k x.x x.y x.r
          generalize keepC s k = C at *
          generalize keepS s k x.x x.y x.r = s' at *
          have l3 := (Blk.cell k3 3).trans (show _ = some (.int .i64 x.x) from rfl)
          have l4 := (Blk.cell k3 4).trans (show _ = some (.int .i64 x.y) from rfl)
          have l5 := (Blk.cell k3 5).trans (show _ = some (.int .i64 x.r) from rfl)
          go_wp2_with fail

          go_region_held3 (fun w' => w'.cell? ⟨xb, 3, none⟩ = some (.int .i64 x.x) ∧ w'.cell? ⟨xb, 4, none⟩ = some (.int .i64 x.y) ∧ w'.cell? ⟨xb, 5, none⟩ = some (.int .i64 x.r))
            (first | go_keep | exact ac3 k3 | exact ac3 k4 | exact ac3 k5 | exact ac3 k6)
            (first
              | (go_at_call 17; ((with_reducible refine (KP _ (by repeat (first | exact Below.refl _ _ | refine Below.drew ?_ | refine below_drewN ?_ _))).mono ?_); rintro e w4 ⟨v4, rfl, E4, P4, o4⟩; have k4 := One.blk o4 k3 hx))
              | (go_at_call 19; ((with_reducible refine (KQ w4 o4 _ (by repeat (first | exact Below.refl _ _ | refine Below.drew ?_ | refine below_drewN ?_ _))).mono ?_); rintro e w5 ⟨rfl, Q5, o5⟩; have k5 := One.blk o5 k4 hxq))
              | (go_at_call 14; ((with_reducible refine (says_mid hg B3 hp hpq Q3 E4 o4 o5 (by repeat (first | exact Below.refl _ _ | refine Below.drew ?_ | refine below_drewN ?_ _))).mono ?_); rintro e w6 ⟨rfl, b6⟩; have k6 := Blk.keep k5 b6)))
          go_wp2_with fail
          have b6' : Below w5.heap.size w5 w6 := by first | exact b6 | exact bbT (Below.drew (Below.refl _ _)) b6
          have F := fin_mid B3 hp hpq hz3 P4 Q5 o4 o5 b6'
          go_meet
          first | exact ⟨rfl, s', gS, F⟩ | (trace_state; sorry)
        have n3 : (wh == 3) = false := by simpa using h3
        by_cases h4 : wh = 4
        · subst h4
          have KP := fun W (b : Below w3.heap.size w3 W) => (Set_t (P3.keep b) G hp1 k).mono fun e w' ⟨v, he, hv, hP, ho⟩ => (show ∃ v, e = Ending.returned v ∧ ErrIs op24 w' v (keepC s k) ∧ PT w' p (q + 1) (setS s k) ∧ One w3 w' p from ⟨v, he, hv, hP, One.trans (One.of b) ho⟩)
          have KQ := fun w4 (o4 : One w3 w4 p) W (b : Below w4.heap.size w4 W) => (RSet_t ((Q3.one o4 hp1 (by omega)).keep b) G hq1 k).mono fun e w' ⟨he, hP, ho⟩ => (show e = Ending.returned (.int .i64 (keepC s k)) ∧ RT w' q (q + 1) (setS s k) ∧ One w4 w' q from ⟨he, hP, One.trans (One.of b) ho⟩)
          have gS := setS_good G k
          generalize keepC s k = C at *
          generalize setS s k = s' at *
          go_wp2_with (first
            | (go_at_call 16; ((with_reducible refine (KP _ (Below.refl _ _)).mono ?_); rintro e w4 ⟨v4, rfl, E4, P4, o4⟩; have k4 := One.blk o4 k3 hx))
            | (go_at_call 20; ((with_reducible refine (KQ w4 o4 _ (Below.refl _ _)).mono ?_); rintro e w5 ⟨rfl, Q5, o5⟩))
            | (go_at_call 14; ((with_reducible refine (says_mid hg B3 hp hpq Q3 E4 o4 o5 (Below.refl _ _)).mono ?_); rintro e w6 ⟨rfl, b6⟩)))
          have F := fin_mid B3 hp hpq hz3 P4 Q5 o4 o5 b6
          go_meet
          exact ⟨rfl, s', gS, F⟩
        have n4 : (wh == 4) = false := by simpa using h4
        by_cases h5 : wh = 5
        · subst h5
          have KP := fun W (b : Below w3.heap.size w3 W) => (Score_t (P3.keep b) G hp1 k x.on).mono fun e w' ⟨v, he, hv, hP, ho⟩ => (show ∃ v, e = Ending.returned (.tuple #[.int .i64 (scoreV s k x.on), v]) ∧ ErrIs op24 w' v (scoreC s k) ∧ PT w' p (q + 1) (scoreS s k x.on) ∧ One w3 w' p from ⟨v, he, hv, hP, One.trans (One.of b) ho⟩)
          have KQ := fun w4 (o4 : One w3 w4 p) W (b : Below w4.heap.size w4 W) => (RScore_t ((Q3.one o4 hp1 (by omega)).keep b) G hq1 k x.on).mono fun e w' ⟨he, hP, ho⟩ => (show e = Ending.returned (.tuple #[.int .i64 (scoreV s k x.on), .int .i64 (scoreC s k)]) ∧ RT w' q (q + 1) (scoreS s k x.on) ∧ One w4 w' q from ⟨he, hP, One.trans (One.of b) ho⟩)
          have gS := scoreS_good G k x.on
          generalize scoreV s k x.on = V at *
          generalize scoreC s k = C at *
          generalize scoreS s k x.on = s' at *
          have l6 := (Blk.cell k3 6).trans (show _ = some (.bool x.on) from rfl)
          go_wp2_with (first
            | (go_at_call 11; ((with_reducible refine (KP _ (Below.refl _ _)).mono ?_); rintro e w4 ⟨v4, rfl, E4, P4, o4⟩; have k4 := One.blk o4 k3 hx; have m5 := (Blk.cell k4 5).trans (show _ = some (.int .i64 x.r) from rfl); have m6 := (Blk.cell k4 6).trans (show _ = some (.bool x.on) from rfl)))
            | (go_at_call 21; ((with_reducible refine (KQ w4 o4 _ (Below.refl _ _)).mono ?_); rintro e w5 ⟨rfl, Q5, o5⟩))
            | (go_at_call 14; ((with_reducible refine (says_mid hg B3 hp hpq Q3 E4 o4 o5 (Below.refl _ _)).mono ?_); rintro e w6 ⟨rfl, b6⟩)))
          have F := fin_mid B3 hp hpq hz3 P4 Q5 o4 o5 b6
          go_meet
          exact ⟨rfl, s', gS, F⟩
        have n5 : (wh == 5) = false := by simpa using h5
        by_cases h6 : wh = 6
        · subst h6
          have KP := fun W (b : Below w3.heap.size w3 W) => (Score_t (P3.keep b) G hp1 k x.on).mono fun e w' ⟨v, he, hv, hP, ho⟩ => (show ∃ v, e = Ending.returned (.tuple #[.int .i64 (scoreV s k x.on), v]) ∧ ErrIs op24 w' v (scoreC s k) ∧ PT w' p (q + 1) (scoreS s k x.on) ∧ One w3 w' p from ⟨v, he, hv, hP, One.trans (One.of b) ho⟩)
          have KQ := fun w4 (o4 : One w3 w4 p) W (b : Below w4.heap.size w4 W) => (RScore_t ((Q3.one o4 hp1 (by omega)).keep b) G hq1 k x.on).mono fun e w' ⟨he, hP, ho⟩ => (show e = Ending.returned (.tuple #[.int .i64 (scoreV s k x.on), .int .i64 (scoreC s k)]) ∧ RT w' q (q + 1) (scoreS s k x.on) ∧ One w4 w' q from ⟨he, hP, One.trans (One.of b) ho⟩)
          have gS := scoreS_good G k x.on
          generalize scoreV s k x.on = V at *
          generalize scoreC s k = C at *
          generalize scoreS s k x.on = s' at *
          have l6 := (Blk.cell k3 6).trans (show _ = some (.bool x.on) from rfl)
          go_wp2_with (first
            | (go_at_call 11; ((with_reducible refine (KP _ (Below.refl _ _)).mono ?_); rintro e w4 ⟨v4, rfl, E4, P4, o4⟩; have k4 := One.blk o4 k3 hx; have m5 := (Blk.cell k4 5).trans (show _ = some (.int .i64 x.r) from rfl); have m6 := (Blk.cell k4 6).trans (show _ = some (.bool x.on) from rfl)))
            | (go_at_call 21; ((with_reducible refine (KQ w4 o4 _ (Below.refl _ _)).mono ?_); rintro e w5 ⟨rfl, Q5, o5⟩))
            | (go_at_call 14; ((with_reducible refine (says_mid hg B3 hp hpq Q3 E4 o4 o5 (Below.refl _ _)).mono ?_); rintro e w6 ⟨rfl, b6⟩)))
          have F := fin_mid B3 hp hpq hz3 P4 Q5 o4 o5 b6
          go_meet
          exact ⟨rfl, s', gS, F⟩
        have n6 : (wh == 6) = false := by simpa using h6
        by_cases h7 : wh = 7
        · subst h7
          have KP := fun W (b : Below w3.heap.size w3 W) => (Drop_t (P3.keep b) hp1 id).mono fun e w' ⟨v, he, hv, hP, ho⟩ => (show ∃ v, e = Ending.returned v ∧ ErrIs op24 w' v (dropC s id) ∧ PT w' p (q + 1) (dropS s id) ∧ One w3 w' p from ⟨v, he, hv, hP, One.trans (One.of b) ho⟩)
          have KQ := fun w4 (o4 : One w3 w4 p) W (b : Below w4.heap.size w4 W) => (RDrop_t ((Q3.one o4 hp1 (by omega)).keep b) hq1 id).mono fun e w' ⟨he, hP, ho⟩ => (show e = Ending.returned (.int .i64 (dropC s id)) ∧ RT w' q (q + 1) (dropS s id) ∧ One w4 w' q from ⟨he, hP, One.trans (One.of b) ho⟩)
          have gS := dropS_good G id
          generalize dropC s id = C at *
          generalize dropS s id = s' at *
          go_wp2_with (first
            | (go_at_call 15; ((with_reducible refine (KP _ (Below.refl _ _)).mono ?_); rintro e w4 ⟨v4, rfl, E4, P4, o4⟩; have k4 := One.blk o4 k3 hx))
            | (go_at_call 22; ((with_reducible refine (KQ w4 o4 _ (Below.refl _ _)).mono ?_); rintro e w5 ⟨rfl, Q5, o5⟩))
            | (go_at_call 14; ((with_reducible refine (says_mid hg B3 hp hpq Q3 E4 o4 o5 (Below.refl _ _)).mono ?_); rintro e w6 ⟨rfl, b6⟩)))
          have F := fin_mid B3 hp hpq hz3 P4 Q5 o4 o5 b6
          go_meet
          exact ⟨rfl, s', gS, F⟩
        have n7 : (wh == 7) = false := by simpa using h7
        have KP := fun W (b : Below w3.heap.size w3 W) => (See_t (P3.keep b) hp1 id).mono fun e w' ⟨v, he, hv, hP, ho⟩ => (show ∃ v, e = Ending.returned (.tuple #[.int .i64 (seeK s id), v]) ∧ ErrIs op24 w' v (seeC s id) ∧ PT w' p (q + 1) (seeS s id) ∧ One w3 w' p from ⟨v, he, hv, hP, One.trans (One.of b) ho⟩)
        have KQ := fun w4 (o4 : One w3 w4 p) W (b : Below w4.heap.size w4 W) => (RSee_t ((Q3.one o4 hp1 (by omega)).keep b) hq1 id).mono fun e w' ⟨he, hP, ho⟩ => (show e = Ending.returned (.tuple #[.int .i64 (seeK s id), .int .i64 (seeC s id)]) ∧ RT w' q (q + 1) (seeS s id) ∧ One w4 w' q from ⟨he, hP, One.trans (One.of b) ho⟩)
        have gS := seeS_good G id
        generalize seeK s id = V at *
        generalize seeC s id = C at *
        generalize seeS s id = s' at *
        go_wp2_with (first
          | (go_at_call 10; ((with_reducible refine (KP _ (Below.refl _ _)).mono ?_); rintro e w4 ⟨v4, rfl, E4, P4, o4⟩; have k4 := One.blk o4 k3 hx))
          | (go_at_call 23; ((with_reducible refine (KQ w4 o4 _ (Below.refl _ _)).mono ?_); rintro e w5 ⟨rfl, Q5, o5⟩))
          | (go_at_call 14; ((with_reducible refine (says_mid hg B3 hp hpq Q3 E4 o4 o5 (Below.refl _ _)).mono ?_); rintro e w6 ⟨rfl, b6⟩)))
        have F := fin_mid B3 hp hpq hz3 P4 Q5 o4 o5 b6
        go_meet
        exact ⟨rfl, s', gS, F⟩
      case rest =>
        obtain ⟨rfl, s', G', P', Q', hz', B'⟩ := hcut
        clear P3 Q3 B3 hz3 k3 l0 l1 l2 PL G s
        have SP := fun W (b : Below wc.heap.size wc W) => Slot_t (P'.keep b) id
        have SQ := fun W (b : Below wc.heap.size wc W) => RSlot_t (Q'.keep b) id
        have SM := fun W (b : Below wc.heap.size wc W) => same_t (P'.keep b) (Q'.keep b) G'
        generalize slotN s' id = N at *
        generalize slotB s' id = Bo at *
        go_wp2_with (first
          | (go_at_call 24; ((with_reducible refine (SP _ (Below.refl _ _)).mono ?_); rintro e v1 ⟨rfl, g1⟩))
          | (go_at_call 25; ((with_reducible refine (SQ v1 g1).mono ?_); rintro e v2 ⟨rfl, e2⟩; subst e2))
          | (go_at_call 26; ((with_reducible refine (SM _ g1).mono ?_); rintro e v3 ⟨rfl, g3⟩)))
        exact ⟨⟨j + 1, s', by omega, by go_num, G', (P'.keep g1).keep g3, (Q'.keep g1).keep g3, by have h1 := g1.size; have h3 := g3.size; omega, bbT (bbT B' g1) g3⟩, by simp [intOf]; omega⟩
    · obtain rfl : j = l.length := by omega
      have CL := Clone_t P hz G
      go_wp2_with fail
      refine CL.mono ?_; rintro r v1 ⟨rfl, C1, g1⟩
      have B1 := bbT B g1
      generalize hr : wr.heap.size = rr at *
      have hrr : w.heap.size ≤ rr := by have := B.size; omega
      go_wp2_with fail
      refine (See_t C1 (Nat.lt_succ_self _) 100).mono ?_; rintro r v2 ⟨v, rfl, _, C2, o2⟩
      go_wp2_with fail
      refine (Drop_t C2 (Nat.lt_succ_self _) 0).mono ?_; rintro r v3 ⟨v', rfl, _, C3, o3⟩
      have g3 : Below wr.heap.size wr v3 := One.below (One.trans o2 o3) (by rw [hr]; exact g1) (by omega)
      have SM := same_t (P.keep g3) (Q.keep g3) G
      go_wp2_with fail
      refine SM.mono ?_; rintro r v4 ⟨rfl, g4⟩
      go_wp2_with fail
      go_ret
      exact ⟨rfl, bbT (bbT B g3) g4⟩
set_option maxRecDepth 100000 in
set_option maxHeartbeats 16000000 in
theorem TablePlays_law (A1 : Option Addr) (c1 : Nat) (l : List Ac) (w : World) (hg : Laid w) (y : l.length ≤ c1) (z : c1 ≤ maxLen) (hw : ∀ x ∈ l, AcWf x) (hl : LiesA w A1 l) :
    Calls Tryd.prog 6 #[.slice A1 l.length c1] w fun r w' => r = .returned (.bool true) ∧ Below w.heap.size w w' := by
  by_cases ll : l.length ≤ 60
  · exact Plays_walk A1 c1 l w hg hl hw ll
  · have K := known24 w hg
    have ll' : (60 : Int) < l.length := by omega
    clear hl hw
    go_enter Tryd.func6, Tryd.ntmps6
    go_wp2_with fail
    refine K.mono ?_; rintro r w0 ⟨rfl, B0⟩
    go_wp2_with fail
    go_ret
    exact ⟨rfl, B0⟩
end Go.Proofs.YtekcemncmgingaaDoor.YErr
