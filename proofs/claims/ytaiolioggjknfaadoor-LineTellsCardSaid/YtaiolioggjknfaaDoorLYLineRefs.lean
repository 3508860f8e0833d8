/- Lean functions, contracts and lemmas that this claim needs. No condition. -/
import Derived.Test.YtaiolioggjknfaaDoorLYLineLaws
import Derived.Test.YtaiolioggjknfaaDoorLYRefCmpA
import Derived.Test.YtaiolioggjknfaaDoorLYRefRoot
import Derived.Test.YtaiolioggjknfaaDoorLYRefMd
import Derived.Deep.DeepCutAuto
import Derived.Laws.Rows
import Derived.Deep.QuietTactic
import Derived.BigQuiet
import Derived.Test.YtaiolioggjknfaaDoorLYRow
import Derived.Deep.RegionHeld3
namespace Go.Proofs.YtaiolioggjknfaaDoor.YLine
open Go.RowKit Go.Extern.Stop Go.Stop Go.Extern Go.Proofs.YtaiolioggjknfaaDoor.QSn Go.Proofs.YtaiolioggjknfaaDoor.YBits Go.Proofs.YtaiolioggjknfaaDoor.YFx Go.Proofs.YtaiolioggjknfaaDoor.YErr Go.Proofs.YtaiolioggjknfaaDoorW.PrintWords Go.Proofs.YtaiolioggjknfaaDoorW.PrintLast
set_option linter.unusedVariables false
set_option linter.unusedSimpArgs false
theorem Hypot_len (K : Nat) {x y : Int} (x0 : -8388608 ≤ x) (x1 : x ≤ 8388608) (y0 : -8388608 ≤ y) (y1 : y ≤ 8388608) :
    leadlineref1_Hypot.f (K + 2065 + 1) x y = some (len x y, true) := by
  have e6 : K + 2065 + 1 = (K + 66) + 2000 := by omega
  have e5 : K + 2065 = (K + 65) + 2000 := by omega
  have o1 : leadlineref1_Of.f (K + 2065 + 1) x = some (YRef.sg x, YRef.mag x) := by rw [e6]; exact YRef.Of_tells (K + 66) (by omega) (by omega)
  have o2 : leadlineref1_Of.f (K + 2065 + 1) y = some (YRef.sg y, YRef.mag y) := by rw [e6]; exact YRef.Of_tells (K + 66) (by omega) (by omega)
  have o3 : leadlineref1_Of.f (K + 2065) x = some (YRef.sg x, YRef.mag x) := by rw [e5]; exact YRef.Of_tells (K + 65) (by omega) (by omega)
  have o4 : leadlineref1_Of.f (K + 2065) y = some (YRef.sg y, YRef.mag y) := by rw [e5]; exact YRef.Of_tells (K + 65) (by omega) (by omega)
  have ax : YRef.ab x ≤ 2147483648 := by unfold YRef.ab; split <;> omega
  have ay : YRef.ab y ≤ 2147483648 := by unfold YRef.ab; split <;> omega
  have fx : leadlineref1_Fits.f (K + 2065 + 1) (YRef.sg x) (YRef.mag x) 2147483648 = some (decide (YRef.ab x ≤ 2147483648)) := by rw [e6]; exact YRef.Fits_tells (K + 66) (YRef.small_i64 (by omega) (by omega)) (by omega) (by omega)
  have fy : leadlineref1_Fits.f (K + 2065 + 1) (YRef.sg y) (YRef.mag y) 2147483648 = some (decide (YRef.ab y ≤ 2147483648)) := by rw [e6]; exact YRef.Fits_tells (K + 66) (YRef.small_i64 (by omega) (by omega)) (by omega) (by omega)
  rw [decide_eq_true ax] at fx
  rw [decide_eq_true ay] at fy
  obtain ⟨_, r0, r1, s0, s1⟩ := len_tells x y x0 x1 y0 y1
  obtain ⟨a0, a1⟩ := sq_bound (show (0 : Int) ≤ 8388608 by decide) x0 x1
  obtain ⟨b0, b1⟩ := sq_bound (show (0 : Int) ≤ 8388608 by decide) y0 y1
  have m1 : leadlineref1_Mul.f (K + 2065) (YRef.sg x) (YRef.mag x) (YRef.sg x) (YRef.mag x) = some (YRef.sg (x * x), YRef.mag (x * x)) := by rw [e5]; exact YRef.Mul_tells (K + 65) (YRef.small_i64 (by omega) (by omega)) (YRef.small_i64 (by omega) (by omega))
  have m2 : leadlineref1_Mul.f (K + 2065) (YRef.sg y) (YRef.mag y) (YRef.sg y) (YRef.mag y) = some (YRef.sg (y * y), YRef.mag (y * y)) := by rw [e5]; exact YRef.Mul_tells (K + 65) (YRef.small_i64 (by omega) (by omega)) (YRef.small_i64 (by omega) (by omega))
  have ad : leadlineref1_Add.f (K + 2065) (YRef.sg (x * x)) (YRef.mag (x * x)) (YRef.sg (y * y)) (YRef.mag (y * y)) = some (YRef.sg (x * x + y * y), YRef.mag (x * x + y * y)) := by rw [e5]; exact YRef.Add_tells (K + 65) (by unfold YRef.Small; omega) (by unfold YRef.Small; omega)
  have rt : leadlineref1_Rooted.f (K + 2065) (YRef.sg (x * x + y * y)) (YRef.mag (x * x + y * y)) = some (len x y) := YRef.Rooted_tells K _ (len x y) (by omega) (by omega) r0 s0 s1
  have wd : wrap64 (len x y) = len x y := by unfold wrap64; omega
  have j0 : leadlineref1_Hypot.j0 (K + 2065 + 1) x y false = some (len x y, true) := by
    rw [leadlineref1_Hypot.j0, if_neg (by decide), o3, Option.bind_some, Option.bind_some]
    dsimp only
    rw [m1, Option.bind_some, o4, Option.bind_some, Option.bind_some]
    dsimp only
    rw [m2, Option.bind_some]
    dsimp only
    rw [ad, Option.bind_some]
    dsimp only
    rw [rt, Option.bind_some, wd]
  unfold leadlineref1_Hypot.f
  rw [o1, Option.bind_some]
  dsimp only
  rw [fx, Option.bind_some, if_pos rfl, o2, Option.bind_some]
  dsimp only
  rw [fy, Option.bind_some, Bool.not_true, j0]
theorem rHypot_c (x y : Int) (x0 : -8388608 ≤ x) (x1 : x ≤ 8388608) (y0 : -8388608 ≤ y) (y1 : y ≤ 8388608) (W : World) :
    Calls Tryd.prog 58 #[.int .i64 x, .int .i64 y] W fun e w' => e = .returned (.tuple #[.int .i64 (len x y), .bool true]) ∧ Below W.heap.size W w' :=
  leadlineref1_Hypot.calls (0 + 2065 + 1) x y _ _ W (Hypot_len 0 x0 x1 y0 y1)
def farB (x y : Int) : Bool := decide (x < -4194304 ∨ x > 4194304 ∨ y < -4194304 ∨ y > 4194304)
theorem far_near {x y : Int} (h : farB x y = false) : Near x ∧ Near y := by
  unfold farB at h
  have := of_decide_eq_false h
  unfold Near
  omega
set_option maxRecDepth 100000 in
set_option maxHeartbeats 4000000 in
theorem rfar1 (v : Int) (h0 : -9223372036854775808 ≤ v) (h1 : v ≤ 9223372036854775807) (w : World) : Calls Tryd.prog 53 #[.int .i64 v, .int .i64 4194304] w fun e w' => e = .returned (.bool (decide (v < -4194304 ∨ v > 4194304))) ∧ w' = w := by
  by_cases a : v > 4194304
  · have e1 : decide (v < -4194304 ∨ v > 4194304) = true := by simp; omega
    rw [e1]
    go_enter Tryd.func53, Tryd.ntmps53
    go_wp2
    go_ret
    exact ⟨rfl, rfl⟩
  · by_cases b : v < -4194304
    · have e1 : decide (v < -4194304 ∨ v > 4194304) = true := by simp; omega
      rw [e1]
      go_enter Tryd.func53, Tryd.ntmps53
      go_wp2
      go_ret
      exact ⟨rfl, rfl⟩
    · have e1 : decide (v < -4194304 ∨ v > 4194304) = false := by simp; omega
      rw [e1]
      go_enter Tryd.func53, Tryd.ntmps53
      go_wp2
      go_ret
      exact ⟨rfl, rfl⟩
set_option maxRecDepth 100000 in
set_option maxHeartbeats 4000000 in
theorem rAway_c (x y : Int) (x0 : -9223372036854775808 ≤ x) (x1 : x ≤ 9223372036854775807) (y0 : -9223372036854775808 ≤ y) (y1 : y ≤ 9223372036854775807) (w : World) :
    Calls Tryd.prog 56 #[.agg #[.int .i64 x, .int .i64 y]] w fun e w' => e = .returned (.bool (farB x y)) ∧ Below w.heap.size w w' := by
  have F1 := rfar1 x x0 x1
  have F2 := rfar1 y y0 y1
  have B1 : Below w.heap.size w (w.alloc (.cells #[.int .i64 x, .int .i64 y] 35)) := (Below.refl _ _).alloc (Nat.le_refl _) _
  cases h1 : decide (x < -4194304 ∨ x > 4194304) with
  | true =>
    have e : farB x y = true := by unfold farB; have := of_decide_eq_true h1; simp; omega
    rw [e]
    rw [h1] at F1
    clear h1
    go_enter Tryd.func56, Tryd.ntmps56
    go_wp2_with (first | (go_at_call 53; (with_reducible refine (F1 _).mono ?_); rintro e w1 ⟨rfl, rfl⟩))
    go_ret
    exact ⟨rfl, B1⟩
  | false =>
    cases h2 : decide (y < -4194304 ∨ y > 4194304) with
    | true =>
      have e : farB x y = true := by unfold farB; have := of_decide_eq_true h2; simp; omega
      rw [e]
      rw [h1] at F1
      rw [h2] at F2
      clear h1 h2
      go_enter Tryd.func56, Tryd.ntmps56
      go_wp2_with (first | (go_at_call 53; first | ((with_reducible refine (F1 _).mono ?_); rintro e w1 ⟨rfl, e1⟩; subst e1) | ((with_reducible refine (F2 _).mono ?_); rintro e w2 ⟨rfl, e2⟩; subst e2)))
      go_ret
      exact ⟨rfl, B1⟩
    | false =>
      have e : farB x y = false := by unfold farB; have a := of_decide_eq_false h1; have b := of_decide_eq_false h2; simp; omega
      rw [e]
      rw [h1] at F1
      rw [h2] at F2
      clear h1 h2
      go_enter Tryd.func56, Tryd.ntmps56
      go_wp2_with (first | (go_at_call 53; first | ((with_reducible refine (F1 _).mono ?_); rintro e w1 ⟨rfl, e1⟩; subst e1) | ((with_reducible refine (F2 _).mono ?_); rintro e w2 ⟨rfl, e2⟩; subst e2)))
      go_ret
      exact ⟨rfl, B1⟩
/-- What a line's contract tells. -/
def lnF (ax ay bx b_y : Int) : Bool := farB ax ay || farB bx b_y
def lnC (ax ay bx b_y : Int) : Int := if lnF ax ay bx b_y then 21 else lineC (bx - ax) (b_y - ay)
def lnX (ax ay bx b_y : Int) : Int := if lnF ax ay bx b_y then 0 else lineX (bx - ax) (b_y - ay)
def lnY (ax ay bx b_y : Int) : Int := if lnF ax ay bx b_y then 0 else lineY (bx - ax) (b_y - ay)
def lnR (ax ay bx b_y : Int) : Int := if lnF ax ay bx b_y then 0 else lineR (bx - ax) (b_y - ay)
theorem info_L : (Tryd.prog.info? 41).map (·.size) = some 3 := by kernel_rfl
theorem stL {ops : Array Oper} {rest : List Oper} {o : Oper} {act : Act} {w : World} {Q : Exit → Act → World → Prop} {p : Nat} {old : Array Value} {x y z : Int} (k : Blk w p old 41) (h0 : old.size = 3) (a b : Operand) (hgd : o.guard = Option.none) (ho : o.op = .store 41 a b) (hx : act.eval a = .pointer (some ⟨p, 0, Option.none⟩)) (hy : act.eval b = .agg #[.int .i64 x, .int .i64 y, .int .i64 z])
    (h : wpList Tryd.prog ops Q rest (act.put o.dst undef) (w.setRow p #[.int .i64 x, .int .i64 y, .int .i64 z])) : wpList Tryd.prog ops Q (o :: rest) act w :=
  wpList_store_row hgd 41 a b ho p #[.int .i64 x, .int .i64 y, .int .i64 z] hx hy 41 old k info_L h0 (by simp [Value.oneCell']) h
/-- Both places boxed, and the result's place. -/
theorem three (w : World) (ax ay bx b_y : Int) : ∃ w3, w3 = ((w.alloc (.cells #[.int .i64 ax, .int .i64 ay] 35)).alloc (.cells #[.int .i64 bx, .int .i64 b_y] 35)).alloc (.cells #[.int .i64 0, .int .i64 0, .int .i64 0] 41) ∧
    Blk w3 w.heap.size #[.int .i64 ax, .int .i64 ay] 35 ∧ Blk w3 (w.heap.size + 1) #[.int .i64 bx, .int .i64 b_y] 35 ∧ Blk w3 (w.heap.size + 1 + 1) #[.int .i64 0, .int .i64 0, .int .i64 0] 41 ∧ Below w.heap.size w w3 := by
  refine ⟨_, rfl, ((Blk.new w _ _).alloc _).alloc _, ?_, ?_, (((Below.refl _ _).alloc (Nat.le_refl _) _).alloc (by simp) _).alloc (by simp; omega) _⟩
  · have := Blk.new (w.alloc (.cells #[.int .i64 ax, .int .i64 ay] 35)) #[.int .i64 bx, .int .i64 b_y] 35
    have := this.alloc (.cells #[.int .i64 0, .int .i64 0, .int .i64 0] 41)
    simpa using this
  · have := Blk.new ((w.alloc (.cells #[.int .i64 ax, .int .i64 ay] 35)).alloc (.cells #[.int .i64 bx, .int .i64 b_y] 35)) #[.int .i64 0, .int .i64 0, .int .i64 0] 41
    simpa using this
theorem setRow3 {w : World} {b : Nat} {c cs : Array Value} {T : TypeId} (k : Blk w b c T) : Blk (w.setRow b cs) b cs T := setRow_heap _ _ _ _ _ _ k
theorem below_setRow {W w : World} {b : Nat} {cs : Array Value} (h : Below W.heap.size W w) (hb : W.heap.size ≤ b) : Below W.heap.size W (w.setRow b cs) :=
  ⟨h.os, h.tape, h.output, by simp; exact h.size, fun k hk => (setRow_other _ _ _ _ (by omega)).trans (h.block k hk)⟩
theorem bb {W w w' : World} (h : Below W.heap.size W w) (g : Below w.heap.size w w') : Below W.heap.size W w' := h.trans (g.mono h.size)
theorem _root_.Go.Proofs.YtaiolioggjknfaaDoor.YErr.ErrIs.setRow {op : ByteArray} {w : World} {e : Nat} {c : Int} {b : Nat} {cs : Array Value} (h : ErrIs op w (.iface 104 (.pointer (some ⟨e, 0, none⟩))) c) (hne : e ≠ b) : ErrIs op (w.setRow b cs) (.iface 104 (.pointer (some ⟨e, 0, none⟩))) c := by
  rcases h with ⟨_, h⟩ | ⟨hc, a, hv, h0, h1⟩
  · cases h
  · obtain rfl : a = ⟨e, 0, none⟩ := by injection hv with _ hv; injection hv with hv; injection hv with hv; exact hv.symm
    exact .inr ⟨hc, _, rfl, (World.cell?_of_block (setRow_other _ _ _ _ hne)).trans h0, (World.cell?_of_block (a := ⟨e, 0 + 1, none⟩) (setRow_other _ _ _ _ hne)).trans h1⟩
set_option maxRecDepth 100000 in
set_option maxHeartbeats 4000000 in
theorem Of_far (ax ay bx b_y : Int) (h : lnF ax ay bx b_y = true) (w : World) : Calls Tryd.prog 21 #[.agg #[.int .i64 ax, .int .i64 ay], .agg #[.int .i64 bx, .int .i64 b_y]] w fun r w' => ∃ v, r = .returned (.tuple #[.agg #[.int .i64 0, .int .i64 0, .int .i64 0], v]) ∧ ErrIs op16 w' v 21 ∧ Below w.heap.size w w' := by
  have hF : farB ax ay = true ∨ (farB ax ay = false ∧ farB bx b_y = true) := by
    unfold lnF at h
    cases h1 : farB ax ay <;> simp_all
  clear h
  have F1 := fun W => far_calls ax ay W (farB ax ay) rfl
  have F2 := fun W => far_calls bx b_y W (farB bx b_y) rfl
  have B := bad_calls 21 (by decide)
  obtain ⟨w3, hw3, kA, kB, kL, b3⟩ := three w ax ay bx b_y
  have kA0 := (Blk.cell kA 0).trans (show _ = some (.int .i64 ax) from rfl)
  have kA1 := (Blk.cell kA 1).trans (show _ = some (.int .i64 ay) from rfl)
  rcases hF with h1 | ⟨h1, h2⟩
  · rw [h1] at F1
    go_enter Tryd.func21, Tryd.ntmps21
    go_upto_region 1 with fail
    rw [← hw3]
    clear hw3
    go_wp2_with fail
    refine (F1 _).mono ?_; rintro e w4 ⟨rfl, g4⟩
    have kL4 := kL.keep g4
    have b4 := bb b3 g4
    go_wp2_with fail
    refine (B _).mono ?_; rintro e w6 ⟨rfl, e6⟩
    have E6 := err_alloc w4 op16 21 (by decide)
    have kL6 := kL4.alloc (.cells #[.string op16, .iface 50 (.int .i64 21)] 106)
    have b6 := b4.alloc b4.size (.cells #[.string op16, .iface 50 (.int .i64 21)] 106)
    rw [← e6] at E6 kL6 b6
    clear e6
    have hne : w4.heap.size ≠ w.heap.size + 1 + 1 := by have := Blk.lt kL4; omega
    generalize w4.heap.size = eb at *
    go_wp2_with (first | (refine stL kL6 rfl _ _ rfl rfl rfl rfl ?_))
    have K2 := setRow3 (cs := #[.int .i64 0, .int .i64 0, .int .i64 0]) kL6
    have bS := below_setRow (b := w.heap.size + 1 + 1) (cs := #[.int .i64 0, .int .i64 0, .int .i64 0]) b6 (by omega)
    have E7 : ErrIs op16 (w6.setRow (w.heap.size + 1 + 1) #[.int .i64 0, .int .i64 0, .int .i64 0]) (.iface 104 (.pointer (some ⟨eb, 0, none⟩))) 21 := E6.setRow hne
    refine bodyPost_ret (v := .tuple #[.agg #[.int .i64 0, .int .i64 0, .int .i64 0], .iface 104 (.pointer (some ⟨eb, 0, none⟩))]) ?_ rfl ⟨_, rfl, E7, bS⟩
    rw [results_cell_tmp rfl]
    have r0 := (Blk.cell K2 0).trans (show (#[.int .i64 0, .int .i64 0, .int .i64 0] : Array Value)[0]? = some (.int .i64 0) from rfl)
    have r1 := (Blk.cell K2 1).trans (show (#[.int .i64 0, .int .i64 0, .int .i64 0] : Array Value)[1]? = some (.int .i64 0) from rfl)
    have r2 := (Blk.cell K2 2).trans (show (#[.int .i64 0, .int .i64 0, .int .i64 0] : Array Value)[2]? = some (.int .i64 0) from rfl)
    go_simp
  · rw [h1] at F1
    rw [h2] at F2
    go_enter Tryd.func21, Tryd.ntmps21
    go_upto_region 1 with fail
    rw [← hw3]
    clear hw3
    go_wp2_with fail
    refine (F1 _).mono ?_; rintro e w4 ⟨rfl, g4⟩
    have kL4 := kL.keep g4
    have b4 := bb b3 g4
    have q0 := (Blk.cell (kB.keep g4) 0).trans (show _ = some (.int .i64 bx) from rfl)
    have q1 := (Blk.cell (kB.keep g4) 1).trans (show _ = some (.int .i64 b_y) from rfl)
    go_wp2_with fail
    refine (F2 _).mono ?_; rintro e w5 ⟨rfl, g5⟩
    have kL5 := kL4.keep g5
    have b5 := bb b4 g5
    go_wp2_with fail
    refine (B _).mono ?_; rintro e w6 ⟨rfl, e6⟩
    have E6 := err_alloc w5 op16 21 (by decide)
    have kL6 := kL5.alloc (.cells #[.string op16, .iface 50 (.int .i64 21)] 106)
    have b6 := b5.alloc b5.size (.cells #[.string op16, .iface 50 (.int .i64 21)] 106)
    rw [← e6] at E6 kL6 b6
    clear e6
    have hne : w5.heap.size ≠ w.heap.size + 1 + 1 := by have := Blk.lt kL5; omega
    generalize w5.heap.size = eb at *
    go_wp2_with (first | (refine stL kL6 rfl _ _ rfl rfl rfl rfl ?_))
    have K2 := setRow3 (cs := #[.int .i64 0, .int .i64 0, .int .i64 0]) kL6
    have bS := below_setRow (b := w.heap.size + 1 + 1) (cs := #[.int .i64 0, .int .i64 0, .int .i64 0]) b6 (by omega)
    have E7 : ErrIs op16 (w6.setRow (w.heap.size + 1 + 1) #[.int .i64 0, .int .i64 0, .int .i64 0]) (.iface 104 (.pointer (some ⟨eb, 0, none⟩))) 21 := E6.setRow hne
    refine bodyPost_ret (v := .tuple #[.agg #[.int .i64 0, .int .i64 0, .int .i64 0], .iface 104 (.pointer (some ⟨eb, 0, none⟩))]) ?_ rfl ⟨_, rfl, E7, bS⟩
    rw [results_cell_tmp rfl]
    have r0 := (Blk.cell K2 0).trans (show (#[.int .i64 0, .int .i64 0, .int .i64 0] : Array Value)[0]? = some (.int .i64 0) from rfl)
    have r1 := (Blk.cell K2 1).trans (show (#[.int .i64 0, .int .i64 0, .int .i64 0] : Array Value)[1]? = some (.int .i64 0) from rfl)
    have r2 := (Blk.cell K2 2).trans (show (#[.int .i64 0, .int .i64 0, .int .i64 0] : Array Value)[2]? = some (.int .i64 0) from rfl)
    go_simp
set_option maxRecDepth 100000 in
set_option maxHeartbeats 4000000 in
theorem rLine_far (ax ay bx b_y : Int) (a0 : -9223372036854775808 ≤ ax) (a1 : ax ≤ 9223372036854775807) (a2 : -9223372036854775808 ≤ ay) (a3 : ay ≤ 9223372036854775807) (c0 : -9223372036854775808 ≤ bx) (c1 : bx ≤ 9223372036854775807) (c2 : -9223372036854775808 ≤ b_y) (c3 : b_y ≤ 9223372036854775807) (h : lnF ax ay bx b_y = true) (w : World) : Calls Tryd.prog 34 #[.agg #[.int .i64 ax, .int .i64 ay], .agg #[.int .i64 bx, .int .i64 b_y]] w fun r w' => r = .returned (.tuple #[.agg #[.int .i64 0, .int .i64 0, .int .i64 0], .int .i64 21]) ∧ Below w.heap.size w w' := by
  have hF : farB ax ay = true ∨ (farB ax ay = false ∧ farB bx b_y = true) := by
    unfold lnF at h
    cases h1 : farB ax ay <;> simp_all
  clear h
  have F1 := fun W => rAway_c ax ay a0 a1 a2 a3 W
  have F2 := fun W => rAway_c bx b_y c0 c1 c2 c3 W
  obtain ⟨w3, hw3, kA, kB, kL, b3⟩ := three w ax ay bx b_y
  have kA0 := (Blk.cell kA 0).trans (show _ = some (.int .i64 ax) from rfl)
  have kA1 := (Blk.cell kA 1).trans (show _ = some (.int .i64 ay) from rfl)
  rcases hF with h1 | ⟨h1, h2⟩
  · rw [h1] at F1
    go_enter Tryd.func34, Tryd.ntmps34
    go_upto_region 1 with fail
    rw [← hw3]
    clear hw3
    go_wp2_with fail
    refine (F1 _).mono ?_; rintro e w4 ⟨rfl, g4⟩
    have kL4 := kL.keep g4
    have b4 := bb b3 g4
    go_wp2_with (first | (refine stL kL4 rfl _ _ rfl rfl rfl rfl ?_))
    have K2 := setRow3 (cs := #[.int .i64 0, .int .i64 0, .int .i64 0]) kL4
    have bS := below_setRow (b := w.heap.size + 1 + 1) (cs := #[.int .i64 0, .int .i64 0, .int .i64 0]) b4 (by omega)
    refine bodyPost_ret (v := .tuple #[.agg #[.int .i64 0, .int .i64 0, .int .i64 0], .int .i64 21]) ?_ rfl ⟨rfl, bS⟩
    rw [results_cell_tmp rfl]
    have r0 := (Blk.cell K2 0).trans (show (#[.int .i64 0, .int .i64 0, .int .i64 0] : Array Value)[0]? = some (.int .i64 0) from rfl)
    have r1 := (Blk.cell K2 1).trans (show (#[.int .i64 0, .int .i64 0, .int .i64 0] : Array Value)[1]? = some (.int .i64 0) from rfl)
    have r2 := (Blk.cell K2 2).trans (show (#[.int .i64 0, .int .i64 0, .int .i64 0] : Array Value)[2]? = some (.int .i64 0) from rfl)
    go_simp
  · rw [h1] at F1
    rw [h2] at F2
    go_enter Tryd.func34, Tryd.ntmps34
    go_upto_region 1 with fail
    rw [← hw3]
    clear hw3
    go_wp2_with fail
    refine (F1 _).mono ?_; rintro e w4 ⟨rfl, g4⟩
    have kL4 := kL.keep g4
    have b4 := bb b3 g4
    have q0 := (Blk.cell (kB.keep g4) 0).trans (show _ = some (.int .i64 bx) from rfl)
    have q1 := (Blk.cell (kB.keep g4) 1).trans (show _ = some (.int .i64 b_y) from rfl)
    go_wp2_with fail
    refine (F2 _).mono ?_; rintro e w5 ⟨rfl, g5⟩
    have kL5 := kL4.keep g5
    have b5 := bb b4 g5
    go_wp2_with (first | (refine stL kL5 rfl _ _ rfl rfl rfl rfl ?_))
    have K2 := setRow3 (cs := #[.int .i64 0, .int .i64 0, .int .i64 0]) kL5
    have bS := below_setRow (b := w.heap.size + 1 + 1) (cs := #[.int .i64 0, .int .i64 0, .int .i64 0]) b5 (by omega)
    refine bodyPost_ret (v := .tuple #[.agg #[.int .i64 0, .int .i64 0, .int .i64 0], .int .i64 21]) ?_ rfl ⟨rfl, bS⟩
    rw [results_cell_tmp rfl]
    have r0 := (Blk.cell K2 0).trans (show (#[.int .i64 0, .int .i64 0, .int .i64 0] : Array Value)[0]? = some (.int .i64 0) from rfl)
    have r1 := (Blk.cell K2 1).trans (show (#[.int .i64 0, .int .i64 0, .int .i64 0] : Array Value)[1]? = some (.int .i64 0) from rfl)
    have r2 := (Blk.cell K2 2).trans (show (#[.int .i64 0, .int .i64 0, .int .i64 0] : Array Value)[2]? = some (.int .i64 0) from rfl)
    go_simp
end Go.Proofs.YtaiolioggjknfaaDoor.YLine
namespace Go.Proofs.YtaiolioggjknfaaDoor.YLine
open Go.RowKit Go.Extern.Stop Go.Stop Go.Extern Go.Proofs.YtaiolioggjknfaaDoor.QSn Go.Proofs.YtaiolioggjknfaaDoor.YBits Go.Proofs.YtaiolioggjknfaaDoor.YFx Go.Proofs.YtaiolioggjknfaaDoor.YErr Go.Proofs.YtaiolioggjknfaaDoorW.PrintWords Go.Proofs.YtaiolioggjknfaaDoorW.PrintLast
set_option linter.unusedVariables false
set_option linter.unusedSimpArgs false
set_option maxRecDepth 100000 in
set_option maxHeartbeats 4000000 in
theorem rLine_near (ax ay bx b_y : Int) (a0 : -9223372036854775808 ≤ ax) (a1 : ax ≤ 9223372036854775807) (a2 : -9223372036854775808 ≤ ay) (a3 : ay ≤ 9223372036854775807) (c0 : -9223372036854775808 ≤ bx) (c1 : bx ≤ 9223372036854775807) (c2 : -9223372036854775808 ≤ b_y) (c3 : b_y ≤ 9223372036854775807) (h : lnF ax ay bx b_y = false) (hn : len (bx - ax) (b_y - ay) < 1000) (w : World) : Calls Tryd.prog 34 #[.agg #[.int .i64 ax, .int .i64 ay], .agg #[.int .i64 bx, .int .i64 b_y]] w fun r w' => r = .returned (.tuple #[.agg #[.int .i64 (0), .int .i64 (0), .int .i64 (0)], .int .i64 33]) ∧ Below w.heap.size w w' := by
  have h12 : farB ax ay = false ∧ farB bx b_y = false := by unfold lnF at h; simpa using h
  obtain ⟨h1, h2⟩ := h12
  clear h
  have F1 := fun W => rAway_c ax ay a0 a1 a2 a3 W
  have F2 := fun W => rAway_c bx b_y c0 c1 c2 c3 W
  rw [h1] at F1
  rw [h2] at F2
  obtain ⟨⟨p0, p1⟩, ⟨p2, p3⟩⟩ := far_near h1
  obtain ⟨⟨p4, p5⟩, ⟨p6, p7⟩⟩ := far_near h2
  clear h1 h2 a0 a1 a2 a3 c0 c1 c2 c3
  have e1 : IntKind.i64.wrap (bx - ax) = bx - ax := i64id (by omega) (by omega)
  have e2 : IntKind.i64.wrap (b_y - ay) = b_y - ay := i64id (by omega) (by omega)
  have H := fun W => rHypot_c (bx - ax) (b_y - ay) (by omega) (by omega) (by omega) (by omega) W
  obtain ⟨_, l0, l1, _, _⟩ := len_tells (bx - ax) (b_y - ay) (by omega) (by omega) (by omega) (by omega)
  generalize len (bx - ax) (b_y - ay) = l at *
  obtain ⟨w3, hw3, kA, kB, kL, b3⟩ := three w ax ay bx b_y
  have kA0 := (Blk.cell kA 0).trans (show _ = some (.int .i64 ax) from rfl)
  have kA1 := (Blk.cell kA 1).trans (show _ = some (.int .i64 ay) from rfl)
  go_enter Tryd.func34, Tryd.ntmps34
  go_upto_region 1 with fail
  rw [← hw3]
  clear hw3
  go_wp2_with fail
  refine (F1 _).mono ?_; rintro e w4 ⟨rfl, g4⟩
  replace kA := kA.keep g4
  replace kB := kB.keep g4
  replace kL := kL.keep g4
  have b4 := bb b3 g4
  clear b3 g4 kA0 kA1 F1
  have q0 := (Blk.cell kB 0).trans (show _ = some (.int .i64 bx) from rfl)
  have q1 := (Blk.cell kB 1).trans (show _ = some (.int .i64 b_y) from rfl)
  go_wp2_with fail
  refine (F2 _).mono ?_; rintro e w5 ⟨rfl, g5⟩
  replace kA := kA.keep g5
  replace kB := kB.keep g5
  replace kL := kL.keep g5
  have b5 := bb b4 g5
  clear b4 g5 q0 q1 F2
  have q0 := (Blk.cell kB 0).trans (show _ = some (.int .i64 bx) from rfl)
  have q1 := (Blk.cell kB 1).trans (show _ = some (.int .i64 b_y) from rfl)
  have q2 := (Blk.cell kA 0).trans (show _ = some (.int .i64 ax) from rfl)
  have q3 := (Blk.cell kA 1).trans (show _ = some (.int .i64 ay) from rfl)
  go_wp2_with fail
  go_quiet (fail)
  go_wp2_with fail
  refine (H _).mono ?_; rintro e w6 ⟨rfl, g6⟩
  have b6 := bb (below_drewN b5) g6
  replace kL := (kL.drewN _).keep g6
  clear H kA kB q0 q1 q2 q3 b5 g6
  go_wp2_with (first | (refine stL kL rfl _ _ rfl rfl rfl rfl ?_))
  have K2 := setRow3 (cs := #[.int .i64 0, .int .i64 0, .int .i64 0]) kL
  have bS := below_setRow (b := w.heap.size + 1 + 1) (cs := #[.int .i64 0, .int .i64 0, .int .i64 0]) b6 (by omega)
  refine bodyPost_ret (v := .tuple #[.agg #[.int .i64 0, .int .i64 0, .int .i64 0], .int .i64 33]) ?_ rfl ⟨rfl, bS⟩
  rw [results_cell_tmp rfl]
  have r0 := (Blk.cell K2 0).trans (show (#[.int .i64 0, .int .i64 0, .int .i64 0] : Array Value)[0]? = some (.int .i64 0) from rfl)
  have r1 := (Blk.cell K2 1).trans (show (#[.int .i64 0, .int .i64 0, .int .i64 0] : Array Value)[1]? = some (.int .i64 0) from rfl)
  have r2 := (Blk.cell K2 2).trans (show (#[.int .i64 0, .int .i64 0, .int .i64 0] : Array Value)[2]? = some (.int .i64 0) from rfl)
  go_simp
set_option maxRecDepth 100000 in
set_option maxHeartbeats 4000000 in
theorem rLine_ok (ax ay bx b_y : Int) (a0 : -9223372036854775808 ≤ ax) (a1 : ax ≤ 9223372036854775807) (a2 : -9223372036854775808 ≤ ay) (a3 : ay ≤ 9223372036854775807) (c0 : -9223372036854775808 ≤ bx) (c1 : bx ≤ 9223372036854775807) (c2 : -9223372036854775808 ≤ b_y) (c3 : b_y ≤ 9223372036854775807) (h : lnF ax ay bx b_y = false) (hn : ¬ len (bx - ax) (b_y - ay) < 1000) (w : World) : Calls Tryd.prog 34 #[.agg #[.int .i64 ax, .int .i64 ay], .agg #[.int .i64 bx, .int .i64 b_y]] w fun r w' => r = .returned (.tuple #[.agg #[.int .i64 (rnd ((bx - ax) * 256) (len (bx - ax) (b_y - ay))), .int .i64 (rnd ((b_y - ay) * 256) (len (bx - ax) (b_y - ay))), .int .i64 (len (bx - ax) (b_y - ay))], .int .i64 0]) ∧ Below w.heap.size w w' := by
  have h12 : farB ax ay = false ∧ farB bx b_y = false := by unfold lnF at h; simpa using h
  obtain ⟨h1, h2⟩ := h12
  clear h
  have F1 := fun W => rAway_c ax ay a0 a1 a2 a3 W
  have F2 := fun W => rAway_c bx b_y c0 c1 c2 c3 W
  rw [h1] at F1
  rw [h2] at F2
  obtain ⟨⟨p0, p1⟩, ⟨p2, p3⟩⟩ := far_near h1
  obtain ⟨⟨p4, p5⟩, ⟨p6, p7⟩⟩ := far_near h2
  clear h1 h2 a0 a1 a2 a3 c0 c1 c2 c3
  have e1 : IntKind.i64.wrap (bx - ax) = bx - ax := i64id (by omega) (by omega)
  have e2 : IntKind.i64.wrap (b_y - ay) = b_y - ay := i64id (by omega) (by omega)
  have H := fun W => rHypot_c (bx - ax) (b_y - ay) (by omega) (by omega) (by omega) (by omega) W
  obtain ⟨_, l0, l1, _, _⟩ := len_tells (bx - ax) (b_y - ay) (by omega) (by omega) (by omega) (by omega)
  have M1 := fun W => YBig.md_in (bx - ax) 256 (len (bx - ax) (b_y - ay)) (by omega) (by omega) (by decide) (by decide) (by omega) (by omega) (rnd_ge (by omega) (by omega)) (rnd_le (by omega) (by omega)) W
  have M2 := fun W => YBig.md_in (b_y - ay) 256 (len (bx - ax) (b_y - ay)) (by omega) (by omega) (by decide) (by decide) (by omega) (by omega) (rnd_ge (by omega) (by omega)) (rnd_le (by omega) (by omega)) W
  generalize len (bx - ax) (b_y - ay) = l at *
  generalize rnd ((bx - ax) * 256) l = X at *
  generalize rnd ((b_y - ay) * 256) l = Y at *
  obtain ⟨w3, hw3, kA, kB, kL, b3⟩ := three w ax ay bx b_y
  have kA0 := (Blk.cell kA 0).trans (show _ = some (.int .i64 ax) from rfl)
  have kA1 := (Blk.cell kA 1).trans (show _ = some (.int .i64 ay) from rfl)
  go_enter Tryd.func34, Tryd.ntmps34
  go_upto_region 1 with fail
  rw [← hw3]
  clear hw3
  go_wp2_with fail
  refine (F1 _).mono ?_; rintro e w4 ⟨rfl, g4⟩
  replace kA := kA.keep g4
  replace kB := kB.keep g4
  replace kL := kL.keep g4
  have b4 := bb b3 g4
  clear b3 g4 kA0 kA1 F1
  have q0 := (Blk.cell kB 0).trans (show _ = some (.int .i64 bx) from rfl)
  have q1 := (Blk.cell kB 1).trans (show _ = some (.int .i64 b_y) from rfl)
  go_wp2_with fail
  refine (F2 _).mono ?_; rintro e w5 ⟨rfl, g5⟩
  replace kA := kA.keep g5
  replace kB := kB.keep g5
  replace kL := kL.keep g5
  have b5 := bb b4 g5
  clear b4 g5 q0 q1 F2
  have q0 := (Blk.cell kB 0).trans (show _ = some (.int .i64 bx) from rfl)
  have q1 := (Blk.cell kB 1).trans (show _ = some (.int .i64 b_y) from rfl)
  have q2 := (Blk.cell kA 0).trans (show _ = some (.int .i64 ax) from rfl)
  have q3 := (Blk.cell kA 1).trans (show _ = some (.int .i64 ay) from rfl)
  go_wp2_with fail
  go_quiet (fail)
  go_wp2_with fail
  refine (H _).mono ?_; rintro e w6 ⟨rfl, g6⟩
  have b6 := bb (below_drewN b5) g6
  replace kL := (kL.drewN _).keep g6
  clear H kA kB q0 q1 q2 q3 b5 g6
  go_wp2_with fail
  refine (M1 _).mono ?_; rintro e w7 ⟨rfl, g7⟩
  have b7 := bb b6 g7
  replace kL := kL.keep g7
  go_wp2_with fail
  refine (M2 _).mono ?_; rintro e w8 ⟨rfl, g8⟩
  have b8 := bb b7 g8
  replace kL := kL.keep g8
  clear M1 M2 g7 g8
  go_wp2_with (first | (refine stL kL rfl _ _ rfl rfl rfl rfl ?_))
  have K2 := setRow3 (cs := #[.int .i64 X, .int .i64 Y, .int .i64 l]) kL
  have bS := below_setRow (b := w.heap.size + 1 + 1) (cs := #[.int .i64 X, .int .i64 Y, .int .i64 l]) b8 (by omega)
  refine bodyPost_ret (v := .tuple #[.agg #[.int .i64 X, .int .i64 Y, .int .i64 l], .int .i64 0]) ?_ rfl ⟨rfl, bS⟩
  rw [results_cell_tmp rfl]
  have r0 := (Blk.cell K2 0).trans (show (#[.int .i64 X, .int .i64 Y, .int .i64 l] : Array Value)[0]? = some (.int .i64 X) from rfl)
  have r1 := (Blk.cell K2 1).trans (show (#[.int .i64 X, .int .i64 Y, .int .i64 l] : Array Value)[1]? = some (.int .i64 Y) from rfl)
  have r2 := (Blk.cell K2 2).trans (show (#[.int .i64 X, .int .i64 Y, .int .i64 l] : Array Value)[2]? = some (.int .i64 l) from rfl)
  go_simp
theorem Of_any (ax ay bx b_y : Int) (w : World) :
    Calls Tryd.prog 21 #[.agg #[.int .i64 ax, .int .i64 ay], .agg #[.int .i64 bx, .int .i64 b_y]] w fun r w' => ∃ v, r = .returned (.tuple #[.agg #[.int .i64 (lnX ax ay bx b_y), .int .i64 (lnY ax ay bx b_y), .int .i64 (lnR ax ay bx b_y)], v]) ∧ ErrIs op16 w' v (lnC ax ay bx b_y) ∧ Below w.heap.size w w' := by
  unfold lnX lnY lnR lnC
  cases h : lnF ax ay bx b_y with
  | true => exact Of_far ax ay bx b_y h w
  | false =>
    have h12 : farB ax ay = false ∧ farB bx b_y = false := by unfold lnF at h; simpa using h
    obtain ⟨n1, n2⟩ := far_near h12.1
    obtain ⟨n3, n4⟩ := far_near h12.2
    exact Of_at ax ay bx b_y _ _ n1 n2 n3 n4 rfl rfl w
theorem rLine_any (ax ay bx b_y : Int) (a0 : -9223372036854775808 ≤ ax) (a1 : ax ≤ 9223372036854775807) (a2 : -9223372036854775808 ≤ ay) (a3 : ay ≤ 9223372036854775807) (c0 : -9223372036854775808 ≤ bx) (c1 : bx ≤ 9223372036854775807) (c2 : -9223372036854775808 ≤ b_y) (c3 : b_y ≤ 9223372036854775807) (w : World) :
    Calls Tryd.prog 34 #[.agg #[.int .i64 ax, .int .i64 ay], .agg #[.int .i64 bx, .int .i64 b_y]] w fun r w' => r = .returned (.tuple #[.agg #[.int .i64 (lnX ax ay bx b_y), .int .i64 (lnY ax ay bx b_y), .int .i64 (lnR ax ay bx b_y)], .int .i64 (lnC ax ay bx b_y)]) ∧ Below w.heap.size w w' := by
  unfold lnX lnY lnR lnC
  cases h : lnF ax ay bx b_y with
  | true => exact rLine_far ax ay bx b_y a0 a1 a2 a3 c0 c1 c2 c3 h w
  | false =>
    unfold lineX lineY lineR lineC
    by_cases hn : len (bx - ax) (b_y - ay) < 1000
    · simp only [if_pos hn]
      exact rLine_near ax ay bx b_y a0 a1 a2 a3 c0 c1 c2 c3 h hn w
    · simp only [if_neg hn]
      exact rLine_ok ax ay bx b_y a0 a1 a2 a3 c0 c1 c2 c3 h hn w
end Go.Proofs.YtaiolioggjknfaaDoor.YLine
namespace Go.Proofs.YtaiolioggjknfaaDoor.YLine
open Go.RowKit Go.Extern.Stop Go.Stop Go.Extern Go.Proofs.YtaiolioggjknfaaDoor.QSn Go.Proofs.YtaiolioggjknfaaDoor.YBits Go.Proofs.YtaiolioggjknfaaDoor.YFx Go.Proofs.YtaiolioggjknfaaDoor.YErr Go.Proofs.YtaiolioggjknfaaDoorW.PrintWords Go.Proofs.YtaiolioggjknfaaDoorW.PrintLast
set_option linter.unusedVariables false
set_option linter.unusedSimpArgs false
/-- A list of numbers lies there. -/
def IntsAt (w : World) (A : Option Addr) (l : List Int) : Prop := 0 < l.length → ∃ g, A = some ⟨g, 0, none⟩ ∧ ∀ j (h : j < l.length), w.cell? ⟨g, j, none⟩ = some (.int .i64 l[j])
theorem IntsAt.keep {w w' : World} {A : Option Addr} {l : List Int} (h : IntsAt w A l) (b : Below w.heap.size w w') : IntsAt w' A l := fun hp => by
  obtain ⟨g, e, hc⟩ := h hp
  exact ⟨g, e, fun j hj => (b.cell (World.block_lt_of_cell? w ⟨g, j, none⟩ (hc j hj))).trans (hc j hj)⟩
theorem IntsAt.nil (w : World) (A : Option Addr) : IntsAt w A [] := fun h => absurd h (by simp)
theorem rowAt_cells {w : World} {g : Nat} : ∀ (l : List Int) (k : Nat), RowAt w g k l → ∀ j (h : j < l.length), w.cell? ⟨g, k + j, none⟩ = some (.int .i64 l[j])
  | [], _, _, j, h => absurd h (by simp)
  | x :: l, k, ⟨h0, hr⟩, 0, _ => by simpa using h0
  | x :: l, k, ⟨h0, hr⟩, j + 1, h => by
    have := rowAt_cells l (k + 1) hr j (by simpa using h)
    rw [show k + (j + 1) = k + 1 + j by omega]
    simpa using this
set_option maxRecDepth 100000 in
set_option maxHeartbeats 8000000 in
theorem Ints_c {w : World} {A A' : Option Addr} {c c' : Nat} {l : List Int} (R : IntsAt w A l) (R' : IntsAt w A' l) (hl : l.length ≤ 100) (hc : l.length ≤ c) (hc' : l.length ≤ c') :
    Calls Tryd.prog 36 #[.slice A l.length c, .slice A' l.length c'] w fun r w' => r = .returned (.bool true) ∧ ∃ k, w' = w.drewN k := by
  have HR := Lib.hid R
  have HR' := Lib.hid R'
  clear R R'
  go_enter Tryd.func36, Tryd.ntmps36
  go_wp2
  go_loopw [5] (fun i wr => ∃ j : Nat, j ≤ l.length ∧ i = .int .i64 j ∧ ∃ k, wr = w.drewN k) (fun i _ => l.length - (intOf i).toNat)
  case atStart => exact ⟨0, Nat.zero_le _, rfl, 0, rfl⟩
  case round =>
    obtain ⟨j, hj, rfl, k, rfl⟩ := hrel
    by_cases hlt : j < l.length
    · obtain ⟨g, rfl, hA⟩ := HR.out (by omega)
      obtain ⟨g', rfl, hA'⟩ := HR'.out (by omega)
      have e0 := hA j hlt
      have d0 := hA' j hlt
      have hlt' : (j : Int) < (l.length : Int) := by omega
      have hj0 : (0 : Int) ≤ (j : Int) := by omega
      clear hA hA'
      generalize l[j] = x at *
      go_wp2
      go_quiet (fail)
      go_wp2
      go_roundw
      case rel => exact ⟨j + 1, by omega, by go_num, _, rfl⟩
      case measure => simp [intOf]; omega
    · obtain rfl : j = l.length := by omega
      go_wp2
      go_ret
      exact ⟨rfl, k, rfl⟩
def rowBad (n at_ : Int) : Prop := n < 2 ∨ n > 8 ∨ at_ < 2 ∨ at_ > n - 2
instance (n at_ : Int) : Decidable (rowBad n at_) := by unfold rowBad; infer_instance
def rowC (n at_ a b : Int) : Int := if rowBad n at_ then 20 else if a = -9223372036854775808 ∨ b = -9223372036854775808 then 21 else 0
def rowV (at_ : Nat) (a b : Int) (j : Nat) : Int := if j = 0 then a else if j = 1 then b else if j = at_ then -a else if j = at_ + 1 then -b else 0
def rowL (n at_ : Nat) (a b : Int) : List Int := (List.range n).map (rowV at_ a b)
def rowOut (n at_ a b : Int) : List Int := if rowC n at_ a b = 0 then rowL n.toNat at_.toNat a b else []
theorem rowL_len (n at_ : Nat) (a b : Int) : (rowL n at_ a b).length = n := by simp [rowL]
theorem rowL_at (n at_ : Nat) (a b : Int) (j : Nat) (h : j < (rowL n at_ a b).length) : (rowL n at_ a b)[j] = rowV at_ a b j := by simp [rowL]
theorem bad_is (c : Int) (hc : c ≠ 0) (w : World) : Calls Tryd.prog 46 #[.int .i64 c] w fun e w' => ∃ v, e = .returned v ∧ ErrIs op16 w' v c ∧ Below w.heap.size w w' := by
  refine (bad_calls c hc w).mono ?_
  rintro e w' ⟨rfl, rfl⟩
  exact ⟨_, rfl, err_alloc w op16 c hc, (Below.refl _ _).alloc (Nat.le_refl _) _⟩
set_option maxRecDepth 100000 in
set_option maxHeartbeats 8000000 in
theorem Row_range (n at_ a b : Int) (n0 : -9223372036854775808 ≤ n) (n1 : n ≤ 9223372036854775807) (a0 : -9223372036854775808 ≤ at_) (a1 : at_ ≤ 9223372036854775807) (h : rowBad n at_) (w : World) : Calls Tryd.prog 23 #[.int .i64 n, .int .i64 at_, .agg #[.int .i64 a, .int .i64 b]] w fun r w' => ∃ v, r = .returned (.tuple #[.slice none 0 0, v]) ∧ ErrIs op16 w' v 20 ∧ Below w.heap.size w w' := by
  have B1 : Below w.heap.size w (w.alloc (.cells #[.int .i64 a, .int .i64 b] 39)) := (Below.refl _ _).alloc (Nat.le_refl _) _
  have BD := bad_is 20 (by decide)
  have hw : n < 2 ∨ (¬ n < 2 ∧ n > 8) ∨ (¬ n < 2 ∧ ¬ n > 8 ∧ at_ < 2) ∨ (¬ n < 2 ∧ ¬ n > 8 ∧ ¬ at_ < 2 ∧ at_ > n - 2) := by unfold rowBad at h; omega
  clear h
  rcases hw with h1 | ⟨h1, h2⟩ | ⟨h1, h2, h3⟩ | ⟨h1, h2, h3, h4⟩
  · have e1 : decide (n < 2) = true := by simpa using h1
    go_enter Tryd.func23, Tryd.ntmps23
    go_wp2_with fail
    refine (BD _).mono ?_; rintro e w1 ⟨v, rfl, hv, g⟩
    go_wp2_with fail
    go_ret2
    exact ⟨v, rfl, hv, bb B1 g⟩
  · have e1 : decide (n < 2) = false := by simp; omega
    have e2 : decide (8 < n) = true := by simp; omega
    go_enter Tryd.func23, Tryd.ntmps23
    go_wp2_with fail
    refine (BD _).mono ?_; rintro e w1 ⟨v, rfl, hv, g⟩
    go_wp2_with fail
    go_ret2
    exact ⟨v, rfl, hv, bb B1 g⟩
  · have e1 : decide (n < 2) = false := by simp; omega
    have e2 : decide (8 < n) = false := by simp; omega
    have e3 : decide (at_ < 2) = true := by simp; omega
    go_enter Tryd.func23, Tryd.ntmps23
    go_wp2_with fail
    refine (BD _).mono ?_; rintro e w1 ⟨v, rfl, hv, g⟩
    go_wp2_with fail
    go_ret2
    exact ⟨v, rfl, hv, bb B1 g⟩
  · have e1 : decide (n < 2) = false := by simp; omega
    have e2 : decide (8 < n) = false := by simp; omega
    have e3 : decide (at_ < 2) = false := by simp; omega
    have e5 : IntKind.i64.wrap (n - 2) = n - 2 := i64id (by omega) (by omega)
    have e4 : decide (n - 2 < at_) = true := by simp; omega
    go_enter Tryd.func23, Tryd.ntmps23
    go_wp2_with fail
    refine (BD _).mono ?_; rintro e w1 ⟨v, rfl, hv, g⟩
    go_wp2_with fail
    go_ret2
    exact ⟨v, rfl, hv, bb B1 g⟩
set_option maxRecDepth 100000 in
set_option maxHeartbeats 8000000 in
theorem rRow_range (n at_ a b : Int) (n0 : -9223372036854775808 ≤ n) (n1 : n ≤ 9223372036854775807) (a0 : -9223372036854775808 ≤ at_) (a1 : at_ ≤ 9223372036854775807) (h : rowBad n at_) (w : World) : Calls Tryd.prog 35 #[.int .i64 n, .int .i64 at_, .agg #[.int .i64 a, .int .i64 b]] w fun r w' => r = .returned (.tuple #[.slice none 0 0, .int .i64 20]) ∧ Below w.heap.size w w' := by
  have B1 : Below w.heap.size w (w.alloc (.cells #[.int .i64 a, .int .i64 b] 39)) := (Below.refl _ _).alloc (Nat.le_refl _) _
  have hw : n < 2 ∨ (¬ n < 2 ∧ n > 8) ∨ (¬ n < 2 ∧ ¬ n > 8 ∧ at_ < 2) ∨ (¬ n < 2 ∧ ¬ n > 8 ∧ ¬ at_ < 2 ∧ at_ > n - 2) := by unfold rowBad at h; omega
  clear h
  rcases hw with h1 | ⟨h1, h2⟩ | ⟨h1, h2, h3⟩ | ⟨h1, h2, h3, h4⟩
  · have e1 : decide (n < 2) = true := by simpa using h1
    go_enter Tryd.func35, Tryd.ntmps35
    go_wp2
    go_ret2
    exact ⟨rfl, B1⟩
  · have e1 : decide (n < 2) = false := by simp; omega
    have e2 : decide (8 < n) = true := by simp; omega
    go_enter Tryd.func35, Tryd.ntmps35
    go_wp2
    go_ret2
    exact ⟨rfl, B1⟩
  · have e1 : decide (n < 2) = false := by simp; omega
    have e2 : decide (8 < n) = false := by simp; omega
    have e3 : decide (at_ < 2) = true := by simp; omega
    go_enter Tryd.func35, Tryd.ntmps35
    go_wp2
    go_ret2
    exact ⟨rfl, B1⟩
  · have e1 : decide (n < 2) = false := by simp; omega
    have e2 : decide (8 < n) = false := by simp; omega
    have e3 : decide (at_ < 2) = false := by simp; omega
    have e5 : IntKind.i64.wrap (n - 2) = n - 2 := i64id (by omega) (by omega)
    have e4 : decide (n - 2 < at_) = true := by simp; omega
    go_enter Tryd.func35, Tryd.ntmps35
    go_wp2
    go_ret2
    exact ⟨rfl, B1⟩
theorem makeR {n : Nat} (h : n ≤ 8) (W : World) : (Instr.makeSlice 46 (.int .i64 n) (.int .i64 n)).run Tryd.prog W = .ok (.slice (some ⟨W.heap.size, 0, none⟩) n n) (W.alloc (.cells ((List.replicate n (0 : Int)).map (Value.int .i64)).toArray 2)) := by
  rcases (show n = 0 ∨ n = 1 ∨ n = 2 ∨ n = 3 ∨ n = 4 ∨ n = 5 ∨ n = 6 ∨ n = 7 ∨ n = 8 by omega) with rfl | rfl | rfl | rfl | rfl | rfl | rfl | rfl | rfl <;> kernel_rfl
theorem zeros_at {w : World} {g n j : Nat} (k : Blk w g ((List.replicate n (0 : Int)).map (Value.int .i64)).toArray 2) (h : j < n) : w.cell? ⟨g, j, none⟩ = some (.int .i64 0) := by
  rw [k.cell j]
  simp [h]
set_option maxRecDepth 100000 in
set_option maxHeartbeats 8000000 in
theorem rRow_min0 {n at_ : Nat} (a b : Int) (h0 : 2 ≤ at_) (h1 : at_ + 2 ≤ n) (h2 : n ≤ 8) (ha : a = -9223372036854775808) (w : World) : Calls Tryd.prog 35 #[.int .i64 n, .int .i64 at_, .agg #[.int .i64 a, .int .i64 b]] w fun r w' => r = .returned (.tuple #[.slice none 0 0, .int .i64 21]) ∧ Below w.heap.size w w' := by
  have B1 : Below w.heap.size w (w.alloc (.cells #[.int .i64 a, .int .i64 b] 39)) := (Below.refl _ _).alloc (Nat.le_refl _) _
  have e1 : decide ((n : Int) < 2) = false := by simp; omega
  have e2 : decide (8 < (n : Int)) = false := by simp; omega
  have e3 : decide ((at_ : Int) < 2) = false := by simp; omega
  have e5 : IntKind.i64.wrap ((n : Int) - 2) = (n : Int) - 2 := i64id (by omega) (by omega)
  have e4 : decide ((n : Int) - 2 < (at_ : Int)) = false := by simp; omega
  have e6 : (a == -9223372036854775808) = true := by simpa using ha
  clear ha
  go_enter Tryd.func35, Tryd.ntmps35
  go_wp2
  go_ret2
  exact ⟨rfl, B1⟩
set_option maxRecDepth 100000 in
set_option maxHeartbeats 8000000 in
theorem rRow_min1 {n at_ : Nat} (a b : Int) (h0 : 2 ≤ at_) (h1 : at_ + 2 ≤ n) (h2 : n ≤ 8) (ha : ¬ a = -9223372036854775808 ∧ b = -9223372036854775808) (w : World) : Calls Tryd.prog 35 #[.int .i64 n, .int .i64 at_, .agg #[.int .i64 a, .int .i64 b]] w fun r w' => r = .returned (.tuple #[.slice none 0 0, .int .i64 21]) ∧ Below w.heap.size w w' := by
  have B1 : Below w.heap.size w (w.alloc (.cells #[.int .i64 a, .int .i64 b] 39)) := (Below.refl _ _).alloc (Nat.le_refl _) _
  have e1 : decide ((n : Int) < 2) = false := by simp; omega
  have e2 : decide (8 < (n : Int)) = false := by simp; omega
  have e3 : decide ((at_ : Int) < 2) = false := by simp; omega
  have e5 : IntKind.i64.wrap ((n : Int) - 2) = (n : Int) - 2 := i64id (by omega) (by omega)
  have e4 : decide ((n : Int) - 2 < (at_ : Int)) = false := by simp; omega
  have e6 : (a == -9223372036854775808) = false := by simpa using ha.1
  have e7 : (b == -9223372036854775808) = true := by simpa using ha.2
  clear ha
  go_enter Tryd.func35, Tryd.ntmps35
  go_wp2
  go_ret2
  exact ⟨rfl, B1⟩
set_option maxRecDepth 100000 in
set_option maxHeartbeats 8000000 in
theorem rRow_ok {n at_ : Nat} (a b : Int) (h0 : 2 ≤ at_) (h1 : at_ + 2 ≤ n) (h2 : n ≤ 8) (a0 : -9223372036854775807 ≤ a) (a1 : a ≤ 9223372036854775807) (b0 : -9223372036854775807 ≤ b) (b1 : b ≤ 9223372036854775807) (w : World) :
    Calls Tryd.prog 35 #[.int .i64 n, .int .i64 at_, .agg #[.int .i64 a, .int .i64 b]] w fun r w' => ∃ g, r = .returned (.tuple #[.slice (some ⟨g, 0, none⟩) n n, .int .i64 0]) ∧ IntsAt w' (some ⟨g, 0, none⟩) (rowL n at_ a b) ∧ Below w.heap.size w w' := by
  have B1 : Below w.heap.size w (w.alloc (.cells #[.int .i64 a, .int .i64 b] 39)) := (Below.refl _ _).alloc (Nat.le_refl _) _
  have kA := Blk.new w #[.int .i64 a, .int .i64 b] 39
  have e1 : decide ((n : Int) < 2) = false := by simp; omega
  have e2 : decide (8 < (n : Int)) = false := by simp; omega
  have e3 : decide ((at_ : Int) < 2) = false := by simp; omega
  have e5 : IntKind.i64.wrap ((n : Int) - 2) = (n : Int) - 2 := i64id (by omega) (by omega)
  have e4 : decide ((n : Int) - 2 < (at_ : Int)) = false := by simp; omega
  have e6 : (a == -9223372036854775808) = false := by simp; omega
  have e7 : (b == -9223372036854775808) = false := by simp; omega
  have e8 : IntKind.i64.wrap (-a) = -a := i64id (by omega) (by omega)
  have e9 : IntKind.i64.wrap (-b) = -b := i64id (by omega) (by omega)
  have e10 : IntKind.i64.wrap ((at_ : Int) + 1) = (at_ : Int) + 1 := i64id (by omega) (by omega)
  have mk := makeR (n := n) h2
  have kZ := Blk.new (w.alloc (.cells #[.int .i64 a, .int .i64 b] 39)) ((List.replicate n (0 : Int)).map (Value.int .i64)).toArray 2
  have B2 := B1.alloc B1.size (.cells ((List.replicate n (0 : Int)).map (Value.int .i64)).toArray 2)
  have kA2 := kA.alloc (.cells ((List.replicate n (0 : Int)).map (Value.int .i64)).toArray 2)
  go_enter Tryd.func35, Tryd.ntmps35
  go_upto_region 6 with fail
  generalize hW2 : (w.alloc (.cells #[.int .i64 a, .int .i64 b] 39)).alloc (.cells ((List.replicate n (0 : Int)).map (Value.int .i64)).toArray 2) = w2 at *
  have hg : (w.alloc (.cells #[.int .i64 a, .int .i64 b] 39)).heap.size = w.heap.size + 1 := by simp
  rw [hg] at *
  have hgs : w.heap.size ≤ w.heap.size + 1 := by omega
  clear hW2 mk B1 kA hg e1 e2 e3 e4 e5 e6 e7
  have q0 := (Blk.cell kA2 0).trans (show _ = some (.int .i64 a) from rfl)
  have q1 := (Blk.cell kA2 1).trans (show _ = some (.int .i64 b) from rfl)
  have z0 := zeros_at kZ (show 0 < n by omega)
  have z1 := zeros_at kZ (show 1 < n by omega)
  have za := zeros_at kZ (show at_ < n by omega)
  have zb := zeros_at kZ (show at_ + 1 < n by omega)
  have f0 := Blk.free kZ 0
  have f1 := Blk.free kZ 1
  have fa := Blk.free kZ at_
  have fb := Blk.free kZ (at_ + 1)
  have i0 : (0 : Int) < (n : Int) := by omega
  have i1 : (1 : Int) < (n : Int) := by omega
  have i2 : (0 : Int) ≤ (at_ : Int) := by omega
  have i3 : (at_ : Int) < (n : Int) := by omega
  have i4 : (0 : Int) ≤ (at_ : Int) + 1 := by omega
  have i5 : (at_ : Int) + 1 < (n : Int) := by omega
  have i6 : ((at_ : Int) + 1).toNat = at_ + 1 := by omega
  have j0 : 0 < n := by omega
  have j1 : 1 < n := by omega
  have j2 : at_ < n := by omega
  have j3 : at_ + 1 < n := by omega
  have d1 : ¬ at_ = 0 := by omega
  have d2 : ¬ at_ = 1 := by omega
  have d3 : ¬ 0 = at_ := by omega
  have d4 : ¬ 1 = at_ := by omega
  have d5 : ¬ at_ + 1 = 0 := by omega
  have d6 : ¬ at_ + 1 = 1 := by omega
  have d7 : ¬ at_ + 1 = at_ := by omega
  have d8 : ¬ at_ = at_ + 1 := by omega
  go_region_held3 (fun w' => w'.cell? ⟨w.heap.size, 0, none⟩ = some (.int .i64 a) ∧ w'.cell? ⟨w.heap.size, 1, none⟩ = some (.int .i64 b))
    (go_keep)
    (fail)
  go_wp2_with fail
  go_ret2
  refine ⟨w.heap.size + 1, rfl, ?_, ?_⟩
  · intro _
    refine ⟨w.heap.size + 1, rfl, fun j hj => ?_⟩
    have K4 := Blk.new (w.alloc (.cells #[.int .i64 a, .int .i64 b] 39)) (((((Array.replicate n (Value.int IntKind.i64 0)).setIfInBounds 0 (.int .i64 a)).setIfInBounds 1 (.int .i64 b)).setIfInBounds at_ (.int .i64 (-a))).setIfInBounds (at_ + 1) (.int .i64 (-b))) 2
    rw [show (w.alloc (.cells #[.int .i64 a, .int .i64 b] 39)).heap.size = w.heap.size + 1 by simp] at K4
    have hjn : j < n := by rw [rowL_len] at hj; exact hj
    rw [rowL_at]
    refine ((Blk.drew K4).cell j).trans ?_
    unfold rowV
    simp only [Array.getElem?_setIfInBounds, Array.size_setIfInBounds, Array.size_replicate, Array.getElem?_replicate]
    repeat' split
    all_goals first | rfl | omega
  · exact (((Below.refl _ _).alloc (Nat.le_refl _) _).alloc (by simp) _).drew
set_option maxRecDepth 100000 in
set_option maxHeartbeats 8000000 in
theorem Row_min0 {n at_ : Nat} (a b : Int) (h0 : 2 ≤ at_) (h1 : at_ + 2 ≤ n) (h2 : n ≤ 8) (ha : a = -9223372036854775808) (a0 : -9223372036854775808 ≤ a) (a1 : a ≤ 9223372036854775807) (w : World) : Calls Tryd.prog 23 #[.int .i64 n, .int .i64 at_, .agg #[.int .i64 a, .int .i64 b]] w fun r w' => ∃ v, r = .returned (.tuple #[.slice none 0 0, v]) ∧ ErrIs op16 w' v 21 ∧ Below w.heap.size w w' := by
  have BD := bad_is 21 (by decide)
  have q0 := part0
  have q1 := part1
  have e1 : decide ((n : Int) < 2) = false := by simp; omega
  have e2 : decide (8 < (n : Int)) = false := by simp; omega
  have e3 : decide ((at_ : Int) < 2) = false := by simp; omega
  have e5 : IntKind.i64.wrap ((n : Int) - 2) = (n : Int) - 2 := i64id (by omega) (by omega)
  have e4 : decide ((n : Int) - 2 < (at_ : Int)) = false := by simp; omega
  have e6 : (a == -9223372036854775808) = true := by simpa using ha
  have mk := makeR (n := n) h2
  go_enter Tryd.func23, Tryd.ntmps23
  go_wp2_with fail
  clear mk e1 e2 e3 e4 e5
  refine wp_loop_rounds 1 ?_
  rw [rounds_succ]
  go_wp2_with fail
  refine (BD _).mono ?_; rintro e w1 ⟨v, rfl, hv, g⟩
  go_wp2_with fail
  go_ret2
  refine ⟨v, rfl, hv, bb ?_ g⟩
  repeat (first | exact Below.refl _ _ | refine Below.setCell ?_ (by simp) _ | refine Below.alloc ?_ (by simp) _)
set_option maxRecDepth 100000 in
set_option maxHeartbeats 8000000 in
theorem Row_min1 {n at_ : Nat} (a b : Int) (h0 : 2 ≤ at_) (h1 : at_ + 2 ≤ n) (h2 : n ≤ 8) (ha : ¬ a = -9223372036854775808 ∧ b = -9223372036854775808) (a0 : -9223372036854775808 ≤ a) (a1 : a ≤ 9223372036854775807) (w : World) : Calls Tryd.prog 23 #[.int .i64 n, .int .i64 at_, .agg #[.int .i64 a, .int .i64 b]] w fun r w' => ∃ v, r = .returned (.tuple #[.slice none 0 0, v]) ∧ ErrIs op16 w' v 21 ∧ Below w.heap.size w w' := by
  have BD := bad_is 21 (by decide)
  have q0 := part0
  have q1 := part1
  have e1 : decide ((n : Int) < 2) = false := by simp; omega
  have e2 : decide (8 < (n : Int)) = false := by simp; omega
  have e3 : decide ((at_ : Int) < 2) = false := by simp; omega
  have e5 : IntKind.i64.wrap ((n : Int) - 2) = (n : Int) - 2 := i64id (by omega) (by omega)
  have e4 : decide ((n : Int) - 2 < (at_ : Int)) = false := by simp; omega
  have e6 : (a == -9223372036854775808) = false := by simpa using ha.1
  have e7 : (b == -9223372036854775808) = true := by simpa using ha.2
  have a2 : -9223372036854775807 ≤ a := by have := ha.1; omega
  have e8 : IntKind.i64.wrap (-a) = -a := i64id (by omega) (by omega)
  have i2 : (0 : Int) ≤ (at_ : Int) := by omega
  have i3 : (at_ : Int) < (n : Int) := by omega
  have i0 : (0 : Int) < (n : Int) := by omega
  have j0 : 0 < n := by omega
  have j2 : at_ < n := by omega
  have d1 : ¬ at_ = 0 := by omega
  have d3 : ¬ 0 = at_ := by omega
  clear ha
  have mk := makeR (n := n) h2
  go_enter Tryd.func23, Tryd.ntmps23
  go_wp2_with fail
  clear mk e1 e2 e3 e4 e5
  refine wp_loop_rounds 2 ?_
  rw [rounds_succ]
  go_wp2_with fail
  rw [rounds_succ]
  go_wp2_with fail
  refine (BD _).mono ?_; rintro e w1 ⟨v, rfl, hv, g⟩
  go_wp2_with fail
  go_ret2
  refine ⟨v, rfl, hv, bb ?_ g⟩
  repeat (first | exact Below.refl _ _ | refine Below.setCell ?_ (by simp) _ | refine Below.alloc ?_ (by simp) _)
theorem nats {n at_ : Int} (h : ¬ rowBad n at_) : ∃ k j : Nat, n = k ∧ at_ = j ∧ 2 ≤ j ∧ j + 2 ≤ k ∧ k ≤ 8 := by
  unfold rowBad at h
  exact ⟨n.toNat, at_.toNat, by omega, by omega, by omega, by omega, by omega⟩
theorem rRow_any (n at_ a b : Int) (n0 : -9223372036854775808 ≤ n) (n1 : n ≤ 9223372036854775807) (t0 : -9223372036854775808 ≤ at_) (t1 : at_ ≤ 9223372036854775807) (a0 : -9223372036854775808 ≤ a) (a1 : a ≤ 9223372036854775807) (b0 : -9223372036854775808 ≤ b) (b1 : b ≤ 9223372036854775807) (w : World) :
    Calls Tryd.prog 35 #[.int .i64 n, .int .i64 at_, .agg #[.int .i64 a, .int .i64 b]] w fun r w' => ∃ A c, r = .returned (.tuple #[.slice A (rowOut n at_ a b).length c, .int .i64 (rowC n at_ a b)]) ∧ (rowOut n at_ a b).length ≤ c ∧ IntsAt w' A (rowOut n at_ a b) ∧ Below w.heap.size w w' := by
  unfold rowOut rowC
  by_cases h : rowBad n at_
  · simp only [if_pos h]
    refine (rRow_range n at_ a b n0 n1 t0 t1 h w).mono ?_
    rintro r w' ⟨rfl, g⟩
    exact ⟨none, 0, rfl, Nat.le_refl _, IntsAt.nil _ _, g⟩
  · simp only [if_neg h]
    obtain ⟨k, j, rfl, rfl, h0, h1, h2⟩ := nats h
    by_cases hm : a = -9223372036854775808 ∨ b = -9223372036854775808
    · simp only [if_pos hm]
      have : Calls Tryd.prog 35 #[.int .i64 k, .int .i64 j, .agg #[.int .i64 a, .int .i64 b]] w fun r w' => r = .returned (.tuple #[.slice none 0 0, .int .i64 21]) ∧ Below w.heap.size w w' := by
        by_cases ha : a = -9223372036854775808
        · exact rRow_min0 a b h0 h1 h2 ha w
        · exact rRow_min1 a b h0 h1 h2 ⟨ha, by omega⟩ w
      refine this.mono ?_
      rintro r w' ⟨rfl, g⟩
      exact ⟨none, 0, rfl, Nat.le_refl _, IntsAt.nil _ _, g⟩
    · simp only [if_neg hm, if_true, Int.toNat_natCast]
      refine (rRow_ok a b h0 h1 h2 (by omega) a1 (by omega) b1 w).mono ?_
      rintro r w' ⟨g, rfl, hI, b'⟩
      exact ⟨_, k, by rw [rowL_len], by rw [rowL_len]; exact Nat.le_refl _, hI, b'⟩
set_option maxRecDepth 100000 in
set_option maxHeartbeats 8000000 in
theorem Row_ok {n at_ : Nat} (a b : Int) (h0 : 2 ≤ at_) (h1 : at_ + 2 ≤ n) (h2 : n ≤ 8) (a0 : -9223372036854775807 ≤ a) (a1 : a ≤ 9223372036854775807) (b0 : -9223372036854775807 ≤ b) (b1 : b ≤ 9223372036854775807) (w : World) : Calls Tryd.prog 23 #[.int .i64 n, .int .i64 at_, .agg #[.int .i64 a, .int .i64 b]] w fun r w' => ∃ g, r = .returned (.tuple #[.slice (some ⟨g, 0, none⟩) n n, .nilIface]) ∧ IntsAt w' (some ⟨g, 0, none⟩) (rowL n at_ a b) ∧ Below w.heap.size w w' := by
  rcases (show n = 4 ∨ n = 5 ∨ n = 6 ∨ n = 7 ∨ n = 8 by omega) with rfl | rfl | rfl | rfl | rfl
  · rcases (show at_ = 2 by omega) with rfl
    · refine (Row_4_2 a b a0 a1 b0 b1 w).mono ?_
      rintro r w' ⟨g, rfl, hb, hR⟩
      refine ⟨g, rfl, fun _ => ⟨g, rfl, fun j hj => ?_⟩, hb⟩
      have := rowAt_cells _ 0 hR j hj
      rw [Nat.zero_add] at this
      exact this
  · rcases (show at_ = 2 ∨ at_ = 3 by omega) with rfl | rfl
    · refine (Row_5_2 a b a0 a1 b0 b1 w).mono ?_
      rintro r w' ⟨g, rfl, hb, hR⟩
      refine ⟨g, rfl, fun _ => ⟨g, rfl, fun j hj => ?_⟩, hb⟩
      have := rowAt_cells _ 0 hR j hj
      rw [Nat.zero_add] at this
      exact this
    · refine (Row_5_3 a b a0 a1 b0 b1 w).mono ?_
      rintro r w' ⟨g, rfl, hb, hR⟩
      refine ⟨g, rfl, fun _ => ⟨g, rfl, fun j hj => ?_⟩, hb⟩
      have := rowAt_cells _ 0 hR j hj
      rw [Nat.zero_add] at this
      exact this
  · rcases (show at_ = 2 ∨ at_ = 3 ∨ at_ = 4 by omega) with rfl | rfl | rfl
    · refine (Row_6_2 a b a0 a1 b0 b1 w).mono ?_
      rintro r w' ⟨g, rfl, hb, hR⟩
      refine ⟨g, rfl, fun _ => ⟨g, rfl, fun j hj => ?_⟩, hb⟩
      have := rowAt_cells _ 0 hR j hj
      rw [Nat.zero_add] at this
      exact this
    · refine (Row_6_3 a b a0 a1 b0 b1 w).mono ?_
      rintro r w' ⟨g, rfl, hb, hR⟩
      refine ⟨g, rfl, fun _ => ⟨g, rfl, fun j hj => ?_⟩, hb⟩
      have := rowAt_cells _ 0 hR j hj
      rw [Nat.zero_add] at this
      exact this
    · refine (Row_6_4 a b a0 a1 b0 b1 w).mono ?_
      rintro r w' ⟨g, rfl, hb, hR⟩
      refine ⟨g, rfl, fun _ => ⟨g, rfl, fun j hj => ?_⟩, hb⟩
      have := rowAt_cells _ 0 hR j hj
      rw [Nat.zero_add] at this
      exact this
  · rcases (show at_ = 2 ∨ at_ = 3 ∨ at_ = 4 ∨ at_ = 5 by omega) with rfl | rfl | rfl | rfl
    · refine (Row_7_2 a b a0 a1 b0 b1 w).mono ?_
      rintro r w' ⟨g, rfl, hb, hR⟩
      refine ⟨g, rfl, fun _ => ⟨g, rfl, fun j hj => ?_⟩, hb⟩
      have := rowAt_cells _ 0 hR j hj
      rw [Nat.zero_add] at this
      exact this
    · refine (Row_7_3 a b a0 a1 b0 b1 w).mono ?_
      rintro r w' ⟨g, rfl, hb, hR⟩
      refine ⟨g, rfl, fun _ => ⟨g, rfl, fun j hj => ?_⟩, hb⟩
      have := rowAt_cells _ 0 hR j hj
      rw [Nat.zero_add] at this
      exact this
    · refine (Row_7_4 a b a0 a1 b0 b1 w).mono ?_
      rintro r w' ⟨g, rfl, hb, hR⟩
      refine ⟨g, rfl, fun _ => ⟨g, rfl, fun j hj => ?_⟩, hb⟩
      have := rowAt_cells _ 0 hR j hj
      rw [Nat.zero_add] at this
      exact this
    · refine (Row_7_5 a b a0 a1 b0 b1 w).mono ?_
      rintro r w' ⟨g, rfl, hb, hR⟩
      refine ⟨g, rfl, fun _ => ⟨g, rfl, fun j hj => ?_⟩, hb⟩
      have := rowAt_cells _ 0 hR j hj
      rw [Nat.zero_add] at this
      exact this
  · rcases (show at_ = 2 ∨ at_ = 3 ∨ at_ = 4 ∨ at_ = 5 ∨ at_ = 6 by omega) with rfl | rfl | rfl | rfl | rfl
    · refine (Row_8_2 a b a0 a1 b0 b1 w).mono ?_
      rintro r w' ⟨g, rfl, hb, hR⟩
      refine ⟨g, rfl, fun _ => ⟨g, rfl, fun j hj => ?_⟩, hb⟩
      have := rowAt_cells _ 0 hR j hj
      rw [Nat.zero_add] at this
      exact this
    · refine (Row_8_3 a b a0 a1 b0 b1 w).mono ?_
      rintro r w' ⟨g, rfl, hb, hR⟩
      refine ⟨g, rfl, fun _ => ⟨g, rfl, fun j hj => ?_⟩, hb⟩
      have := rowAt_cells _ 0 hR j hj
      rw [Nat.zero_add] at this
      exact this
    · refine (Row_8_4 a b a0 a1 b0 b1 w).mono ?_
      rintro r w' ⟨g, rfl, hb, hR⟩
      refine ⟨g, rfl, fun _ => ⟨g, rfl, fun j hj => ?_⟩, hb⟩
      have := rowAt_cells _ 0 hR j hj
      rw [Nat.zero_add] at this
      exact this
    · refine (Row_8_5 a b a0 a1 b0 b1 w).mono ?_
      rintro r w' ⟨g, rfl, hb, hR⟩
      refine ⟨g, rfl, fun _ => ⟨g, rfl, fun j hj => ?_⟩, hb⟩
      have := rowAt_cells _ 0 hR j hj
      rw [Nat.zero_add] at this
      exact this
    · refine (Row_8_6 a b a0 a1 b0 b1 w).mono ?_
      rintro r w' ⟨g, rfl, hb, hR⟩
      refine ⟨g, rfl, fun _ => ⟨g, rfl, fun j hj => ?_⟩, hb⟩
      have := rowAt_cells _ 0 hR j hj
      rw [Nat.zero_add] at this
      exact this
theorem Row_any (n at_ a b : Int) (n0 : -9223372036854775808 ≤ n) (n1 : n ≤ 9223372036854775807) (t0 : -9223372036854775808 ≤ at_) (t1 : at_ ≤ 9223372036854775807) (a0 : -9223372036854775808 ≤ a) (a1 : a ≤ 9223372036854775807) (b0 : -9223372036854775808 ≤ b) (b1 : b ≤ 9223372036854775807) (w : World) :
    Calls Tryd.prog 23 #[.int .i64 n, .int .i64 at_, .agg #[.int .i64 a, .int .i64 b]] w fun r w' => ∃ A c v, r = .returned (.tuple #[.slice A (rowOut n at_ a b).length c, v]) ∧ (rowOut n at_ a b).length ≤ c ∧ IntsAt w' A (rowOut n at_ a b) ∧ ErrIs op16 w' v (rowC n at_ a b) ∧ Below w.heap.size w w' := by
  unfold rowOut rowC
  by_cases h : rowBad n at_
  · simp only [if_pos h]
    refine (Row_range n at_ a b n0 n1 t0 t1 h w).mono ?_
    rintro r w' ⟨v, rfl, hv, g⟩
    exact ⟨none, 0, v, rfl, Nat.le_refl _, IntsAt.nil _ _, hv, g⟩
  · simp only [if_neg h]
    obtain ⟨k, j, rfl, rfl, h0, h1, h2⟩ := nats h
    by_cases hm : a = -9223372036854775808 ∨ b = -9223372036854775808
    · simp only [if_pos hm]
      have : Calls Tryd.prog 23 #[.int .i64 k, .int .i64 j, .agg #[.int .i64 a, .int .i64 b]] w fun r w' => ∃ v, r = .returned (.tuple #[.slice none 0 0, v]) ∧ ErrIs op16 w' v 21 ∧ Below w.heap.size w w' := by
        by_cases ha : a = -9223372036854775808
        · exact Row_min0 a b h0 h1 h2 ha a0 a1 w
        · exact Row_min1 a b h0 h1 h2 ⟨ha, by omega⟩ a0 a1 w
      refine this.mono ?_
      rintro r w' ⟨v, rfl, hv, g⟩
      exact ⟨none, 0, v, rfl, Nat.le_refl _, IntsAt.nil _ _, hv, g⟩
    · simp only [if_neg hm, if_true, Int.toNat_natCast]
      refine (Row_ok a b h0 h1 h2 (by omega) a1 (by omega) b1 w).mono ?_
      rintro r w' ⟨g, rfl, hI, b'⟩
      exact ⟨_, k, _, by rw [rowL_len], by rw [rowL_len]; exact Nat.le_refl _, hI, ErrIs.nil _ _, b'⟩
end Go.Proofs.YtaiolioggjknfaaDoor.YLine
