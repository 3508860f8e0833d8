/- Lean functions, contracts and lemmas that this claim needs. No condition. -/
import Derived.Test.YtaiolioggjknfaaDoorLYRow
namespace Go.Proofs.YtaiolioggjknfaaDoor.YLine
open Go.RowKit Go.Extern.Stop Go.Stop Go.Extern Go.Proofs.YtaiolioggjknfaaDoor.QSn Go.Proofs.YtaiolioggjknfaaDoor.YBits Go.Proofs.YtaiolioggjknfaaDoor.YFx Go.Proofs.YtaiolioggjknfaaDoor.YErr Go.Proofs.YtaiolioggjknfaaDoorW.PrintWords Go.Proofs.YtaiolioggjknfaaDoorW.PrintLast
set_option linter.unusedVariables false
set_option linter.unusedSimpArgs false
theorem fresh3 {W w' : World} {x y z : Int} {t : TypeId} (hb : Below (W.alloc (.cells #[.int .i64 x, .int .i64 y, .int .i64 z] t)).heap.size (W.alloc (.cells #[.int .i64 x, .int .i64 y, .int .i64 z] t)) w') :
    w'.cell? ⟨W.heap.size, 0, none⟩ = some (.int .i64 x) ∧ w'.cell? ⟨W.heap.size, 1, none⟩ = some (.int .i64 y) ∧ w'.cell? ⟨W.heap.size, 2, none⟩ = some (.int .i64 z) :=
  ⟨(hb.cell (p := ⟨W.heap.size, 0, none⟩) (by show W.heap.size < _; simp)).trans (by go_simp), (hb.cell (p := ⟨W.heap.size, 1, none⟩) (by show W.heap.size < _; simp)).trans (by go_simp), (hb.cell (p := ⟨W.heap.size, 2, none⟩) (by show W.heap.size < _; simp)).trans (by go_simp)⟩
theorem keepB {W w' : World} {p : Addr} {v : Value} (hb : Below W.heap.size W w') (h : W.cell? p = some v) : w'.cell? p = some v := (hb.cell (lt_of_cell h)).trans h
theorem ints_calls (g g' : Nat) (x0 x1 x2 x3 : Int) (w : World) (h0 : w.cell? ⟨g, 0, none⟩ = some (.int .i64 x0)) (h1 : w.cell? ⟨g, 1, none⟩ = some (.int .i64 x1)) (h2 : w.cell? ⟨g, 2, none⟩ = some (.int .i64 x2)) (h3 : w.cell? ⟨g, 3, none⟩ = some (.int .i64 x3))
    (k0 : w.cell? ⟨g', 0, none⟩ = some (.int .i64 x0)) (k1 : w.cell? ⟨g', 1, none⟩ = some (.int .i64 x1)) (k2 : w.cell? ⟨g', 2, none⟩ = some (.int .i64 x2)) (k3 : w.cell? ⟨g', 3, none⟩ = some (.int .i64 x3)) :
    Calls Tryd.prog 36 #[.slice (some ⟨g, 0, none⟩) 4 4, .slice (some ⟨g', 0, none⟩) 4 4] w fun e w' => e = .returned (.bool true) ∧ Below w.heap.size w w' := by
  have m0 : ∀ n, (w.drewN n).cell? ⟨g, 0, none⟩ = some (.int .i64 x0) := fun n => h0
  go_enter Tryd.func36, Tryd.ntmps36
  go_wp2
  refine wp_loop_rounds 5 ?_
  rw [rounds_succ]
  go_wp2
  go_quiet (fail)
  go_wp2
  rw [rounds_succ]
  go_wp2
  go_quiet (fail)
  go_wp2
  rw [rounds_succ]
  go_wp2
  go_quiet (fail)
  go_wp2
  rw [rounds_succ]
  go_wp2
  go_quiet (fail)
  go_wp2
  rw [rounds_succ]
  go_wp2
  go_ret
  exact ⟨rfl, below_drewN (Below.refl _ _)⟩
theorem eq2 (x y : Int) (W : World) : (Op.equalIn 9999 39 (.agg #[.int .i64 x, .int .i64 y]) (.agg #[.int .i64 x, .int .i64 y])).run Tryd.prog W = .ok true W := by
  have h2 : ∀ v : Int, (Op.equalIn 9998 2 (.int .i64 v) (.int .i64 v)).run Tryd.prog W = .ok true W := fun v => (run_equalIn_int (P := Tryd.prog) W 9997 2 .i64 .i64 v v Tryd.underlying2).trans (by simp)
  have hi : (isAgg 2).run Tryd.prog W = .ok false W := by kernel_rfl
  rw [Op.equalIn]
  simp [run_underlying Tryd.underlying39, part, List.range'_succ, Sem.run_bind, hi, h2, Result.andThen]
def lineC (dx dy : Int) : Int := if len dx dy < 1000 then 33 else 0
def lineX (dx dy : Int) : Int := if len dx dy < 1000 then 0 else rnd (dx * 256) (len dx dy)
def lineY (dx dy : Int) : Int := if len dx dy < 1000 then 0 else rnd (dy * 256) (len dx dy)
def lineR (dx dy : Int) : Int := if len dx dy < 1000 then 0 else len dx dy
theorem Of_at (ax ay bx b_y dx dy : Int) (h1 : Near ax) (h2 : Near ay) (h3 : Near bx) (h4 : Near b_y) (ex : bx - ax = dx) (ey : b_y - ay = dy) (w : World) :
    Calls Tryd.prog 21 #[.agg #[.int .i64 ax, .int .i64 ay], .agg #[.int .i64 bx, .int .i64 b_y]] w fun e w' =>
      ∃ v, e = .returned (.tuple #[.agg #[.int .i64 (lineX dx dy), .int .i64 (lineY dx dy), .int .i64 (lineR dx dy)], v]) ∧ ErrIs op16 w' v (lineC dx dy) ∧ Below w.heap.size w w' := by
  subst ex; subst ey
  unfold lineC lineX lineY lineR
  by_cases hn : len (bx - ax) (b_y - ay) < 1000
  · simp only [if_pos hn]
    exact Of_near ax ay bx b_y h1 h2 h3 h4 hn w
  · simp only [if_neg hn]
    refine (Of_ok ax ay bx b_y h1 h2 h3 h4 hn w).mono ?_
    rintro e w' ⟨rfl, hb⟩
    exact ⟨_, rfl, ErrIs.nil _ _, hb⟩
set_option maxRecDepth 100000 in
set_option maxHeartbeats 2000000 in
theorem known_calls (w : World) (hg : Laid w) : Calls Tryd.prog 20 #[] w fun e w' => e = .returned (.bool true) ∧ Below w.heap.size w w' := by
  have M1 := fun W => Of_at 0 0 3000 4000 3000 4000 (by unfold Near; decide) (by unfold Near; decide) (by unfold Near; decide) (by unfold Near; decide) (by decide) (by decide) W
  have M2 := fun W => Of_at 0 0 3 0 3 0 (by unfold Near; decide) (by unfold Near; decide) (by unfold Near; decide) (by unfold Near; decide) (by decide) (by decide) W
  rw [show lineX 3000 4000 = 154 by decide +kernel, show lineY 3000 4000 = 205 by decide +kernel, show lineR 3000 4000 = 5000 by decide +kernel, show lineC 3000 4000 = 0 by decide +kernel] at M1
  rw [show lineX 3 0 = 0 by decide +kernel, show lineY 3 0 = 0 by decide +kernel, show lineR 3 0 = 0 by decide +kernel, show lineC 3 0 = 33 by decide +kernel] at M2
  have E := eq2
  have R := fun W => Row_4_2 154 205 (by decide) (by decide) (by decide) (by decide) W
  go_enter Tryd.func20, Tryd.ntmps20
  go_wp2_with (first
    | (go_at_call 21; first
      | ((with_reducible refine (M1 _).mono ?_); rintro e w1 ⟨v1, rfl, h1, g1⟩; obtain rfl := h1.none)
      | ((with_reducible refine (M2 _).mono ?_); rintro e w3 ⟨v3, rfl, h3, g3⟩
         have d1 := keepA (keepB g3 c1)
         have d2 := keepA (keepB g3 c2)
         have d3 := keepA (keepB g3 c3)
         have r0' := keepB g3 r0
         have r1' := keepB g3 r1
         have r2' := keepB g3 r2
         have r3' := keepB g3 r3
         have b2 := alloc_trans g1 g2 g1.size
         have b3 := b2.trans (g3.mono b2.size)
         have I := fun o => ints_calls g w3.heap.size.succ 154 205 (-154) (-205) ((w3.alloc o).alloc (.cells #[.int .i64 154, .int .i64 205, .int .i64 (-154), .int .i64 (-205)] 2)) (keepA (keepA r0' _) _) (keepA (keepA r1' _) _) (keepA (keepA r2' _) _) (keepA (keepA r3' _) _) (by go_simp) (by go_simp) (by go_simp) (by go_simp)))
    | (go_at_call 23; (with_reducible refine (R _).mono ?_); rintro e w2 ⟨g, rfl, g2, r0, r1, r2, r3, _⟩
       obtain ⟨c1, c2, c3⟩ := fresh3 g2)
    | (go_at_call 36; (with_reducible refine (I _).mono ?_); rintro e w4 ⟨rfl, g4⟩
       have q := says16 33 w4 (hg.below (alloc_trans (b3.alloc b3.size _) g4 (by have := b3.size; simp; omega))) (h3.below (alloc_trans ((Below.refl _ _).alloc (Nat.le_refl _) _) g4 (by simp))))
    | (go_at_call 22; (with_reducible refine q.mono ?_); rintro e w5 ⟨rfl, g5⟩)
    | go_in)
  go_ret
  have b4 := alloc_trans (b3.alloc b3.size _) g4 (by have := b3.size; simp; omega)
  exact ⟨rfl, b4.trans (g5.mono b4.size)⟩
end Go.Proofs.YtaiolioggjknfaaDoor.YLine
