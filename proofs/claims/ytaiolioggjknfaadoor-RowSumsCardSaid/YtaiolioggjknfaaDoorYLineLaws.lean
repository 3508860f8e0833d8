/- The statements of layer 16 but LineTells: the walks. Condition: errors.errorType holds its type's handle. -/
import Derived.Test.YtaiolioggjknfaaDoorYRow
namespace Go.Proofs.YtaiolioggjknfaaDoor.YLine
open Go.RowKit Go.Extern.Stop Go.Stop Go.Extern Go.Proofs.YtaiolioggjknfaaDoor.QSn Go.Proofs.YtaiolioggjknfaaDoor.YBits Go.Proofs.YtaiolioggjknfaaDoor.YFx Go.Proofs.YtaiolioggjknfaaDoor.YErr Go.Proofs.YtaiolioggjknfaaDoorW.PrintWords Go.Proofs.YtaiolioggjknfaaDoorW.PrintLast
set_option linter.unusedVariables false
set_option linter.unusedSimpArgs false

theorem fresh3 {W w' : World} {x y z : Int} {t : TypeId} (hb : Below (W.alloc (.cells #[.int .i64 x, .int .i64 y, .int .i64 z] t)).heap.size (W.alloc (.cells #[.int .i64 x, .int .i64 y, .int .i64 z] t)) w') :
    w'.cell? ⟨W.heap.size, 0, none⟩ = some (.int .i64 x) ∧ w'.cell? ⟨W.heap.size, 1, none⟩ = some (.int .i64 y) ∧ w'.cell? ⟨W.heap.size, 2, none⟩ = some (.int .i64 z) :=
  ⟨(hb.cell (p := ⟨W.heap.size, 0, none⟩) (by show W.heap.size < _; simp)).trans (by go_simp), (hb.cell (p := ⟨W.heap.size, 1, none⟩) (by show W.heap.size < _; simp)).trans (by go_simp), (hb.cell (p := ⟨W.heap.size, 2, none⟩) (by show W.heap.size < _; simp)).trans (by go_simp)⟩
theorem keepB {W w' : World} {p : Addr} {v : Value} (hb : Below W.heap.size W w') (h : W.cell? p = some v) : w'.cell? p = some v := (hb.cell (lt_of_cell h)).trans h
theorem ints_calls (g g' : Nat) (x0 x1 x2 x3 : Int) (w : World) (h0 : w.cell? ⟨g, 0, none⟩ = some (.int .i64 x0)) (h1 : w.cell? ⟨g, 1, none⟩ = some (.int .i64 x1)) (h2 : w.cell? ⟨g, 2, none⟩ = some (.int .i64 x2)) (h3 : w.cell? ⟨g, 3, none⟩ = some (.int .i64 x3))
    (k0 : w.cell? ⟨g', 0, none⟩ = some (.int .i64 x0)) (k1 : w.cell? ⟨g', 1, none⟩ = some (.int .i64 x1)) (k2 : w.cell? ⟨g', 2, none⟩ = some (.int .i64 x2)) (k3 : w.cell? ⟨g', 3, none⟩ = some (.int .i64 x3)) :
    Calls Tryd.prog 36 #[.slice (some ⟨g, 0, none⟩) 4 4, .slice (some ⟨g', 0, none⟩) 4 4] w fun e w' => e = .returned (.bool true) ∧ Below w.heap.size w w' := by
  have m0 : ∀ n, (w.drewN n).cell? ⟨g, 0, none⟩ = some (.int .i64 x0) := fun n => h0
  go_enter Tryd.func36, Tryd.ntmps36
  go_wp2
  refine wp_loop_rounds 5 ?_
  rw [rounds_succ]
  go_wp2
  go_quiet (fail)
  go_wp2
  rw [rounds_succ]
  go_wp2
  go_quiet (fail)
  go_wp2
  rw [rounds_succ]
  go_wp2
  go_quiet (fail)
  go_wp2
  rw [rounds_succ]
  go_wp2
  go_quiet (fail)
  go_wp2
  rw [rounds_succ]
  go_wp2
  go_ret
  exact ⟨rfl, below_drewN (Below.refl _ _)⟩

theorem eq2 (x y : Int) (W : World) : (Op.equalIn 9999 39 (.agg #[.int .i64 x, .int .i64 y]) (.agg #[.int .i64 x, .int .i64 y])).run Tryd.prog W = .ok true W := by
  have h2 : ∀ v : Int, (Op.equalIn 9998 2 (.int .i64 v) (.int .i64 v)).run Tryd.prog W = .ok true W := fun v => (run_equalIn_int (P := Tryd.prog) W 9997 2 .i64 .i64 v v Tryd.underlying2).trans (by simp)
  have hi : (isAgg 2).run Tryd.prog W = .ok false W := by kernel_rfl
  rw [Op.equalIn]
  simp [run_underlying Tryd.underlying39, part, List.range'_succ, Sem.run_bind, hi, h2, Result.andThen]

def lineC (dx dy : Int) : Int := if len dx dy < 1000 then 33 else 0
def lineX (dx dy : Int) : Int := if len dx dy < 1000 then 0 else rnd (dx * 256) (len dx dy)
def lineY (dx dy : Int) : Int := if len dx dy < 1000 then 0 else rnd (dy * 256) (len dx dy)
def lineR (dx dy : Int) : Int := if len dx dy < 1000 then 0 else len dx dy
theorem Of_at (ax ay bx b_y dx dy : Int) (h1 : Near ax) (h2 : Near ay) (h3 : Near bx) (h4 : Near b_y) (ex : bx - ax = dx) (ey : b_y - ay = dy) (w : World) :
    Calls Tryd.prog 21 #[.agg #[.int .i64 ax, .int .i64 ay], .agg #[.int .i64 bx, .int .i64 b_y]] w fun e w' =>
      ∃ v, e = .returned (.tuple #[.agg #[.int .i64 (lineX dx dy), .int .i64 (lineY dx dy), .int .i64 (lineR dx dy)], v]) ∧ ErrIs op16 w' v (lineC dx dy) ∧ Below w.heap.size w w' := by
  subst ex; subst ey
  unfold lineC lineX lineY lineR
  by_cases hn : len (bx - ax) (b_y - ay) < 1000
  · simp only [if_pos hn]
    exact Of_near ax ay bx b_y h1 h2 h3 h4 hn w
  · simp only [if_neg hn]
    refine (Of_ok ax ay bx b_y h1 h2 h3 h4 hn w).mono ?_
    rintro e w' ⟨rfl, hb⟩
    exact ⟨_, rfl, ErrIs.nil _ _, hb⟩

set_option maxRecDepth 100000 in
set_option maxHeartbeats 2000000 in
theorem known_calls (w : World) (hg : Laid w) : Calls Tryd.prog 20 #[] w fun e w' => e = .returned (.bool true) ∧ Below w.heap.size w w' := by
  have M1 := fun W => Of_at 0 0 3000 4000 3000 4000 (by unfold Near; decide) (by unfold Near; decide) (by unfold Near; decide) (by unfold Near; decide) (by decide) (by decide) W
  have M2 := fun W => Of_at 0 0 3 0 3 0 (by unfold Near; decide) (by unfold Near; decide) (by unfold Near; decide) (by unfold Near; decide) (by decide) (by decide) W
  rw [show lineX 3000 4000 = 154 by decide +kernel, show lineY 3000 4000 = 205 by decide +kernel, show lineR 3000 4000 = 5000 by decide +kernel, show lineC 3000 4000 = 0 by decide +kernel] at M1
  rw [show lineX 3 0 = 0 by decide +kernel, show lineY 3 0 = 0 by decide +kernel, show lineR 3 0 = 0 by decide +kernel, show lineC 3 0 = 33 by decide +kernel] at M2
  have E := eq2
  have R := fun W => Row_4_2 154 205 (by decide) (by decide) (by decide) (by decide) W
  go_enter Tryd.func20, Tryd.ntmps20
  go_wp2_with (first
    | (go_at_call 21; first
      | ((with_reducible refine (M1 _).mono ?_); rintro e w1 ⟨v1, rfl, h1, g1⟩; obtain rfl := h1.none)
      | ((with_reducible refine (M2 _).mono ?_); rintro e w3 ⟨v3, rfl, h3, g3⟩
         have d1 := keepA (keepB g3 c1)
         have d2 := keepA (keepB g3 c2)
         have d3 := keepA (keepB g3 c3)
         have r0' := keepB g3 r0
         have r1' := keepB g3 r1
         have r2' := keepB g3 r2
         have r3' := keepB g3 r3
         have b2 := alloc_trans g1 g2 g1.size
         have b3 := b2.trans (g3.mono b2.size)
         have I := fun o => ints_calls g w3.heap.size.succ 154 205 (-154) (-205) ((w3.alloc o).alloc (.cells #[.int .i64 154, .int .i64 205, .int .i64 (-154), .int .i64 (-205)] 2)) (keepA (keepA r0' _) _) (keepA (keepA r1' _) _) (keepA (keepA r2' _) _) (keepA (keepA r3' _) _) (by go_simp) (by go_simp) (by go_simp) (by go_simp)))
    | (go_at_call 23; (with_reducible refine (R _).mono ?_); rintro e w2 ⟨g, rfl, g2, r0, r1, r2, r3, _⟩
       obtain ⟨c1, c2, c3⟩ := fresh3 g2)
    | (go_at_call 36; (with_reducible refine (I _).mono ?_); rintro e w4 ⟨rfl, g4⟩
       have q := says16 33 w4 (hg.below (alloc_trans (b3.alloc b3.size _) g4 (by have := b3.size; simp; omega))) (h3.below (alloc_trans ((Below.refl _ _).alloc (Nat.le_refl _) _) g4 (by simp))))
    | (go_at_call 22; (with_reducible refine q.mono ?_); rintro e w5 ⟨rfl, g5⟩)
    | go_in)
  go_ret
  have b4 := alloc_trans (b3.alloc b3.size _) g4 (by have := b3.size; simp; omega)
  exact ⟨rfl, b4.trans (g5.mono b4.size)⟩

theorem fresh22 {W w' : World} {x y x' y' : Int} {t : TypeId} (hb : Below ((W.alloc (.cells #[.int .i64 x, .int .i64 y] t)).alloc (.cells #[.int .i64 x', .int .i64 y'] t)).heap.size ((W.alloc (.cells #[.int .i64 x, .int .i64 y] t)).alloc (.cells #[.int .i64 x', .int .i64 y'] t)) w') :
    w'.cell? ⟨W.heap.size, 0, none⟩ = some (.int .i64 x) ∧ w'.cell? ⟨W.heap.size, 1, none⟩ = some (.int .i64 y) ∧ w'.cell? ⟨W.heap.size + 1, 0, none⟩ = some (.int .i64 x') ∧ w'.cell? ⟨W.heap.size + 1, 1, none⟩ = some (.int .i64 y') := by
  have hs : ((W.alloc (.cells #[.int .i64 x, .int .i64 y] t)).alloc (.cells #[.int .i64 x', .int .i64 y'] t)).heap.size = W.heap.size + 1 + 1 := by simp
  refine ⟨?_, ?_, ?_, ?_⟩
  · exact (hb.cell (p := ⟨W.heap.size, 0, none⟩) (by rw [hs]; show W.heap.size < _; omega)).trans (by go_simp)
  · exact (hb.cell (p := ⟨W.heap.size, 1, none⟩) (by rw [hs]; show W.heap.size < _; omega)).trans (by go_simp)
  · exact (hb.cell (p := ⟨W.heap.size + 1, 0, none⟩) (by rw [hs]; show W.heap.size + 1 < _; omega)).trans (by go_simp)
  · exact (hb.cell (p := ⟨W.heap.size + 1, 1, none⟩) (by rw [hs]; show W.heap.size + 1 < _; omega)).trans (by go_simp)
set_option maxRecDepth 100000 in
set_option maxHeartbeats 2000000 in
theorem LineSame_calls (x y a b : Int) (w : World) (hg : Laid w) (w0 : (Lit.int .i16 x).wf = true) (w1 : (Lit.int .i16 y).wf = true) (w2 : (Lit.int .i16 a).wf = true) (w3 : (Lit.int .i16 b).wf = true) :
    Calls Tryd.prog 9 #[.int .i16 x, .int .i16 y, .int .i16 a, .int .i16 b] w fun e w' => e = .returned (.bool true) ∧ Below w.heap.size w w' := by
  have hx : -32768 ≤ x ∧ x ≤ 32767 := by simp [Lit.wf, IntKind.min, IntKind.max, IntKind.bits, IntKind.signed] at w0; omega
  have hy : -32768 ≤ y ∧ y ≤ 32767 := by simp [Lit.wf, IntKind.min, IntKind.max, IntKind.bits, IntKind.signed] at w1; omega
  have ha : -32768 ≤ a ∧ a ≤ 32767 := by simp [Lit.wf, IntKind.min, IntKind.max, IntKind.bits, IntKind.signed] at w2; omega
  have hb : -32768 ≤ b ∧ b ≤ 32767 := by simp [Lit.wf, IntKind.min, IntKind.max, IntKind.bits, IntKind.signed] at w3; omega
  clear w0 w1 w2 w3
  have K := known_calls w hg
  have E := eq2
  have M1 := fun W => Of_at 0 0 x y x y (by unfold Near; decide) (by unfold Near; decide) (by unfold Near; omega) (by unfold Near; omega) (by omega) (by omega) W
  have M2 := fun W => Of_at a b (a + x) (b + y) x y (by unfold Near; omega) (by unfold Near; omega) (by unfold Near; omega) (by unfold Near; omega) (by omega) (by omega) W
  generalize lineX x y = X at *
  generalize lineY x y = Y at *
  generalize lineR x y = R at *
  generalize lineC x y = C at *
  go_enter Tryd.func9, Tryd.ntmps9
  go_wp2_with (first
    | (go_at_call 20; refine K.mono ?_; rintro e w1 ⟨rfl, k1⟩)
    | (go_at_call 21; first
      | ((with_reducible refine (M1 _).mono ?_); rintro e w2 ⟨v2, rfl, h2, g2⟩
         obtain ⟨c1, c2, c3, c4⟩ := fresh22 g2
         have d1 := keepA c1
         have d2 := keepA c2
         have d3 := keepA c3
         have d4 := keepA c4
         have b2 := alloc_trans (k1.alloc k1.size _) g2 (by have := k1.size; simp; omega))
      | ((with_reducible refine (M2 _).mono ?_); rintro e w3 ⟨v3, rfl, h3, g3⟩
         obtain ⟨f1, f2, f3⟩ := fresh3 g3
         have b3 := alloc_trans b2 g3 b2.size
         have q := fun o => Code_is (w3.alloc o) (hg.below (b3.alloc b3.size o)) (h2.below (alloc_trans (Below.refl w2.heap.size w2) (g3.trans ((Below.refl _ _).alloc (Nat.le_refl _) o |>.mono (by have := g3.size; simp at this ⊢; omega))) (Nat.le_refl _)))))
    | (go_at_call 24; first
      | ((with_reducible refine (q _).mono ?_); rintro e w4 ⟨rfl, g4⟩
         have b4 := alloc_trans b3 g4 b3.size
         have l1 := keep g4 f1
         have l2 := keep g4 f2
         have l3 := keep g4 f3
         obtain ⟨m1, m2, m3⟩ := fresh3 g4
         have q2 := Code_is w4 (hg.below b4) (h3.below (alloc_trans (Below.refl w3.heap.size w3) g4 (Nat.le_refl _))))
      | ((with_reducible refine q2.mono ?_); rintro e w5 ⟨rfl, g5⟩
         have n1 := keepB g5 l1
         have n2 := keepB g5 l2
         have n3 := keepB g5 l3
         have n4 := keepB g5 m1
         have n5 := keepB g5 m2
         have n6 := keepB g5 m3))
    | go_in)
  go_ret
  exact ⟨rfl, b4.trans (g5.mono b4.size)⟩
end Go.Proofs.YtaiolioggjknfaaDoor.YLine
