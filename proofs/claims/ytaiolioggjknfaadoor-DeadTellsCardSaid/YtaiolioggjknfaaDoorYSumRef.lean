/- Sums of places: package dead's where it fails, and the reference's. No condition. Printed by a program of this session. -/
import Derived.Test.YtaiolioggjknfaaDoorYDeadRef
namespace Go.Proofs.YtaiolioggjknfaaDoor.YDead
open Go.RowKit Go.Extern.Stop Go.Stop Go.Extern Go.Proofs.YtaiolioggjknfaaDoor.QSn Go.Proofs.YtaiolioggjknfaaDoor.YBits Go.Proofs.YtaiolioggjknfaaDoor.YFx Go.Proofs.YtaiolioggjknfaaDoor.YAng Go.Proofs.YtaiolioggjknfaaDoor.YErr Go.Proofs.YtaiolioggjknfaaDoorW.PrintWords Go.Proofs.YtaiolioggjknfaaDoorW.PrintLast
set_option linter.unusedVariables false
set_option linter.unusedSimpArgs false

theorem raway_calls (x y : Int) (w : World) (b : Bool) (hb : b = decide (x < -4194304 ∨ x > 4194304 ∨ y < -4194304 ∨ y > 4194304)) :
    Calls Tryd.prog 56 #[.agg #[.int .i64 x, .int .i64 y]] w fun e w' => e = .returned (.bool b) ∧ Below w.heap.size w w' := by
  refine leadlineref10_Away.calls x y b w ?_
  have ft : ∀ v : Int, leadlineref10_far.f v 4194304 = some (decide (v < -4194304 ∨ v > 4194304)) := by
    intro v
    unfold leadlineref10_far.f
    rw [wid (x := -4194304) (by decide) (by decide)]
    by_cases h : v > 4194304
    · rw [if_pos h]; congr 1; symm; exact decide_eq_true (by omega)
    · rw [if_neg h]; congr 1; exact decide_eq_decide.2 (by omega)
  unfold leadlineref10_Away.f
  subst hb
  rw [ft x, ft y, Option.bind_some, Option.bind_some]
  by_cases h : x < -4194304 ∨ x > 4194304
  · rw [decide_eq_true h, if_pos rfl]; congr 1; symm; exact decide_eq_true (by omega)
  · rw [decide_eq_false h, if_neg (by decide)]; congr 1; exact decide_eq_decide.2 (by omega)
/-- The cells of two boxed places and of a result, behind a call that only makes memory. -/
theorem three (ax ay bx b_y : Int) (w w1 : World) (g : Below (((w.alloc (.cells #[.int .i64 ax, .int .i64 ay] 35)).alloc (.cells #[.int .i64 bx, .int .i64 b_y] 35)).alloc (.cells #[.int .i64 0, .int .i64 0] 35)).heap.size (((w.alloc (.cells #[.int .i64 ax, .int .i64 ay] 35)).alloc (.cells #[.int .i64 bx, .int .i64 b_y] 35)).alloc (.cells #[.int .i64 0, .int .i64 0] 35)) w1) :
    w1.cell? ⟨w.heap.size, 0, none⟩ = some (.int .i64 ax) ∧ w1.cell? ⟨w.heap.size, 1, none⟩ = some (.int .i64 ay) ∧ w1.cell? ⟨w.heap.size + 1, 0, none⟩ = some (.int .i64 bx) ∧ w1.cell? ⟨w.heap.size + 1, 1, none⟩ = some (.int .i64 b_y) ∧
      w1.cell? ⟨w.heap.size + 1 + 1, 0, none⟩ = some (.int .i64 0) ∧ w1.cell? ⟨w.heap.size + 1 + 1, 1, none⟩ = some (.int .i64 0) ∧ w1.frozen? ⟨w.heap.size + 1 + 1, 0, none⟩ = false ∧ w1.frozen? ⟨w.heap.size + 1 + 1, 1, none⟩ = false ∧ Below w.heap.size w w1 := by
  have kA : Blk w1 w.heap.size #[.int .i64 ax, .int .i64 ay] 35 := Blk.keep (((Blk.new w _ _).alloc _).alloc _) g
  have kB : Blk w1 (w.heap.size + 1) #[.int .i64 bx, .int .i64 b_y] 35 := Blk.keep (Blk.alloc (by have := Blk.new (w.alloc (.cells #[.int .i64 ax, .int .i64 ay] 35)) #[.int .i64 bx, .int .i64 b_y] 35; simpa using this) _) g
  have kR : Blk w1 (w.heap.size + 1 + 1) #[.int .i64 0, .int .i64 0] 35 := Blk.keep (by have := Blk.new ((w.alloc (.cells #[.int .i64 ax, .int .i64 ay] 35)).alloc (.cells #[.int .i64 bx, .int .i64 b_y] 35)) #[.int .i64 0, .int .i64 0] 35; simpa using this) g
  refine ⟨kA.cell 0, kA.cell 1, kB.cell 0, kB.cell 1, kR.cell 0, kR.cell 1, kR.free 0, kR.free 1, ?_⟩
  exact (Below.alloc (Below.alloc (Below.alloc (Below.refl _ _) (Nat.le_refl _) _) (by simp) _) (by simp; omega) _ : Below w.heap.size w _).trans (g.mono (by simp; omega))
instance (ax ay bx b_y : Int) : Decidable (SumOk ax ay bx b_y) := by unfold SumOk; infer_instance


set_option maxRecDepth 100000 in
set_option maxHeartbeats 4000000 in
theorem Sum_bad (ax ay bx b_y : Int) (ok : ¬ SumOk ax ay bx b_y) (w : World) :
    Calls Tryd.prog 30 #[.agg #[.int .i64 ax, .int .i64 ay], .agg #[.int .i64 bx, .int .i64 b_y]] w fun e w' => ∃ v, e = .returned (.tuple #[.agg #[.int .i64 0, .int .i64 0], v]) ∧ ErrIs op15 w' v 21 ∧ Below w.heap.size w w' := by
  have G : ∀ x y : Int, ∀ b, b = decide (x < -4194304 ∨ x > 4194304 ∨ y < -4194304 ∨ y > 4194304) → ∀ W, Calls Tryd.prog 45 #[.agg #[.int .i64 x, .int .i64 y]] W fun e w' => e = .returned (.bool b) ∧ Below W.heap.size W w' := fun x y b hb W => far_calls x y W b hb
  have B := fun W => Wrap_from op15 21 (by decide) W
  unfold op15 at B
  by_cases h1 : ax < -4194304 ∨ ax > 4194304 ∨ ay < -4194304 ∨ ay > 4194304
  · have F1 := G ax ay true (by simp; omega)
    have F2 := F1
    have F3 := F1
    go_enter Tryd.func30, Tryd.ntmps30
    go_wp2_with (first
      | (go_at_call 45; first
        | ((with_reducible refine (F1 _).mono ?_); rintro e w1 ⟨rfl, g1⟩; obtain ⟨c11, c12, c13, c14, c15, c16, c17, c18, B1⟩ := three ax ay bx b_y w w1 g1)
        | ((with_reducible refine (F2 _).mono ?_); rintro e w2 ⟨rfl, g2⟩; have g12 := g1.trans (g2.mono g1.size); obtain ⟨c21, c22, c23, c24, c25, c26, c27, c28, B2⟩ := three ax ay bx b_y w w2 g12)
        | ((with_reducible refine (F3 _).mono ?_); rintro e w3 ⟨rfl, g3⟩; have g13 := g12.trans (g3.mono g12.size); obtain ⟨c31, c32, c33, c34, c35, c36, c37, c38, B3⟩ := three ax ay bx b_y w w3 g13))
      | (go_at_call 42; refine (B _).mono ?_; rintro e w4 ⟨v, rfl, hv, g4⟩; obtain ⟨k1, k2, k3, k4, k5, k6, k7, k8, B4⟩ := three ax ay bx b_y w w4 (g1.trans (g4.mono g1.size))))
    (try simp only [Exit.inBlock, Exit.then])
    refine bodyPost_ret (v := .tuple #[.agg #[.int .i64 0, .int .i64 0], v]) ?_ rfl ⟨v, rfl, ?_, ?_⟩
    · rw [results_cell_tmp rfl]
      go_simp
    · exact ((hv.grown (b := w.heap.size + 1 + 1) (gro_set (gro_set (gro_refl _ _) 0 (.int .i64 0)) 1 (.int .i64 0)) (by have := g1.size; simp at this; omega)).is)
    · exact (Below.setCell (p := ⟨w.heap.size + 1 + 1, 0, none⟩) B4 (by show w.heap.size ≤ w.heap.size + 1 + 1; omega) _).setCell (p := ⟨w.heap.size + 1 + 1, 1, none⟩) (by show w.heap.size ≤ w.heap.size + 1 + 1; omega) _
  · have F1 := G ax ay false (by simp; omega)
    by_cases h2 : bx < -4194304 ∨ bx > 4194304 ∨ b_y < -4194304 ∨ b_y > 4194304
    · have F2 := G bx b_y true (by simp; omega)
      have F3 := F2
      go_enter Tryd.func30, Tryd.ntmps30
      go_wp2_with (first
        | (go_at_call 45; first
          | ((with_reducible refine (F1 _).mono ?_); rintro e w1 ⟨rfl, g1⟩; obtain ⟨c11, c12, c13, c14, c15, c16, c17, c18, B1⟩ := three ax ay bx b_y w w1 g1)
          | ((with_reducible refine (F2 _).mono ?_); rintro e w2 ⟨rfl, g2⟩; have g12 := g1.trans (g2.mono g1.size); obtain ⟨c21, c22, c23, c24, c25, c26, c27, c28, B2⟩ := three ax ay bx b_y w w2 g12)
          | ((with_reducible refine (F3 _).mono ?_); rintro e w3 ⟨rfl, g3⟩; have g13 := g12.trans (g3.mono g12.size); obtain ⟨c31, c32, c33, c34, c35, c36, c37, c38, B3⟩ := three ax ay bx b_y w w3 g13))
        | (go_at_call 42; refine (B _).mono ?_; rintro e w4 ⟨v, rfl, hv, g4⟩; obtain ⟨k1, k2, k3, k4, k5, k6, k7, k8, B4⟩ := three ax ay bx b_y w w4 (g12.trans (g4.mono g12.size))))
      (try simp only [Exit.inBlock, Exit.then])
      refine bodyPost_ret (v := .tuple #[.agg #[.int .i64 0, .int .i64 0], v]) ?_ rfl ⟨v, rfl, ?_, ?_⟩
      · rw [results_cell_tmp rfl]
        go_simp
      · exact ((hv.grown (b := w.heap.size + 1 + 1) (gro_set (gro_set (gro_refl _ _) 0 (.int .i64 0)) 1 (.int .i64 0)) (by have := g12.size; simp at this; omega)).is)
      · exact (Below.setCell (p := ⟨w.heap.size + 1 + 1, 0, none⟩) B4 (by show w.heap.size ≤ w.heap.size + 1 + 1; omega) _).setCell (p := ⟨w.heap.size + 1 + 1, 1, none⟩) (by show w.heap.size ≤ w.heap.size + 1 + 1; omega) _
    · have F2 := G bx b_y false (by simp; omega)
      have F3 := G (ax + bx) (ay + b_y) true (by unfold SumOk at ok; simp; omega)
      go_enter Tryd.func30, Tryd.ntmps30
      go_wp2_with (first
        | (go_at_call 45; first
          | ((with_reducible refine (F1 _).mono ?_); rintro e w1 ⟨rfl, g1⟩; obtain ⟨c11, c12, c13, c14, c15, c16, c17, c18, B1⟩ := three ax ay bx b_y w w1 g1)
          | ((with_reducible refine (F2 _).mono ?_); rintro e w2 ⟨rfl, g2⟩; have g12 := g1.trans (g2.mono g1.size); obtain ⟨c21, c22, c23, c24, c25, c26, c27, c28, B2⟩ := three ax ay bx b_y w w2 g12)
          | ((with_reducible refine (F3 _).mono ?_); rintro e w3 ⟨rfl, g3⟩; have g13 := g12.trans (g3.mono g12.size); obtain ⟨c31, c32, c33, c34, c35, c36, c37, c38, B3⟩ := three ax ay bx b_y w w3 g13))
        | (go_at_call 42; refine (B _).mono ?_; rintro e w4 ⟨v, rfl, hv, g4⟩; obtain ⟨k1, k2, k3, k4, k5, k6, k7, k8, B4⟩ := three ax ay bx b_y w w4 (g13.trans (g4.mono g13.size))))
      (try simp only [Exit.inBlock, Exit.then])
      refine bodyPost_ret (v := .tuple #[.agg #[.int .i64 0, .int .i64 0], v]) ?_ rfl ⟨v, rfl, ?_, ?_⟩
      · rw [results_cell_tmp rfl]
        go_simp
      · exact ((hv.grown (b := w.heap.size + 1 + 1) (gro_set (gro_set (gro_refl _ _) 0 (.int .i64 0)) 1 (.int .i64 0)) (by have := g13.size; simp at this; omega)).is)
      · exact (Below.setCell (p := ⟨w.heap.size + 1 + 1, 0, none⟩) B4 (by show w.heap.size ≤ w.heap.size + 1 + 1; omega) _).setCell (p := ⟨w.heap.size + 1 + 1, 1, none⟩) (by show w.heap.size ≤ w.heap.size + 1 + 1; omega) _


set_option maxRecDepth 100000 in
set_option maxHeartbeats 4000000 in
theorem rPlus_bad (ax ay bx b_y : Int) (ok : ¬ SumOk ax ay bx b_y) (w : World) :
    Calls Tryd.prog 31 #[.agg #[.int .i64 ax, .int .i64 ay], .agg #[.int .i64 bx, .int .i64 b_y]] w fun e w' => e = .returned (.tuple #[.agg #[.int .i64 0, .int .i64 0], .int .i64 21]) ∧ Below w.heap.size w w' := by
  have G : ∀ x y : Int, ∀ b, b = decide (x < -4194304 ∨ x > 4194304 ∨ y < -4194304 ∨ y > 4194304) → ∀ W, Calls Tryd.prog 56 #[.agg #[.int .i64 x, .int .i64 y]] W fun e w' => e = .returned (.bool b) ∧ Below W.heap.size W w' := fun x y b hb W => raway_calls x y W b hb
  by_cases h1 : ax < -4194304 ∨ ax > 4194304 ∨ ay < -4194304 ∨ ay > 4194304
  · have F1 := G ax ay true (by simp; omega)
    have F2 := F1
    have F3 := F1
    go_enter Tryd.func31, Tryd.ntmps31
    go_wp2_with (first
      | (go_at_call 56; first
        | ((with_reducible refine (F1 _).mono ?_); rintro e w1 ⟨rfl, g1⟩; obtain ⟨c11, c12, c13, c14, c15, c16, c17, c18, B1⟩ := three ax ay bx b_y w w1 g1)
        | ((with_reducible refine (F2 _).mono ?_); rintro e w2 ⟨rfl, g2⟩; have g12 := g1.trans (g2.mono g1.size); obtain ⟨c21, c22, c23, c24, c25, c26, c27, c28, B2⟩ := three ax ay bx b_y w w2 g12)
        | ((with_reducible refine (F3 _).mono ?_); rintro e w3 ⟨rfl, g3⟩; have g13 := g12.trans (g3.mono g12.size); obtain ⟨c31, c32, c33, c34, c35, c36, c37, c38, B3⟩ := three ax ay bx b_y w w3 g13)))
    (try simp only [Exit.inBlock, Exit.then])
    refine bodyPost_ret (v := .tuple #[.agg #[.int .i64 0, .int .i64 0], .int .i64 21]) ?_ rfl ⟨rfl, ?_⟩
    · rw [results_cell_tmp rfl]
      go_simp
    · exact (Below.setCell (p := ⟨w.heap.size + 1 + 1, 0, none⟩) B1 (by show w.heap.size ≤ w.heap.size + 1 + 1; omega) _).setCell (p := ⟨w.heap.size + 1 + 1, 1, none⟩) (by show w.heap.size ≤ w.heap.size + 1 + 1; omega) _
  · have F1 := G ax ay false (by simp; omega)
    by_cases h2 : bx < -4194304 ∨ bx > 4194304 ∨ b_y < -4194304 ∨ b_y > 4194304
    · have F2 := G bx b_y true (by simp; omega)
      have F3 := F2
      go_enter Tryd.func31, Tryd.ntmps31
      go_wp2_with (first
        | (go_at_call 56; first
          | ((with_reducible refine (F1 _).mono ?_); rintro e w1 ⟨rfl, g1⟩; obtain ⟨c11, c12, c13, c14, c15, c16, c17, c18, B1⟩ := three ax ay bx b_y w w1 g1)
          | ((with_reducible refine (F2 _).mono ?_); rintro e w2 ⟨rfl, g2⟩; have g12 := g1.trans (g2.mono g1.size); obtain ⟨c21, c22, c23, c24, c25, c26, c27, c28, B2⟩ := three ax ay bx b_y w w2 g12)
          | ((with_reducible refine (F3 _).mono ?_); rintro e w3 ⟨rfl, g3⟩; have g13 := g12.trans (g3.mono g12.size); obtain ⟨c31, c32, c33, c34, c35, c36, c37, c38, B3⟩ := three ax ay bx b_y w w3 g13)))
      (try simp only [Exit.inBlock, Exit.then])
      refine bodyPost_ret (v := .tuple #[.agg #[.int .i64 0, .int .i64 0], .int .i64 21]) ?_ rfl ⟨rfl, ?_⟩
      · rw [results_cell_tmp rfl]
        go_simp
      · exact (Below.setCell (p := ⟨w.heap.size + 1 + 1, 0, none⟩) B2 (by show w.heap.size ≤ w.heap.size + 1 + 1; omega) _).setCell (p := ⟨w.heap.size + 1 + 1, 1, none⟩) (by show w.heap.size ≤ w.heap.size + 1 + 1; omega) _
    · have F2 := G bx b_y false (by simp; omega)
      have F3 := G (ax + bx) (ay + b_y) true (by unfold SumOk at ok; simp; omega)
      go_enter Tryd.func31, Tryd.ntmps31
      go_wp2_with (first
        | (go_at_call 56; first
          | ((with_reducible refine (F1 _).mono ?_); rintro e w1 ⟨rfl, g1⟩; obtain ⟨c11, c12, c13, c14, c15, c16, c17, c18, B1⟩ := three ax ay bx b_y w w1 g1)
          | ((with_reducible refine (F2 _).mono ?_); rintro e w2 ⟨rfl, g2⟩; have g12 := g1.trans (g2.mono g1.size); obtain ⟨c21, c22, c23, c24, c25, c26, c27, c28, B2⟩ := three ax ay bx b_y w w2 g12)
          | ((with_reducible refine (F3 _).mono ?_); rintro e w3 ⟨rfl, g3⟩; have g13 := g12.trans (g3.mono g12.size); obtain ⟨c31, c32, c33, c34, c35, c36, c37, c38, B3⟩ := three ax ay bx b_y w w3 g13)))
      (try simp only [Exit.inBlock, Exit.then])
      refine bodyPost_ret (v := .tuple #[.agg #[.int .i64 0, .int .i64 0], .int .i64 21]) ?_ rfl ⟨rfl, ?_⟩
      · rw [results_cell_tmp rfl]
        go_simp
      · exact (Below.setCell (p := ⟨w.heap.size + 1 + 1, 0, none⟩) B3 (by show w.heap.size ≤ w.heap.size + 1 + 1; omega) _).setCell (p := ⟨w.heap.size + 1 + 1, 1, none⟩) (by show w.heap.size ≤ w.heap.size + 1 + 1; omega) _


set_option maxRecDepth 100000 in
set_option maxHeartbeats 4000000 in
theorem rPlus_ok (ax ay bx b_y : Int) (ok : SumOk ax ay bx b_y) (w : World) :
    Calls Tryd.prog 31 #[.agg #[.int .i64 ax, .int .i64 ay], .agg #[.int .i64 bx, .int .i64 b_y]] w fun e w' => e = .returned (.tuple #[.agg #[.int .i64 (ax + bx), .int .i64 (ay + b_y)], .int .i64 0]) ∧ Below w.heap.size w w' := by
  obtain ⟨a0, a1, a2, a3, b0, b1, b2, b3, s0, s1, s2, s3⟩ := ok
  have F1 := fun W => raway_calls ax ay W false (by simp; omega)
  have F2 := fun W => raway_calls bx b_y W false (by simp; omega)
  have F3 := fun W => raway_calls (ax + bx) (ay + b_y) W false (by simp; omega)
  go_enter Tryd.func31, Tryd.ntmps31
  go_wp2_with (first
    | (go_at_call 56; first
      | ((with_reducible refine (F1 _).mono ?_); rintro e w1 ⟨rfl, g1⟩; obtain ⟨c11, c12, c13, c14, c15, c16, c17, c18, B1⟩ := three ax ay bx b_y w w1 g1)
      | ((with_reducible refine (F2 _).mono ?_); rintro e w2 ⟨rfl, g2⟩; have g12 := g1.trans (g2.mono g1.size); obtain ⟨c21, c22, c23, c24, c25, c26, c27, c28, B2⟩ := three ax ay bx b_y w w2 g12)
      | ((with_reducible refine (F3 _).mono ?_); rintro e w3 ⟨rfl, g3⟩; have g13 := g12.trans (g3.mono g12.size); obtain ⟨c31, c32, c33, c34, c35, c36, c37, c38, B3⟩ := three ax ay bx b_y w w3 g13)))
  (try simp only [Exit.inBlock, Exit.then])
  refine bodyPost_ret (v := .tuple #[.agg #[.int .i64 (ax + bx), .int .i64 (ay + b_y)], .int .i64 0]) ?_ rfl ⟨rfl, ?_⟩
  · rw [results_cell_tmp rfl]
    go_simp
  · exact (Below.setCell (p := ⟨w.heap.size + 1 + 1, 0, none⟩) B3 (by show w.heap.size ≤ w.heap.size + 1 + 1; omega) _).setCell (p := ⟨w.heap.size + 1 + 1, 1, none⟩) (by show w.heap.size ≤ w.heap.size + 1 + 1; omega) _

/-! ### in one: whatever the numbers -/
instance (f s t : Int) : Decidable (MoveOk f s t) := by unfold MoveOk; infer_instance
def mvX (h f s t : Int) : Int := if MoveOk f s t then moveX h f s t else 0
def mvY (h f s t : Int) : Int := if MoveOk f s t then moveY h f s t else 0
def mvC (f s t : Int) : Int := if MoveOk f s t then 0 else 27
theorem Move_c (h f s t : Int) (hh0 : 0 ≤ h) (hh1 : h < 65536) (ht0 : 0 ≤ t) (w : World) :
    Calls Tryd.prog 19 #[.int .u16 h, .int .i64 f, .int .i64 s, .int .u32 t] w fun e w' => ∃ v, e = .returned (.tuple #[.agg #[.int .i64 (mvX h f s t), .int .i64 (mvY h f s t)], v]) ∧ ErrIs op15 w' v (mvC f s t) ∧ Below w.heap.size w w' := by
  unfold mvX mvY mvC
  by_cases ok : MoveOk f s t
  · rw [if_pos ok, if_pos ok, if_pos ok]
    refine (Move_ok h f s t hh0 hh1 ht0 ok w).mono ?_
    rintro e w' ⟨rfl, g⟩
    exact ⟨_, rfl, ErrIs.nil _ _, g⟩
  · rw [if_neg ok, if_neg ok, if_neg ok]
    exact Move_bad h f s t ht0 ok w
theorem rMove_c (h f s t : Int) (hh0 : 0 ≤ h) (hh1 : h < 65536) (f0 : -9223372036854775808 ≤ f) (f1 : f ≤ 9223372036854775807) (ht0 : 0 ≤ t) (w : World) :
    Calls Tryd.prog 29 #[.int .u16 h, .int .i64 f, .int .i64 s, .int .u32 t] w fun e w' => e = .returned (.tuple #[.agg #[.int .i64 (mvX h f s t), .int .i64 (mvY h f s t)], .int .i64 (mvC f s t)]) ∧ Below w.heap.size w w' := by
  unfold mvX mvY mvC
  by_cases ok : MoveOk f s t
  · rw [if_pos ok, if_pos ok, if_pos ok]
    exact rMove_ok h f s t hh0 hh1 ht0 ok w
  · rw [if_neg ok, if_neg ok, if_neg ok]
    exact rMove_bad h f s t f0 f1 ht0 ok w
def smX (ax ay bx b_y : Int) : Int := if SumOk ax ay bx b_y then ax + bx else 0
def smY (ax ay bx b_y : Int) : Int := if SumOk ax ay bx b_y then ay + b_y else 0
def smC (ax ay bx b_y : Int) : Int := if SumOk ax ay bx b_y then 0 else 21
theorem Sum_c (ax ay bx b_y : Int) (w : World) :
    Calls Tryd.prog 30 #[.agg #[.int .i64 ax, .int .i64 ay], .agg #[.int .i64 bx, .int .i64 b_y]] w fun e w' => ∃ v, e = .returned (.tuple #[.agg #[.int .i64 (smX ax ay bx b_y), .int .i64 (smY ax ay bx b_y)], v]) ∧ ErrIs op15 w' v (smC ax ay bx b_y) ∧ Below w.heap.size w w' := by
  unfold smX smY smC
  by_cases ok : SumOk ax ay bx b_y
  · rw [if_pos ok, if_pos ok, if_pos ok]
    refine (Sum_ok ax ay bx b_y ok w).mono ?_
    rintro e w' ⟨rfl, g⟩
    exact ⟨_, rfl, ErrIs.nil _ _, g⟩
  · rw [if_neg ok, if_neg ok, if_neg ok]
    exact Sum_bad ax ay bx b_y ok w
theorem rPlus_c (ax ay bx b_y : Int) (w : World) :
    Calls Tryd.prog 31 #[.agg #[.int .i64 ax, .int .i64 ay], .agg #[.int .i64 bx, .int .i64 b_y]] w fun e w' => e = .returned (.tuple #[.agg #[.int .i64 (smX ax ay bx b_y), .int .i64 (smY ax ay bx b_y)], .int .i64 (smC ax ay bx b_y)]) ∧ Below w.heap.size w w' := by
  unfold smX smY smC
  by_cases ok : SumOk ax ay bx b_y
  · rw [if_pos ok, if_pos ok, if_pos ok]
    exact rPlus_ok ax ay bx b_y ok w
  · rw [if_neg ok, if_neg ok, if_neg ok]
    exact rPlus_bad ax ay bx b_y ok w
end Go.Proofs.YtaiolioggjknfaaDoor.YDead
