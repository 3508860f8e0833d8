/- The statement DeadBack of layer 15: the walk. Condition: errors.errorType holds its type's handle. -/
import Derived.Test.YtaiolioggjknfaaDoorYDead
namespace Go.Proofs.YtaiolioggjknfaaDoor.YDead
open Go.RowKit Go.Extern.Stop Go.Stop Go.Extern Go.Proofs.YtaiolioggjknfaaDoor.QSn Go.Proofs.YtaiolioggjknfaaDoor.YBits Go.Proofs.YtaiolioggjknfaaDoor.YFx Go.Proofs.YtaiolioggjknfaaDoor.YAng Go.Proofs.YtaiolioggjknfaaDoor.YErr Go.Proofs.YtaiolioggjknfaaDoorW.PrintWords Go.Proofs.YtaiolioggjknfaaDoorW.PrintLast
set_option linter.unusedVariables false
set_option linter.unusedSimpArgs false

theorem keep {W w' : World} {o : Obj} {p : Addr} {v : Value} (hb : Below (W.alloc o).heap.size (W.alloc o) w') (h : W.cell? p = some v) : w'.cell? p = some v :=
  (hb.cell (by have := lt_of_cell h; simp; omega)).trans ((World.cell?_alloc_lt _ _ p (lt_of_cell h)).trans h)
theorem keepA {W : World} {p : Addr} {v : Value} (h : W.cell? p = some v) (o : Obj) : (W.alloc o).cell? p = some v := (World.cell?_alloc_lt _ _ p (lt_of_cell h)).trans h
theorem fresh0 {W w' : World} {x y : Int} {t : TypeId} (hb : Below (W.alloc (.cells #[.int .i64 x, .int .i64 y] t)).heap.size (W.alloc (.cells #[.int .i64 x, .int .i64 y] t)) w') : w'.cell? ⟨W.heap.size, 0, none⟩ = some (.int .i64 x) :=
  (hb.cell (p := ⟨W.heap.size, 0, none⟩) (by show W.heap.size < _; simp)).trans (by go_simp)
theorem fresh1 {W w' : World} {x y : Int} {t : TypeId} (hb : Below (W.alloc (.cells #[.int .i64 x, .int .i64 y] t)).heap.size (W.alloc (.cells #[.int .i64 x, .int .i64 y] t)) w') : w'.cell? ⟨W.heap.size, 1, none⟩ = some (.int .i64 y) :=
  (hb.cell (p := ⟨W.heap.size, 1, none⟩) (by show W.heap.size < _; simp)).trans (by go_simp)
theorem alloc_trans {B : Nat} {a W w' : World} {o : Obj} (h : Below B a W) (hb : Below (W.alloc o).heap.size (W.alloc o) w') (hB : B ≤ W.heap.size) : Below B a w' := (h.alloc hB o).trans (hb.mono (by simp; omega))

set_option maxRecDepth 100000 in
set_option maxHeartbeats 2000000 in
theorem known_calls (w : World) (hg : Laid w) : Calls Tryd.prog 18 #[] w fun e w' => e = .returned (.bool true) ∧ Below w.heap.size w w' := by
  have M1 := fun W => Move_ok 0 1000 0 2000 (by decide) (by decide) (by decide) (by unfold MoveOk; decide) W
  have M2 := fun W => Move_bad 0 10001 0 1 (by decide) (by unfold MoveOk; decide) W
  have S := fun W => Sum_ok 0 2000 1 0 (by unfold SumOk; decide) W
  rw [show moveX 0 1000 0 2000 = 0 by decide +kernel, show moveY 0 1000 0 2000 = 2000 by decide +kernel] at M1
  go_enter Tryd.func18, Tryd.ntmps18
  go_wp2_with (first
    | (go_at_call 19; first
      | ((with_reducible refine (M1 _).mono ?_); rintro e w1 ⟨rfl, g1⟩)
      | ((with_reducible refine (M2 _).mono ?_); rintro e w3 ⟨v3, rfl, h3, g3⟩
         have c31 := keep g3 c21
         have c32 := keep g3 c22
         have c33 := fresh0 g3
         have c34 := fresh1 g3
         have d31 := keepA c31
         have d32 := keepA c32
         have d33 := keepA c33
         have d34 := keepA c34
         have hb2 := alloc_trans g1 g2 g1.size
         have hb3 := alloc_trans hb2 g3 hb2.size
         have q := fun o => says15 27 (w3.alloc o) (hg.below (hb3.alloc hb3.size o)) (h3.below ((Below.refl _ _).alloc (Nat.le_refl _) o))))
    | (go_at_call 30; (with_reducible refine (S _).mono ?_); rintro e w2 ⟨rfl, g2⟩
       have c21 := fresh0 g2
       have c22 := fresh1 g2)
    | (go_at_call 32; (with_reducible refine (q _).mono ?_); rintro e w4 ⟨rfl, g4⟩)
    | go_in)
  go_ret
  exact ⟨rfl, alloc_trans hb3 g4 hb3.size⟩

theorem tmod_in (v : Int) : -10000 ≤ Int.tmod v 10001 ∧ Int.tmod v 10001 ≤ 10000 := by
  rcases Int.lt_or_le v 0 with h | h
  · have e : Int.tmod v 10001 = -(Int.tmod (-v) 10001) := by rw [Int.neg_tmod]; omega
    rw [e, Int.tmod_eq_emod_of_nonneg (by omega)]; omega
  · rw [Int.tmod_eq_emod_of_nonneg h]; omega
set_option maxRecDepth 100000 in
set_option maxHeartbeats 2000000 in
theorem DeadBack_calls (h f s t : Int) (w : World) (hg : Laid w) (w0 : (Lit.int .u16 h).wf = true) (w1 : (Lit.int .i16 f).wf = true) (w2 : (Lit.int .i16 s).wf = true) (w3 : (Lit.int .u16 t).wf = true) :
    Calls Tryd.prog 6 #[.int .u16 h, .int .i16 f, .int .i16 s, .int .u16 t] w fun e w' => e = .returned (.bool true) ∧ Below w.heap.size w w' := by
  obtain ⟨h0, h1⟩ := wf_u16 w0
  obtain ⟨t0, t1⟩ := wf_u16 w3
  have f0 : -32768 ≤ f ∧ f ≤ 32767 := by simp [Lit.wf, IntKind.min, IntKind.max, IntKind.bits, IntKind.signed] at w1; omega
  have s0 : -32768 ≤ s ∧ s ≤ 32767 := by simp [Lit.wf, IntKind.min, IntKind.max, IntKind.bits, IntKind.signed] at w2; omega
  clear w0 w1 w2 w3
  have K := known_calls w hg
  have fa := tmod_in f
  have sa := tmod_in s
  generalize ha : Int.tmod f 10001 = a at *
  generalize hb : Int.tmod s 10001 = b at *
  have M1 := fun W => Move_ok h a b (t % 60001) h0 (by omega) (by omega) (by unfold MoveOk; omega) W
  have M2 := fun W => Move_ok ((h + 32768) % 65536) a b (t % 60001) (by omega) (by omega) (by omega) (by unfold MoveOk; omega) W
  have M3 := fun W => Move_ok h (-a) (-b) (t % 60001) h0 (by omega) (by omega) (by unfold MoveOk; omega) W
  obtain ⟨X, hX, X', hX', lx0, lx1, bx0, bx1⟩ : ∃ X, moveX h a b (t % 60001) = X ∧ ∃ X', (moveX ((h + 32768) % 65536) a b (t % 60001) = X' ∧ moveX h (-a) (-b) (t % 60001) = X') ∧ 0 ≤ X + X' ∧ X + X' ≤ 1 ∧ -4611686018427387904 ≤ X ∧ X ≤ 4611686018427387904 := by
    refine ⟨_, rfl, rnd (-((a * sinN h + b * cosN h) * (t % 60001))) 32768000, ⟨?_, ?_⟩, ?_⟩
    · unfold moveX
      rw [sin_half h h0 (by omega), cos_half, Int.mul_neg, Int.mul_neg, ← Int.neg_add, Int.neg_mul]
    · unfold moveX
      rw [Int.neg_mul, Int.neg_mul, ← Int.neg_add, Int.neg_mul]
    · obtain ⟨o0, o1⟩ := rnd_opp ((a * sinN h + b * cosN h) * (t % 60001)) 32768000 (by decide)
      obtain ⟨_, n0, n1⟩ := sin_tells h h0 (by omega)
      obtain ⟨_, c0, c1⟩ := cos_tells h
      have p1 := prod_bound 10000 51472 (by decide) (by decide) fa.1 fa.2 n0 n1
      have p2 := prod_bound 10000 51472 (by decide) (by decide) sa.1 sa.2 c0 c1
      have q1 := prod_bound (y := a * sinN h + b * cosN h) (c := t % 60001) 2000000000 60000 (by decide) (by decide) (by omega) (by omega) (by omega) (by omega)
      exact ⟨o0, o1, rnd_ge (by decide) (by omega), rnd_le (by decide) (by omega)⟩
  obtain ⟨Y, hY, Y', hY', ly0, ly1, by0, by1⟩ : ∃ Y, moveY h a b (t % 60001) = Y ∧ ∃ Y', (moveY ((h + 32768) % 65536) a b (t % 60001) = Y' ∧ moveY h (-a) (-b) (t % 60001) = Y') ∧ 0 ≤ Y + Y' ∧ Y + Y' ≤ 1 ∧ -4611686018427387904 ≤ Y ∧ Y ≤ 4611686018427387904 := by
    refine ⟨_, rfl, rnd (-((a * cosN h - b * sinN h) * (t % 60001))) 32768000, ⟨?_, ?_⟩, ?_⟩
    · unfold moveY
      rw [sin_half h h0 (by omega), cos_half, Int.mul_neg, Int.mul_neg, show -(a * cosN h) - -(b * sinN h) = -(a * cosN h - b * sinN h) by omega, Int.neg_mul]
    · unfold moveY
      rw [Int.neg_mul a, Int.neg_mul b, show -(a * cosN h) - -(b * sinN h) = -(a * cosN h - b * sinN h) by omega, Int.neg_mul]
    · obtain ⟨o0, o1⟩ := rnd_opp ((a * cosN h - b * sinN h) * (t % 60001)) 32768000 (by decide)
      obtain ⟨_, n0, n1⟩ := sin_tells h h0 (by omega)
      obtain ⟨_, c0, c1⟩ := cos_tells h
      have p1 := prod_bound 10000 51472 (by decide) (by decide) fa.1 fa.2 c0 c1
      have p2 := prod_bound 10000 51472 (by decide) (by decide) sa.1 sa.2 n0 n1
      have q1 := prod_bound (y := a * cosN h - b * sinN h) (c := t % 60001) 2000000000 60000 (by decide) (by decide) (by omega) (by omega) (by omega) (by omega)
      exact ⟨o0, o1, rnd_ge (by decide) (by omega), rnd_le (by decide) (by omega)⟩
  rw [hX, hY] at M1
  rw [hX'.1, hY'.1] at M2
  rw [hX'.2, hY'.2] at M3
  clear hX hX' hY hY'
  have eh : IntKind.u16.wrap (h + 32768) = (h + 32768) % 65536 := u16w _
  go_enter Tryd.func6, Tryd.ntmps6
  go_wp2_with (first
    | (go_at_call 18; refine K.mono ?_; rintro e w1 ⟨rfl, k1⟩)
    | (go_at_call 19; first
      | ((with_reducible refine (M1 _).mono ?_); rintro e w2 ⟨rfl, g2⟩)
      | ((with_reducible refine (M2 _).mono ?_); rintro e w3 ⟨rfl, g3⟩
         have c31 := fresh0 g3
         have c32 := fresh1 g3
         have d31 := keepA c31
         have d32 := keepA c32)
      | ((with_reducible refine (M3 _).mono ?_); rintro e w4 ⟨rfl, g4⟩
         have c41 := keep g4 c31
         have c42 := keep g4 c32
         have c43 := fresh0 g4
         have c44 := fresh1 g4
         have d41 := keepA c41
         have d42 := keepA c42
         have d43 := keepA c43
         have d44 := keepA c44))
    | go_in)
  go_ret
  have h2 := k1.trans (g2.mono k1.size)
  have h3 := alloc_trans h2 g3 h2.size
  have h4 := alloc_trans h3 g4 h3.size
  exact ⟨rfl, h4.alloc h4.size _⟩
end Go.Proofs.YtaiolioggjknfaaDoor.YDead
