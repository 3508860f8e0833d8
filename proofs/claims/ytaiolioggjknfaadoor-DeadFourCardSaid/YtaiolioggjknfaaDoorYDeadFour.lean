/- The statement DeadFour of layer 15: the walk, a quarter at a time. Condition: errors.errorType holds its type's handle. Printed by a program of this session. -/
import Derived.Test.YtaiolioggjknfaaDoorYDeadRef
import Derived.Deep.RegionHeld3
namespace Go.Proofs.YtaiolioggjknfaaDoor.YDead
open Go.RowKit Go.Extern.Stop Go.Stop Go.Extern Go.Proofs.YtaiolioggjknfaaDoor.QSn Go.Proofs.YtaiolioggjknfaaDoor.YBits Go.Proofs.YtaiolioggjknfaaDoor.YFx Go.Proofs.YtaiolioggjknfaaDoor.YAng Go.Proofs.YtaiolioggjknfaaDoor.YErr Go.Proofs.YtaiolioggjknfaaDoorW.PrintWords Go.Proofs.YtaiolioggjknfaaDoorW.PrintLast
set_option linter.unusedVariables false
set_option linter.unusedSimpArgs false

theorem rnd_scale (p : Int) : rnd (p * 32768) 32768000 = rnd p 1000 := by
  unfold rnd
  rw [show 2 * (p * 32768) + 32768000 = 32768 * (2 * p + 1000) by omega, show (2 * 32768000 : Int) = 32768 * (2 * 1000) by decide, Int.mul_ediv_mul_of_pos _ _ (by decide)]
theorem round_c (p : Int) (p0 : -600000000 ≤ p) (p1 : p ≤ 600000000) (W : World) :
    Calls Tryd.prog 33 #[.int .i64 p, .int .i64 1000] W fun e w' => e = .returned (.int .i64 (rnd p 1000)) ∧ Below W.heap.size W w' := by
  have M := YBig.MulDiv_c p 1 1000 (by omega) (by omega) (by decide) (by decide) (by decide)
  have h0 : -9223372036854775808 ≤ rnd p 1000 := rnd_ge (by decide) (by omega)
  have h1 : rnd p 1000 ≤ 9223372036854775807 := rnd_le (by decide) (by omega)
  have e : YBig.mdv p 1 1000 = (rnd p 1000, true) := by
    unfold YBig.mdv YRef.fit64
    rw [if_neg (by decide), Int.mul_one, if_pos ⟨h0, h1⟩]
  rw [e] at M
  clear e h0 h1
  go_enter Tryd.func33, Tryd.ntmps33
  go_wp2_with fail
  refine (M _).mono ?_; rintro e w1 ⟨rfl, g1⟩
  go_wp2_with fail
  go_ret
  exact ⟨rfl, g1⟩


set_option maxRecDepth 100000 in
set_option maxHeartbeats 4000000 in
theorem Four0 (f s t q a b : Int) (w : World) (hg : Laid w) (t0 : 0 ≤ t) (t1 : t < 65536) (hq : q % 4 = 0) (q0 : 0 ≤ q) (q1 : q < 256) (ha : Int.tmod f 10001 = a) (hb : Int.tmod s 10001 = b) (a0 : -10000 ≤ a) (a1 : a ≤ 10000) (b0 : -10000 ≤ b) (b1 : b ≤ 10000) :
    Calls Tryd.prog 12 #[.int .i16 f, .int .i16 s, .int .u16 t, .int .u8 q] w fun e w' => e = .returned (.bool true) ∧ Below w.heap.size w w' := by
  have K := known_calls w hg
  have d0 : 0 ≤ t % 60001 ∧ t % 60001 ≤ 60000 := by omega
  have M := fun W => Move_ok 0 a b (t % 60001) (by decide) (by decide) d0.1 (by unfold MoveOk; omega) W
  have px := prod_bound (y := b) (c := t % 60001) 10000 60000 (by decide) (by decide) (by omega) (by omega) (by omega) (by omega)
  have py := prod_bound (y := a) (c := t % 60001) 10000 60000 (by decide) (by decide) (by omega) (by omega) (by omega) (by omega)
  have eX : moveX 0 a b (t % 60001) = rnd (b * (t % 60001)) 1000 := by
    unfold moveX
    rw [show sinN 0 = 0 by decide +kernel, show cosN 0 = 32768 by decide +kernel, ← rnd_scale]
    congr 1
    generalize t % 60001 = d
    grind
  have eY : moveY 0 a b (t % 60001) = rnd (a * (t % 60001)) 1000 := by
    unfold moveY
    rw [show sinN 0 = 0 by decide +kernel, show cosN 0 = 32768 by decide +kernel, ← rnd_scale]
    congr 1
    generalize t % 60001 = d
    grind
  rw [eX, eY] at M
  have R1 := round_c (b * (t % 60001)) (by omega) (by omega)
  have R2 := round_c (a * (t % 60001)) (by omega) (by omega)
  generalize rnd (b * (t % 60001)) 1000 = X at *
  generalize rnd (a * (t % 60001)) 1000 = Y at *
  have w1 : IntKind.i64.wrap (b * (t % 60001)) = b * (t % 60001) := i64id (by omega) (by omega)
  have w2 : IntKind.i64.wrap (a * (t % 60001)) = a * (t % 60001) := i64id (by omega) (by omega)
  clear eX eY
  go_enter Tryd.func12, Tryd.ntmps12
  go_wp2_with (first
    | (go_at_call 18; refine K.mono ?_; rintro e w1 ⟨rfl, k1⟩)
    | (go_at_call 19; (with_reducible refine (M _).mono ?_); rintro e w2 ⟨rfl, g2⟩))
  have c0 : (w2.alloc (.cells #[.int .i64 X, .int .i64 Y] 35)).cell? ⟨w2.heap.size, 0, none⟩ = some (.int .i64 X) := by go_simp
  have c1 : (w2.alloc (.cells #[.int .i64 X, .int .i64 Y] 35)).cell? ⟨w2.heap.size, 1, none⟩ = some (.int .i64 Y) := by go_simp
  have b2 : Below w.heap.size w (w2.alloc (.cells #[.int .i64 X, .int .i64 Y] 35)) := (YBig.below_both k1 g2).alloc (YBig.below_both k1 g2).size _
  generalize w2.alloc (.cells #[.int .i64 X, .int .i64 Y] 35) = W3 at *
  refine wp_loop_rounds 5 ?_
  rw [rounds_succ]
  go_wp2
  go_region_held3 (fun w' => w'.cell? ⟨w2.heap.size, 0, none⟩ = some (.int .i64 X) ∧ w'.cell? ⟨w2.heap.size, 1, none⟩ = some (.int .i64 Y))
    (first | exact ⟨c0, c1⟩ | exact ⟨YBig.keepB2 g3 c0, YBig.keepB2 g3 c1⟩ | exact ⟨YBig.keepB2 g4 e0, YBig.keepB2 g4 e1⟩)
    (first
      | (go_at_call 33; first
        | ((with_reducible refine (R1 _).mono ?_); rintro e w4 ⟨rfl, g3⟩; have e0 := YBig.keepB2 g3 c0; have e1 := YBig.keepB2 g3 c1)
        | ((with_reducible refine (R2 _).mono ?_); rintro e w5 ⟨rfl, g4⟩)))
  go_wp2
  go_ret
  exact ⟨rfl, YBig.below_both (YBig.below_both b2 (YBig.undrew g3)) g4⟩


set_option maxRecDepth 100000 in
set_option maxHeartbeats 4000000 in
theorem Four1 (f s t q a b : Int) (w : World) (hg : Laid w) (t0 : 0 ≤ t) (t1 : t < 65536) (hq : q % 4 = 1) (q0 : 0 ≤ q) (q1 : q < 256) (ha : Int.tmod f 10001 = a) (hb : Int.tmod s 10001 = b) (a0 : -10000 ≤ a) (a1 : a ≤ 10000) (b0 : -10000 ≤ b) (b1 : b ≤ 10000) :
    Calls Tryd.prog 12 #[.int .i16 f, .int .i16 s, .int .u16 t, .int .u8 q] w fun e w' => e = .returned (.bool true) ∧ Below w.heap.size w w' := by
  have K := known_calls w hg
  have d0 : 0 ≤ t % 60001 ∧ t % 60001 ≤ 60000 := by omega
  have M := fun W => Move_ok 16384 a b (t % 60001) (by decide) (by decide) d0.1 (by unfold MoveOk; omega) W
  have px := prod_bound (y := a) (c := t % 60001) 10000 60000 (by decide) (by decide) (by omega) (by omega) (by omega) (by omega)
  have py := prod_bound (y := -b) (c := t % 60001) 10000 60000 (by decide) (by decide) (by omega) (by omega) (by omega) (by omega)
  have eX : moveX 16384 a b (t % 60001) = rnd (a * (t % 60001)) 1000 := by
    unfold moveX
    rw [show sinN 16384 = 32768 by decide +kernel, show cosN 16384 = 0 by decide +kernel, ← rnd_scale]
    congr 1
    generalize t % 60001 = d
    grind
  have eY : moveY 16384 a b (t % 60001) = rnd ((-b) * (t % 60001)) 1000 := by
    unfold moveY
    rw [show sinN 16384 = 32768 by decide +kernel, show cosN 16384 = 0 by decide +kernel, ← rnd_scale]
    congr 1
    generalize t % 60001 = d
    grind
  rw [eX, eY] at M
  have R1 := round_c (a * (t % 60001)) (by omega) (by omega)
  have R2 := round_c ((-b) * (t % 60001)) (by omega) (by omega)
  generalize rnd (a * (t % 60001)) 1000 = X at *
  generalize rnd ((-b) * (t % 60001)) 1000 = Y at *
  have w1 : IntKind.i64.wrap (a * (t % 60001)) = a * (t % 60001) := i64id (by omega) (by omega)
  have w2 : IntKind.i64.wrap (-b * (t % 60001)) = -b * (t % 60001) := i64id (by omega) (by omega)
  clear eX eY
  go_enter Tryd.func12, Tryd.ntmps12
  go_wp2_with (first
    | (go_at_call 18; refine K.mono ?_; rintro e w1 ⟨rfl, k1⟩)
    | (go_at_call 19; (with_reducible refine (M _).mono ?_); rintro e w2 ⟨rfl, g2⟩))
  have c0 : (w2.alloc (.cells #[.int .i64 X, .int .i64 Y] 35)).cell? ⟨w2.heap.size, 0, none⟩ = some (.int .i64 X) := by go_simp
  have c1 : (w2.alloc (.cells #[.int .i64 X, .int .i64 Y] 35)).cell? ⟨w2.heap.size, 1, none⟩ = some (.int .i64 Y) := by go_simp
  have b2 : Below w.heap.size w (w2.alloc (.cells #[.int .i64 X, .int .i64 Y] 35)) := (YBig.below_both k1 g2).alloc (YBig.below_both k1 g2).size _
  generalize w2.alloc (.cells #[.int .i64 X, .int .i64 Y] 35) = W3 at *
  refine wp_loop_rounds 5 ?_
  rw [rounds_succ]
  go_wp2
  rw [rounds_succ]
  go_wp2
  go_region_held3 (fun w' => w'.cell? ⟨w2.heap.size, 0, none⟩ = some (.int .i64 X) ∧ w'.cell? ⟨w2.heap.size, 1, none⟩ = some (.int .i64 Y))
    (first | exact ⟨c0, c1⟩ | exact ⟨YBig.keepB2 g3 c0, YBig.keepB2 g3 c1⟩ | exact ⟨YBig.keepB2 g4 e0, YBig.keepB2 g4 e1⟩)
    (first
      | (go_at_call 33; first
        | ((with_reducible refine (R1 _).mono ?_); rintro e w4 ⟨rfl, g3⟩; have e0 := YBig.keepB2 g3 c0; have e1 := YBig.keepB2 g3 c1)
        | ((with_reducible refine (R2 _).mono ?_); rintro e w5 ⟨rfl, g4⟩)))
  go_wp2
  go_ret
  exact ⟨rfl, YBig.below_both (YBig.below_both b2 (YBig.undrew g3)) g4⟩


set_option maxRecDepth 100000 in
set_option maxHeartbeats 4000000 in
theorem Four2 (f s t q a b : Int) (w : World) (hg : Laid w) (t0 : 0 ≤ t) (t1 : t < 65536) (hq : q % 4 = 2) (q0 : 0 ≤ q) (q1 : q < 256) (ha : Int.tmod f 10001 = a) (hb : Int.tmod s 10001 = b) (a0 : -10000 ≤ a) (a1 : a ≤ 10000) (b0 : -10000 ≤ b) (b1 : b ≤ 10000) :
    Calls Tryd.prog 12 #[.int .i16 f, .int .i16 s, .int .u16 t, .int .u8 q] w fun e w' => e = .returned (.bool true) ∧ Below w.heap.size w w' := by
  have K := known_calls w hg
  have d0 : 0 ≤ t % 60001 ∧ t % 60001 ≤ 60000 := by omega
  have M := fun W => Move_ok 32768 a b (t % 60001) (by decide) (by decide) d0.1 (by unfold MoveOk; omega) W
  have px := prod_bound (y := -b) (c := t % 60001) 10000 60000 (by decide) (by decide) (by omega) (by omega) (by omega) (by omega)
  have py := prod_bound (y := -a) (c := t % 60001) 10000 60000 (by decide) (by decide) (by omega) (by omega) (by omega) (by omega)
  have eX : moveX 32768 a b (t % 60001) = rnd ((-b) * (t % 60001)) 1000 := by
    unfold moveX
    rw [show sinN 32768 = 0 by decide +kernel, show cosN 32768 = -32768 by decide +kernel, ← rnd_scale]
    congr 1
    generalize t % 60001 = d
    grind
  have eY : moveY 32768 a b (t % 60001) = rnd ((-a) * (t % 60001)) 1000 := by
    unfold moveY
    rw [show sinN 32768 = 0 by decide +kernel, show cosN 32768 = -32768 by decide +kernel, ← rnd_scale]
    congr 1
    generalize t % 60001 = d
    grind
  rw [eX, eY] at M
  have R1 := round_c ((-b) * (t % 60001)) (by omega) (by omega)
  have R2 := round_c ((-a) * (t % 60001)) (by omega) (by omega)
  generalize rnd ((-b) * (t % 60001)) 1000 = X at *
  generalize rnd ((-a) * (t % 60001)) 1000 = Y at *
  have w1 : IntKind.i64.wrap (-b * (t % 60001)) = -b * (t % 60001) := i64id (by omega) (by omega)
  have w2 : IntKind.i64.wrap (-a * (t % 60001)) = -a * (t % 60001) := i64id (by omega) (by omega)
  clear eX eY
  go_enter Tryd.func12, Tryd.ntmps12
  go_wp2_with (first
    | (go_at_call 18; refine K.mono ?_; rintro e w1 ⟨rfl, k1⟩)
    | (go_at_call 19; (with_reducible refine (M _).mono ?_); rintro e w2 ⟨rfl, g2⟩))
  have c0 : (w2.alloc (.cells #[.int .i64 X, .int .i64 Y] 35)).cell? ⟨w2.heap.size, 0, none⟩ = some (.int .i64 X) := by go_simp
  have c1 : (w2.alloc (.cells #[.int .i64 X, .int .i64 Y] 35)).cell? ⟨w2.heap.size, 1, none⟩ = some (.int .i64 Y) := by go_simp
  have b2 : Below w.heap.size w (w2.alloc (.cells #[.int .i64 X, .int .i64 Y] 35)) := (YBig.below_both k1 g2).alloc (YBig.below_both k1 g2).size _
  generalize w2.alloc (.cells #[.int .i64 X, .int .i64 Y] 35) = W3 at *
  refine wp_loop_rounds 5 ?_
  rw [rounds_succ]
  go_wp2
  rw [rounds_succ]
  go_wp2
  rw [rounds_succ]
  go_wp2
  go_region_held3 (fun w' => w'.cell? ⟨w2.heap.size, 0, none⟩ = some (.int .i64 X) ∧ w'.cell? ⟨w2.heap.size, 1, none⟩ = some (.int .i64 Y))
    (first | exact ⟨c0, c1⟩ | exact ⟨YBig.keepB2 g3 c0, YBig.keepB2 g3 c1⟩ | exact ⟨YBig.keepB2 g4 e0, YBig.keepB2 g4 e1⟩)
    (first
      | (go_at_call 33; first
        | ((with_reducible refine (R1 _).mono ?_); rintro e w4 ⟨rfl, g3⟩; have e0 := YBig.keepB2 g3 c0; have e1 := YBig.keepB2 g3 c1)
        | ((with_reducible refine (R2 _).mono ?_); rintro e w5 ⟨rfl, g4⟩)))
  go_wp2
  go_ret
  exact ⟨rfl, YBig.below_both (YBig.below_both b2 (YBig.undrew g3)) g4⟩


set_option maxRecDepth 100000 in
set_option maxHeartbeats 4000000 in
theorem Four3 (f s t q a b : Int) (w : World) (hg : Laid w) (t0 : 0 ≤ t) (t1 : t < 65536) (hq : q % 4 = 3) (q0 : 0 ≤ q) (q1 : q < 256) (ha : Int.tmod f 10001 = a) (hb : Int.tmod s 10001 = b) (a0 : -10000 ≤ a) (a1 : a ≤ 10000) (b0 : -10000 ≤ b) (b1 : b ≤ 10000) :
    Calls Tryd.prog 12 #[.int .i16 f, .int .i16 s, .int .u16 t, .int .u8 q] w fun e w' => e = .returned (.bool true) ∧ Below w.heap.size w w' := by
  have K := known_calls w hg
  have d0 : 0 ≤ t % 60001 ∧ t % 60001 ≤ 60000 := by omega
  have M := fun W => Move_ok 49152 a b (t % 60001) (by decide) (by decide) d0.1 (by unfold MoveOk; omega) W
  have px := prod_bound (y := -a) (c := t % 60001) 10000 60000 (by decide) (by decide) (by omega) (by omega) (by omega) (by omega)
  have py := prod_bound (y := b) (c := t % 60001) 10000 60000 (by decide) (by decide) (by omega) (by omega) (by omega) (by omega)
  have eX : moveX 49152 a b (t % 60001) = rnd ((-a) * (t % 60001)) 1000 := by
    unfold moveX
    rw [show sinN 49152 = -32768 by decide +kernel, show cosN 49152 = 0 by decide +kernel, ← rnd_scale]
    congr 1
    generalize t % 60001 = d
    grind
  have eY : moveY 49152 a b (t % 60001) = rnd (b * (t % 60001)) 1000 := by
    unfold moveY
    rw [show sinN 49152 = -32768 by decide +kernel, show cosN 49152 = 0 by decide +kernel, ← rnd_scale]
    congr 1
    generalize t % 60001 = d
    grind
  rw [eX, eY] at M
  have R1 := round_c ((-a) * (t % 60001)) (by omega) (by omega)
  have R2 := round_c (b * (t % 60001)) (by omega) (by omega)
  generalize rnd ((-a) * (t % 60001)) 1000 = X at *
  generalize rnd (b * (t % 60001)) 1000 = Y at *
  have w1 : IntKind.i64.wrap (-a * (t % 60001)) = -a * (t % 60001) := i64id (by omega) (by omega)
  have w2 : IntKind.i64.wrap (b * (t % 60001)) = b * (t % 60001) := i64id (by omega) (by omega)
  clear eX eY
  go_enter Tryd.func12, Tryd.ntmps12
  go_wp2_with (first
    | (go_at_call 18; refine K.mono ?_; rintro e w1 ⟨rfl, k1⟩)
    | (go_at_call 19; (with_reducible refine (M _).mono ?_); rintro e w2 ⟨rfl, g2⟩))
  have c0 : (w2.alloc (.cells #[.int .i64 X, .int .i64 Y] 35)).cell? ⟨w2.heap.size, 0, none⟩ = some (.int .i64 X) := by go_simp
  have c1 : (w2.alloc (.cells #[.int .i64 X, .int .i64 Y] 35)).cell? ⟨w2.heap.size, 1, none⟩ = some (.int .i64 Y) := by go_simp
  have b2 : Below w.heap.size w (w2.alloc (.cells #[.int .i64 X, .int .i64 Y] 35)) := (YBig.below_both k1 g2).alloc (YBig.below_both k1 g2).size _
  generalize w2.alloc (.cells #[.int .i64 X, .int .i64 Y] 35) = W3 at *
  refine wp_loop_rounds 5 ?_
  rw [rounds_succ]
  go_wp2
  rw [rounds_succ]
  go_wp2
  rw [rounds_succ]
  go_wp2
  rw [rounds_succ]
  go_wp2
  go_region_held3 (fun w' => w'.cell? ⟨w2.heap.size, 0, none⟩ = some (.int .i64 X) ∧ w'.cell? ⟨w2.heap.size, 1, none⟩ = some (.int .i64 Y))
    (first | exact ⟨c0, c1⟩ | exact ⟨YBig.keepB2 g3 c0, YBig.keepB2 g3 c1⟩ | exact ⟨YBig.keepB2 g4 e0, YBig.keepB2 g4 e1⟩)
    (first
      | (go_at_call 33; first
        | ((with_reducible refine (R1 _).mono ?_); rintro e w4 ⟨rfl, g3⟩; have e0 := YBig.keepB2 g3 c0; have e1 := YBig.keepB2 g3 c1)
        | ((with_reducible refine (R2 _).mono ?_); rintro e w5 ⟨rfl, g4⟩)))
  go_wp2
  go_ret
  exact ⟨rfl, YBig.below_both (YBig.below_both b2 (YBig.undrew g3)) g4⟩

theorem DeadFour_calls (f s t q : Int) (w : World) (hg : Laid w) (w0 : (Lit.int .i16 f).wf = true) (w1 : (Lit.int .i16 s).wf = true) (w2 : (Lit.int .u16 t).wf = true) (w3 : (Lit.int .u8 q).wf = true) :
    Calls Tryd.prog 12 #[.int .i16 f, .int .i16 s, .int .u16 t, .int .u8 q] w fun e w' => e = .returned (.bool true) ∧ Below w.heap.size w w' := by
  obtain ⟨t0, t1⟩ := wf_u16 w2
  have q0 : 0 ≤ q ∧ q < 256 := by simp [Lit.wf, IntKind.min, IntKind.max, IntKind.bits, IntKind.signed] at w3; omega
  have fa := tmod_in f
  have sa := tmod_in s
  rcases (by omega : q % 4 = 0 ∨ q % 4 = 1 ∨ q % 4 = 2 ∨ q % 4 = 3) with h | h | h | h
  · exact Four0 f s t q _ _ w hg t0 (by omega) h q0.1 q0.2 rfl rfl fa.1 fa.2 sa.1 sa.2
  · exact Four1 f s t q _ _ w hg t0 (by omega) h q0.1 q0.2 rfl rfl fa.1 fa.2 sa.1 sa.2
  · exact Four2 f s t q _ _ w hg t0 (by omega) h q0.1 q0.2 rfl rfl fa.1 fa.2 sa.1 sa.2
  · exact Four3 f s t q _ _ w hg t0 (by omega) h q0.1 q0.2 rfl rfl fa.1 fa.2 sa.1 sa.2
end Go.Proofs.YtaiolioggjknfaaDoor.YDead
