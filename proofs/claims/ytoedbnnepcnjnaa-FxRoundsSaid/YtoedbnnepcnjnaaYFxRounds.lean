/- The statement FxRounds of layer 2: the walk. No condition but the numbers' kinds. -/
import Derived.Test.YtoedbnnepcnjnaaYRefMd
import Derived.Test.YtoedbnnepcnjnaaYFx
namespace Go.Proofs.Ytoedbnnepcnjnaa.YRounds
open Go.RowKit Go.Proofs.Ytoedbnnepcnjnaa.QFr Go.Proofs.Ytoedbnnepcnjnaa.YBits Go.Proofs.Ytoedbnnepcnjnaa.YFx Go.Proofs.Ytoedbnnepcnjnaa.YRef Go.Proofs.Ytoedbnnepcnjnaa.YBig Go.Proofs.YtoedbnnepcnjnaaW.PrintWords Go.Proofs.YtoedbnnepcnjnaaW.PrintLast
set_option linter.unusedVariables false
set_option linter.unusedSimpArgs false

theorem fx_md (x y z : Int) (x0 : -9223372036854775808 ≤ x) (x1 : x ≤ 9223372036854775807) (y0 : -9223372036854775808 ≤ y) (y1 : y ≤ 9223372036854775807) (z1 : z ≤ 9223372036854775807) : fx_MulDiv.f 16 x y z = some (mdv x y z) := by
  unfold mdv
  by_cases h : z < 1
  · rw [if_pos h]
    unfold fx_MulDiv.f
    rw [if_pos (by omega)]
  · rw [if_neg h]
    exact muldiv_tells 0 x y z x0 x1 y0 y1 (by omega) z1
theorem drawn_below {B : Nat} {a w w' : World} (h : Below B a w) (hd : Drawn0 w w') : Below B a w' := by
  obtain ⟨n, rfl⟩ := hd
  induction n with
  | zero => exact h
  | succ n ih => rw [← World.drew_drewN]; exact ih.drew
theorem wf64 {a : Int} (h : (Lit.int .i64 a).wf = true) : -9223372036854775808 ≤ a ∧ a ≤ 9223372036854775807 := by
  simp [Lit.wf, IntKind.min, IntKind.max, IntKind.bits, IntKind.signed] at h; omega
set_option maxRecDepth 100000 in
set_option maxHeartbeats 2000000 in
theorem FxRounds_calls (a b c k m n : Int) (w : World) (w0 : (Lit.int .i64 a).wf = true) (w1 : (Lit.int .i64 b).wf = true) (w2 : (Lit.int .i64 c).wf = true) (w3 : (Lit.int .u8 k).wf = true) (w4 : (Lit.int .u8 m).wf = true) (w5 : (Lit.int .u8 n).wf = true) :
    Calls Try.prog 11 #[.int .i64 a, .int .i64 b, .int .i64 c, .int .u8 k, .int .u8 m, .int .u8 n] w fun e w' => e = .returned (.bool true) ∧ Below w.heap.size w w' := by
  obtain ⟨a0, a1⟩ := wf64 w0
  obtain ⟨b0, b1⟩ := wf64 w1
  obtain ⟨c0, c1⟩ := wf64 w2
  obtain ⟨x, hx, x0, x1⟩ := near_tells a k a0 a1
  obtain ⟨y, hy, y0, y1⟩ := near_tells b m b0 b1
  obtain ⟨z, hz, z0, z1⟩ := near_tells c n c0 c1
  have K := leadlinelaw2_known.calls 90 true w known_holds
  have N1 := fun W => leadlinelaw2_near.calls a k x W hx
  have N2 := fun W => leadlinelaw2_near.calls b m y W hy
  have N3 := fun W => leadlinelaw2_near.calls c n z W hz
  have F : ∀ W, Calls Try.prog 25 #[.int .i64 x, .int .i64 y, .int .i64 z] W fun e w' => e = .returned (.tuple #[.int .i64 (mdv x y z).1, .bool (mdv x y z).2]) ∧ Drawn0 W w' := fun W => fx_MulDiv.calls 16 x y z _ _ W (fx_md x y z x0 x1 y0 y1 z1)
  have R := MulDiv_c x y z x0 x1 y0 y1 z1
  generalize (mdv x y z).1 = p at *
  generalize (mdv x y z).2 = q at *
  clear hx hy hz
  go_enter Try.func11, Try.ntmps11
  go_wp2_with fail
  refine K.mono ?_; rintro e w1 ⟨rfl, g1⟩
  go_wp2_with fail
  refine (N1 _).mono ?_; rintro e w2 ⟨rfl, g2⟩
  go_wp2_with fail
  refine (N2 _).mono ?_; rintro e w3 ⟨rfl, g3⟩
  go_wp2_with fail
  refine (N3 _).mono ?_; rintro e w4 ⟨rfl, g4⟩
  go_wp2_with fail
  refine (F _).mono ?_; rintro e w5 ⟨rfl, g5⟩
  go_wp2_with fail
  refine (R _).mono ?_; rintro e w6 ⟨rfl, g6⟩
  go_wp2_with fail
  go_ret
  exact ⟨rfl, below_both (drawn_below (drawn_below (drawn_below (drawn_below (drawn_below (Below.refl _ _) g1) g2) g3) g4) g5) g6⟩
end Go.Proofs.Ytoedbnnepcnjnaa.YRounds
