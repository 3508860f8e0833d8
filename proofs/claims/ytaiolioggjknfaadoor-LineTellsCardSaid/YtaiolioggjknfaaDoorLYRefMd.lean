/- Lean functions, contracts and lemmas that this claim needs. No condition. -/
import Derived.Test.YtaiolioggjknfaaDoorLYRound
import Derived.Test.YtaiolioggjknfaaDoorLYFx
namespace Go.Proofs.YtaiolioggjknfaaDoor.YBig
open Go.RowKit Go.Proofs.YtaiolioggjknfaaDoor.QSn Go.Proofs.YtaiolioggjknfaaDoor.YBits Go.Proofs.YtaiolioggjknfaaDoor.YRef Go.Proofs.YtaiolioggjknfaaDoorW.PrintWords Go.Proofs.YtaiolioggjknfaaDoorW.PrintLast
set_option linter.unusedVariables false
set_option linter.unusedSimpArgs false
def mdv (a b c : Int) : Int × Bool := if c < 1 then (0, false) else fit64 (YFx.rnd (a * b) c)
theorem prod_in {a b : Int} (a0 : -9223372036854775808 ≤ a) (a1 : a ≤ 9223372036854775807) (b0 : -9223372036854775808 ≤ b) (b1 : b ≤ 9223372036854775807) : -(2 ^ 200) ≤ a * b ∧ a * b ≤ 2 ^ 200 := by
  have h1 : a.natAbs ≤ 9223372036854775808 := by omega
  have h2 : b.natAbs ≤ 9223372036854775808 := by omega
  have h3 : (a * b).natAbs ≤ 9223372036854775808 * 9223372036854775808 := by rw [Int.natAbs_mul]; exact Nat.mul_le_mul h1 h2
  omega
theorem small_64 {a : Int} (a0 : -9223372036854775808 ≤ a) (a1 : a ≤ 9223372036854775807) : Small a := small_256 (by omega) (by omega)
theorem MulDiv_low (a b c : Int) (h : c < 1) (W : World) :
    Calls Tryd.prog 57 #[.int .i64 a, .int .i64 b, .int .i64 c] W fun e w' => e = .returned (.tuple #[.int .i64 0, .bool false]) ∧ Below W.heap.size W w' := by
  go_enter Tryd.func57, Tryd.ntmps57
  go_wp2
  go_ret2
  exact ⟨rfl, Below.refl _ _⟩
set_option maxHeartbeats 1000000 in
theorem MulDiv_high (a b c : Int) (a0 : -9223372036854775808 ≤ a) (a1 : a ≤ 9223372036854775807) (b0 : -9223372036854775808 ≤ b) (b1 : b ≤ 9223372036854775807) (c0 : 1 ≤ c) (c1 : c ≤ 9223372036854775807) (W : World) :
    Calls Tryd.prog 57 #[.int .i64 a, .int .i64 b, .int .i64 c] W fun e w' => e = .returned (.tuple #[.int .i64 (fit64 (YFx.rnd (a * b) c)).1, .bool (fit64 (YFx.rnd (a * b) c)).2]) ∧ Below W.heap.size W w' := by
  have A := Of_c a a0 a1
  have B := Of_c b b0 b1
  have C := Of_c c (by omega) c1
  have pr := prod_in a0 a1 b0 b1
  have er : YFx.rnd (a * b) c = (2 * (a * b) + c) / (2 * c) := rfl
  rw [er]
  clear er
  have sa := small_64 a0 a1
  have sb := small_64 b0 b1
  go_enter Tryd.func57, Tryd.ntmps57
  go_wp2_with fail
  refine (A _).mono ?_; rintro e w1 ⟨va, rfl, ia, g1⟩
  go_wp2_with fail
  refine (B _).mono ?_; rintro e w2 ⟨vb, rfl, ib, g2⟩
  go_wp2_with fail
  refine (Mul_c (ia.below g2) ib sa sb).mono ?_; rintro e w3 ⟨vp, rfl, ip, g3⟩
  go_wp2_with fail
  refine (C _).mono ?_; rintro e w4 ⟨vc, rfl, ic, g4⟩
  go_wp2_with fail
  refine (Round_c (ip.below g4) ic pr.1 pr.2 (by omega) (by omega)).mono ?_; rintro e w5 ⟨vr, rfl, ir, g5⟩
  go_wp2_with fail
  refine (Int64_c ir).mono ?_; rintro e w6 ⟨rfl, g6⟩
  go_wp2_with fail
  go_ret2
  exact ⟨rfl, below_both (below_both (below_both (below_both (below_both g1 g2) g3) g4) g5) g6⟩
theorem MulDiv_c (a b c : Int) (a0 : -9223372036854775808 ≤ a) (a1 : a ≤ 9223372036854775807) (b0 : -9223372036854775808 ≤ b) (b1 : b ≤ 9223372036854775807) (c1 : c ≤ 9223372036854775807) (W : World) :
    Calls Tryd.prog 57 #[.int .i64 a, .int .i64 b, .int .i64 c] W fun e w' => e = .returned (.tuple #[.int .i64 (mdv a b c).1, .bool (mdv a b c).2]) ∧ Below W.heap.size W w' := by
  unfold mdv
  by_cases h : c < 1
  · rw [if_pos h]; exact MulDiv_low a b c h W
  · rw [if_neg h]; exact MulDiv_high a b c a0 a1 b0 b1 (by omega) c1 W
theorem md_c (a b c : Int) (a0 : -9223372036854775808 ≤ a) (a1 : a ≤ 9223372036854775807) (b0 : -9223372036854775808 ≤ b) (b1 : b ≤ 9223372036854775807) (c1 : c ≤ 9223372036854775807) (W : World) :
    Calls Tryd.prog 50 #[.int .i64 a, .int .i64 b, .int .i64 c] W fun e w' => e = .returned (.int .i64 (mdv a b c).1) ∧ Below W.heap.size W w' := by
  have M := MulDiv_c a b c a0 a1 b0 b1 c1
  go_enter Tryd.func50, Tryd.ntmps50
  go_wp2_with fail
  refine (M _).mono ?_; rintro e w1 ⟨rfl, g1⟩
  go_wp2_with fail
  go_ret
  exact ⟨rfl, g1⟩
theorem md_in (a b c : Int) (a0 : -9223372036854775808 ≤ a) (a1 : a ≤ 9223372036854775807) (b0 : -9223372036854775808 ≤ b) (b1 : b ≤ 9223372036854775807) (c0 : 0 < c) (c1 : c ≤ 9223372036854775807)
    (h0 : -9223372036854775808 ≤ YFx.rnd (a * b) c) (h1 : YFx.rnd (a * b) c ≤ 9223372036854775807) (W : World) :
    Calls Tryd.prog 50 #[.int .i64 a, .int .i64 b, .int .i64 c] W fun e w' => e = .returned (.int .i64 (YFx.rnd (a * b) c)) ∧ Below W.heap.size W w' := by
  have M := md_c a b c a0 a1 b0 b1 c1 W
  rw [show mdv a b c = (YFx.rnd (a * b) c, true) by unfold mdv fit64; rw [if_neg (by omega), if_pos ⟨h0, h1⟩]] at M
  exact M
end Go.Proofs.YtaiolioggjknfaaDoor.YBig
