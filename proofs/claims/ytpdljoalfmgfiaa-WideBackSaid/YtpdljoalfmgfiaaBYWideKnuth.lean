/- Lean functions, contracts and lemmas that this claim needs. No condition. -/
import Derived.Test.YtpdljoalfmgfiaaBYShiftP
import Derived.Test.YtpdljoalfmgfiaaBYWideTake
namespace Go.Proofs.Ytpdljoalfmgfiaa.YWide
open Go.RowKit Go.Proofs.Ytpdljoalfmgfiaa.YInv Go.Proofs.Ytpdljoalfmgfiaa.YErr Go.Proofs.Ytpdljoalfmgfiaa.YRef Go.Proofs.Ytpdljoalfmgfiaa.YNum Go.Proofs.Ytpdljoalfmgfiaa.YBits Go.Proofs.Ytpdljoalfmgfiaa.XCarry Go.Proofs.Ytpdljoalfmgfiaa.QWd Go.Proofs.YtpdljoalfmgfiaaW.PrintWords Go.Proofs.YtpdljoalfmgfiaaW.PrintLast
set_option linter.unusedVariables false
set_option linter.unusedSimpArgs false
set_option maxHeartbeats 1000000
theorem or_turned (x y : Int) : Go.bits .or .u64 x y = Go.bits .or .u64 y x := by
  show IntKind.u64.wrap (((BitVec.ofInt 64 x ||| BitVec.ofInt 64 y).toNat : Nat) : Int) = IntKind.u64.wrap (((BitVec.ofInt 64 y ||| BitVec.ofInt 64 x).toNat : Nat) : Int)
  rw [BitVec.or_comm]
theorem split_pow {s : Nat} (hs : s ≤ 64) : (2 : Int) ^ s * 2 ^ (64 - s) = 18446744073709551616 := by
  rw [← Int.pow_add, show s + (64 - s) = 64 by omega]; rfl
/-- A limb moved up: its low part stays, its high part goes on. -/
theorem moved {v P Z : Int} (hP : 0 < P) (hZ : 0 < Z) (h : P * Z = 18446744073709551616) (v0 : 0 ≤ v) (v1 : v < 18446744073709551616) :
    v * P % 18446744073709551616 = P * (v % Z) ∧ 0 ≤ v / Z ∧ v / Z < P ∧ P * (v % Z) + v / Z * 18446744073709551616 = v * P ∧ 0 ≤ v % Z ∧ v % Z < Z := by
  have e := Int.mul_ediv_add_emod v Z
  have z0 := Int.emod_nonneg v (show Z ≠ 0 by omega)
  have z1 := Int.emod_lt_of_pos v hZ
  have q0 : 0 ≤ v / Z := Int.ediv_nonneg v0 (by omega)
  have q1 : v / Z < P := by
    apply Int.ediv_lt_of_lt_mul hZ
    rw [h]; exact v1
  have e2 : P * (v % Z) + v / Z * 18446744073709551616 = v * P := by
    rw [← h]
    generalize v / Z = q at *
    generalize v % Z = t at *
    have e3 : q * (P * Z) = Z * q * P := by rw [Int.mul_comm P Z, ← Int.mul_assoc, Int.mul_comm q Z]
    have e4 : (Z * q + t) * P = v * P := by rw [e]
    rw [Int.add_mul, Int.mul_comm t P] at e4
    omega
  refine ⟨?_, q0, q1, e2, z0, z1⟩
  rw [← e2, Int.add_mul_emod_self_right]
  refine Int.emod_eq_of_lt (Int.mul_nonneg (by omega) z0) ?_
  have : P * (v % Z) < P * Z := Int.mul_lt_mul_of_pos_left z1 hP
  omega
end Go.Proofs.Ytpdljoalfmgfiaa.YWide
