/- Lean functions, contracts and lemmas that this claim needs. No condition. -/
import Derived.Test.YtfcandmhalhaeaaDoorAQSyx5
import Derived.Test.YtfcandmhalhaeaaDoorAYRef
namespace Go.Proofs.YtfcandmhalhaeaaDoor.YRef
open Go.RowKit Go.Proofs.YtfcandmhalhaeaaDoor.QSy Go.Proofs.YtfcandmhalhaeaaDoor.YBits Go.Proofs.YtfcandmhalhaeaaDoorW.PrintWords Go.Proofs.YtfcandmhalhaeaaDoorW.PrintLast
set_option linter.unusedVariables false
set_option linter.unusedSimpArgs false
theorem Sign_tells (x : Int) : leadlineref1_Sign.f (sg x) (mag x) = some (if x = 0 then 0 else if x < 0 then -1 else 1) := by
  unfold leadlineref1_Sign.f
  have hl : 0 < (mag x).length ↔ 0 < ab x := limbs_len_pos
  unfold ab at hl
  by_cases h : x = 0
  · rw [if_pos h, if_pos]
    subst h; simp at hl; simp [hl]
  · rw [if_neg h, if_neg (by split at hl <;> omega)]
    unfold sg
    by_cases hx : x < 0 <;> simp [hx]
theorem Cmp_tells (K : Nat) {x y : Int} (hx : Small x) (hy : Small y) : leadlineref1_Cmp.f (K + 2000) (sg x) (mag x) (sg y) (mag y) = some (if x = y then 0 else if x < y then -1 else 1) := by
  unfold leadlineref1_Cmp.f
  rw [Sub_tells K hx hy, Option.bind_some]
  simp only []
  rw [Sign_tells, Option.bind_some]
  congr 1
  by_cases h : x = y
  · rw [if_pos h, if_pos (by omega)]
  · rw [if_neg h, if_neg (by omega)]
    by_cases h' : x < y
    · rw [if_pos h', if_pos (by omega)]
    · rw [if_neg h', if_neg (by omega)]
theorem Fits_tells (K : Nat) {x m : Int} (hx : Small x) (m0 : -9223372036854775808 ≤ m) (m1 : m ≤ 9223372036854775807) :
    leadlineref1_Fits.f (K + 2000) (sg x) (mag x) m = some (decide (ab x ≤ m)) := by
  unfold leadlineref1_Fits.f
  have hs : Small (ab x) := by unfold Small ab at *; split <;> omega
  rw [Amount_tells, Of_tells K m0 m1]
  simp only [Option.bind_some]
  rw [Cmp_tells K hs (small_i64 m0 m1), Option.bind_some]
  congr 1
  by_cases h : ab x = m
  · rw [if_pos h]; simp; omega
  · rw [if_neg h]
    by_cases h' : ab x < m
    · rw [if_pos h']; simp; omega
    · rw [if_neg h']; simp; omega
end Go.Proofs.YtfcandmhalhaeaaDoor.YRef
