/- Lean functions, contracts and lemmas that this claim needs. No condition. -/
import Derived.Test.YtpdljoalfmgfiaaBQWdx2
import Derived.Test.YtpdljoalfmgfiaaBYNegP
import Derived.Test.YtpdljoalfmgfiaaBYRef
namespace Go.Proofs.Ytpdljoalfmgfiaa.YRef
open Go.RowKit Go.Proofs.Ytpdljoalfmgfiaa.QWd Go.Proofs.Ytpdljoalfmgfiaa.YBits Go.Proofs.YtpdljoalfmgfiaaW.PrintWords Go.Proofs.YtpdljoalfmgfiaaW.PrintLast
set_option linter.unusedVariables false
set_option linter.unusedSimpArgs false
theorem trim_tells (K : Nat) : ∀ (n : Nat) (l : List Int), l.length = n → Dig l → n < 1099511627776 → leadlineref1_trim.l0 (K + n + 1) l = some (limbs (val l)) := by
  intro n
  induction n with
  | zero =>
    intro l hn hl _
    have : l = [] := List.length_eq_zero_iff.1 hn
    subst this
    rw [leadlineref1_trim.l0, if_neg (by simp), limbs_nil (by simp [val, pv])]
  | succ n ih =>
    intro l hn hl hs
    rw [show K + (n + 1) + 1 = (K + n + 1) + 1 by omega, leadlineref1_trim.l0, if_pos (by omega)]
    have ew : wrap64 ((l.length : Int) - 1) = (n : Int) := by rw [wid (by omega) (by omega)]; omega
    rw [ew, if_pos (by omega), if_pos (by omega), dg_rd]
    by_cases h : dg l n = 0
    · rw [if_pos h, if_pos (by omega), Int.toNat_natCast, ih (l.take n) (by simp; omega) (fun x hx => hl x (List.mem_of_mem_take hx)) (by omega)]
      congr 2
      unfold val
      rw [show (l.take n).length = n by simp; omega, pv_take _ _ _ (Nat.le_refl _), hn, pv, h, Int.zero_mul]; omega
    · rw [if_neg h, limbs_of l hl (.inr (by rw [hn]; exact h))]
theorem trimf (K : Nat) (l : List Int) (hl : Dig l) (hn : l.length ≤ K) (hs : l.length < 1099511627776) : leadlineref1_trim.f (K + 1) l = some (limbs (val l)) := by
  obtain ⟨d, rfl⟩ := Nat.exists_eq_add_of_le hn
  have := trim_tells d l.length l rfl hl hs
  rw [show d + l.length + 1 = l.length + d + 1 by omega] at this
  exact this
theorem made_tells (b : Bool) (x : Int) : leadlineref1_made.f b (limbs x) = some (b && decide (0 < x), limbs x) := by
  unfold leadlineref1_made.f
  cases b
  · rfl
  · rw [if_pos rfl]
    congr 2
    simp only [limbs_len_pos, Bool.true_and]
theorem made_sg (b : Bool) {x : Int} (hx : 0 ≤ x) : leadlineref1_made.f b (limbs x) = some (sg (if b = true then -x else x), mag (if b = true then -x else x)) := by
  rw [made_tells]
  cases b with
  | true =>
    simp only [if_true, Bool.true_and, sg, mag, ab]
    by_cases h : 0 < x
    · rw [if_pos (by omega), show - -x = x by omega]; congr 2; simp [h]
    · have : x = 0 := by omega
      subst this; rfl
  | false =>
    simp only [Bool.false_eq_true, if_false, Bool.false_and, sg, mag, ab]
    rw [if_neg (by omega)]; congr 2; simp; omega
theorem Neg_tells {x : Int} : leadlineref1_Neg.f (sg x) (mag x) = some (sg (-x), mag (-x)) := by
  unfold leadlineref1_Neg.f mag
  rw [made_sg _ (show 0 ≤ ab x by unfold ab; split <;> omega)]
  simp only [Option.bind_some]
  have : (if (!sg x) = true then -ab x else ab x) = -x := by
    unfold sg ab; by_cases h : x < 0 <;> simp [h]
  rw [this]; rfl
end Go.Proofs.Ytpdljoalfmgfiaa.YRef
