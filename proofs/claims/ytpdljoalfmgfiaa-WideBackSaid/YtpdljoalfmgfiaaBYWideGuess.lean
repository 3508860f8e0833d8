/- Lean functions, contracts and lemmas that this claim needs. No condition. -/
import Derived.Test.YtpdljoalfmgfiaaBYNum
import Derived.Test.YtpdljoalfmgfiaaBYGuessP
namespace Go.Proofs.Ytpdljoalfmgfiaa.YNum
open Go.RowKit Go.Proofs.Ytpdljoalfmgfiaa.QWd Go.Proofs.Ytpdljoalfmgfiaa.YRef Go.Proofs.Ytpdljoalfmgfiaa.YBits Go.Proofs.YtpdljoalfmgfiaaW.PrintWords Go.Proofs.YtpdljoalfmgfiaaW.PrintLast
set_option linter.unusedVariables false
set_option linter.unusedSimpArgs false
/-- What the loop comes to. -/
theorem guess_loop (K : Nat) (u2 u1 u0 v1 v0 : Int) (a2 : 0 ≤ u2) (a1 : 0 ≤ u1) (b1 : u1 < 18446744073709551616) (a0 : 0 ≤ u0) (b0 : u0 < 18446744073709551616) (c1 : 9223372036854775808 ≤ v1) (d1 : v1 < 18446744073709551616) (c0 : 0 ≤ v0) (d0 : v0 < 18446744073709551616) :
    ∀ (n : Nat) (q r o : Int), 0 ≤ q → q < 18446744073709551616 → 0 ≤ r → r < 18446744073709551616 → 0 ≤ o → o ≤ 1 → r + o * 18446744073709551616 + q * v1 = u2 * 18446744073709551616 + u1 →
      18446744073709551616 ≤ r + o * 18446744073709551616 + n * 9223372036854775808 → (∀ p : Int, p < 18446744073709551616 → p * (v1 * 18446744073709551616 + v0) ≤ u2 * 18446744073709551616 * 18446744073709551616 + u1 * 18446744073709551616 + u0 → p ≤ q) →
      ∃ g, wide_guess.l0 (K + n + 1) u0 v1 v0 q r o = some g ∧ 0 ≤ g ∧ g < 18446744073709551616 ∧ g * (v1 * 18446744073709551616 + v0) ≤ u2 * 18446744073709551616 * 18446744073709551616 + u1 * 18446744073709551616 + u0 ∧ (∀ p : Int, p < 18446744073709551616 → p * (v1 * 18446744073709551616 + v0) ≤ u2 * 18446744073709551616 * 18446744073709551616 + u1 * 18446744073709551616 + u0 → p ≤ g) := by
  intro n
  induction n with
  | zero =>
    intro q r o q0 q1 r0 r1 o0 o1 he hn hp
    have ho : o = 1 := by omega
    subst ho
    refine ⟨q, ?_, q0, q1, ?_, hp⟩
    · rw [show K + 0 + 1 = K + 1 by omega, wide_guess.l0, if_neg (by omega)]
    · have h1 : q * v0 ≤ 18446744073709551615 * 18446744073709551615 := Int.mul_le_mul (by omega) (by omega) c0 (by decide)
      rw [Int.mul_add, ← Int.mul_assoc]
      omega
  | succ n ih =>
    intro q r o q0 q1 r0 r1 o0 o1 he hn hp
    have hqv0 : 0 ≤ q * v0 := Int.mul_nonneg q0 c0
    by_cases ho : o = 1
    · subst ho
      refine ⟨q, ?_, q0, q1, ?_, hp⟩
      · rw [show K + (n + 1) + 1 = (K + n + 1) + 1 by omega, wide_guess.l0, if_neg (by omega)]
      · have h1 : q * v0 ≤ 18446744073709551615 * 18446744073709551615 := Int.mul_le_mul (by omega) (by omega) c0 (by decide)
        rw [Int.mul_add, ← Int.mul_assoc]
        omega
    · have ho : o = 0 := by omega
      subst ho
      rw [show K + (n + 1) + 1 = (K + n + 1) + 1 by omega, wide_guess.l0, if_pos rfl, mul64_tells q0 q1 c0 d0, Option.bind_some]
      have hq : q * (v1 * 18446744073709551616 + v0) = (q * v1) * 18446744073709551616 + q * v0 := by rw [Int.mul_add, ← Int.mul_assoc]
      have stop : q * v0 ≤ r * 18446744073709551616 + u0 → q * (v1 * 18446744073709551616 + v0) ≤ u2 * 18446744073709551616 * 18446744073709551616 + u1 * 18446744073709551616 + u0 := fun h => by rw [hq]; omega
      have more : ¬ q * v0 ≤ r * 18446744073709551616 + u0 → ∃ g, ((bits_Add64.f r v1 0).bind fun bt => wide_guess.l0 (K + n + 1) u0 v1 v0 (IntKind.u64.wrap (q - 1)) bt.1 bt.2) = some g ∧ 0 ≤ g ∧ g < 18446744073709551616 ∧ g * (v1 * 18446744073709551616 + v0) ≤ u2 * 18446744073709551616 * 18446744073709551616 + u1 * 18446744073709551616 + u0 ∧ (∀ p : Int, p < 18446744073709551616 → p * (v1 * 18446744073709551616 + v0) ≤ u2 * 18446744073709551616 * 18446744073709551616 + u1 * 18446744073709551616 + u0 → p ≤ g) := by
        intro h
        have q2 : 1 ≤ q := by
          apply Classical.byContradiction
          intro hh
          have : q = 0 := by omega
          subst this
          simp at h
          omega
        rw [add64f r0 (by omega) (by omega) (by omega) (by omega), Option.bind_some]
        have ew : IntKind.u64.wrap (q - 1) = q - 1 := u64id (by omega) (by omega)
        rw [ew]
        have e2 : (q - 1) * v1 = q * v1 - v1 := by rw [Int.sub_mul, Int.one_mul]
        refine ih (q - 1) ((r + v1 + 0) % 18446744073709551616) ((r + v1 + 0) / 18446744073709551616) (by omega) (by omega) (by omega) (by omega) (by omega) (by omega) (by rw [e2]; omega) (by omega) ?_
        intro p p1 hp2
        have h3 := hp p p1 hp2
        rcases Int.lt_or_eq_of_le h3 with h4 | h4
        · omega
        · exfalso
          subst h4
          rw [hq] at hp2
          omega
      by_cases h : q * v0 ≤ r * 18446744073709551616 + u0
      · refine ⟨q, ?_, q0, q1, stop h, hp⟩
        by_cases h1 : q * v0 / 18446744073709551616 < r
        · rw [if_pos h1]
        · rw [if_neg h1, if_pos (by omega), if_pos (by omega)]
      · obtain ⟨g, hg, rest⟩ := more h
        refine ⟨g, ?_, rest⟩
        rw [if_neg (by omega)]
        by_cases h1 : q * v0 / 18446744073709551616 = r
        · rw [if_pos h1, if_neg (by omega)]; exact hg
        · rw [if_neg h1]; exact hg
theorem guess_tells (K : Nat) (u2 u1 u0 v1 v0 : Int) (a2 : 0 ≤ u2) (b2 : u2 ≤ v1) (a1 : 0 ≤ u1) (b1 : u1 < 18446744073709551616) (a0 : 0 ≤ u0) (b0 : u0 < 18446744073709551616) (c1 : 9223372036854775808 ≤ v1) (d1 : v1 < 18446744073709551616) (c0 : 0 ≤ v0) (d0 : v0 < 18446744073709551616) :
    ∃ g, wide_guess.f (K + 16) u2 u1 u0 v1 v0 = some g ∧ 0 ≤ g ∧ g < 18446744073709551616 ∧ g * (v1 * 18446744073709551616 + v0) ≤ u2 * 18446744073709551616 * 18446744073709551616 + u1 * 18446744073709551616 + u0 ∧ (∀ p : Int, p < 18446744073709551616 → p * (v1 * 18446744073709551616 + v0) ≤ u2 * 18446744073709551616 * 18446744073709551616 + u1 * 18446744073709551616 + u0 → p ≤ g) := by
  unfold wide_guess.f
  by_cases h : u2 < v1
  · rw [if_pos h, div64_tells K u2 u1 v1 a2 h a1 b1 d1, Option.bind_some, show K + 16 = (K + 15) + 1 by omega, wide_guess.j0, show K + 15 = (K + 12) + 2 + 1 by omega]
    have e1 := Int.mul_ediv_add_emod (u2 * 18446744073709551616 + u1) v1
    rw [Int.mul_comm v1] at e1
    have e2 := Int.emod_nonneg (u2 * 18446744073709551616 + u1) (show v1 ≠ 0 by omega)
    have e3 := Int.emod_lt_of_pos (u2 * 18446744073709551616 + u1) (show 0 < v1 by omega)
    have e4 : 0 ≤ (u2 * 18446744073709551616 + u1) / v1 := Int.ediv_nonneg (by omega) (by omega)
    have e5 : (u2 * 18446744073709551616 + u1) / v1 < 18446744073709551616 := (Int.ediv_lt_iff_lt_mul (by omega)).2 (by omega)
    have e6 : ∀ p : Int, p * v1 ≤ u2 * 18446744073709551616 + u1 → p ≤ (u2 * 18446744073709551616 + u1) / v1 := fun p hp => (Int.le_ediv_iff_mul_le (by omega)).2 hp
    generalize (u2 * 18446744073709551616 + u1) / v1 = q at *
    generalize (u2 * 18446744073709551616 + u1) % v1 = r at *
    refine guess_loop (K + 12) u2 u1 u0 v1 v0 a2 a1 b1 a0 b0 c1 d1 c0 d0 2 q r 0 e4 e5 e2 (by omega) (by omega) (by omega) (by omega) (by omega) ?_
    intro p p1 hp
    by_cases pn : p < 0
    · omega
    · refine e6 p ?_
      have h1 : 0 ≤ p * v0 := Int.mul_nonneg (by omega) c0
      rw [Int.mul_add, ← Int.mul_assoc] at hp
      omega
  · have hv : u2 = v1 := by omega
    rw [if_neg h, add64f a1 (by omega) (by omega) (by omega) (by omega), Option.bind_some, show K + 16 = (K + 15) + 1 by omega, wide_guess.j0, show K + 15 = (K + 12) + 2 + 1 by omega]
    refine guess_loop (K + 12) u2 u1 u0 v1 v0 a2 a1 b1 a0 b0 c1 d1 c0 d0 2 _ _ _ (by omega) (by omega) (by omega) (by omega) (by omega) (by omega) ?_ (by omega) (fun p p1 _ => by omega)
    subst hv
    omega
/-- The guess is the quotient, or one more. -/
theorem guess_near {u v R U V g : Int} (hR : 0 < R) (u0 : U * R ≤ u) (u1 : u < (U + 1) * R) (v0 : V * R ≤ v) (v1 : v < (V + 1) * R) (hV : 18446744073709551616 * 18446744073709551616 ≤ 2 * V) (hu : 0 ≤ u) (hb : u < v * 18446744073709551616) (g0 : 0 ≤ g) (g1 : g < 18446744073709551616) (h1 : g * V ≤ U) (h2 : ∀ p : Int, p < 18446744073709551616 → p * V ≤ U → p ≤ g) :
    u / v ≤ g ∧ g ≤ u / v + 1 := by
  have vp : 0 < v := by
    have := Int.mul_pos (show 0 < V by omega) hR
    omega
  have e1 := Int.mul_ediv_add_emod u v
  have e2 := Int.emod_nonneg u (show v ≠ 0 by omega)
  have e3 := Int.emod_lt_of_pos u vp
  have q0 : 0 ≤ u / v := Int.ediv_nonneg hu (by omega)
  have q1 : u / v < 18446744073709551616 := (Int.ediv_lt_iff_lt_mul vp).2 (by rw [Int.mul_comm]; exact hb)
  generalize u / v = q at *
  generalize u % v = r at *
  constructor
  · refine h2 q q1 ?_
    have a1 : q * (V * R) ≤ q * v := Int.mul_le_mul_of_nonneg_left v0 q0
    rw [Int.mul_comm q v] at a1
    have a2 : (q * V) * R < (U + 1) * R := by rw [Int.mul_assoc]; omega
    have := Int.lt_of_mul_lt_mul_right a2 (by omega)
    omega
  · apply Classical.byContradiction
    intro hn
    have a1 : (g * V) * R ≤ U * R := Int.mul_le_mul_of_nonneg_right h1 (by omega)
    have a2 : (q + 1) * v ≤ (q + 1) * ((V + 1) * R) := Int.mul_le_mul_of_nonneg_left (by omega) (by omega)
    have a3 : u < (q + 1) * v := by rw [Int.add_mul, Int.one_mul, Int.mul_comm q v]; omega
    have a4 : (g * V) * R < ((q + 1) * (V + 1)) * R := by rw [Int.mul_assoc (q + 1)]; omega
    have a5 := Int.lt_of_mul_lt_mul_right a4 (by omega)
    have a6 : (q + 1) * (V + 1) ≤ (g - 1) * (V + 1) := Int.mul_le_mul_of_nonneg_right (by omega) (by omega)
    have a7 : (g - 1) * (V + 1) = g * V + g - V - 1 := by rw [Int.sub_mul, Int.one_mul, Int.mul_add, Int.mul_one]; omega
    omega
end Go.Proofs.Ytpdljoalfmgfiaa.YNum
