/- Lean functions, contracts and lemmas that this claim needs. No condition. -/
import Derived.Test.YtaiolioggjknfaaDoorLQSnx10
import Derived.Test.YtaiolioggjknfaaDoorLYRef
import Derived.Test.YtaiolioggjknfaaDoorLYFx
namespace Go.Proofs.YtaiolioggjknfaaDoor.YRef
open Go.RowKit Go.Proofs.YtaiolioggjknfaaDoor.QSn Go.Proofs.YtaiolioggjknfaaDoor.YBits Go.Proofs.YtaiolioggjknfaaDoorW.PrintWords Go.Proofs.YtaiolioggjknfaaDoorW.PrintLast
set_option linter.unusedVariables false
set_option linter.unusedSimpArgs false
theorem fit_128 {x : Int} (h0 : 0 ≤ x) (h1 : x < 340282366920938463463374607431768211456) : Fit x := by unfold Fit; omega
theorem rooted_loop (b : Bool) (x : Int) (h0 : 0 ≤ x) (h1 : x < 340282366920938463463374607431768211456) (K : Nat) :
    ∀ (i : Nat) (out : Int), i ≤ 64 → 0 ≤ out → out % 2 ^ i = 0 → out + 2 ^ i ≤ 18446744073709551616 → out * out ≤ x → x < (out + 2 ^ i) * (out + 2 ^ i) →
      ∃ r, leadlineref1_Rooted.l0 (K + 2000 + i + 1) out ((i : Int) - 1) b (limbs x) = some r ∧ 0 ≤ r ∧ r < 18446744073709551616 ∧ r * r ≤ x ∧ x < (r + 1) * (r + 1) := by
  intro i
  induction i with
  | zero =>
    intro out _ o0 _ o1 s0 s1
    refine ⟨out, ?_, o0, by simp at o1; omega, s0, by simpa using s1⟩
    rw [show K + 2000 + 0 + 1 = (K + 2000) + 1 by omega, leadlineref1_Rooted.l0, if_neg (by omega)]
  | succ i ih =>
    intro out hi64 o0 om o1 s0 s1
    have p0 : (0 : Int) < 2 ^ i := Int.pow_pos (by decide)
    have p2 : (2 : Int) ^ (i + 1) = 2 * 2 ^ i := by rw [Int.pow_succ]; omega
    have e1 : (((i + 1 : Nat) : Int) - 1) = (i : Int) := by omega
    rw [e1, show K + 2000 + (i + 1) + 1 = (K + 2000 + i + 1) + 1 by omega, leadlineref1_Rooted.l0, if_pos (by omega), if_pos (by omega)]
    rw [shl_tells 1 i (by omega), Int.one_mul, show (2 : Int) ^ i % 18446744073709551616 = 2 ^ i from Int.emod_eq_of_lt (by omega) (by omega)]
    rw [orN (i + 1) out (2 ^ i) o0 om (by omega) (by omega) (by omega) (by omega)]
    have x0 : 0 < out + 2 ^ i := by omega
    have x1 : out + 2 ^ i < 18446744073709551616 := by omega
    rw [Option.bind_some]
    have fy : Fit (out + 2 ^ i) := fit_128 (by omega) (by omega)
    have xx0 : 0 ≤ (out + 2 ^ i) * (out + 2 ^ i) := Int.mul_nonneg (by omega) (by omega)
    have xx1 : (out + 2 ^ i) * (out + 2 ^ i) ≤ 18446744073709551615 * 18446744073709551615 := Int.mul_le_mul (by omega) (by omega) (by omega) (by decide)
    have fyy : Fit ((out + 2 ^ i) * (out + 2 ^ i)) := fit_128 (by omega) (by omega)
    have er : rd [out + 2 ^ i] 0 = out + 2 ^ i := rfl
    rw [er, limb_one x0 x1, show K + 2000 + i + 1 = (K + i + 1) + 2000 by omega, times_tells (K + i + 1) fy fy, Option.bind_some, cmp_tells (K + i + 1) fyy (fit_128 h0 h1), Option.bind_some]
    have w : wrap64 ((i : Int) - 1) = (i : Int) - 1 := wid (by omega) (by omega)
    rw [w, ← limb_one x0 x1, show (K + i + 1) + 2000 = K + 2000 + i + 1 by omega]
    simp only [List.length_singleton]
    have m1 : out % 2 ^ i = 0 := by
      have h : (2 : Int) ^ i ∣ out := Int.dvd_trans ⟨2, by rw [p2, Int.mul_comm]⟩ (Int.dvd_of_emod_eq_zero om)
      exact Int.emod_eq_zero_of_dvd h
    have m2 : (out + 2 ^ i) % 2 ^ i = 0 := by rw [Int.add_emod_right]; exact m1
    by_cases h : (out + 2 ^ i) * (out + 2 ^ i) ≤ x
    · have hle : (if (out + 2 ^ i) * (out + 2 ^ i) < x then (-1 : Int) else if (out + 2 ^ i) * (out + 2 ^ i) = x then 0 else 1) ≤ 0 := by
        split
        · decide
        · split
          · decide
          · omega
      rw [if_pos hle, if_pos (by decide)]
      refine ih (out + 2 ^ i) (by omega) (by omega) m2 (by omega) h ?_
      rw [show out + 2 ^ i + 2 ^ i = out + 2 ^ (i + 1) by omega]; exact s1
    · rw [if_neg (by rw [if_neg (by omega), if_neg (by omega)]; decide)]
      exact ih out (by omega) o0 m1 (by omega) s0 (by omega)
theorem rooted_tells (b : Bool) (x : Int) (h0 : 0 ≤ x) (h1 : x < 340282366920938463463374607431768211456) (K : Nat) :
    ∃ r, leadlineref1_Rooted.f (K + 2065) b (limbs x) = some r ∧ 0 ≤ r ∧ r < 18446744073709551616 ∧ r * r ≤ x ∧ x < (r + 1) * (r + 1) :=
  rooted_loop b x h0 h1 K 64 0 (by omega) (by omega) (by omega) (by omega) (by omega) (by omega)
theorem mag_pos {x : Int} (h : 0 ≤ x) : mag x = limbs x := by unfold mag ab; rw [if_neg (by omega)]
theorem Rooted_tells (K : Nat) (x r : Int) (h0 : 0 ≤ x) (h1 : x < 340282366920938463463374607431768211456) (r0 : 0 ≤ r) (r1 : r * r ≤ x) (r2 : x < (r + 1) * (r + 1)) :
    leadlineref1_Rooted.f (K + 2065) (sg x) (mag x) = some r := by
  obtain ⟨s, hs, s0, _, s1, s2⟩ := rooted_tells (sg x) x h0 h1 K
  rw [mag_pos h0, hs, YFx.root_one r0 s0 r1 r2 s1 s2]
end Go.Proofs.YtaiolioggjknfaaDoor.YRef
