/- Lean functions, contracts and lemmas that this claim needs. No condition. -/
import Derived.Test.YtaiolioggjknfaaDoorLQSnx10
import Derived.Test.YtaiolioggjknfaaDoorLYRef
namespace Go.Proofs.YtaiolioggjknfaaDoor.YRef
open Go.RowKit Go.Proofs.YtaiolioggjknfaaDoor.QSn Go.Proofs.YtaiolioggjknfaaDoor.YBits Go.Proofs.YtaiolioggjknfaaDoorW.PrintWords Go.Proofs.YtaiolioggjknfaaDoorW.PrintLast
set_option linter.unusedVariables false
set_option linter.unusedSimpArgs false
theorem over_loop (a : List Int) (ha : Dig a) (hs : a.length ≤ 100) (y : Int) (y0 : 0 < y) (y1 : y < 18446744073709551616) (K : Nat) :
    ∀ (n : Nat) (out : List Int) (r : Int), n ≤ a.length → out.length = a.length → Dig out → (∀ j, j < n → dg out j = 0) → 0 ≤ r → r < y →
      y * val out + r * 18446744073709551616 ^ n = val a - pv a n →
      leadlineref1_over.l0 (K + n + a.length + 20) a [y] out r ((n : Int) - 1) = some (limbs (val a / y), limbs (val a % y)) := by
  intro n
  induction n with
  | zero =>
    intro out r _ hl hd _ r0 r1 h
    have e : y * val out + r = val a := by simpa [pv] using h
    have v0 := val_nonneg hd
    have q : val a / y = val out := by
      rw [← e, Int.add_comm, Int.add_mul_ediv_left _ _ (by omega), Int.ediv_eq_zero_of_lt r0 r1]; omega
    have m : val a % y = r := by
      rw [← e, Int.add_comm, Int.add_mul_emod_self_left, Int.emod_eq_of_lt r0 r1]
    rw [show K + 0 + a.length + 20 = (K + a.length + 19) + 1 by omega, leadlineref1_over.l0, if_neg (by omega), show K + a.length + 19 = (K + a.length + 18) + 1 by omega, trimf _ out hd (by omega) (by omega), Option.bind_some,
      trimf _ [r] (by intro x hx; simp at hx; omega) (by simp) (by simp), Option.bind_some, val_one, q, m]
  | succ n ih =>
    intro out r hn hl hd hz r0 r1 h
    have A := dg_in ha n
    rw [show K + (n + 1) + a.length + 20 = (K + n + a.length + 20) + 1 by omega, show ((n + 1 : Nat) : Int) - 1 = (n : Int) by omega, leadlineref1_over.l0, if_pos (by omega), if_pos (by omega), if_pos (by omega)]
    have er : rd [y] 0 = y := rfl
    simp only [List.length_singleton]
    rw [if_pos (by decide), er, dg_rd, show K + n + a.length + 20 = (K + n + a.length + 4) + 16 by omega, div64_tells (K + n + a.length + 4) r (dg a n) y r0 r1 A.1 A.2 y1, Option.bind_some]
    simp only []
    rw [if_pos (by omega), Int.toNat_natCast, wid (by omega) (by omega)]
    generalize ht : r * 18446744073709551616 + dg a n = t
    have t0 : 0 ≤ t := by omega
    have dm := Int.mul_ediv_add_emod t y
    have q0 : 0 ≤ t / y := Int.ediv_nonneg t0 (by omega)
    have q1 : t / y < 18446744073709551616 := Int.ediv_lt_of_lt_mul y0 (by
      have := Int.mul_le_mul_of_nonneg_right (show r + 1 ≤ y by omega) (show (0 : Int) ≤ 18446744073709551616 by decide)
      rw [Int.mul_comm 18446744073709551616 y]; omega)
    have m0 := Int.emod_nonneg t (show y ≠ 0 by omega)
    have m1 := Int.emod_lt_of_pos t y0
    have := ih (out.set n (t / y)) (t % y) (by omega) (by rw [List.length_set]; exact hl) (dig_set hd n q0 q1) (fun j hj => by rw [dg_set, if_neg (by omega)]; exact hz j (by omega)) m0 m1 (by
      rw [val_set _ _ _ (by omega), hz n (by omega)]
      rw [pv, pw_succ] at h
      generalize (18446744073709551616 : Int) ^ n = P at *
      generalize t / y = q at *
      generalize t % y = r' at *
      have e1 : y * (val out + (q - 0) * P) + r' * P = y * val out + (y * q + r') * P := by grind
      have e2 : r * (18446744073709551616 * P) + dg a n * P = t * P := by rw [← ht]; grind
      rw [e1, dm]
      omega)
    rw [show (K + n + a.length + 4) + 16 = K + n + a.length + 20 by omega]
    exact this
theorem over_tells (K : Nat) {x y : Int} (hx : Fit x) (y0 : 0 < y) (y1 : y < 18446744073709551616) :
    leadlineref1_over.f (K + 2000) (limbs x) (limbs y) = some (limbs (x / y), limbs (x % y)) := by
  have hy : Fit y := ⟨by omega, by have := pw_le (show 1 ≤ 40 by omega); omega⟩
  have lx := hx.len
  unfold leadlineref1_over.f
  rw [cmp_tells K hx hy, Option.bind_some]
  by_cases h : x < y
  · rw [if_pos h, if_pos (by decide), Int.ediv_eq_zero_of_lt hx.1 h, Int.emod_eq_of_lt hx.1 h, limbs_nil (Int.le_refl 0)]
  · rw [if_neg h, if_neg (by split <;> decide), ← limb_one y0 y1]
    simp only [List.length_singleton]
    rw [if_pos (by decide), if_pos (by omega), if_pos (by omega), Int.toNat_natCast, wid (by omega) (by omega)]
    have := over_loop (limbs x) (limbs_dig x) (by omega) y y0 y1 (K + 1980 - 2 * (limbs x).length) (limbs x).length (List.replicate (limbs x).length 0) 0 (Nat.le_refl _) (by simp) (dig_zeros _) (fun j _ => dg_zeros _ _) (Int.le_refl 0) y0 (by simp [val, pv_zeros])
    rw [show K + 1980 - 2 * (limbs x).length + (limbs x).length + (limbs x).length + 20 = K + 2000 by omega, val_limbs hx.1] at this
    exact this
/-- The quotient towards nought, and the rest. -/
theorem Div_tells (K : Nat) {x y : Int} (hx : Small x) (y0 : 0 < y) (y1 : y < 18446744073709551616) :
    leadlineref1_Div.f (K + 2000) (sg x) (mag x) (sg y) (mag y) = some (sg (Int.tdiv x y), mag (Int.tdiv x y), sg (Int.tmod x y), mag (Int.tmod x y)) := by
  unfold leadlineref1_Div.f
  have ey : ab y = y := by unfold ab; rw [if_neg (by omega)]
  have sy : sg y = false := by unfold sg; simp; omega
  have q0 : 0 ≤ ab x / y := Int.ediv_nonneg hx.fit.1 (by omega)
  have r0 : 0 ≤ ab x % y := Int.emod_nonneg _ (by omega)
  rw [mag, mag, ey, over_tells K hx.fit y0 y1, Option.bind_some]
  simp only []
  rw [made_sg _ q0, Option.bind_some, made_sg _ r0, Option.bind_some, sy]
  have eq : (if (sg x != false) = true then -(ab x / y) else ab x / y) = Int.tdiv x y := by
    unfold sg ab
    by_cases h : x < 0
    · simp only [h, decide_true, if_true]
      rw [if_pos (by decide), show x = -(-x) by omega, Int.neg_tdiv, Int.tdiv_eq_ediv_of_nonneg (by omega)]; simp
    · simp only [h, decide_false, if_false, Bool.false_eq_true]
      rw [if_neg (by decide), Int.tdiv_eq_ediv_of_nonneg (by omega)]
  have er : (if sg x = true then -(ab x % y) else ab x % y) = Int.tmod x y := by
    unfold sg ab
    by_cases h : x < 0
    · simp only [h, decide_true, if_true]
      rw [show x = -(-x) by omega, Int.neg_tmod, Int.tmod_eq_emod_of_nonneg (by omega)]; simp
    · simp only [h, decide_false, if_false, Bool.false_eq_true]
      rw [Int.tmod_eq_emod_of_nonneg (by omega)]
  rw [eq, er]
end Go.Proofs.YtaiolioggjknfaaDoor.YRef
