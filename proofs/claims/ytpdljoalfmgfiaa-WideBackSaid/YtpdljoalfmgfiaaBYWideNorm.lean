/- Lean functions, contracts and lemmas that this claim needs. No condition. -/
import Derived.Test.YtpdljoalfmgfiaaBYWideKnuth2
namespace Go.Proofs.Ytpdljoalfmgfiaa.YWide
open Go.RowKit Go.Proofs.Ytpdljoalfmgfiaa.YInv Go.Proofs.Ytpdljoalfmgfiaa.YErr Go.Proofs.Ytpdljoalfmgfiaa.YRef Go.Proofs.Ytpdljoalfmgfiaa.YNum Go.Proofs.Ytpdljoalfmgfiaa.YBits Go.Proofs.Ytpdljoalfmgfiaa.XCarry Go.Proofs.Ytpdljoalfmgfiaa.QWd Go.Proofs.YtpdljoalfmgfiaaW.PrintWords Go.Proofs.YtpdljoalfmgfiaaW.PrintLast
set_option linter.unusedVariables false
set_option linter.unusedSimpArgs false
/-- The divisor that is moved up till its highest bit stands: as many limbs, the highest great. -/
theorem norm_v {Y : Int} {v : List Int} {k s : Nat} (hs : s ≤ 63) (dv : Dig v) (hY0 : 0 ≤ Y) (hY : Y < 18446744073709551616 ^ (k + 2)) (k14 : k + 2 ≤ 16)
    (hv : pv v (k + 3) = Y * 2 ^ s) (n0 : (9223372036854775808 : Int) ≤ dg (lim Y) (k + 1) * 2 ^ s) (n1 : dg (lim Y) (k + 1) * 2 ^ s < 18446744073709551616) :
    pv v (k + 2) = Y * 2 ^ s ∧ 9223372036854775808 ≤ dg v (k + 1) ∧ 18446744073709551616 ^ (k + 2) ≤ 2 * pv v (k + 2) ∧ pv v (k + 2) < 18446744073709551616 ^ (k + 2) := by
  have P0 : (0 : Int) < 2 ^ s := Int.pow_pos (by decide)
  have Z0 : (0 : Int) < 2 ^ (64 - s) := Int.pow_pos (by decide)
  have PZ := split_pow (show s ≤ 64 by omega)
  have eY : pv (lim Y) (k + 1) + dg (lim Y) (k + 1) * 18446744073709551616 ^ (k + 1) = Y := by
    have := pv_lim Y (k + 2) k14
    rw [Int.emod_eq_of_lt hY0 hY] at this
    exact this
  have p0 := pv_nonneg (lim_dig Y) (k + 1)
  have p1 := pv_lt (lim_dig Y) (k + 1)
  have R0 := pw_pos (k + 1)
  have v0 := pv_nonneg dv (k + 1)
  have v1 := pv_lt dv (k + 1)
  have w0 := pv_nonneg dv (k + 2)
  have w1 := pv_lt dv (k + 2)
  have t0 := (dg_in dv (k + 2)).1
  have ev : pv v (k + 3) = pv v (k + 2) + dg v (k + 2) * 18446744073709551616 ^ (k + 2) := rfl
  have ew : pv v (k + 2) = pv v (k + 1) + dg v (k + 1) * 18446744073709551616 ^ (k + 1) := rfl
  rw [hv] at ev
  have tz : dg (lim Y) (k + 1) + 1 ≤ 2 ^ (64 - s) := by
    rcases Int.lt_or_le (dg (lim Y) (k + 1)) (2 ^ (64 - s)) with h | h
    · exact h
    · exfalso
      have := Int.mul_le_mul_of_nonneg_right h (Int.le_of_lt P0)
      rw [Int.mul_comm (2 ^ (64 - s))] at this
      omega
  have m1 := Int.mul_le_mul_of_nonneg_right tz (Int.le_of_lt P0)
  rw [Int.mul_comm (2 ^ (64 - s)), PZ, Int.add_mul, Int.one_mul] at m1
  have e1 : Y * 2 ^ s = pv (lim Y) (k + 1) * 2 ^ s + dg (lim Y) (k + 1) * 2 ^ s * 18446744073709551616 ^ (k + 1) := by
    have : (pv (lim Y) (k + 1) + dg (lim Y) (k + 1) * 18446744073709551616 ^ (k + 1)) * 2 ^ s = Y * 2 ^ s := by rw [eY]
    rw [← this, Int.add_mul, Int.mul_right_comm]
  have q0 : 0 ≤ pv (lim Y) (k + 1) * 2 ^ s := Int.mul_nonneg p0 (Int.le_of_lt P0)
  have q1 : pv (lim Y) (k + 1) * 2 ^ s < 18446744073709551616 ^ (k + 1) * 2 ^ s := Int.mul_lt_mul_of_pos_right p1 P0
  have m2 := Int.mul_le_mul_of_nonneg_right m1 (show 0 ≤ (18446744073709551616 : Int) ^ (k + 1) by omega)
  have m3 := Int.mul_le_mul_of_nonneg_right n0 (show 0 ≤ (18446744073709551616 : Int) ^ (k + 1) by omega)
  rw [Int.add_mul, Int.mul_comm (2 ^ s) (18446744073709551616 ^ (k + 1))] at m2
  have pk : (18446744073709551616 : Int) ^ (k + 2) = 18446744073709551616 * 18446744073709551616 ^ (k + 1) := pw_succ (k + 1)
  rw [pk] at ev hY w1 ⊢
  generalize hR : (18446744073709551616 : Int) ^ (k + 1) = R at *
  clear PZ Z0 tz m1 n0 n1 P0 eY
  have top : dg v (k + 2) = 0 := by
    rcases Int.lt_or_eq_of_le t0 with h | h
    · exfalso
      have := Int.mul_le_mul_of_nonneg_right (show 1 ≤ dg v (k + 2) by omega) (show 0 ≤ 18446744073709551616 * R by omega)
      rw [Int.one_mul] at this
      generalize dg v (k + 2) * (18446744073709551616 * R) = z1 at *
      generalize dg (lim Y) (k + 1) * 2 ^ s * R = z2 at *
      generalize R * 2 ^ s = z3 at *
      generalize pv (lim Y) (k + 1) * 2 ^ s = z4 at *
      omega
    · exact h.symm
  rw [top, Int.zero_mul, Int.add_zero] at ev
  refine ⟨ev.symm, ?_, ?_, w1⟩
  · rcases Int.lt_or_le (dg v (k + 1)) 9223372036854775808 with h | h
    · exfalso
      have := Int.mul_le_mul_of_nonneg_right (show dg v (k + 1) ≤ 9223372036854775807 by omega) (show 0 ≤ R by omega)
      generalize dg v (k + 1) * R = z1 at *
      generalize dg (lim Y) (k + 1) * 2 ^ s * R = z2 at *
      generalize pv (lim Y) (k + 1) * 2 ^ s = z4 at *
      omega
    · exact h
  · generalize dg (lim Y) (k + 1) * 2 ^ s * R = z2 at *
    generalize pv (lim Y) (k + 1) * 2 ^ s = z4 at *
    omega
/-- What stands ahead of the quotient's next limb. -/
structure Dv (n m : Nat) (D T : Int) (j : Nat) (lu q : List Int) : Prop where
  len : lu.length = n + 1
  dig : Dig lu
  ql : q.length = 16
  qd : Dig q
  qz : ∀ t, t < j → dg q t = 0
  sum : pv lu (j + m) + D * pv q 16 = T
  low : pv lu (j + m) < D * 18446744073709551616 ^ j
  top : dg lu (j + m) = 0
theorem Dv.start {X D : Int} {n m s k : Nat} {u : List Int} (hk : k + m = n + 1) (hs : s ≤ 63) (x0 : 0 ≤ X) (x1 : X < 18446744073709551616 ^ n) (hD : 18446744073709551616 ^ m ≤ 2 * D) (lu : u.length = n + 1) (du : Dig u) (hu : pv u (n + 1) = X * 2 ^ s) : Dv n m D (X * 2 ^ s) k u zeros := by
  refine ⟨lu, du, zeros_len, zeros_dig, fun t _ => dg_zeros 16 t, ?_, ?_, ?_⟩
  · rw [hk, hu, show pv zeros 16 = 0 from pv_zeros 16 16, Int.mul_zero, Int.add_zero]
  · rw [hk, hu]; exact start_lt (by omega) hs x0 x1 hD
  · rw [hk]; exact dg_out (by omega)
theorem Dv.window {n m j : Nat} {D T : Int} {lu q : List Int} (S : Dv n m D T (j + 1) lu q) : wv lu j (m + 1) < D * 18446744073709551616 :=
  window_lt S.dig (by have := S.low; rw [show j + 1 + m = j + (m + 1) by omega] at this; exact this)
theorem Dv.step {n m j : Nat} {D T : Int} {lu lu' q : List Int} (S : Dv n m D T (j + 1) lu q) (D0 : 0 < D) (hD : D ≤ 18446744073709551616 ^ m) (hj : j < 16) (l' : lu'.length = lu.length) (d' : Dig lu')
    (hout : ∀ t, t < j ∨ j + m < t → dg lu' t = dg lu t) (hw : wv lu' j (m + 1) = wv lu j (m + 1) % D) : Dv n m D T j lu' (q.set j (wv lu j (m + 1) / D)) := by
  have hT := S.sum
  rw [show j + 1 + m = j + (m + 1) by omega] at hT
  obtain ⟨r1, r2, r3⟩ := step_w S.dig d' D0 hD hT (fun t ht => hout t (.inl ht)) hw S.ql hj (S.qz j (Nat.lt_succ_self j))
  have w0 : 0 ≤ wv lu j (m + 1) / D := Int.ediv_nonneg (wv_nonneg S.dig _ _) (Int.le_of_lt D0)
  have w1 : wv lu j (m + 1) / D < 18446744073709551616 := Int.ediv_lt_of_lt_mul D0 (by have := S.window; rw [Int.mul_comm] at this; exact this)
  exact ⟨by rw [l']; exact S.len, d', by rw [List.length_set]; exact S.ql, dig_set S.qd _ w0 w1, fun t ht => by rw [dg_set, if_neg (fun h => Nat.ne_of_gt ht h.1)]; exact S.qz t (Nat.lt_succ_of_lt ht), r1, r2, r3⟩
end Go.Proofs.Ytpdljoalfmgfiaa.YWide
