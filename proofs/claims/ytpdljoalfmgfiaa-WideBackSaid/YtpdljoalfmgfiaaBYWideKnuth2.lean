/- Lean functions, contracts and lemmas that this claim needs. No condition. -/
import Derived.Test.YtpdljoalfmgfiaaBYWideKnuth
namespace Go.Proofs.Ytpdljoalfmgfiaa.YWide
open Go.RowKit Go.Proofs.Ytpdljoalfmgfiaa.YInv Go.Proofs.Ytpdljoalfmgfiaa.YErr Go.Proofs.Ytpdljoalfmgfiaa.YRef Go.Proofs.Ytpdljoalfmgfiaa.YNum Go.Proofs.Ytpdljoalfmgfiaa.YBits Go.Proofs.Ytpdljoalfmgfiaa.XCarry Go.Proofs.Ytpdljoalfmgfiaa.QWd Go.Proofs.YtpdljoalfmgfiaaW.PrintWords Go.Proofs.YtpdljoalfmgfiaaW.PrintLast
set_option linter.unusedVariables false
set_option linter.unusedSimpArgs false
theorem two_b (x R : Int) : x * (18446744073709551616 * (18446744073709551616 * R)) = 18446744073709551616 * (18446744073709551616 * (x * R)) := by
  rw [Int.mul_left_comm, Int.mul_left_comm x]
theorem one_b (x R : Int) : x * (18446744073709551616 * R) = 18446744073709551616 * (x * R) := Int.mul_left_comm _ _ _
theorem sum3 (x y z R : Int) : (x * 18446744073709551616 * 18446744073709551616 + y * 18446744073709551616 + z) * R = 18446744073709551616 * (18446744073709551616 * (x * R)) + 18446744073709551616 * (y * R) + z * R := by
  rw [Int.add_mul, Int.add_mul, Int.mul_assoc (x * 18446744073709551616), Int.mul_assoc x, Int.mul_assoc y, two_b x, one_b y]
theorem sum2 (y z R : Int) : (y * 18446744073709551616 + z) * R = 18446744073709551616 * (y * R) + z * R := by
  rw [Int.add_mul, Int.mul_assoc y, one_b y]
/-- A window's highest three limbs guess its quotient, at most one too great. -/
theorem guess_w (K : Nat) {lu vv : List Int} {i n : Nat} (du : Dig lu) (dv : Dig vv) (nv : 9223372036854775808 ≤ dg vv (n + 1)) (hb : wv lu i (n + 3) < pv vv (n + 2) * 18446744073709551616) :
    ∃ g, wide_guess.f (K + 16) (dg lu (i + (n + 2))) (dg lu (i + (n + 1))) (dg lu (i + n)) (dg vv (n + 1)) (dg vv n) = some g ∧ 0 ≤ g ∧ g < 18446744073709551616 ∧ wv lu i (n + 3) / pv vv (n + 2) ≤ g ∧ g ≤ wv lu i (n + 3) / pv vv (n + 2) + 1 := by
  have U2 := dg_in du (i + (n + 2))
  have U1 := dg_in du (i + (n + 1))
  have U0 := dg_in du (i + n)
  have V1 := dg_in dv (n + 1)
  have V0 := dg_in dv n
  have wl0 := wv_nonneg du i n
  have wl1 := wv_lt du i n
  have pl0 := pv_nonneg dv n
  have pl1 := pv_lt dv n
  have R0 := pw_pos n
  have eu : wv lu i (n + 3) = wv lu i n + (dg lu (i + (n + 2)) * 18446744073709551616 * 18446744073709551616 + dg lu (i + (n + 1)) * 18446744073709551616 + dg lu (i + n)) * 18446744073709551616 ^ n := by
    rw [wv, wv, wv, pw_succ (n + 1), pw_succ n, two_b, one_b (dg lu (i + (n + 1))), sum3]; omega
  have ev : pv vv (n + 2) = pv vv n + (dg vv (n + 1) * 18446744073709551616 + dg vv n) * 18446744073709551616 ^ n := by
    rw [pv, pv, pw_succ n, one_b (dg vv (n + 1)), sum2]; omega
  have hu0 := wv_nonneg du i (n + 3)
  generalize wv lu i (n + 3) = u at *
  generalize pv vv (n + 2) = v at *
  generalize wv lu i n = a at *
  generalize pv vv n = p at *
  generalize (18446744073709551616 : Int) ^ n = R at *
  generalize dg lu (i + (n + 2)) = u2 at *
  generalize dg lu (i + (n + 1)) = u1 at *
  generalize dg lu (i + n) = u0 at *
  generalize dg vv (n + 1) = v1 at *
  generalize dg vv n = v0 at *
  have R1 : 0 ≤ R := by omega
  have le : u2 ≤ v1 := by
    rcases Int.lt_or_le v1 u2 with h | h
    · exfalso
      have m1 := Int.mul_le_mul_of_nonneg_right (show v1 + 1 ≤ u2 by omega) R1
      have m2 := Int.mul_le_mul_of_nonneg_right (show v0 ≤ 18446744073709551615 by omega) R1
      have m3 := Int.mul_nonneg U0.1 R1
      have m4 := Int.mul_nonneg U1.1 R1
      rw [Int.add_mul, Int.one_mul] at m1
      rw [sum3] at eu
      rw [sum2] at ev
      generalize u2 * R = x2 at *
      generalize u1 * R = x1 at *
      generalize u0 * R = x0 at *
      generalize v1 * R = y1 at *
      generalize v0 * R = y0 at *
      clear U2 U1 U0 V1 V0 nv
      omega
    · exact h
  obtain ⟨g, hg, g0, g1, h1, h2⟩ := guess_tells K u2 u1 u0 v1 v0 U2.1 le U1.1 U1.2 U0.1 U0.2 nv V1.2 V0.1 V0.2
  have N := guess_near (u := u) (v := v) (R := R) (g := g) (show 0 < R by omega) (show (u2 * 18446744073709551616 * 18446744073709551616 + u1 * 18446744073709551616 + u0) * R ≤ u by omega)
    (show u < (u2 * 18446744073709551616 * 18446744073709551616 + u1 * 18446744073709551616 + u0 + 1) * R by rw [Int.add_mul _ 1, Int.one_mul]; omega)
    (show (v1 * 18446744073709551616 + v0) * R ≤ v by omega) (show v < (v1 * 18446744073709551616 + v0 + 1) * R by rw [Int.add_mul _ 1, Int.one_mul]; omega) (by omega) hu0 hb g0 g1 h1 h2
  exact ⟨g, hg, g0, g1, N.1, N.2⟩
theorem decomp (l : List Int) (j k : Nat) : pv l (j + k) = pv l j + wv l j k * 18446744073709551616 ^ j := by
  induction k with
  | zero => simp [wv]
  | succ k ih => rw [← Nat.add_assoc, pv, ih, wv, Int.add_mul, Int.mul_assoc (dg l (j + k)), ← Int.pow_add, Nat.add_comm k j, Int.add_assoc]
theorem window_lt {lu : List Int} {D : Int} {j m : Nat} (du : Dig lu) (hb : pv lu (j + (m + 1)) < D * 18446744073709551616 ^ (j + 1)) : wv lu j (m + 1) < D * 18446744073709551616 := by
  rw [decomp, pw_succ, one_b] at hb
  have a0 := pv_nonneg du j
  have b0 := pw_pos j
  generalize wv lu j (m + 1) = W at *
  generalize pv lu j = a at *
  generalize (18446744073709551616 : Int) ^ j = b at *
  rcases Int.lt_or_le W (D * 18446744073709551616) with h | h
  · exact h
  · exfalso
    have := Int.mul_le_mul_of_nonneg_right h (show 0 ≤ b by omega)
    rw [Int.mul_assoc, one_b] at this
    omega
theorem pv_low {l l' : List Int} {j : Nat} (h : ∀ t, t < j → dg l' t = dg l t) : pv l' j = pv l j := by
  induction j with
  | zero => rfl
  | succ j ih => rw [pv, pv, ih (fun t ht => h t (Nat.lt_succ_of_lt ht)), h j (Nat.lt_succ_self j)]
/-- One limb of the quotient. -/
theorem step_w {lu lu' q : List Int} {D T : Int} {j m : Nat} (du : Dig lu) (du' : Dig lu') (D0 : 0 < D) (hD : D ≤ 18446744073709551616 ^ m)
    (hT : pv lu (j + (m + 1)) + D * pv q 16 = T) (hlow : ∀ t, t < j → dg lu' t = dg lu t) (hw : wv lu' j (m + 1) = wv lu j (m + 1) % D) (hql : q.length = 16) (hj : j < 16) (hq0 : dg q j = 0) :
    pv lu' (j + m) + D * pv (q.set j (wv lu j (m + 1) / D)) 16 = T ∧ pv lu' (j + m) < D * 18446744073709551616 ^ j ∧ dg lu' (j + m) = 0 := by
  have e := Int.mul_ediv_add_emod (wv lu j (m + 1)) D
  have r0 := Int.emod_nonneg (wv lu j (m + 1)) (show D ≠ 0 by omega)
  have r1 := Int.emod_lt_of_pos (wv lu j (m + 1)) D0
  have ea := pv_low hlow
  have a0 := pv_nonneg du j
  have a1 := pv_lt du j
  have b0 := pw_pos j
  have w0 := wv_nonneg du' j m
  have t0 := (dg_in du' (j + m)).1
  have top : dg lu' (j + m) = 0 := by
    rw [← hw, wv] at r1
    rcases Int.lt_or_eq_of_le t0 with h | h
    · exfalso
      have := Int.mul_le_mul_of_nonneg_right (show 1 ≤ dg lu' (j + m) by omega) (show 0 ≤ (18446744073709551616 : Int) ^ m by have := pw_pos m; omega)
      rw [Int.one_mul] at this
      omega
    · exact h.symm
  have el := decomp lu' j m
  have ew : wv lu' j m = wv lu' j (m + 1) := by rw [wv, top, Int.zero_mul, Int.add_zero]
  rw [ew, hw, ea] at el
  have eq := pv_set_gt q j (wv lu j (m + 1) / D) (by omega) 16 hj
  rw [hq0, Int.sub_zero] at eq
  rw [decomp] at hT
  refine ⟨?_, ?_, top⟩
  · rw [el, eq, Int.mul_add, ← Int.mul_assoc]
    have e2 : (D * (wv lu j (m + 1) / D) + wv lu j (m + 1) % D) * 18446744073709551616 ^ j = wv lu j (m + 1) * 18446744073709551616 ^ j := by rw [e]
    rw [Int.add_mul] at e2
    omega
  · rw [el]
    have := Int.mul_le_mul_of_nonneg_right (show wv lu j (m + 1) % D ≤ D - 1 by omega) (show 0 ≤ (18446744073709551616 : Int) ^ j by omega)
    rw [Int.sub_mul, Int.one_mul] at this
    omega
/-- At the start the dividend is small enough. -/
theorem start_lt {X D : Int} {n m s k : Nat} (hk : m + k = n + 1) (hs : s ≤ 63) (x0 : 0 ≤ X) (x1 : X < 18446744073709551616 ^ n) (hD : 18446744073709551616 ^ m ≤ 2 * D) : X * 2 ^ s < D * 18446744073709551616 ^ k := by
  have p63 : (2 : Int) ^ s ≤ 9223372036854775808 := by
    have : (2 : Int) ^ s * 2 ^ (63 - s) = 9223372036854775808 := by rw [← Int.pow_add, show s + (63 - s) = 63 by omega]; rfl
    have h1 : (1 : Int) ≤ 2 ^ (63 - s) := by have : (0 : Int) < 2 ^ (63 - s) := Int.pow_pos (by decide); omega
    have h2 : (0 : Int) < 2 ^ s := Int.pow_pos (by decide)
    have := Int.mul_le_mul_of_nonneg_left h1 (Int.le_of_lt h2)
    omega
  have h2 : (0 : Int) < 2 ^ s := Int.pow_pos (by decide)
  have m1 : X * 2 ^ s ≤ X * 9223372036854775808 := Int.mul_le_mul_of_nonneg_left p63 x0
  have m2 := Int.mul_le_mul_of_nonneg_right hD (show 0 ≤ (18446744073709551616 : Int) ^ k by have := pw_pos k; omega)
  rw [← Int.pow_add, hk, pw_succ, Int.mul_assoc] at m2
  omega
theorem last_w {X Y P Q R : Int} (P0 : 0 < P) (Y0 : 0 < Y) (h : R + Y * P * Q = X * P) (r0 : 0 ≤ R) (r1 : R < Y * P) : Q = X / Y ∧ R = X % Y * P := by
  have e : R = (X - Y * Q) * P := by rw [Int.sub_mul, Int.mul_right_comm Y Q P]; omega
  have t0 : 0 ≤ X - Y * Q := by
    rcases Int.lt_or_le (X - Y * Q) 0 with c | c
    · exfalso
      have := Int.mul_lt_mul_of_pos_right c P0
      rw [Int.zero_mul] at this
      omega
    · exact c
  have t1 : X - Y * Q < Y := by
    rcases Int.lt_or_le (X - Y * Q) Y with c | c
    · exact c
    · exfalso
      have := Int.mul_le_mul_of_nonneg_right c (Int.le_of_lt P0)
      omega
  have u := (Int.ediv_emod_unique (a := X) (b := Y) (r := X - Y * Q) (q := Q) Y0).2 ⟨by omega, t0, t1⟩
  exact ⟨u.1.symm, by rw [u.2]; exact e⟩
/-- One limb of the rest, moved back. -/
theorem back_w {lu r : List Int} {P Z x : Int} {k : Nat} (hP : 0 < P) (h : P * Z = 18446744073709551616) (hr : k < r.length)
    (hx : x = dg lu k / P + Z * (dg lu (k + 1) % P)) (hv : pv r k * P + dg lu 0 % P = pv lu k + dg lu k % P * 18446744073709551616 ^ k) :
    pv (r.set k x) (k + 1) * P + dg lu 0 % P = pv lu (k + 1) + dg lu (k + 1) % P * 18446744073709551616 ^ (k + 1) := by
  have e := Int.mul_ediv_add_emod (dg lu k) P
  rw [pv, pv_set_le _ _ _ _ (Nat.le_refl k), dg_set, if_pos ⟨rfl, hr⟩, pv, pw_succ, one_b, Int.add_mul]
  have e1 : x * P = dg lu k / P * P + 18446744073709551616 * (dg lu (k + 1) % P) := by
    rw [hx, Int.add_mul, Int.mul_right_comm Z, Int.mul_comm Z P, h]
  have e2 : x * 18446744073709551616 ^ k * P = x * P * 18446744073709551616 ^ k := Int.mul_right_comm _ _ _
  rw [e2, e1, Int.add_mul, Int.mul_assoc 18446744073709551616]
  have e3 : (P * (dg lu k / P) + dg lu k % P) * 18446744073709551616 ^ k = dg lu k * 18446744073709551616 ^ k := by rw [e]
  rw [Int.add_mul, Int.mul_comm P] at e3
  omega
theorem back_end {r t P c : Int} (hP : 0 < P) (c0 : 0 ≤ c) (c1 : c < P) (h : r * P + c = t * P) : r = t := by
  rcases Int.lt_trichotomy r t with g | g | g
  · exfalso
    have := Int.mul_le_mul_of_nonneg_right (show r + 1 ≤ t by omega) (Int.le_of_lt hP)
    rw [Int.add_mul, Int.one_mul] at this
    omega
  · exact g
  · exfalso
    have := Int.mul_le_mul_of_nonneg_right (show t + 1 ≤ r by omega) (Int.le_of_lt hP)
    rw [Int.add_mul, Int.one_mul] at this
    omega
end Go.Proofs.Ytpdljoalfmgfiaa.YWide
