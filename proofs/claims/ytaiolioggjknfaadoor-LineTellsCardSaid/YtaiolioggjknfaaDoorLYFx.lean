/- Lean functions, contracts and lemmas that this claim needs. No condition. -/
import Derived.Test.YtaiolioggjknfaaDoorLQSnx3
import Derived.Test.YtaiolioggjknfaaDoorLYBits
namespace Go.Proofs.YtaiolioggjknfaaDoor.YFx
open Go.RowKit Go.Proofs.YtaiolioggjknfaaDoor.QSn Go.Proofs.YtaiolioggjknfaaDoor.YBits Go.Proofs.YtaiolioggjknfaaDoorW.PrintWords Go.Proofs.YtaiolioggjknfaaDoorW.PrintLast
set_option linter.unusedVariables false
set_option linter.unusedSimpArgs false
/-- A number as an int64 and whether it is one. -/
def fit (v : Int) : Int × Bool := if -9223372036854775808 ≤ v ∧ v ≤ 9223372036854775807 then (v, true) else (0, false)
/-- The whole number that is nearest to p over c, of two the greater one. -/
def rnd (p c : Int) : Int := (2 * p + c) / (2 * c)
theorem fit_in {v : Int} (h0 : -9223372036854775808 ≤ v) (h1 : v ≤ 9223372036854775807) : fit v = (v, true) := if_pos ⟨h0, h1⟩
theorem fit_out {v : Int} (h : v < -9223372036854775808 ∨ v > 9223372036854775807) : fit v = (0, false) := if_neg (by omega)
theorem size_tells (a : Int) (h0 : -9223372036854775808 ≤ a) (h1 : a ≤ 9223372036854775807) : fx_size.f a = some (if a < 0 then -a else a) := by
  unfold fx_size.f
  by_cases h : a < 0
  · rw [if_pos h, if_pos h]; simp only [u64w]; congr 1; omega
  · rw [if_neg h, if_neg h]; simp only [u64w]; congr 1; omega
theorem signed_tells (k : Nat) (v : Int) (m : Bool) (h0 : 0 ≤ v) (h1 : v < 18446744073709551616) : fx_signed.f (k + 1) v m = some (fit (if m = true then -v else v)) := by
  unfold fx_signed.f
  rw [fx_signed.j0, fx_signed.j0]
  cases m with
  | true =>
    simp only [if_true]
    by_cases h : v ≤ 9223372036854775808
    · rw [decide_eq_true h, if_pos rfl, fit_in (by omega) (by omega)]
      congr 2
      rw [u64w]; unfold wrap64; omega
    · rw [decide_eq_false h, if_neg (by decide), fit_out (by omega)]
  | false =>
    simp only [Bool.false_eq_true, if_false]
    by_cases h : v < 9223372036854775808
    · rw [if_pos h, fit_in (by omega) (by omega), wid (by omega) (by omega)]
    · rw [if_neg h, fit_out (by omega)]
/-- Two amounts' product is their product's amount. -/
theorem amounts (a b : Int) : (if a < 0 then -a else a) * (if b < 0 then -b else b) = if ((decide (a < 0)) != (decide (b < 0))) = true then -(a * b) else a * b := by
  by_cases ha : a < 0 <;> by_cases hb : b < 0 <;> simp [ha, hb, Int.neg_mul_neg, Int.neg_mul, Int.mul_neg]
theorem amount_bound (a : Int) (h0 : -9223372036854775808 ≤ a) (h1 : a ≤ 9223372036854775807) : 0 ≤ (if a < 0 then -a else a) ∧ (if a < 0 then -a else a) ≤ 9223372036854775808 := by
  split <;> omega
theorem muldiv_tells (K : Nat) (a b c : Int) (a0 : -9223372036854775808 ≤ a) (a1 : a ≤ 9223372036854775807) (b0 : -9223372036854775808 ≤ b) (b1 : b ≤ 9223372036854775807) (c0 : 0 < c) (c1 : c ≤ 9223372036854775807) :
    fx_MulDiv.f (K + 16) a b c = some (fit (rnd (a * b) c)) := by
  obtain ⟨x0, x1⟩ := amount_bound a a0 a1
  obtain ⟨y0, y1⟩ := amount_bound b b0 b1
  have hP := amounts a b
  unfold fx_MulDiv.f
  rw [if_neg (by omega), size_tells a a0 a1, size_tells b b0 b1]
  simp only [Option.bind_some]
  rw [mul64_tells x0 (by omega) y0 (by omega), Option.bind_some]
  simp only []
  have p0 : 0 ≤ (if a < 0 then -a else a) * (if b < 0 then -b else b) := Int.mul_nonneg x0 y0
  have p1 : (if a < 0 then -a else a) * (if b < 0 then -b else b) ≤ 9223372036854775808 * 9223372036854775808 := Int.mul_le_mul x1 y1 y0 (by decide)
  rw [hP] at p0 p1 ⊢
  generalize hm : ((decide (a < 0)) != (decide (b < 0))) = m at *
  generalize a * b = P at *
  generalize hA : (if m = true then -P else P) = A at *
  have hPA : P = if m = true then -A else A := by cases m <;> simp at hA ⊢ <;> omega
  rw [u64id (n := c) (by omega) (by omega)]
  have dc : A = A / c * c + A % c := by rw [Int.mul_comm]; exact (Int.mul_ediv_add_emod A c).symm
  have r0 := Int.emod_nonneg A (show c ≠ 0 by omega)
  have r1 := Int.emod_lt_of_pos A c0
  have q0 : 0 ≤ A / c := Int.ediv_nonneg p0 (by omega)
  -- what the nearest one is
  have near : ∀ t : Int, t = (if A % c > c - A % c ∨ A % c = c - A % c ∧ m = false then A / c + 1 else A / c) → rnd P c = if m = true then -t else t := by
    intro t ht
    have key : ∀ x s : Int, P = x * c + s → -c ≤ 2 * s → 2 * s < c → rnd P c = x := by
      intro x s h s0 s1
      unfold rnd
      have hx : 2 * x * c = 2 * c * x := by rw [Int.mul_assoc, Int.mul_comm x c, ← Int.mul_assoc]
      have e : 2 * P + c = (2 * s + c) + 2 * c * x := by rw [h, Int.mul_add, ← Int.mul_assoc, hx]; omega
      rw [e, Int.add_mul_ediv_left _ _ (by omega), Int.ediv_eq_zero_of_lt (by omega) (by omega)]; omega
    generalize A / c = q at *
    generalize A % c = r at *
    cases m with
    | true =>
      simp only [if_true] at hPA ⊢
      by_cases h : r > c - r
      · rw [if_pos (.inl h)] at ht
        exact key (-t) (c - r) (by rw [ht, hPA, dc, Int.neg_mul, Int.add_mul]; omega) (by omega) (by omega)
      · rw [if_neg (by simp; omega)] at ht
        by_cases hz : 2 * r = c
        · exact key (-t) (-r) (by rw [ht, hPA, dc, Int.neg_mul]; omega) (by omega) (by omega)
        · exact key (-t) (-r) (by rw [ht, hPA, dc, Int.neg_mul]; omega) (by omega) (by omega)
    | false =>
      simp only [Bool.false_eq_true, if_false] at hPA ⊢
      by_cases h : r ≥ c - r
      · rw [if_pos (by simp; omega)] at ht
        exact key t (r - c) (by rw [ht, hPA, dc, Int.add_mul]; omega) (by omega) (by omega)
      · rw [if_neg (by simp; omega)] at ht
        exact key t r (by rw [ht, hPA, dc]) (by omega) (by omega)
  by_cases hh : A / 18446744073709551616 ≥ c
  · rw [if_pos hh]
    -- too great
    have hq : 18446744073709551616 ≤ A / c := by
      refine (Int.le_ediv_iff_mul_le c0).2 ?_
      omega
    rw [near _ rfl]
    generalize A / c = q at *
    rw [fit_out]
    cases m <;> simp only [if_true, Bool.false_eq_true, if_false] <;> split <;> omega
  · rw [if_neg hh, div64_tells K (A / 18446744073709551616) (A % 18446744073709551616) c (by omega) (by omega) (by omega) (by omega) (by omega), Option.bind_some]
    have eA : A / 18446744073709551616 * 18446744073709551616 + A % 18446744073709551616 = A := by omega
    rw [eA]
    simp only []
    have hq1 : A / c < 18446744073709551616 := Int.ediv_lt_of_lt_mul c0 (by omega)
    rw [u64id (n := c - A % c) (by omega) (by omega)]
    have step : ∀ up : Bool, fx_MulDiv.j0 (K + 16) m (A / c) up = some (fit (if m = true then -(if up = true then A / c + 1 else A / c) else (if up = true then A / c + 1 else A / c))) := by
      intro up
      rw [show K + 16 = (K + 15) + 1 by omega, fx_MulDiv.j0]
      cases up with
      | true =>
        simp only [if_true]
        by_cases h : A / c = 18446744073709551615
        · rw [h, if_pos (by rw [u64w]; rfl), fit_out]
          cases m <;> simp
        · rw [u64id (n := A / c + 1) (by omega) (by omega), if_neg (by omega), signed_tells (K + 14) _ m (by omega) (by omega)]
          rfl
      | false =>
        simp only [Bool.false_eq_true, if_false]
        rw [signed_tells (K + 14) _ m (by omega) (by omega)]
        rfl
    by_cases h1 : A % c > c - A % c
    · rw [if_pos h1, step true, near (A / c + 1) (by rw [if_pos (.inl h1)])]
      simp
    · rw [if_neg h1]
      by_cases h2 : A % c = c - A % c
      · rw [if_pos h2, step (!m)]
        cases m with
        | true => rw [near (A / c) (by rw [if_neg]; simp; omega)]; simp
        | false => rw [near (A / c + 1) (by rw [if_pos]; simp; omega)]; simp
      · rw [if_neg h2, step false, near (A / c) (by rw [if_neg]; omega)]
        simp
theorem root_loop (hi lo : Int) (h0 : 0 ≤ hi) (h1 : hi < 18446744073709551616) (l0 : 0 ≤ lo) (l1 : lo < 18446744073709551616) (K : Nat) :
    ∀ (i : Nat) (out : Int), i ≤ 64 → 0 ≤ out → out % 2 ^ i = 0 → out + 2 ^ i ≤ 18446744073709551616 → out * out ≤ hi * 18446744073709551616 + lo →
      hi * 18446744073709551616 + lo < (out + 2 ^ i) * (out + 2 ^ i) →
      ∃ r, fx_Root.l0 (K + i + 1) hi lo out ((i : Int) - 1) = some r ∧ 0 ≤ r ∧ r < 18446744073709551616 ∧ r * r ≤ hi * 18446744073709551616 + lo ∧ hi * 18446744073709551616 + lo < (r + 1) * (r + 1) := by
  intro i
  induction i with
  | zero =>
    intro out _ o0 _ o1 s0 s1
    refine ⟨out, ?_, o0, by simp at o1; omega, s0, by simpa using s1⟩
    rw [show K + 0 + 1 = K + 1 by omega, fx_Root.l0, if_neg (by omega)]
  | succ i ih =>
    intro out hi64 o0 om o1 s0 s1
    have p0 : (0 : Int) < 2 ^ i := Int.pow_pos (by decide)
    have p2 : (2 : Int) ^ (i + 1) = 2 * 2 ^ i := by rw [Int.pow_succ]; omega
    have e1 : (((i + 1 : Nat) : Int) - 1) = (i : Int) := by omega
    rw [e1, show K + (i + 1) + 1 = (K + i + 1) + 1 by omega, fx_Root.l0, if_pos (by omega), u64id (n := (i : Int)) (by omega) (by omega), if_pos (by omega)]
    rw [shl_tells 1 i (by omega), Int.one_mul, show (2 : Int) ^ i % 18446744073709551616 = 2 ^ i from Int.emod_eq_of_lt (by omega) (by omega)]
    rw [orN (i + 1) out (2 ^ i) o0 om (by omega) (by omega) (by omega) (by omega)]
    have x0 : 0 ≤ out + 2 ^ i := by omega
    have x1 : out + 2 ^ i < 18446744073709551616 := by omega
    rw [mul64_tells x0 x1 x0 x1, Option.bind_some]
    simp only []
    have w : wrap64 ((i : Int) - 1) = (i : Int) - 1 := wid (by omega) (by omega)
    rw [w]
    have xx0 : 0 ≤ (out + 2 ^ i) * (out + 2 ^ i) := Int.mul_nonneg x0 x0
    have m1 : out % 2 ^ i = 0 := by
      have h : (2 : Int) ^ i ∣ out := Int.dvd_trans ⟨2, by rw [p2, Int.mul_comm]⟩ (Int.dvd_of_emod_eq_zero om)
      exact Int.emod_eq_zero_of_dvd h
    have m2 : (out + 2 ^ i) % 2 ^ i = 0 := by rw [Int.add_emod_right]; exact m1
    have yes : (out + 2 ^ i) * (out + 2 ^ i) ≤ hi * 18446744073709551616 + lo → ∃ r, fx_Root.l0 (K + i + 1) hi lo (out + 2 ^ i) ((i : Int) - 1) = some r ∧ 0 ≤ r ∧ r < 18446744073709551616 ∧ r * r ≤ hi * 18446744073709551616 + lo ∧ hi * 18446744073709551616 + lo < (r + 1) * (r + 1) := by
      intro h
      refine ih (out + 2 ^ i) (by omega) x0 m2 (by omega) h ?_
      rw [show out + 2 ^ i + 2 ^ i = out + 2 ^ (i + 1) by omega]; exact s1
    have no : ¬ ((out + 2 ^ i) * (out + 2 ^ i) ≤ hi * 18446744073709551616 + lo) → ∃ r, fx_Root.l0 (K + i + 1) hi lo out ((i : Int) - 1) = some r ∧ 0 ≤ r ∧ r < 18446744073709551616 ∧ r * r ≤ hi * 18446744073709551616 + lo ∧ hi * 18446744073709551616 + lo < (r + 1) * (r + 1) := by
      intro h
      exact ih out (by omega) o0 m1 (by omega) s0 (by omega)
    generalize (out + 2 ^ i) * (out + 2 ^ i) = X at *
    by_cases c1 : X / 18446744073709551616 < hi
    · rw [if_pos c1]; exact yes (by omega)
    · rw [if_neg c1]
      by_cases c2 : X / 18446744073709551616 = hi
      · rw [if_pos c2]
        by_cases c3 : X % 18446744073709551616 ≤ lo
        · rw [if_pos c3]; exact yes (by omega)
        · rw [if_neg c3]; exact no (by omega)
      · rw [if_neg c2]; exact no (by omega)
theorem root_tells (K : Nat) (hi lo : Int) (h0 : 0 ≤ hi) (h1 : hi < 18446744073709551616) (l0 : 0 ≤ lo) (l1 : lo < 18446744073709551616) :
    ∃ r, fx_Root.f (K + 65) hi lo = some r ∧ 0 ≤ r ∧ r < 18446744073709551616 ∧ r * r ≤ hi * 18446744073709551616 + lo ∧ hi * 18446744073709551616 + lo < (r + 1) * (r + 1) := by
  have h := root_loop hi lo h0 h1 l0 l1 K 64 0 (by omega) (by omega) (by omega) (by omega) (by omega) (by omega)
  exact h
theorem root_one {r s n : Int} (r0 : 0 ≤ r) (s0 : 0 ≤ s) (h1 : r * r ≤ n) (h2 : n < (r + 1) * (r + 1)) (h3 : s * s ≤ n) (h4 : n < (s + 1) * (s + 1)) : r = s := by
  have lt : ∀ a b : Int, 0 ≤ a → 0 ≤ b → a * a ≤ n → n < (b + 1) * (b + 1) → a ≤ b := by
    intro a b a0 b0 ha hb
    rcases Int.lt_or_le b a with h | h
    · exfalso
      have : (b + 1) * (b + 1) ≤ a * a := Int.mul_le_mul h h (by omega) a0
      omega
    · exact h
  have := lt r s r0 s0 h1 h4
  have := lt s r s0 r0 h3 h2
  omega
theorem sqrt_tells (K : Nat) (v : Int) (h0 : 0 ≤ v) (h1 : v < 18446744073709551616) :
    ∃ r, fx_Sqrt.f (K + 65) v = some r ∧ 0 ≤ r ∧ r < 4294967296 ∧ r * r ≤ v ∧ v < (r + 1) * (r + 1) := by
  obtain ⟨r, hr, r0, _, s0, s1⟩ := root_tells K 0 v (by omega) (by omega) h0 h1
  have r2 : r < 4294967296 := by
    rcases Int.lt_or_le r 4294967296 with h | h
    · exact h
    · have : 4294967296 * 4294967296 ≤ r * r := Int.mul_le_mul h h (by omega) r0
      omega
  refine ⟨r, ?_, r0, r2, by omega, by omega⟩
  unfold fx_Sqrt.f
  rw [hr, Option.bind_some, Int.emod_eq_of_lt r0 r2]
theorem sq_bound {x B : Int} (hB : 0 ≤ B) (h0 : -B ≤ x) (h1 : x ≤ B) : 0 ≤ x * x ∧ x * x ≤ B * B := by
  rcases Int.lt_or_le x 0 with h | h
  · have e : x * x = (-x) * (-x) := (Int.neg_mul_neg x x).symm
    rw [e]
    exact ⟨Int.mul_nonneg (by omega) (by omega), Int.mul_le_mul (by omega) (by omega) (by omega) hB⟩
  · exact ⟨Int.mul_nonneg h h, Int.mul_le_mul h1 h1 h hB⟩
theorem hypot_tells (K : Nat) (x y : Int) (x0 : -2147483648 ≤ x) (x1 : x ≤ 2147483648) (y0 : -2147483648 ≤ y) (y1 : y ≤ 2147483648) :
    ∃ r, fx_Hypot.f (K + 65) x y = some (r, true) ∧ 0 ≤ r ∧ r < 4294967296 ∧ r * r ≤ x * x + y * y ∧ x * x + y * y < (r + 1) * (r + 1) := by
  obtain ⟨a0, a1⟩ := sq_bound (by decide) x0 x1
  obtain ⟨b0, b1⟩ := sq_bound (by decide) y0 y1
  obtain ⟨r, hr, r0, r1, s0, s1⟩ := sqrt_tells K (x * x + y * y) (by omega) (by omega)
  refine ⟨r, ?_, r0, r1, s0, s1⟩
  unfold fx_Hypot.f
  rw [if_neg (by omega), if_neg (by omega), if_neg (by omega), if_neg (by omega)]
  generalize x * x = X at *
  generalize y * y = Y at *
  rw [wid (x := X) (by omega) (by omega), wid (x := Y) (by omega) (by omega), u64id (n := X) (by omega) (by omega), u64id (n := Y) (by omega) (by omega), u64id (n := X + Y) (by omega) (by omega), hr, Option.bind_some, wid (by omega) (by omega)]
theorem rnd_whole (x c : Int) (c0 : 0 < c) : rnd (x * c) c = x := by
  unfold rnd
  have e : 2 * (x * c) + c = c + 2 * c * x := by rw [Int.mul_comm x c, ← Int.mul_assoc]; omega
  rw [e, Int.add_mul_ediv_left _ _ (by omega), Int.ediv_eq_zero_of_lt (by omega) (by omega)]; omega
end Go.Proofs.YtaiolioggjknfaaDoor.YFx
