/- Both sides made up to 256 times as long leave the angle as it was. No condition. -/
import Derived.Test.YtoedbnnepcnjnaaPAngleScalesx1
namespace Go.Proofs.Ytoedbnnepcnjnaa.Pure
open Go.RowKit Go.Proofs.Ytoedbnnepcnjnaa.PAngleScales Go.Proofs.YtoedbnnepcnjnaaW.PrintWords Go.Proofs.YtoedbnnepcnjnaaW.PrintLast
namespace AngleScales_

theorem wid {x : Int} (h0 : -9223372036854775808 ≤ x) (h1 : x < 9223372036854775808) : wrap64 x = x := by unfold wrap64; omega
theorem u16w (n : Int) : IntKind.u16.wrap n = n % 65536 := by simp [IntKind.wrap, IntKind.bits, IntKind.signed]
theorem i16w (n : Int) : IntKind.i16.wrap n = (n + 32768) % 65536 - 32768 := by
  simp [IntKind.wrap, IntKind.bits, IntKind.signed]
  split <;> omega
theorem u16_id (n : Int) (h0 : 0 ≤ n) (h1 : n < 2 ^ 16) : IntKind.u16.wrap n = n := by rw [u16w]; omega
theorem low14 (a : Int) (h0 : 0 ≤ a) (h1 : a < 65536) : Go.bits .and .u16 a 16383 = a % 16384 :=
  bits_mask .u16 16 (by decide) u16_id 14 (by decide) a h0 h1

/-- A sine within the first quarter. -/
def sn (x : Int) : Int := x * (51472 - (x * x / 16384) * (21024 - (x * x / 16384) * 2320 / 16384) / 16384) / 16384

theorem sine_tells (x : Int) (h0 : 0 ≤ x) (h1 : x ≤ 16384) : angle_sine.f x = some (sn x) ∧ 0 ≤ sn x ∧ sn x ≤ 51472 := by
  have hxx0 : 0 ≤ x * x := Int.mul_nonneg h0 h0
  have hxx1 : x * x ≤ 16384 * 16384 := Int.mul_le_mul h1 h1 h0 (by decide)
  unfold angle_sine.f sn
  rw [wid (x := x * x) (by omega) (by omega)]
  generalize ht : x * x / 16384 = t
  have t0 : 0 ≤ t := by omega
  have t1 : t ≤ 16384 := by omega
  rw [wid (x := t * 2320) (by omega) (by omega)]
  generalize hu : t * 2320 / 16384 = u
  have u0 : 0 ≤ u := by omega
  have u1 : u ≤ 2320 := by omega
  rw [wid (x := 21024 - u) (by omega) (by omega)]
  have p0 : 0 ≤ t * (21024 - u) := Int.mul_nonneg t0 (by omega)
  have p1 : t * (21024 - u) ≤ 16384 * 21024 := Int.mul_le_mul t1 (by omega) (by omega) (by decide)
  generalize hp : t * (21024 - u) = p at p0 p1 ⊢
  rw [wid (x := p) (by omega) (by omega)]
  generalize hv : p / 16384 = v
  have v0 : 0 ≤ v := by omega
  have v1 : v ≤ 21024 := by omega
  rw [wid (x := 51472 - v) (by omega) (by omega)]
  have q0 : 0 ≤ x * (51472 - v) := Int.mul_nonneg h0 (by omega)
  have q1 : x * (51472 - v) ≤ 16384 * 51472 := Int.mul_le_mul h1 (by omega) (by omega) (by decide)
  generalize hq : x * (51472 - v) = q at q0 q1 ⊢
  rw [wid (x := q) (by omega) (by omega)]
  exact ⟨rfl, by omega, by omega⟩

/-- The sine of any angle. -/
def sinN (a : Int) : Int := if a / 16384 = 0 then sn (a % 16384) else if a / 16384 = 1 then sn (16384 - a % 16384) else if a / 16384 = 2 then -sn (a % 16384) else -sn (16384 - a % 16384)

theorem sin_tells (a : Int) (h0 : 0 ≤ a) (h1 : a < 65536) : angle_Sin.f a = some (sinN a) ∧ -51472 ≤ sinN a ∧ sinN a ≤ 51472 := by
  obtain ⟨e1, l1, g1⟩ := sine_tells (a % 16384) (by omega) (by omega)
  obtain ⟨e2, l2, g2⟩ := sine_tells (16384 - a % 16384) (by omega) (by omega)
  unfold angle_Sin.f sinN
  rw [low14 a h0 h1, wid (x := a % 16384) (by omega) (by omega), wid (x := 16384 - a % 16384) (by omega) (by omega), e1, e2]
  simp only [Option.bind_some]
  have hq : a / 16384 = 0 ∨ a / 16384 = 1 ∨ a / 16384 = 2 ∨ a / 16384 = 3 := by omega
  rcases hq with hq | hq | hq | hq <;> simp only [hq] <;> simp
  · exact ⟨by omega, by omega⟩
  · exact ⟨by omega, by omega⟩
  · exact ⟨wid (by omega) (by omega), by omega, by omega⟩
  · exact ⟨wid (by omega) (by omega), by omega, by omega⟩

def cosN (a : Int) : Int := sinN ((a + 16384) % 65536)

theorem cos_tells (a : Int) : angle_Cos.f a = some (cosN a) ∧ -51472 ≤ cosN a ∧ cosN a ≤ 51472 := by
  obtain ⟨e, l, g⟩ := sin_tells ((a + 16384) % 65536) (by omega) (by omega)
  unfold angle_Cos.f cosN
  rw [u16w, e]
  exact ⟨rfl, l, g⟩

theorem known_holds : leadlinelaw3_known.f 40 = some true := by decide +kernel

theorem half (s : Int) (h0 : 0 ≤ s) (h1 : s ≤ 65535) : IntKind.u16.wrap (Int.tdiv s 2) = s / 2 := by
  rw [Int.tdiv_eq_ediv_of_nonneg h0, u16w]; omega

/-- The search within the first quarter: it ends, and lies between. -/
theorem l0_ends (y x : Int) : ∀ (k : Nat) (a s : Int), 0 ≤ a → 0 ≤ s → a + 2 * s ≤ 65535 → s < 2 ^ k →
    ∃ r, angle_first.l0 (k + 1) y x a s = some r ∧ a ≤ r ∧ r ≤ a + 2 * s := by
  intro k
  induction k with
  | zero =>
    intro a s ha hs hb hk
    have h0 : ¬ s > 0 := by simp at hk; omega
    exact ⟨a, by simp only [angle_first.l0]; rw [if_neg h0], by omega, by omega⟩
  | succ k ih =>
    intro a s ha hs hb hk
    have hk2 : s / 2 < 2 ^ k := by rw [Int.pow_succ] at hk; omega
    by_cases h0 : s > 0
    · have hw : IntKind.u16.wrap (a + s) = a + s := by rw [u16w]; omega
      obtain ⟨e1, _, _⟩ := cos_tells (a + s)
      obtain ⟨e2, _, _⟩ := sin_tells (a + s) (by omega) (by omega)
      by_cases hc : wrap64 (y * cosN (a + s)) ≥ wrap64 (x * sinN (a + s))
      · obtain ⟨r, hr, l, g⟩ := ih (a + s) (s / 2) (by omega) (by omega) (by omega) hk2
        refine ⟨r, ?_, by omega, by omega⟩
        rw [angle_first.l0]
        rw [if_pos h0, hw, e1, e2, half s hs (by omega)]; simp only [Option.bind_some]; rw [if_pos hc]; exact hr
      · obtain ⟨r, hr, l, g⟩ := ih a (s / 2) (by omega) (by omega) (by omega) hk2
        refine ⟨r, ?_, by omega, by omega⟩
        rw [angle_first.l0]
        rw [if_pos h0, hw, e1, e2, half s hs (by omega)]; simp only [Option.bind_some]; rw [if_neg hc]; exact hr
    · exact ⟨a, by rw [angle_first.l0]; rw [if_neg h0], by omega, by omega⟩

theorem first_ends (y x : Int) (hx : x ≠ 0) : ∃ r, angle_first.f 38 y x = some r ∧ 0 ≤ r ∧ r ≤ 16384 := by
  obtain ⟨r, hr, l, g⟩ := l0_ends y x 36 0 8192 (by omega) (by omega) (by omega) (by decide)
  refine ⟨r, ?_, by omega, by omega⟩
  unfold angle_first.f
  rw [if_neg hx, angle_first.j0]
  simp only [Bool.false_eq_true, if_false]
  rw [if_neg hx]; exact hr

theorem near_is (v : Int) (h0 : -1099511627776 ≤ v) (h1 : v ≤ 1099511627776) : angle_far.f v = some false := by
  unfold angle_far.f
  rw [if_neg (by omega)]
  simp; omega

/-- Which of the four quarters. -/
theorem atan_tells (y x : Int) (hy0 : -1099511627776 ≤ y) (hy1 : y ≤ 1099511627776) (hx0 : -1099511627776 ≤ x) (hx1 : x ≤ 1099511627776) :
    angle_Atan.f 40 y x = if x < 0 ∧ y < 0 then (angle_first.f 38 (-y) (-x)).bind fun t => some (IntKind.u16.wrap (32768 + t), true)
      else if x < 0 then (angle_first.f 38 y (-x)).bind fun t => some (IntKind.u16.wrap (32768 - t), true)
      else if y < 0 then (angle_first.f 38 (-y) x).bind fun t => some (IntKind.u16.wrap (-t), true)
      else (angle_first.f 38 y x).bind fun t => some (t, true) := by
  unfold angle_Atan.f
  rw [near_is x hx0 hx1, near_is y hy0 hy1]
  simp only [Option.bind_some, Bool.false_eq_true, if_false]
  rw [angle_Atan.j0]
  simp only [Bool.false_eq_true, if_false]
  rw [angle_Atan.j1, angle_Atan.j1]
  rw [wid (x := -y) (by omega) (by omega), wid (x := -x) (by omega) (by omega)]
  by_cases h1 : x < 0 <;> by_cases h2 : y < 0 <;> simp [h1, h2]

theorem mul_ge {a b n : Int} (hn : 0 < n) : a * n ≥ b * n ↔ a ≥ b := by
  constructor
  · intro h; exact Int.le_of_mul_le_mul_right h hn
  · intro h; exact Int.mul_le_mul_of_nonneg_right h (by omega)

theorem prod_bound {y c : Int} (B : Int) (hB : 0 ≤ B) (y0 : -B ≤ y) (y1 : y ≤ B) (c0 : -51472 ≤ c) (c1 : c ≤ 51472) : -(B * 51472) ≤ y * c ∧ y * c ≤ B * 51472 := by
  have h1 : y.natAbs ≤ B.natAbs := by omega
  have h2 : c.natAbs ≤ 51472 := by omega
  have h3 : (y * c).natAbs ≤ B.natAbs * 51472 := by rw [Int.natAbs_mul]; exact Nat.mul_le_mul h1 h2
  have h4 : ((B.natAbs * 51472 : Nat) : Int) = B * 51472 := by
    rw [Int.natCast_mul, Int.natAbs_of_nonneg hB]; rfl
  omega

/-- The search hangs on the sides' share alone. -/
theorem l0_scales (y x n : Int) (hy0 : -2147483648 ≤ y) (hy1 : y ≤ 2147483648) (hx0 : -2147483648 ≤ x) (hx1 : x ≤ 2147483648) (hn0 : 1 ≤ n) (hn1 : n ≤ 256)
    (by0 : -549755813888 ≤ y * n) (by1 : y * n ≤ 549755813888) (bx0 : -549755813888 ≤ x * n) (bx1 : x * n ≤ 549755813888) :
    ∀ (k : Nat) (a s : Int), 0 ≤ a → 0 ≤ s → a + 2 * s ≤ 65535 → angle_first.l0 k (y * n) (x * n) a s = angle_first.l0 k y x a s := by
  intro k
  induction k with
  | zero => intro a s _ _ _; rw [angle_first.l0, angle_first.l0]
  | succ k ih =>
    intro a s ha hs hb
    rw [angle_first.l0, angle_first.l0]
    by_cases h0 : s > 0
    · have hw : IntKind.u16.wrap (a + s) = a + s := by rw [u16w]; omega
      obtain ⟨e1, l1, g1⟩ := cos_tells (a + s)
      obtain ⟨e2, l2, g2⟩ := sin_tells (a + s) (by omega) (by omega)
      rw [if_pos h0, if_pos h0, hw, e1, e2, half s hs (by omega)]
      simp only [Option.bind_some]
      have b1 := prod_bound 2147483648 (by decide) hy0 hy1 l1 g1
      have b2 := prod_bound 2147483648 (by decide) hx0 hx1 l2 g2
      have b3 := prod_bound 549755813888 (by decide) by0 by1 l1 g1
      have b4 := prod_bound 549755813888 (by decide) bx0 bx1 l2 g2
      have e3 : y * n * cosN (a + s) = y * cosN (a + s) * n := by rw [Int.mul_assoc, Int.mul_comm n, ← Int.mul_assoc]
      have e4 : x * n * sinN (a + s) = x * sinN (a + s) * n := by rw [Int.mul_assoc, Int.mul_comm n, ← Int.mul_assoc]
      rw [wid (x := y * n * cosN (a + s)) (by omega) (by omega), wid (x := x * n * sinN (a + s)) (by omega) (by omega), wid (x := y * cosN (a + s)) (by omega) (by omega), wid (x := x * sinN (a + s)) (by omega) (by omega)]
      rw [ih (a + s) (s / 2) (by omega) (by omega) (by omega), ih a (s / 2) (by omega) (by omega) (by omega), e3, e4]
      by_cases hc : y * cosN (a + s) ≥ x * sinN (a + s)
      · rw [if_pos hc, if_pos ((mul_ge (by omega)).2 hc)]
      · rw [if_neg hc, if_neg (fun h => hc ((mul_ge (by omega)).1 h))]
    · rw [if_neg h0, if_neg h0]

theorem first_scales (y x n : Int) (hy0 : -2147483648 ≤ y) (hy1 : y ≤ 2147483648) (hx0 : -2147483648 ≤ x) (hx1 : x ≤ 2147483648) (hn0 : 1 ≤ n) (hn1 : n ≤ 256)
    (by0 : -549755813888 ≤ y * n) (by1 : y * n ≤ 549755813888) (bx0 : -549755813888 ≤ x * n) (bx1 : x * n ≤ 549755813888) :
    angle_first.f 38 (y * n) (x * n) = angle_first.f 38 y x ∧ ∃ r, angle_first.f 38 y x = some r := by
  have hz : ∀ z : Int, z * n = 0 ↔ z = 0 := fun z => by
    constructor
    · intro h; rcases Int.mul_eq_zero.1 h with h | h <;> omega
    · intro h; rw [h, Int.zero_mul]
  by_cases hx : x = 0
  · have hxn := (hz x).2 hx
    unfold angle_first.f
    rw [if_pos hx, if_pos hxn, angle_first.j0, angle_first.j0]
    by_cases hy : y = 0
    · have hyn := (hz y).2 hy
      simp [hy]
    · have hyn : ¬ y * n = 0 := fun h => hy ((hz y).1 h)
      have b1 : (y == 0) = false := by simpa using hy
      have b2 : (y * n == 0) = false := by simpa using hyn
      rw [b1, b2, if_pos hx, if_pos hxn]
      simp
  · have hxn : ¬ x * n = 0 := fun h => hx ((hz x).1 h)
    obtain ⟨r, hr, _, _⟩ := first_ends y x hx
    refine ⟨?_, r, hr⟩
    unfold angle_first.f
    rw [if_neg hx, if_neg hxn, angle_first.j0, angle_first.j0, if_neg hx, if_neg hxn]
    simp only [Bool.false_eq_true, if_false]
    exact l0_scales y x n hy0 hy1 hx0 hx1 hn0 hn1 by0 by1 bx0 bx1 _ 0 8192 (by omega) (by omega) (by omega)

end AngleScales_
open AngleScales_ in
theorem AngleScales : leadlinelaw3_AngleScales.Pure := by
  intro y x m hy hx hm
  have hy' : -2147483648 ≤ y ∧ y ≤ 2147483647 := by simp [Lit.wf, IntKind.min, IntKind.max, IntKind.bits, IntKind.signed] at hy; omega
  have hx' : -2147483648 ≤ x ∧ x ≤ 2147483647 := by simp [Lit.wf, IntKind.min, IntKind.max, IntKind.bits, IntKind.signed] at hx; omega
  have hm' : 0 ≤ m ∧ m ≤ 255 := by simp [Lit.wf, IntKind.min, IntKind.max, IntKind.bits, IntKind.signed] at hm; omega
  refine ⟨40, ?_⟩
  obtain ⟨n, hn⟩ : ∃ n, n = m + 1 := ⟨_, rfl⟩
  have n0 : 1 ≤ n := by omega
  have n1 : n ≤ 256 := by omega
  have nb : ∀ z : Int, -2147483648 ≤ z → z ≤ 2147483648 → -549755813888 ≤ z * n ∧ z * n ≤ 549755813888 := fun z z0 z1 => by
    have h1 : z.natAbs ≤ 2147483648 := by omega
    have h2 : n.natAbs ≤ 256 := by omega
    have h3 : (z * n).natAbs ≤ 2147483648 * 256 := by rw [Int.natAbs_mul]; exact Nat.mul_le_mul h1 h2
    omega
  have sg : ∀ z : Int, z * n < 0 ↔ z < 0 := fun z => by
    constructor
    · intro h; exact Int.lt_of_mul_lt_mul_right (by simpa using h) (show 0 ≤ n by omega)
    · intro h; exact Int.mul_neg_of_neg_of_pos h (by omega)
  obtain ⟨yb0, yb1⟩ := nb y (by omega) (by omega)
  obtain ⟨xb0, xb1⟩ := nb x (by omega) (by omega)
  unfold leadlinelaw3_AngleScales.f
  rw [wid (x := y) (by omega) (by omega), wid (x := x) (by omega) (by omega), wid (x := m) (by omega) (by omega), wid (x := m + 1) (by omega) (by omega), ← hn, wid (x := y * n) (by omega) (by omega), wid (x := x * n) (by omega) (by omega)]
  rw [known_holds, atan_tells y x (by omega) (by omega) (by omega) (by omega), atan_tells (y * n) (x * n) (by omega) (by omega) (by omega) (by omega)]
  simp only [sg, ← Int.neg_mul]
  obtain ⟨a1, r1, b1⟩ := first_scales y x n (by omega) (by omega) (by omega) (by omega) n0 n1 yb0 yb1 xb0 xb1
  obtain ⟨yc0, yc1⟩ := nb (-y) (by omega) (by omega)
  obtain ⟨xc0, xc1⟩ := nb (-x) (by omega) (by omega)
  obtain ⟨a2, r2, b2⟩ := first_scales (-y) (-x) n (by omega) (by omega) (by omega) (by omega) n0 n1 yc0 yc1 xc0 xc1
  obtain ⟨a3, r3, b3⟩ := first_scales y (-x) n (by omega) (by omega) (by omega) (by omega) n0 n1 yb0 yb1 xc0 xc1
  obtain ⟨a4, r4, b4⟩ := first_scales (-y) x n (by omega) (by omega) (by omega) (by omega) n0 n1 yc0 yc1 xb0 xb1
  rw [a1, a2, a3, a4, b1, b2, b3, b4]
  by_cases h1 : x < 0 <;> by_cases h2 : y < 0 <;> simp [h1, h2]

end Go.Proofs.Ytoedbnnepcnjnaa.Pure
