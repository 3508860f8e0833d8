/- Of any two sides above nought, with other signs the angle is the mirrored one. No condition. -/
import Derived.Test.YtoedbnnepcnjnaaPAngleSidesx1
namespace Go.Proofs.Ytoedbnnepcnjnaa.Pure
open Go.RowKit Go.Proofs.Ytoedbnnepcnjnaa.PAngleSides Go.Proofs.YtoedbnnepcnjnaaW.PrintWords Go.Proofs.YtoedbnnepcnjnaaW.PrintLast
namespace AngleSides_

theorem wid {x : Int} (h0 : -9223372036854775808 ≤ x) (h1 : x < 9223372036854775808) : wrap64 x = x := by unfold wrap64; omega
theorem u16w (n : Int) : IntKind.u16.wrap n = n % 65536 := by simp [IntKind.wrap, IntKind.bits, IntKind.signed]
theorem i16w (n : Int) : IntKind.i16.wrap n = (n + 32768) % 65536 - 32768 := by
  simp [IntKind.wrap, IntKind.bits, IntKind.signed]
  split <;> omega
theorem u16_id (n : Int) (h0 : 0 ≤ n) (h1 : n < 2 ^ 16) : IntKind.u16.wrap n = n := by rw [u16w]; omega
theorem low14 (a : Int) (h0 : 0 ≤ a) (h1 : a < 65536) : Go.bits .and .u16 a 16383 = a % 16384 :=
  bits_mask .u16 16 (by decide) u16_id 14 (by decide) a h0 h1

/-- A sine within the first quarter. -/
def sn (x : Int) : Int := x * (51472 - (x * x / 16384) * (21024 - (x * x / 16384) * 2320 / 16384) / 16384) / 16384

theorem sine_tells (x : Int) (h0 : 0 ≤ x) (h1 : x ≤ 16384) : angle_sine.f x = some (sn x) ∧ 0 ≤ sn x ∧ sn x ≤ 51472 := by
  have hxx0 : 0 ≤ x * x := Int.mul_nonneg h0 h0
  have hxx1 : x * x ≤ 16384 * 16384 := Int.mul_le_mul h1 h1 h0 (by decide)
  unfold angle_sine.f sn
  rw [wid (x := x * x) (by omega) (by omega)]
  generalize ht : x * x / 16384 = t
  have t0 : 0 ≤ t := by omega
  have t1 : t ≤ 16384 := by omega
  rw [wid (x := t * 2320) (by omega) (by omega)]
  generalize hu : t * 2320 / 16384 = u
  have u0 : 0 ≤ u := by omega
  have u1 : u ≤ 2320 := by omega
  rw [wid (x := 21024 - u) (by omega) (by omega)]
  have p0 : 0 ≤ t * (21024 - u) := Int.mul_nonneg t0 (by omega)
  have p1 : t * (21024 - u) ≤ 16384 * 21024 := Int.mul_le_mul t1 (by omega) (by omega) (by decide)
  generalize hp : t * (21024 - u) = p at p0 p1 ⊢
  rw [wid (x := p) (by omega) (by omega)]
  generalize hv : p / 16384 = v
  have v0 : 0 ≤ v := by omega
  have v1 : v ≤ 21024 := by omega
  rw [wid (x := 51472 - v) (by omega) (by omega)]
  have q0 : 0 ≤ x * (51472 - v) := Int.mul_nonneg h0 (by omega)
  have q1 : x * (51472 - v) ≤ 16384 * 51472 := Int.mul_le_mul h1 (by omega) (by omega) (by decide)
  generalize hq : x * (51472 - v) = q at q0 q1 ⊢
  rw [wid (x := q) (by omega) (by omega)]
  exact ⟨rfl, by omega, by omega⟩

/-- The sine of any angle. -/
def sinN (a : Int) : Int := if a / 16384 = 0 then sn (a % 16384) else if a / 16384 = 1 then sn (16384 - a % 16384) else if a / 16384 = 2 then -sn (a % 16384) else -sn (16384 - a % 16384)

theorem sin_tells (a : Int) (h0 : 0 ≤ a) (h1 : a < 65536) : angle_Sin.f a = some (sinN a) ∧ -51472 ≤ sinN a ∧ sinN a ≤ 51472 := by
  obtain ⟨e1, l1, g1⟩ := sine_tells (a % 16384) (by omega) (by omega)
  obtain ⟨e2, l2, g2⟩ := sine_tells (16384 - a % 16384) (by omega) (by omega)
  unfold angle_Sin.f sinN
  rw [low14 a h0 h1, wid (x := a % 16384) (by omega) (by omega), wid (x := 16384 - a % 16384) (by omega) (by omega), e1, e2]
  simp only [Option.bind_some]
  have hq : a / 16384 = 0 ∨ a / 16384 = 1 ∨ a / 16384 = 2 ∨ a / 16384 = 3 := by omega
  rcases hq with hq | hq | hq | hq <;> simp only [hq] <;> simp
  · exact ⟨by omega, by omega⟩
  · exact ⟨by omega, by omega⟩
  · exact ⟨wid (by omega) (by omega), by omega, by omega⟩
  · exact ⟨wid (by omega) (by omega), by omega, by omega⟩

def cosN (a : Int) : Int := sinN ((a + 16384) % 65536)

theorem cos_tells (a : Int) : angle_Cos.f a = some (cosN a) ∧ -51472 ≤ cosN a ∧ cosN a ≤ 51472 := by
  obtain ⟨e, l, g⟩ := sin_tells ((a + 16384) % 65536) (by omega) (by omega)
  unfold angle_Cos.f cosN
  rw [u16w, e]
  exact ⟨rfl, l, g⟩

theorem known_holds : leadlinelaw3_known.f 40 = some true := by decide +kernel

theorem half (s : Int) (h0 : 0 ≤ s) (h1 : s ≤ 65535) : IntKind.u16.wrap (Int.tdiv s 2) = s / 2 := by
  rw [Int.tdiv_eq_ediv_of_nonneg h0, u16w]; omega

/-- The search within the first quarter: it ends, and lies between. -/
theorem l0_ends (y x : Int) : ∀ (k : Nat) (a s : Int), 0 ≤ a → 0 ≤ s → a + 2 * s ≤ 65535 → s < 2 ^ k →
    ∃ r, angle_first.l0 (k + 1) y x a s = some r ∧ a ≤ r ∧ r ≤ a + 2 * s := by
  intro k
  induction k with
  | zero =>
    intro a s ha hs hb hk
    have h0 : ¬ s > 0 := by simp at hk; omega
    exact ⟨a, by simp only [angle_first.l0]; rw [if_neg h0], by omega, by omega⟩
  | succ k ih =>
    intro a s ha hs hb hk
    have hk2 : s / 2 < 2 ^ k := by rw [Int.pow_succ] at hk; omega
    by_cases h0 : s > 0
    · have hw : IntKind.u16.wrap (a + s) = a + s := by rw [u16w]; omega
      obtain ⟨e1, _, _⟩ := cos_tells (a + s)
      obtain ⟨e2, _, _⟩ := sin_tells (a + s) (by omega) (by omega)
      by_cases hc : wrap64 (y * cosN (a + s)) ≥ wrap64 (x * sinN (a + s))
      · obtain ⟨r, hr, l, g⟩ := ih (a + s) (s / 2) (by omega) (by omega) (by omega) hk2
        refine ⟨r, ?_, by omega, by omega⟩
        rw [angle_first.l0]
        rw [if_pos h0, hw, e1, e2, half s hs (by omega)]; simp only [Option.bind_some]; rw [if_pos hc]; exact hr
      · obtain ⟨r, hr, l, g⟩ := ih a (s / 2) (by omega) (by omega) (by omega) hk2
        refine ⟨r, ?_, by omega, by omega⟩
        rw [angle_first.l0]
        rw [if_pos h0, hw, e1, e2, half s hs (by omega)]; simp only [Option.bind_some]; rw [if_neg hc]; exact hr
    · exact ⟨a, by rw [angle_first.l0]; rw [if_neg h0], by omega, by omega⟩

theorem first_ends (y x : Int) (hx : x ≠ 0) : ∃ r, angle_first.f 38 y x = some r ∧ 0 ≤ r ∧ r ≤ 16384 := by
  obtain ⟨r, hr, l, g⟩ := l0_ends y x 36 0 8192 (by omega) (by omega) (by omega) (by decide)
  refine ⟨r, ?_, by omega, by omega⟩
  unfold angle_first.f
  rw [if_neg hx, angle_first.j0]
  simp only [Bool.false_eq_true, if_false]
  rw [if_neg hx]; exact hr

theorem near_is (v : Int) (h0 : -1099511627776 ≤ v) (h1 : v ≤ 1099511627776) : angle_far.f v = some false := by
  unfold angle_far.f
  rw [if_neg (by omega)]
  simp; omega

/-- Which of the four quarters. -/
theorem atan_tells (y x : Int) (hy0 : -1099511627776 ≤ y) (hy1 : y ≤ 1099511627776) (hx0 : -1099511627776 ≤ x) (hx1 : x ≤ 1099511627776) :
    angle_Atan.f 40 y x = if x < 0 ∧ y < 0 then (angle_first.f 38 (-y) (-x)).bind fun t => some (IntKind.u16.wrap (32768 + t), true)
      else if x < 0 then (angle_first.f 38 y (-x)).bind fun t => some (IntKind.u16.wrap (32768 - t), true)
      else if y < 0 then (angle_first.f 38 (-y) x).bind fun t => some (IntKind.u16.wrap (-t), true)
      else (angle_first.f 38 y x).bind fun t => some (t, true) := by
  unfold angle_Atan.f
  rw [near_is x hx0 hx1, near_is y hy0 hy1]
  simp only [Option.bind_some, Bool.false_eq_true, if_false]
  rw [angle_Atan.j0]
  simp only [Bool.false_eq_true, if_false]
  rw [angle_Atan.j1, angle_Atan.j1]
  rw [wid (x := -y) (by omega) (by omega), wid (x := -x) (by omega) (by omega)]
  by_cases h1 : x < 0 <;> by_cases h2 : y < 0 <;> simp [h1, h2]

end AngleSides_
open AngleSides_ in
theorem AngleSides : leadlinelaw3_AngleSides.Pure := by
  intro y x hy hx
  have hy' : 0 ≤ y ∧ y < 4294967296 := by simp [Lit.wf, IntKind.min, IntKind.max, IntKind.bits, IntKind.signed] at hy; omega
  have hx' : 0 ≤ x ∧ x < 4294967296 := by simp [Lit.wf, IntKind.min, IntKind.max, IntKind.bits, IntKind.signed] at hx; omega
  refine ⟨40, ?_⟩
  obtain ⟨p, hp, p0, p1⟩ := first_ends (y + 1) (x + 1) (by omega)
  unfold leadlinelaw3_AngleSides.f
  rw [wid (x := y) (by omega) (by omega), wid (x := x) (by omega) (by omega), wid (x := y + 1) (by omega) (by omega), wid (x := x + 1) (by omega) (by omega), wid (x := -(y + 1)) (by omega) (by omega), wid (x := -(x + 1)) (by omega) (by omega)]
  rw [known_holds, atan_tells (y + 1) (x + 1) (by omega) (by omega) (by omega) (by omega), atan_tells (y + 1) (-(x + 1)) (by omega) (by omega) (by omega) (by omega), atan_tells (-(y + 1)) (-(x + 1)) (by omega) (by omega) (by omega) (by omega), atan_tells (-(y + 1)) (x + 1) (by omega) (by omega) (by omega) (by omega)]
  rw [if_neg (by omega), if_neg (by omega), if_neg (by omega)]
  rw [if_neg (by omega), if_pos (by omega)]
  rw [if_pos (by omega)]
  rw [if_neg (by omega), if_neg (by omega), if_pos (by omega)]
  rw [Int.neg_neg, Int.neg_neg, hp]
  simp only [Option.bind_some, if_true]
  rw [if_pos (by omega)]
  simp

end Go.Proofs.Ytoedbnnepcnjnaa.Pure
