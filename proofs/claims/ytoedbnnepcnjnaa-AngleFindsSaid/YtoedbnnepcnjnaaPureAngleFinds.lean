/- Which angle any two sides have: the program's search is the reference's, or both have none. No condition. -/
import Derived.Test.YtoedbnnepcnjnaaQAfx4
import Derived.Test.YtoedbnnepcnjnaaYAngAf
import Derived.Test.YtoedbnnepcnjnaaYRefCmpAf
namespace Go.Proofs.Ytoedbnnepcnjnaa.Pure
open Go.RowKit Go.Proofs.Ytoedbnnepcnjnaa.QAf Go.Proofs.Ytoedbnnepcnjnaa.YBitsAf Go.Proofs.Ytoedbnnepcnjnaa.YAngAf Go.Proofs.Ytoedbnnepcnjnaa.YRefAf Go.Proofs.YtoedbnnepcnjnaaW.PrintWords Go.Proofs.YtoedbnnepcnjnaaW.PrintLast
set_option linter.unusedVariables false
set_option linter.unusedSimpArgs false

/-- The search within the first quarter: n bits are left. -/
def srch (y x : Int) : Nat → Int → Int
  | 0, a => a
  | n + 1, a => if wrap64 (y * cosN (a + 2 ^ n)) ≥ wrap64 (x * sinN (a + 2 ^ n)) then srch y x n (a + 2 ^ n) else srch y x n a

theorem two_pos (n : Nat) : (1 : Int) ≤ 2 ^ n := by
  induction n with
  | zero => decide
  | succ n ih => rw [Int.pow_succ]; omega
theorem srch_range (y x : Int) : ∀ (n : Nat) (a : Int), a ≤ srch y x n a ∧ srch y x n a < a + 2 ^ n := by
  intro n
  induction n with
  | zero => intro a; simp [srch]; omega
  | succ n ih =>
    intro a
    have := two_pos n
    rw [srch, Int.pow_succ]
    split
    · have := ih (a + 2 ^ n); omega
    · have := ih a; omega

theorem half_pow (n : Nat) (h : n ≤ 14) : IntKind.u16.wrap (Int.tdiv (2 ^ (n + 1)) 2) = 2 ^ n := by
  have : ∀ m : Fin 15, IntKind.u16.wrap (Int.tdiv (2 ^ (m.val + 1)) 2) = 2 ^ m.val := by decide
  exact this ⟨n, by omega⟩
theorem shl_pow (n : Nat) (h : n ≤ 14) : shl .u16 1 (n : Int) = 2 ^ n := by
  have : ∀ m : Fin 15, shl .u16 1 (m.val : Int) = 2 ^ m.val := by decide
  exact this ⟨n, by omega⟩
theorem pow_le (n : Nat) (h : n ≤ 14) : (2 : Int) ^ n ≤ 16384 := by
  have : ∀ m : Fin 15, (2 : Int) ^ m.val ≤ 16384 := by decide
  exact this ⟨n, by omega⟩

theorem sut_first (y x : Int) (K : Nat) : ∀ (n : Nat) (a : Int), n ≤ 14 → 0 ≤ a → a + 2 ^ n ≤ 16384 →
    angle_first.l0 (K + n + 2) y x a (if n = 0 then 0 else 2 ^ (n - 1)) = some (srch y x n a) := by
  intro n
  induction n with
  | zero => intro a _ _ _; rw [if_pos rfl, angle_first.l0, if_neg (by omega)]; rfl
  | succ n ih =>
    intro a hn ha hb
    have hp := two_pos n
    have e2 : (2 : Int) ^ (n + 1) = 2 ^ n * 2 := Int.pow_succ ..
    rw [if_neg (by omega), show n + 1 - 1 = n by omega, show K + (n + 1) + 2 = (K + n + 2) + 1 by omega, angle_first.l0, if_pos (by omega)]
    have hw : IntKind.u16.wrap (a + 2 ^ n) = a + 2 ^ n := by rw [u16w]; omega
    rw [hw, (cos_tells (a + 2 ^ n)).1, (sin_tells (a + 2 ^ n) (by omega) (by omega)).1]
    simp only [Option.bind_some]
    have hh : IntKind.u16.wrap (Int.tdiv (2 ^ n) 2) = if n = 0 then 0 else 2 ^ (n - 1) := by
      cases n with
      | zero => decide
      | succ m => rw [half_pow m (by omega), if_neg (by omega)]; rfl
    rw [hh, srch]
    split
    · exact ih _ (by omega) (by omega) (by omega)
    · exact ih _ (by omega) (by omega) (by omega)
theorem ref_first (y x : Int) (K : Nat) : ∀ (n : Nat) (a : Int), n ≤ 14 → 0 ≤ a → a + 2 ^ n ≤ 16384 →
    leadlineref1_first.l0 (K + n + 2) y x a ((n : Int) - 1) = some (srch y x n a) := by
  intro n
  induction n with
  | zero => intro a _ _ _; rw [leadlineref1_first.l0, if_neg (by omega)]; rfl
  | succ n ih =>
    intro a hn ha hb
    have hp := two_pos n
    have e2 : (2 : Int) ^ (n + 1) = 2 ^ n * 2 := Int.pow_succ ..
    rw [show ((n + 1 : Nat) : Int) - 1 = (n : Int) by omega, show K + (n + 1) + 2 = (K + n + 2) + 1 by omega, leadlineref1_first.l0, if_pos (by omega), if_pos (by omega), shl_pow n (by omega)]
    have hw : IntKind.u16.wrap (a + 2 ^ n) = a + 2 ^ n := by rw [u16w]; omega
    rw [hw, ref_cos_tells (a + 2 ^ n), ref_sin_tells (a + 2 ^ n) (by omega) (by omega)]
    simp only [Option.bind_some]
    rw [wid (x := (n : Int) - 1) (by omega) (by omega), srch]
    split
    · exact ih _ (by omega) (by omega) (by omega)
    · exact ih _ (by omega) (by omega) (by omega)

/-- An angle within the first quarter. -/
def firstN (y x : Int) : Int := if x = 0 then 16384 else srch y x 14 0
theorem sut_first_tells (K : Nat) (y x : Int) (h : ¬(x = 0 ∧ y = 0)) : angle_first.f (K + 17) y x = some (firstN y x) := by
  unfold angle_first.f firstN
  have := sut_first y x K 14 0 (by omega) (by omega) (by decide)
  by_cases hx : x = 0
  · rw [if_pos hx, if_pos hx, show (y == 0) = false by simp; omega, show K + 17 = (K + 16) + 1 by omega, angle_first.j0]
    simp only [Bool.false_eq_true, if_false]
    rw [if_pos hx]
  · rw [if_neg hx, if_neg hx, show K + 17 = (K + 16) + 1 by omega, angle_first.j0]
    simp only [Bool.false_eq_true, if_false]
    rw [if_neg hx]; exact this
theorem ref_first_tells (K : Nat) (y x : Int) : leadlineref1_first.f (K + 17) y x = some (firstN y x) := by
  unfold leadlineref1_first.f firstN
  by_cases hx : x = 0
  · rw [if_pos hx, if_pos hx]
  · rw [if_neg hx, if_neg hx]; exact ref_first y x (K + 1) 14 0 (by omega) (by omega) (by decide)

/-- The angle of two sides. -/
def atanN (y x : Int) : Int × Bool :=
  if x < -1099511627776 ∨ x > 1099511627776 ∨ y < -1099511627776 ∨ y > 1099511627776 then (0, false)
  else if x = 0 ∧ y = 0 then (0, true)
  else if x < 0 ∧ y < 0 then (IntKind.u16.wrap (32768 + firstN (-y) (-x)), true)
  else if x < 0 then (IntKind.u16.wrap (32768 - firstN y (-x)), true)
  else if y < 0 then (IntKind.u16.wrap (-firstN (-y) x), true)
  else (firstN y x, true)

theorem far_tells (v : Int) : angle_far.f v = some (decide (v < -1099511627776 ∨ v > 1099511627776)) := by
  unfold angle_far.f
  by_cases h : v < -1099511627776
  · rw [if_pos h]; simp [h]
  · rw [if_neg h]; simp [h]
theorem sut_atan (K : Nat) (y x : Int) : angle_Atan.f (K + 20) y x = some (atanN y x) := by
  unfold angle_Atan.f atanN
  rw [far_tells, far_tells]
  simp only [Option.bind_some]
  have jt : angle_Atan.j0 (K + 20) y x true = some (0, false) := by rw [show K + 20 = (K + 19) + 1 by omega, angle_Atan.j0, if_pos rfl]
  by_cases f1 : x < -1099511627776 ∨ x > 1099511627776
  · rw [if_pos (by simpa using f1), jt, if_pos (by omega)]
  · rw [if_neg (by simpa using f1)]
    by_cases f2 : y < -1099511627776 ∨ y > 1099511627776
    · rw [show (decide (y < -1099511627776 ∨ y > 1099511627776)) = true by simpa using f2, jt, if_pos (by omega)]
    · rw [show (decide (y < -1099511627776 ∨ y > 1099511627776)) = false by simpa using f2, if_neg (by omega), show K + 20 = (K + 19) + 1 by omega, angle_Atan.j0]
      simp only [Bool.false_eq_true, if_false]
      rw [show K + 19 = (K + 18) + 1 by omega, angle_Atan.j1, angle_Atan.j1, wid (x := -y) (by omega) (by omega), wid (x := -x) (by omega) (by omega)]
      by_cases h0 : x = 0 ∧ y = 0
      · obtain ⟨rfl, rfl⟩ := h0
        simp only [Int.lt_irrefl, if_false, Bool.false_eq_true]
        unfold angle_first.f
        rw [if_pos rfl, show K + 18 = (K + 17) + 1 by omega, angle_first.j0]
        simp
      · rw [if_neg h0]
        by_cases h1 : x < 0
        · by_cases h2 : y < 0
          · simp only [h1, h2, decide_true, if_true, and_self]
            rw [show K + 18 = (K + 1) + 17 by omega, sut_first_tells _ _ _ (by omega)]; rfl
          · simp only [h1, h2, decide_false, if_true, and_false, if_false, Bool.false_eq_true]
            rw [show K + 18 = (K + 1) + 17 by omega, sut_first_tells _ _ _ (by omega)]; rfl
        · by_cases h2 : y < 0
          · simp only [h1, h2, if_true, and_true, false_and, if_false, Bool.false_eq_true]
            rw [show K + 18 = (K + 1) + 17 by omega, sut_first_tells _ _ _ (by omega)]; rfl
          · simp only [h1, h2, and_false, if_false, Bool.false_eq_true]
            rw [show K + 18 = (K + 1) + 17 by omega, sut_first_tells _ _ _ (by omega)]; rfl
theorem ab_le (v : Int) : (ab v ≤ 1099511627776) ↔ ¬(v < -1099511627776 ∨ v > 1099511627776) := by unfold ab; split <;> omega
theorem ref_atan (K : Nat) (y x : Int) (y0 : -9223372036854775808 ≤ y) (y1 : y ≤ 9223372036854775807) (x0 : -9223372036854775808 ≤ x) (x1 : x ≤ 9223372036854775807) :
    leadlineref1_Atan.f (K + 2000) y x = some (atanN y x) := by
  unfold leadlineref1_Atan.f atanN
  rw [Of_tells K x0 x1, Of_tells K y0 y1]
  simp only [Option.bind_some]
  rw [Fits_tells K (small_i64 x0 x1) (by decide) (by decide), Fits_tells K (small_i64 y0 y1) (by decide) (by decide)]
  simp only [Option.bind_some, ab_le]
  have jt : leadlineref1_Atan.j0 (K + 2000) y x true = some (0, false) := by rw [show K + 2000 = (K + 1999) + 1 by omega, leadlineref1_Atan.j0, if_pos rfl]
  by_cases f1 : x < -1099511627776 ∨ x > 1099511627776
  · rw [if_neg (by simp; omega), jt, if_pos (by omega)]
  · rw [if_pos (by simp; omega)]
    by_cases f2 : y < -1099511627776 ∨ y > 1099511627776
    · rw [show (!decide (¬(y < -1099511627776 ∨ y > 1099511627776))) = true by simp; omega, jt, if_pos (by omega)]
    · rw [show (!decide (¬(y < -1099511627776 ∨ y > 1099511627776))) = false by simp; omega, if_neg (by omega), show K + 2000 = (K + 1997) + 1 + 1 + 1 by omega, leadlineref1_Atan.j0]
      simp only [Bool.false_eq_true, if_false]
      rw [leadlineref1_Atan.j1, leadlineref1_Atan.j1, leadlineref1_Atan.j2, leadlineref1_Atan.j2, wid (x := -y) (by omega) (by omega), wid (x := -x) (by omega) (by omega)]
      simp only [show K + 1997 = (K + 1980) + 17 by omega, ref_first_tells, Option.bind_some]
      by_cases h0 : x = 0 ∧ y = 0
      · obtain ⟨rfl, rfl⟩ := h0
        simp
      · rw [if_neg h0]
        by_cases h1 : x < 0
        · rw [if_neg (by omega), if_pos h1]
          by_cases h2 : y < 0
          · have e : (decide (y ≥ 0)) = false := by simp; omega
            rw [e]
            simp [h1, h2]
          · have e : (decide (y ≥ 0)) = true := by simp; omega
            rw [e]
            simp [h1, h2]
        · by_cases hx : x = 0
          · have e : (y == 0) = false := by simp; omega
            rw [if_pos hx, e, if_neg h1]
            by_cases h2 : y < 0 <;> simp [h1, h2]
          · rw [if_neg hx, if_neg h1]
            by_cases h2 : y < 0 <;> simp [h1, h2]

def In64 (p : S33) : Prop := -9223372036854775808 ≤ p.f0 ∧ p.f0 ≤ 9223372036854775807 ∧ -9223372036854775808 ≤ p.f1 ∧ p.f1 ≤ 9223372036854775807
theorem loop_holds (l : List S33) (hl : ∀ p ∈ l, In64 p) (hs : l.length ≤ 100) : ∀ (n i : Nat), i + n = l.length → leadlinelaw3_AngleFinds.l0 (2000 + n + 1) l (l.length : Int) i = some true := by
  intro n
  induction n with
  | zero => intro i hi; rw [leadlinelaw3_AngleFinds.l0, if_neg (by omega)]
  | succ n ih =>
    intro i hi
    have hm : rd_T33 l (i : Int) ∈ l := by
      have : rd_T33 l (i : Int) = l[i]'(by omega) := by simp [rd_T33, show i < l.length by omega]
      rw [this]; exact List.getElem_mem _
    obtain ⟨h0, h1, h2, h3⟩ := hl _ hm
    rw [show 2000 + (n + 1) + 1 = (2000 + n + 1) + 1 by omega, leadlinelaw3_AngleFinds.l0, if_pos (by omega), if_pos (by omega), if_pos (by omega)]
    generalize rd_T33 l (i : Int) = p at *
    rw [show 2000 + n + 1 = (1981 + n) + 20 by omega, sut_atan, show 1981 + n + 20 = (n + 1) + 2000 by omega, ref_atan _ _ _ h0 h1 h2 h3]
    simp only [Option.bind_some, if_true, bne_self_eq_false, Bool.false_eq_true, if_false]
    rw [wid (by omega) (by omega), show n + 1 + 2000 = 2000 + n + 1 by omega]
    exact ih (i + 1) (by omega)

theorem shr_in (a : Int) (s : Nat) (hs : s < 64) (h0 : -9223372036854775808 ≤ a) (h1 : a ≤ 9223372036854775807) : -9223372036854775808 ≤ shr .i64 a (s : Int) ∧ shr .i64 a (s : Int) ≤ 9223372036854775807 := by
  have e : shr .i64 a (s : Int) = a / 2 ^ s := by
    unfold shr
    rw [Int.toNat_natCast, show min s (IntKind.bits .i64) = s from Nat.min_eq_left (show s ≤ 64 by omega)]
  rw [e]
  have hp := two_pos s
  generalize (2 : Int) ^ s = p at *
  refine ⟨?_, ?_⟩
  · rw [Int.le_ediv_iff_mul_le (by omega)]; omega
  · have := Int.ediv_lt_of_lt_mul (a := a) (b := 9223372036854775808) (c := p) (by omega) (by omega)
    omega
theorem AngleFinds : leadlinelaw3_AngleFinds.Pure := by
  intro y x m hy hx hm
  obtain ⟨y0, y1⟩ := wf_i64 hy
  obtain ⟨x0, x1⟩ := wf_i64 hx
  obtain ⟨m0, m1⟩ := wf_u8 hm
  refine ⟨2006, ?_⟩
  have hk : leadlinelaw3_known.f 2006 = some true := by decide +kernel
  unfold leadlinelaw3_AngleFinds.f
  have em : Int.tmod m 64 = ((m % 64).toNat : Int) := by rw [Int.tmod_eq_emod_of_nonneg m0]; omega
  rw [hk, em]
  obtain ⟨a0, a1⟩ := shr_in y (m % 64).toNat (by omega) y0 y1
  obtain ⟨b0, b1⟩ := shr_in x (m % 64).toNat (by omega) x0 x1
  simp only [Option.bind_some, if_true]
  rw [if_pos (by omega)]
  refine loop_holds _ (fun p hp => ?_) (by simp) 5 0 rfl
  simp only [List.mem_cons, List.not_mem_nil, or_false] at hp
  rcases hp with rfl | rfl | rfl | rfl | rfl <;> (refine ⟨?_, ?_, ?_, ?_⟩ <;> simp only [] <;> omega)
end Go.Proofs.Ytoedbnnepcnjnaa.Pure
