/- Lean functions, contracts and lemmas that this claim needs. No condition. -/
import Derived.Test.YtpdljoalfmgfiaaBQWdx2
import Derived.Test.YtpdljoalfmgfiaaBYBits
namespace Go.Proofs.Ytpdljoalfmgfiaa.YRef
open Go.RowKit Go.Proofs.Ytpdljoalfmgfiaa.QWd Go.Proofs.Ytpdljoalfmgfiaa.YBits Go.Proofs.YtpdljoalfmgfiaaW.PrintWords Go.Proofs.YtpdljoalfmgfiaaW.PrintLast
set_option linter.unusedVariables false
set_option linter.unusedSimpArgs false
def Dig (l : List Int) : Prop := ∀ x ∈ l, 0 ≤ x ∧ x < 18446744073709551616
def dg (l : List Int) (i : Nat) : Int := l.getD i 0
def pv (l : List Int) : Nat → Int
  | 0 => 0
  | i + 1 => pv l i + dg l i * 18446744073709551616 ^ i
def val (l : List Int) : Int := pv l l.length
theorem pw_pos (i : Nat) : (1 : Int) ≤ 18446744073709551616 ^ i := by
  induction i with
  | zero => simp
  | succ i ih => rw [Int.pow_succ]; omega
theorem pw_succ (i : Nat) : (18446744073709551616 : Int) ^ (i + 1) = 18446744073709551616 * 18446744073709551616 ^ i := by rw [Int.pow_succ, Int.mul_comm]
theorem pw_le {i j : Nat} (h : i ≤ j) : (18446744073709551616 : Int) ^ i ≤ 18446744073709551616 ^ j := by
  obtain ⟨d, rfl⟩ := Nat.exists_eq_add_of_le h
  induction d with
  | zero => exact Int.le_refl _
  | succ d ih =>
    have := ih (by omega)
    rw [← Nat.add_assoc, pw_succ]
    have := pw_pos (i + d)
    omega
theorem dg_rd (l : List Int) (i : Nat) : rd l (i : Int) = dg l i := rfl
theorem dg_out {l : List Int} {i : Nat} (h : l.length ≤ i) : dg l i = 0 := by simp [dg, List.getElem?_eq_none h]
theorem dg_in {l : List Int} (hl : Dig l) (i : Nat) : 0 ≤ dg l i ∧ dg l i < 18446744073709551616 := by
  by_cases h : i < l.length
  · have : dg l i = l[i] := by simp [dg, h]
    rw [this]; exact hl _ (List.getElem_mem h)
  · rw [dg_out (by omega)]; omega
theorem dg_set (l : List Int) (i j : Nat) (s : Int) : dg (l.set i s) j = if i = j ∧ i < l.length then s else dg l j := by
  by_cases hl : i < l.length
  · by_cases h : i = j
    · subst h; simp [dg, hl]
    · simp [dg, List.getElem?_set, h]
  · rw [List.set_eq_of_length_le (by omega), if_neg (by omega)]
theorem dig_set {l : List Int} (hl : Dig l) (i : Nat) {s : Int} (h0 : 0 ≤ s) (h1 : s < 18446744073709551616) : Dig (l.set i s) := by
  intro x hx
  rcases List.mem_or_eq_of_mem_set hx with h | h
  · exact hl x h
  · omega
theorem dig_zeros (n : Nat) : Dig (List.replicate n 0) := by
  intro x hx
  rw [List.eq_of_mem_replicate hx]; omega
theorem dg_zeros (n i : Nat) : dg (List.replicate n 0) i = 0 := by
  by_cases h : i < n <;> simp [dg, h, List.getElem?_replicate]
theorem pv_nonneg {l : List Int} (hl : Dig l) (i : Nat) : 0 ≤ pv l i := by
  induction i with
  | zero => exact Int.le_refl _
  | succ i ih => have := Int.mul_nonneg (dg_in hl i).1 (show (0 : Int) ≤ 18446744073709551616 ^ i by have := pw_pos i; omega); rw [pv]; omega
theorem pv_lt {l : List Int} (hl : Dig l) (i : Nat) : pv l i < 18446744073709551616 ^ i := by
  induction i with
  | zero => simp [pv]
  | succ i ih =>
    have h1 := (dg_in hl i).2
    have hp := pw_pos i
    have : dg l i * 18446744073709551616 ^ i ≤ 18446744073709551615 * 18446744073709551616 ^ i := Int.mul_le_mul_of_nonneg_right (by omega) (by omega)
    rw [pv, pw_succ]; omega
theorem pv_set_le (l : List Int) (i : Nat) (s : Int) (j : Nat) (h : j ≤ i) : pv (l.set i s) j = pv l j := by
  induction j with
  | zero => rfl
  | succ j ih => rw [pv, pv, ih (by omega), dg_set, if_neg (by omega)]
theorem pv_set_gt (l : List Int) (i : Nat) (s : Int) (hi : i < l.length) (j : Nat) (h : i < j) : pv (l.set i s) j = pv l j + (s - dg l i) * 18446744073709551616 ^ i := by
  induction j with
  | zero => omega
  | succ j ih =>
    rw [pv, pv]
    by_cases hj : i < j
    · rw [ih hj, dg_set, if_neg (by omega)]; omega
    · have : i = j := by omega
      subst this
      rw [pv_set_le _ _ _ _ (Nat.le_refl _), dg_set, if_pos ⟨rfl, hi⟩, Int.sub_mul]; omega
theorem val_set (l : List Int) (i : Nat) (s : Int) (hi : i < l.length) : val (l.set i s) = val l + (s - dg l i) * 18446744073709551616 ^ i := by
  unfold val
  rw [List.length_set]
  exact pv_set_gt l i s hi _ hi
theorem pv_zeros (n i : Nat) : pv (List.replicate n 0) i = 0 := by
  induction i with
  | zero => rfl
  | succ i ih => rw [pv, ih, dg_zeros]; simp
theorem pv_take (l : List Int) (n j : Nat) (h : j ≤ n) : pv (l.take n) j = pv l j := by
  induction j with
  | zero => rfl
  | succ j ih =>
    have : dg (l.take n) j = dg l j := by simp [dg, List.getElem?_take, show j < n by omega]
    rw [pv, pv, ih (by omega), this]
theorem pv_cons (x : Int) (l : List Int) (i : Nat) : pv (x :: l) (i + 1) = x + 18446744073709551616 * pv l i := by
  induction i with
  | zero => simp [pv, dg]
  | succ i ih =>
    have : dg (x :: l) (i + 1) = dg l i := by simp [dg]
    rw [pv, ih, this, pv, pw_succ, Int.mul_add, Int.mul_left_comm]; omega
theorem val_cons (x : Int) (l : List Int) : val (x :: l) = x + 18446744073709551616 * val l := pv_cons x l l.length
theorem val_nonneg {l : List Int} (hl : Dig l) : 0 ≤ val l := pv_nonneg hl _
def limbs (n : Int) : List Int := if 0 < n then (n % 18446744073709551616) :: limbs (n / 18446744073709551616) else []
termination_by n.toNat
decreasing_by omega
theorem limbs_nil {n : Int} (h : n ≤ 0) : limbs n = [] := by rw [limbs, if_neg (by omega)]
theorem limbs_pos {n : Int} (h : 0 < n) : limbs n = (n % 18446744073709551616) :: limbs (n / 18446744073709551616) := by rw [limbs, if_pos h]
theorem limbs_all (P : Int → List Int → Prop) (h0 : ∀ n, n ≤ 0 → P n []) (h1 : ∀ n, 0 < n → P (n / 18446744073709551616) (limbs (n / 18446744073709551616)) → P n ((n % 18446744073709551616) :: limbs (n / 18446744073709551616))) :
    ∀ n, P n (limbs n) := by
  have key : ∀ m : Nat, ∀ n : Int, n.toNat ≤ m → P n (limbs n) := by
    intro m
    induction m with
    | zero => intro n h; rw [limbs_nil (by omega)]; exact h0 n (by omega)
    | succ m ih =>
      intro n h
      by_cases hp : 0 < n
      · rw [limbs_pos hp]; exact h1 n hp (ih _ (by omega))
      · rw [limbs_nil (by omega)]; exact h0 n (by omega)
  exact fun n => key _ n (Nat.le_refl _)
theorem limbs_dig (n : Int) : Dig (limbs n) := by
  refine limbs_all (fun _ l => Dig l) (fun n _ x hx => by cases hx) (fun n h ih x hx => ?_) n
  cases hx with
  | head => omega
  | tail _ hx => exact ih x hx
theorem val_limbs {n : Int} (h : 0 ≤ n) : val (limbs n) = n := by
  refine limbs_all (fun n l => 0 ≤ n → val l = n) (fun n h1 h0 => ?_) (fun n h ih _ => ?_) n h
  · have : n = 0 := by omega
    subst this; rfl
  · rw [val_cons, ih (by omega)]; omega
theorem limbs_len {n : Int} (L : Nat) : n < 18446744073709551616 ^ L → (limbs n).length ≤ L := by
  refine limbs_all (fun n l => ∀ L : Nat, n < 18446744073709551616 ^ L → l.length ≤ L) (fun n _ L _ => by simp) (fun n h ih L hL => ?_) n L
  cases L with
  | zero => simp at hL; omega
  | succ L =>
    rw [pw_succ] at hL
    have := ih L (by omega)
    simp; omega
theorem len_limbs {n : Int} (h : 0 ≤ n) : n < 18446744073709551616 ^ (limbs n).length := by
  have := pv_lt (limbs_dig n) (limbs n).length
  have e : val (limbs n) = n := val_limbs h
  unfold val at e
  omega
theorem limbs_len_pos {n : Int} : 0 < (limbs n).length ↔ 0 < n := by
  constructor
  · intro h; apply Classical.byContradiction; intro hn; rw [limbs_nil (by omega)] at h; simp at h
  · intro h; rw [limbs_pos h]; simp
theorem limbs_of : ∀ (l : List Int), Dig l → (l = [] ∨ dg l (l.length - 1) ≠ 0) → limbs (val l) = l
  | [], _, _ => limbs_nil (by simp [val, pv])
  | x :: l, hl, h => by
    have hx := hl x (List.mem_cons_self ..)
    have hd : Dig l := fun y hy => hl y (List.mem_cons_of_mem _ hy)
    have hv := val_nonneg hd
    have hlast : dg (x :: l) l.length ≠ 0 := by simpa using h
    have hl' : l = [] ∨ dg l (l.length - 1) ≠ 0 := by
      cases l with
      | nil => exact .inl rfl
      | cons y l => right; simpa [dg] using hlast
    have ih := limbs_of l hd hl'
    have hpos : 0 < x + 18446744073709551616 * val l := by
      cases l with
      | nil => simp [dg] at hlast; simp [val, pv]; omega
      | cons y l =>
        have : 0 < val (y :: l) := by
          apply limbs_len_pos.1; rw [ih]; simp
        omega
    rw [val_cons, limbs_pos hpos]
    rw [show (x + 18446744073709551616 * val l) % 18446744073709551616 = x by omega, show (x + 18446744073709551616 * val l) / 18446744073709551616 = val l by omega, ih]
theorem add64f {x y c : Int} (hx : 0 ≤ x) (hy : 0 ≤ y) (hy1 : y < 18446744073709551616) (hc : 0 ≤ c) (hc1 : c ≤ 1) :
    bits_Add64.f x y c = some ((x + y + c) % 18446744073709551616, (x + y + c) / 18446744073709551616) := by
  unfold bits_Add64.f; rw [if_pos (by omega)]
theorem mulstep {s c x y p : Int} (h : s + 18446744073709551616 * c = x + y) : s * p + c * (18446744073709551616 * p) = x * p + y * p := by
  have := congrArg (· * p) h
  simp only [Int.add_mul] at this
  rw [Int.mul_left_comm, ← Int.mul_assoc]; exact this
/-- The numbers that this file speaks of: amounts below 2^2560. -/
def Fit (x : Int) : Prop := 0 ≤ x ∧ x < 18446744073709551616 ^ 40
theorem Fit.len {x : Int} (h : Fit x) : (limbs x).length ≤ 40 := limbs_len _ h.2
theorem sub64f {x y c : Int} (hx : 0 ≤ x) (hy : 0 ≤ y) (hy1 : y < 18446744073709551616) (hc : 0 ≤ c) (hc1 : c ≤ 1) :
    bits_Sub64.f x y c = some ((x - y - c) % 18446744073709551616, if x < y + c then 1 else 0) := by
  unfold bits_Sub64.f; rw [if_pos (by omega)]
/-- A number of the reference: a sign, and limbs. -/
def sg (x : Int) : Bool := decide (x < 0)
def ab (x : Int) : Int := if x < 0 then -x else x
def mag (x : Int) : List Int := limbs (ab x)
/-- A number of at most 40 limbs. -/
def Small (x : Int) : Prop := -(18446744073709551616 ^ 40) < x ∧ x < 18446744073709551616 ^ 40
theorem ab_sg (x : Int) : (if sg x = true then -ab x else ab x) = x := by unfold sg ab; by_cases h : x < 0 <;> simp [h]
theorem Small.neg {x : Int} (h : Small x) : Small (-x) := by unfold Small at *; omega
/-- A number as an int64 and whether it is one. -/
def fit64 (v : Int) : Int × Bool := if -9223372036854775808 ≤ v ∧ v ≤ 9223372036854775807 then (v, true) else (0, false)
end Go.Proofs.Ytpdljoalfmgfiaa.YRef
