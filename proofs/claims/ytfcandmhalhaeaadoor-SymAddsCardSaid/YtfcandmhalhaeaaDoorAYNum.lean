/- Lean functions, contracts and lemmas that this claim needs. No condition. -/
import Derived.Test.YtfcandmhalhaeaaDoorAYRef
namespace Go.Proofs.YtfcandmhalhaeaaDoor.YNum
open Go.RowKit Go.Proofs.YtfcandmhalhaeaaDoor.QSy Go.Proofs.YtfcandmhalhaeaaDoor.YRef
set_option linter.unusedVariables false
set_option linter.unusedSimpArgs false
/-- A number's sixteen limbs. -/
def lim (x : Int) : List Int := (List.range 16).map fun i => x / 18446744073709551616 ^ i % 18446744073709551616
theorem lim_len (x : Int) : (lim x).length = 16 := by simp [lim]
theorem dg_lim {i : Nat} (x : Int) (h : i < 16) : dg (lim x) i = x / 18446744073709551616 ^ i % 18446744073709551616 := by
  unfold dg lim
  rw [List.getD_eq_getElem?_getD, List.getElem?_map, List.getElem?_range h]
  rfl
theorem lim_dig (x : Int) : Dig (lim x) := by
  intro y hy
  obtain ⟨i, _, rfl⟩ := List.mem_map.1 hy
  omega
theorem emod_mul_ (x : Int) {a b : Int} (ha : 0 < a) (hb : 0 < b) : x % (a * b) = x % a + x / a % b * a := by
  have h1 := Int.mul_ediv_add_emod x a
  have h2 := Int.mul_ediv_add_emod (x / a) b
  have h3 := Int.emod_nonneg x (show a ≠ 0 by omega)
  have h4 := Int.emod_lt_of_pos x ha
  have h5 := Int.emod_nonneg (x / a) (show b ≠ 0 by omega)
  have h6 := Int.emod_lt_of_pos (x / a) hb
  have h7 : x / a % b * a ≤ (b - 1) * a := Int.mul_le_mul_of_nonneg_right (by omega) (by omega)
  have h8 : 0 ≤ x / a % b * a := Int.mul_nonneg h5 (by omega)
  have h9 : (b - 1) * a = b * a - a := by rw [Int.sub_mul, Int.one_mul]
  have e : x = (x % a + x / a % b * a) + (a * b) * (x / a / b) := by
    have : a * (x / a) = a * (b * (x / a / b) + x / a % b) := by rw [h2]
    rw [Int.mul_add, ← Int.mul_assoc, Int.mul_comm a (x / a % b)] at this
    omega
  have h10 : b * a = a * b := Int.mul_comm b a
  generalize hr : x % a + x / a % b * a = r at *
  rw [e, Int.add_mul_emod_self_left, Int.emod_eq_of_lt (by omega) (by omega)]
theorem pv_lim (x : Int) : ∀ k, k ≤ 16 → pv (lim x) k = x % 18446744073709551616 ^ k := by
  intro k
  induction k with
  | zero => intro _; simp [pv]
  | succ k ih =>
    intro h
    rw [pv, ih (by omega), dg_lim x (by omega), Int.pow_succ, emod_mul_ x (by have := pw_pos k; omega) (by decide)]
theorem val_lim (x : Int) : val (lim x) = x % 18446744073709551616 ^ 16 := by
  unfold val
  rw [lim_len, pv_lim x 16 (Nat.le_refl _)]
theorem dig_inj : ∀ (l m : List Int), l.length = m.length → Dig l → Dig m → val l = val m → l = m := by
  intro l
  induction l with
  | nil => intro m h _ _ _; cases m with
    | nil => rfl
    | cons _ _ => cases h
  | cons x l ih =>
    intro m h hl hm hv
    cases m with
    | nil => cases h
    | cons y m =>
      rw [val_cons, val_cons] at hv
      have hx := hl x (by simp)
      have hy := hm y (by simp)
      have e : x = y := by omega
      have e2 : val l = val m := by omega
      rw [e, ih m (by simpa using h) (fun z hz => hl z (by simp [hz])) (fun z hz => hm z (by simp [hz])) e2]
theorem val_lt16 {l : List Int} (h : l.length = 16) (hd : Dig l) : 0 ≤ val l ∧ val l < 18446744073709551616 ^ 16 := by
  have h1 := pv_nonneg hd l.length
  have h2 := pv_lt hd l.length
  unfold val
  rw [h] at *
  exact ⟨h1, h2⟩
theorem lim_eq {l : List Int} {x : Int} (h : l.length = 16) (hd : Dig l) (hv : val l % 18446744073709551616 ^ 16 = x % 18446744073709551616 ^ 16) : l = lim x := by
  refine dig_inj l (lim x) (by rw [h, lim_len]) hd (lim_dig x) ?_
  rw [val_lim, ← hv, Int.emod_eq_of_lt (val_lt16 h hd).1 (val_lt16 h hd).2]
theorem lim_congr {x y : Int} (h : x % 18446744073709551616 ^ 16 = y % 18446744073709551616 ^ 16) : lim x = lim y := lim_eq (lim_len x) (lim_dig x) (by rw [val_lim, Int.emod_emod_of_dvd _ (Int.dvd_refl _), h])
/-- A number that sixteen limbs hold. -/
def InW (x : Int) : Prop := -(18446744073709551616 ^ 16) ≤ 2 * x ∧ 2 * x < 18446744073709551616 ^ 16
instance (x : Int) : Decidable (InW x) := by unfold InW; infer_instance
theorem lim_inj {x y : Int} (hx : InW x) (hy : InW y) (h : lim x = lim y) : x = y := by
  have e : x % 18446744073709551616 ^ 16 = y % 18446744073709551616 ^ 16 := by rw [← val_lim, ← val_lim, h]
  unfold InW at *
  omega
/-- The highest bit. -/
def top (l : List Int) : Bool := decide (9223372036854775808 ≤ dg l 15)
theorem top_lim {x : Int} (h : InW x) : top (lim x) = decide (x < 0) := by
  unfold top
  rw [dg_lim x (by decide)]
  unfold InW at h
  by_cases hx : x < 0
  · rw [decide_eq_true hx, decide_eq_true_eq]; omega
  · rw [decide_eq_false hx, decide_eq_false_iff_not]; omega
theorem top_pos {x : Int} (h0 : 0 ≤ x) (h1 : x < 18446744073709551616 ^ 16) : top (lim x) = decide (18446744073709551616 ^ 16 ≤ 2 * x) := by
  unfold top
  rw [dg_lim x (by decide)]
  by_cases hx : 18446744073709551616 ^ 16 ≤ 2 * x
  · rw [decide_eq_true hx, decide_eq_true_eq]; omega
  · rw [decide_eq_false hx, decide_eq_false_iff_not]; omega
/-- A sum of limbs, so far. -/
theorem sum_step {a b o c t A : Int} {k : Nat} (h : o + c * 18446744073709551616 ^ k = A) (hs : t = a + b + c) :
    (o + t % 18446744073709551616 * 18446744073709551616 ^ k) + t / 18446744073709551616 * 18446744073709551616 ^ (k + 1) = A + (a + b) * 18446744073709551616 ^ k := by
  rw [pw_succ]
  have e := mulstep (p := 18446744073709551616 ^ k) (show t % 18446744073709551616 + 18446744073709551616 * (t / 18446744073709551616) = (a + b) + c by omega)
  omega
/-- The other bits. -/
theorem inv_val : ∀ (l : List Int), Dig l → val (l.map fun x => 18446744073709551615 - x) = 18446744073709551616 ^ l.length - 1 - val l := by
  intro l
  induction l with
  | nil => intro _; simp [val, pv]
  | cons x l ih =>
    intro h
    rw [List.map_cons, val_cons, val_cons, ih (fun z hz => h z (by simp [hz])), List.length_cons, pw_succ]
    omega
theorem inv_dig {l : List Int} (h : Dig l) : Dig (l.map fun x => 18446744073709551615 - x) := by
  intro y hy
  obtain ⟨x, hx, rfl⟩ := List.mem_map.1 hy
  have := h x hx
  omega
theorem inv_lim (x : Int) : (lim x).map (fun y => 18446744073709551615 - y) = lim (-1 - x) := by
  refine lim_eq (by rw [List.length_map, lim_len]) (inv_dig (lim_dig x)) ?_
  rw [inv_val _ (lim_dig x), lim_len, val_lim]
  omega
end Go.Proofs.YtfcandmhalhaeaaDoor.YNum
