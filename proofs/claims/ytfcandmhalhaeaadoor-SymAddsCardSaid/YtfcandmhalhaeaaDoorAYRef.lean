/- Lean functions, contracts and lemmas that this claim needs. No condition. -/
import Derived.Test.YtfcandmhalhaeaaDoorAQSyx4
import Derived.Test.YtfcandmhalhaeaaDoorAQSyx5
import Derived.Test.YtfcandmhalhaeaaDoorAQSyx6
import Derived.Test.YtfcandmhalhaeaaDoorAYBits
namespace Go.Proofs.YtfcandmhalhaeaaDoor.YRef
open Go.RowKit Go.Proofs.YtfcandmhalhaeaaDoor.QSy Go.Proofs.YtfcandmhalhaeaaDoor.YBits Go.Proofs.YtfcandmhalhaeaaDoorW.PrintWords Go.Proofs.YtfcandmhalhaeaaDoorW.PrintLast
set_option linter.unusedVariables false
set_option linter.unusedSimpArgs false
def Dig (l : List Int) : Prop := ∀ x ∈ l, 0 ≤ x ∧ x < 18446744073709551616
def dg (l : List Int) (i : Nat) : Int := l.getD i 0
def pv (l : List Int) : Nat → Int
  | 0 => 0
  | i + 1 => pv l i + dg l i * 18446744073709551616 ^ i
def val (l : List Int) : Int := pv l l.length
theorem pw_pos (i : Nat) : (1 : Int) ≤ 18446744073709551616 ^ i := by
  induction i with
  | zero => simp
  | succ i ih => rw [Int.pow_succ]; omega
theorem pw_succ (i : Nat) : (18446744073709551616 : Int) ^ (i + 1) = 18446744073709551616 * 18446744073709551616 ^ i := by rw [Int.pow_succ, Int.mul_comm]
theorem pw_le {i j : Nat} (h : i ≤ j) : (18446744073709551616 : Int) ^ i ≤ 18446744073709551616 ^ j := by
  obtain ⟨d, rfl⟩ := Nat.exists_eq_add_of_le h
  induction d with
  | zero => exact Int.le_refl _
  | succ d ih =>
    have := ih (by omega)
    rw [← Nat.add_assoc, pw_succ]
    have := pw_pos (i + d)
    omega
theorem dg_rd (l : List Int) (i : Nat) : rd l (i : Int) = dg l i := rfl
theorem dg_out {l : List Int} {i : Nat} (h : l.length ≤ i) : dg l i = 0 := by simp [dg, List.getElem?_eq_none h]
theorem dg_in {l : List Int} (hl : Dig l) (i : Nat) : 0 ≤ dg l i ∧ dg l i < 18446744073709551616 := by
  by_cases h : i < l.length
  · have : dg l i = l[i] := by simp [dg, h]
    rw [this]; exact hl _ (List.getElem_mem h)
  · rw [dg_out (by omega)]; omega
theorem dg_set (l : List Int) (i j : Nat) (s : Int) : dg (l.set i s) j = if i = j ∧ i < l.length then s else dg l j := by
  by_cases hl : i < l.length
  · by_cases h : i = j
    · subst h; simp [dg, hl]
    · simp [dg, List.getElem?_set, h]
  · rw [List.set_eq_of_length_le (by omega), if_neg (by omega)]
theorem dig_set {l : List Int} (hl : Dig l) (i : Nat) {s : Int} (h0 : 0 ≤ s) (h1 : s < 18446744073709551616) : Dig (l.set i s) := by
  intro x hx
  rcases List.mem_or_eq_of_mem_set hx with h | h
  · exact hl x h
  · omega
theorem dig_zeros (n : Nat) : Dig (List.replicate n 0) := by
  intro x hx
  rw [List.eq_of_mem_replicate hx]; omega
theorem dg_zeros (n i : Nat) : dg (List.replicate n 0) i = 0 := by
  by_cases h : i < n <;> simp [dg, h, List.getElem?_replicate]
theorem pv_nonneg {l : List Int} (hl : Dig l) (i : Nat) : 0 ≤ pv l i := by
  induction i with
  | zero => exact Int.le_refl _
  | succ i ih => have := Int.mul_nonneg (dg_in hl i).1 (show (0 : Int) ≤ 18446744073709551616 ^ i by have := pw_pos i; omega); rw [pv]; omega
theorem pv_lt {l : List Int} (hl : Dig l) (i : Nat) : pv l i < 18446744073709551616 ^ i := by
  induction i with
  | zero => simp [pv]
  | succ i ih =>
    have h1 := (dg_in hl i).2
    have hp := pw_pos i
    have : dg l i * 18446744073709551616 ^ i ≤ 18446744073709551615 * 18446744073709551616 ^ i := Int.mul_le_mul_of_nonneg_right (by omega) (by omega)
    rw [pv, pw_succ]; omega
theorem pv_more {l : List Int} (d : Nat) : pv l (l.length + d) = pv l l.length := by
  induction d with
  | zero => rfl
  | succ d ih => rw [← Nat.add_assoc, pv, ih, dg_out (by omega), Int.zero_mul]; omega
theorem pv_val {l : List Int} {i : Nat} (h : l.length ≤ i) : pv l i = val l := by
  obtain ⟨d, rfl⟩ := Nat.exists_eq_add_of_le h
  exact pv_more d
theorem pv_set_le (l : List Int) (i : Nat) (s : Int) (j : Nat) (h : j ≤ i) : pv (l.set i s) j = pv l j := by
  induction j with
  | zero => rfl
  | succ j ih => rw [pv, pv, ih (by omega), dg_set, if_neg (by omega)]
theorem pv_set_gt (l : List Int) (i : Nat) (s : Int) (hi : i < l.length) (j : Nat) (h : i < j) : pv (l.set i s) j = pv l j + (s - dg l i) * 18446744073709551616 ^ i := by
  induction j with
  | zero => omega
  | succ j ih =>
    rw [pv, pv]
    by_cases hj : i < j
    · rw [ih hj, dg_set, if_neg (by omega)]; omega
    · have : i = j := by omega
      subst this
      rw [pv_set_le _ _ _ _ (Nat.le_refl _), dg_set, if_pos ⟨rfl, hi⟩, Int.sub_mul]; omega
theorem val_set (l : List Int) (i : Nat) (s : Int) (hi : i < l.length) : val (l.set i s) = val l + (s - dg l i) * 18446744073709551616 ^ i := by
  unfold val
  rw [List.length_set]
  exact pv_set_gt l i s hi _ hi
theorem pv_zeros (n i : Nat) : pv (List.replicate n 0) i = 0 := by
  induction i with
  | zero => rfl
  | succ i ih => rw [pv, ih, dg_zeros]; simp
theorem pv_take (l : List Int) (n j : Nat) (h : j ≤ n) : pv (l.take n) j = pv l j := by
  induction j with
  | zero => rfl
  | succ j ih =>
    have : dg (l.take n) j = dg l j := by simp [dg, List.getElem?_take, show j < n by omega]
    rw [pv, pv, ih (by omega), this]
theorem pv_cons (x : Int) (l : List Int) (i : Nat) : pv (x :: l) (i + 1) = x + 18446744073709551616 * pv l i := by
  induction i with
  | zero => simp [pv, dg]
  | succ i ih =>
    have : dg (x :: l) (i + 1) = dg l i := by simp [dg]
    rw [pv, ih, this, pv, pw_succ, Int.mul_add, Int.mul_left_comm]; omega
theorem val_cons (x : Int) (l : List Int) : val (x :: l) = x + 18446744073709551616 * val l := pv_cons x l l.length
theorem val_nonneg {l : List Int} (hl : Dig l) : 0 ≤ val l := pv_nonneg hl _
theorem val_one (x : Int) : val [x] = x := by rw [val_cons]; simp [val, pv]
def limbs (n : Int) : List Int := if 0 < n then (n % 18446744073709551616) :: limbs (n / 18446744073709551616) else []
termination_by n.toNat
decreasing_by omega
theorem limbs_nil {n : Int} (h : n ≤ 0) : limbs n = [] := by rw [limbs, if_neg (by omega)]
theorem limbs_pos {n : Int} (h : 0 < n) : limbs n = (n % 18446744073709551616) :: limbs (n / 18446744073709551616) := by rw [limbs, if_pos h]
theorem limbs_all (P : Int → List Int → Prop) (h0 : ∀ n, n ≤ 0 → P n []) (h1 : ∀ n, 0 < n → P (n / 18446744073709551616) (limbs (n / 18446744073709551616)) → P n ((n % 18446744073709551616) :: limbs (n / 18446744073709551616))) :
    ∀ n, P n (limbs n) := by
  have key : ∀ m : Nat, ∀ n : Int, n.toNat ≤ m → P n (limbs n) := by
    intro m
    induction m with
    | zero => intro n h; rw [limbs_nil (by omega)]; exact h0 n (by omega)
    | succ m ih =>
      intro n h
      by_cases hp : 0 < n
      · rw [limbs_pos hp]; exact h1 n hp (ih _ (by omega))
      · rw [limbs_nil (by omega)]; exact h0 n (by omega)
  exact fun n => key _ n (Nat.le_refl _)
theorem limbs_dig (n : Int) : Dig (limbs n) := by
  refine limbs_all (fun _ l => Dig l) (fun n _ x hx => by cases hx) (fun n h ih x hx => ?_) n
  cases hx with
  | head => omega
  | tail _ hx => exact ih x hx
theorem val_limbs {n : Int} (h : 0 ≤ n) : val (limbs n) = n := by
  refine limbs_all (fun n l => 0 ≤ n → val l = n) (fun n h1 h0 => ?_) (fun n h ih _ => ?_) n h
  · have : n = 0 := by omega
    subst this; rfl
  · rw [val_cons, ih (by omega)]; omega
theorem limbs_len {n : Int} (L : Nat) : n < 18446744073709551616 ^ L → (limbs n).length ≤ L := by
  refine limbs_all (fun n l => ∀ L : Nat, n < 18446744073709551616 ^ L → l.length ≤ L) (fun n _ L _ => by simp) (fun n h ih L hL => ?_) n L
  cases L with
  | zero => simp at hL; omega
  | succ L =>
    rw [pw_succ] at hL
    have := ih L (by omega)
    simp; omega
theorem len_limbs {n : Int} (h : 0 ≤ n) : n < 18446744073709551616 ^ (limbs n).length := by
  have := pv_lt (limbs_dig n) (limbs n).length
  have e : val (limbs n) = n := val_limbs h
  unfold val at e
  omega
theorem limbs_len_le {m n : Int} (h0 : 0 ≤ n) (h : m ≤ n) : (limbs m).length ≤ (limbs n).length := limbs_len _ (by have := len_limbs h0; omega)
theorem limbs_len_pos {n : Int} : 0 < (limbs n).length ↔ 0 < n := by
  constructor
  · intro h; apply Classical.byContradiction; intro hn; rw [limbs_nil (by omega)] at h; simp at h
  · intro h; rw [limbs_pos h]; simp
theorem limbs_of : ∀ (l : List Int), Dig l → (l = [] ∨ dg l (l.length - 1) ≠ 0) → limbs (val l) = l
  | [], _, _ => limbs_nil (by simp [val, pv])
  | x :: l, hl, h => by
    have hx := hl x (List.mem_cons_self ..)
    have hd : Dig l := fun y hy => hl y (List.mem_cons_of_mem _ hy)
    have hv := val_nonneg hd
    have hlast : dg (x :: l) l.length ≠ 0 := by simpa using h
    have hl' : l = [] ∨ dg l (l.length - 1) ≠ 0 := by
      cases l with
      | nil => exact .inl rfl
      | cons y l => right; simpa [dg] using hlast
    have ih := limbs_of l hd hl'
    have hpos : 0 < x + 18446744073709551616 * val l := by
      cases l with
      | nil => simp [dg] at hlast; simp [val, pv]; omega
      | cons y l =>
        have : 0 < val (y :: l) := by
          apply limbs_len_pos.1; rw [ih]; simp
        omega
    rw [val_cons, limbs_pos hpos]
    rw [show (x + 18446744073709551616 * val l) % 18446744073709551616 = x by omega, show (x + 18446744073709551616 * val l) / 18446744073709551616 = val l by omega, ih]
theorem trim_tells (K : Nat) : ∀ (n : Nat) (l : List Int), l.length = n → Dig l → n < 1099511627776 → leadlineref1_trim.l0 (K + n + 1) l = some (limbs (val l)) := by
  intro n
  induction n with
  | zero =>
    intro l hn hl _
    have : l = [] := List.length_eq_zero_iff.1 hn
    subst this
    rw [leadlineref1_trim.l0, if_neg (by simp), limbs_nil (by simp [val, pv])]
  | succ n ih =>
    intro l hn hl hs
    rw [show K + (n + 1) + 1 = (K + n + 1) + 1 by omega, leadlineref1_trim.l0, if_pos (by omega)]
    have ew : wrap64 ((l.length : Int) - 1) = (n : Int) := by rw [wid (by omega) (by omega)]; omega
    rw [ew, if_pos (by omega), if_pos (by omega), dg_rd]
    by_cases h : dg l n = 0
    · rw [if_pos h, if_pos (by omega), Int.toNat_natCast, ih (l.take n) (by simp; omega) (fun x hx => hl x (List.mem_of_mem_take hx)) (by omega)]
      congr 2
      unfold val
      rw [show (l.take n).length = n by simp; omega, pv_take _ _ _ (Nat.le_refl _), hn, pv, h, Int.zero_mul]; omega
    · rw [if_neg h, limbs_of l hl (.inr (by rw [hn]; exact h))]
theorem trimf (K : Nat) (l : List Int) (hl : Dig l) (hn : l.length ≤ K) (hs : l.length < 1099511627776) : leadlineref1_trim.f (K + 1) l = some (limbs (val l)) := by
  obtain ⟨d, rfl⟩ := Nat.exists_eq_add_of_le hn
  have := trim_tells d l.length l rfl hl hs
  rw [show d + l.length + 1 = l.length + d + 1 by omega] at this
  exact this
theorem made_tells (b : Bool) (x : Int) : leadlineref1_made.f b (limbs x) = some (b && decide (0 < x), limbs x) := by
  unfold leadlineref1_made.f
  cases b
  · rfl
  · rw [if_pos rfl]
    congr 2
    simp only [limbs_len_pos, Bool.true_and]
theorem add64f {x y c : Int} (hx : 0 ≤ x) (hy : 0 ≤ y) (hy1 : y < 18446744073709551616) (hc : 0 ≤ c) (hc1 : c ≤ 1) :
    bits_Add64.f x y c = some ((x + y + c) % 18446744073709551616, (x + y + c) / 18446744073709551616) := by
  unfold bits_Add64.f; rw [if_pos (by omega)]
theorem mulstep {s c x y p : Int} (h : s + 18446744073709551616 * c = x + y) : s * p + c * (18446744073709551616 * p) = x * p + y * p := by
  have := congrArg (· * p) h
  simp only [Int.add_mul] at this
  rw [Int.mul_left_comm, ← Int.mul_assoc]; exact this
theorem cmp_loop (a b : List Int) (ha : Dig a) (hb : Dig b) (hab : a.length = b.length) (hs : a.length < 1099511627776) (K : Nat) : ∀ n : Nat, n ≤ a.length →
    leadlineref1_cmp.l0 (K + n + 1) a b ((n : Int) - 1) = some (if pv a n < pv b n then -1 else if pv a n = pv b n then 0 else 1) := by
  intro n
  induction n with
  | zero => intro _; rw [leadlineref1_cmp.l0, if_neg (by omega)]; simp [pv]
  | succ n ih =>
    intro hn
    rw [show K + (n + 1) + 1 = (K + n + 1) + 1 by omega, show ((n + 1 : Nat) : Int) - 1 = (n : Int) by omega, leadlineref1_cmp.l0, if_pos (by omega), if_pos (by omega), if_pos (by omega), if_pos (by omega), dg_rd, dg_rd]
    have A1 := pv_lt ha n
    have A2 := pv_lt hb n
    have A3 := pv_nonneg ha n
    have A4 := pv_nonneg hb n
    rw [pv, pv]
    by_cases h : dg a n = dg b n
    · rw [if_pos h, wid (by omega) (by omega), ih (by omega), h]
      have e1 : (pv a n + dg b n * 18446744073709551616 ^ n < pv b n + dg b n * 18446744073709551616 ^ n) = (pv a n < pv b n) := propext (by omega)
      have e2 : (pv a n + dg b n * 18446744073709551616 ^ n = pv b n + dg b n * 18446744073709551616 ^ n) = (pv a n = pv b n) := propext (by omega)
      simp only [e1, e2]
    · rw [if_neg h]
      have big : ∀ u v : Int, u < v → u * 18446744073709551616 ^ n + 18446744073709551616 ^ n ≤ v * 18446744073709551616 ^ n := by
        intro u v huv
        have := Int.mul_le_mul_of_nonneg_right (show u + 1 ≤ v by omega) (show (0 : Int) ≤ 18446744073709551616 ^ n by have := pw_pos n; omega)
        rw [Int.add_mul] at this; omega
      by_cases h1 : dg a n < dg b n
      · have := big _ _ h1
        rw [if_pos h1, if_pos (by omega)]
      · have := big _ _ (show dg b n < dg a n by omega)
        rw [if_neg h1, if_neg (by omega), if_neg (by omega)]
/-- The numbers that this file speaks of: amounts below 2^2560. -/
def Fit (x : Int) : Prop := 0 ≤ x ∧ x < 18446744073709551616 ^ 40
theorem Fit.len {x : Int} (h : Fit x) : (limbs x).length ≤ 40 := limbs_len _ h.2
theorem cmp_tells (K : Nat) {x y : Int} (hx : Fit x) (hy : Fit y) :
    leadlineref1_cmp.f (K + 2000) (limbs x) (limbs y) = some (if x < y then -1 else if x = y then 0 else 1) := by
  have lx := hx.len
  have ly := hy.len
  have vx := val_limbs hx.1
  have vy := val_limbs hy.1
  unfold leadlineref1_cmp.f
  by_cases h : (limbs x).length = (limbs y).length
  · rw [if_pos (by omega), wid (by omega) (by omega)]
    have := cmp_loop (limbs x) (limbs y) (limbs_dig x) (limbs_dig y) h (by omega) (K + 1999 - (limbs x).length) _ (Nat.le_refl _)
    rw [show K + 1999 - (limbs x).length + (limbs x).length + 1 = K + 2000 by omega] at this
    rw [this]
    unfold val at vx vy
    rw [vx, h, vy]
  · rw [if_neg (by omega)]
    by_cases h1 : (limbs x).length < (limbs y).length
    · rw [if_pos (by omega), if_pos]
      apply Classical.byContradiction
      intro hn
      have := limbs_len_le hx.1 (show y ≤ x by omega)
      omega
    · rw [if_neg (by omega)]
      have : y < x := by
        apply Classical.byContradiction
        intro hn
        have := limbs_len_le hy.1 (show x ≤ y by omega)
        omega
      rw [if_neg (by omega), if_neg (by omega)]
theorem plus_loop (a b : List Int) (ha : Dig a) (hb : Dig b) (n : Nat) (hs : n ≤ 100) (hfin : pv a n + pv b n < 18446744073709551616 ^ n) (K : Nat) :
    ∀ (r i : Nat) (out : List Int) (c : Int), i + r = n → out.length = n → Dig out → 0 ≤ c → c ≤ 1 → pv out i + c * 18446744073709551616 ^ i = pv a i + pv b i →
      leadlineref1_plus.l0 (K + n + r + 2) a b n out c i = some (limbs (pv a n + pv b n)) := by
  intro r
  induction r with
  | zero =>
    intro i out c hi hl hd c0 c1 h
    have : i = n := by omega
    subst this
    have p0 := pv_nonneg hd i
    have c00 : c = 0 := by
      have := pw_pos i
      by_cases hc : c = 1
      · subst hc; omega
      · omega
    subst c00
    rw [show K + i + 0 + 2 = (K + i + 1) + 1 by omega, leadlineref1_plus.l0, if_neg (by omega), trimf (K + i) out hd (by omega) (by omega), Option.bind_some]
    congr 2
    unfold val
    rw [hl]; omega
  | succ r ih =>
    intro i out c hi hl hd c0 c1 h
    have A := dg_in ha i
    have B := dg_in hb i
    have step : ∀ x y : Int, x = dg a i → y = dg b i →
        ((bits_Add64.f x y c).bind fun bt => (if (i : Int) < (out.length : Int) then (leadlineref1_plus.l0 (K + n + r + 2) a b n (out.set (i : Int).toNat bt.1) bt.2 (wrap64 ((i : Int) + 1))) else none)) = some (limbs (pv a n + pv b n)) := by
      intro x y hx hy
      rw [add64f (by omega) (by omega) (by omega) c0 c1, Option.bind_some]
      simp only []
      rw [if_pos (by omega), Int.toNat_natCast, wid (by omega) (by omega)]
      have := ih (i + 1) (out.set i ((x + y + c) % 18446744073709551616)) ((x + y + c) / 18446744073709551616) (by omega) (by rw [List.length_set]; exact hl) (dig_set hd i (by omega) (by omega)) (by omega) (by omega) (by
        rw [pv, pv_set_le _ _ _ _ (Nat.le_refl _), dg_set, if_pos ⟨rfl, by omega⟩, pv, pv, pw_succ, ← hx, ← hy]
        have e := mulstep (p := 18446744073709551616 ^ i) (show (x + y + c) % 18446744073709551616 + 18446744073709551616 * ((x + y + c) / 18446744073709551616) = (x + y) + c by omega)
        rw [Int.add_mul] at e
        omega)
      exact this
    rw [show K + n + (r + 1) + 2 = (K + n + r + 2) + 1 by omega, leadlineref1_plus.l0, if_pos (by omega)]
    by_cases h1 : i < a.length
    · rw [if_pos (by omega), if_pos (by omega)]
      by_cases h2 : i < b.length
      · rw [if_pos (by omega), dg_rd, dg_rd]; exact step _ _ rfl rfl
      · rw [if_neg (by omega), dg_rd]; exact step _ _ rfl (dg_out (by omega)).symm
    · rw [if_neg (by omega)]
      by_cases h2 : i < b.length
      · rw [if_pos (by omega), if_pos (by omega), dg_rd]; exact step _ _ (dg_out (by omega)).symm rfl
      · rw [if_neg (by omega)]
        have := step 0 0 (dg_out (by omega)).symm (dg_out (by omega)).symm
        rw [add64f (by omega) (by omega) (by omega) c0 c1, Option.bind_some] at this ⊢
        rw [if_pos (by omega)]; exact this
theorem plus_dig (K : Nat) (a b : List Int) (ha : Dig a) (hb : Dig b) (la : a.length ≤ 90) (lb : b.length ≤ 90) :
    leadlineref1_plus.f (K + 2000) a b = some (limbs (val a + val b)) := by
  have em : mx (a.length : Int) (b.length : Int) = ((max a.length b.length : Nat) : Int) := by
    unfold mx; split <;> omega
  have hm : max a.length b.length ≤ 90 := by omega
  have m1 : a.length ≤ max a.length b.length := by omega
  have m2 : b.length ≤ max a.length b.length := by omega
  unfold leadlineref1_plus.f
  rw [em]
  generalize max a.length b.length = m at *
  rw [wid (by omega) (by omega), if_pos (by omega), if_pos (by omega), show ((m : Int) + 1) = ((m + 1 : Nat) : Int) by omega, Int.toNat_natCast]
  have ea := pv_val (l := a) (i := m + 1) (by omega)
  have eb := pv_val (l := b) (i := m + 1) (by omega)
  have fa : val a < 18446744073709551616 ^ m := by have := pv_lt ha a.length; have := pw_le m1; unfold val; omega
  have fb : val b < 18446744073709551616 ^ m := by have := pv_lt hb b.length; have := pw_le m2; unfold val; omega
  have := plus_loop a b ha hb (m + 1) (by omega) (by rw [ea, eb, pw_succ]; have := pw_pos m; omega) (K + 1998 - 2 * (m + 1)) (m + 1) 0 (List.replicate (m + 1) 0) 0 (by omega) (by simp) (dig_zeros _) (by omega) (by omega) (by simp [pv])
  rw [show K + 1998 - 2 * (m + 1) + (m + 1) + (m + 1) + 2 = K + 2000 by omega] at this
  rw [← ea, ← eb]; exact this
theorem plus_tells (K : Nat) {x y : Int} (hx : Fit x) (hy : Fit y) : leadlineref1_plus.f (K + 2000) (limbs x) (limbs y) = some (limbs (x + y)) := by
  have lx := hx.len
  have ly := hy.len
  rw [plus_dig K _ _ (limbs_dig x) (limbs_dig y) (by omega) (by omega), val_limbs hx.1, val_limbs hy.1]
theorem sub64f {x y c : Int} (hx : 0 ≤ x) (hy : 0 ≤ y) (hy1 : y < 18446744073709551616) (hc : 0 ≤ c) (hc1 : c ≤ 1) :
    bits_Sub64.f x y c = some ((x - y - c) % 18446744073709551616, if x < y + c then 1 else 0) := by
  unfold bits_Sub64.f; rw [if_pos (by omega)]
theorem minus_loop (a b : List Int) (ha : Dig a) (hb : Dig b) (n : Nat) (hs : n ≤ 100) (hn : a.length = n) (hfin : pv b n ≤ pv a n) (K : Nat) :
    ∀ (r i : Nat) (out : List Int) (c : Int), i + r = n → out.length = n → Dig out → 0 ≤ c → c ≤ 1 → pv out i + pv b i = pv a i + c * 18446744073709551616 ^ i →
      leadlineref1_minus.l0 (K + n + r + 2) a b out c i = some (limbs (pv a n - pv b n)) := by
  intro r
  induction r with
  | zero =>
    intro i out c hi hl hd c0 c1 h
    have : i = n := by omega
    subst this
    have p0 := pv_lt hd i
    have c00 : c = 0 := by
      have := pw_pos i
      by_cases hc : c = 1
      · subst hc; omega
      · omega
    subst c00
    rw [show K + i + 0 + 2 = (K + i + 1) + 1 by omega, leadlineref1_minus.l0, if_neg (by omega), trimf (K + i) out hd (by omega) (by omega), Option.bind_some]
    congr 2
    unfold val
    rw [hl]; omega
  | succ r ih =>
    intro i out c hi hl hd c0 c1 h
    have A := dg_in ha i
    have B := dg_in hb i
    have step : ∀ y : Int, y = dg b i →
        ((bits_Sub64.f (dg a i) y c).bind fun bt => (if (i : Int) < (out.length : Int) then (leadlineref1_minus.l0 (K + n + r + 2) a b (out.set (i : Int).toNat bt.1) bt.2 (wrap64 ((i : Int) + 1))) else none)) = some (limbs (pv a n - pv b n)) := by
      intro y hy
      rw [sub64f (by omega) (by omega) (by omega) c0 c1, Option.bind_some]
      simp only []
      rw [if_pos (by omega), Int.toNat_natCast, wid (by omega) (by omega)]
      generalize hx : dg a i = x at *
      have hc' : (x - y - c) % 18446744073709551616 + y + c = x + 18446744073709551616 * (if x < y + c then 1 else 0) := by split <;> omega
      have := ih (i + 1) (out.set i ((x - y - c) % 18446744073709551616)) (if x < y + c then 1 else 0) (by omega) (by rw [List.length_set]; exact hl) (dig_set hd i (by omega) (by omega)) (by split <;> omega) (by split <;> omega) (by
        rw [pv, pv_set_le _ _ _ _ (Nat.le_refl _), dg_set, if_pos ⟨rfl, by omega⟩, pv, pv, pw_succ, ← hy, hx]
        generalize (x - y - c) % 18446744073709551616 = s at *
        generalize (if x < y + c then (1 : Int) else 0) = c' at *
        have e := mulstep (p := 18446744073709551616 ^ i) (show x + 18446744073709551616 * c' = (s + y) + c by omega)
        rw [Int.add_mul] at e
        omega)
      exact this
    rw [show K + n + (r + 1) + 2 = (K + n + r + 2) + 1 by omega, leadlineref1_minus.l0, if_pos (by omega)]
    by_cases h2 : i < b.length
    · rw [if_pos (by omega), if_pos (by omega), dg_rd, dg_rd]; exact step _ rfl
    · rw [if_neg (by omega), if_pos (by omega), dg_rd]; exact step _ (dg_out (by omega)).symm
theorem minus_tells (K : Nat) {x y : Int} (hx : Fit x) (hy : Fit y) (h : y ≤ x) : leadlineref1_minus.f (K + 2000) (limbs x) (limbs y) = some (limbs (x - y)) := by
  have lx := hx.len
  have hl := limbs_len_le hx.1 h
  unfold leadlineref1_minus.f
  rw [if_pos (by omega), if_pos (by omega), Int.toNat_natCast]
  generalize hm : (limbs x).length = m at *
  have ea : pv (limbs x) m = x := by rw [pv_val (by omega), val_limbs hx.1]
  have eb : pv (limbs y) m = y := by rw [pv_val (by omega), val_limbs hy.1]
  have := minus_loop (limbs x) (limbs y) (limbs_dig x) (limbs_dig y) m (by omega) hm (by omega) (K + 1998 - 2 * m) m 0 (List.replicate m 0) 0 (by omega) (by simp) (dig_zeros _) (by omega) (by omega) (by simp [pv])
  rw [show K + 1998 - 2 * m + m + m + 2 = K + 2000 by omega, ea, eb] at this
  exact this
theorem times_inner (a b : List Int) (ha : Dig a) (hb : Dig b) (n : Nat) (hs : n ≤ 100) (i : Nat) (hi : i < a.length) (hn : a.length + b.length = n) (K : Nat) (V : Int) (R : Option (List Int))
    (next : ∀ out : List Int, out.length = n → Dig out → (∀ j, i + 1 + b.length ≤ j → dg out j = 0) → val out = V + dg a i * val b * 18446744073709551616 ^ i → leadlineref1_times.l0 K a b out (i + 1 : Nat) = R) :
    ∀ (r k : Nat) (out : List Int) (c : Int), k + r = b.length → out.length = n → Dig out → 0 ≤ c → c < 18446744073709551616 → (∀ j, i + b.length ≤ j → dg out j = 0) →
      val out + c * 18446744073709551616 ^ (i + k) = V + dg a i * pv b k * 18446744073709551616 ^ i →
      leadlineref1_times.l1 (K + r + 1) a b out i c k = R := by
  intro r
  induction r with
  | zero =>
    intro k out c hk hl hd c0 c1 hz h
    have : k = b.length := by omega
    subst this
    rw [show K + 0 + 1 = K + 1 by omega, leadlineref1_times.l1, if_neg (by omega), wid (by omega) (by omega), if_pos (by omega), if_pos (by omega), wid (by omega) (by omega), show ((i : Int) + (b.length : Int)) = ((i + b.length : Nat) : Int) by omega, Int.toNat_natCast]
    refine next _ (by rw [List.length_set]; exact hl) (dig_set hd _ c0 c1) (fun j hj => ?_) ?_
    · rw [dg_set, if_neg (by omega)]; exact hz j (by omega)
    · rw [val_set _ _ _ (by omega), hz _ (Nat.le_refl _)]
      unfold val at h ⊢
      rw [Int.sub_zero]; exact h
  | succ r ih =>
    intro k out c hk hl hd c0 c1 hz h
    have A := dg_in ha i
    have B := dg_in hb k
    have O := dg_in hd (i + k)
    rw [show K + (r + 1) + 1 = (K + r + 1) + 1 by omega, leadlineref1_times.l1, if_pos (by omega), if_pos (by omega), if_pos (by omega), if_pos (by omega), dg_rd, dg_rd, mul64_tells A.1 A.2 B.1 B.2, Option.bind_some]
    simp only []
    rw [wid (by omega) (by omega), if_pos (by omega), if_pos (by omega), show ((i : Int) + (k : Int)) = ((i + k : Nat) : Int) by omega, dg_rd, Int.toNat_natCast]
    have p0 : 0 ≤ dg a i * dg b k := Int.mul_nonneg A.1 B.1
    have p1 : dg a i * dg b k ≤ 18446744073709551615 * 18446744073709551615 := Int.mul_le_mul (by omega) (by omega) B.1 (by decide)
    have hpv : dg a i * pv b (k + 1) * 18446744073709551616 ^ i = dg a i * pv b k * 18446744073709551616 ^ i + dg a i * dg b k * 18446744073709551616 ^ (i + k) := by
      rw [pv, Int.mul_add, Int.add_mul, Int.pow_add]
      congr 1
      rw [Int.mul_assoc, Int.mul_assoc, Int.mul_assoc, Int.mul_comm (18446744073709551616 ^ k)]
    generalize dg a i * dg b k = p at *
    rw [add64f (by omega) O.1 O.2 (by omega) (by omega), Option.bind_some]
    simp only []
    rw [add64f (by omega) c0 c1 (by omega) (by omega), Option.bind_some]
    simp only []
    rw [u64w, u64w, wid (by omega) (by omega)]
    generalize hT : p + dg out (i + k) + c = T
    have es : ((p % 18446744073709551616 + dg out (i + k) + 0) % 18446744073709551616 + c + 0) % 18446744073709551616 = T % 18446744073709551616 := by omega
    have ec : ((p / 18446744073709551616 + (p % 18446744073709551616 + dg out (i + k) + 0) / 18446744073709551616) % 18446744073709551616 + ((p % 18446744073709551616 + dg out (i + k) + 0) % 18446744073709551616 + c + 0) / 18446744073709551616) % 18446744073709551616 = T / 18446744073709551616 := by omega
    rw [es, ec]
    have := ih (k + 1) (out.set (i + k) (T % 18446744073709551616)) (T / 18446744073709551616) (by omega) (by rw [List.length_set]; exact hl) (dig_set hd _ (by omega) (by omega)) (by omega) (by omega)
      (fun j hj => by rw [dg_set, if_neg (by omega)]; exact hz j hj) (by
        rw [val_set _ _ _ (by omega), hpv, show i + (k + 1) = (i + k) + 1 by omega, pw_succ, Int.sub_mul]
        have e := mulstep (p := 18446744073709551616 ^ (i + k)) (show T % 18446744073709551616 + 18446744073709551616 * (T / 18446744073709551616) = (p + dg out (i + k)) + c by omega)
        rw [Int.add_mul] at e
        omega)
    exact this
theorem times_loop (a b : List Int) (ha : Dig a) (hb : Dig b) (n : Nat) (hs : n ≤ 100) (hn : a.length + b.length = n) (K : Nat) :
    ∀ (r i : Nat) (out : List Int), i + r = a.length → out.length = n → Dig out → (∀ j, i + b.length ≤ j → dg out j = 0) → val out = pv a i * val b →
      leadlineref1_times.l0 (K + r * (b.length + 2) + n + 2) a b out i = some (limbs (val a * val b)) := by
  intro r
  induction r with
  | zero =>
    intro i out hi hl hd hz h
    have : i = a.length := by omega
    subst this
    rw [show K + 0 * (b.length + 2) + n + 2 = (K + n + 1) + 1 by omega, leadlineref1_times.l0, if_neg (by omega), trimf (K + n) out hd (by omega) (by omega), Option.bind_some, h]
    rfl
  | succ r ih =>
    intro i out hi hl hd hz h
    rw [show K + (r + 1) * (b.length + 2) + n + 2 = ((K + r * (b.length + 2) + n + 2) + b.length + 1) + 1 by rw [Nat.add_mul]; omega, leadlineref1_times.l0, if_pos (by omega)]
    refine times_inner a b ha hb n hs i (by omega) hn (K + r * (b.length + 2) + n + 2) (val out) _ (fun out' hl' hd' hz' h' => ih (i + 1) out' (by omega) hl' hd' hz' ?_) b.length 0 out 0 (by omega) hl hd (by omega) (by omega) hz (by simp [pv])
    rw [h', h, pv, Int.add_mul, Int.mul_assoc, Int.mul_assoc, Int.mul_comm (val b)]
theorem times_tells (K : Nat) {x y : Int} (hx : Fit x) (hy : Fit y) : leadlineref1_times.f (K + 2000) (limbs x) (limbs y) = some (limbs (x * y)) := by
  have lx := hx.len
  have ly := hy.len
  unfold leadlineref1_times.f
  rw [wid (by omega) (by omega), if_pos (by omega), if_pos (by omega), show (((limbs x).length : Int) + ((limbs y).length : Int)) = (((limbs x).length + (limbs y).length : Nat) : Int) by omega, Int.toNat_natCast]
  have hm : (limbs x).length * ((limbs y).length + 2) ≤ 40 * 42 := Nat.mul_le_mul lx (by omega)
  generalize hN : (limbs x).length + (limbs y).length = n
  have := times_loop (limbs x) (limbs y) (limbs_dig x) (limbs_dig y) n (by omega) hN (K + 1998 - (limbs x).length * ((limbs y).length + 2) - n) (limbs x).length 0 (List.replicate n 0) (by omega) (by simp) (dig_zeros _) (fun j _ => dg_zeros _ _) (by simp [val, pv_zeros, pv])
  rw [show K + 1998 - (limbs x).length * ((limbs y).length + 2) - n + (limbs x).length * ((limbs y).length + 2) + n + 2 = K + 2000 by omega, val_limbs hx.1, val_limbs hy.1] at this
  exact this
/-- A number of the reference: a sign, and limbs. -/
def sg (x : Int) : Bool := decide (x < 0)
def ab (x : Int) : Int := if x < 0 then -x else x
def mag (x : Int) : List Int := limbs (ab x)
/-- A number of at most 40 limbs. -/
def Small (x : Int) : Prop := -(18446744073709551616 ^ 40) < x ∧ x < 18446744073709551616 ^ 40
theorem Small.fit {x : Int} (h : Small x) : Fit (ab x) := by unfold ab Fit; obtain ⟨h0, h1⟩ := h; split <;> omega
theorem small_i64 {x : Int} (h0 : -9223372036854775808 ≤ x) (h1 : x ≤ 9223372036854775807) : Small x := by unfold Small; omega
theorem small_256 {x : Int} (h0 : -(2 ^ 256) ≤ x) (h1 : x ≤ 2 ^ 256) : Small x := by unfold Small; omega
theorem made_sg (b : Bool) {x : Int} (hx : 0 ≤ x) : leadlineref1_made.f b (limbs x) = some (sg (if b = true then -x else x), mag (if b = true then -x else x)) := by
  rw [made_tells]
  cases b with
  | true =>
    simp only [if_true, Bool.true_and, sg, mag, ab]
    by_cases h : 0 < x
    · rw [if_pos (by omega), show - -x = x by omega]; congr 2; simp [h]
    · have : x = 0 := by omega
      subst this; rfl
  | false =>
    simp only [Bool.false_eq_true, if_false, Bool.false_and, sg, mag, ab]
    rw [if_neg (by omega)]; congr 2; simp; omega
theorem limb_one {x : Int} (h0 : 0 < x) (h1 : x < 18446744073709551616) : [x] = limbs x := by
  rw [limbs_pos h0, limbs_nil (by omega), Int.emod_eq_of_lt (by omega) h1]
theorem Of_tells (K : Nat) {a : Int} (h0 : -9223372036854775808 ≤ a) (h1 : a ≤ 9223372036854775807) : leadlineref1_Of.f (K + 2000) a = some (sg a, mag a) := by
  unfold leadlineref1_Of.f
  by_cases h : a < 0
  · rw [if_pos h, wid (x := a + 1) (by omega) (by omega), wid (x := -(a + 1)) (by omega) (by omega), u64id (n := -(a + 1)) (by omega) (by omega), u64id (by omega) (by omega), limb_one (by omega) (by omega), made_sg true (by omega)]
    simp only [if_true, Option.bind_some, sg, mag, ab]
    rw [show -(-(a + 1) + 1) = a by omega]
  · have e : IntKind.u64.wrap a = a := u64id (by omega) (by omega)
    rw [if_neg h, e, show K + 2000 = (K + 1999) + 1 by omega, trimf (K + 1999) [a] (by intro x hx; simp at hx; omega) (by simp) (by simp), Option.bind_some, val_one, made_sg false (by omega)]
    rfl
theorem Neg_tells {x : Int} : leadlineref1_Neg.f (sg x) (mag x) = some (sg (-x), mag (-x)) := by
  unfold leadlineref1_Neg.f mag
  rw [made_sg _ (show 0 ≤ ab x by unfold ab; split <;> omega)]
  simp only [Option.bind_some]
  have : (if (!sg x) = true then -ab x else ab x) = -x := by
    unfold sg ab; by_cases h : x < 0 <;> simp [h]
  rw [this]; rfl
theorem Amount_tells {x : Int} : leadlineref1_Amount.f (sg x) (mag x) = some (sg (ab x), mag (ab x)) := by
  unfold leadlineref1_Amount.f mag
  rw [made_sg _ (show 0 ≤ ab x by unfold ab; split <;> omega)]
  rfl
theorem ab_sg (x : Int) : (if sg x = true then -ab x else ab x) = x := by unfold sg ab; by_cases h : x < 0 <;> simp [h]
theorem Add_tells (K : Nat) {x y : Int} (hx : Small x) (hy : Small y) : leadlineref1_Add.f (K + 2000) (sg x) (mag x) (sg y) (mag y) = some (sg (x + y), mag (x + y)) := by
  have fx := hx.fit
  have fy := hy.fit
  unfold leadlineref1_Add.f
  by_cases h : (sg x == sg y) = true
  · rw [if_pos h, mag, mag, plus_tells K fx fy, Option.bind_some, made_sg _ (by have := fx.1; have := fy.1; omega)]
    simp only [Option.bind_some]
    have : (if sg x = true then -(ab x + ab y) else ab x + ab y) = x + y := by
      have e : sg x = sg y := by simpa using h
      have a1 := ab_sg x
      have a2 := ab_sg y
      rw [← e] at a2
      cases hs : sg x <;> rw [hs] at a1 a2 <;> simp at a1 a2 ⊢ <;> omega
    rw [this]
  · have a1 := ab_sg x
    have a2 := ab_sg y
    rw [if_neg h, mag, mag, cmp_tells K fx fy, Option.bind_some]
    by_cases hc : ab x < ab y
    · rw [if_pos hc, if_neg (by omega), minus_tells K fy fx (by omega), Option.bind_some, made_sg _ (by omega)]
      simp only [Option.bind_some]
      have : (if sg y = true then -(ab y - ab x) else ab y - ab x) = x + y := by
        cases hs : sg x <;> cases ht : sg y <;> rw [hs] at a1 <;> rw [ht] at a2 <;> simp [hs, ht] at h a1 a2 ⊢ <;> omega
      rw [this]
    · rw [if_neg hc, if_pos (by split <;> omega), minus_tells K fx fy (by omega), Option.bind_some, made_sg _ (by omega)]
      simp only [Option.bind_some]
      have : (if sg x = true then -(ab x - ab y) else ab x - ab y) = x + y := by
        cases hs : sg x <;> cases ht : sg y <;> rw [hs] at a1 <;> rw [ht] at a2 <;> simp [hs, ht] at h a1 a2 ⊢ <;> omega
      rw [this]
theorem Small.neg {x : Int} (h : Small x) : Small (-x) := by unfold Small at *; omega
theorem Sub_tells (K : Nat) {x y : Int} (hx : Small x) (hy : Small y) : leadlineref1_Sub.f (K + 2000) (sg x) (mag x) (sg y) (mag y) = some (sg (x - y), mag (x - y)) := by
  unfold leadlineref1_Sub.f
  rw [Neg_tells, Option.bind_some]
  simp only []
  rw [Add_tells K hx hy.neg]; rfl
theorem Mul_tells (K : Nat) {x y : Int} (hx : Small x) (hy : Small y) : leadlineref1_Mul.f (K + 2000) (sg x) (mag x) (sg y) (mag y) = some (sg (x * y), mag (x * y)) := by
  have fx := hx.fit
  have fy := hy.fit
  unfold leadlineref1_Mul.f
  rw [mag, mag, times_tells K fx fy, Option.bind_some, made_sg _ (Int.mul_nonneg fx.1 fy.1)]
  simp only [Option.bind_some]
  have : (if (sg x != sg y) = true then -(ab x * ab y) else ab x * ab y) = x * y := by
    unfold sg ab
    by_cases hx : x < 0 <;> by_cases hy : y < 0 <;> simp [hx, hy, Int.neg_mul_neg, Int.neg_mul, Int.mul_neg]
  rw [this]
/-- A number as an int64 and whether it is one. -/
def fit64 (v : Int) : Int × Bool := if -9223372036854775808 ≤ v ∧ v ≤ 9223372036854775807 then (v, true) else (0, false)
theorem Int64_tells (K : Nat) (x : Int) : leadlineref1_Int64.f (K + 2000) (sg x) (mag x) = some (fit64 x) := by
  unfold leadlineref1_Int64.f
  have e0 : ((mag x).length : Int) = 0 ↔ x = 0 := by
    have : 0 < (mag x).length ↔ 0 < ab x := limbs_len_pos
    unfold ab at this
    constructor
    · intro h; split at this <;> omega
    · intro h; subst h; simp at this; simp [this]
  by_cases h0 : x = 0
  · rw [if_pos (e0.2 h0), h0]; rfl
  · rw [if_neg (fun h => h0 (e0.1 h))]
    have hp : 0 < ab x := by unfold ab; split <;> omega
    have j0 : ∀ b l, leadlineref1_Int64.j0 (K + 2000) true b l = some (0, false) := fun b l => by rw [show K + 2000 = (K + 1999) + 1 by omega, leadlineref1_Int64.j0, if_pos rfl]
    by_cases hb : ab x < 18446744073709551616
    · have em : mag x = [ab x] := (limb_one hp hb).symm
      have er : rd [ab x] 0 = ab x := rfl
      rw [em]
      simp only [List.length_singleton]
      rw [if_neg (by decide), if_pos (by decide), er]
      have jf : ∀ b, leadlineref1_Int64.j0 (K + 2000) false b [ab x] = some (if b = true then wrap64 (wrap64 (-(wrap64 (IntKind.u64.wrap (ab x - 1)))) - 1) else wrap64 (ab x), true) := fun b => by
        rw [show K + 2000 = (K + 1999) + 1 by omega, leadlineref1_Int64.j0, if_neg (by decide)]
        simp only [List.length_singleton, er]
        cases b <;> rfl
      unfold sg
      by_cases hx : x < 0
      · have ea : ab x = -x := by unfold ab; rw [if_pos hx]
        by_cases hg : ab x > 9223372036854775808
        · rw [if_pos hg, j0, fit64, if_neg (by omega)]
        · rw [if_neg hg, if_pos (by simpa using hx), jf, if_pos (by simpa using hx), fit64, if_pos (by omega), u64id (by omega) (by omega), wid (x := ab x - 1) (by omega) (by omega), wid (x := -(ab x - 1)) (by omega) (by omega), wid (by omega) (by omega)]
          congr 2; omega
      · have ea : ab x = x := by unfold ab; rw [if_neg hx]
        by_cases hg : ab x > 9223372036854775808
        · rw [if_pos hg, j0, fit64, if_neg (by omega)]
        · rw [if_neg hg, if_neg (by simpa using hx)]
          by_cases he : ab x = 9223372036854775808
          · rw [he]
            simp only [beq_self_eq_true]
            rw [j0, fit64, if_neg (by omega)]
          · rw [show (ab x == 9223372036854775808) = false by simpa using he, jf, if_neg (by simpa using hx), fit64, if_pos (by omega), wid (by omega) (by omega), ea]
    · have hl : ((mag x).length : Int) > 1 := by
        have := len_limbs (n := ab x) (by omega)
        unfold mag
        apply Classical.byContradiction
        intro hn
        have h1 : (limbs (ab x)).length ≤ 1 := by omega
        have := pw_le h1
        omega
      rw [if_pos hl, j0, fit64, if_neg]
      unfold ab at hb
      split at hb <;> omega
end Go.Proofs.YtfcandmhalhaeaaDoor.YRef
