/- Lean functions, contracts and lemmas that this claim needs. No condition. -/
import Derived.Test.YtpdljoalfmgfiaaBYWideShift
import Derived.Test.YtpdljoalfmgfiaaBYWideNorm
namespace Go.Proofs.Ytpdljoalfmgfiaa.YWide
open Go.RowKit Go.Proofs.Ytpdljoalfmgfiaa.YInv Go.Proofs.Ytpdljoalfmgfiaa.YErr Go.Proofs.Ytpdljoalfmgfiaa.YRef Go.Proofs.Ytpdljoalfmgfiaa.YNum Go.Proofs.Ytpdljoalfmgfiaa.YBits Go.Proofs.Ytpdljoalfmgfiaa.XCarry Go.Proofs.Ytpdljoalfmgfiaa.QWd Go.Proofs.YtpdljoalfmgfiaaW.PrintWords Go.Proofs.YtpdljoalfmgfiaaW.PrintLast
set_option linter.unusedVariables false
set_option linter.unusedSimpArgs false
/-- So many limbs of the rest are moved down. -/
structure Bk (l r : List Int) (s k : Nat) : Prop where
  len : r.length = 16
  dig : Dig r
  none : ∀ j, k ≤ j → dg r j = 0
  sum : pv r k * 2 ^ s + dg l 0 % 2 ^ s = pv l k + dg l k % 2 ^ s * 18446744073709551616 ^ k
theorem Bk.start (l : List Int) (s : Nat) : Bk l zeros s 0 := ⟨zeros_len, zeros_dig, fun j _ => dg_zeros 16 j, by simp [pv]⟩
/-- The limb that comes to stand there. -/
def bk (v x : Int) (s : Nat) : Int := v / 2 ^ s + 2 ^ (64 - s) * (x % 2 ^ s)
theorem bk_in {v x : Int} {s : Nat} (hs : s ≤ 63) (v0 : 0 ≤ v) (v1 : v < 18446744073709551616) (x0 : 0 ≤ x) (x1 : x < 18446744073709551616) : 0 ≤ bk v x s ∧ bk v x s < 18446744073709551616 := by
  have P0 : (0 : Int) < 2 ^ s := Int.pow_pos (by decide)
  have Z0 : (0 : Int) < 2 ^ (64 - s) := Int.pow_pos (by decide)
  have PZ := split_pow (show s ≤ 64 by omega)
  unfold bk
  have a0 := Int.ediv_nonneg v0 (Int.le_of_lt P0)
  have a1 : v / 2 ^ s < 2 ^ (64 - s) := Int.ediv_lt_of_lt_mul P0 (by rw [Int.mul_comm, PZ]; exact v1)
  have b0 := Int.emod_nonneg x (Int.ne_of_gt P0)
  have b1 := Int.emod_lt_of_pos x P0
  have c0 := Int.mul_nonneg (Int.le_of_lt Z0) b0
  have c1 := Int.mul_le_mul_of_nonneg_left (show x % 2 ^ s + 1 ≤ 2 ^ s from b1) (Int.le_of_lt Z0)
  rw [Int.mul_add, Int.mul_one, Int.mul_comm (2 ^ (64 - s)) (2 ^ s), PZ] at c1
  exact ⟨Int.add_nonneg a0 c0, by omega⟩
/-- What the code lays there where bits are moved. -/
theorem bk_or {v x : Int} {s : Nat} (h1 : 1 ≤ s) (hs : s ≤ 63) (v0 : 0 ≤ v) (v1 : v < 18446744073709551616) (x0 : 0 ≤ x) (x1 : x < 18446744073709551616) : Go.bits .or .u64 (v / 2 ^ s) (IntKind.u64.wrap (x * 2 ^ (64 - s))) = bk v x s := by
  have P0 : (0 : Int) < 2 ^ s := Int.pow_pos (by decide)
  have PZ := split_pow (show s ≤ 64 by omega)
  have a0 := Int.ediv_nonneg v0 (Int.le_of_lt P0)
  have a1 : v / 2 ^ s < 2 ^ (64 - s) := Int.ediv_lt_of_lt_mul P0 (by rw [Int.mul_comm, PZ]; exact v1)
  have a2 : v / 2 ^ s < 18446744073709551616 := Int.lt_of_le_of_lt (Int.ediv_le_self _ v0) v1
  obtain ⟨p1, _⟩ := part_or (s := 64 - s) (v := x) (o := v / 2 ^ s) (by omega) x0 x1 a0 a1 a2
  rw [p1, show 64 - (64 - s) = s by omega]
  unfold bk
  exact Int.add_comm _ _
theorem bk_zero (v x : Int) : v / 2 ^ 0 = bk v x 0 := by
  unfold bk
  have h : (2 : Int) ^ 0 = 1 := rfl
  rw [h, Int.emod_one, Int.mul_zero, Int.add_zero]
theorem Bk.up {l r : List Int} {s k : Nat} (B : Bk l r s k) (hl : Dig l) (hs : s ≤ 63) (hk : k < 16) : Bk l (r.set k (bk (dg l k) (dg l (k + 1)) s)) s (k + 1) := by
  have P0 : (0 : Int) < 2 ^ s := Int.pow_pos (by decide)
  have V := dg_in hl k
  have X := dg_in hl (k + 1)
  have I := bk_in hs V.1 V.2 X.1 X.2
  exact ⟨by rw [List.length_set]; exact B.len, dig_set B.dig _ I.1 I.2, fun j hj => by rw [dg_set, if_neg (fun h => Nat.ne_of_gt hj h.1.symm)]; exact B.none j (Nat.le_of_lt hj),
    back_w P0 (split_pow (show s ≤ 64 by omega)) (by rw [B.len]; exact hk) rfl B.sum⟩
theorem pv_above {r : List Int} {m : Nat} (h : ∀ j, m ≤ j → dg r j = 0) : ∀ d, pv r (m + d) = pv r m
  | 0 => rfl
  | d + 1 => by rw [← Nat.add_assoc, pv, h (m + d) (Nat.le_add_right _ _), Int.zero_mul, Int.add_zero, pv_above h d]
/-- What stands at the end. -/
theorem div_end {X Y : Int} {l q r v : List Int} {n m s : Nat} (S : Dv n m (pv v m) (X * 2 ^ s) 0 l q) (B : Bk l r s m) (hm : m ≤ 16) (hD : pv v m = Y * 2 ^ s) (Y0 : 0 < Y) : q = lim (X / Y) ∧ r = lim (X % Y) := by
  have P0 : (0 : Int) < 2 ^ s := Int.pow_pos (by decide)
  have h1 := S.sum
  have h2 := S.low
  have h3 := S.top
  rw [Nat.zero_add] at h1 h2 h3
  rw [hD] at h1 h2
  rw [Int.pow_zero, Int.mul_one] at h2
  obtain ⟨e1, e2⟩ := last_w P0 Y0 h1 (pv_nonneg S.dig m) h2
  have h4 := B.sum
  rw [h3, Int.zero_emod, Int.zero_mul, Int.add_zero, e2] at h4
  have e3 := back_end P0 (Int.emod_nonneg _ (Int.ne_of_gt P0)) (Int.emod_lt_of_pos _ P0) h4
  have e4 : pv r 16 = pv r m := by
    have := pv_above B.none (16 - m)
    rw [show m + (16 - m) = 16 by omega] at this
    exact this
  refine ⟨lim_eq S.ql S.qd ?_, lim_eq B.len B.dig ?_⟩
  · unfold val
    rw [S.ql, e1]
  · unfold val
    rw [B.len, e4, e3]
end Go.Proofs.Ytpdljoalfmgfiaa.YWide
