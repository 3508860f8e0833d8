/- Lean functions, contracts and lemmas that this claim needs. No condition. -/
import Derived.Test.YtpdljoalfmgfiaaBQWdx2
import Derived.Lib.Mul64
import Derived.Laws.Bits64b
namespace Go.Proofs.Ytpdljoalfmgfiaa.YBits
open Go.RowKit Go.Proofs.Ytpdljoalfmgfiaa.QWd Go.Proofs.YtpdljoalfmgfiaaW.PrintWords Go.Proofs.YtpdljoalfmgfiaaW.PrintLast
set_option linter.unusedVariables false
set_option linter.unusedSimpArgs false
theorem wid {x : Int} (h0 : -9223372036854775808 ≤ x) (h1 : x < 9223372036854775808) : wrap64 x = x := by unfold wrap64; omega
theorem u64w (n : Int) : IntKind.u64.wrap n = n % 18446744073709551616 := by simp [IntKind.wrap, IntKind.bits, IntKind.signed]
theorem u64id {n : Int} (h0 : 0 ≤ n) (h1 : n < 18446744073709551616) : IntKind.u64.wrap n = n := by rw [u64w]; omega
theorem maskN (a : Nat) (ha : a < 18446744073709551616) : Go.bits .and .u64 (a : Int) 4294967295 = ((a % 4294967296 : Nat) : Int) := by
  have h := bits_and_u64_nat a 4294967295 ha (by omega)
  have e : a &&& 4294967295 = a % 4294967296 := Nat.and_two_pow_sub_one_eq_mod a 32
  rw [e] at h
  exact h
theorem divN (a : Nat) : (a : Int) / 4294967296 = ((a / 4294967296 : Nat) : Int) := by omega
theorem mulN (a b : Nat) : (a : Int) * (b : Int) = ((a * b : Nat) : Int) := (Int.natCast_mul a b).symm
theorem addN (a b : Nat) : (a : Int) + (b : Int) = ((a + b : Nat) : Int) := (Int.natCast_add a b).symm
theorem wrapN (a : Nat) (ha : a < 18446744073709551616) : IntKind.u64.wrap (a : Int) = (a : Int) := by rw [u64w]; omega
theorem wrapM (a : Nat) : IntKind.u64.wrap (a : Int) = ((a % 18446744073709551616 : Nat) : Int) := by rw [u64w]; omega
theorem mul64_nat (x y : Nat) (hx : x < 18446744073709551616) (hy : y < 18446744073709551616) :
    bits_Mul64.f x y = some (((x * y / 18446744073709551616 : Nat) : Int), ((x * y % 18446744073709551616 : Nat) : Int)) := by
  obtain ⟨bd, bt, bw, hhi⟩ := Lib.mul64_hi x y hx hy
  have ba := Lib.half_mul_le (a := x / 4294967296) (b := y / 4294967296) (by omega) (by omega)
  have bb := Lib.half_mul_le (a := x / 4294967296) (b := y % 4294967296) (by omega) (by omega)
  have bc := Lib.half_mul_le (a := x % 4294967296) (b := y / 4294967296) (by omega) (by omega)
  have ba' : x / 4294967296 * (y / 4294967296) < 18446744073709551616 := by omega
  have bb' : x / 4294967296 * (y % 4294967296) < 18446744073709551616 := by omega
  have bc' : x % 4294967296 * (y / 4294967296) < 18446744073709551616 := by omega
  have bh1 : x / 4294967296 * (y / 4294967296) + (x / 4294967296 * (y % 4294967296) + x % 4294967296 * (y % 4294967296) / 4294967296) / 4294967296 < 18446744073709551616 := by omega
  have bh : x / 4294967296 * (y / 4294967296) + (x / 4294967296 * (y % 4294967296) + x % 4294967296 * (y % 4294967296) / 4294967296) / 4294967296 + ((x / 4294967296 * (y % 4294967296) + x % 4294967296 * (y % 4294967296) / 4294967296) % 4294967296 + x % 4294967296 * (y / 4294967296)) / 4294967296 < 18446744073709551616 := by omega
  unfold bits_Mul64.f
  simp only [maskN x hx, maskN y hy, divN, mulN, addN, wrapN _ bd, wrapN _ bb', wrapN _ bt, maskN _ bt, wrapN _ bc', wrapN _ bw, wrapN _ ba', wrapN _ bh1, wrapN _ bh, wrapM (x * y)]
  rw [hhi]
theorem mul64_tells {x y : Int} (hx0 : 0 ≤ x) (hx : x < 18446744073709551616) (hy0 : 0 ≤ y) (hy : y < 18446744073709551616) :
    bits_Mul64.f x y = some (x * y / 18446744073709551616, x * y % 18446744073709551616) := by
  obtain ⟨a, rfl⟩ := Int.eq_ofNat_of_zero_le hx0
  obtain ⟨b, rfl⟩ := Int.eq_ofNat_of_zero_le hy0
  rw [mul64_nat a b (by omega) (by omega)]
  have e : ((a : Int) * (b : Int)) = ((a * b : Nat) : Int) := (Int.natCast_mul a b).symm
  rw [e]
  congr 2
def TabOk (x : Nat) (t : Int) : Prop := (x = 0 ∧ t = 0) ∨ (0 < t ∧ t ≤ 8 ∧ 2 ^ (t.toNat - 1) ≤ x ∧ x < 2 ^ t.toNat)
instance (x : Nat) (t : Int) : Decidable (TabOk x t) := by unfold TabOk; infer_instance
theorem len_base (c : Nat) (z : Nat) (y : Int) (t : Int) (hc : c ≤ 56) (hz : y / 2 ^ c = (z : Int)) (hz0 : 0 < z) (ht : TabOk z t) :
    ∃ L : Nat, (c : Int) + t = (L : Int) ∧ 0 < L ∧ L ≤ 64 ∧ (2 : Int) ^ (L - 1) ≤ y ∧ y < (2 : Int) ^ L := by
  rcases ht with ⟨h0, _⟩ | ⟨t0, t8, hlo, hhi⟩
  · omega
  · obtain ⟨m, rfl⟩ := Int.eq_ofNat_of_zero_le (show 0 ≤ t by omega)
    have hm : (m : Int).toNat = m := Int.toNat_natCast m
    rw [hm] at hlo hhi
    have hp : (0 : Int) < 2 ^ c := Int.pow_pos (by decide)
    refine ⟨c + m, by omega, by omega, by omega, ?_, ?_⟩
    · have e : c + m - 1 = c + (m - 1) := by omega
      rw [e, Int.pow_add]
      have h1 : (2 : Int) ^ (m - 1) ≤ (z : Int) := by exact_mod_cast hlo
      have h2 : (2 : Int) ^ c * 2 ^ (m - 1) ≤ 2 ^ c * (z : Int) := Int.mul_le_mul_of_nonneg_left h1 (by omega)
      have h3 : 2 ^ c * (y / 2 ^ c) ≤ y := Int.mul_ediv_self_le (by omega)
      rw [hz] at h3
      omega
    · rw [Int.pow_add]
      have h1 : (z : Int) + 1 ≤ 2 ^ m := by
        have : z + 1 ≤ 2 ^ m := hhi
        exact_mod_cast this
      have h2 : (2 : Int) ^ c * ((z : Int) + 1) ≤ 2 ^ c * 2 ^ m := Int.mul_le_mul_of_nonneg_left h1 (by omega)
      have h3 : y < 2 ^ c * (y / 2 ^ c) + 2 ^ c := Int.lt_mul_ediv_self_add hp
      rw [hz] at h3
      rw [Int.mul_add, Int.mul_one] at h2
      omega
theorem tab_all : ∀ x : Fin 256, TabOk x.val (bt (⟨#[0, 1, 2, 2, 3, 3, 3, 3, 4, 4, 4, 4, 4, 4, 4, 4, 5, 5, 5, 5, 5, 5, 5, 5, 5, 5, 5, 5, 5, 5, 5, 5, 6, 6, 6, 6, 6, 6, 6, 6, 6, 6, 6, 6, 6, 6, 6, 6, 6, 6, 6, 6, 6, 6, 6, 6, 6, 6, 6, 6, 6, 6, 6, 6, 7, 7, 7, 7, 7, 7, 7, 7, 7, 7, 7, 7, 7, 7, 7, 7, 7, 7, 7, 7, 7, 7, 7, 7, 7, 7, 7, 7, 7, 7, 7, 7, 7, 7, 7, 7, 7, 7, 7, 7, 7, 7, 7, 7, 7, 7, 7, 7, 7, 7, 7, 7, 7, 7, 7, 7, 7, 7, 7, 7, 7, 7, 7, 7, 8, 8, 8, 8, 8, 8, 8, 8, 8, 8, 8, 8, 8, 8, 8, 8, 8, 8, 8, 8, 8, 8, 8, 8, 8, 8, 8, 8, 8, 8, 8, 8, 8, 8, 8, 8, 8, 8, 8, 8, 8, 8, 8, 8, 8, 8, 8, 8, 8, 8, 8, 8, 8, 8, 8, 8, 8, 8, 8, 8, 8, 8, 8, 8, 8, 8, 8, 8, 8, 8, 8, 8, 8, 8, 8, 8, 8, 8, 8, 8, 8, 8, 8, 8, 8, 8, 8, 8, 8, 8, 8, 8, 8, 8, 8, 8, 8, 8, 8, 8, 8, 8, 8, 8, 8, 8, 8, 8, 8, 8, 8, 8, 8, 8, 8, 8, 8, 8, 8, 8, 8, 8, 8, 8, 8, 8, 8, 8]⟩ : ByteArray) (x.val : Int)) := by decide +kernel
theorem tab_at (z : Int) (h0 : 0 ≤ z) (h1 : z < 256) : ∃ t : Int, 0 ≤ t ∧ t ≤ 8 ∧ TabOk z.toNat t ∧ bt (⟨#[0, 1, 2, 2, 3, 3, 3, 3, 4, 4, 4, 4, 4, 4, 4, 4, 5, 5, 5, 5, 5, 5, 5, 5, 5, 5, 5, 5, 5, 5, 5, 5, 6, 6, 6, 6, 6, 6, 6, 6, 6, 6, 6, 6, 6, 6, 6, 6, 6, 6, 6, 6, 6, 6, 6, 6, 6, 6, 6, 6, 6, 6, 6, 6, 7, 7, 7, 7, 7, 7, 7, 7, 7, 7, 7, 7, 7, 7, 7, 7, 7, 7, 7, 7, 7, 7, 7, 7, 7, 7, 7, 7, 7, 7, 7, 7, 7, 7, 7, 7, 7, 7, 7, 7, 7, 7, 7, 7, 7, 7, 7, 7, 7, 7, 7, 7, 7, 7, 7, 7, 7, 7, 7, 7, 7, 7, 7, 7, 8, 8, 8, 8, 8, 8, 8, 8, 8, 8, 8, 8, 8, 8, 8, 8, 8, 8, 8, 8, 8, 8, 8, 8, 8, 8, 8, 8, 8, 8, 8, 8, 8, 8, 8, 8, 8, 8, 8, 8, 8, 8, 8, 8, 8, 8, 8, 8, 8, 8, 8, 8, 8, 8, 8, 8, 8, 8, 8, 8, 8, 8, 8, 8, 8, 8, 8, 8, 8, 8, 8, 8, 8, 8, 8, 8, 8, 8, 8, 8, 8, 8, 8, 8, 8, 8, 8, 8, 8, 8, 8, 8, 8, 8, 8, 8, 8, 8, 8, 8, 8, 8, 8, 8, 8, 8, 8, 8, 8, 8, 8, 8, 8, 8, 8, 8, 8, 8, 8, 8, 8, 8, 8, 8, 8, 8, 8, 8]⟩ : ByteArray) z = t := by
  obtain ⟨a, rfl⟩ := Int.eq_ofNat_of_zero_le h0
  have h : TabOk a (bt (⟨#[0, 1, 2, 2, 3, 3, 3, 3, 4, 4, 4, 4, 4, 4, 4, 4, 5, 5, 5, 5, 5, 5, 5, 5, 5, 5, 5, 5, 5, 5, 5, 5, 6, 6, 6, 6, 6, 6, 6, 6, 6, 6, 6, 6, 6, 6, 6, 6, 6, 6, 6, 6, 6, 6, 6, 6, 6, 6, 6, 6, 6, 6, 6, 6, 7, 7, 7, 7, 7, 7, 7, 7, 7, 7, 7, 7, 7, 7, 7, 7, 7, 7, 7, 7, 7, 7, 7, 7, 7, 7, 7, 7, 7, 7, 7, 7, 7, 7, 7, 7, 7, 7, 7, 7, 7, 7, 7, 7, 7, 7, 7, 7, 7, 7, 7, 7, 7, 7, 7, 7, 7, 7, 7, 7, 7, 7, 7, 7, 8, 8, 8, 8, 8, 8, 8, 8, 8, 8, 8, 8, 8, 8, 8, 8, 8, 8, 8, 8, 8, 8, 8, 8, 8, 8, 8, 8, 8, 8, 8, 8, 8, 8, 8, 8, 8, 8, 8, 8, 8, 8, 8, 8, 8, 8, 8, 8, 8, 8, 8, 8, 8, 8, 8, 8, 8, 8, 8, 8, 8, 8, 8, 8, 8, 8, 8, 8, 8, 8, 8, 8, 8, 8, 8, 8, 8, 8, 8, 8, 8, 8, 8, 8, 8, 8, 8, 8, 8, 8, 8, 8, 8, 8, 8, 8, 8, 8, 8, 8, 8, 8, 8, 8, 8, 8, 8, 8, 8, 8, 8, 8, 8, 8, 8, 8, 8, 8, 8, 8, 8, 8, 8, 8, 8, 8, 8, 8]⟩ : ByteArray) (a : Int)) := tab_all ⟨a, by omega⟩
  generalize bt (⟨#[0, 1, 2, 2, 3, 3, 3, 3, 4, 4, 4, 4, 4, 4, 4, 4, 5, 5, 5, 5, 5, 5, 5, 5, 5, 5, 5, 5, 5, 5, 5, 5, 6, 6, 6, 6, 6, 6, 6, 6, 6, 6, 6, 6, 6, 6, 6, 6, 6, 6, 6, 6, 6, 6, 6, 6, 6, 6, 6, 6, 6, 6, 6, 6, 7, 7, 7, 7, 7, 7, 7, 7, 7, 7, 7, 7, 7, 7, 7, 7, 7, 7, 7, 7, 7, 7, 7, 7, 7, 7, 7, 7, 7, 7, 7, 7, 7, 7, 7, 7, 7, 7, 7, 7, 7, 7, 7, 7, 7, 7, 7, 7, 7, 7, 7, 7, 7, 7, 7, 7, 7, 7, 7, 7, 7, 7, 7, 7, 8, 8, 8, 8, 8, 8, 8, 8, 8, 8, 8, 8, 8, 8, 8, 8, 8, 8, 8, 8, 8, 8, 8, 8, 8, 8, 8, 8, 8, 8, 8, 8, 8, 8, 8, 8, 8, 8, 8, 8, 8, 8, 8, 8, 8, 8, 8, 8, 8, 8, 8, 8, 8, 8, 8, 8, 8, 8, 8, 8, 8, 8, 8, 8, 8, 8, 8, 8, 8, 8, 8, 8, 8, 8, 8, 8, 8, 8, 8, 8, 8, 8, 8, 8, 8, 8, 8, 8, 8, 8, 8, 8, 8, 8, 8, 8, 8, 8, 8, 8, 8, 8, 8, 8, 8, 8, 8, 8, 8, 8, 8, 8, 8, 8, 8, 8, 8, 8, 8, 8, 8, 8, 8, 8, 8, 8, 8, 8]⟩ : ByteArray) (a : Int) = t at h ⊢
  refine ⟨t, ?_, ?_, by rw [Int.toNat_natCast]; exact h, rfl⟩
  · rcases h with ⟨_, h⟩ | ⟨h, _⟩ <;> omega
  · rcases h with ⟨_, h⟩ | ⟨_, h, _⟩ <;> omega
theorem len64_tells (k : Nat) (y : Int) (h0 : 0 < y) (h1 : y < 18446744073709551616) :
    ∃ L : Nat, bits_Len64.f (k + 1) y = some (L : Int) ∧ 0 < L ∧ L ≤ 64 ∧ (2 : Int) ^ (L - 1) ≤ y ∧ y < (2 : Int) ^ L := by
  -- a part of the number: its low part of 32 bits, or its high one
  have part : ∀ (b : Nat) (z : Int), b ≤ 32 → 0 < z → z < 4294967296 → y / 2 ^ b = z →
      ∃ L : Nat, bits_Len64.j0 (k + 1) z (b : Int) = some (L : Int) ∧ 0 < L ∧ L ≤ 64 ∧ (2 : Int) ^ (L - 1) ≤ y ∧ y < (2 : Int) ^ L := by
    intro b z hb z0 z1 hz
    have go : ∀ (c : Nat) (x : Int), c ≤ 24 → x = z / 2 ^ c → 0 < x → x < 256 → ∀ t, TabOk x.toNat t → ∃ L : Nat, (b : Int) + (c : Int) + t = (L : Int) ∧ 0 < L ∧ L ≤ 64 ∧ (2 : Int) ^ (L - 1) ≤ y ∧ y < (2 : Int) ^ L := by
      intro c x hc hx x0 x1 t ht
      have e : y / 2 ^ (b + c) = (x.toNat : Int) := by
        rw [Int.pow_add, ← Int.ediv_ediv_of_nonneg (Int.le_of_lt (Int.pow_pos (by decide))), hz, ← hx]; omega
      obtain ⟨L, hL, r⟩ := len_base (b + c) x.toNat y t (by omega) e (by omega) ht
      exact ⟨L, by omega, r⟩
    rw [bits_Len64.j0]
    by_cases g16 : z ≥ 65536
    · rw [if_pos g16]
      by_cases g8 : z / 65536 ≥ 256
      · rw [if_pos g8, if_pos (by omega), if_pos (by omega)]
        have hx : z / 65536 / 256 % 256 = z / 2 ^ 24 := by omega
        obtain ⟨t, t0, t8, ht, hb'⟩ := tab_at (z / 65536 / 256 % 256) (by omega) (by omega)
        rw [hb']
        obtain ⟨L, hL, r⟩ := go 24 _ (by omega) hx (by omega) (by omega) t ht
        refine ⟨L, ?_, r⟩
        rw [wid (x := t) (by omega) (by omega), wid (x := (b : Int) + 16) (by omega) (by omega), wid (x := (b : Int) + 16 + 8) (by omega) (by omega), wid (by omega) (by omega)]
        congr 1
      · rw [if_neg g8, if_pos (by omega), if_pos (by omega)]
        have hx : z / 65536 % 256 = z / 2 ^ 16 := by omega
        obtain ⟨t, t0, t8, ht, hb'⟩ := tab_at (z / 65536 % 256) (by omega) (by omega)
        rw [hb']
        obtain ⟨L, hL, r⟩ := go 16 _ (by omega) hx (by omega) (by omega) t ht
        refine ⟨L, ?_, r⟩
        rw [wid (x := t) (by omega) (by omega), wid (x := (b : Int) + 16) (by omega) (by omega), wid (by omega) (by omega)]
        congr 1
    · rw [if_neg g16]
      by_cases g8 : z ≥ 256
      · rw [if_pos g8, if_pos (by omega), if_pos (by omega)]
        have hx : z / 256 % 256 = z / 2 ^ 8 := by omega
        obtain ⟨t, t0, t8, ht, hb'⟩ := tab_at (z / 256 % 256) (by omega) (by omega)
        rw [hb']
        obtain ⟨L, hL, r⟩ := go 8 _ (by omega) hx (by omega) (by omega) t ht
        refine ⟨L, ?_, r⟩
        rw [wid (x := t) (by omega) (by omega), wid (x := (b : Int) + 8) (by omega) (by omega), wid (by omega) (by omega)]
        congr 1
      · rw [if_neg g8, if_pos (by omega), if_pos (by omega)]
        have hx : z % 256 = z / 2 ^ 0 := by omega
        obtain ⟨t, t0, t8, ht, hb'⟩ := tab_at (z % 256) (by omega) (by omega)
        rw [hb']
        obtain ⟨L, hL, r⟩ := go 0 _ (by omega) hx (by omega) (by omega) t ht
        refine ⟨L, ?_, r⟩
        rw [wid (x := t) (by omega) (by omega), wid (by omega) (by omega)]
        congr 1
  unfold bits_Len64.f
  by_cases g : y ≥ 4294967296
  · rw [if_pos g]
    exact part 32 (y / 4294967296) (by omega) (by omega) (by omega) (by omega)
  · rw [if_neg g]
    exact part 0 y (by omega) h0 (by omega) (by omega)
theorem lz_tells (k : Nat) (y : Int) (h0 : 0 < y) (h1 : y < 18446744073709551616) :
    ∃ s : Nat, bits_LeadingZeros64.f (k + 1) y = some (s : Int) ∧ s < 64 ∧ (9223372036854775808 : Int) ≤ y * 2 ^ s ∧ y * 2 ^ s < 18446744073709551616 := by
  obtain ⟨L, hL, l0, l1, lo, hi⟩ := len64_tells k y h0 h1
  refine ⟨64 - L, ?_, by omega, ?_, ?_⟩
  · unfold bits_LeadingZeros64.f
    rw [hL, Option.bind_some, wid (by omega) (by omega)]
    congr 1; omega
  · have e : (9223372036854775808 : Int) = 2 ^ (L - 1) * 2 ^ (64 - L) := by
      rw [← Int.pow_add, show L - 1 + (64 - L) = 63 by omega]; rfl
    rw [e]
    exact Int.mul_le_mul_of_nonneg_right lo (Int.le_of_lt (Int.pow_pos (by decide)))
  · have e : (18446744073709551616 : Int) = 2 ^ L * 2 ^ (64 - L) := by
      rw [← Int.pow_add, show L + (64 - L) = 64 by omega]; rfl
    rw [e]
    exact Int.mul_lt_mul_of_pos_right hi (Int.pow_pos (by decide))
theorem orN (i : Nat) (x y : Int) (hx0 : 0 ≤ x) (hx : x % 2 ^ i = 0) (hx1 : x < 18446744073709551616) (hy0 : 0 ≤ y) (hy : y < 2 ^ i) (hy1 : y < 18446744073709551616) :
    Go.bits .or .u64 x y = x + y :=
  bits_join .u64 64 (by decide) (fun n h0 h1 => by rw [u64w]; omega) i x y hx0 hx hx1 hy0 hy hy1
section digit
variable {y1 y0 u u1 q r : Int} (hy1 : 2147483648 ≤ y1) (hy1' : y1 < 4294967296) (hy0 : 0 ≤ y0) (hy0' : y0 < 4294967296) (hu1 : 0 ≤ u1) (hu1' : u1 < 4294967296)
  (hq : u * 4294967296 + u1 = q * (y1 * 4294967296 + y0) + r) (hr0 : 0 ≤ r) (hr : r < y1 * 4294967296 + y0) (hq0 : 0 ≤ q) (hq1 : q < 4294967296)
include hy1 hy1' hy0 hy0' hu1 hu1' hq hr0 hr hq0 hq1
omit hy1 hy1' hy0 hy0' hu1 hu1' in
/-- Too great a digit is seen. -/
theorem seen {g t : Int} (hg : u = g * y1 + t) (hc : g ≥ 4294967296 ∨ g * y0 > 4294967296 * t + u1) : q ≤ g - 1 := by
  rcases hc with hc | hc
  · omega
  · rcases Int.lt_or_le q g with h | h
    · omega
    · exfalso
      have h1 : g * (y1 * 4294967296 + y0) ≤ q * (y1 * 4294967296 + y0) := Int.mul_le_mul_of_nonneg_right h (by omega)
      rw [Int.mul_add, ← Int.mul_assoc] at h1
      generalize g * y1 = a at *
      generalize g * y0 = b at *
      generalize q * (y1 * 4294967296 + y0) = c at *
      omega
omit hy1 hy1' hy0 hy0' hu1 hu1' hq0 hq1 in
/-- A digit that isn't seen as too great isn't. -/
theorem right_ {g t : Int} (hg : u = g * y1 + t) (hge : q ≤ g) (hc : g * y0 ≤ 4294967296 * t + u1) : g = q := by
  rcases Int.lt_or_le q g with h | h
  · exfalso
    have h1 : (q + 1) * (y1 * 4294967296 + y0) ≤ g * (y1 * 4294967296 + y0) := Int.mul_le_mul_of_nonneg_right (by omega) (by omega)
    rw [Int.add_mul, Int.one_mul, Int.mul_add g, ← Int.mul_assoc g] at h1
    generalize g * y1 = a at *
    generalize g * y0 = b at *
    generalize q * (y1 * 4294967296 + y0) = c at *
    omega
  · omega
omit hy1 hy1' hq0 hq1 in
/-- Where the rest's high half is full, the digit is right. -/
theorem full {g t : Int} (hg : u = g * y1 + t) (hge : q ≤ g) (hg1 : g ≤ 4294967296) (ht : 4294967296 ≤ t) : g = q := by
  refine right_ hq hr0 hr hg hge ?_
  have h1 : g * y0 ≤ 4294967296 * y0 := Int.mul_le_mul_of_nonneg_right hg1 hy0
  have h2 : 4294967296 * y0 ≤ 4294967296 * 4294967295 := by omega
  omega
theorem digit0 {x2 x8 x11 x14 : Int} :
    ∀ (m K : Nat) (g t : Int), u = g * y1 + t → 0 ≤ t → t < 4294967296 → q ≤ g → g ≤ 4294967297 → 4294967296 ≤ t + m * y1 →
      ∃ k', K ≤ k' ∧ bits_Div64.l0 (K + 2 * m + 2) x2 x8 y1 y0 x11 u1 x14 g t = bits_Div64.j2 k' x2 x8 y1 y0 x11 u1 x14 q := by
  intro m
  induction m with
  | zero => intro K g t _ _ ht _ _ hm; omega
  | succ m ih =>
    intro K g t hg ht0 ht hge hg1 hm
    have hg0 : 0 ≤ g := by omega
    have b1 : 0 ≤ g * y0 := Int.mul_nonneg hg0 hy0
    have b2 : g * y0 ≤ 4294967297 * 4294967295 := Int.mul_le_mul hg1 (by omega) hy0 (by decide)
    have w1 : IntKind.u64.wrap (4294967296 * t) = 4294967296 * t := u64id (by omega) (by omega)
    have w2 : IntKind.u64.wrap (4294967296 * t + u1) = 4294967296 * t + u1 := u64id (by omega) (by omega)
    have hup : ∀ c : Bool, (c = true ↔ (g ≥ 4294967296 ∨ g * y0 > 4294967296 * t + u1)) → ∃ k', K ≤ k' ∧ bits_Div64.j1 (K + 2 * m + 3) x2 x8 y1 y0 x11 u1 x14 g t c = bits_Div64.j2 k' x2 x8 y1 y0 x11 u1 x14 q := by
      intro c hc
      rw [show K + 2 * m + 3 = (K + 2 * m + 2) + 1 by omega, bits_Div64.j1]
      by_cases h : c = true
      · rw [if_pos h]
        have hs := seen hq hr0 hr hq0 hq1 hg (hc.1 h)
        have hg' : u = (g - 1) * y1 + (t + y1) := by rw [Int.sub_mul, Int.one_mul]; omega
        rw [u64id (n := g - 1) (by omega) (by omega), u64id (n := t + y1) (by omega) (by omega)]
        by_cases hb : t + y1 ≥ 4294967296
        · rw [if_pos hb]
          have e := full hy0 hy0' hu1 hu1' hq hr0 hr hg' hs (by omega) (by omega)
          exact ⟨K + 2 * m + 2, by omega, by rw [e]⟩
        · rw [if_neg hb]
          have hm' : 4294967296 ≤ t + y1 + m * y1 := by
            have : ((m + 1 : Nat) : Int) * y1 = m * y1 + y1 := by rw [Int.natCast_add, Int.add_mul]; simp
            omega
          exact ih K (g - 1) (t + y1) hg' (by omega) (by omega) hs (by omega) hm'
      · rw [if_neg h]
        have hn : ¬ (g ≥ 4294967296 ∨ g * y0 > 4294967296 * t + u1) := fun hh => h (hc.2 hh)
        have e := right_ hq hr0 hr hg hge (by omega)
        exact ⟨K + 2 * m + 2, by omega, by rw [e]⟩
    rw [show K + 2 * (m + 1) + 2 = (K + 2 * m + 3) + 1 by omega, bits_Div64.l0]
    by_cases h : g ≥ 4294967296
    · rw [if_pos h]
      exact hup true ⟨fun _ => .inl h, fun _ => rfl⟩
    · rw [if_neg h, w1, w2, u64id (n := g * y0) b1 (by omega)]
      refine hup _ ⟨fun hh => .inr (of_decide_eq_true hh), fun hh => decide_eq_true ?_⟩
      rcases hh with hh | hh
      · exact absurd hh h
      · exact hh
theorem digit1 {x2 x8 x15 x17 : Int} (hx8 : 0 ≤ x8) :
    ∀ (m K : Nat) (g t : Int), u = g * y1 + t → 0 ≤ t → t < 4294967296 → q ≤ g → g ≤ 4294967297 → 4294967296 ≤ t + m * y1 →
      bits_Div64.l1 (K + 2 * m + 2) x2 x8 y1 y0 u1 x15 t x17 g = some (IntKind.u64.wrap (IntKind.u64.wrap (x15 * 4294967296) + q), shr .u64 (IntKind.u64.wrap (IntKind.u64.wrap (IntKind.u64.wrap (x17 * 4294967296) + u1) - IntKind.u64.wrap (q * x2))) x8) := by
  intro m
  induction m with
  | zero => intro K g t _ _ ht _ _ hm; omega
  | succ m ih =>
    intro K g t hg ht0 ht hge hg1 hm
    have hg0 : 0 ≤ g := by omega
    have b1 : 0 ≤ g * y0 := Int.mul_nonneg hg0 hy0
    have b2 : g * y0 ≤ 4294967297 * 4294967295 := Int.mul_le_mul hg1 (by omega) hy0 (by decide)
    have w1 : IntKind.u64.wrap (4294967296 * t) = 4294967296 * t := u64id (by omega) (by omega)
    have w2 : IntKind.u64.wrap (4294967296 * t + u1) = 4294967296 * t + u1 := u64id (by omega) (by omega)
    have hup : ∀ c : Bool, (c = true ↔ (g ≥ 4294967296 ∨ g * y0 > 4294967296 * t + u1)) →
        bits_Div64.j4 (K + 2 * m + 3) x2 x8 y1 y0 u1 x15 t x17 g c = some (IntKind.u64.wrap (IntKind.u64.wrap (x15 * 4294967296) + q), shr .u64 (IntKind.u64.wrap (IntKind.u64.wrap (IntKind.u64.wrap (x17 * 4294967296) + u1) - IntKind.u64.wrap (q * x2))) x8) := by
      intro c hc
      rw [show K + 2 * m + 3 = (K + 2 * m + 2) + 1 by omega, bits_Div64.j4]
      by_cases h : c = true
      · rw [if_pos h]
        have hs := seen hq hr0 hr hq0 hq1 hg (hc.1 h)
        have hg' : u = (g - 1) * y1 + (t + y1) := by rw [Int.sub_mul, Int.one_mul]; omega
        rw [u64id (n := g - 1) (by omega) (by omega), u64id (n := t + y1) (by omega) (by omega)]
        by_cases hb : t + y1 ≥ 4294967296
        · rw [if_pos hb, if_pos hx8]
          have e := full hy0 hy0' hu1 hu1' hq hr0 hr hg' hs (by omega) (by omega)
          rw [e]
        · rw [if_neg hb]
          have hm' : 4294967296 ≤ t + y1 + m * y1 := by
            have : ((m + 1 : Nat) : Int) * y1 = m * y1 + y1 := by rw [Int.natCast_add, Int.add_mul]; simp
            omega
          exact ih K (g - 1) (t + y1) hg' (by omega) (by omega) hs (by omega) hm'
      · rw [if_neg h, if_pos hx8]
        have hn : ¬ (g ≥ 4294967296 ∨ g * y0 > 4294967296 * t + u1) := fun hh => h (hc.2 hh)
        have e := right_ hq hr0 hr hg hge (by omega)
        rw [e]
    rw [show K + 2 * (m + 1) + 2 = (K + 2 * m + 3) + 1 by omega, bits_Div64.l1]
    by_cases h : g ≥ 4294967296
    · rw [if_pos h]
      exact hup true ⟨fun _ => .inl h, fun _ => rfl⟩
    · rw [if_neg h, w1, w2, u64id (n := g * y0) b1 (by omega)]
      refine hup _ ⟨fun hh => .inr (of_decide_eq_true hh), fun hh => decide_eq_true ?_⟩
      rcases hh with hh | hh
      · exact absurd hh h
      · exact hh
end digit
theorem shl_tells (x : Int) (s : Nat) (hs : s ≤ 64) : shl .u64 x (s : Int) = (x * 2 ^ s) % 18446744073709551616 := by
  unfold shl
  rw [u64w, Int.toNat_natCast, show min s (IntKind.bits .u64) = s from Nat.min_eq_left hs]
theorem shr_tells (x : Int) (s : Nat) (hs : s ≤ 64) : shr .u64 x (s : Int) = x / 2 ^ s := by
  unfold shr
  rw [Int.toNat_natCast, show min s (IntKind.bits .u64) = s from Nat.min_eq_left hs]
theorem low32 (x : Int) (h0 : 0 ≤ x) (h1 : x < 18446744073709551616) : Go.bits .and .u64 x 4294967295 = x % 4294967296 := by
  obtain ⟨a, rfl⟩ := Int.eq_ofNat_of_zero_le h0
  rw [maskN a (by omega)]; omega
theorem div64_tells (K : Nat) (hi lo y : Int) (h0 : 0 ≤ hi) (h1 : hi < y) (l0 : 0 ≤ lo) (l1 : lo < 18446744073709551616) (y1 : y < 18446744073709551616) :
    bits_Div64.f (K + 16) hi lo y = some ((hi * 18446744073709551616 + lo) / y, (hi * 18446744073709551616 + lo) % y) := by
  have ypos : 0 < y := by omega
  unfold bits_Div64.f
  rw [if_neg (by omega), if_neg (by omega)]
  by_cases hz : hi = 0
  · subst hz
    have d0 : 0 ≤ lo / y := Int.ediv_nonneg l0 (by omega)
    have d1 : lo / y ≤ lo := Int.ediv_le_self _ l0
    rw [if_pos rfl, Int.tdiv_eq_ediv_of_nonneg l0, Int.tmod_eq_emod_of_nonneg l0, u64id d0 (by omega)]
    simp
  · rw [if_neg hz]
    obtain ⟨s, hs, s64, n0, n1⟩ := lz_tells (K + 15) y ypos y1
    rw [show K + 16 = K + 15 + 1 by omega, hs, Option.bind_some, u64id (n := (s : Int)) (by omega) (by omega), if_pos (by omega)]
    have e64 : (64 : Int) - (s : Int) = ((64 - s : Nat) : Int) := by omega
    rw [e64, u64id (n := ((64 - s : Nat) : Int)) (by omega) (by omega), if_pos (by omega)]
    have P0 : (0 : Int) < 2 ^ s := Int.pow_pos (by decide)
    have P1 : (0 : Int) < 2 ^ (64 - s) := Int.pow_pos (by decide)
    have PP : (2 : Int) ^ s * 2 ^ (64 - s) = 18446744073709551616 := by rw [← Int.pow_add, show s + (64 - s) = 64 by omega]; rfl
    have hp : (hi + 1) * 2 ^ s ≤ y * 2 ^ s := Int.mul_le_mul_of_nonneg_right (by omega) (by omega)
    rw [Int.add_mul, Int.one_mul] at hp
    have hh0 : 0 ≤ hi * 2 ^ s := Int.mul_nonneg h0 (by omega)
    have hl0 : 0 ≤ lo / 2 ^ (64 - s) := Int.ediv_nonneg l0 (by omega)
    have hl1 : lo / 2 ^ (64 - s) < 2 ^ s := Int.ediv_lt_of_lt_mul P1 (by rw [PP]; exact l1)
    have hsplit : lo * 2 ^ s = (lo / 2 ^ (64 - s)) * 18446744073709551616 + lo * 2 ^ s % 18446744073709551616 := by
      have e : lo * 2 ^ s / 18446744073709551616 = lo / 2 ^ (64 - s) := by
        rw [← PP, Int.mul_comm ((2 : Int) ^ s) (2 ^ (64 - s)), Int.mul_ediv_mul_of_pos_left _ _ P0]
      rw [← e]; omega
    rw [shl_tells y s (by omega), shl_tells hi s (by omega), shr_tells lo (64 - s) (by omega), shl_tells lo s (by omega)]
    rw [show y * 2 ^ s % 18446744073709551616 = y * 2 ^ s from Int.emod_eq_of_lt (by omega) n1, show hi * 2 ^ s % 18446744073709551616 = hi * 2 ^ s from Int.emod_eq_of_lt hh0 (by omega)]
    rw [orN s (hi * 2 ^ s) (lo / 2 ^ (64 - s)) hh0 (Int.mul_emod_left _ _) (by omega) hl0 hl1 (by omega)]
    have hN : (hi * 18446744073709551616 + lo) * 2 ^ s = (hi * 2 ^ s + lo / 2 ^ (64 - s)) * 18446744073709551616 + lo * 2 ^ s % 18446744073709551616 := by
      rw [Int.add_mul, hsplit, Int.mul_assoc, Int.mul_comm 18446744073709551616, ← Int.mul_assoc]; omega
    have hU : hi * 2 ^ s + lo / 2 ^ (64 - s) < y * 2 ^ s := by omega
    have hU0 : 0 ≤ hi * 2 ^ s + lo / 2 ^ (64 - s) := by omega
    have hX0 : 0 ≤ lo * 2 ^ s % 18446744073709551616 := by omega
    have hX1 : lo * 2 ^ s % 18446744073709551616 < 18446744073709551616 := by omega
    generalize hi * 2 ^ s + lo / 2 ^ (64 - s) = U at *
    generalize lo * 2 ^ s % 18446744073709551616 = X at *
    generalize hY : y * 2 ^ s = Y at *
    clear hsplit hl0 hl1 hh0 hp
    rw [low32 Y (by omega) n1, low32 X hX0 hX1]
    -- the divisor's two digits, the last two of what is divided
    have hYs : Y / 4294967296 * 4294967296 + Y % 4294967296 = Y := by omega
    have a1 : 2147483648 ≤ Y / 4294967296 := by omega
    have a2 : Y / 4294967296 < 4294967296 := by omega
    have a3 : 0 ≤ Y % 4294967296 := by omega
    have a4 : Y % 4294967296 < 4294967296 := by omega
    rw [if_neg (by omega)]
    have hXs : X / 4294967296 * 4294967296 + X % 4294967296 = X := by omega
    have c1 : 0 ≤ X / 4294967296 := by omega
    have c2 : X / 4294967296 < 4294967296 := by omega
    have c3 : 0 ≤ X % 4294967296 := by omega
    have c4 : X % 4294967296 < 4294967296 := by omega
    generalize Y / 4294967296 = d1 at *
    generalize Y % 4294967296 = d0 at *
    generalize X / 4294967296 = x1 at *
    generalize X % 4294967296 = x0 at *
    have YP : 0 < Y := by omega
    -- a digit's first guess
    have guess : ∀ V v q r : Int, 0 ≤ V → V < Y → 0 ≤ v → v < 4294967296 → V * 4294967296 + v = q * Y + r → 0 ≤ r → 0 ≤ q →
        IntKind.u64.wrap (Int.tdiv V d1) = V / d1 ∧ IntKind.u64.wrap (V - IntKind.u64.wrap (IntKind.u64.wrap (Int.tdiv V d1) * d1)) = V % d1 ∧ V = V / d1 * d1 + V % d1 ∧ 0 ≤ V % d1 ∧ V % d1 < d1 ∧ q ≤ V / d1 ∧ V / d1 ≤ 4294967297 := by
      intro V v q r V0 V1 v0 v1 hV r0 q0
      have dp : 0 < d1 := by omega
      have m0 := Int.emod_nonneg V (show d1 ≠ 0 by omega)
      have m1 := Int.emod_lt_of_pos V dp
      have e : V = V / d1 * d1 + V % d1 := by rw [Int.mul_comm]; exact (Int.mul_ediv_add_emod V d1).symm
      have g0 : 0 ≤ V / d1 := Int.ediv_nonneg V0 (by omega)
      have g1 : V / d1 ≤ V := Int.ediv_le_self _ V0
      have gq : q ≤ V / d1 := by
        refine (Int.le_ediv_iff_mul_le dp).2 ?_
        rcases Int.lt_or_le V (q * d1) with h | h
        · exfalso
          have h2 : 0 ≤ q * d0 := Int.mul_nonneg q0 a3
          rw [← hYs, Int.mul_add, ← Int.mul_assoc] at hV
          generalize q * d1 = a at *
          generalize q * d0 = b at *
          omega
        · exact h
      have gm : V / d1 ≤ 4294967297 := by
        have : V / d1 < 4294967298 := Int.ediv_lt_of_lt_mul dp (by omega)
        omega
      have t1 : IntKind.u64.wrap (Int.tdiv V d1) = V / d1 := by rw [Int.tdiv_eq_ediv_of_nonneg V0, u64id g0 (by omega)]
      refine ⟨t1, ?_, e, m0, m1, gq, gm⟩
      rw [t1]
      have ha : 0 ≤ V / d1 * d1 := Int.mul_nonneg g0 (by omega)
      generalize V / d1 * d1 = a at *
      generalize V % d1 = b at *
      rw [u64id (n := a) (by omega) (by omega), u64id (by omega) (by omega)]
      omega
    -- what a digit's rest is
    have rest : ∀ V v q r : Int, V * 4294967296 + v = q * Y + r → 0 ≤ r → r < Y →
        IntKind.u64.wrap (IntKind.u64.wrap (IntKind.u64.wrap (V * 4294967296) + v) - IntKind.u64.wrap (q * Y)) = r := by
      intro V v q r h r0 r1
      simp only [u64w]
      generalize q * Y = a at *
      omega
    have small : ∀ V v : Int, 0 ≤ V → V < Y → 0 ≤ v → v < 4294967296 → ∃ q r, V * 4294967296 + v = q * Y + r ∧ 0 ≤ r ∧ r < Y ∧ 0 ≤ q ∧ q < 4294967296 := by
      intro V v V0 V1 v0 v1
      refine ⟨(V * 4294967296 + v) / Y, (V * 4294967296 + v) % Y, ?_, Int.emod_nonneg _ (by omega), Int.emod_lt_of_pos _ YP, Int.ediv_nonneg (by omega) (by omega), Int.ediv_lt_of_lt_mul YP (by omega)⟩
      have h := Int.mul_ediv_add_emod (V * 4294967296 + v) Y
      rw [Int.mul_comm Y] at h
      omega
    obtain ⟨q1, r1, e1, r10, r11, q10, q11⟩ := small U x1 hU0 hU c1 c2
    obtain ⟨q0, r0, e0, r00, r01, q00, q01⟩ := small r1 x0 r10 r11 c3 c4
    obtain ⟨g1, g2, g3, g4, g5, g6, g7⟩ := guess U x1 q1 r1 hU0 hU c1 c2 e1 r10 q10
    obtain ⟨k1, k2, k3, k4, k5, k6, k7⟩ := guess r1 x0 q0 r0 r10 r11 c3 c4 e0 r00 q00
    have two : (4294967296 : Int) ≤ 0 + (2 : Nat) * d1 := by simp; omega
    rw [g1, ← g1, g2, g1]
    obtain ⟨k', hk', hl⟩ := digit0 (y1 := d1) (y0 := d0) (u := U) (u1 := x1) (q := q1) (r := r1) a1 a2 a3 a4 c1 c2 (by rw [hYs]; exact e1) r10 (by rw [hYs]; exact r11) q10 q11 (x2 := Y) (x8 := (s : Int)) (x11 := U) (x14 := x0) 2 (K + 10) (U / d1) (U % d1) g3 g4 (by omega) g6 g7 (by simp; omega)
    rw [show K + 15 + 1 = K + 10 + 2 * 2 + 2 by omega, hl]
    obtain ⟨k3', rfl⟩ : ∃ m, k' = m + 2 * 2 + 2 + 1 := ⟨k' - 7, by omega⟩
    rw [bits_Div64.j2, if_neg (by omega), rest U x1 q1 r1 e1 r10 r11, k2, k1]
    rw [digit1 (y1 := d1) (y0 := d0) (u := r1) (u1 := x0) (q := q0) (r := r0) a1 a2 a3 a4 c3 c4 (by rw [hYs]; exact e0) r00 (by rw [hYs]; exact r01) q00 q01 (x2 := Y) (x8 := (s : Int)) (x15 := q1) (x17 := r1) (by omega) 2 k3' (r1 / d1) (r1 % d1) k3 k4 (by omega) k6 k7 (by simp; omega)]
    rw [rest r1 x0 q0 r0 e0 r00 r01, shr_tells _ s (by omega), u64id (n := q1 * 4294967296) (by omega) (by omega), u64id (n := q1 * 4294967296 + q0) (by omega) (by omega)]
    -- put together
    have hNN : (hi * 18446744073709551616 + lo) * 2 ^ s = (q1 * 4294967296 + q0) * Y + r0 := by
      rw [hN, ← hXs, Int.add_mul, Int.mul_assoc, Int.mul_comm 4294967296 Y, ← Int.mul_assoc]
      generalize q1 * Y = a at *
      generalize q0 * Y = b at *
      omega
    rw [← hY, ← Int.mul_assoc] at hNN
    have hr : r0 = (hi * 18446744073709551616 + lo - (q1 * 4294967296 + q0) * y) * 2 ^ s := by rw [Int.sub_mul]; omega
    have hrd : r0 / 2 ^ s = hi * 18446744073709551616 + lo - (q1 * 4294967296 + q0) * y := by rw [hr, Int.mul_ediv_cancel _ (by omega)]
    have hR0 : 0 ≤ r0 / 2 ^ s := Int.ediv_nonneg r00 (by omega)
    have hR1 : r0 / 2 ^ s < y := Int.ediv_lt_of_lt_mul P0 (by rw [hY]; exact r01)
    have hQ : (hi * 18446744073709551616 + lo) = r0 / 2 ^ s + y * (q1 * 4294967296 + q0) := by rw [hrd, Int.mul_comm y]; omega
    have f1 : (hi * 18446744073709551616 + lo) / y = q1 * 4294967296 + q0 := by
      rw [hQ, Int.add_mul_ediv_left _ _ (by omega), Int.ediv_eq_zero_of_lt hR0 hR1]; omega
    have f2 : (hi * 18446744073709551616 + lo) % y = r0 / 2 ^ s := by
      rw [hQ, Int.add_mul_emod_self_left, Int.emod_eq_of_lt hR0 hR1]
    rw [f1, f2]
end Go.Proofs.Ytpdljoalfmgfiaa.YBits
