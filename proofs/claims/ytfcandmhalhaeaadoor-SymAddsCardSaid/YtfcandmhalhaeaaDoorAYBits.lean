/- Lean functions, contracts and lemmas that this claim needs. No condition. -/
import Derived.Test.YtfcandmhalhaeaaDoorAQSyx1
import Derived.Test.YtfcandmhalhaeaaDoorAQSyx3
import Derived.Test.YtfcandmhalhaeaaDoorAQSyx8
import Derived.Lib.Mul64
import Derived.Laws.Bits64b
namespace Go.Proofs.YtfcandmhalhaeaaDoor.YBits
open Go.RowKit Go.Proofs.YtfcandmhalhaeaaDoor.QSy Go.Proofs.YtfcandmhalhaeaaDoorW.PrintWords Go.Proofs.YtfcandmhalhaeaaDoorW.PrintLast
set_option linter.unusedVariables false
set_option linter.unusedSimpArgs false
theorem wid {x : Int} (h0 : -9223372036854775808 ≤ x) (h1 : x < 9223372036854775808) : wrap64 x = x := by unfold wrap64; omega
theorem u64w (n : Int) : IntKind.u64.wrap n = n % 18446744073709551616 := by simp [IntKind.wrap, IntKind.bits, IntKind.signed]
theorem u64id {n : Int} (h0 : 0 ≤ n) (h1 : n < 18446744073709551616) : IntKind.u64.wrap n = n := by rw [u64w]; omega
theorem maskN (a : Nat) (ha : a < 18446744073709551616) : Go.bits .and .u64 (a : Int) 4294967295 = ((a % 4294967296 : Nat) : Int) := by
  have h := bits_and_u64_nat a 4294967295 ha (by omega)
  have e : a &&& 4294967295 = a % 4294967296 := Nat.and_two_pow_sub_one_eq_mod a 32
  rw [e] at h
  exact h
theorem divN (a : Nat) : (a : Int) / 4294967296 = ((a / 4294967296 : Nat) : Int) := by omega
theorem mulN (a b : Nat) : (a : Int) * (b : Int) = ((a * b : Nat) : Int) := (Int.natCast_mul a b).symm
theorem addN (a b : Nat) : (a : Int) + (b : Int) = ((a + b : Nat) : Int) := (Int.natCast_add a b).symm
theorem wrapN (a : Nat) (ha : a < 18446744073709551616) : IntKind.u64.wrap (a : Int) = (a : Int) := by rw [u64w]; omega
theorem wrapM (a : Nat) : IntKind.u64.wrap (a : Int) = ((a % 18446744073709551616 : Nat) : Int) := by rw [u64w]; omega
theorem mul64_nat (x y : Nat) (hx : x < 18446744073709551616) (hy : y < 18446744073709551616) :
    bits_Mul64.f x y = some (((x * y / 18446744073709551616 : Nat) : Int), ((x * y % 18446744073709551616 : Nat) : Int)) := by
  obtain ⟨bd, bt, bw, hhi⟩ := Lib.mul64_hi x y hx hy
  have ba := Lib.half_mul_le (a := x / 4294967296) (b := y / 4294967296) (by omega) (by omega)
  have bb := Lib.half_mul_le (a := x / 4294967296) (b := y % 4294967296) (by omega) (by omega)
  have bc := Lib.half_mul_le (a := x % 4294967296) (b := y / 4294967296) (by omega) (by omega)
  have ba' : x / 4294967296 * (y / 4294967296) < 18446744073709551616 := by omega
  have bb' : x / 4294967296 * (y % 4294967296) < 18446744073709551616 := by omega
  have bc' : x % 4294967296 * (y / 4294967296) < 18446744073709551616 := by omega
  have bh1 : x / 4294967296 * (y / 4294967296) + (x / 4294967296 * (y % 4294967296) + x % 4294967296 * (y % 4294967296) / 4294967296) / 4294967296 < 18446744073709551616 := by omega
  have bh : x / 4294967296 * (y / 4294967296) + (x / 4294967296 * (y % 4294967296) + x % 4294967296 * (y % 4294967296) / 4294967296) / 4294967296 + ((x / 4294967296 * (y % 4294967296) + x % 4294967296 * (y % 4294967296) / 4294967296) % 4294967296 + x % 4294967296 * (y / 4294967296)) / 4294967296 < 18446744073709551616 := by omega
  unfold bits_Mul64.f
  simp only [maskN x hx, maskN y hy, divN, mulN, addN, wrapN _ bd, wrapN _ bb', wrapN _ bt, maskN _ bt, wrapN _ bc', wrapN _ bw, wrapN _ ba', wrapN _ bh1, wrapN _ bh, wrapM (x * y)]
  rw [hhi]
theorem mul64_tells {x y : Int} (hx0 : 0 ≤ x) (hx : x < 18446744073709551616) (hy0 : 0 ≤ y) (hy : y < 18446744073709551616) :
    bits_Mul64.f x y = some (x * y / 18446744073709551616, x * y % 18446744073709551616) := by
  obtain ⟨a, rfl⟩ := Int.eq_ofNat_of_zero_le hx0
  obtain ⟨b, rfl⟩ := Int.eq_ofNat_of_zero_le hy0
  rw [mul64_nat a b (by omega) (by omega)]
  have e : ((a : Int) * (b : Int)) = ((a * b : Nat) : Int) := (Int.natCast_mul a b).symm
  rw [e]
  congr 2
def TabOk (x : Nat) (t : Int) : Prop := (x = 0 ∧ t = 0) ∨ (0 < t ∧ t ≤ 8 ∧ 2 ^ (t.toNat - 1) ≤ x ∧ x < 2 ^ t.toNat)
instance (x : Nat) (t : Int) : Decidable (TabOk x t) := by unfold TabOk; infer_instance
theorem len_base (c : Nat) (z : Nat) (y : Int) (t : Int) (hc : c ≤ 56) (hz : y / 2 ^ c = (z : Int)) (hz0 : 0 < z) (ht : TabOk z t) :
    ∃ L : Nat, (c : Int) + t = (L : Int) ∧ 0 < L ∧ L ≤ 64 ∧ (2 : Int) ^ (L - 1) ≤ y ∧ y < (2 : Int) ^ L := by
  rcases ht with ⟨h0, _⟩ | ⟨t0, t8, hlo, hhi⟩
  · omega
  · obtain ⟨m, rfl⟩ := Int.eq_ofNat_of_zero_le (show 0 ≤ t by omega)
    have hm : (m : Int).toNat = m := Int.toNat_natCast m
    rw [hm] at hlo hhi
    have hp : (0 : Int) < 2 ^ c := Int.pow_pos (by decide)
    refine ⟨c + m, by omega, by omega, by omega, ?_, ?_⟩
    · have e : c + m - 1 = c + (m - 1) := by omega
      rw [e, Int.pow_add]
      have h1 : (2 : Int) ^ (m - 1) ≤ (z : Int) := by exact_mod_cast hlo
      have h2 : (2 : Int) ^ c * 2 ^ (m - 1) ≤ 2 ^ c * (z : Int) := Int.mul_le_mul_of_nonneg_left h1 (by omega)
      have h3 : 2 ^ c * (y / 2 ^ c) ≤ y := Int.mul_ediv_self_le (by omega)
      rw [hz] at h3
      omega
    · rw [Int.pow_add]
      have h1 : (z : Int) + 1 ≤ 2 ^ m := by
        have : z + 1 ≤ 2 ^ m := hhi
        exact_mod_cast this
      have h2 : (2 : Int) ^ c * ((z : Int) + 1) ≤ 2 ^ c * 2 ^ m := Int.mul_le_mul_of_nonneg_left h1 (by omega)
      have h3 : y < 2 ^ c * (y / 2 ^ c) + 2 ^ c := Int.lt_mul_ediv_self_add hp
      rw [hz] at h3
      rw [Int.mul_add, Int.mul_one] at h2
      omega
theorem tab_all : ∀ x : Fin 256, TabOk x.val (bt (⟨#[0, 1, 2, 2, 3, 3, 3, 3, 4, 4, 4, 4, 4, 4, 4, 4, 5, 5, 5, 5, 5, 5, 5, 5, 5, 5, 5, 5, 5, 5, 5, 5, 6, 6, 6, 6, 6, 6, 6, 6, 6, 6, 6, 6, 6, 6, 6, 6, 6, 6, 6, 6, 6, 6, 6, 6, 6, 6, 6, 6, 6, 6, 6, 6, 7, 7, 7, 7, 7, 7, 7, 7, 7, 7, 7, 7, 7, 7, 7, 7, 7, 7, 7, 7, 7, 7, 7, 7, 7, 7, 7, 7, 7, 7, 7, 7, 7, 7, 7, 7, 7, 7, 7, 7, 7, 7, 7, 7, 7, 7, 7, 7, 7, 7, 7, 7, 7, 7, 7, 7, 7, 7, 7, 7, 7, 7, 7, 7, 8, 8, 8, 8, 8, 8, 8, 8, 8, 8, 8, 8, 8, 8, 8, 8, 8, 8, 8, 8, 8, 8, 8, 8, 8, 8, 8, 8, 8, 8, 8, 8, 8, 8, 8, 8, 8, 8, 8, 8, 8, 8, 8, 8, 8, 8, 8, 8, 8, 8, 8, 8, 8, 8, 8, 8, 8, 8, 8, 8, 8, 8, 8, 8, 8, 8, 8, 8, 8, 8, 8, 8, 8, 8, 8, 8, 8, 8, 8, 8, 8, 8, 8, 8, 8, 8, 8, 8, 8, 8, 8, 8, 8, 8, 8, 8, 8, 8, 8, 8, 8, 8, 8, 8, 8, 8, 8, 8, 8, 8, 8, 8, 8, 8, 8, 8, 8, 8, 8, 8, 8, 8, 8, 8, 8, 8, 8, 8]⟩ : ByteArray) (x.val : Int)) := by decide +kernel
theorem tab_at (z : Int) (h0 : 0 ≤ z) (h1 : z < 256) : ∃ t : Int, 0 ≤ t ∧ t ≤ 8 ∧ TabOk z.toNat t ∧ bt (⟨#[0, 1, 2, 2, 3, 3, 3, 3, 4, 4, 4, 4, 4, 4, 4, 4, 5, 5, 5, 5, 5, 5, 5, 5, 5, 5, 5, 5, 5, 5, 5, 5, 6, 6, 6, 6, 6, 6, 6, 6, 6, 6, 6, 6, 6, 6, 6, 6, 6, 6, 6, 6, 6, 6, 6, 6, 6, 6, 6, 6, 6, 6, 6, 6, 7, 7, 7, 7, 7, 7, 7, 7, 7, 7, 7, 7, 7, 7, 7, 7, 7, 7, 7, 7, 7, 7, 7, 7, 7, 7, 7, 7, 7, 7, 7, 7, 7, 7, 7, 7, 7, 7, 7, 7, 7, 7, 7, 7, 7, 7, 7, 7, 7, 7, 7, 7, 7, 7, 7, 7, 7, 7, 7, 7, 7, 7, 7, 7, 8, 8, 8, 8, 8, 8, 8, 8, 8, 8, 8, 8, 8, 8, 8, 8, 8, 8, 8, 8, 8, 8, 8, 8, 8, 8, 8, 8, 8, 8, 8, 8, 8, 8, 8, 8, 8, 8, 8, 8, 8, 8, 8, 8, 8, 8, 8, 8, 8, 8, 8, 8, 8, 8, 8, 8, 8, 8, 8, 8, 8, 8, 8, 8, 8, 8, 8, 8, 8, 8, 8, 8, 8, 8, 8, 8, 8, 8, 8, 8, 8, 8, 8, 8, 8, 8, 8, 8, 8, 8, 8, 8, 8, 8, 8, 8, 8, 8, 8, 8, 8, 8, 8, 8, 8, 8, 8, 8, 8, 8, 8, 8, 8, 8, 8, 8, 8, 8, 8, 8, 8, 8, 8, 8, 8, 8, 8, 8]⟩ : ByteArray) z = t := by
  obtain ⟨a, rfl⟩ := Int.eq_ofNat_of_zero_le h0
  have h : TabOk a (bt (⟨#[0, 1, 2, 2, 3, 3, 3, 3, 4, 4, 4, 4, 4, 4, 4, 4, 5, 5, 5, 5, 5, 5, 5, 5, 5, 5, 5, 5, 5, 5, 5, 5, 6, 6, 6, 6, 6, 6, 6, 6, 6, 6, 6, 6, 6, 6, 6, 6, 6, 6, 6, 6, 6, 6, 6, 6, 6, 6, 6, 6, 6, 6, 6, 6, 7, 7, 7, 7, 7, 7, 7, 7, 7, 7, 7, 7, 7, 7, 7, 7, 7, 7, 7, 7, 7, 7, 7, 7, 7, 7, 7, 7, 7, 7, 7, 7, 7, 7, 7, 7, 7, 7, 7, 7, 7, 7, 7, 7, 7, 7, 7, 7, 7, 7, 7, 7, 7, 7, 7, 7, 7, 7, 7, 7, 7, 7, 7, 7, 8, 8, 8, 8, 8, 8, 8, 8, 8, 8, 8, 8, 8, 8, 8, 8, 8, 8, 8, 8, 8, 8, 8, 8, 8, 8, 8, 8, 8, 8, 8, 8, 8, 8, 8, 8, 8, 8, 8, 8, 8, 8, 8, 8, 8, 8, 8, 8, 8, 8, 8, 8, 8, 8, 8, 8, 8, 8, 8, 8, 8, 8, 8, 8, 8, 8, 8, 8, 8, 8, 8, 8, 8, 8, 8, 8, 8, 8, 8, 8, 8, 8, 8, 8, 8, 8, 8, 8, 8, 8, 8, 8, 8, 8, 8, 8, 8, 8, 8, 8, 8, 8, 8, 8, 8, 8, 8, 8, 8, 8, 8, 8, 8, 8, 8, 8, 8, 8, 8, 8, 8, 8, 8, 8, 8, 8, 8, 8]⟩ : ByteArray) (a : Int)) := tab_all ⟨a, by omega⟩
  generalize bt (⟨#[0, 1, 2, 2, 3, 3, 3, 3, 4, 4, 4, 4, 4, 4, 4, 4, 5, 5, 5, 5, 5, 5, 5, 5, 5, 5, 5, 5, 5, 5, 5, 5, 6, 6, 6, 6, 6, 6, 6, 6, 6, 6, 6, 6, 6, 6, 6, 6, 6, 6, 6, 6, 6, 6, 6, 6, 6, 6, 6, 6, 6, 6, 6, 6, 7, 7, 7, 7, 7, 7, 7, 7, 7, 7, 7, 7, 7, 7, 7, 7, 7, 7, 7, 7, 7, 7, 7, 7, 7, 7, 7, 7, 7, 7, 7, 7, 7, 7, 7, 7, 7, 7, 7, 7, 7, 7, 7, 7, 7, 7, 7, 7, 7, 7, 7, 7, 7, 7, 7, 7, 7, 7, 7, 7, 7, 7, 7, 7, 8, 8, 8, 8, 8, 8, 8, 8, 8, 8, 8, 8, 8, 8, 8, 8, 8, 8, 8, 8, 8, 8, 8, 8, 8, 8, 8, 8, 8, 8, 8, 8, 8, 8, 8, 8, 8, 8, 8, 8, 8, 8, 8, 8, 8, 8, 8, 8, 8, 8, 8, 8, 8, 8, 8, 8, 8, 8, 8, 8, 8, 8, 8, 8, 8, 8, 8, 8, 8, 8, 8, 8, 8, 8, 8, 8, 8, 8, 8, 8, 8, 8, 8, 8, 8, 8, 8, 8, 8, 8, 8, 8, 8, 8, 8, 8, 8, 8, 8, 8, 8, 8, 8, 8, 8, 8, 8, 8, 8, 8, 8, 8, 8, 8, 8, 8, 8, 8, 8, 8, 8, 8, 8, 8, 8, 8, 8, 8]⟩ : ByteArray) (a : Int) = t at h ⊢
  refine ⟨t, ?_, ?_, by rw [Int.toNat_natCast]; exact h, rfl⟩
  · rcases h with ⟨_, h⟩ | ⟨h, _⟩ <;> omega
  · rcases h with ⟨_, h⟩ | ⟨_, h, _⟩ <;> omega
theorem len64_tells (k : Nat) (y : Int) (h0 : 0 < y) (h1 : y < 18446744073709551616) :
    ∃ L : Nat, bits_Len64.f (k + 1) y = some (L : Int) ∧ 0 < L ∧ L ≤ 64 ∧ (2 : Int) ^ (L - 1) ≤ y ∧ y < (2 : Int) ^ L := by
  -- a part of the number: its low part of 32 bits, or its high one
  have part : ∀ (b : Nat) (z : Int), b ≤ 32 → 0 < z → z < 4294967296 → y / 2 ^ b = z →
      ∃ L : Nat, bits_Len64.j0 (k + 1) z (b : Int) = some (L : Int) ∧ 0 < L ∧ L ≤ 64 ∧ (2 : Int) ^ (L - 1) ≤ y ∧ y < (2 : Int) ^ L := by
    intro b z hb z0 z1 hz
    have go : ∀ (c : Nat) (x : Int), c ≤ 24 → x = z / 2 ^ c → 0 < x → x < 256 → ∀ t, TabOk x.toNat t → ∃ L : Nat, (b : Int) + (c : Int) + t = (L : Int) ∧ 0 < L ∧ L ≤ 64 ∧ (2 : Int) ^ (L - 1) ≤ y ∧ y < (2 : Int) ^ L := by
      intro c x hc hx x0 x1 t ht
      have e : y / 2 ^ (b + c) = (x.toNat : Int) := by
        rw [Int.pow_add, ← Int.ediv_ediv_of_nonneg (Int.le_of_lt (Int.pow_pos (by decide))), hz, ← hx]; omega
      obtain ⟨L, hL, r⟩ := len_base (b + c) x.toNat y t (by omega) e (by omega) ht
      exact ⟨L, by omega, r⟩
    rw [bits_Len64.j0]
    by_cases g16 : z ≥ 65536
    · rw [if_pos g16]
      by_cases g8 : z / 65536 ≥ 256
      · rw [if_pos g8, if_pos (by omega), if_pos (by omega)]
        have hx : z / 65536 / 256 % 256 = z / 2 ^ 24 := by omega
        obtain ⟨t, t0, t8, ht, hb'⟩ := tab_at (z / 65536 / 256 % 256) (by omega) (by omega)
        rw [hb']
        obtain ⟨L, hL, r⟩ := go 24 _ (by omega) hx (by omega) (by omega) t ht
        refine ⟨L, ?_, r⟩
        rw [wid (x := t) (by omega) (by omega), wid (x := (b : Int) + 16) (by omega) (by omega), wid (x := (b : Int) + 16 + 8) (by omega) (by omega), wid (by omega) (by omega)]
        congr 1
      · rw [if_neg g8, if_pos (by omega), if_pos (by omega)]
        have hx : z / 65536 % 256 = z / 2 ^ 16 := by omega
        obtain ⟨t, t0, t8, ht, hb'⟩ := tab_at (z / 65536 % 256) (by omega) (by omega)
        rw [hb']
        obtain ⟨L, hL, r⟩ := go 16 _ (by omega) hx (by omega) (by omega) t ht
        refine ⟨L, ?_, r⟩
        rw [wid (x := t) (by omega) (by omega), wid (x := (b : Int) + 16) (by omega) (by omega), wid (by omega) (by omega)]
        congr 1
    · rw [if_neg g16]
      by_cases g8 : z ≥ 256
      · rw [if_pos g8, if_pos (by omega), if_pos (by omega)]
        have hx : z / 256 % 256 = z / 2 ^ 8 := by omega
        obtain ⟨t, t0, t8, ht, hb'⟩ := tab_at (z / 256 % 256) (by omega) (by omega)
        rw [hb']
        obtain ⟨L, hL, r⟩ := go 8 _ (by omega) hx (by omega) (by omega) t ht
        refine ⟨L, ?_, r⟩
        rw [wid (x := t) (by omega) (by omega), wid (x := (b : Int) + 8) (by omega) (by omega), wid (by omega) (by omega)]
        congr 1
      · rw [if_neg g8, if_pos (by omega), if_pos (by omega)]
        have hx : z % 256 = z / 2 ^ 0 := by omega
        obtain ⟨t, t0, t8, ht, hb'⟩ := tab_at (z % 256) (by omega) (by omega)
        rw [hb']
        obtain ⟨L, hL, r⟩ := go 0 _ (by omega) hx (by omega) (by omega) t ht
        refine ⟨L, ?_, r⟩
        rw [wid (x := t) (by omega) (by omega), wid (by omega) (by omega)]
        congr 1
  unfold bits_Len64.f
  by_cases g : y ≥ 4294967296
  · rw [if_pos g]
    exact part 32 (y / 4294967296) (by omega) (by omega) (by omega) (by omega)
  · rw [if_neg g]
    exact part 0 y (by omega) h0 (by omega) (by omega)
end Go.Proofs.YtfcandmhalhaeaaDoor.YBits
