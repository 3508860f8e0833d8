/- Half a turn changes the signs of sine and cosine, a quarter turns cosine into sine, and the other angle of the half turn has the same sine. No condition. -/
import Derived.Test.YtoedbnnepcnjnaaPAngleTellsx1
namespace Go.Proofs.Ytoedbnnepcnjnaa.Turn
open Go.RowKit Go.Proofs.Ytoedbnnepcnjnaa.PAngleTells Go.Proofs.YtoedbnnepcnjnaaW.PrintWords Go.Proofs.YtoedbnnepcnjnaaW.PrintLast

theorem wid {x : Int} (h0 : -9223372036854775808 ≤ x) (h1 : x < 9223372036854775808) : wrap64 x = x := by unfold wrap64; omega
theorem u16w (n : Int) : IntKind.u16.wrap n = n % 65536 := by simp [IntKind.wrap, IntKind.bits, IntKind.signed]
theorem i16w (n : Int) : IntKind.i16.wrap n = (n + 32768) % 65536 - 32768 := by
  simp [IntKind.wrap, IntKind.bits, IntKind.signed]
  split <;> omega
theorem u16_id (n : Int) (h0 : 0 ≤ n) (h1 : n < 2 ^ 16) : IntKind.u16.wrap n = n := by rw [u16w]; omega
theorem low14 (a : Int) (h0 : 0 ≤ a) (h1 : a < 65536) : Go.bits .and .u16 a 16383 = a % 16384 :=
  bits_mask .u16 16 (by decide) u16_id 14 (by decide) a h0 h1

/-- A sine within the first quarter. -/
def sn (x : Int) : Int := x * (51472 - (x * x / 16384) * (21024 - (x * x / 16384) * 2320 / 16384) / 16384) / 16384

theorem sine_tells (x : Int) (h0 : 0 ≤ x) (h1 : x ≤ 16384) : angle_sine.f x = some (sn x) ∧ 0 ≤ sn x ∧ sn x ≤ 51472 := by
  have hxx0 : 0 ≤ x * x := Int.mul_nonneg h0 h0
  have hxx1 : x * x ≤ 16384 * 16384 := Int.mul_le_mul h1 h1 h0 (by decide)
  unfold angle_sine.f sn
  rw [wid (x := x * x) (by omega) (by omega)]
  generalize ht : x * x / 16384 = t
  have t0 : 0 ≤ t := by omega
  have t1 : t ≤ 16384 := by omega
  rw [wid (x := t * 2320) (by omega) (by omega)]
  generalize hu : t * 2320 / 16384 = u
  have u0 : 0 ≤ u := by omega
  have u1 : u ≤ 2320 := by omega
  rw [wid (x := 21024 - u) (by omega) (by omega)]
  have p0 : 0 ≤ t * (21024 - u) := Int.mul_nonneg t0 (by omega)
  have p1 : t * (21024 - u) ≤ 16384 * 21024 := Int.mul_le_mul t1 (by omega) (by omega) (by decide)
  generalize hp : t * (21024 - u) = p at p0 p1 ⊢
  rw [wid (x := p) (by omega) (by omega)]
  generalize hv : p / 16384 = v
  have v0 : 0 ≤ v := by omega
  have v1 : v ≤ 21024 := by omega
  rw [wid (x := 51472 - v) (by omega) (by omega)]
  have q0 : 0 ≤ x * (51472 - v) := Int.mul_nonneg h0 (by omega)
  have q1 : x * (51472 - v) ≤ 16384 * 51472 := Int.mul_le_mul h1 (by omega) (by omega) (by decide)
  generalize hq : x * (51472 - v) = q at q0 q1 ⊢
  rw [wid (x := q) (by omega) (by omega)]
  exact ⟨rfl, by omega, by omega⟩

/-- The sine of any angle. -/
def sinN (a : Int) : Int := if a / 16384 = 0 then sn (a % 16384) else if a / 16384 = 1 then sn (16384 - a % 16384) else if a / 16384 = 2 then -sn (a % 16384) else -sn (16384 - a % 16384)

theorem sin_tells (a : Int) (h0 : 0 ≤ a) (h1 : a < 65536) : angle_Sin.f a = some (sinN a) ∧ -51472 ≤ sinN a ∧ sinN a ≤ 51472 := by
  obtain ⟨e1, l1, g1⟩ := sine_tells (a % 16384) (by omega) (by omega)
  obtain ⟨e2, l2, g2⟩ := sine_tells (16384 - a % 16384) (by omega) (by omega)
  unfold angle_Sin.f sinN
  rw [low14 a h0 h1, wid (x := a % 16384) (by omega) (by omega), wid (x := 16384 - a % 16384) (by omega) (by omega), e1, e2]
  simp only [Option.bind_some]
  have hq : a / 16384 = 0 ∨ a / 16384 = 1 ∨ a / 16384 = 2 ∨ a / 16384 = 3 := by omega
  rcases hq with hq | hq | hq | hq <;> simp only [hq] <;> simp
  · exact ⟨by omega, by omega⟩
  · exact ⟨by omega, by omega⟩
  · exact ⟨wid (by omega) (by omega), by omega, by omega⟩
  · exact ⟨wid (by omega) (by omega), by omega, by omega⟩

def cosN (a : Int) : Int := sinN ((a + 16384) % 65536)

theorem cos_tells (a : Int) : angle_Cos.f a = some (cosN a) ∧ -51472 ≤ cosN a ∧ cosN a ≤ 51472 := by
  obtain ⟨e, l, g⟩ := sin_tells ((a + 16384) % 65536) (by omega) (by omega)
  unfold angle_Cos.f cosN
  rw [u16w, e]
  exact ⟨rfl, l, g⟩

theorem known_holds : leadlinelaw3_known.f 40 = some true := by decide +kernel

theorem sin_half (a : Int) (h0 : 0 ≤ a) (h1 : a < 65536) : sinN ((a + 32768) % 65536) = -sinN a := by
  have hm : ((a + 32768) % 65536) % 16384 = a % 16384 := by omega
  unfold sinN
  rw [hm]
  have hq : a / 16384 = 0 ∨ a / 16384 = 1 ∨ a / 16384 = 2 ∨ a / 16384 = 3 := by omega
  rcases hq with hq | hq | hq | hq
  · have h2 : (a + 32768) % 65536 / 16384 = 2 := by omega
    rw [hq, h2]; simp
  · have h2 : (a + 32768) % 65536 / 16384 = 3 := by omega
    rw [hq, h2]; simp
  · have h2 : (a + 32768) % 65536 / 16384 = 0 := by omega
    rw [hq, h2]; simp
  · have h2 : (a + 32768) % 65536 / 16384 = 1 := by omega
    rw [hq, h2]; simp

theorem cos_half (a : Int) : cosN ((a + 32768) % 65536) = -cosN a := by
  unfold cosN
  have e : ((a + 32768) % 65536 + 16384) % 65536 = ((a + 16384) % 65536 + 32768) % 65536 := by omega
  rw [e, sin_half _ (by omega) (by omega)]

theorem sn_zero : sn 0 = 0 := by decide

theorem sin_other (a : Int) (h0 : 0 ≤ a) (h1 : a < 65536) : sinN ((32768 - a) % 65536) = sinN a := by
  have hq : a / 16384 = 0 ∨ a / 16384 = 1 ∨ a / 16384 = 2 ∨ a / 16384 = 3 := by omega
  by_cases hr : a % 16384 = 0
  · have ha : a = 0 ∨ a = 16384 ∨ a = 32768 ∨ a = 49152 := by omega
    rcases ha with rfl | rfl | rfl | rfl <;> decide
  · have hm : ((32768 - a) % 65536) % 16384 = 16384 - a % 16384 := by omega
    have hs : 16384 - (16384 - a % 16384) = a % 16384 := by omega
    unfold sinN
    rw [hm, hs]
    rcases hq with hq | hq | hq | hq
    · have h2 : (32768 - a) % 65536 / 16384 = 1 := by omega
      rw [hq, h2]; simp
    · have h2 : (32768 - a) % 65536 / 16384 = 0 := by omega
      rw [hq, h2]; simp
    · have h2 : (32768 - a) % 65536 / 16384 = 3 := by omega
      rw [hq, h2]; simp
    · have h2 : (32768 - a) % 65536 / 16384 = 2 := by omega
      rw [hq, h2]; simp


def diffN (x y : Int) : Int := wrap64 (IntKind.i16.wrap (IntKind.u16.wrap (x - y)))
theorem u16_bounds (n : Int) : 0 ≤ IntKind.u16.wrap n ∧ IntKind.u16.wrap n < 65536 := by rw [u16w]; omega

set_option maxHeartbeats 4000000 in
theorem turns_walk (a0 : Int) (w : World) (w0 : (Lit.int .u16 a0).wf = true) :
    Calls Try.prog 4 #[.int .u16 a0] w fun e w' => e = .returned (.bool true) ∧ Below w.heap.size w w' := by
  have ha' : 0 ≤ a0 ∧ a0 < 65536 := by simp [Lit.wf, IntKind.min, IntKind.max, IntKind.bits, IntKind.signed] at w0; omega
  obtain ⟨h0, h1⟩ := ha'
  have C15 : ∀ w : World, Calls Try.prog 15 #[] w fun e w' => e = .returned (.bool true) ∧ Drawn0 w w' := fun w => leadlinelaw3_known.calls 40 true w known_holds
  have C16 : ∀ (x : Int) (w : World), 0 ≤ x → x < 65536 → Calls Try.prog 16 #[.int .u16 x] w fun e w' => e = .returned (.int .i64 (sinN x)) ∧ Drawn0 w w' := fun x w g0 g1 => angle_Sin.calls x _ w (sin_tells x g0 g1).1
  have C18 : ∀ (x : Int) (w : World), Calls Try.prog 18 #[.int .u16 x] w fun e w' => e = .returned (.int .i64 (cosN x)) ∧ Drawn0 w w' := fun x w => angle_Cos.calls x _ w (cos_tells x).1
  have C20 : ∀ (x y : Int) (w : World), Calls Try.prog 20 #[.int .u16 x, .int .u16 y] w fun e w' => e = .returned (.int .i64 (diffN x y)) ∧ Drawn0 w w' := fun x y w => angle_Diff.calls x y _ w rfl
  obtain ⟨_, l1, g1⟩ := sin_tells a0 h0 h1
  obtain ⟨_, l2, g2⟩ := cos_tells a0
  have b1 : (sinN (IntKind.u16.wrap (a0 + 32768)) == wrap64 (-sinN a0)) = true := by
    rw [u16w, sin_half a0 h0 h1, wid (x := -sinN a0) (by omega) (by omega)]; exact beq_self_eq_true _
  have b2 : (cosN (IntKind.u16.wrap (a0 + 32768)) == wrap64 (-cosN a0)) = true := by
    rw [u16w, cos_half a0, wid (x := -cosN a0) (by omega) (by omega)]; exact beq_self_eq_true _
  have b3 : (sinN (IntKind.u16.wrap (a0 + 16384)) == cosN a0) = true := by
    rw [u16w]; exact beq_self_eq_true _
  have b4 : (sinN (IntKind.u16.wrap (32768 - a0)) == sinN a0) = true := by
    rw [u16w, sin_other a0 h0 h1]; exact beq_self_eq_true _
  have b5 : (diffN a0 0 == wrap64 (-diffN 0 a0)) = true ∨ (diffN a0 0 == wrap64 (-diffN 0 a0)) = false ∧ (a0 == 32768) = true := by
    by_cases h : a0 = 32768
    · subst h; right; decide +kernel
    · left
      rw [beq_iff_eq]
      unfold diffN
      simp only [u16w, i16w]
      unfold wrap64
      omega
  clear l1 g1 l2 g2
  rcases b5 with b5 | ⟨b5, b6⟩
  all_goals
    go_enter Try.func4, Try.ntmps4
    go_wp2_with (first | (go_at_call 15; refine (C15 _).mono ?_; rintro e w' ⟨rfl, ⟨nd, rfl⟩⟩) | (go_at_call 16; refine (C16 _ _ (by first | omega | exact (u16_bounds _).1) (by first | omega | exact (u16_bounds _).2)).mono ?_; rintro e w' ⟨rfl, ⟨nd, rfl⟩⟩) | (go_at_call 18; refine (C18 _ _).mono ?_; rintro e w' ⟨rfl, ⟨nd, rfl⟩⟩) | (go_at_call 20; refine (C20 _ _ _).mono ?_; rintro e w' ⟨rfl, ⟨nd, rfl⟩⟩))
    go_ret
    exact ⟨rfl, Drawn0.below (by repeat (first | exact Drawn0.refl _ | apply Drawn0.step))⟩
end Go.Proofs.Ytoedbnnepcnjnaa.Turn
