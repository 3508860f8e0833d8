/- Package sound: what its functions tell, a number and an error. No condition but the numbers' kinds. -/
import Derived.Test.YtaiolioggjknfaaDoorYFx
import Derived.Test.YtaiolioggjknfaaDoorYSays13
namespace Go.Proofs.YtaiolioggjknfaaDoor.YSound
open Go.RowKit Go.Extern.Stop Go.Stop Go.Extern Go.Proofs.YtaiolioggjknfaaDoor.QSn Go.Proofs.YtaiolioggjknfaaDoor.YBits Go.Proofs.YtaiolioggjknfaaDoor.YFx Go.Proofs.YtaiolioggjknfaaDoor.YErr Go.Proofs.YtaiolioggjknfaaDoorW.PrintWords Go.Proofs.YtaiolioggjknfaaDoorW.PrintLast
set_option linter.unusedVariables false
set_option linter.unusedSimpArgs false

theorem drawn_below {B : Nat} {a w w' : World} (h : Below B a w) (hd : Drawn0 w w') : Below B a w' := by
  obtain ⟨n, rfl⟩ := hd
  induction n with
  | zero => exact h
  | succ n ih => rw [← World.drew_drewN]; exact ih.drew
theorem i64id {x : Int} (h0 : -9223372036854775808 ≤ x) (h1 : x ≤ 9223372036854775807) : IntKind.i64.wrap x = x := by
  simp [IntKind.wrap, IntKind.bits, IntKind.signed]
  split <;> omega

theorem within_calls (v l m : Int) (w : World) (b : Bool) (hb : b = decide (l ≤ v ∧ v ≤ m)) :
    Calls Tryd.prog 37 #[.int .i64 v, .int .i64 l, .int .i64 m] w fun e w' => e = .returned (.bool b) ∧ Drawn0 w w' := by
  refine sound_within.calls v l m b w ?_
  unfold sound_within.f
  subst hb
  by_cases h : v ≥ l
  · rw [if_pos h]; congr 1; simp; omega
  · rw [if_neg h]; congr 1; simp; omega
theorem bad_calls (w : World) : Calls Tryd.prog 38 #[] w fun e w' => ∃ v, e = .returned v ∧ ErrIs op13 w' v 27 ∧ Below w.heap.size w w' := by
  have hW := Wrap_is op13 27 (by decide) w
  unfold op13 at hW
  go_enter Tryd.func38, Tryd.ntmps38
  go_wp2_with (first | (go_at_call 42; refine hW.mono ?_; rintro e w' ⟨v, rfl, h, hb⟩) | go_in)
  go_ret
  exact ⟨v, rfl, h, hb⟩

/-- A root, rounded down. -/
def sq (v : Int) : Int := (fx_Sqrt.f 65 v).getD 0
theorem sq_tells (v : Int) (h0 : 0 ≤ v) (h1 : v < 18446744073709551616) : fx_Sqrt.f 65 v = some (sq v) ∧ 0 ≤ sq v ∧ sq v < 4294967296 ∧ sq v * sq v ≤ v ∧ v < (sq v + 1) * (sq v + 1) := by
  obtain ⟨r, hr, k⟩ := sqrt_tells 0 v h0 h1
  have e : fx_Sqrt.f 65 v = some r := hr
  have : sq v = r := by unfold sq; rw [e]; rfl
  rw [this]; exact ⟨e, k⟩

/-- An amount. -/
def ab (x : Int) : Int := if x < 0 then -x else x

def flatC (r dz : Int) : Int := if 0 ≤ r ∧ r ≤ 2097152 ∧ -r ≤ dz ∧ dz ≤ r then 0 else 27
def flatV (r dz : Int) : Int := if 0 ≤ r ∧ r ≤ 2097152 ∧ -r ≤ dz ∧ dz ≤ r then sq (r * r - dz * dz) else 0
set_option maxRecDepth 100000 in
set_option maxHeartbeats 1000000 in
theorem Flat_calls (r dz : Int) (hr0 : -9223372036854775808 ≤ r) (hr1 : r ≤ 9223372036854775807) (hz0 : -9223372036854775808 ≤ dz) (hz1 : dz ≤ 9223372036854775807) (w : World) :
    Calls Tryd.prog 15 #[.int .i64 r, .int .i64 dz] w fun e w' => ∃ v, e = .returned (.tuple #[.int .i64 (flatV r dz), v]) ∧ ErrIs op13 w' v (flatC r dz) ∧ Below w.heap.size w w' := by
  by_cases h1 : 0 ≤ r ∧ r ≤ 2097152
  · have en : IntKind.i64.wrap (-r) = -r := i64id (by omega) (by omega)
    have W1 : ∀ W, Calls Tryd.prog 37 #[.int .i64 r, .int .i64 0, .int .i64 2097152] W fun e w' => e = .returned (.bool true) ∧ Drawn0 W w' := fun W => within_calls _ _ _ W _ (by simp [h1])
    by_cases h2 : -r ≤ dz ∧ dz ≤ r
    · have W2 : ∀ W, Calls Tryd.prog 37 #[.int .i64 dz, .int .i64 (-r), .int .i64 r] W fun e w' => e = .returned (.bool true) ∧ Drawn0 W w' := fun W => within_calls _ _ _ W _ (by simp [h2])
      have b1 := sq_bound (x := r) (B := 2097152) (by decide) (by omega) (by omega)
      have b2 := sq_bound (x := dz) (B := 2097152) (by decide) (by omega) (by omega)
      have b3 : dz * dz ≤ r * r := by
        have a1 : ab dz ≤ r := by unfold ab; split <;> omega
        have a2 : 0 ≤ ab dz := by unfold ab; split <;> omega
        have := Int.mul_le_mul a1 a1 a2 (show 0 ≤ r by omega)
        have e : ab dz * ab dz = dz * dz := by
          unfold ab; split
          · exact Int.neg_mul_neg _ _
          · rfl
        omega
      have e1 : IntKind.i64.wrap (r * r) = r * r := i64id (by omega) (by omega)
      have e2 : IntKind.i64.wrap (dz * dz) = dz * dz := i64id (by omega) (by omega)
      have e3 : IntKind.i64.wrap (r * r - dz * dz) = r * r - dz * dz := i64id (by omega) (by omega)
      have e4 : IntKind.u64.wrap (r * r - dz * dz) = r * r - dz * dz := u64id (by omega) (by omega)
      obtain ⟨s1, s2, s3, _, _⟩ := sq_tells (r * r - dz * dz) (by omega) (by omega)
      have S := fun W => fx_Sqrt.calls 65 (r * r - dz * dz) _ W s1
      have e5 : IntKind.i64.wrap (sq (r * r - dz * dz)) = sq (r * r - dz * dz) := i64id (by omega) (by omega)
      go_enter Tryd.func15, Tryd.ntmps15
      go_wp2_with (first | (go_at_call 37; first | ((with_reducible refine (W1 _).mono ?_); rintro e w1 ⟨rfl, hd1⟩) | ((with_reducible refine (W2 _).mono ?_); rintro e w2 ⟨rfl, hd2⟩)) | (go_at_call 39; (with_reducible refine (S _).mono ?_); rintro e w3 ⟨rfl, hd3⟩) | go_in)
      go_ret2
      have hc : 0 ≤ r ∧ r ≤ 2097152 ∧ -r ≤ dz ∧ dz ≤ r := ⟨h1.1, h1.2, h2⟩
      unfold flatV flatC
      rw [if_pos hc, if_pos hc]
      exact ⟨_, rfl, ErrIs.nil _ _, drawn_below (drawn_below (drawn_below (Below.refl _ _) hd1) hd2) hd3⟩
    · have W2 : ∀ W, Calls Tryd.prog 37 #[.int .i64 dz, .int .i64 (-r), .int .i64 r] W fun e w' => e = .returned (.bool false) ∧ Drawn0 W w' := fun W => within_calls _ _ _ W _ (by simp; omega)
      have B := bad_calls
      go_enter Tryd.func15, Tryd.ntmps15
      go_wp2_with (first | (go_at_call 37; first | ((with_reducible refine (W1 _).mono ?_); rintro e w1 ⟨rfl, hd1⟩) | ((with_reducible refine (W2 _).mono ?_); rintro e w2 ⟨rfl, hd2⟩)) | (go_at_call 38; refine (B _).mono ?_; rintro e w3 ⟨v, rfl, hv, hb⟩) | go_in)
      go_ret2
      have hc : ¬(0 ≤ r ∧ r ≤ 2097152 ∧ -r ≤ dz ∧ dz ≤ r) := fun h => h2 h.2.2
      unfold flatV flatC
      rw [if_neg hc, if_neg hc]
      have hb0 := drawn_below (drawn_below (Below.refl w.heap.size w) hd1) hd2
      exact ⟨_, rfl, hv, hb0.trans (hb.mono hb0.size)⟩
  · have W1 : ∀ W, Calls Tryd.prog 37 #[.int .i64 r, .int .i64 0, .int .i64 2097152] W fun e w' => e = .returned (.bool false) ∧ Drawn0 W w' := fun W => within_calls _ _ _ W _ (by simp; omega)
    have B := bad_calls
    go_enter Tryd.func15, Tryd.ntmps15
    go_wp2_with (first | (go_at_call 37; ((with_reducible refine (W1 _).mono ?_); rintro e w1 ⟨rfl, hd1⟩)) | (go_at_call 38; refine (B _).mono ?_; rintro e w3 ⟨v, rfl, hv, hb⟩) | go_in)
    go_ret2
    have hc : ¬(0 ≤ r ∧ r ≤ 2097152 ∧ -r ≤ dz ∧ dz ≤ r) := fun h => h1 ⟨h.1, h.2.1⟩
    unfold flatV flatC
    rw [if_neg hc, if_neg hc]
    have hb0 := drawn_below (Below.refl w.heap.size w) hd1
    exact ⟨_, rfl, hv, hb0.trans (hb.mono hb0.size)⟩

def rangeC (t c : Int) : Int := if 0 ≤ t ∧ t ≤ 2000000 ∧ 1 ≤ c ∧ c ≤ 2000000 then 0 else 27
def rangeV (t c : Int) : Int := if 0 ≤ t ∧ t ≤ 2000000 ∧ 1 ≤ c ∧ c ≤ 2000000 then rnd (t * c) 2000000 else 0
theorem rnd_in (a b c : Int) (c0 : 0 < c) (h0 : -4611686018427387904 ≤ a * b) (h1 : a * b ≤ 4611686018427387904) : fit (rnd (a * b) c) = (rnd (a * b) c, true) := by
  obtain ⟨n0, n1⟩ := rnd_near (a * b) c c0
  generalize a * b = p at *
  generalize hr : rnd p c = r at *
  refine fit_in ?_ ?_
  · rcases Int.lt_or_le r (-9223372036854775808) with h | h
    · exfalso
      have := Int.mul_le_mul_of_nonneg_right (show r ≤ -9223372036854775809 by omega) (show 0 ≤ c by omega)
      omega
    · exact h
  · rcases Int.lt_or_le 9223372036854775807 r with h | h
    · exfalso
      have := Int.mul_le_mul_of_nonneg_right (show 9223372036854775808 ≤ r by omega) (show 0 ≤ c by omega)
      omega
    · exact h
theorem md_calls (a b c : Int) (a0 : -9223372036854775808 ≤ a) (a1 : a ≤ 9223372036854775807) (b0 : -9223372036854775808 ≤ b) (b1 : b ≤ 9223372036854775807) (c0 : 0 < c) (c1 : c ≤ 9223372036854775807)
    (h0 : -4611686018427387904 ≤ a * b) (h1 : a * b ≤ 4611686018427387904) (W : World) :
    Calls Tryd.prog 40 #[.int .i64 a, .int .i64 b, .int .i64 c] W fun e w' => e = .returned (.tuple #[.int .i64 (rnd (a * b) c), .bool true]) ∧ Drawn0 W w' := by
  refine fx_MulDiv.calls 16 a b c _ _ W ?_
  have := muldiv_tells 0 a b c a0 a1 b0 b1 c0 c1
  rw [rnd_in a b c c0 h0 h1] at this
  exact this
set_option maxRecDepth 100000 in
set_option maxHeartbeats 1000000 in
theorem Range_calls (t c : Int) (w : World) :
    Calls Tryd.prog 16 #[.int .i64 t, .int .i64 c] w fun e w' => ∃ v, e = .returned (.tuple #[.int .i64 (rangeV t c), v]) ∧ ErrIs op13 w' v (rangeC t c) ∧ Below w.heap.size w w' := by
  have B := bad_calls
  by_cases h1 : 0 ≤ t ∧ t ≤ 2000000
  · have W1 : ∀ W, Calls Tryd.prog 37 #[.int .i64 t, .int .i64 0, .int .i64 2000000] W fun e w' => e = .returned (.bool true) ∧ Drawn0 W w' := fun W => within_calls _ _ _ W _ (by simp [h1])
    by_cases h2 : 1 ≤ c ∧ c ≤ 2000000
    · have W2 : ∀ W, Calls Tryd.prog 37 #[.int .i64 c, .int .i64 1, .int .i64 2000000] W fun e w' => e = .returned (.bool true) ∧ Drawn0 W w' := fun W => within_calls _ _ _ W _ (by simp [h2])
      have p0 : 0 ≤ t * c := Int.mul_nonneg h1.1 (by omega)
      have p1 : t * c ≤ 2000000 * 2000000 := Int.mul_le_mul h1.2 h2.2 (by omega) (by omega)
      have M := fun W => md_calls t c 2000000 (by omega) (by omega) (by omega) (by omega) (by omega) (by omega) (by omega) (by omega) W
      go_enter Tryd.func16, Tryd.ntmps16
      go_wp2_with (first | (go_at_call 37; first | ((with_reducible refine (W1 _).mono ?_); rintro e w1 ⟨rfl, hd1⟩) | ((with_reducible refine (W2 _).mono ?_); rintro e w2 ⟨rfl, hd2⟩)) | (go_at_call 40; (with_reducible refine (M _).mono ?_); rintro e w3 ⟨rfl, hd3⟩) | go_in)
      go_ret2
      have hc : 0 ≤ t ∧ t ≤ 2000000 ∧ 1 ≤ c ∧ c ≤ 2000000 := ⟨h1.1, h1.2, h2⟩
      unfold rangeV rangeC
      rw [if_pos hc, if_pos hc]
      exact ⟨_, rfl, ErrIs.nil _ _, drawn_below (drawn_below (drawn_below (Below.refl _ _) hd1) hd2) hd3⟩
    · have W2 : ∀ W, Calls Tryd.prog 37 #[.int .i64 c, .int .i64 1, .int .i64 2000000] W fun e w' => e = .returned (.bool false) ∧ Drawn0 W w' := fun W => within_calls _ _ _ W _ (by simp; omega)
      go_enter Tryd.func16, Tryd.ntmps16
      go_wp2_with (first | (go_at_call 37; first | ((with_reducible refine (W1 _).mono ?_); rintro e w1 ⟨rfl, hd1⟩) | ((with_reducible refine (W2 _).mono ?_); rintro e w2 ⟨rfl, hd2⟩)) | (go_at_call 38; refine (B _).mono ?_; rintro e w3 ⟨v, rfl, hv, hb⟩) | go_in)
      go_ret2
      have hc : ¬(0 ≤ t ∧ t ≤ 2000000 ∧ 1 ≤ c ∧ c ≤ 2000000) := fun h => h2 h.2.2
      unfold rangeV rangeC
      rw [if_neg hc, if_neg hc]
      have hb0 := drawn_below (drawn_below (Below.refl w.heap.size w) hd1) hd2
      exact ⟨_, rfl, hv, hb0.trans (hb.mono hb0.size)⟩
  · have W1 : ∀ W, Calls Tryd.prog 37 #[.int .i64 t, .int .i64 0, .int .i64 2000000] W fun e w' => e = .returned (.bool false) ∧ Drawn0 W w' := fun W => within_calls _ _ _ W _ (by simp; omega)
    go_enter Tryd.func16, Tryd.ntmps16
    go_wp2_with (first | (go_at_call 37; ((with_reducible refine (W1 _).mono ?_); rintro e w1 ⟨rfl, hd1⟩)) | (go_at_call 38; refine (B _).mono ?_; rintro e w3 ⟨v, rfl, hv, hb⟩) | go_in)
    go_ret2
    have hc : ¬(0 ≤ t ∧ t ≤ 2000000 ∧ 1 ≤ c ∧ c ≤ 2000000) := fun h => h1 ⟨h.1, h.2.1⟩
    unfold rangeV rangeC
    rw [if_neg hc, if_neg hc]
    have hb0 := drawn_below (Below.refl w.heap.size w) hd1
    exact ⟨_, rfl, hv, hb0.trans (hb.mono hb0.size)⟩

theorem rnd_mono {p q c : Int} (c0 : 0 < c) (h : p ≤ q) : rnd p c ≤ rnd q c := by unfold rnd; exact Int.ediv_le_ediv (by omega) (by omega)
theorem rnd_le {p c m : Int} (c0 : 0 < c) (h : p ≤ m * c) : rnd p c ≤ m := by have := rnd_mono c0 h; rw [rnd_whole m c c0] at this; exact this
theorem rnd_ge {p c m : Int} (c0 : 0 < c) (h : m * c ≤ p) : m ≤ rnd p c := by have := rnd_mono c0 h; rw [rnd_whole m c c0] at this; exact this

def SpeedOk (t s z : Int) : Prop := -500 ≤ t ∧ t ≤ 4500 ∧ 0 ≤ s ∧ s ≤ 4500 ∧ 0 ≤ z ∧ z ≤ 1000000
instance (t s z : Int) : Decidable (SpeedOk t s z) := by unfold SpeedOk; infer_instance
def speedC (t s z : Int) : Int := if SpeedOk t s z then 0 else 27
def speedN (t s z : Int) : Int := 1449200 + 46 * t - rnd (t * t * 55) 10000 + rnd (t * t * t * 29) 100000000 + rnd ((13400 - t) * (s - 3500)) 1000 + rnd (16 * z) 1000
def speedV (t s z : Int) : Int := if SpeedOk t s z then speedN t s z else 0
set_option maxRecDepth 100000 in
set_option maxHeartbeats 4000000 in
theorem Speed_calls (t s z : Int) (w : World) :
    Calls Tryd.prog 17 #[.int .i64 t, .int .i64 s, .int .i64 z] w fun e w' => ∃ v, e = .returned (.tuple #[.int .i64 (speedV t s z), v]) ∧ ErrIs op13 w' v (speedC t s z) ∧ Below w.heap.size w w' := by
  have B := bad_calls
  by_cases ok : SpeedOk t s z
  · unfold speedV speedC
    rw [if_pos ok, if_pos ok]
    obtain ⟨t0, t1, s0, s1, z0, z1⟩ := ok
    have W1 : ∀ W, Calls Tryd.prog 37 #[.int .i64 t, .int .i64 (-500), .int .i64 4500] W fun e w' => e = .returned (.bool true) ∧ Drawn0 W w' := fun W => within_calls _ _ _ W _ (by simp; omega)
    have W2 : ∀ W, Calls Tryd.prog 37 #[.int .i64 s, .int .i64 0, .int .i64 4500] W fun e w' => e = .returned (.bool true) ∧ Drawn0 W w' := fun W => within_calls _ _ _ W _ (by simp; omega)
    have W3 : ∀ W, Calls Tryd.prog 37 #[.int .i64 z, .int .i64 0, .int .i64 1000000] W fun e w' => e = .returned (.bool true) ∧ Drawn0 W w' := fun W => within_calls _ _ _ W _ (by simp; omega)
    have q := sq_bound (x := t) (B := 4500) (by decide) (by omega) (by omega)
    have c0 : -(4500 * 4500 * 4500) ≤ t * t * t ∧ t * t * t ≤ 4500 * 4500 * 4500 := by
      generalize t * t = u at *
      rcases Int.lt_or_le t 0 with h | h
      · have := Int.mul_le_mul (show u ≤ 4500 * 4500 by omega) (show -t ≤ 4500 by omega) (show 0 ≤ -t by omega) (show (0 : Int) ≤ 4500 * 4500 by decide)
        have := Int.mul_nonneg q.1 (show 0 ≤ -t by omega)
        rw [Int.mul_neg] at *
        omega
      · have := Int.mul_le_mul (show u ≤ 4500 * 4500 by omega) (show t ≤ 4500 by omega) h (show (0 : Int) ≤ 4500 * 4500 by decide)
        have := Int.mul_nonneg q.1 h
        omega
    have d0 : -(13900 * 3500) ≤ (13400 - t) * (s - 3500) ∧ (13400 - t) * (s - 3500) ≤ 13900 * 1000 := by
      have h1 : (13400 - t) * (-3500) ≤ (13400 - t) * (s - 3500) := Int.mul_le_mul_of_nonneg_left (by omega) (by omega)
      have h2 : (13400 - t) * (s - 3500) ≤ (13400 - t) * 1000 := Int.mul_le_mul_of_nonneg_left (by omega) (by omega)
      generalize (13400 - t) * (s - 3500) = u at *
      omega
    have e1 : IntKind.i64.wrap (t * t) = t * t := i64id (by omega) (by omega)
    have e2 : IntKind.i64.wrap (t * t * t) = t * t * t := i64id (by omega) (by omega)
    have e3 : IntKind.i64.wrap (13400 - t) = 13400 - t := i64id (by omega) (by omega)
    have e4 : IntKind.i64.wrap (s - 3500) = s - 3500 := i64id (by omega) (by omega)
    have M1 := fun W => md_calls (t * t) 55 10000 (by omega) (by omega) (by omega) (by omega) (by omega) (by omega) (by omega) (by omega) W
    have M2 := fun W => md_calls (t * t * t) 29 100000000 (by omega) (by omega) (by omega) (by omega) (by omega) (by omega) (by omega) (by omega) W
    have M3 := fun W => md_calls (13400 - t) (s - 3500) 1000 (by omega) (by omega) (by omega) (by omega) (by omega) (by omega) (by omega) (by omega) W
    have M4 := fun W => md_calls 16 z 1000 (by omega) (by omega) (by omega) (by omega) (by omega) (by omega) (by omega) (by omega) W
    have a0 : 0 ≤ rnd (t * t * 55) 10000 := rnd_ge (by decide) (by omega)
    have a1 : rnd (t * t * 55) 10000 ≤ 200000 := rnd_le (by decide) (by omega)
    have b0 : -200000 ≤ rnd (t * t * t * 29) 100000000 := rnd_ge (by decide) (by omega)
    have b1 : rnd (t * t * t * 29) 100000000 ≤ 200000 := rnd_le (by decide) (by omega)
    have g0 : -200000 ≤ rnd ((13400 - t) * (s - 3500)) 1000 := rnd_ge (by decide) (by omega)
    have g1 : rnd ((13400 - t) * (s - 3500)) 1000 ≤ 200000 := rnd_le (by decide) (by omega)
    have k0 : 0 ≤ rnd (16 * z) 1000 := rnd_ge (by decide) (by omega)
    have k1 : rnd (16 * z) 1000 ≤ 200000 := rnd_le (by decide) (by omega)
    unfold speedN
    generalize rnd (t * t * 55) 10000 = r1 at *
    generalize rnd (t * t * t * 29) 100000000 = r2 at *
    generalize rnd ((13400 - t) * (s - 3500)) 1000 = r3 at *
    generalize rnd (16 * z) 1000 = r4 at *
    have f1 : IntKind.i64.wrap (46 * t) = 46 * t := i64id (by omega) (by omega)
    have f2 : IntKind.i64.wrap (1449200 + 46 * t) = 1449200 + 46 * t := i64id (by omega) (by omega)
    have f3 : IntKind.i64.wrap (1449200 + 46 * t - r1) = 1449200 + 46 * t - r1 := i64id (by omega) (by omega)
    have f4 : IntKind.i64.wrap (1449200 + 46 * t - r1 + r2) = 1449200 + 46 * t - r1 + r2 := i64id (by omega) (by omega)
    have f5 : IntKind.i64.wrap (1449200 + 46 * t - r1 + r2 + r3) = 1449200 + 46 * t - r1 + r2 + r3 := i64id (by omega) (by omega)
    have f6 : IntKind.i64.wrap (1449200 + 46 * t - r1 + r2 + r3 + r4) = 1449200 + 46 * t - r1 + r2 + r3 + r4 := i64id (by omega) (by omega)
    go_enter Tryd.func17, Tryd.ntmps17
    go_wp2_with (first | (go_at_call 37; first | ((with_reducible refine (W1 _).mono ?_); rintro e w1 ⟨rfl, hd1⟩) | ((with_reducible refine (W2 _).mono ?_); rintro e w2 ⟨rfl, hd2⟩) | ((with_reducible refine (W3 _).mono ?_); rintro e w3 ⟨rfl, hd3⟩)) | (go_at_call 40; first | ((with_reducible refine (M1 _).mono ?_); rintro e w4 ⟨rfl, hd4⟩) | ((with_reducible refine (M2 _).mono ?_); rintro e w5 ⟨rfl, hd5⟩) | ((with_reducible refine (M3 _).mono ?_); rintro e w6 ⟨rfl, hd6⟩) | ((with_reducible refine (M4 _).mono ?_); rintro e w7 ⟨rfl, hd7⟩)) | go_in)
    go_ret2
    exact ⟨_, rfl, ErrIs.nil _ _, drawn_below (drawn_below (drawn_below (drawn_below (drawn_below (drawn_below (drawn_below (Below.refl _ _) hd1) hd2) hd3) hd4) hd5) hd6) hd7⟩
  · unfold speedV speedC
    rw [if_neg ok, if_neg ok]
    have W1 : ∀ b, b = decide (-500 ≤ t ∧ t ≤ 4500) → ∀ W, Calls Tryd.prog 37 #[.int .i64 t, .int .i64 (-500), .int .i64 4500] W fun e w' => e = .returned (.bool b) ∧ Drawn0 W w' := fun b hb W => within_calls _ _ _ W _ hb
    have W2 : ∀ b, b = decide (0 ≤ s ∧ s ≤ 4500) → ∀ W, Calls Tryd.prog 37 #[.int .i64 s, .int .i64 0, .int .i64 4500] W fun e w' => e = .returned (.bool b) ∧ Drawn0 W w' := fun b hb W => within_calls _ _ _ W _ hb
    have W3 : ∀ b, b = decide (0 ≤ z ∧ z ≤ 1000000) → ∀ W, Calls Tryd.prog 37 #[.int .i64 z, .int .i64 0, .int .i64 1000000] W fun e w' => e = .returned (.bool b) ∧ Drawn0 W w' := fun b hb W => within_calls _ _ _ W _ hb
    by_cases h1 : -500 ≤ t ∧ t ≤ 4500
    · by_cases h2 : 0 ≤ s ∧ s ≤ 4500
      · have h3 : ¬(0 ≤ z ∧ z ≤ 1000000) := fun h => ok ⟨h1.1, h1.2, h2.1, h2.2, h.1, h.2⟩
        have V1 := W1 true (by simp [h1])
        have V2 := W2 true (by simp [h2])
        have V3 := W3 false (by simp; omega)
        go_enter Tryd.func17, Tryd.ntmps17
        go_wp2_with (first | (go_at_call 37; first | ((with_reducible refine (V1 _).mono ?_); rintro e w1 ⟨rfl, hd1⟩) | ((with_reducible refine (V2 _).mono ?_); rintro e w2 ⟨rfl, hd2⟩) | ((with_reducible refine (V3 _).mono ?_); rintro e w3 ⟨rfl, hd3⟩)) | (go_at_call 38; refine (B _).mono ?_; rintro e w4 ⟨v, rfl, hv, hb⟩) | go_in)
        go_ret2
        have hb0 := drawn_below (drawn_below (drawn_below (Below.refl w.heap.size w) hd1) hd2) hd3
        exact ⟨_, rfl, hv, hb0.trans (hb.mono hb0.size)⟩
      · have V1 := W1 true (by simp [h1])
        have V2 := W2 false (by simp; omega)
        go_enter Tryd.func17, Tryd.ntmps17
        go_wp2_with (first | (go_at_call 37; first | ((with_reducible refine (V1 _).mono ?_); rintro e w1 ⟨rfl, hd1⟩) | ((with_reducible refine (V2 _).mono ?_); rintro e w2 ⟨rfl, hd2⟩)) | (go_at_call 38; refine (B _).mono ?_; rintro e w4 ⟨v, rfl, hv, hb⟩) | go_in)
        go_ret2
        have hb0 := drawn_below (drawn_below (Below.refl w.heap.size w) hd1) hd2
        exact ⟨_, rfl, hv, hb0.trans (hb.mono hb0.size)⟩
    · have V1 := W1 false (by simp; omega)
      go_enter Tryd.func17, Tryd.ntmps17
      go_wp2_with (first | (go_at_call 37; ((with_reducible refine (V1 _).mono ?_); rintro e w1 ⟨rfl, hd1⟩)) | (go_at_call 38; refine (B _).mono ?_; rintro e w4 ⟨v, rfl, hv, hb⟩) | go_in)
      go_ret2
      have hb0 := drawn_below (Below.refl w.heap.size w) hd1
      exact ⟨_, rfl, hv, hb0.trans (hb.mono hb0.size)⟩

/-! ### the example that each statement asks first -/
set_option maxRecDepth 100000 in
set_option maxHeartbeats 1000000 in
theorem known_calls (w : World) (hg : Laid w) : Calls Tryd.prog 14 #[] w fun e w' => e = .returned (.bool true) ∧ Below w.heap.size w w' := by
  have F1 := fun W => Flat_calls 5 3 (by decide) (by decide) (by decide) (by decide) W
  have F2 := fun W => Flat_calls 3 5 (by decide) (by decide) (by decide) (by decide) W
  have R := fun W => Range_calls 2000000 1500000 W
  rw [show flatV 5 3 = 4 by decide +kernel, show flatC 5 3 = 0 by decide] at F1
  rw [show flatV 3 5 = 0 by decide +kernel, show flatC 3 5 = 27 by decide] at F2
  rw [show rangeV 2000000 1500000 = 1500000 by decide, show rangeC 2000000 1500000 = 0 by decide] at R
  go_enter Tryd.func14, Tryd.ntmps14
  go_wp2_with (first | (go_at_call 15; first | ((with_reducible refine (F1 _).mono ?_); rintro e w1 ⟨v1, rfl, h1, b1⟩; obtain rfl := h1.none) | ((with_reducible refine (F2 _).mono ?_); rintro e w3 ⟨v3, rfl, h3, b3⟩; have S := says13 27 w3 (((hg.below b1).below b2).below b3) h3)) | (go_at_call 16; (with_reducible refine (R _).mono ?_); rintro e w2 ⟨v2, rfl, h2, b2⟩; obtain rfl := h2.none) | (go_at_call 28; refine S.mono ?_; rintro e w4 ⟨rfl, b4⟩) | go_in)
  go_ret
  have hb1 := b1.trans (b2.mono b1.size)
  have hb2 := hb1.trans (b3.mono hb1.size)
  exact ⟨rfl, hb2.trans (b4.mono hb2.size)⟩
end Go.Proofs.YtaiolioggjknfaaDoor.YSound
