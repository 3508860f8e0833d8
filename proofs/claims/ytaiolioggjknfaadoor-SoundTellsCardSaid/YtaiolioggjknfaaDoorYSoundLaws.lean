/- The statements of layer 13 but SoundTells: the walks. Condition: errors.errorType holds its type's handle. -/
import Derived.Test.YtaiolioggjknfaaDoorYSound
namespace Go.Proofs.YtaiolioggjknfaaDoor.YSound
open Go.RowKit Go.Extern.Stop Go.Stop Go.Extern Go.Proofs.YtaiolioggjknfaaDoor.QSn Go.Proofs.YtaiolioggjknfaaDoor.YBits Go.Proofs.YtaiolioggjknfaaDoor.YFx Go.Proofs.YtaiolioggjknfaaDoor.YErr Go.Proofs.YtaiolioggjknfaaDoorW.PrintWords Go.Proofs.YtaiolioggjknfaaDoorW.PrintLast
set_option linter.unusedVariables false
set_option linter.unusedSimpArgs false

theorem range_ok (t c : Int) (h : 0 ≤ t ∧ t ≤ 2000000 ∧ 1 ≤ c ∧ c ≤ 2000000) : rangeV t c = rnd (t * c) 2000000 ∧ rangeC t c = 0 ∧ 0 ≤ rnd (t * c) 2000000 ∧ rnd (t * c) 2000000 ≤ 2000000 := by
  refine ⟨if_pos h, if_pos h, rnd_ge (by decide) ?_, rnd_le (by decide) ?_⟩
  · have := Int.mul_nonneg h.1 (show 0 ≤ c by omega); omega
  · exact Int.mul_le_mul h.2.1 h.2.2.2 (by omega) (by decide)
set_option maxRecDepth 100000 in
set_option maxHeartbeats 1000000 in
theorem SoundLine_calls (m mo sp : Int) (w : World) (hg : Laid w) (w0 : (Lit.int .u32 m).wf = true) (w1 : (Lit.int .u16 mo).wf = true) (w2 : (Lit.int .u32 sp).wf = true) :
    Calls Tryd.prog 4 #[.int .u32 m, .int .u16 mo, .int .u32 sp] w fun e w' => e = .returned (.bool true) ∧ Below w.heap.size w w' := by
  obtain ⟨m0, m1⟩ := wf_u32 w0
  obtain ⟨o0, o1⟩ := wf_u16 w1
  obtain ⟨p0, p1⟩ := wf_u32 w2
  have K := known_calls w hg
  obtain ⟨ea, ca, a0, a1⟩ := range_ok (m % 1900000) (sp % 1000000 + 1) (by omega)
  obtain ⟨eb, cb, b0, b1⟩ := range_ok (m % 1900000 + mo) (sp % 1000000 + 1) (by omega)
  obtain ⟨ed, cd, d0, d1⟩ := range_ok (m % 1900000) (2 * (sp % 1000000 + 1)) (by omega)
  have hab : rnd (m % 1900000 * (sp % 1000000 + 1)) 2000000 ≤ rnd ((m % 1900000 + mo) * (sp % 1000000 + 1)) 2000000 := rnd_mono (by decide) (Int.mul_le_mul_of_nonneg_right (by omega) (by omega))
  have na := rnd_near (m % 1900000 * (sp % 1000000 + 1)) 2000000 (by decide)
  have nd := rnd_near (m % 1900000 * (2 * (sp % 1000000 + 1))) 2000000 (by decide)
  have e2 : m % 1900000 * (2 * (sp % 1000000 + 1)) = 2 * (m % 1900000 * (sp % 1000000 + 1)) := Int.mul_left_comm ..
  have A := Range_calls (m % 1900000) (sp % 1000000 + 1)
  have B := Range_calls (m % 1900000 + mo) (sp % 1000000 + 1)
  have D := Range_calls (m % 1900000) (2 * (sp % 1000000 + 1))
  rw [ea, ca] at A
  rw [eb, cb] at B
  rw [ed, cd] at D
  rw [e2] at D d0 d1 nd
  generalize rnd ((m % 1900000 + mo) * (sp % 1000000 + 1)) 2000000 = y at *
  generalize m % 1900000 * (sp % 1000000 + 1) = p at *
  generalize rnd p 2000000 = x at *
  generalize rnd (2 * p) 2000000 = z at *
  go_enter Tryd.func4, Tryd.ntmps4
  go_wp2_with (first | (go_at_call 14; refine K.mono ?_; rintro e w1 ⟨rfl, k1⟩) | (go_at_call 16; first | ((with_reducible refine (A _).mono ?_); rintro e w2 ⟨v2, rfl, h2, k2⟩; obtain rfl := h2.none) | ((with_reducible refine (B _).mono ?_); rintro e w3 ⟨v3, rfl, h3, k3⟩; obtain rfl := h3.none) | ((with_reducible refine (D _).mono ?_); rintro e w4 ⟨v4, rfl, h4, k4⟩; obtain rfl := h4.none)) | go_in)
  go_ret
  have ez : decide (z - 2 * x ≤ 1) = true := decide_eq_true (by omega)
  have q1 := k1.trans (k2.mono k1.size)
  have q2 := q1.trans (k3.mono q1.size)
  exact ⟨congrArg (fun b => Ending.returned (.bool b)) ez, q2.trans (k4.mono q2.size)⟩

theorem flat_ok (r dz : Int) (h : 0 ≤ r ∧ r ≤ 2097152 ∧ -r ≤ dz ∧ dz ≤ r) : ∃ s, flatV r dz = s ∧ flatC r dz = 0 ∧ 0 ≤ s ∧ s ≤ r ∧ s * s ≤ r * r - dz * dz ∧ r * r - dz * dz < (s + 1) * (s + 1) := by
  have b1 := sq_bound (x := r) (B := 2097152) (by decide) (by omega) (by omega)
  have b2 := sq_bound (x := dz) (B := 2097152) (by decide) (by omega) (by omega)
  have b3 : dz * dz ≤ r * r := by
    have a1 : ab dz ≤ r := by unfold ab; split <;> omega
    have a2 : 0 ≤ ab dz := by unfold ab; split <;> omega
    have := Int.mul_le_mul a1 a1 a2 (show 0 ≤ r by omega)
    have e : ab dz * ab dz = dz * dz := by
      unfold ab; split
      · exact Int.neg_mul_neg _ _
      · rfl
    omega
  obtain ⟨_, s0, _, s1, s2⟩ := sq_tells (r * r - dz * dz) (by omega) (by omega)
  refine ⟨_, rfl, if_pos h, ?_⟩
  unfold flatV
  rw [if_pos h]
  refine ⟨s0, ?_, s1, s2⟩
  rcases Int.lt_or_le r (sq (r * r - dz * dz)) with h' | h'
  · exfalso
    have := Int.mul_le_mul (show r + 1 ≤ sq (r * r - dz * dz) by omega) (show r + 1 ≤ sq (r * r - dz * dz) by omega) (show 0 ≤ r + 1 by omega) s0
    have e : (r + 1) * (r + 1) = r * r + 2 * r + 1 := by rw [Int.add_mul, Int.mul_add, Int.mul_add]; omega
    omega
  · exact h'

theorem flat_neg (r dz : Int) (h : 0 ≤ r ∧ r ≤ 2097152 ∧ -r ≤ dz ∧ dz ≤ r) : flatV r (-dz) = flatV r dz ∧ flatC r (-dz) = 0 := by
  have h' : 0 ≤ r ∧ r ≤ 2097152 ∧ -r ≤ -dz ∧ -dz ≤ r := by omega
  refine ⟨?_, if_pos h'⟩
  unfold flatV
  rw [if_pos h, if_pos h', Int.neg_mul_neg]
set_option maxRecDepth 100000 in
set_option maxHeartbeats 1000000 in
theorem Slants_calls (m n a d : Int) (w : World) (hg : Laid w) (hm0 : 0 ≤ m) (hm1 : m ≤ 4294967295) (hn0 : 0 ≤ n) (hn1 : n ≤ 4294967295)
    (had : (n % 2097153 ≤ m % 2097153 ∧ a = m % 2097153 ∧ d = n % 2097153) ∨ (m % 2097153 < n % 2097153 ∧ a = n % 2097153 ∧ d = m % 2097153)) :
    Calls Tryd.prog 3 #[.int .u32 m, .int .u32 n] w fun e w' => e = .returned (.bool true) ∧ Below w.heap.size w w' := by
  have K := known_calls w hg
  have a0 : 0 ≤ d ∧ d ≤ a ∧ a ≤ 2097152 := by omega
  obtain ⟨s, es, cs, s0, s1, s2, s3⟩ := flat_ok a d (by omega)
  obtain ⟨en, cn⟩ := flat_neg a d (by omega)
  rw [es] at en
  have A := Flat_calls a d (by omega) (by omega) (by omega) (by omega)
  have B := Flat_calls a (-d) (by omega) (by omega) (by omega) (by omega)
  rw [es, cs] at A
  rw [en, cn] at B
  have b1 := sq_bound (x := a) (B := 2097152) (by decide) (by omega) (by omega)
  have b2 := sq_bound (x := d) (B := 2097152) (by decide) (by omega) (by omega)
  have b3 := sq_bound (x := s) (B := 2097152) (by decide) (by omega) (by omega)
  have b4 := sq_bound (x := s + 1) (B := 2097153) (by decide) (by omega) (by omega)
  rcases had with ⟨hc, rfl, rfl⟩ | ⟨hc, rfl, rfl⟩
  · have hf : decide (n % 2097153 > m % 2097153) = false := decide_eq_false (by omega)
    go_enter Tryd.func3, Tryd.ntmps3
    go_wp2_with (first | (go_at_call 14; refine K.mono ?_; rintro e w1 ⟨rfl, k1⟩) | (go_at_call 15; first | ((with_reducible refine (A _).mono ?_); rintro e w2 ⟨v2, rfl, h2, k2⟩; obtain rfl := h2.none) | ((with_reducible refine (B _).mono ?_); rintro e w3 ⟨v3, rfl, h3, k3⟩; obtain rfl := h3.none)) | go_in)
    go_ret
    have q1 := k1.trans (k2.mono k1.size)
    exact ⟨rfl, q1.trans (k3.mono q1.size)⟩
  · have hf : decide (n % 2097153 > m % 2097153) = true := decide_eq_true (by omega)
    go_enter Tryd.func3, Tryd.ntmps3
    go_wp2_with (first | (go_at_call 14; refine K.mono ?_; rintro e w1 ⟨rfl, k1⟩) | (go_at_call 15; first | ((with_reducible refine (A _).mono ?_); rintro e w2 ⟨v2, rfl, h2, k2⟩; obtain rfl := h2.none) | ((with_reducible refine (B _).mono ?_); rintro e w3 ⟨v3, rfl, h3, k3⟩; obtain rfl := h3.none)) | go_in)
    go_ret
    have q1 := k1.trans (k2.mono k1.size)
    exact ⟨rfl, q1.trans (k3.mono q1.size)⟩
theorem SoundSlants_calls (m n : Int) (w : World) (hg : Laid w) (w0 : (Lit.int .u32 m).wf = true) (w1 : (Lit.int .u32 n).wf = true) :
    Calls Tryd.prog 3 #[.int .u32 m, .int .u32 n] w fun e w' => e = .returned (.bool true) ∧ Below w.heap.size w w' := by
  obtain ⟨m0, m1⟩ := wf_u32 w0
  obtain ⟨n0, n1⟩ := wf_u32 w1
  by_cases h : n % 2097153 ≤ m % 2097153
  · exact Slants_calls m n _ _ w hg m0 m1 n0 n1 (.inl ⟨h, rfl, rfl⟩)
  · exact Slants_calls m n _ _ w hg m0 m1 n0 n1 (.inr ⟨by omega, rfl, rfl⟩)

theorem speed_ok (t s z : Int) (h : SpeedOk t s z) : speedV t s z = speedN t s z ∧ speedC t s z = 0 := ⟨if_pos h, if_pos h⟩
set_option maxRecDepth 100000 in
set_option maxHeartbeats 1000000 in
theorem SoundWater_calls (m n k : Int) (w : World) (hg : Laid w) (w0 : (Lit.int .u16 m).wf = true) (w1 : (Lit.int .u16 n).wf = true) (w2 : (Lit.int .u32 k).wf = true) :
    Calls Tryd.prog 5 #[.int .u16 m, .int .u16 n, .int .u32 k] w fun e w' => e = .returned (.bool true) ∧ Below w.heap.size w w' := by
  obtain ⟨m0, m1⟩ := wf_u16 w0
  obtain ⟨n0, n1⟩ := wf_u16 w1
  obtain ⟨k0, k1⟩ := wf_u32 w2
  have K := known_calls w hg
  have t0 : 0 ≤ m % 3000 ∧ m % 3000 < 3000 := by omega
  have s0 : 0 ≤ n % 4400 ∧ n % 4400 < 4400 := by omega
  have z0 : 0 ≤ k % 900000 ∧ k % 900000 < 900000 := by omega
  have A := Speed_calls (m % 3000) (n % 4400) (k % 900000)
  have B := Speed_calls (m % 3000) (n % 4400) (k % 900000 + 1000)
  have D := Speed_calls (m % 3000) (n % 4400 + 10) (k % 900000)
  obtain ⟨ea, ca⟩ := speed_ok (m % 3000) (n % 4400) (k % 900000) (by unfold SpeedOk; omega)
  obtain ⟨eb, cb⟩ := speed_ok (m % 3000) (n % 4400) (k % 900000 + 1000) (by unfold SpeedOk; omega)
  obtain ⟨ed, cd⟩ := speed_ok (m % 3000) (n % 4400 + 10) (k % 900000) (by unfold SpeedOk; omega)
  rw [ea, ca] at A
  rw [eb, cb] at B
  rw [ed, cd] at D
  have law : ∀ t s z : Int, 0 ≤ t → t < 3000 → 0 ≤ s → s < 4400 → 0 ≤ z → z < 900000 →
      1300000 < speedN t s z ∧ speedN t s z < 1700000 ∧ speedN t s z ≤ speedN t s (z + 1000) ∧ speedN t s z ≤ speedN t (s + 10) z := by
    intro t s z t0 t1 s0 s1 z0 z1
    have q := sq_bound (x := t) (B := 3000) (by decide) (by omega) (by omega)
    have c0 : 0 ≤ t * t * t ∧ t * t * t ≤ 3000 * 3000 * 3000 := by
      have := Int.mul_le_mul q.2 (show t ≤ 3000 by omega) t0 (show (0 : Int) ≤ 3000 * 3000 by decide)
      exact ⟨Int.mul_nonneg q.1 t0, by omega⟩
    have d0 : -(13400 * 3500) ≤ (13400 - t) * (s - 3500) ∧ (13400 - t) * (s - 3500) ≤ 13400 * 900 := by
      have h1 : (13400 - t) * (-3500) ≤ (13400 - t) * (s - 3500) := Int.mul_le_mul_of_nonneg_left (by omega) (by omega)
      have h2 : (13400 - t) * (s - 3500) ≤ (13400 - t) * 900 := Int.mul_le_mul_of_nonneg_left (by omega) (by omega)
      generalize (13400 - t) * (s - 3500) = u at *
      omega
    have a0 : 0 ≤ rnd (t * t * 55) 10000 := rnd_ge (by decide) (by omega)
    have a1 : rnd (t * t * 55) 10000 ≤ 50000 := rnd_le (by decide) (by omega)
    have b0 : 0 ≤ rnd (t * t * t * 29) 100000000 := rnd_ge (by decide) (by omega)
    have b1 : rnd (t * t * t * 29) 100000000 ≤ 8000 := rnd_le (by decide) (by omega)
    have g0 : -47000 ≤ rnd ((13400 - t) * (s - 3500)) 1000 := rnd_ge (by decide) (by omega)
    have g1 : rnd ((13400 - t) * (s - 3500)) 1000 ≤ 12100 := rnd_le (by decide) (by omega)
    have k0 : 0 ≤ rnd (16 * z) 1000 := rnd_ge (by decide) (by omega)
    have k1 : rnd (16 * z) 1000 ≤ 14400 := rnd_le (by decide) (by omega)
    have l1 : rnd (16 * z) 1000 ≤ rnd (16 * (z + 1000)) 1000 := rnd_mono (by decide) (by omega)
    have l2 : rnd ((13400 - t) * (s - 3500)) 1000 ≤ rnd ((13400 - t) * (s + 10 - 3500)) 1000 := rnd_mono (by decide) (Int.mul_le_mul_of_nonneg_left (by omega) (by omega))
    unfold speedN
    omega
  obtain ⟨l1, l2, l3, l4⟩ := law (m % 3000) (n % 4400) (k % 900000) t0.1 t0.2 s0.1 s0.2 z0.1 z0.2
  generalize speedN (m % 3000) (n % 4400 + 10) (k % 900000) = x3 at *
  generalize speedN (m % 3000) (n % 4400) (k % 900000 + 1000) = x2 at *
  generalize speedN (m % 3000) (n % 4400) (k % 900000) = x1 at *
  clear law
  go_enter Tryd.func5, Tryd.ntmps5
  go_wp2_with (first | (go_at_call 14; refine K.mono ?_; rintro e w1 ⟨rfl, k1⟩) | (go_at_call 17; first | ((with_reducible refine (A _).mono ?_); rintro e w2 ⟨v2, rfl, h2, k2⟩; obtain rfl := h2.none) | ((with_reducible refine (B _).mono ?_); rintro e w3 ⟨v3, rfl, h3, k3⟩; obtain rfl := h3.none) | ((with_reducible refine (D _).mono ?_); rintro e w4 ⟨v4, rfl, h4, k4⟩; obtain rfl := h4.none)) | go_in)
  go_ret
  have q1 := k1.trans (k2.mono k1.size)
  have q2 := q1.trans (k3.mono q1.size)
  have ez : decide (x1 < 1700000) = true := decide_eq_true l2
  first | exact ⟨rfl, q2.trans (k4.mono q2.size)⟩ | exact ⟨congrArg (fun b => Ending.returned (.bool b)) ez, q2.trans (k4.mono q2.size)⟩
end Go.Proofs.YtaiolioggjknfaaDoor.YSound
