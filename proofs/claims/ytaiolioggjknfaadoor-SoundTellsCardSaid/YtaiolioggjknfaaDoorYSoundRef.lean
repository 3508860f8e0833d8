/- The reference's sound: what it tells. No condition but the numbers' kinds. -/
import Derived.Test.YtaiolioggjknfaaDoorYRefRoot
import Derived.Test.YtaiolioggjknfaaDoorYRefMd
import Derived.Test.YtaiolioggjknfaaDoorYSoundLaws
namespace Go.Proofs.YtaiolioggjknfaaDoor.YSound
open Go.RowKit Go.Extern.Stop Go.Stop Go.Extern Go.Proofs.YtaiolioggjknfaaDoor.QSn Go.Proofs.YtaiolioggjknfaaDoor.YBits Go.Proofs.YtaiolioggjknfaaDoor.YFx Go.Proofs.YtaiolioggjknfaaDoor.YErr Go.Proofs.YtaiolioggjknfaaDoorW.PrintWords Go.Proofs.YtaiolioggjknfaaDoorW.PrintLast
set_option linter.unusedVariables false
set_option linter.unusedSimpArgs false

theorem ref_flat (r dz : Int) : leadlineref10_Flat.f 2100 r dz = some (flatV r dz, flatC r dz) := by
  have bad : ∀ c, c = true → leadlineref10_Flat.j0 2100 r dz c = some (0, 27) := by
    intro c hc; subst hc; rw [leadlineref10_Flat.j0, if_pos rfl]
  unfold leadlineref10_Flat.f flatV flatC
  by_cases h1 : r < 0
  · rw [if_pos h1, if_neg (by omega), if_neg (by omega)]; exact bad _ rfl
  · rw [if_neg h1]
    by_cases h2 : r > 2097152
    · rw [if_pos h2, if_neg (by omega), if_neg (by omega)]; exact bad _ rfl
    · rw [if_neg h2]
      by_cases h3 : dz > r
      · rw [if_pos h3, if_neg (by omega), if_neg (by omega)]; exact bad _ rfl
      · rw [if_neg h3, wid (x := -r) (by omega) (by omega)]
        by_cases h4 : dz < -r
        · rw [if_neg (by omega), if_neg (by omega)]; exact bad _ (decide_eq_true h4)
        · rw [decide_eq_false h4, leadlineref10_Flat.j0, if_neg (by decide), if_pos (by omega), if_pos (by omega)]
          have b1 := sq_bound (x := r) (B := 2097152) (by decide) (by omega) (by omega)
          have b2 := sq_bound (x := dz) (B := 2097152) (by decide) (by omega) (by omega)
          have b3 : dz * dz ≤ r * r := by
            have a1 : ab dz ≤ r := by unfold ab; split <;> omega
            have a2 : 0 ≤ ab dz := by unfold ab; split <;> omega
            have := Int.mul_le_mul a1 a1 a2 (show 0 ≤ r by omega)
            have e : ab dz * ab dz = dz * dz := by
              unfold ab; split
              · exact Int.neg_mul_neg _ _
              · rfl
            omega
          generalize r * r = R at *
          generalize dz * dz = D at *
          rw [wid (x := R) (by omega) (by omega), wid (x := D) (by omega) (by omega), wid (x := R - D) (by omega) (by omega)]
          obtain ⟨_, s0, s1, s2, s3⟩ := sq_tells (R - D) (by omega) (by omega)
          rw [show 2099 = 99 + 2000 from rfl, YRef.Of_tells 99 (by omega) (by omega), Option.bind_some]
          simp only []
          rw [show 99 + 2000 = 34 + 2065 from rfl, YRef.Rooted_tells 34 (R - D) (sq (R - D)) (by omega) (by omega) s0 s2 s3, Option.bind_some, wid (by omega) (by omega)]
theorem rFlat_c (r dz : Int) (W : World) : Calls Tryd.prog 27 #[.int .i64 r, .int .i64 dz] W fun e w' => e = .returned (.tuple #[.int .i64 (flatV r dz), .int .i64 (flatC r dz)]) ∧ Below W.heap.size W w' :=
  leadlineref10_Flat.calls 2100 r dz _ _ W (ref_flat r dz)

set_option maxHeartbeats 1000000 in
theorem rSounded_c (t c : Int) (ht0 : -9223372036854775808 ≤ t) (ht1 : t ≤ 9223372036854775807) (hc0 : -9223372036854775808 ≤ c) (hc1 : c ≤ 9223372036854775807) (W : World) :
    Calls Tryd.prog 26 #[.int .i64 t, .int .i64 c] W fun e w' => e = .returned (.tuple #[.int .i64 (rangeV t c), .int .i64 (rangeC t c)]) ∧ Below W.heap.size W w' := by
  by_cases h : 0 ≤ t ∧ t ≤ 2000000 ∧ 1 ≤ c ∧ c ≤ 2000000
  · obtain ⟨e1, e2, r0, r1⟩ := range_ok t c h
    rw [e1, e2]
    have M := YBig.md_in t c 2000000 ht0 ht1 hc0 hc1 (by decide) (by decide) (by omega) (by omega)
    obtain ⟨h1, h2, h3, h4⟩ := h
    clear e1 e2
    generalize rnd (t * c) 2000000 = x at *
    go_enter Tryd.func26, Tryd.ntmps26
    go_wp2_with (first | (go_at_call 50; (with_reducible refine (M _).mono ?_); rintro e w1 ⟨rfl, g1⟩))
    go_ret2
    exact ⟨rfl, g1⟩
  · unfold rangeV rangeC
    rw [if_neg h, if_neg h]
    rcases (by omega : t < 0 ∨ (0 ≤ t ∧ t > 2000000) ∨ (0 ≤ t ∧ t ≤ 2000000 ∧ c < 1) ∨ (0 ≤ t ∧ t ≤ 2000000 ∧ 1 ≤ c ∧ c > 2000000)) with h | ⟨_, h⟩ | ⟨_, _, h⟩ | ⟨_, _, _, h⟩
    all_goals
      go_enter Tryd.func26, Tryd.ntmps26
      go_wp2
      go_ret2
      exact ⟨rfl, Below.refl _ _⟩

set_option maxRecDepth 100000 in
set_option maxHeartbeats 4000000 in
theorem rSpeed_c (t s z : Int) (W : World) :
    Calls Tryd.prog 25 #[.int .i64 t, .int .i64 s, .int .i64 z] W fun e w' => e = .returned (.tuple #[.int .i64 (speedV t s z), .int .i64 (speedC t s z)]) ∧ Below W.heap.size W w' := by
  by_cases ok : SpeedOk t s z
  · unfold speedV speedC
    rw [if_pos ok, if_pos ok]
    obtain ⟨t0, t1, s0, s1, z0, z1⟩ := ok
    have q := sq_bound (x := t) (B := 4500) (by decide) (by omega) (by omega)
    have c0 : -(4500 * 4500 * 4500) ≤ t * t * t ∧ t * t * t ≤ 4500 * 4500 * 4500 := by
      generalize t * t = u at *
      rcases Int.lt_or_le t 0 with h | h
      · have := Int.mul_le_mul (show u ≤ 4500 * 4500 by omega) (show -t ≤ 4500 by omega) (show 0 ≤ -t by omega) (show (0 : Int) ≤ 4500 * 4500 by decide)
        have := Int.mul_nonneg q.1 (show 0 ≤ -t by omega)
        rw [Int.mul_neg] at *
        omega
      · have := Int.mul_le_mul (show u ≤ 4500 * 4500 by omega) (show t ≤ 4500 by omega) h (show (0 : Int) ≤ 4500 * 4500 by decide)
        have := Int.mul_nonneg q.1 h
        omega
    have d0 : -(13900 * 3500) ≤ (13400 - t) * (s - 3500) ∧ (13400 - t) * (s - 3500) ≤ 13900 * 1000 := by
      have h1 : (13400 - t) * (-3500) ≤ (13400 - t) * (s - 3500) := Int.mul_le_mul_of_nonneg_left (by omega) (by omega)
      have h2 : (13400 - t) * (s - 3500) ≤ (13400 - t) * 1000 := Int.mul_le_mul_of_nonneg_left (by omega) (by omega)
      generalize (13400 - t) * (s - 3500) = u at *
      omega
    have e1 : IntKind.i64.wrap (t * t) = t * t := i64id (by omega) (by omega)
    have e2 : IntKind.i64.wrap (t * t * t) = t * t * t := i64id (by omega) (by omega)
    have e3 : IntKind.i64.wrap (13400 - t) = 13400 - t := i64id (by omega) (by omega)
    have e4 : IntKind.i64.wrap (s - 3500) = s - 3500 := i64id (by omega) (by omega)
    have a0 : 0 ≤ rnd (t * t * 55) 10000 := rnd_ge (by decide) (by omega)
    have a1 : rnd (t * t * 55) 10000 ≤ 200000 := rnd_le (by decide) (by omega)
    have b0 : -200000 ≤ rnd (t * t * t * 29) 100000000 := rnd_ge (by decide) (by omega)
    have b1 : rnd (t * t * t * 29) 100000000 ≤ 200000 := rnd_le (by decide) (by omega)
    have g0 : -200000 ≤ rnd ((13400 - t) * (s - 3500)) 1000 := rnd_ge (by decide) (by omega)
    have g1 : rnd ((13400 - t) * (s - 3500)) 1000 ≤ 200000 := rnd_le (by decide) (by omega)
    have k0 : 0 ≤ rnd (16 * z) 1000 := rnd_ge (by decide) (by omega)
    have k1 : rnd (16 * z) 1000 ≤ 200000 := rnd_le (by decide) (by omega)
    have M1 := fun W => YBig.md_in (t * t) 55 10000 (by omega) (by omega) (by omega) (by omega) (by omega) (by omega) (by omega) (by omega) W
    have M2 := fun W => YBig.md_in (t * t * t) 29 100000000 (by omega) (by omega) (by omega) (by omega) (by omega) (by omega) (by omega) (by omega) W
    have M3 := fun W => YBig.md_in (13400 - t) (s - 3500) 1000 (by omega) (by omega) (by omega) (by omega) (by omega) (by omega) (by omega) (by omega) W
    have M4 := fun W => YBig.md_in 16 z 1000 (by omega) (by omega) (by omega) (by omega) (by omega) (by omega) (by omega) (by omega) W
    unfold speedN
    generalize rnd (t * t * 55) 10000 = r1 at *
    generalize rnd (t * t * t * 29) 100000000 = r2 at *
    generalize rnd ((13400 - t) * (s - 3500)) 1000 = r3 at *
    generalize rnd (16 * z) 1000 = r4 at *
    have f1 : IntKind.i64.wrap (46 * t) = 46 * t := i64id (by omega) (by omega)
    have f2 : IntKind.i64.wrap (1449200 + 46 * t) = 1449200 + 46 * t := i64id (by omega) (by omega)
    have f3 : IntKind.i64.wrap (1449200 + 46 * t - r1) = 1449200 + 46 * t - r1 := i64id (by omega) (by omega)
    have f4 : IntKind.i64.wrap (1449200 + 46 * t - r1 + r2) = 1449200 + 46 * t - r1 + r2 := i64id (by omega) (by omega)
    have f5 : IntKind.i64.wrap (1449200 + 46 * t - r1 + r2 + r3) = 1449200 + 46 * t - r1 + r2 + r3 := i64id (by omega) (by omega)
    have f6 : IntKind.i64.wrap (1449200 + 46 * t - r1 + r2 + r3 + r4) = 1449200 + 46 * t - r1 + r2 + r3 + r4 := i64id (by omega) (by omega)
    go_enter Tryd.func25, Tryd.ntmps25
    go_wp2_with (first | (go_at_call 50; first | ((with_reducible refine (M1 _).mono ?_); rintro e w4 ⟨rfl, hd4⟩) | ((with_reducible refine (M2 _).mono ?_); rintro e w5 ⟨rfl, hd5⟩) | ((with_reducible refine (M3 _).mono ?_); rintro e w6 ⟨rfl, hd6⟩) | ((with_reducible refine (M4 _).mono ?_); rintro e w7 ⟨rfl, hd7⟩)))
    go_ret2
    exact ⟨rfl, YBig.below_both (YBig.below_both (YBig.below_both hd4 hd5) hd6) hd7⟩
  · unfold speedV speedC
    rw [if_neg ok, if_neg ok]
    unfold SpeedOk at ok
    rcases (by omega : t < -500 ∨ (-500 ≤ t ∧ t > 4500) ∨ (-500 ≤ t ∧ t ≤ 4500 ∧ s < 0) ∨ (-500 ≤ t ∧ t ≤ 4500 ∧ 0 ≤ s ∧ s > 4500) ∨ (-500 ≤ t ∧ t ≤ 4500 ∧ 0 ≤ s ∧ s ≤ 4500 ∧ z < 0) ∨ (-500 ≤ t ∧ t ≤ 4500 ∧ 0 ≤ s ∧ s ≤ 4500 ∧ 0 ≤ z ∧ z > 1000000)) with h | ⟨_, h⟩ | ⟨_, _, h⟩ | ⟨_, _, _, h⟩ | ⟨_, _, _, _, h⟩ | ⟨_, _, _, _, _, h⟩
    all_goals
      clear ok
      go_enter Tryd.func25, Tryd.ntmps25
      go_wp2
      go_ret2
      exact ⟨rfl, Below.refl _ _⟩

theorem tmod_in64 (x m : Int) (h0 : -9223372036854775808 ≤ x) (h1 : x ≤ 9223372036854775807) : -9223372036854775808 ≤ Int.tmod x m ∧ Int.tmod x m ≤ 9223372036854775807 := by
  have h : (Int.tmod x m).natAbs ≤ x.natAbs := by
    rw [Int.natAbs_tmod]; exact Nat.mod_le _ _
  have g : x < 0 → Int.tmod x m ≤ 0 := by
    intro hx
    rw [show x = -(-x) by omega, Int.neg_tmod]
    have := Int.tmod_nonneg m (show 0 ≤ -x by omega)
    omega
  have g' : 0 ≤ x → 0 ≤ Int.tmod x m := fun hx => Int.tmod_nonneg m hx
  omega
theorem says_same (n : Int) (v : Value) (W : World) (hg : Laid W) (h : ErrIs op13 W v n) : Calls Tryd.prog 28 #[v, .int .i64 n] W fun e w' => e = .returned (.bool true) ∧ Below W.heap.size W w' := by
  have := says13 n W hg h
  simpa using this
set_option maxRecDepth 100000 in
set_option maxHeartbeats 2000000 in
theorem SoundTells_calls (t s z mi sp r dz : Int) (small : Bool) (w : World) (hg : Laid w) (w0 : (Lit.int .i64 t).wf = true) (w1 : (Lit.int .i64 s).wf = true) (w2 : (Lit.int .i64 z).wf = true) (w3 : (Lit.int .i64 mi).wf = true)
    (w4 : (Lit.int .i64 sp).wf = true) (w5 : (Lit.int .i64 r).wf = true) (w6 : (Lit.int .i64 dz).wf = true) :
    Calls Tryd.prog 10 #[.int .i64 t, .int .i64 s, .int .i64 z, .int .i64 mi, .int .i64 sp, .int .i64 r, .int .i64 dz, .bool small] w fun e w' => e = .returned (.bool true) ∧ Below w.heap.size w w' := by
  have K := known_calls w hg
  have hm : -9223372036854775808 ≤ mi ∧ mi ≤ 9223372036854775807 := by simp [Lit.wf, IntKind.min, IntKind.max, IntKind.bits, IntKind.signed] at w3; omega
  have hs : -9223372036854775808 ≤ sp ∧ sp ≤ 9223372036854775807 := by simp [Lit.wf, IntKind.min, IntKind.max, IntKind.bits, IntKind.signed] at w4; omega
  have hr : -9223372036854775808 ≤ r ∧ r ≤ 9223372036854775807 := by simp [Lit.wf, IntKind.min, IntKind.max, IntKind.bits, IntKind.signed] at w5; omega
  have hz : -9223372036854775808 ≤ dz ∧ dz ≤ 9223372036854775807 := by simp [Lit.wf, IntKind.min, IntKind.max, IntKind.bits, IntKind.signed] at w6; omega
  clear w0 w1 w2 w3 w4 w5 w6
  cases small
  · have S1 := Speed_calls t s z
    have S2 := rSpeed_c t s z
    have R1 := Range_calls mi sp
    have R2 := rSounded_c mi sp hm.1 hm.2 hs.1 hs.2
    have F1 := Flat_calls r dz hr.1 hr.2 hz.1 hz.2
    have F2 := rFlat_c r dz
    generalize speedV t s z = a at *
    generalize speedC t s z = f at *
    generalize rangeV mi sp = c at *
    generalize rangeC mi sp = g at *
    generalize flatV r dz = x at *
    generalize flatC r dz = j at *
    have hb0 := Below.refl w.heap.size w
    go_enter Tryd.func10, Tryd.ntmps10
    go_wp2_with (first
      | (go_at_call 14; refine K.mono ?_; rintro e w1 ⟨rfl, k1⟩)
      | (go_at_call 17; (with_reducible refine (S1 _).mono ?_); rintro e w2 ⟨v2, rfl, h2, k2⟩; have q2 := YBig.below_both k1 k2)
      | (go_at_call 25; (with_reducible refine (S2 _).mono ?_); rintro e w3 ⟨rfl, k3⟩; have q3 := YBig.below_both q2 k3; have h3 := h2.below k3)
      | (go_at_call 16; (with_reducible refine (R1 _).mono ?_); rintro e w4 ⟨v4, rfl, h4, k4⟩; have q4 := YBig.below_both q3 k4; have h3' := h3.below k4)
      | (go_at_call 26; (with_reducible refine (R2 _).mono ?_); rintro e w5 ⟨rfl, k5⟩; have q5 := YBig.below_both q4 k5; have h5 := h4.below k5; have h3'' := h3'.below k5)
      | (go_at_call 15; (with_reducible refine (F1 _).mono ?_); rintro e w6 ⟨v6, rfl, h6, k6⟩; have q6 := YBig.below_both q5 k6; have h5' := h5.below k6; have h3''' := h3''.below k6)
      | (go_at_call 27; (with_reducible refine (F2 _).mono ?_); rintro e w7 ⟨rfl, k7⟩; have q7 := YBig.below_both q6 k7; have p6 := h6.below k7; have p4 := h5'.below k7; have p2 := h3'''.below k7
         have Z2 := says_same f v2 w7 (hg.below q7) p2)
      | (go_at_call 28; first
        | ((with_reducible refine Z2.mono ?_); rintro e w8 ⟨rfl, k8⟩; have q8 := YBig.below_both q7 k8; have Z4 := says_same g v4 w8 (hg.below q8) (p4.below k8))
        | ((with_reducible refine Z4.mono ?_); rintro e w9 ⟨rfl, k9⟩; have q9 := YBig.below_both q8 k9; have Z6 := says_same j v6 w9 (hg.below q9) ((p6.below k8).below k9))
        | ((with_reducible refine Z6.mono ?_); rintro e w10 ⟨rfl, k10⟩; have q10 := YBig.below_both q9 k10)))
    go_ret
    exact ⟨rfl, q10⟩
  · have hm' := tmod_in64 mi 2000100 hm.1 hm.2
    have hs' := tmod_in64 sp 2000100 hs.1 hs.2
    have hr' := tmod_in64 r 2097200 hr.1 hr.2
    have hz' := tmod_in64 dz 2097200 hz.1 hz.2
    have S1 := Speed_calls (Int.tmod t 5100) (Int.tmod s 4600) (Int.tmod z 1000100)
    have S2 := rSpeed_c (Int.tmod t 5100) (Int.tmod s 4600) (Int.tmod z 1000100)
    have R1 := Range_calls (Int.tmod mi 2000100) (Int.tmod sp 2000100)
    have R2 := rSounded_c (Int.tmod mi 2000100) (Int.tmod sp 2000100) hm'.1 hm'.2 hs'.1 hs'.2
    have F1 := Flat_calls (Int.tmod r 2097200) (Int.tmod dz 2097200) hr'.1 hr'.2 hz'.1 hz'.2
    have F2 := rFlat_c (Int.tmod r 2097200) (Int.tmod dz 2097200)
    generalize ht : Int.tmod t 5100 = t' at *
    generalize hss : Int.tmod s 4600 = s' at *
    generalize hzz : Int.tmod z 1000100 = z' at *
    generalize hmi : Int.tmod mi 2000100 = mi' at *
    generalize hsp : Int.tmod sp 2000100 = sp' at *
    generalize hrr : Int.tmod r 2097200 = r' at *
    generalize hdz : Int.tmod dz 2097200 = dz' at *
    generalize speedV t' s' z' = a at *
    generalize speedC t' s' z' = f at *
    generalize rangeV mi' sp' = c at *
    generalize rangeC mi' sp' = g at *
    generalize flatV r' dz' = x at *
    generalize flatC r' dz' = j at *
    have hb0 := Below.refl w.heap.size w
    go_enter Tryd.func10, Tryd.ntmps10
    go_wp2_with (first
      | (go_at_call 14; refine K.mono ?_; rintro e w1 ⟨rfl, k1⟩)
      | (go_at_call 17; (with_reducible refine (S1 _).mono ?_); rintro e w2 ⟨v2, rfl, h2, k2⟩; have q2 := YBig.below_both k1 k2)
      | (go_at_call 25; (with_reducible refine (S2 _).mono ?_); rintro e w3 ⟨rfl, k3⟩; have q3 := YBig.below_both q2 k3; have h3 := h2.below k3)
      | (go_at_call 16; (with_reducible refine (R1 _).mono ?_); rintro e w4 ⟨v4, rfl, h4, k4⟩; have q4 := YBig.below_both q3 k4; have h3' := h3.below k4)
      | (go_at_call 26; (with_reducible refine (R2 _).mono ?_); rintro e w5 ⟨rfl, k5⟩; have q5 := YBig.below_both q4 k5; have h5 := h4.below k5; have h3'' := h3'.below k5)
      | (go_at_call 15; (with_reducible refine (F1 _).mono ?_); rintro e w6 ⟨v6, rfl, h6, k6⟩; have q6 := YBig.below_both q5 k6; have h5' := h5.below k6; have h3''' := h3''.below k6)
      | (go_at_call 27; (with_reducible refine (F2 _).mono ?_); rintro e w7 ⟨rfl, k7⟩; have q7 := YBig.below_both q6 k7; have p6 := h6.below k7; have p4 := h5'.below k7; have p2 := h3'''.below k7
         have Z2 := says_same f v2 w7 (hg.below q7) p2)
      | (go_at_call 28; first
        | ((with_reducible refine Z2.mono ?_); rintro e w8 ⟨rfl, k8⟩; have q8 := YBig.below_both q7 k8; have Z4 := says_same g v4 w8 (hg.below q8) (p4.below k8))
        | ((with_reducible refine Z4.mono ?_); rintro e w9 ⟨rfl, k9⟩; have q9 := YBig.below_both q8 k9; have Z6 := says_same j v6 w9 (hg.below q9) ((p6.below k8).below k9))
        | ((with_reducible refine Z6.mono ?_); rintro e w10 ⟨rfl, k10⟩; have q10 := YBig.below_both q9 k10)))
    go_ret
    exact ⟨rfl, q10⟩
end Go.Proofs.YtaiolioggjknfaaDoor.YSound
