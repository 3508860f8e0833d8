/- Lean functions, contracts and lemmas that this claim needs. No condition. -/
import Derived.Test.YtpdljoalfmgfiaaZtYWideMade
namespace Go.Proofs.Ytpdljoalfmgfiaa.YWide
open Go.RowKit Go.Proofs.Ytpdljoalfmgfiaa.YInv Go.Proofs.Ytpdljoalfmgfiaa.YErr Go.Proofs.Ytpdljoalfmgfiaa.YRef Go.Proofs.Ytpdljoalfmgfiaa.YBig Go.Proofs.Ytpdljoalfmgfiaa.YNum Go.Proofs.Ytpdljoalfmgfiaa.YBits Go.Proofs.Ytpdljoalfmgfiaa.XCarry Go.Proofs.Ytpdljoalfmgfiaa.QWd Go.Proofs.YtpdljoalfmgfiaaW.PrintWords Go.Proofs.YtpdljoalfmgfiaaW.PrintLast
set_option linter.unusedVariables false
set_option linter.unusedSimpArgs false
theorem B16 : (18446744073709551616 : Int) ^ 16 = 2 * 2 ^ 1023 := by decide +kernel
theorem L1023_dig : Dig L1023 := by intro x hx; simp [L1023] at hx; omega
/-- Any sixteen limbs are a number's. -/
theorem any_lim {o : List Int} (ho : o.length = 16) (hd : Dig o) : ∃ x, InW x ∧ o = lim x := by
  have h := val_lt16 ho hd
  by_cases c : 2 * val o < 18446744073709551616 ^ 16
  · exact ⟨val o, by unfold InW; omega, lim_val ho hd⟩
  · refine ⟨val o - 18446744073709551616 ^ 16, by unfold InW; omega, ?_⟩
    refine lim_eq ho hd ?_
    omega
theorem pos_sg {P : Int} (h : 1 ≤ P) : sg P = false ∧ ab P = P := by
  refine ⟨by unfold sg; simp; omega, by unfold ab; rw [if_neg (by omega)]⟩
/-- What an opposite becomes: a number, or none. -/
theorem To_neg {v : Value} {x : Int} {w : World} (hi : InW x) (hv : IsBig w v (-x)) : Calls Try.prog 31 #[v] w fun e w' => ∃ y ok, InW y ∧ e = .returned (.tuple #[.agg (U (lim y)), .bool ok]) ∧ Below w.heap.size w w' := by
  have b := B16
  have hi' := hi
  unfold InW at hi'
  rw [b] at hi'
  by_cases c : ab (-x) < 2 ^ 1023
  · refine (To_c hv c).mono ?_
    rintro e w' ⟨rfl, g⟩
    refine ⟨-x, true, ?_, rfl, g⟩
    unfold InW
    rw [b]
    unfold ab at c
    split at c <;> omega
  · have e1 : -x = 2 ^ 1023 := by unfold ab at c; split at c <;> omega
    rw [e1] at hv
    obtain ⟨A, c', rfl, hc, hV⟩ := hv
    have p := two_pos' 1023
    obtain ⟨es, ea⟩ := pos_sg p
    have em : mag (2 ^ 1023) = limbs (2 ^ 1023) := by unfold mag; rw [ea]
    rw [em] at hV hc ⊢
    rw [es]
    refine (To_none false hV hc (Int.le_refl _) (by decide +kernel) (fun h => Bool.noConfusion h.1)).mono ?_
    rintro e w' ⟨rfl, g⟩
    exact ⟨0, false, inW_0, by rw [← zeros_lim], g⟩
set_option maxRecDepth 100000 in
set_option maxHeartbeats 16000000 in
theorem made_any {A : Option Addr} {c : Nat} {l : List Int} {w : World} (hl : LiesK .u64 w A l) (hd : Dig l) (hlm : l.length ≤ 9223372036854775807) (n : Int) (m : Nat) (n0 : 0 ≤ n) (n1 : n ≤ 65535) (r1 : n % 1025 = (m : Int)) (neg : Bool) (k : Int) (k0 : 0 ≤ k) (k1 : k ≤ 255) : Calls Try.prog 11 #[.slice A l.length c, .int .u16 n, .bool neg, .int .u8 k] w fun e w' => ∃ x : Int, InW x ∧ e = .returned (.agg (U (lim x))) ∧ Below w.heap.size w w' := by
  have kk1 := (Blk.new w (U zeros) 27).alloc (.cells (U zeros) 27)
  have kk2 : Blk ((w.alloc (.cells (U zeros) 27)).alloc (.cells (U zeros) 27)) (w.heap.size + 1) (U zeros) 27 := by
    have := Blk.new (w.alloc (.cells (U zeros) 27)) (U zeros) 27
    simpa using this
  have b0 : Below w.heap.size w ((w.alloc (.cells (U zeros) 27)).alloc (.cells (U zeros) 27)) := ((Below.refl _ _).alloc (Nat.le_refl _) _).alloc (by simp) _
  have m1 : m ≤ 1024 := by omega
  have m2 : (m : Int) ≤ 1024 := by omega
  have m0 : 0 ≤ (m : Int) := by omega
  have lL : (l.length : Int) ≤ 9223372036854775807 := by omega
  go_enter Try.func11, Try.ntmps11
  go_wp2_with fail
  (try simp only [r1])
  clear r1
  go_loopw [11] (fun s11 wx => ∃ (j : Nat) (o : List Int), j ≤ 16 ∧ s11 = .int .i64 j ∧ o.length = 16 ∧ Dig o ∧ Blk wx w.heap.size (U zeros) 27 ∧ Blk wx (w.heap.size + 1) (U o) 27 ∧ Below w.heap.size w wx) (fun s11 _ => 16 - (intOf s11).toNat)
  case atStart => exact ⟨0, zeros, by omega, rfl, zeros_len, zeros_dig, kk1, kk2, b0⟩
  case round =>
    clear kk1 kk2 b0
    obtain ⟨j, o, hk, rfl, ho, hdo, kA, kO, hb⟩ := hrel
    by_cases hlt : j < 16 ∧ j < l.length
    · obtain ⟨h16, hll⟩ := hlt
      obtain ⟨bl, off, rfl, hc⟩ := (hl.keep hb) (by omega)
      have q0 := hc j hll
      have dk := dg_in hd j
      have ex : dg l j = l.getD j 0 := rfl
      rw [ex] at dk
      clear ex
      generalize l.getD j 0 = xk at q0 dk
      have cO : wr.cell? ⟨w.heap.size + 1, j, none⟩ = some (.int .u64 (dg o j)) := by rw [kO.cell, U_at (by omega)]
      have fO := kO.free j
      have kO2 := (kO.set j (.int .u64 xk))
      rw [U_set] at kO2
      have hdo2 : Dig (o.set j xk) := dig_set hdo j dk.1 dk.2
      have j1 : (j : Int) < 16 := by omega
      have j0 : 0 ≤ (j : Int) := by omega
      have j2 : (j : Int) < (l.length : Int) := by omega
      clear hc
      go_wp2_with fail
      exact ⟨⟨j + 1, _, by omega, by go_num, by rw [List.length_set]; exact ho, hdo2, kA.setOther (by simp) _, kO2, hb.setCell (by simp) _⟩, by simp [intOf]; omega⟩
    · have hq : (16 : Int) ≤ (j : Int) ∨ ((j : Int) < 16 ∧ decide (j < l.length) = false) := by
        rcases Nat.lt_or_ge j 16 with h | h
        · exact .inr ⟨by omega, decide_eq_false (fun h2 => hlt ⟨h, h2⟩)⟩
        · exact .inl (by omega)
      have j0 : 0 ≤ (j : Int) := by omega
      clear hlt
      rcases hq with hq | ⟨hq, hq2⟩
      all_goals
        go_wp2_with fail
        clear hq
        (try clear hq2)
        go_loopw [12] (fun s12 wx => ∃ (j : Nat) (o : List Int), j ≤ 16 ∧ s12 = .int .i64 j ∧ o.length = 16 ∧ Dig o ∧ Blk wx w.heap.size (U zeros) 27 ∧ Blk wx (w.heap.size + 1) (U o) 27 ∧ Below w.heap.size w wx) (fun s12 _ => 16 - (intOf s12).toNat)
        case atStart => exact ⟨0, o, by omega, rfl, ho, hdo, kA, kO, hb⟩
        case round =>
          clear kA kO hb hdo ho j0
          obtain ⟨j, o, hk, rfl, ho, hdo, kA, kO, hb⟩ := hrel
          have j0 : 0 ≤ (j : Int) := by omega
          by_cases hlt : j < 16
          · have j1 : (j : Int) < 16 := by omega
            have dk := dg_in hdo j
            have cO : wr.cell? ⟨w.heap.size + 1, j, none⟩ = some (.int .u64 (dg o j)) := by rw [kO.cell, U_at (by omega)]
            have fO := kO.free j
            by_cases c1 : m ≤ 64 * j
            · have j2 : (m : Int) ≤ 64 * (j : Int) := by omega
              have kO2 := (kO.set j (.int .u64 0))
              rw [U_set] at kO2
              go_wp2_with fail
              exact ⟨⟨j + 1, _, by omega, by go_num, by rw [List.length_set]; exact ho, dig_set hdo j (by omega) (by omega), kA.setOther (by simp) _, kO2, hb.setCell (by simp) _⟩, by simp [intOf]; omega⟩
            · by_cases c2 : m < 64 * j + 64
              · obtain ⟨s, hs⟩ := Nat.exists_eq_add_of_le (show 64 * j ≤ m by omega)
                have s64 : s < 64 := by omega
                have j2 : ¬ ((m : Int) ≤ 64 * (j : Int)) := by omega
                have j3 : ((m : Int) - 64 * (j : Int) < 64) := by omega
                have MK := mask_le (dg o j) s dk.1 dk.2 s64
                have HD : Dig (o.set j (Go.bits .and .u64 (dg o j) (2 ^ s - 1))) := dig_set hdo j MK.1 (by have : (2 : Int) ^ s ≤ 2 ^ 64 := two_le (by omega); omega)
                have kO2 := (kO.set j (.int .u64 (Go.bits .and .u64 (dg o j) (2 ^ s - 1))))
                rw [U_set] at kO2
                have HDh := Lib.hid HD
                have W1 : IntKind.i64.wrap (64 * (j : Int)) = 64 * (j : Int) := IntWalk.i64_in _ (by omega)
                have W2 : IntKind.i64.wrap ((m : Int) - 64 * (j : Int)) = (s : Int) := by rw [IntWalk.i64_in _ (by omega)]; omega
                have ps : (2 : Int) ^ s ≤ 2 ^ 63 := two_le (by omega)
                have ps1 := two_pos s
                have S1 : IntKind.u64.wrap (2 ^ s) = 2 ^ s := by rw [u64id (by omega) (by omega)]
                have S2 : IntKind.u64.wrap (2 ^ s - 1) = 2 ^ s - 1 := by rw [u64id (by omega) (by omega)]
                have sT : ((s : Nat) : Int).toNat = s := by omega
                clear hs MK ps ps1 HD
                go_wp2_with fail
                go_region
                clear W1 W2 S1 S2 sT cO fO
                go_wp2_with fail
                exact ⟨⟨j + 1, _, by omega, by go_num, by rw [List.length_set]; exact ho, HDh.out, (kA.setOther (by simp) _).drew, kO2.drew, below_drewN (hb.setCell (by simp) _) 1⟩, by simp [intOf]; omega⟩
              · have j2 : ¬ ((m : Int) ≤ 64 * (j : Int)) := by omega
                have j3 : ¬ ((m : Int) - 64 * (j : Int) < 64) := by omega
                go_wp2_with fail
                exact ⟨⟨j + 1, _, by omega, by go_num, ho, hdo, kA, kO, hb⟩, by simp [intOf]; omega⟩
          · have hk16 : j = 16 := by omega
            subst hk16
            rcases (show k % 8 = 0 ∨ k % 8 = 1 ∨ k % 8 = 2 ∨ k % 8 = 3 ∨ 3 < k % 8 by omega) with e8 | e8 | e8 | e8 | e8
            · go_upto_region 29 with (refine stW (l := zeros) kO ho zeros_len _ _ rfl rfl rfl rfl ?_)
              have kP := put_ (cs := U zeros) kO
              have kB : Blk (wr.setRow (w.heap.size + 1) (U zeros)) w.heap.size (U zeros) 27 := far_ kA (by omega)
              have hc := below_row hb (show w.heap.size ≤ w.heap.size + 1 by omega) (U zeros)
              generalize wr.setRow (w.heap.size + 1) (U zeros) = wr2 at *
              obtain ⟨x, hi, ex⟩ := any_lim zeros_len zeros_dig
              have FR := fun W => From_c hi W
              have la := lim_len x
              rw [ex] at kP
              clear ex
              cases neg with
              | false =>
                go_wp2_with (first | (with_reducible refine ldW kP la _ (by with_unfolding_all rfl) (by with_unfolding_all rfl) (by with_unfolding_all rfl) ?_) | (with_reducible refine stW kB zeros_len la _ _ (by with_unfolding_all rfl) (by with_unfolding_all rfl) (by with_unfolding_all rfl) (by with_unfolding_all rfl) ?_))
                exact bodyPost_ret (res1 Try.results11 _ rfl (put_ kB) la) rfl ⟨x, hi, rfl, below_row hc (Nat.le_refl _) _⟩
              | true =>
                go_wp2_with (first | (with_reducible refine ldW kP la _ (by with_unfolding_all rfl) (by with_unfolding_all rfl) (by with_unfolding_all rfl) ?_))
                refine (FR _).mono ?_; rintro e w1 ⟨v1, rfl, i1, g1⟩
                have kA2 := Blk.keep kB g1
                have hb2 := bb hc g1
                clear FR g1
                go_wp2_with fail
                refine (Neg_c i1).mono ?_; rintro e w2 ⟨v2, rfl, i2, g2⟩
                replace kA2 := kA2.keep g2
                replace hb2 := bb hb2 g2
                clear i1 g2
                go_wp2_with fail
                refine (To_neg hi i2).mono ?_; rintro e w3 ⟨y, ok, iy, rfl, g3⟩
                replace kA2 := kA2.keep g3
                replace hb2 := bb hb2 g3
                clear i2 g3
                have lb := lim_len y
                have kN := Blk.new w3 (U zeros) 27
                have kM := put_ (cs := U (lim y)) kN
                have kA3 : Blk ((w3.alloc (.cells (U zeros) 27)).setRow w3.heap.size (U (lim y))) w.heap.size (U zeros) 27 := far_ (kA2.alloc _) (Nat.ne_of_lt kA2.lt)
                have hb3 := below_row (hb2.alloc hb2.size (.cells (U zeros) 27)) hb2.size (U (lim y))
                go_wp2_with (first | (refine stW kN zeros_len lb _ _ rfl rfl rfl rfl ?_) | (refine ldW kM lb _ rfl rfl rfl ?_) | (refine stW kA3 zeros_len lb _ _ rfl rfl rfl rfl ?_))
                exact bodyPost_ret (res1 Try.results11 _ rfl (put_ kA3) lb) rfl ⟨y, iy, rfl, below_row hb3 (Nat.le_refl _) _⟩
            · go_wp2_with fail
              go_loopw [13] (fun s13 wx => ∃ (j : Nat) (o : List Int), j ≤ 16 ∧ s13 = .int .i64 j ∧ o.length = 16 ∧ Dig o ∧ Blk wx w.heap.size (U zeros) 27 ∧ Blk wx (w.heap.size + 1) (U o) 27 ∧ Below w.heap.size w wx) (fun s13 _ => 16 - (intOf s13).toNat)
              case atStart => exact ⟨0, o, by omega, rfl, ho, hdo, kA, kO, hb⟩
              case round =>
                clear kA kO hb hdo ho
                obtain ⟨j, o, hj, rfl, ho, hdo, kA, kO, hb⟩ := hrel
                have j0 : 0 ≤ (j : Int) := by omega
                by_cases hlt : j < 16
                · have j1 : (j : Int) < 16 := by omega
                  have cO : wr.cell? ⟨w.heap.size + 1, j, none⟩ = some (.int .u64 (dg o j)) := by rw [kO.cell, U_at (by omega)]
                  have fO := kO.free j
                  have kO2 := (kO.set j (.int .u64 18446744073709551615))
                  rw [U_set] at kO2
                  go_wp2_with fail
                  exact ⟨⟨j + 1, _, by omega, by go_num, by rw [List.length_set]; exact ho, dig_set hdo j (by omega) (by omega), kA.setOther (by simp) _, kO2, hb.setCell (by simp) _⟩, by simp [intOf]; omega⟩
                · have hj16 : j = 16 := by omega
                  subst hj16
                  have cO : wr.cell? ⟨w.heap.size + 1, 15, none⟩ = some (.int .u64 (dg o 15)) := by rw [kO.cell, U_at (by omega)]
                  have fO := kO.free 15
                  go_upto_region 29 with fail
                  have kP := kO.set 15 (.int .u64 9223372036854775807)
                  rw [U_set] at kP
                  have kB := Blk.setOther kA (p := ⟨w.heap.size + 1, 15, none⟩) (by simp) (.int .u64 9223372036854775807)
                  have hc := hb.setCell (p := ⟨w.heap.size + 1, 15, none⟩) (by simp) (.int .u64 9223372036854775807)
                  have ho2 : (o.set 15 9223372036854775807).length = 16 := by rw [List.length_set]; exact ho
                  have hd2 : Dig (o.set 15 9223372036854775807) := dig_set hdo 15 (by omega) (by omega)
                  generalize wr.setCell ⟨w.heap.size + 1, 15, none⟩ (.int .u64 9223372036854775807) = wr2 at *
                  clear cO fO kO hlt
                  obtain ⟨x, hi, ex⟩ := any_lim ho2 hd2
                  have FR := fun W => From_c hi W
                  have la := lim_len x
                  rw [ex] at kP
                  clear ex
                  cases neg with
                  | false =>
                    go_wp2_with (first | (with_reducible refine ldW kP la _ (by with_unfolding_all rfl) (by with_unfolding_all rfl) (by with_unfolding_all rfl) ?_) | (with_reducible refine stW kB zeros_len la _ _ (by with_unfolding_all rfl) (by with_unfolding_all rfl) (by with_unfolding_all rfl) (by with_unfolding_all rfl) ?_))
                    exact bodyPost_ret (res1 Try.results11 _ rfl (put_ kB) la) rfl ⟨x, hi, rfl, below_row hc (Nat.le_refl _) _⟩
                  | true =>
                    go_wp2_with (first | (with_reducible refine ldW kP la _ (by with_unfolding_all rfl) (by with_unfolding_all rfl) (by with_unfolding_all rfl) ?_))
                    refine (FR _).mono ?_; rintro e w1 ⟨v1, rfl, i1, g1⟩
                    have kA2 := Blk.keep kB g1
                    have hb2 := bb hc g1
                    clear FR g1
                    go_wp2_with fail
                    refine (Neg_c i1).mono ?_; rintro e w2 ⟨v2, rfl, i2, g2⟩
                    replace kA2 := kA2.keep g2
                    replace hb2 := bb hb2 g2
                    clear i1 g2
                    go_wp2_with fail
                    refine (To_neg hi i2).mono ?_; rintro e w3 ⟨y, ok, iy, rfl, g3⟩
                    replace kA2 := kA2.keep g3
                    replace hb2 := bb hb2 g3
                    clear i2 g3
                    have lb := lim_len y
                    have kN := Blk.new w3 (U zeros) 27
                    have kM := put_ (cs := U (lim y)) kN
                    have kA3 : Blk ((w3.alloc (.cells (U zeros) 27)).setRow w3.heap.size (U (lim y))) w.heap.size (U zeros) 27 := far_ (kA2.alloc _) (Nat.ne_of_lt kA2.lt)
                    have hb3 := below_row (hb2.alloc hb2.size (.cells (U zeros) 27)) hb2.size (U (lim y))
                    go_wp2_with (first | (refine stW kN zeros_len lb _ _ rfl rfl rfl rfl ?_) | (refine ldW kM lb _ rfl rfl rfl ?_) | (refine stW kA3 zeros_len lb _ _ rfl rfl rfl rfl ?_))
                    exact bodyPost_ret (res1 Try.results11 _ rfl (put_ kA3) lb) rfl ⟨y, iy, rfl, below_row hb3 (Nat.le_refl _) _⟩
            · go_upto_region 29 with (refine stW (l := L1023) kO ho rfl _ _ rfl rfl rfl rfl ?_)
              have kP := put_ (cs := U L1023) kO
              have kB : Blk (wr.setRow (w.heap.size + 1) (U L1023)) w.heap.size (U zeros) 27 := far_ kA (by omega)
              have hc := below_row hb (show w.heap.size ≤ w.heap.size + 1 by omega) (U L1023)
              generalize wr.setRow (w.heap.size + 1) (U L1023) = wr2 at *
              obtain ⟨x, hi, ex⟩ := any_lim (show L1023.length = 16 from rfl) L1023_dig
              have FR := fun W => From_c hi W
              have la := lim_len x
              rw [ex] at kP
              clear ex
              cases neg with
              | false =>
                go_wp2_with (first | (with_reducible refine ldW kP la _ (by with_unfolding_all rfl) (by with_unfolding_all rfl) (by with_unfolding_all rfl) ?_) | (with_reducible refine stW kB zeros_len la _ _ (by with_unfolding_all rfl) (by with_unfolding_all rfl) (by with_unfolding_all rfl) (by with_unfolding_all rfl) ?_))
                exact bodyPost_ret (res1 Try.results11 _ rfl (put_ kB) la) rfl ⟨x, hi, rfl, below_row hc (Nat.le_refl _) _⟩
              | true =>
                go_wp2_with (first | (with_reducible refine ldW kP la _ (by with_unfolding_all rfl) (by with_unfolding_all rfl) (by with_unfolding_all rfl) ?_) | (with_reducible refine stW kB zeros_len la _ _ (by with_unfolding_all rfl) (by with_unfolding_all rfl) (by with_unfolding_all rfl) (by with_unfolding_all rfl) ?_))
                exact bodyPost_ret (res1 Try.results11 _ rfl (put_ kB) la) rfl ⟨x, hi, rfl, below_row hc (Nat.le_refl _) _⟩
            · by_cases hm0 : m = 0
              · subst hm0
                go_upto_region 29 with (refine stW (l := zeros) kO ho zeros_len _ _ rfl rfl rfl rfl ?_)
                have kP := put_ (cs := U zeros) kO
                have kB : Blk (wr.setRow (w.heap.size + 1) (U zeros)) w.heap.size (U zeros) 27 := far_ kA (by omega)
                have hc := below_row hb (show w.heap.size ≤ w.heap.size + 1 by omega) (U zeros)
                generalize wr.setRow (w.heap.size + 1) (U zeros) = wr2 at *
                obtain ⟨x, hi, ex⟩ := any_lim zeros_len zeros_dig
                have FR := fun W => From_c hi W
                have la := lim_len x
                rw [ex] at kP
                clear ex
                cases neg with
                | false =>
                  go_wp2_with (first | (with_reducible refine ldW kP la _ (by with_unfolding_all rfl) (by with_unfolding_all rfl) (by with_unfolding_all rfl) ?_) | (with_reducible refine stW kB zeros_len la _ _ (by with_unfolding_all rfl) (by with_unfolding_all rfl) (by with_unfolding_all rfl) (by with_unfolding_all rfl) ?_))
                  exact bodyPost_ret (res1 Try.results11 _ rfl (put_ kB) la) rfl ⟨x, hi, rfl, below_row hc (Nat.le_refl _) _⟩
                | true =>
                  go_wp2_with (first | (with_reducible refine ldW kP la _ (by with_unfolding_all rfl) (by with_unfolding_all rfl) (by with_unfolding_all rfl) ?_))
                  refine (FR _).mono ?_; rintro e w1 ⟨v1, rfl, i1, g1⟩
                  have kA2 := Blk.keep kB g1
                  have hb2 := bb hc g1
                  clear FR g1
                  go_wp2_with fail
                  refine (Neg_c i1).mono ?_; rintro e w2 ⟨v2, rfl, i2, g2⟩
                  replace kA2 := kA2.keep g2
                  replace hb2 := bb hb2 g2
                  clear i1 g2
                  go_wp2_with fail
                  refine (To_neg hi i2).mono ?_; rintro e w3 ⟨y, ok, iy, rfl, g3⟩
                  replace kA2 := kA2.keep g3
                  replace hb2 := bb hb2 g3
                  clear i2 g3
                  have lb := lim_len y
                  have kN := Blk.new w3 (U zeros) 27
                  have kM := put_ (cs := U (lim y)) kN
                  have kA3 : Blk ((w3.alloc (.cells (U zeros) 27)).setRow w3.heap.size (U (lim y))) w.heap.size (U zeros) 27 := far_ (kA2.alloc _) (Nat.ne_of_lt kA2.lt)
                  have hb3 := below_row (hb2.alloc hb2.size (.cells (U zeros) 27)) hb2.size (U (lim y))
                  go_wp2_with (first | (refine stW kN zeros_len lb _ _ rfl rfl rfl rfl ?_) | (refine ldW kM lb _ rfl rfl rfl ?_) | (refine stW kA3 zeros_len lb _ _ rfl rfl rfl rfl ?_))
                  exact bodyPost_ret (res1 Try.results11 _ rfl (put_ kA3) lb) rfl ⟨y, iy, rfl, below_row hb3 (Nat.le_refl _) _⟩
              · obtain ⟨i, rfl⟩ : ∃ i, m = i + 1 := ⟨m - 1, by omega⟩
                have em : ((i + 1 : Nat) : Int) - 1 = (i : Int) := by omega
                have i0 : 0 ≤ (i : Int) := by omega
                have i1 : (i : Int) < 1024 := by omega
                have mp : 0 < ((i + 1 : Nat) : Int) := by omega
                have q1 : ((i : Int) / 64) = ((i / 64 : Nat) : Int) := by omega
                have q2 : ((i : Int) % 64) = ((i % 64 : Nat) : Int) := by omega
                have sT : (((i % 64 : Nat) : Int)).toNat = i % 64 := by omega
                have sQ : (((i / 64 : Nat) : Int)).toNat = i / 64 := by omega
                have ps : (2 : Int) ^ (i % 64) ≤ 2 ^ 63 := two_le (by omega)
                have ps1 := two_pos (i % 64)
                have S1 : IntKind.u64.wrap (2 ^ (i % 64)) = 2 ^ (i % 64) := by rw [u64id (by omega) (by omega)]
                have hd2 : Dig (zeros.set (i / 64) (2 ^ (i % 64))) := dig_set zeros_dig _ (by omega) (by omega)
                have qb : ((i / 64 : Nat) : Int) < 16 := by omega
                have qc : 0 ≤ ((i / 64 : Nat) : Int) := by omega
                have qd : 0 ≤ ((i % 64 : Nat) : Int) := by omega
                have hq : i / 64 < 16 := by omega
                generalize i / 64 = iq at *
                generalize i % 64 = ir at *
                clear ps ps1
                go_upto_region 28 with (refine stW (l := zeros) kO ho zeros_len _ _ rfl rfl rfl rfl ?_)
                have kP := put_ (cs := U zeros) kO
                have kB : Blk (wr.setRow (w.heap.size + 1) (U zeros)) w.heap.size (U zeros) 27 := far_ kA (by omega)
                have hc := below_row hb (show w.heap.size ≤ w.heap.size + 1 by omega) (U zeros)
                generalize wr.setRow (w.heap.size + 1) (U zeros) = wr2 at *
                have cO : wr2.cell? ⟨w.heap.size + 1, iq, none⟩ = some (.int .u64 (dg zeros iq)) := by rw [kP.cell, U_at (by rw [zeros_len]; exact hq)]
                have fO := kP.free iq
                go_upto_region 29 with fail
                have kQ := kP.set iq (.int .u64 (2 ^ ir))
                rw [U_set] at kQ
                have kC := Blk.setOther kB (p := ⟨w.heap.size + 1, iq, none⟩) (by simp) (.int .u64 (2 ^ ir))
                have hc2 := hc.setCell (p := ⟨w.heap.size + 1, iq, none⟩) (by simp) (.int .u64 (2 ^ ir))
                have hl2 : (zeros.set iq (2 ^ ir)).length = 16 := by rw [List.length_set]; exact zeros_len
                generalize wr2.setCell ⟨w.heap.size + 1, iq, none⟩ (.int .u64 (2 ^ ir)) = wr3 at *
                clear cO fO kP
                obtain ⟨x, hi, ex⟩ := any_lim hl2 hd2
                have FR := fun W => From_c hi W
                have la := lim_len x
                rw [ex] at kQ
                clear ex
                cases neg with
                | false =>
                  go_wp2_with (first | (with_reducible refine ldW kQ la _ (by with_unfolding_all rfl) (by with_unfolding_all rfl) (by with_unfolding_all rfl) ?_) | (with_reducible refine stW kC zeros_len la _ _ (by with_unfolding_all rfl) (by with_unfolding_all rfl) (by with_unfolding_all rfl) (by with_unfolding_all rfl) ?_))
                  exact bodyPost_ret (res1 Try.results11 _ rfl (put_ kC) la) rfl ⟨x, hi, rfl, below_row hc2 (Nat.le_refl _) _⟩
                | true =>
                  go_wp2_with (first | (with_reducible refine ldW kQ la _ (by with_unfolding_all rfl) (by with_unfolding_all rfl) (by with_unfolding_all rfl) ?_))
                  refine (FR _).mono ?_; rintro e w1 ⟨v1, rfl, i1, g1⟩
                  have kA2 := Blk.keep kC g1
                  have hb2 := bb hc2 g1
                  clear FR g1
                  go_wp2_with fail
                  refine (Neg_c i1).mono ?_; rintro e w2 ⟨v2, rfl, i2, g2⟩
                  replace kA2 := kA2.keep g2
                  replace hb2 := bb hb2 g2
                  clear i1 g2
                  go_wp2_with fail
                  refine (To_neg hi i2).mono ?_; rintro e w3 ⟨y, ok, iy, rfl, g3⟩
                  replace kA2 := kA2.keep g3
                  replace hb2 := bb hb2 g3
                  clear i2 g3
                  have lb := lim_len y
                  have kN := Blk.new w3 (U zeros) 27
                  have kM := put_ (cs := U (lim y)) kN
                  have kA3 : Blk ((w3.alloc (.cells (U zeros) 27)).setRow w3.heap.size (U (lim y))) w.heap.size (U zeros) 27 := far_ (kA2.alloc _) (Nat.ne_of_lt kA2.lt)
                  have hb3 := below_row (hb2.alloc hb2.size (.cells (U zeros) 27)) hb2.size (U (lim y))
                  go_wp2_with (first | (refine stW kN zeros_len lb _ _ rfl rfl rfl rfl ?_) | (refine ldW kM lb _ rfl rfl rfl ?_) | (refine stW kA3 zeros_len lb _ _ rfl rfl rfl rfl ?_))
                  exact bodyPost_ret (res1 Try.results11 _ rfl (put_ kA3) lb) rfl ⟨y, iy, rfl, below_row hb3 (Nat.le_refl _) _⟩
            · have n0 : (k % 8 == 0) = false := by rw [beq_eq_false_iff_ne]; omega
              have n1 : (k % 8 == 1) = false := by rw [beq_eq_false_iff_ne]; omega
              have n2 : (k % 8 == 2) = false := by rw [beq_eq_false_iff_ne]; omega
              have n3 : (k % 8 == 3) = false := by rw [beq_eq_false_iff_ne]; omega
              have n4 : (k % 8 != 2) = true := by rw [bne_iff_ne]; omega
              go_upto_region 29 with fail
              obtain ⟨x, hi, ex⟩ := any_lim ho hdo
              have FR := fun W => From_c hi W
              have la := lim_len x
              rw [ex] at kO
              clear ex
              cases neg with
              | false =>
                go_wp2_with (first | (with_reducible refine ldW kO la _ (by with_unfolding_all rfl) (by with_unfolding_all rfl) (by with_unfolding_all rfl) ?_) | (with_reducible refine stW kA zeros_len la _ _ (by with_unfolding_all rfl) (by with_unfolding_all rfl) (by with_unfolding_all rfl) (by with_unfolding_all rfl) ?_))
                exact bodyPost_ret (res1 Try.results11 _ rfl (put_ kA) la) rfl ⟨x, hi, rfl, below_row hb (Nat.le_refl _) _⟩
              | true =>
                go_wp2_with (first | (with_reducible refine ldW kO la _ (by with_unfolding_all rfl) (by with_unfolding_all rfl) (by with_unfolding_all rfl) ?_))
                refine (FR _).mono ?_; rintro e w1 ⟨v1, rfl, i1, g1⟩
                have kA2 := Blk.keep kA g1
                have hb2 := bb hb g1
                clear FR g1
                go_wp2_with fail
                refine (Neg_c i1).mono ?_; rintro e w2 ⟨v2, rfl, i2, g2⟩
                replace kA2 := kA2.keep g2
                replace hb2 := bb hb2 g2
                clear i1 g2
                go_wp2_with fail
                refine (To_neg hi i2).mono ?_; rintro e w3 ⟨y, ok, iy, rfl, g3⟩
                replace kA2 := kA2.keep g3
                replace hb2 := bb hb2 g3
                clear i2 g3
                have lb := lim_len y
                have kN := Blk.new w3 (U zeros) 27
                have kM := put_ (cs := U (lim y)) kN
                have kA3 : Blk ((w3.alloc (.cells (U zeros) 27)).setRow w3.heap.size (U (lim y))) w.heap.size (U zeros) 27 := far_ (kA2.alloc _) (Nat.ne_of_lt kA2.lt)
                have hb3 := below_row (hb2.alloc hb2.size (.cells (U zeros) 27)) hb2.size (U (lim y))
                go_wp2_with (first | (refine stW kN zeros_len lb _ _ rfl rfl rfl rfl ?_) | (refine ldW kM lb _ rfl rfl rfl ?_) | (refine stW kA3 zeros_len lb _ _ rfl rfl rfl rfl ?_))
                exact bodyPost_ret (res1 Try.results11 _ rfl (put_ kA3) lb) rfl ⟨y, iy, rfl, below_row hb3 (Nat.le_refl _) _⟩
end Go.Proofs.Ytpdljoalfmgfiaa.YWide
