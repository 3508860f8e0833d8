/- Lean functions, contracts and lemmas that this claim needs. No condition. -/
import Derived.Test.YtpdljoalfmgfiaaBYWideTo
namespace Go.Proofs.Ytpdljoalfmgfiaa.YWide
open Go.RowKit Go.Proofs.Ytpdljoalfmgfiaa.YInv Go.Proofs.Ytpdljoalfmgfiaa.YErr Go.Proofs.Ytpdljoalfmgfiaa.YRef Go.Proofs.Ytpdljoalfmgfiaa.YBig Go.Proofs.Ytpdljoalfmgfiaa.YNum Go.Proofs.Ytpdljoalfmgfiaa.YBits Go.Proofs.Ytpdljoalfmgfiaa.XCarry Go.Proofs.Ytpdljoalfmgfiaa.QWd Go.Proofs.YtpdljoalfmgfiaaW.PrintWords Go.Proofs.YtpdljoalfmgfiaaW.PrintLast
set_option linter.unusedVariables false
set_option linter.unusedSimpArgs false
/-- The whole number that a reference's number is, where it is below 2^1023. -/
theorem To_c {v : Value} {x : Int} {w : World} (hv : IsBig w v x) (hm : ab x < 2 ^ 1023) : Calls Try.prog 31 #[v] w fun e w' => e = .returned (.tuple #[.agg (U (lim x)), .bool true]) ∧ Below w.heap.size w w' := by
  obtain ⟨A, c, rfl, hc, hV⟩ := hv
  have := To_n (sg x) hV hc (by unfold ab; split <;> omega) hm
  rw [ab_sg] at this
  exact this
theorem Neg_c {v : Value} {x : Int} {W : World} (hv : IsBig W v x) : Calls Try.prog 36 #[v] W fun e w' => ∃ r, e = .returned r ∧ IsBig w' r (-x) ∧ Below W.heap.size W w' := by
  obtain ⟨A, c, rfl, hc, hv⟩ := hv
  refine (leadlineref1_Neg.calls (sg x) (fun _ => True) A c (mag x) _ _ W hv Neg_tells).mono ?_
  rintro e w' ⟨v, rfl, hv, hb⟩
  exact ⟨_, rfl, big_of (w1 := w') hv, hb⟩
def LiesK (k : IntKind) (w : World) (A : Option Addr) (zs : List Int) : Prop := 0 < zs.length → ∃ b off, A = some ⟨b, off, none⟩ ∧ ∀ i, i < zs.length → w.cell? ⟨b, off + i, none⟩ = some (.int k (zs.getD i 0))
theorem LiesK.keep {k : IntKind} {w w' : World} {A : Option Addr} {l : List Int} (h : LiesK k w A l) (g : Below w.heap.size w w') : LiesK k w' A l := by
  intro hp
  obtain ⟨b, off, hA, hc⟩ := h hp
  exact ⟨b, off, hA, fun i hi => (g.cell (World.block_lt_of_cell? w ⟨b, off + i, none⟩ (hc i hi))).trans (hc i hi)⟩
theorem mask_le (x : Int) (s : Nat) (hx0 : 0 ≤ x) (hx : x < 18446744073709551616) (hs : s < 64) : 0 ≤ Go.bits .and .u64 x (2 ^ s - 1) ∧ Go.bits .and .u64 x (2 ^ s - 1) < 2 ^ s := by
  obtain ⟨a, rfl⟩ := Int.eq_ofNat_of_zero_le hx0
  have p : 2 ^ s < 18446744073709551616 := by
    have : 2 ^ s ≤ 2 ^ 63 := Nat.pow_le_pow_right (by decide) (by omega)
    omega
  have p1 : 1 ≤ 2 ^ s := Nat.one_le_two_pow
  have h := bits_and_u64_nat a (2 ^ s - 1) (by omega) (by omega)
  have e : (((2 ^ s - 1 : Nat)) : Int) = (2 : Int) ^ s - 1 := by rw [Int.natCast_sub p1]; simp
  rw [e] at h
  rw [Nat.and_two_pow_sub_one_eq_mod a s] at h
  rw [show ((a : Nat) : Int) = Int.ofNat a from rfl] at *
  rw [h]
  have q := Nat.mod_lt a (show 0 < 2 ^ s by omega)
  have : ((2 ^ s : Nat) : Int) = (2 : Int) ^ s := by simp
  omega
theorem two_le {a b : Nat} (h : a ≤ b) : (2 : Int) ^ a ≤ 2 ^ b := by
  have : ((2 ^ a : Nat) : Int) ≤ ((2 ^ b : Nat) : Int) := Int.ofNat_le.2 (Nat.pow_le_pow_right (by omega) h)
  simpa using this
theorem two_pos (a : Nat) : (1 : Int) ≤ 2 ^ a := two_le (Nat.zero_le a)
/-- One limb more, below so many bits. -/
theorem cut_step {o : List Int} {k m : Nat} (hd : Dig o) (h : pv o k < 2 ^ (min m (64 * k))) (h1 : m ≤ 64 * k → dg o k = 0) (h2 : ∀ s, m = 64 * k + s → s < 64 → dg o k < 2 ^ s) : pv o (k + 1) < 2 ^ (min m (64 * (k + 1))) := by
  have d := dg_in hd k
  have P := two_pos (64 * k)
  rw [pv, pw_two k]
  by_cases c1 : m ≤ 64 * k
  · rw [h1 c1, Int.zero_mul, Int.add_zero, show min m (64 * (k + 1)) = min m (64 * k) by omega]
    exact h
  · rw [show min m (64 * k) = 64 * k by omega] at h
    by_cases c2 : m < 64 * (k + 1)
    · obtain ⟨s, rfl⟩ := Nat.exists_eq_add_of_le (show 64 * k ≤ m by omega)
      have e := h2 s rfl (by omega)
      rw [show min (64 * k + s) (64 * (k + 1)) = 64 * k + s by omega, Int.pow_add, Int.mul_comm]
      have := Int.mul_le_mul_of_nonneg_left (show dg o k + 1 ≤ 2 ^ s by omega) (show (0 : Int) ≤ 2 ^ (64 * k) by omega)
      rw [Int.mul_add] at this
      omega
    · rw [show min m (64 * (k + 1)) = 64 * k + 64 by omega, Int.pow_add, Int.mul_comm]
      have := Int.mul_le_mul_of_nonneg_left (show dg o k + 1 ≤ 2 ^ 64 by omega) (show (0 : Int) ≤ 2 ^ (64 * k) by omega)
      rw [Int.mul_add] at this
      omega
set_option maxRecDepth 100000 in
set_option maxHeartbeats 16000000 in
theorem made_7 {A : Option Addr} {c : Nat} {l : List Int} {w : World} (hl : LiesK .u64 w A l) (hd : Dig l) (hlm : l.length ≤ 9223372036854775807) (m : Nat) (m1 : m ≤ 1000) (neg : Bool) : Calls Try.prog 11 #[.slice A l.length c, .int .u16 m, .bool neg, .int .u8 7] w fun e w' => ∃ x : Int, -(2 ^ m) < x ∧ x < 2 ^ m ∧ e = .returned (.agg (U (lim x))) ∧ Below w.heap.size w w' := by
  have k1 := (Blk.new w (U zeros) 27).alloc (.cells (U zeros) 27)
  have k2 : Blk ((w.alloc (.cells (U zeros) 27)).alloc (.cells (U zeros) 27)) (w.heap.size + 1) (U zeros) 27 := by
    have := Blk.new (w.alloc (.cells (U zeros) 27)) (U zeros) 27
    simpa using this
  have b0 : Below w.heap.size w ((w.alloc (.cells (U zeros) 27)).alloc (.cells (U zeros) 27)) := ((Below.refl _ _).alloc (Nat.le_refl _) _).alloc (by simp) _
  have r1 : (m : Int) % 1025 = (m : Int) := by omega
  have m2 : (m : Int) ≤ 1000 := by omega
  have m0 : 0 ≤ (m : Int) := by omega
  have lL : (l.length : Int) ≤ 9223372036854775807 := by omega
  go_enter Try.func11, Try.ntmps11
  go_wp2_with fail
  (try simp only [r1])
  clear r1
  go_loopw [11] (fun s11 wx => ∃ (k : Nat) (o : List Int), k ≤ 16 ∧ s11 = .int .i64 k ∧ o.length = 16 ∧ Dig o ∧ Blk wx w.heap.size (U zeros) 27 ∧ Blk wx (w.heap.size + 1) (U o) 27 ∧ Below w.heap.size w wx) (fun s11 _ => 16 - (intOf s11).toNat)
  case atStart => exact ⟨0, zeros, by omega, rfl, zeros_len, zeros_dig, k1, k2, b0⟩
  case round =>
    clear k1 k2 b0
    obtain ⟨k, o, hk, rfl, ho, hdo, kA, kO, hb⟩ := hrel
    by_cases hlt : k < 16 ∧ k < l.length
    · obtain ⟨h16, hll⟩ := hlt
      obtain ⟨bl, off, rfl, hc⟩ := (hl.keep hb) (by omega)
      have q0 := hc k hll
      have dk := dg_in hd k
      have ex : dg l k = l.getD k 0 := rfl
      rw [ex] at dk
      clear ex
      generalize l.getD k 0 = xk at q0 dk
      have cO : wr.cell? ⟨w.heap.size + 1, k, none⟩ = some (.int .u64 (dg o k)) := by rw [kO.cell, U_at (by omega)]
      have fO := kO.free k
      have kO2 := (kO.set k (.int .u64 xk))
      rw [U_set] at kO2
      have hdo2 : Dig (o.set k xk) := dig_set hdo k dk.1 dk.2
      have j1 : (k : Int) < 16 := by omega
      have j0 : 0 ≤ (k : Int) := by omega
      have j2 : (k : Int) < (l.length : Int) := by omega
      clear hc
      go_wp2_with fail
      exact ⟨⟨k + 1, _, by omega, by go_num, by rw [List.length_set]; exact ho, hdo2, kA.setOther (by simp) _, kO2, hb.setCell (by simp) _⟩, by simp [intOf]; omega⟩
    · have hq : (16 : Int) ≤ (k : Int) ∨ ((k : Int) < 16 ∧ decide (k < l.length) = false) := by
        rcases Nat.lt_or_ge k 16 with h | h
        · exact .inr ⟨by omega, decide_eq_false (fun h2 => hlt ⟨h, h2⟩)⟩
        · exact .inl (by omega)
      have j0 : 0 ≤ (k : Int) := by omega
      clear hlt
      rcases hq with hq | ⟨hq, hq2⟩
      all_goals
        go_wp2_with fail
        clear hq
        (try clear hq2)
        go_loopw [12] (fun s12 wx => ∃ (k : Nat) (o : List Int), k ≤ 16 ∧ s12 = .int .i64 k ∧ o.length = 16 ∧ Dig o ∧ pv o k < 2 ^ (min m (64 * k)) ∧ Blk wx w.heap.size (U zeros) 27 ∧ Blk wx (w.heap.size + 1) (U o) 27 ∧ Below w.heap.size w wx) (fun s12 _ => 16 - (intOf s12).toNat)
        case atStart => exact ⟨0, o, by omega, rfl, ho, hdo, by simp [pv], kA, kO, hb⟩
        case round =>
          clear kA kO hb hdo ho j0
          obtain ⟨k, o, hk, rfl, ho, hdo, hpv, kA, kO, hb⟩ := hrel
          have j0 : 0 ≤ (k : Int) := by omega
          by_cases hlt : k < 16
          · have j1 : (k : Int) < 16 := by omega
            have dk := dg_in hdo k
            have cO : wr.cell? ⟨w.heap.size + 1, k, none⟩ = some (.int .u64 (dg o k)) := by rw [kO.cell, U_at (by omega)]
            have fO := kO.free k
            by_cases c1 : m ≤ 64 * k
            · have j2 : (m : Int) ≤ 64 * (k : Int) := by omega
              have kO2 := (kO.set k (.int .u64 0))
              rw [U_set] at kO2
              have P2 := cut_step (m := m) (o := o.set k 0) (k := k) (dig_set hdo k (by omega) (by omega)) (by rw [pv_set_le _ _ _ _ (Nat.le_refl k)]; exact hpv) (fun _ => by rw [dg_set, if_pos ⟨rfl, by omega⟩]) (fun s h1 h2 => by rw [dg_set, if_pos ⟨rfl, by omega⟩]; have := two_pos s; omega)
              have HP := Lib.hid P2
              clear P2 hpv
              go_wp2_with fail
              exact ⟨⟨k + 1, _, by omega, by go_num, by rw [List.length_set]; exact ho, dig_set hdo k (by omega) (by omega), HP.out, kA.setOther (by simp) _, kO2, hb.setCell (by simp) _⟩, by simp [intOf]; omega⟩
            · by_cases c2 : m < 64 * k + 64
              · obtain ⟨s, hs⟩ := Nat.exists_eq_add_of_le (show 64 * k ≤ m by omega)
                have s64 : s < 64 := by omega
                have j2 : ¬ ((m : Int) ≤ 64 * (k : Int)) := by omega
                have j3 : ((m : Int) - 64 * (k : Int) < 64) := by omega
                have MK := mask_le (dg o k) s dk.1 dk.2 s64
                have P2 := cut_step (m := m) (o := o.set k (Go.bits .and .u64 (dg o k) (2 ^ s - 1))) (k := k) (dig_set hdo k MK.1 (by have : (2 : Int) ^ s ≤ 2 ^ 64 := two_le (by omega); omega)) (by rw [pv_set_le _ _ _ _ (Nat.le_refl k)]; exact hpv) (fun h => absurd h c1) (fun s' h1 h2 => by rw [dg_set, if_pos ⟨rfl, by omega⟩, show s' = s by omega]; exact MK.2)
                have HD : Dig (o.set k (Go.bits .and .u64 (dg o k) (2 ^ s - 1))) := dig_set hdo k MK.1 (by have : (2 : Int) ^ s ≤ 2 ^ 64 := two_le (by omega); omega)
                have kO2 := (kO.set k (.int .u64 (Go.bits .and .u64 (dg o k) (2 ^ s - 1))))
                rw [U_set] at kO2
                have HP := Lib.hid P2
                have HDh := Lib.hid HD
                have W1 : IntKind.i64.wrap (64 * (k : Int)) = 64 * (k : Int) := IntWalk.i64_in _ (by omega)
                have W2 : IntKind.i64.wrap ((m : Int) - 64 * (k : Int)) = (s : Int) := by rw [IntWalk.i64_in _ (by omega)]; omega
                have ps : (2 : Int) ^ s ≤ 2 ^ 63 := two_le (by omega)
                have ps1 := two_pos s
                have S1 : IntKind.u64.wrap (2 ^ s) = 2 ^ s := by rw [u64id (by omega) (by omega)]
                have S2 : IntKind.u64.wrap (2 ^ s - 1) = 2 ^ s - 1 := by rw [u64id (by omega) (by omega)]
                have sT : ((s : Nat) : Int).toNat = s := by omega
                clear P2 hpv hs MK ps ps1 HD
                go_wp2_with fail
                go_region
                clear W1 W2 S1 S2 sT cO fO
                go_wp2_with fail
                exact ⟨⟨k + 1, _, by omega, by go_num, by rw [List.length_set]; exact ho, HDh.out, HP.out, (kA.setOther (by simp) _).drew, kO2.drew, below_drewN (hb.setCell (by simp) _) 1⟩, by simp [intOf]; omega⟩
              · have j2 : ¬ ((m : Int) ≤ 64 * (k : Int)) := by omega
                have j3 : ¬ ((m : Int) - 64 * (k : Int) < 64) := by omega
                have P2 := cut_step (m := m) (o := o) (k := k) hdo hpv (fun h => absurd h c1) (fun s h1 h2 => absurd h1 (by omega))
                have HP := Lib.hid P2
                clear P2 hpv
                go_wp2_with fail
                exact ⟨⟨k + 1, _, by omega, by go_num, ho, hdo, HP.out, kA, kO, hb⟩, by simp [intOf]; omega⟩
          · have hk16 : k = 16 := by omega
            subst hk16
            have hx1 : val o < 2 ^ m := by
              have e : val o = pv o 16 := by unfold val; rw [ho]
              rw [e, show m = min m (64 * 16) by omega]
              exact hpv
            have hx0 := val_nonneg hdo
            have eo := lim_val ho hdo
            generalize val o = x at *
            subst eo
            have la := lim_len x
            have hm1 : x < 2 ^ 1000 := Int.lt_of_lt_of_le hx1 (two_le m1)
            have hi : InW x := by
              unfold InW
              rw [pw_two 16]
              have : (2 : Int) ^ (64 * 16) = 2 ^ 1000 * 2 ^ 24 := by rw [← Int.pow_add]
              rw [this]
              have := two_pos 1000
              omega
            have hab : ab (-x) < 2 ^ 1023 := by
              have e : ab (-x) = x := by unfold ab; split <;> omega
              rw [e]; exact Int.lt_of_lt_of_le hm1 (two_le (by omega))
            have FR := fun W => From_c hi W
            clear hpv hlt hdo hk j0 ho
            cases neg with
            | false =>
              go_wp2_with (first | (refine ldW kO la _ rfl rfl rfl ?_) | (refine stW kA zeros_len la _ _ rfl rfl rfl rfl ?_))
              exact bodyPost_ret (res1 Try.results11 _ rfl (put_ kA) la) rfl ⟨x, by omega, hx1, rfl, below_row hb (Nat.le_refl _) _⟩
            | true =>
              have lb := lim_len (-x)
              go_wp2_with (first | (refine ldW kO la _ rfl rfl rfl ?_))
              refine (FR _).mono ?_; rintro e w1 ⟨v1, rfl, i1, g1⟩
              replace kA := kA.keep g1
              replace kO := kO.keep g1
              replace hb := bb hb g1
              clear FR g1
              go_wp2_with fail
              refine (Neg_c i1).mono ?_; rintro e w2 ⟨v2, rfl, i2, g2⟩
              replace kA := kA.keep g2
              replace kO := kO.keep g2
              replace hb := bb hb g2
              clear i1 g2
              go_wp2_with fail
              refine (To_c i2 hab).mono ?_; rintro e w3 ⟨rfl, g3⟩
              replace kA := kA.keep g3
              replace hb := bb hb g3
              clear i2 g3 kO
              have kN := Blk.new w3 (U zeros) 27
              have kM := put_ (cs := U (lim (-x))) kN
              have kA2 : Blk ((w3.alloc (.cells (U zeros) 27)).setRow w3.heap.size (U (lim (-x)))) w.heap.size (U zeros) 27 := far_ (kA.alloc _) (Nat.ne_of_lt kA.lt)
              have hb2 := below_row (hb.alloc hb.size (.cells (U zeros) 27)) hb.size (U (lim (-x)))
              go_wp2_with (first | (refine stW kN zeros_len lb _ _ rfl rfl rfl rfl ?_) | (refine ldW kM lb _ rfl rfl rfl ?_) | (refine stW kA2 zeros_len lb _ _ rfl rfl rfl rfl ?_))
              exact bodyPost_ret (res1 Try.results11 _ rfl (put_ kA2) lb) rfl ⟨-x, by omega, by omega, rfl, below_row hb2 (Nat.le_refl _) _⟩
end Go.Proofs.Ytpdljoalfmgfiaa.YWide
