/- Lean functions, contracts and lemmas that this claim needs. No condition. -/
import Derived.Test.YtpdljoalfmgfiaaBYWideW5
namespace Go.Proofs.Ytpdljoalfmgfiaa.YWide
open Go.RowKit Go.Proofs.Ytpdljoalfmgfiaa.YInv Go.Proofs.Ytpdljoalfmgfiaa.YErr Go.Proofs.Ytpdljoalfmgfiaa.YRef Go.Proofs.Ytpdljoalfmgfiaa.YNum Go.Proofs.Ytpdljoalfmgfiaa.YBits Go.Proofs.Ytpdljoalfmgfiaa.XCarry Go.Proofs.Ytpdljoalfmgfiaa.QWd Go.Proofs.YtpdljoalfmgfiaaW.PrintWords Go.Proofs.YtpdljoalfmgfiaaW.PrintLast
set_option linter.unusedVariables false
set_option linter.unusedSimpArgs false
theorem above {a b : List Int} {k : Nat} (h : ∀ j, k ≤ j → dg a j = dg b j) : ∀ d, pv a (k + d) - pv b (k + d) = pv a k - pv b k := by
  intro d
  induction d with
  | zero => rfl
  | succ d ih => rw [← Nat.add_assoc, pv, pv, h (k + d) (by omega)]; omega
theorem digit_lt {a b : List Int} {k : Nat} (ha : Dig a) (hb : Dig b) (la : a.length = 16) (lb : b.length = 16) (hk : k < 16) (h : ∀ j, k + 1 ≤ j → dg a j = dg b j) (hd : dg a k < dg b k) : val a < val b := by
  have A := above h (16 - (k + 1))
  have e1 : pv a (k + 1) = pv a k + dg a k * 18446744073709551616 ^ k := rfl
  have e2 : pv b (k + 1) = pv b k + dg b k * 18446744073709551616 ^ k := rfl
  rw [show k + 1 + (16 - (k + 1)) = 16 by omega, e1, e2] at A
  unfold val
  rw [la, lb]
  have a1 := pv_lt ha k
  have a2 := pv_nonneg hb k
  have P := pw_pos k
  have := Int.mul_le_mul_of_nonneg_right (show dg a k + 1 ≤ dg b k by omega) (show (0 : Int) ≤ 18446744073709551616 ^ k by omega)
  rw [Int.add_mul] at this
  omega
theorem lim_lt {x y : Int} (hx : InW x) (hy : InW y) (hs : decide (x < 0) = decide (y < 0)) (h : val (lim x) < val (lim y)) : x < y := by
  rw [val_lim, val_lim] at h
  rw [decide_eq_decide] at hs
  unfold InW at *
  omega
/-- Order. -/
def cm (x y : Int) : Int := if x = y then 0 else if x < y then -1 else 1
theorem ex_33 {C : Prop} {R : Value → Value → Value → Value → Value → Value → Value → Value → Value → Value → Value → Value → Value → Value → Value → Value → Value → Value → Value → Value → Value → Value → Value → Value → Value → Value → Value → Value → Value → Value → Value → Value → Value → Prop} (h : ∃ x0 x1 x2 x3 x4 x5 x6 x7 x8 x9 x10 x11 x12 x13 x14 x15 x16 x17 x18 x19 x20 x21 x22 x23 x24 x25 x26 x27 x28 x29 x30 x31 x32, R x0 x1 x2 x3 x4 x5 x6 x7 x8 x9 x10 x11 x12 x13 x14 x15 x16 x17 x18 x19 x20 x21 x22 x23 x24 x25 x26 x27 x28 x29 x30 x31 x32) (k : ∀ x0 x1 x2 x3 x4 x5 x6 x7 x8 x9 x10 x11 x12 x13 x14 x15 x16 x17 x18 x19 x20 x21 x22 x23 x24 x25 x26 x27 x28 x29 x30 x31 x32, R x0 x1 x2 x3 x4 x5 x6 x7 x8 x9 x10 x11 x12 x13 x14 x15 x16 x17 x18 x19 x20 x21 x22 x23 x24 x25 x26 x27 x28 x29 x30 x31 x32 → C) : C := by
  obtain ⟨x0, h⟩ := h
  obtain ⟨x1, h⟩ := h
  obtain ⟨x2, h⟩ := h
  obtain ⟨x3, h⟩ := h
  obtain ⟨x4, h⟩ := h
  obtain ⟨x5, h⟩ := h
  obtain ⟨x6, h⟩ := h
  obtain ⟨x7, h⟩ := h
  obtain ⟨x8, h⟩ := h
  obtain ⟨x9, h⟩ := h
  obtain ⟨x10, h⟩ := h
  obtain ⟨x11, h⟩ := h
  obtain ⟨x12, h⟩ := h
  obtain ⟨x13, h⟩ := h
  obtain ⟨x14, h⟩ := h
  obtain ⟨x15, h⟩ := h
  obtain ⟨x16, h⟩ := h
  obtain ⟨x17, h⟩ := h
  obtain ⟨x18, h⟩ := h
  obtain ⟨x19, h⟩ := h
  obtain ⟨x20, h⟩ := h
  obtain ⟨x21, h⟩ := h
  obtain ⟨x22, h⟩ := h
  obtain ⟨x23, h⟩ := h
  obtain ⟨x24, h⟩ := h
  obtain ⟨x25, h⟩ := h
  obtain ⟨x26, h⟩ := h
  obtain ⟨x27, h⟩ := h
  obtain ⟨x28, h⟩ := h
  obtain ⟨x29, h⟩ := h
  obtain ⟨x30, h⟩ := h
  obtain ⟨x31, h⟩ := h
  obtain ⟨x32, h⟩ := h
  exact k x0 x1 x2 x3 x4 x5 x6 x7 x8 x9 x10 x11 x12 x13 x14 x15 x16 x17 x18 x19 x20 x21 x22 x23 x24 x25 x26 x27 x28 x29 x30 x31 x32 h
set_option maxRecDepth 100000 in
set_option maxHeartbeats 16000000 in
theorem Cmp_c {x y : Int} (hx : InW x) (hy : InW y) (w : World) : Calls Try.prog 20 #[.agg (U (lim x)), .agg (U (lim y))] w fun e w' => e = .returned (.int .i64 (cm x y)) ∧ Below w.heap.size w w' := by
  have la := lim_len x
  have lb := lim_len y
  have da := lim_dig x
  have db := lim_dig y
  have Bx := fun W => below_c hx W
  have By := fun W => below_c hy W
  have k0 : Blk ((w.alloc (.cells (U (lim x)) 27)).alloc (.cells (U (lim y)) 27)) w.heap.size (U (lim x)) 27 := (Blk.new _ _ _).alloc _
  have k1 : Blk ((w.alloc (.cells (U (lim x)) 27)).alloc (.cells (U (lim y)) 27)) (w.heap.size + 1) (U (lim y)) 27 := by
    have := Blk.new (w.alloc (.cells (U (lim x)) 27)) (U (lim y)) 27
    simpa using this
  have b0 : Below w.heap.size w ((w.alloc (.cells (U (lim x)) 27)).alloc (.cells (U (lim y)) 27)) := ((Below.refl _ _).alloc (Nat.le_refl _) _).alloc (by simp) _
  have F : (decide (x < 0) = true ∧ decide (y < 0) = false → cm x y = -1) ∧ (decide (x < 0) = false ∧ decide (y < 0) = true → cm x y = 1) ∧ (decide (x < 0) = decide (y < 0) → (val (lim x) < val (lim y) → cm x y = -1) ∧ (val (lim y) < val (lim x) → cm x y = 1) ∧ (lim x = lim y → cm x y = 0)) := by
    unfold cm
    refine ⟨fun ⟨h1, h2⟩ => ?_, fun ⟨h1, h2⟩ => ?_, fun hs => ⟨fun h => ?_, fun h => ?_, fun h => ?_⟩⟩
    · have a := of_decide_eq_true h1
      have b := of_decide_eq_false h2
      rw [if_neg (by omega), if_pos (by omega)]
    · have a := of_decide_eq_false h1
      have b := of_decide_eq_true h2
      rw [if_neg (by omega), if_neg (by omega)]
    · have := lim_lt hx hy hs h
      rw [if_neg (by omega), if_pos this]
    · have := lim_lt hy hx hs.symm h
      rw [if_neg (by omega), if_neg (by omega)]
    · rw [if_pos (lim_inj hx hy h)]
  generalize decide (x < 0) = sx at *
  generalize decide (y < 0) = sy at *
  generalize cm x y = r at *
  go_enter Try.func20, Try.ntmps20
  go_wp2_with fail
  have N0 := k0.lt
  have N1 := k1.lt
  generalize ((w.alloc (.cells (U (lim x)) 27)).alloc (.cells (U (lim y)) 27)) = w2 at *
  cases sx <;> cases sy
  · refine region_steps (fun L a wx => ∃ (x0 x1 x2 x3 x4 x5 x6 x7 x8 x9 x10 x11 x12 x13 x14 x15 x16 x17 x18 x19 x20 x21 x22 x23 x24 x25 x26 x27 x28 x29 x30 x31 x32 : Value), a = { tmps := #[x0, x1, x2, x3, x4, x5, x6, x7, x8, x9, x10, x11, x12, x13, x14, x15, x16, x17, x18, x19, x20, x21, x22, x23, x24, x25, x26, x27, x28, x29, x30, x31, x32], defers := [] } ∧ x2 = .pointer (some ⟨w.heap.size, 0, none⟩) ∧ x3 = .pointer (some ⟨(w.heap.size + 1), 0, none⟩) ∧ x4 = .int .i64 0 ∧ (L 0 = true → x6 = .agg (U (lim x))) ∧ (L 1 = true → x7 = .bool false) ∧ (L 2 = true → x8 = .agg (U (lim y))) ∧ (L 3 = true → x9 = .bool false) ∧ (L 4 = true → x10 = .bool false) ∧ Blk wx w.heap.size (U (lim x)) 27 ∧ Blk wx (w.heap.size + 1) (U (lim y)) 27 ∧ Below w2.heap.size w2 wx) [0, 1, 2, 3, 4] (by kernel_rfl) (by kernel_rfl) (by kernel_rfl) ?start ?steps ?fin
    case start =>
      exact ⟨_, _, _, _, _, _, _, _, _, _, _, _, _, _, _, _, _, _, _, _, _, _, _, _, _, _, _, _, _, _, _, _, _, rfl, (by first | rfl | simp only [*]), (by first | rfl | simp only [*]), (by first | rfl | simp only [*]), fun h => absurd h (by decide), fun h => absurd h (by decide), fun h => absurd h (by decide), fun h => absurd h (by decide), fun h => absurd h (by decide), k0.drew, k1.drew, (Below.refl _ _).drew⟩
    case steps =>
      refine Steps.cons rfl (fun L a wx K hK hL hp hI => ?_) ?_
      · refine ex_33 hI (fun x0 x1 x2 x3 x4 x5 x6 x7 x8 x9 x10 x11 x12 x13 x14 x15 x16 x17 x18 x19 x20 x21 x22 x23 x24 x25 x26 x27 x28 x29 x30 x31 x32 hI => ?_)
        obtain ⟨rfl, P2, P3, P4, H0, H1, H2, H3, H4, K0, K1, B2⟩ := hI
        clear hp
        subst P2
        refine wanted_ (by rfl) ?_
        refine wp_load_row 27 _ rfl w.heap.size rfl 27 (U (lim x)) (0, 0) _ K0 Try.underlying27 rfl (ofLen la) ?_
        (try simp only [Act.put, List.setIfInBounds_toArray, List.set_cons_zero, List.set_cons_succ])
        exact hK.out _ _ ⟨_, _, _, _, _, _, _, _, _, _, _, _, _, _, _, _, _, _, _, _, _, _, _, _, _, _, _, _, _, _, _, _, _, rfl, rfl, P3, P4, fun _ => rfl, H1, H2, H3, H4, K0, K1, B2⟩
      refine Steps.cons rfl (fun L a wx K hK hL hp hI => ?_) ?_
      · refine ex_33 hI (fun x0 x1 x2 x3 x4 x5 x6 x7 x8 x9 x10 x11 x12 x13 x14 x15 x16 x17 x18 x19 x20 x21 x22 x23 x24 x25 x26 x27 x28 x29 x30 x31 x32 hI => ?_)
        obtain ⟨rfl, P2, P3, P4, H0, H1, H2, H3, H4, K0, K1, B2⟩ := hI
        have p0 : L 0 = true := hp ⟨0, .data⟩ (by simp) rfl
        have e0 := H0 p0
        clear hp
        subst e0
        refine wanted_ (by rfl) ?_
        refine goesK_ Try.func41 (by kernel_rfl) rfl #[.agg (U (lim x))] rfl (by simp [Act.eval]) ?_
        refine (Bx _).mono ?_
        rintro e w' ⟨rfl, g⟩
        refine ⟨_, rfl, ?_⟩
        (try simp only [Act.put, List.setIfInBounds_toArray, List.set_cons_zero, List.set_cons_succ])
        exact hK.out _ _ ⟨_, _, _, _, _, _, _, _, _, _, _, _, _, _, _, _, _, _, _, _, _, _, _, _, _, _, _, _, _, _, _, _, _, rfl, P2, P3, P4, fun _ => rfl, fun _ => rfl, H2, H3, H4, (Blk.keep K0 g), (Blk.keep K1 g), bb B2 g⟩
      refine Steps.cons rfl (fun L a wx K hK hL hp hI => ?_) ?_
      · refine ex_33 hI (fun x0 x1 x2 x3 x4 x5 x6 x7 x8 x9 x10 x11 x12 x13 x14 x15 x16 x17 x18 x19 x20 x21 x22 x23 x24 x25 x26 x27 x28 x29 x30 x31 x32 hI => ?_)
        obtain ⟨rfl, P2, P3, P4, H0, H1, H2, H3, H4, K0, K1, B2⟩ := hI
        clear hp
        subst P3
        refine wanted_ (by rfl) ?_
        refine wp_load_row 27 _ rfl (w.heap.size + 1) rfl 27 (U (lim y)) (0, 0) _ K1 Try.underlying27 rfl (ofLen lb) ?_
        (try simp only [Act.put, List.setIfInBounds_toArray, List.set_cons_zero, List.set_cons_succ])
        exact hK.out _ _ ⟨_, _, _, _, _, _, _, _, _, _, _, _, _, _, _, _, _, _, _, _, _, _, _, _, _, _, _, _, _, _, _, _, _, rfl, P2, rfl, P4, H0, H1, fun _ => rfl, H3, H4, K0, K1, B2⟩
      refine Steps.cons rfl (fun L a wx K hK hL hp hI => ?_) ?_
      · refine ex_33 hI (fun x0 x1 x2 x3 x4 x5 x6 x7 x8 x9 x10 x11 x12 x13 x14 x15 x16 x17 x18 x19 x20 x21 x22 x23 x24 x25 x26 x27 x28 x29 x30 x31 x32 hI => ?_)
        obtain ⟨rfl, P2, P3, P4, H0, H1, H2, H3, H4, K0, K1, B2⟩ := hI
        have p2 : L 2 = true := hp ⟨2, .data⟩ (by simp) rfl
        have e2 := H2 p2
        clear hp
        subst e2
        refine wanted_ (by rfl) ?_
        refine goesK_ Try.func41 (by kernel_rfl) rfl #[.agg (U (lim y))] rfl (by simp [Act.eval]) ?_
        refine (By _).mono ?_
        rintro e w' ⟨rfl, g⟩
        refine ⟨_, rfl, ?_⟩
        (try simp only [Act.put, List.setIfInBounds_toArray, List.set_cons_zero, List.set_cons_succ])
        exact hK.out _ _ ⟨_, _, _, _, _, _, _, _, _, _, _, _, _, _, _, _, _, _, _, _, _, _, _, _, _, _, _, _, _, _, _, _, _, rfl, P2, P3, P4, H0, H1, fun _ => rfl, fun _ => rfl, H4, (Blk.keep K0 g), (Blk.keep K1 g), bb B2 g⟩
      refine Steps.cons rfl (fun L a wx K hK hL hp hI => ?_) ?_
      · refine ex_33 hI (fun x0 x1 x2 x3 x4 x5 x6 x7 x8 x9 x10 x11 x12 x13 x14 x15 x16 x17 x18 x19 x20 x21 x22 x23 x24 x25 x26 x27 x28 x29 x30 x31 x32 hI => ?_)
        obtain ⟨rfl, P2, P3, P4, H0, H1, H2, H3, H4, K0, K1, B2⟩ := hI
        have p1 : L 1 = true := hp ⟨1, .data⟩ (by simp) rfl
        have e1 := H1 p1
        have p3 : L 3 = true := hp ⟨3, .data⟩ (by simp) rfl
        have e3 := H3 p3
        clear hp
        subst e1 e3
        go_simp
        exact hK.out _ _ ⟨_, _, _, _, _, _, _, _, _, _, _, _, _, _, _, _, _, _, _, _, _, _, _, _, _, _, _, _, _, _, _, _, _, rfl, (by first | exact P2 | rfl), (by first | exact P3 | rfl), (by first | exact P4 | rfl), H0, fun _ => rfl, H2, fun _ => rfl, fun _ => (by first | rfl | simp), K0, K1, B2⟩
      exact Steps.nil
    case fin =>
      intro L a wx hall hI
      refine ex_33 hI (fun x0 x1 x2 x3 x4 x5 x6 x7 x8 x9 x10 x11 x12 x13 x14 x15 x16 x17 x18 x19 x20 x21 x22 x23 x24 x25 x26 x27 x28 x29 x30 x31 x32 hI => ?_)
      obtain ⟨rfl, P2, P3, P4, H0, H1, H2, H3, H4, K0, K1, B2⟩ := hI
      have E0 := H0 (hall 0 (by decide))
      have E1 := H1 (hall 1 (by decide))
      have E2 := H2 (hall 2 (by decide))
      have E3 := H3 (hall 3 (by decide))
      have E4 := H4 (hall 4 (by decide))
      clear hall H0 H1 H2 H3 H4
      subst E0 E1 E2 E3 E4 P2 P3 P4
      have FF := Lib.hid (F.2.2 rfl)
      have bx := bb b0 B2
      clear F Bx By k0 k1 b0 N0 N1 B2 hx hy
      generalize lim x = a at *
      generalize lim y = b at *
      clear L hI
      go_wp2_with fail
      go_loopw [5] (fun s5 wv => ∃ k : Nat, k ≤ 16 ∧ s5 = .int .i64 ((k : Int) - 1) ∧ (∀ j, k ≤ j → dg a j = dg b j) ∧ Blk wv w.heap.size (U a) 27 ∧ Blk wv (w.heap.size + 1) (U b) 27 ∧ Below w.heap.size w wv) (fun s5 _ => (intOf s5 + 1).toNat)
      case atStart => exact ⟨16, Nat.le_refl _, rfl, fun j hj => by rw [dg_out (by omega), dg_out (by omega)], K0, K1, bx⟩
      case round =>
        clear K0 K1 bx
        obtain ⟨k, hk, rfl, hz, kA, kB, hb⟩ := hrel
        rcases k with _ | k
        · have e : a = b := by
            apply List.ext_getElem (by omega)
            intro i h1 h2
            have := hz i (by omega)
            simpa [dg, h1, h2] using this
          obtain rfl := FF.out.2.2 e
          clear hz FF
          go_wp2_with fail
          go_ret
          exact ⟨rfl, hb⟩
        · have HZ := Lib.hid hz
          have e1 : ((k + 1 : Nat) : Int) - 1 = (k : Int) := by omega
          rw [e1]
          clear hz e1
          have cA : wr.cell? ⟨w.heap.size, k, none⟩ = some (.int .u64 (dg a k)) := by rw [kA.cell, U_at (by omega)]
          have cB : wr.cell? ⟨w.heap.size + 1, k, none⟩ = some (.int .u64 (dg b k)) := by rw [kB.cell, U_at (by omega)]
          have j0 : (0 : Int) ≤ (k : Int) := by omega
          have j1 : (k : Int) < 16 := by omega
          rcases Int.lt_trichotomy (dg a k) (dg b k) with h | h | h
          · obtain rfl := FF.out.1 (digit_lt da db la lb (by omega) HZ.out h)
            clear FF
            go_wp2_with fail
            go_quiet (fail)
            go_wp2_with fail
            go_ret
            exact ⟨rfl, below_drewN hb _⟩
          · have HE := Lib.hid h
            have h1 : decide (dg a k < dg b k) = false := by rw [decide_eq_false_iff_not]; omega
            have h2 : decide (dg b k < dg a k) = false := by rw [decide_eq_false_iff_not]; omega
            clear h
            go_wp2_with fail
            go_quiet (fail)
            go_wp2_with fail
            go_quiet (fail)
            go_wp2_with fail
            go_roundw
            case rel => exact ⟨k, by omega, by go_num, fun j hj => (Nat.lt_or_ge k j).elim (fun h => HZ.out j h) (fun h => by rw [show j = k by omega]; exact HE.out), Blk.drewN kA _, Blk.drewN kB _, below_drewN hb _⟩
            case measure => (simp [intOf]; try omega)
          · obtain rfl := FF.out.2.1 (digit_lt db da lb la (by omega) (fun j hj => (HZ.out j hj).symm) h)
            have h1 : decide (dg a k < dg b k) = false := by rw [decide_eq_false_iff_not]; omega
            clear FF
            go_wp2_with fail
            go_quiet (fail)
            go_wp2_with fail
            go_quiet (fail)
            go_wp2_with fail
            go_ret
            exact ⟨rfl, below_drewN (below_drewN hb _) _⟩
  · refine region_steps (fun L a wx => ∃ (x0 x1 x2 x3 x4 x5 x6 x7 x8 x9 x10 x11 x12 x13 x14 x15 x16 x17 x18 x19 x20 x21 x22 x23 x24 x25 x26 x27 x28 x29 x30 x31 x32 : Value), a = { tmps := #[x0, x1, x2, x3, x4, x5, x6, x7, x8, x9, x10, x11, x12, x13, x14, x15, x16, x17, x18, x19, x20, x21, x22, x23, x24, x25, x26, x27, x28, x29, x30, x31, x32], defers := [] } ∧ x2 = .pointer (some ⟨w.heap.size, 0, none⟩) ∧ x3 = .pointer (some ⟨(w.heap.size + 1), 0, none⟩) ∧ x4 = .int .i64 0 ∧ (L 0 = true → x6 = .agg (U (lim x))) ∧ (L 1 = true → x7 = .bool false) ∧ (L 2 = true → x8 = .agg (U (lim y))) ∧ (L 3 = true → x9 = .bool true) ∧ (L 4 = true → x10 = .bool true) ∧ Blk wx w.heap.size (U (lim x)) 27 ∧ Blk wx (w.heap.size + 1) (U (lim y)) 27 ∧ Below w2.heap.size w2 wx) [0, 1, 2, 3, 4] (by kernel_rfl) (by kernel_rfl) (by kernel_rfl) ?start ?steps ?fin
    case start =>
      exact ⟨_, _, _, _, _, _, _, _, _, _, _, _, _, _, _, _, _, _, _, _, _, _, _, _, _, _, _, _, _, _, _, _, _, rfl, (by first | rfl | simp only [*]), (by first | rfl | simp only [*]), (by first | rfl | simp only [*]), fun h => absurd h (by decide), fun h => absurd h (by decide), fun h => absurd h (by decide), fun h => absurd h (by decide), fun h => absurd h (by decide), k0.drew, k1.drew, (Below.refl _ _).drew⟩
    case steps =>
      refine Steps.cons rfl (fun L a wx K hK hL hp hI => ?_) ?_
      · refine ex_33 hI (fun x0 x1 x2 x3 x4 x5 x6 x7 x8 x9 x10 x11 x12 x13 x14 x15 x16 x17 x18 x19 x20 x21 x22 x23 x24 x25 x26 x27 x28 x29 x30 x31 x32 hI => ?_)
        obtain ⟨rfl, P2, P3, P4, H0, H1, H2, H3, H4, K0, K1, B2⟩ := hI
        clear hp
        subst P2
        refine wanted_ (by rfl) ?_
        refine wp_load_row 27 _ rfl w.heap.size rfl 27 (U (lim x)) (0, 0) _ K0 Try.underlying27 rfl (ofLen la) ?_
        (try simp only [Act.put, List.setIfInBounds_toArray, List.set_cons_zero, List.set_cons_succ])
        exact hK.out _ _ ⟨_, _, _, _, _, _, _, _, _, _, _, _, _, _, _, _, _, _, _, _, _, _, _, _, _, _, _, _, _, _, _, _, _, rfl, rfl, P3, P4, fun _ => rfl, H1, H2, H3, H4, K0, K1, B2⟩
      refine Steps.cons rfl (fun L a wx K hK hL hp hI => ?_) ?_
      · refine ex_33 hI (fun x0 x1 x2 x3 x4 x5 x6 x7 x8 x9 x10 x11 x12 x13 x14 x15 x16 x17 x18 x19 x20 x21 x22 x23 x24 x25 x26 x27 x28 x29 x30 x31 x32 hI => ?_)
        obtain ⟨rfl, P2, P3, P4, H0, H1, H2, H3, H4, K0, K1, B2⟩ := hI
        have p0 : L 0 = true := hp ⟨0, .data⟩ (by simp) rfl
        have e0 := H0 p0
        clear hp
        subst e0
        refine wanted_ (by rfl) ?_
        refine goesK_ Try.func41 (by kernel_rfl) rfl #[.agg (U (lim x))] rfl (by simp [Act.eval]) ?_
        refine (Bx _).mono ?_
        rintro e w' ⟨rfl, g⟩
        refine ⟨_, rfl, ?_⟩
        (try simp only [Act.put, List.setIfInBounds_toArray, List.set_cons_zero, List.set_cons_succ])
        exact hK.out _ _ ⟨_, _, _, _, _, _, _, _, _, _, _, _, _, _, _, _, _, _, _, _, _, _, _, _, _, _, _, _, _, _, _, _, _, rfl, P2, P3, P4, fun _ => rfl, fun _ => rfl, H2, H3, H4, (Blk.keep K0 g), (Blk.keep K1 g), bb B2 g⟩
      refine Steps.cons rfl (fun L a wx K hK hL hp hI => ?_) ?_
      · refine ex_33 hI (fun x0 x1 x2 x3 x4 x5 x6 x7 x8 x9 x10 x11 x12 x13 x14 x15 x16 x17 x18 x19 x20 x21 x22 x23 x24 x25 x26 x27 x28 x29 x30 x31 x32 hI => ?_)
        obtain ⟨rfl, P2, P3, P4, H0, H1, H2, H3, H4, K0, K1, B2⟩ := hI
        clear hp
        subst P3
        refine wanted_ (by rfl) ?_
        refine wp_load_row 27 _ rfl (w.heap.size + 1) rfl 27 (U (lim y)) (0, 0) _ K1 Try.underlying27 rfl (ofLen lb) ?_
        (try simp only [Act.put, List.setIfInBounds_toArray, List.set_cons_zero, List.set_cons_succ])
        exact hK.out _ _ ⟨_, _, _, _, _, _, _, _, _, _, _, _, _, _, _, _, _, _, _, _, _, _, _, _, _, _, _, _, _, _, _, _, _, rfl, P2, rfl, P4, H0, H1, fun _ => rfl, H3, H4, K0, K1, B2⟩
      refine Steps.cons rfl (fun L a wx K hK hL hp hI => ?_) ?_
      · refine ex_33 hI (fun x0 x1 x2 x3 x4 x5 x6 x7 x8 x9 x10 x11 x12 x13 x14 x15 x16 x17 x18 x19 x20 x21 x22 x23 x24 x25 x26 x27 x28 x29 x30 x31 x32 hI => ?_)
        obtain ⟨rfl, P2, P3, P4, H0, H1, H2, H3, H4, K0, K1, B2⟩ := hI
        have p2 : L 2 = true := hp ⟨2, .data⟩ (by simp) rfl
        have e2 := H2 p2
        clear hp
        subst e2
        refine wanted_ (by rfl) ?_
        refine goesK_ Try.func41 (by kernel_rfl) rfl #[.agg (U (lim y))] rfl (by simp [Act.eval]) ?_
        refine (By _).mono ?_
        rintro e w' ⟨rfl, g⟩
        refine ⟨_, rfl, ?_⟩
        (try simp only [Act.put, List.setIfInBounds_toArray, List.set_cons_zero, List.set_cons_succ])
        exact hK.out _ _ ⟨_, _, _, _, _, _, _, _, _, _, _, _, _, _, _, _, _, _, _, _, _, _, _, _, _, _, _, _, _, _, _, _, _, rfl, P2, P3, P4, H0, H1, fun _ => rfl, fun _ => rfl, H4, (Blk.keep K0 g), (Blk.keep K1 g), bb B2 g⟩
      refine Steps.cons rfl (fun L a wx K hK hL hp hI => ?_) ?_
      · refine ex_33 hI (fun x0 x1 x2 x3 x4 x5 x6 x7 x8 x9 x10 x11 x12 x13 x14 x15 x16 x17 x18 x19 x20 x21 x22 x23 x24 x25 x26 x27 x28 x29 x30 x31 x32 hI => ?_)
        obtain ⟨rfl, P2, P3, P4, H0, H1, H2, H3, H4, K0, K1, B2⟩ := hI
        have p1 : L 1 = true := hp ⟨1, .data⟩ (by simp) rfl
        have e1 := H1 p1
        have p3 : L 3 = true := hp ⟨3, .data⟩ (by simp) rfl
        have e3 := H3 p3
        clear hp
        subst e1 e3
        go_simp
        exact hK.out _ _ ⟨_, _, _, _, _, _, _, _, _, _, _, _, _, _, _, _, _, _, _, _, _, _, _, _, _, _, _, _, _, _, _, _, _, rfl, (by first | exact P2 | rfl), (by first | exact P3 | rfl), (by first | exact P4 | rfl), H0, fun _ => rfl, H2, fun _ => rfl, fun _ => (by first | rfl | simp), K0, K1, B2⟩
      exact Steps.nil
    case fin =>
      intro L a wx hall hI
      refine ex_33 hI (fun x0 x1 x2 x3 x4 x5 x6 x7 x8 x9 x10 x11 x12 x13 x14 x15 x16 x17 x18 x19 x20 x21 x22 x23 x24 x25 x26 x27 x28 x29 x30 x31 x32 hI => ?_)
      obtain ⟨rfl, P2, P3, P4, H0, H1, H2, H3, H4, K0, K1, B2⟩ := hI
      have E0 := H0 (hall 0 (by decide))
      have E1 := H1 (hall 1 (by decide))
      have E2 := H2 (hall 2 (by decide))
      have E3 := H3 (hall 3 (by decide))
      have E4 := H4 (hall 4 (by decide))
      clear hall H0 H1 H2 H3 H4
      subst E0 E1 E2 E3 E4 P2 P3 P4
      obtain rfl := F.2.1 ⟨rfl, rfl⟩
      clear F
      go_wp2_with (refine ldW K0 la _ rfl rfl rfl ?_)
      refine (Bx _).mono ?_; rintro e w3 ⟨rfl, g3⟩
      go_wp2_with fail
      go_ret
      exact ⟨rfl, bb (bb b0 B2) g3⟩
  · refine region_steps (fun L a wx => ∃ (x0 x1 x2 x3 x4 x5 x6 x7 x8 x9 x10 x11 x12 x13 x14 x15 x16 x17 x18 x19 x20 x21 x22 x23 x24 x25 x26 x27 x28 x29 x30 x31 x32 : Value), a = { tmps := #[x0, x1, x2, x3, x4, x5, x6, x7, x8, x9, x10, x11, x12, x13, x14, x15, x16, x17, x18, x19, x20, x21, x22, x23, x24, x25, x26, x27, x28, x29, x30, x31, x32], defers := [] } ∧ x2 = .pointer (some ⟨w.heap.size, 0, none⟩) ∧ x3 = .pointer (some ⟨(w.heap.size + 1), 0, none⟩) ∧ x4 = .int .i64 0 ∧ (L 0 = true → x6 = .agg (U (lim x))) ∧ (L 1 = true → x7 = .bool true) ∧ (L 2 = true → x8 = .agg (U (lim y))) ∧ (L 3 = true → x9 = .bool false) ∧ (L 4 = true → x10 = .bool true) ∧ Blk wx w.heap.size (U (lim x)) 27 ∧ Blk wx (w.heap.size + 1) (U (lim y)) 27 ∧ Below w2.heap.size w2 wx) [0, 1, 2, 3, 4] (by kernel_rfl) (by kernel_rfl) (by kernel_rfl) ?start ?steps ?fin
    case start =>
      exact ⟨_, _, _, _, _, _, _, _, _, _, _, _, _, _, _, _, _, _, _, _, _, _, _, _, _, _, _, _, _, _, _, _, _, rfl, (by first | rfl | simp only [*]), (by first | rfl | simp only [*]), (by first | rfl | simp only [*]), fun h => absurd h (by decide), fun h => absurd h (by decide), fun h => absurd h (by decide), fun h => absurd h (by decide), fun h => absurd h (by decide), k0.drew, k1.drew, (Below.refl _ _).drew⟩
    case steps =>
      refine Steps.cons rfl (fun L a wx K hK hL hp hI => ?_) ?_
      · refine ex_33 hI (fun x0 x1 x2 x3 x4 x5 x6 x7 x8 x9 x10 x11 x12 x13 x14 x15 x16 x17 x18 x19 x20 x21 x22 x23 x24 x25 x26 x27 x28 x29 x30 x31 x32 hI => ?_)
        obtain ⟨rfl, P2, P3, P4, H0, H1, H2, H3, H4, K0, K1, B2⟩ := hI
        clear hp
        subst P2
        refine wanted_ (by rfl) ?_
        refine wp_load_row 27 _ rfl w.heap.size rfl 27 (U (lim x)) (0, 0) _ K0 Try.underlying27 rfl (ofLen la) ?_
        (try simp only [Act.put, List.setIfInBounds_toArray, List.set_cons_zero, List.set_cons_succ])
        exact hK.out _ _ ⟨_, _, _, _, _, _, _, _, _, _, _, _, _, _, _, _, _, _, _, _, _, _, _, _, _, _, _, _, _, _, _, _, _, rfl, rfl, P3, P4, fun _ => rfl, H1, H2, H3, H4, K0, K1, B2⟩
      refine Steps.cons rfl (fun L a wx K hK hL hp hI => ?_) ?_
      · refine ex_33 hI (fun x0 x1 x2 x3 x4 x5 x6 x7 x8 x9 x10 x11 x12 x13 x14 x15 x16 x17 x18 x19 x20 x21 x22 x23 x24 x25 x26 x27 x28 x29 x30 x31 x32 hI => ?_)
        obtain ⟨rfl, P2, P3, P4, H0, H1, H2, H3, H4, K0, K1, B2⟩ := hI
        have p0 : L 0 = true := hp ⟨0, .data⟩ (by simp) rfl
        have e0 := H0 p0
        clear hp
        subst e0
        refine wanted_ (by rfl) ?_
        refine goesK_ Try.func41 (by kernel_rfl) rfl #[.agg (U (lim x))] rfl (by simp [Act.eval]) ?_
        refine (Bx _).mono ?_
        rintro e w' ⟨rfl, g⟩
        refine ⟨_, rfl, ?_⟩
        (try simp only [Act.put, List.setIfInBounds_toArray, List.set_cons_zero, List.set_cons_succ])
        exact hK.out _ _ ⟨_, _, _, _, _, _, _, _, _, _, _, _, _, _, _, _, _, _, _, _, _, _, _, _, _, _, _, _, _, _, _, _, _, rfl, P2, P3, P4, fun _ => rfl, fun _ => rfl, H2, H3, H4, (Blk.keep K0 g), (Blk.keep K1 g), bb B2 g⟩
      refine Steps.cons rfl (fun L a wx K hK hL hp hI => ?_) ?_
      · refine ex_33 hI (fun x0 x1 x2 x3 x4 x5 x6 x7 x8 x9 x10 x11 x12 x13 x14 x15 x16 x17 x18 x19 x20 x21 x22 x23 x24 x25 x26 x27 x28 x29 x30 x31 x32 hI => ?_)
        obtain ⟨rfl, P2, P3, P4, H0, H1, H2, H3, H4, K0, K1, B2⟩ := hI
        clear hp
        subst P3
        refine wanted_ (by rfl) ?_
        refine wp_load_row 27 _ rfl (w.heap.size + 1) rfl 27 (U (lim y)) (0, 0) _ K1 Try.underlying27 rfl (ofLen lb) ?_
        (try simp only [Act.put, List.setIfInBounds_toArray, List.set_cons_zero, List.set_cons_succ])
        exact hK.out _ _ ⟨_, _, _, _, _, _, _, _, _, _, _, _, _, _, _, _, _, _, _, _, _, _, _, _, _, _, _, _, _, _, _, _, _, rfl, P2, rfl, P4, H0, H1, fun _ => rfl, H3, H4, K0, K1, B2⟩
      refine Steps.cons rfl (fun L a wx K hK hL hp hI => ?_) ?_
      · refine ex_33 hI (fun x0 x1 x2 x3 x4 x5 x6 x7 x8 x9 x10 x11 x12 x13 x14 x15 x16 x17 x18 x19 x20 x21 x22 x23 x24 x25 x26 x27 x28 x29 x30 x31 x32 hI => ?_)
        obtain ⟨rfl, P2, P3, P4, H0, H1, H2, H3, H4, K0, K1, B2⟩ := hI
        have p2 : L 2 = true := hp ⟨2, .data⟩ (by simp) rfl
        have e2 := H2 p2
        clear hp
        subst e2
        refine wanted_ (by rfl) ?_
        refine goesK_ Try.func41 (by kernel_rfl) rfl #[.agg (U (lim y))] rfl (by simp [Act.eval]) ?_
        refine (By _).mono ?_
        rintro e w' ⟨rfl, g⟩
        refine ⟨_, rfl, ?_⟩
        (try simp only [Act.put, List.setIfInBounds_toArray, List.set_cons_zero, List.set_cons_succ])
        exact hK.out _ _ ⟨_, _, _, _, _, _, _, _, _, _, _, _, _, _, _, _, _, _, _, _, _, _, _, _, _, _, _, _, _, _, _, _, _, rfl, P2, P3, P4, H0, H1, fun _ => rfl, fun _ => rfl, H4, (Blk.keep K0 g), (Blk.keep K1 g), bb B2 g⟩
      refine Steps.cons rfl (fun L a wx K hK hL hp hI => ?_) ?_
      · refine ex_33 hI (fun x0 x1 x2 x3 x4 x5 x6 x7 x8 x9 x10 x11 x12 x13 x14 x15 x16 x17 x18 x19 x20 x21 x22 x23 x24 x25 x26 x27 x28 x29 x30 x31 x32 hI => ?_)
        obtain ⟨rfl, P2, P3, P4, H0, H1, H2, H3, H4, K0, K1, B2⟩ := hI
        have p1 : L 1 = true := hp ⟨1, .data⟩ (by simp) rfl
        have e1 := H1 p1
        have p3 : L 3 = true := hp ⟨3, .data⟩ (by simp) rfl
        have e3 := H3 p3
        clear hp
        subst e1 e3
        go_simp
        exact hK.out _ _ ⟨_, _, _, _, _, _, _, _, _, _, _, _, _, _, _, _, _, _, _, _, _, _, _, _, _, _, _, _, _, _, _, _, _, rfl, (by first | exact P2 | rfl), (by first | exact P3 | rfl), (by first | exact P4 | rfl), H0, fun _ => rfl, H2, fun _ => rfl, fun _ => (by first | rfl | simp), K0, K1, B2⟩
      exact Steps.nil
    case fin =>
      intro L a wx hall hI
      refine ex_33 hI (fun x0 x1 x2 x3 x4 x5 x6 x7 x8 x9 x10 x11 x12 x13 x14 x15 x16 x17 x18 x19 x20 x21 x22 x23 x24 x25 x26 x27 x28 x29 x30 x31 x32 hI => ?_)
      obtain ⟨rfl, P2, P3, P4, H0, H1, H2, H3, H4, K0, K1, B2⟩ := hI
      have E0 := H0 (hall 0 (by decide))
      have E1 := H1 (hall 1 (by decide))
      have E2 := H2 (hall 2 (by decide))
      have E3 := H3 (hall 3 (by decide))
      have E4 := H4 (hall 4 (by decide))
      clear hall H0 H1 H2 H3 H4
      subst E0 E1 E2 E3 E4 P2 P3 P4
      obtain rfl := F.1 ⟨rfl, rfl⟩
      clear F
      go_wp2_with (refine ldW K0 la _ rfl rfl rfl ?_)
      refine (Bx _).mono ?_; rintro e w3 ⟨rfl, g3⟩
      go_wp2_with fail
      go_ret
      exact ⟨rfl, bb (bb b0 B2) g3⟩
  · refine region_steps (fun L a wx => ∃ (x0 x1 x2 x3 x4 x5 x6 x7 x8 x9 x10 x11 x12 x13 x14 x15 x16 x17 x18 x19 x20 x21 x22 x23 x24 x25 x26 x27 x28 x29 x30 x31 x32 : Value), a = { tmps := #[x0, x1, x2, x3, x4, x5, x6, x7, x8, x9, x10, x11, x12, x13, x14, x15, x16, x17, x18, x19, x20, x21, x22, x23, x24, x25, x26, x27, x28, x29, x30, x31, x32], defers := [] } ∧ x2 = .pointer (some ⟨w.heap.size, 0, none⟩) ∧ x3 = .pointer (some ⟨(w.heap.size + 1), 0, none⟩) ∧ x4 = .int .i64 0 ∧ (L 0 = true → x6 = .agg (U (lim x))) ∧ (L 1 = true → x7 = .bool true) ∧ (L 2 = true → x8 = .agg (U (lim y))) ∧ (L 3 = true → x9 = .bool true) ∧ (L 4 = true → x10 = .bool false) ∧ Blk wx w.heap.size (U (lim x)) 27 ∧ Blk wx (w.heap.size + 1) (U (lim y)) 27 ∧ Below w2.heap.size w2 wx) [0, 1, 2, 3, 4] (by kernel_rfl) (by kernel_rfl) (by kernel_rfl) ?start ?steps ?fin
    case start =>
      exact ⟨_, _, _, _, _, _, _, _, _, _, _, _, _, _, _, _, _, _, _, _, _, _, _, _, _, _, _, _, _, _, _, _, _, rfl, (by first | rfl | simp only [*]), (by first | rfl | simp only [*]), (by first | rfl | simp only [*]), fun h => absurd h (by decide), fun h => absurd h (by decide), fun h => absurd h (by decide), fun h => absurd h (by decide), fun h => absurd h (by decide), k0.drew, k1.drew, (Below.refl _ _).drew⟩
    case steps =>
      refine Steps.cons rfl (fun L a wx K hK hL hp hI => ?_) ?_
      · refine ex_33 hI (fun x0 x1 x2 x3 x4 x5 x6 x7 x8 x9 x10 x11 x12 x13 x14 x15 x16 x17 x18 x19 x20 x21 x22 x23 x24 x25 x26 x27 x28 x29 x30 x31 x32 hI => ?_)
        obtain ⟨rfl, P2, P3, P4, H0, H1, H2, H3, H4, K0, K1, B2⟩ := hI
        clear hp
        subst P2
        refine wanted_ (by rfl) ?_
        refine wp_load_row 27 _ rfl w.heap.size rfl 27 (U (lim x)) (0, 0) _ K0 Try.underlying27 rfl (ofLen la) ?_
        (try simp only [Act.put, List.setIfInBounds_toArray, List.set_cons_zero, List.set_cons_succ])
        exact hK.out _ _ ⟨_, _, _, _, _, _, _, _, _, _, _, _, _, _, _, _, _, _, _, _, _, _, _, _, _, _, _, _, _, _, _, _, _, rfl, rfl, P3, P4, fun _ => rfl, H1, H2, H3, H4, K0, K1, B2⟩
      refine Steps.cons rfl (fun L a wx K hK hL hp hI => ?_) ?_
      · refine ex_33 hI (fun x0 x1 x2 x3 x4 x5 x6 x7 x8 x9 x10 x11 x12 x13 x14 x15 x16 x17 x18 x19 x20 x21 x22 x23 x24 x25 x26 x27 x28 x29 x30 x31 x32 hI => ?_)
        obtain ⟨rfl, P2, P3, P4, H0, H1, H2, H3, H4, K0, K1, B2⟩ := hI
        have p0 : L 0 = true := hp ⟨0, .data⟩ (by simp) rfl
        have e0 := H0 p0
        clear hp
        subst e0
        refine wanted_ (by rfl) ?_
        refine goesK_ Try.func41 (by kernel_rfl) rfl #[.agg (U (lim x))] rfl (by simp [Act.eval]) ?_
        refine (Bx _).mono ?_
        rintro e w' ⟨rfl, g⟩
        refine ⟨_, rfl, ?_⟩
        (try simp only [Act.put, List.setIfInBounds_toArray, List.set_cons_zero, List.set_cons_succ])
        exact hK.out _ _ ⟨_, _, _, _, _, _, _, _, _, _, _, _, _, _, _, _, _, _, _, _, _, _, _, _, _, _, _, _, _, _, _, _, _, rfl, P2, P3, P4, fun _ => rfl, fun _ => rfl, H2, H3, H4, (Blk.keep K0 g), (Blk.keep K1 g), bb B2 g⟩
      refine Steps.cons rfl (fun L a wx K hK hL hp hI => ?_) ?_
      · refine ex_33 hI (fun x0 x1 x2 x3 x4 x5 x6 x7 x8 x9 x10 x11 x12 x13 x14 x15 x16 x17 x18 x19 x20 x21 x22 x23 x24 x25 x26 x27 x28 x29 x30 x31 x32 hI => ?_)
        obtain ⟨rfl, P2, P3, P4, H0, H1, H2, H3, H4, K0, K1, B2⟩ := hI
        clear hp
        subst P3
        refine wanted_ (by rfl) ?_
        refine wp_load_row 27 _ rfl (w.heap.size + 1) rfl 27 (U (lim y)) (0, 0) _ K1 Try.underlying27 rfl (ofLen lb) ?_
        (try simp only [Act.put, List.setIfInBounds_toArray, List.set_cons_zero, List.set_cons_succ])
        exact hK.out _ _ ⟨_, _, _, _, _, _, _, _, _, _, _, _, _, _, _, _, _, _, _, _, _, _, _, _, _, _, _, _, _, _, _, _, _, rfl, P2, rfl, P4, H0, H1, fun _ => rfl, H3, H4, K0, K1, B2⟩
      refine Steps.cons rfl (fun L a wx K hK hL hp hI => ?_) ?_
      · refine ex_33 hI (fun x0 x1 x2 x3 x4 x5 x6 x7 x8 x9 x10 x11 x12 x13 x14 x15 x16 x17 x18 x19 x20 x21 x22 x23 x24 x25 x26 x27 x28 x29 x30 x31 x32 hI => ?_)
        obtain ⟨rfl, P2, P3, P4, H0, H1, H2, H3, H4, K0, K1, B2⟩ := hI
        have p2 : L 2 = true := hp ⟨2, .data⟩ (by simp) rfl
        have e2 := H2 p2
        clear hp
        subst e2
        refine wanted_ (by rfl) ?_
        refine goesK_ Try.func41 (by kernel_rfl) rfl #[.agg (U (lim y))] rfl (by simp [Act.eval]) ?_
        refine (By _).mono ?_
        rintro e w' ⟨rfl, g⟩
        refine ⟨_, rfl, ?_⟩
        (try simp only [Act.put, List.setIfInBounds_toArray, List.set_cons_zero, List.set_cons_succ])
        exact hK.out _ _ ⟨_, _, _, _, _, _, _, _, _, _, _, _, _, _, _, _, _, _, _, _, _, _, _, _, _, _, _, _, _, _, _, _, _, rfl, P2, P3, P4, H0, H1, fun _ => rfl, fun _ => rfl, H4, (Blk.keep K0 g), (Blk.keep K1 g), bb B2 g⟩
      refine Steps.cons rfl (fun L a wx K hK hL hp hI => ?_) ?_
      · refine ex_33 hI (fun x0 x1 x2 x3 x4 x5 x6 x7 x8 x9 x10 x11 x12 x13 x14 x15 x16 x17 x18 x19 x20 x21 x22 x23 x24 x25 x26 x27 x28 x29 x30 x31 x32 hI => ?_)
        obtain ⟨rfl, P2, P3, P4, H0, H1, H2, H3, H4, K0, K1, B2⟩ := hI
        have p1 : L 1 = true := hp ⟨1, .data⟩ (by simp) rfl
        have e1 := H1 p1
        have p3 : L 3 = true := hp ⟨3, .data⟩ (by simp) rfl
        have e3 := H3 p3
        clear hp
        subst e1 e3
        go_simp
        exact hK.out _ _ ⟨_, _, _, _, _, _, _, _, _, _, _, _, _, _, _, _, _, _, _, _, _, _, _, _, _, _, _, _, _, _, _, _, _, rfl, (by first | exact P2 | rfl), (by first | exact P3 | rfl), (by first | exact P4 | rfl), H0, fun _ => rfl, H2, fun _ => rfl, fun _ => (by first | rfl | simp), K0, K1, B2⟩
      exact Steps.nil
    case fin =>
      intro L a wx hall hI
      refine ex_33 hI (fun x0 x1 x2 x3 x4 x5 x6 x7 x8 x9 x10 x11 x12 x13 x14 x15 x16 x17 x18 x19 x20 x21 x22 x23 x24 x25 x26 x27 x28 x29 x30 x31 x32 hI => ?_)
      obtain ⟨rfl, P2, P3, P4, H0, H1, H2, H3, H4, K0, K1, B2⟩ := hI
      have E0 := H0 (hall 0 (by decide))
      have E1 := H1 (hall 1 (by decide))
      have E2 := H2 (hall 2 (by decide))
      have E3 := H3 (hall 3 (by decide))
      have E4 := H4 (hall 4 (by decide))
      clear hall H0 H1 H2 H3 H4
      subst E0 E1 E2 E3 E4 P2 P3 P4
      have FF := Lib.hid (F.2.2 rfl)
      have bx := bb b0 B2
      clear F Bx By k0 k1 b0 N0 N1 B2 hx hy
      generalize lim x = a at *
      generalize lim y = b at *
      clear L hI
      go_wp2_with fail
      go_loopw [5] (fun s5 wv => ∃ k : Nat, k ≤ 16 ∧ s5 = .int .i64 ((k : Int) - 1) ∧ (∀ j, k ≤ j → dg a j = dg b j) ∧ Blk wv w.heap.size (U a) 27 ∧ Blk wv (w.heap.size + 1) (U b) 27 ∧ Below w.heap.size w wv) (fun s5 _ => (intOf s5 + 1).toNat)
      case atStart => exact ⟨16, Nat.le_refl _, rfl, fun j hj => by rw [dg_out (by omega), dg_out (by omega)], K0, K1, bx⟩
      case round =>
        clear K0 K1 bx
        obtain ⟨k, hk, rfl, hz, kA, kB, hb⟩ := hrel
        rcases k with _ | k
        · have e : a = b := by
            apply List.ext_getElem (by omega)
            intro i h1 h2
            have := hz i (by omega)
            simpa [dg, h1, h2] using this
          obtain rfl := FF.out.2.2 e
          clear hz FF
          go_wp2_with fail
          go_ret
          exact ⟨rfl, hb⟩
        · have HZ := Lib.hid hz
          have e1 : ((k + 1 : Nat) : Int) - 1 = (k : Int) := by omega
          rw [e1]
          clear hz e1
          have cA : wr.cell? ⟨w.heap.size, k, none⟩ = some (.int .u64 (dg a k)) := by rw [kA.cell, U_at (by omega)]
          have cB : wr.cell? ⟨w.heap.size + 1, k, none⟩ = some (.int .u64 (dg b k)) := by rw [kB.cell, U_at (by omega)]
          have j0 : (0 : Int) ≤ (k : Int) := by omega
          have j1 : (k : Int) < 16 := by omega
          rcases Int.lt_trichotomy (dg a k) (dg b k) with h | h | h
          · obtain rfl := FF.out.1 (digit_lt da db la lb (by omega) HZ.out h)
            clear FF
            go_wp2_with fail
            go_quiet (fail)
            go_wp2_with fail
            go_ret
            exact ⟨rfl, below_drewN hb _⟩
          · have HE := Lib.hid h
            have h1 : decide (dg a k < dg b k) = false := by rw [decide_eq_false_iff_not]; omega
            have h2 : decide (dg b k < dg a k) = false := by rw [decide_eq_false_iff_not]; omega
            clear h
            go_wp2_with fail
            go_quiet (fail)
            go_wp2_with fail
            go_quiet (fail)
            go_wp2_with fail
            go_roundw
            case rel => exact ⟨k, by omega, by go_num, fun j hj => (Nat.lt_or_ge k j).elim (fun h => HZ.out j h) (fun h => by rw [show j = k by omega]; exact HE.out), Blk.drewN kA _, Blk.drewN kB _, below_drewN hb _⟩
            case measure => (simp [intOf]; try omega)
          · obtain rfl := FF.out.2.1 (digit_lt db da lb la (by omega) (fun j hj => (HZ.out j hj).symm) h)
            have h1 : decide (dg a k < dg b k) = false := by rw [decide_eq_false_iff_not]; omega
            clear FF
            go_wp2_with fail
            go_quiet (fail)
            go_wp2_with fail
            go_quiet (fail)
            go_wp2_with fail
            go_ret
            exact ⟨rfl, below_drewN (below_drewN hb _) _⟩
end Go.Proofs.Ytpdljoalfmgfiaa.YWide
