/- Lean functions, contracts and lemmas that this claim needs. No condition. -/
import Derived.Test.YtpdljoalfmgfiaaBYWideW4
namespace Go.Proofs.Ytpdljoalfmgfiaa.YWide
open Go.RowKit Go.Proofs.Ytpdljoalfmgfiaa.YInv Go.Proofs.Ytpdljoalfmgfiaa.YErr Go.Proofs.Ytpdljoalfmgfiaa.YRef Go.Proofs.Ytpdljoalfmgfiaa.YNum Go.Proofs.Ytpdljoalfmgfiaa.YBits Go.Proofs.Ytpdljoalfmgfiaa.XCarry Go.Proofs.Ytpdljoalfmgfiaa.QWd Go.Proofs.YtpdljoalfmgfiaaW.PrintWords Go.Proofs.YtpdljoalfmgfiaaW.PrintLast
set_option linter.unusedVariables false
set_option linter.unusedSimpArgs false
theorem ex_13 {C : Prop} {R : Value → Value → Value → Value → Value → Value → Value → Value → Value → Value → Value → Value → Value → Prop} (h : ∃ x0 x1 x2 x3 x4 x5 x6 x7 x8 x9 x10 x11 x12, R x0 x1 x2 x3 x4 x5 x6 x7 x8 x9 x10 x11 x12) (k : ∀ x0 x1 x2 x3 x4 x5 x6 x7 x8 x9 x10 x11 x12, R x0 x1 x2 x3 x4 x5 x6 x7 x8 x9 x10 x11 x12 → C) : C := by
  obtain ⟨x0, h⟩ := h
  obtain ⟨x1, h⟩ := h
  obtain ⟨x2, h⟩ := h
  obtain ⟨x3, h⟩ := h
  obtain ⟨x4, h⟩ := h
  obtain ⟨x5, h⟩ := h
  obtain ⟨x6, h⟩ := h
  obtain ⟨x7, h⟩ := h
  obtain ⟨x8, h⟩ := h
  obtain ⟨x9, h⟩ := h
  obtain ⟨x10, h⟩ := h
  obtain ⟨x11, h⟩ := h
  obtain ⟨x12, h⟩ := h
  exact k x0 x1 x2 x3 x4 x5 x6 x7 x8 x9 x10 x11 x12 h
theorem ex_21 {C : Prop} {R : Value → Value → Value → Value → Value → Value → Value → Value → Value → Value → Value → Value → Value → Value → Value → Value → Value → Value → Value → Value → Value → Prop} (h : ∃ x0 x1 x2 x3 x4 x5 x6 x7 x8 x9 x10 x11 x12 x13 x14 x15 x16 x17 x18 x19 x20, R x0 x1 x2 x3 x4 x5 x6 x7 x8 x9 x10 x11 x12 x13 x14 x15 x16 x17 x18 x19 x20) (k : ∀ x0 x1 x2 x3 x4 x5 x6 x7 x8 x9 x10 x11 x12 x13 x14 x15 x16 x17 x18 x19 x20, R x0 x1 x2 x3 x4 x5 x6 x7 x8 x9 x10 x11 x12 x13 x14 x15 x16 x17 x18 x19 x20 → C) : C := by
  obtain ⟨x0, h⟩ := h
  obtain ⟨x1, h⟩ := h
  obtain ⟨x2, h⟩ := h
  obtain ⟨x3, h⟩ := h
  obtain ⟨x4, h⟩ := h
  obtain ⟨x5, h⟩ := h
  obtain ⟨x6, h⟩ := h
  obtain ⟨x7, h⟩ := h
  obtain ⟨x8, h⟩ := h
  obtain ⟨x9, h⟩ := h
  obtain ⟨x10, h⟩ := h
  obtain ⟨x11, h⟩ := h
  obtain ⟨x12, h⟩ := h
  obtain ⟨x13, h⟩ := h
  obtain ⟨x14, h⟩ := h
  obtain ⟨x15, h⟩ := h
  obtain ⟨x16, h⟩ := h
  obtain ⟨x17, h⟩ := h
  obtain ⟨x18, h⟩ := h
  obtain ⟨x19, h⟩ := h
  obtain ⟨x20, h⟩ := h
  exact k x0 x1 x2 x3 x4 x5 x6 x7 x8 x9 x10 x11 x12 x13 x14 x15 x16 x17 x18 x19 x20 h
set_option maxRecDepth 100000 in
set_option maxHeartbeats 16000000 in
theorem Int64_w {x : Int} (hx : InW x) (w : World) : Calls Try.prog 34 #[.agg (U (lim x))] w fun e w' => e = .returned (.tuple #[.int .i64 (fit64 x).1, .bool (fit64 x).2]) ∧ Below w.heap.size w w' := by
  have la := lim_len x
  have k1 := Blk.new w (U (lim x)) 27
  have b0 := (Below.refl w.heap.size w).alloc (Nat.le_refl _) (.cells (U (lim x)) 27)
  have d0 : dg (lim x) 0 = x % 18446744073709551616 := by rw [dg_lim x (by decide)]; simp
  have c0 : (w.alloc (.cells (U (lim x)) 27)).cell? ⟨w.heap.size, 0, none⟩ = some (.int .u64 (x % 18446744073709551616)) := by rw [k1.cell, U_at (by rw [lim_len]; decide), d0]
  obtain ⟨v, hv⟩ : ∃ v, wrap64 (x % 18446744073709551616) = v := ⟨_, rfl⟩
  have v0 : -9223372036854775808 ≤ v ∧ v ≤ 9223372036854775807 := by rw [← hv]; unfold wrap64; omega
  have OF := fun W => Of_c v v0.1 v0.2 W
  have NE := fun W => run_neqW v x W
  have F : (decide (lim v = lim x) = true ∧ fit64 x = (v, true)) ∨ (decide (lim v = lim x) = false ∧ fit64 x = (0, false)) := by
    have iv : InW v := by unfold InW; omega
    by_cases h : -9223372036854775808 ≤ x ∧ x ≤ 9223372036854775807
    · left
      have : v = x := by rw [← hv]; unfold wrap64; omega
      unfold fit64
      rw [if_pos h, this]
      exact ⟨by simp, rfl⟩
    · right
      unfold fit64
      rw [if_neg h]
      exact ⟨by rw [decide_eq_false_iff_not]; exact fun e => h (by rw [← lim_inj iv hx e]; exact v0), rfl⟩
  generalize decide (lim v = lim x) = q at *
  generalize fit64 x = r at *
  clear v0 d0
  go_enter Try.func34, Try.ntmps34
  go_wp2_with fail
  have N0 := k1.lt
  clear c0
  generalize w.alloc (.cells (U (lim x)) 27) = w2 at *
  rcases F with ⟨rfl, rfl⟩ | ⟨rfl, rfl⟩
  · refine region_steps (fun L a wx => ∃ (x0 x1 x2 x3 x4 x5 x6 x7 x8 x9 x10 x11 x12 : Value), a = { tmps := #[x0, x1, x2, x3, x4, x5, x6, x7, x8, x9, x10, x11, x12], defers := [] } ∧ x1 = .pointer (some ⟨w.heap.size, 0, none⟩) ∧ x4 = .int .i64 v ∧ (L 0 = true → x8 = .int .i64 v) ∧ (L 1 = true → x9 = .agg (U (lim v))) ∧ (L 2 = true → x10 = .agg (U (lim x))) ∧ (L 3 = true → x11 = .bool false) ∧ Blk wx w.heap.size (U (lim x)) 27 ∧ Below w2.heap.size w2 wx) [0, 1, 2, 3] (by kernel_rfl) (by kernel_rfl) (by kernel_rfl) ?start ?steps ?fin
    case start =>
      exact ⟨_, _, _, _, _, _, _, _, _, _, _, _, _, rfl, (by first | rfl | simp only [*]), (by first | rfl | simp only [*]), fun h => absurd h (by decide), fun h => absurd h (by decide), fun h => absurd h (by decide), fun h => absurd h (by decide), k1.drew, (Below.refl _ _).drew⟩
    case steps =>
      refine Steps.cons rfl (fun L a wx K hK hL hp hI => ?_) ?_
      · refine ex_13 hI (fun x0 x1 x2 x3 x4 x5 x6 x7 x8 x9 x10 x11 x12 hI => ?_)
        obtain ⟨rfl, P1, P4, H0, H1, H2, H3, K0, B2⟩ := hI
        clear hp
        subst P4
        go_simp
        exact hK.out _ _ ⟨_, _, _, _, _, _, _, _, _, _, _, _, _, rfl, (by first | exact P1 | rfl), rfl, fun _ => (by first | rfl | simp), H1, H2, H3, K0, B2⟩
      refine Steps.cons rfl (fun L a wx K hK hL hp hI => ?_) ?_
      · refine ex_13 hI (fun x0 x1 x2 x3 x4 x5 x6 x7 x8 x9 x10 x11 x12 hI => ?_)
        obtain ⟨rfl, P1, P4, H0, H1, H2, H3, K0, B2⟩ := hI
        have p0 : L 0 = true := hp ⟨0, .data⟩ (by simp) rfl
        have e0 := H0 p0
        clear hp
        subst e0
        refine wanted_ (by rfl) ?_
        refine goesK_ Try.func33 (by kernel_rfl) rfl #[.int .i64 v] rfl (by simp [Act.eval]) ?_
        refine (OF _).mono ?_
        rintro e w' ⟨rfl, g⟩
        refine ⟨_, rfl, ?_⟩
        (try simp only [Act.put, List.setIfInBounds_toArray, List.set_cons_zero, List.set_cons_succ])
        exact hK.out _ _ ⟨_, _, _, _, _, _, _, _, _, _, _, _, _, rfl, P1, P4, fun _ => rfl, fun _ => rfl, H2, H3, (Blk.keep K0 g), bb B2 g⟩
      refine Steps.cons rfl (fun L a wx K hK hL hp hI => ?_) ?_
      · refine ex_13 hI (fun x0 x1 x2 x3 x4 x5 x6 x7 x8 x9 x10 x11 x12 hI => ?_)
        obtain ⟨rfl, P1, P4, H0, H1, H2, H3, K0, B2⟩ := hI
        clear hp
        subst P1
        refine wanted_ (by rfl) ?_
        refine wp_load_row 27 _ rfl w.heap.size rfl 27 (U (lim x)) (0, 0) _ K0 Try.underlying27 rfl (ofLen la) ?_
        (try simp only [Act.put, List.setIfInBounds_toArray, List.set_cons_zero, List.set_cons_succ])
        exact hK.out _ _ ⟨_, _, _, _, _, _, _, _, _, _, _, _, _, rfl, rfl, P4, H0, H1, fun _ => rfl, H3, K0, B2⟩
      refine Steps.cons rfl (fun L a wx K hK hL hp hI => ?_) ?_
      · refine ex_13 hI (fun x0 x1 x2 x3 x4 x5 x6 x7 x8 x9 x10 x11 x12 hI => ?_)
        obtain ⟨rfl, P1, P4, H0, H1, H2, H3, K0, B2⟩ := hI
        have p1 : L 1 = true := hp ⟨1, .data⟩ (by simp) rfl
        have e1 := H1 p1
        have p2 : L 2 = true := hp ⟨2, .data⟩ (by simp) rfl
        have e2 := H2 p2
        clear hp
        subst e1 e2
        go_simp
        exact hK.out _ _ ⟨_, _, _, _, _, _, _, _, _, _, _, _, _, rfl, (by first | exact P1 | rfl), (by first | exact P4 | rfl), H0, fun _ => rfl, fun _ => rfl, fun _ => (by first | rfl | simp), K0, B2⟩
      exact Steps.nil
    case fin =>
      intro L a wx hall hI
      refine ex_13 hI (fun x0 x1 x2 x3 x4 x5 x6 x7 x8 x9 x10 x11 x12 hI => ?_)
      obtain ⟨rfl, P1, P4, H0, H1, H2, H3, K0, B2⟩ := hI
      have E0 := H0 (hall 0 (by decide))
      have E1 := H1 (hall 1 (by decide))
      have E2 := H2 (hall 2 (by decide))
      have E3 := H3 (hall 3 (by decide))
      clear hall H0 H1 H2 H3
      subst E0 E1 E2 E3 P1 P4
      go_wp2_with fail
      go_ret2
      exact ⟨rfl, bb b0 B2⟩
  · refine region_steps (fun L a wx => ∃ (x0 x1 x2 x3 x4 x5 x6 x7 x8 x9 x10 x11 x12 : Value), a = { tmps := #[x0, x1, x2, x3, x4, x5, x6, x7, x8, x9, x10, x11, x12], defers := [] } ∧ x1 = .pointer (some ⟨w.heap.size, 0, none⟩) ∧ x4 = .int .i64 v ∧ (L 0 = true → x8 = .int .i64 v) ∧ (L 1 = true → x9 = .agg (U (lim v))) ∧ (L 2 = true → x10 = .agg (U (lim x))) ∧ (L 3 = true → x11 = .bool true) ∧ Blk wx w.heap.size (U (lim x)) 27 ∧ Below w2.heap.size w2 wx) [0, 1, 2, 3] (by kernel_rfl) (by kernel_rfl) (by kernel_rfl) ?start ?steps ?fin
    case start =>
      exact ⟨_, _, _, _, _, _, _, _, _, _, _, _, _, rfl, (by first | rfl | simp only [*]), (by first | rfl | simp only [*]), fun h => absurd h (by decide), fun h => absurd h (by decide), fun h => absurd h (by decide), fun h => absurd h (by decide), k1.drew, (Below.refl _ _).drew⟩
    case steps =>
      refine Steps.cons rfl (fun L a wx K hK hL hp hI => ?_) ?_
      · refine ex_13 hI (fun x0 x1 x2 x3 x4 x5 x6 x7 x8 x9 x10 x11 x12 hI => ?_)
        obtain ⟨rfl, P1, P4, H0, H1, H2, H3, K0, B2⟩ := hI
        clear hp
        subst P4
        go_simp
        exact hK.out _ _ ⟨_, _, _, _, _, _, _, _, _, _, _, _, _, rfl, (by first | exact P1 | rfl), rfl, fun _ => (by first | rfl | simp), H1, H2, H3, K0, B2⟩
      refine Steps.cons rfl (fun L a wx K hK hL hp hI => ?_) ?_
      · refine ex_13 hI (fun x0 x1 x2 x3 x4 x5 x6 x7 x8 x9 x10 x11 x12 hI => ?_)
        obtain ⟨rfl, P1, P4, H0, H1, H2, H3, K0, B2⟩ := hI
        have p0 : L 0 = true := hp ⟨0, .data⟩ (by simp) rfl
        have e0 := H0 p0
        clear hp
        subst e0
        refine wanted_ (by rfl) ?_
        refine goesK_ Try.func33 (by kernel_rfl) rfl #[.int .i64 v] rfl (by simp [Act.eval]) ?_
        refine (OF _).mono ?_
        rintro e w' ⟨rfl, g⟩
        refine ⟨_, rfl, ?_⟩
        (try simp only [Act.put, List.setIfInBounds_toArray, List.set_cons_zero, List.set_cons_succ])
        exact hK.out _ _ ⟨_, _, _, _, _, _, _, _, _, _, _, _, _, rfl, P1, P4, fun _ => rfl, fun _ => rfl, H2, H3, (Blk.keep K0 g), bb B2 g⟩
      refine Steps.cons rfl (fun L a wx K hK hL hp hI => ?_) ?_
      · refine ex_13 hI (fun x0 x1 x2 x3 x4 x5 x6 x7 x8 x9 x10 x11 x12 hI => ?_)
        obtain ⟨rfl, P1, P4, H0, H1, H2, H3, K0, B2⟩ := hI
        clear hp
        subst P1
        refine wanted_ (by rfl) ?_
        refine wp_load_row 27 _ rfl w.heap.size rfl 27 (U (lim x)) (0, 0) _ K0 Try.underlying27 rfl (ofLen la) ?_
        (try simp only [Act.put, List.setIfInBounds_toArray, List.set_cons_zero, List.set_cons_succ])
        exact hK.out _ _ ⟨_, _, _, _, _, _, _, _, _, _, _, _, _, rfl, rfl, P4, H0, H1, fun _ => rfl, H3, K0, B2⟩
      refine Steps.cons rfl (fun L a wx K hK hL hp hI => ?_) ?_
      · refine ex_13 hI (fun x0 x1 x2 x3 x4 x5 x6 x7 x8 x9 x10 x11 x12 hI => ?_)
        obtain ⟨rfl, P1, P4, H0, H1, H2, H3, K0, B2⟩ := hI
        have p1 : L 1 = true := hp ⟨1, .data⟩ (by simp) rfl
        have e1 := H1 p1
        have p2 : L 2 = true := hp ⟨2, .data⟩ (by simp) rfl
        have e2 := H2 p2
        clear hp
        subst e1 e2
        go_simp
        exact hK.out _ _ ⟨_, _, _, _, _, _, _, _, _, _, _, _, _, rfl, (by first | exact P1 | rfl), (by first | exact P4 | rfl), H0, fun _ => rfl, fun _ => rfl, fun _ => (by first | rfl | simp), K0, B2⟩
      exact Steps.nil
    case fin =>
      intro L a wx hall hI
      refine ex_13 hI (fun x0 x1 x2 x3 x4 x5 x6 x7 x8 x9 x10 x11 x12 hI => ?_)
      obtain ⟨rfl, P1, P4, H0, H1, H2, H3, K0, B2⟩ := hI
      have E0 := H0 (hall 0 (by decide))
      have E1 := H1 (hall 1 (by decide))
      have E2 := H2 (hall 2 (by decide))
      have E3 := H3 (hall 3 (by decide))
      clear hall H0 H1 H2 H3
      subst E0 E1 E2 E3 P1 P4
      go_wp2_with fail
      go_ret2
      exact ⟨rfl, bb b0 B2⟩
set_option maxRecDepth 100000 in
set_option maxHeartbeats 16000000 in
theorem signed_p {x : Int} (h0 : 0 ≤ x) (h1 : x < 18446744073709551616 ^ 16) (w : World) : Calls Try.prog 46 #[.agg (U (lim x)), .bool false] w fun e w' => e = .returned (.tuple #[.agg (U (lim x)), .bool (decide (InW x))]) ∧ Below w.heap.size w w' := by
  have la := lim_len x
  have Bx := fun W => below_t x W
  have T : decide (InW x) = !top (lim x) := by
    rw [top_pos h0 h1]
    by_cases h : InW x
    · rw [decide_eq_true h, eq_comm, Bool.not_eq_true', decide_eq_false_iff_not]; unfold InW at h; omega
    · rw [decide_eq_false h, eq_comm, Bool.not_eq_false', decide_eq_true_eq]; unfold InW at h; omega
  rw [T]
  generalize top (lim x) = tx at *
  clear T
  obtain ⟨k0, k1, BW⟩ := start2 w (lim x) _ rfl
  go_enter Try.func46, Try.ntmps46
  go_wp2_with fail
  have N0 := k0.lt
  have N1 := k1.lt
  have ex : ((w.alloc (.cells (U (lim x)) 27)).alloc (.cells #[.int .u64 0, .int .u64 0, .int .u64 0, .int .u64 0, .int .u64 0, .int .u64 0, .int .u64 0, .int .u64 0, .int .u64 0, .int .u64 0, .int .u64 0, .int .u64 0, .int .u64 0, .int .u64 0, .int .u64 0, .int .u64 0] 27)) = ((w.alloc (.cells (U (lim x)) 27)).alloc (.cells (U zeros) 27)) := rfl
  rw [ex]
  clear ex
  generalize ((w.alloc (.cells (U (lim x)) 27)).alloc (.cells (U zeros) 27)) = w1 at *
  refine region_steps (fun L a wx => ∃ (x0 x1 x2 x3 x4 x5 x6 x7 x8 x9 x10 x11 x12 x13 x14 x15 x16 x17 x18 x19 x20 : Value), a = { tmps := #[x0, x1, x2, x3, x4, x5, x6, x7, x8, x9, x10, x11, x12, x13, x14, x15, x16, x17, x18, x19, x20], defers := [] } ∧ x2 = .pointer (some ⟨w.heap.size, 0, none⟩) ∧ x4 = .pointer (some ⟨(w.heap.size + 1), 0, none⟩) ∧ (L 0 = true → x17 = .agg (U (lim x))) ∧ (L 1 = true → x18 = .agg (U (lim x))) ∧ (L 2 = true → x19 = .bool tx) ∧ (L 3 = true → x20 = .bool (!tx)) ∧ (L 5 = true → x5 = .bool (!tx)) ∧ Blk wx w.heap.size (U (lim x)) 27 ∧ (L 4 = false → Blk wx (w.heap.size + 1) (U (zeros)) 27) ∧ (L 4 = true → Blk wx (w.heap.size + 1) (U (lim x)) 27) ∧ w1.heap.size ≤ wx.heap.size ∧ Below w.heap.size w wx) [0, 1, 2, 3, 4, 5] (by kernel_rfl) (by kernel_rfl) (by kernel_rfl) ?start ?steps ?fin
  case start =>
    exact ⟨_, _, _, _, _, _, _, _, _, _, _, _, _, _, _, _, _, _, _, _, _, rfl, (by first | rfl | simp only [*]), (by first | rfl | simp only [*]), fun h => absurd h (by decide), fun h => absurd h (by decide), fun h => absurd h (by decide), fun h => absurd h (by decide), fun h => absurd h (by decide), k0.drew, fun _ => k1.drew, fun h => absurd h (by decide), Nat.le_refl _, BW.drew⟩
  case steps =>
    refine Steps.cons rfl (fun L a wx K hK hL hp hI => ?_) ?_
    · refine ex_21 hI (fun x0 x1 x2 x3 x4 x5 x6 x7 x8 x9 x10 x11 x12 x13 x14 x15 x16 x17 x18 x19 x20 hI => ?_)
      obtain ⟨rfl, P2, P4, H0, H1, H2, H3, H5, K0, F1, G1, B2, BW⟩ := hI
      clear hp
      subst P2
      refine wanted_ (by rfl) ?_
      refine wp_load_row 27 _ rfl w.heap.size rfl 27 (U (lim x)) (0, 0) _ K0 Try.underlying27 rfl (ofLen la) ?_
      (try simp only [Act.put, List.setIfInBounds_toArray, List.set_cons_zero, List.set_cons_succ])
      exact hK.out _ _ ⟨_, _, _, _, _, _, _, _, _, _, _, _, _, _, _, _, _, _, _, _, _, rfl, rfl, P4, fun _ => rfl, H1, H2, H3, H5, K0, fun h => (F1 h), fun h => (G1 h), B2, BW⟩
    refine Steps.cons rfl (fun L a wx K hK hL hp hI => ?_) ?_
    · refine ex_21 hI (fun x0 x1 x2 x3 x4 x5 x6 x7 x8 x9 x10 x11 x12 x13 x14 x15 x16 x17 x18 x19 x20 hI => ?_)
      obtain ⟨rfl, P2, P4, H0, H1, H2, H3, H5, K0, F1, G1, B2, BW⟩ := hI
      clear hp
      subst P2
      refine wanted_ (by rfl) ?_
      refine wp_load_row 27 _ rfl w.heap.size rfl 27 (U (lim x)) (0, 0) _ K0 Try.underlying27 rfl (ofLen la) ?_
      (try simp only [Act.put, List.setIfInBounds_toArray, List.set_cons_zero, List.set_cons_succ])
      exact hK.out _ _ ⟨_, _, _, _, _, _, _, _, _, _, _, _, _, _, _, _, _, _, _, _, _, rfl, rfl, P4, H0, fun _ => rfl, H2, H3, H5, K0, fun h => (F1 h), fun h => (G1 h), B2, BW⟩
    refine Steps.cons rfl (fun L a wx K hK hL hp hI => ?_) ?_
    · refine ex_21 hI (fun x0 x1 x2 x3 x4 x5 x6 x7 x8 x9 x10 x11 x12 x13 x14 x15 x16 x17 x18 x19 x20 hI => ?_)
      obtain ⟨rfl, P2, P4, H0, H1, H2, H3, H5, K0, F1, G1, B2, BW⟩ := hI
      have p1 : L 1 = true := hp ⟨1, .data⟩ (by simp) rfl
      have e1 := H1 p1
      clear hp
      subst e1
      refine wanted_ (by rfl) ?_
      refine goesK_ Try.func41 (by kernel_rfl) rfl #[.agg (U (lim x))] rfl (by simp [Act.eval]) ?_
      refine (Bx _).mono ?_
      rintro e w' ⟨rfl, g⟩
      refine ⟨_, rfl, ?_⟩
      (try simp only [Act.put, List.setIfInBounds_toArray, List.set_cons_zero, List.set_cons_succ])
      exact hK.out _ _ ⟨_, _, _, _, _, _, _, _, _, _, _, _, _, _, _, _, _, _, _, _, _, rfl, P2, P4, H0, fun _ => rfl, fun _ => rfl, H3, H5, (Blk.keep K0 g), fun h => (Blk.keep (F1 h) g), fun h => (Blk.keep (G1 h) g), Nat.le_trans B2 g.size, bb BW g⟩
    refine Steps.cons rfl (fun L a wx K hK hL hp hI => ?_) ?_
    · refine ex_21 hI (fun x0 x1 x2 x3 x4 x5 x6 x7 x8 x9 x10 x11 x12 x13 x14 x15 x16 x17 x18 x19 x20 hI => ?_)
      obtain ⟨rfl, P2, P4, H0, H1, H2, H3, H5, K0, F1, G1, B2, BW⟩ := hI
      have p2 : L 2 = true := hp ⟨2, .data⟩ (by simp) rfl
      have e2 := H2 p2
      clear hp
      subst e2
      go_simp
      exact hK.out _ _ ⟨_, _, _, _, _, _, _, _, _, _, _, _, _, _, _, _, _, _, _, _, _, rfl, (by first | exact P2 | rfl), (by first | exact P4 | rfl), H0, H1, fun _ => rfl, fun _ => (by first | rfl | simp), H5, K0, fun h => (F1 h), fun h => (G1 h), B2, BW⟩
    refine Steps.cons rfl (fun L a wx K hK hL hp hI => ?_) ?_
    · refine ex_21 hI (fun x0 x1 x2 x3 x4 x5 x6 x7 x8 x9 x10 x11 x12 x13 x14 x15 x16 x17 x18 x19 x20 hI => ?_)
      obtain ⟨rfl, P2, P4, H0, H1, H2, H3, H5, K0, F1, G1, B2, BW⟩ := hI
      have p0 : L 0 = true := hp ⟨0, .data⟩ (by simp) rfl
      have e0 := H0 p0
      clear hp
      subst e0 P4
      have N_0 := N0
      have N_1 := N1
      refine wanted_ (by rfl) ?_
      refine wp_store_row 27 _ _ rfl (w.heap.size + 1) (U (lim x)) rfl rfl 27 (U (zeros)) (F1 hL) (ofLen la) (by rw [U_size, U_size, zeros_len, la]) (one_cell _) ?_
      (try simp only [Act.put, List.setIfInBounds_toArray, List.set_cons_zero, List.set_cons_succ])
      exact hK.out _ _ ⟨_, _, _, _, _, _, _, _, _, _, _, _, _, _, _, _, _, _, _, _, _, rfl, P2, rfl, fun _ => rfl, H1, H2, H3, H5, (far_ K0 (by omega)), fun h => absurd h (by simp [YInv.up]), fun _ => put_ (F1 hL), (by simp; exact B2), below_row BW (by omega) _⟩
    refine Steps.cons rfl (fun L a wx K hK hL hp hI => ?_) ?_
    · refine ex_21 hI (fun x0 x1 x2 x3 x4 x5 x6 x7 x8 x9 x10 x11 x12 x13 x14 x15 x16 x17 x18 x19 x20 hI => ?_)
      obtain ⟨rfl, P2, P4, H0, H1, H2, H3, H5, K0, F1, G1, B2, BW⟩ := hI
      have p3 : L 3 = true := hp ⟨3, .data⟩ (by simp) rfl
      have e3 := H3 p3
      clear hp
      subst e3
      go_simp
      exact hK.out _ _ ⟨_, _, _, _, _, _, _, _, _, _, _, _, _, _, _, _, _, _, _, _, _, rfl, (by first | exact P2 | rfl), (by first | exact P4 | rfl), H0, H1, H2, fun _ => rfl, fun _ => (by first | rfl | simp), K0, fun h => (F1 h), fun h => (G1 h), B2, BW⟩
    exact Steps.nil
  case fin =>
    intro L a wx hall hI
    refine ex_21 hI (fun x0 x1 x2 x3 x4 x5 x6 x7 x8 x9 x10 x11 x12 x13 x14 x15 x16 x17 x18 x19 x20 hI => ?_)
    obtain ⟨rfl, P2, P4, H0, H1, H2, H3, H5, K0, F1, G1, B2, BW⟩ := hI
    have E0 := H0 (hall 0 (by decide))
    have E1 := H1 (hall 1 (by decide))
    have E2 := H2 (hall 2 (by decide))
    have E3 := H3 (hall 3 (by decide))
    have E5 := H5 (hall 5 (by decide))
    have K1 := G1 (hall 4 (by decide))
    clear hall H0 H1 H2 H3 H5 F1 G1
    subst E0 E1 E2 E3 E5 P2 P4
    go_wp2_with fail
    exact bodyPost_ret (res2 Try.results46 _ rfl K1 la) rfl ⟨rfl, BW⟩
set_option maxRecDepth 100000 in
set_option maxHeartbeats 16000000 in
theorem signed_m {x : Int} (h0 : 0 ≤ x) (h1 : x < 18446744073709551616 ^ 16) (w : World) : Calls Try.prog 46 #[.agg (U (lim x)), .bool true] w fun e w' => e = .returned (.tuple #[.agg (U (lim (-x))), .bool (decide (InW (-x)))]) ∧ Below w.heap.size w w' := by
  have la := lim_len x
  have ln := lim_len (-x)
  have Bx := fun W => below_t (-x) W
  have NG := fun W => neg_c x W
  have EQ := fun W => run_eqlZ (-x) W
  have T : decide (InW (-x)) = (top (lim (-x)) || decide (lim (-x) = zeros)) := by
    rw [top_wide (by omega) (by omega)]
    by_cases hz : x = 0
    · subst hz; decide
    · have e : decide (lim (-x) = zeros) = false := by
        rw [decide_eq_false_iff_not, zeros_lim]
        intro h
        have := congrArg val h
        rw [val_lim, val_lim] at this
        omega
      rw [e, Bool.or_false, decide_eq_decide]
      unfold InW
      omega
  rw [T]
  generalize top (lim (-x)) = tx at *
  generalize decide (lim (-x) = zeros) = ez at *
  clear T
  obtain ⟨k0, k1, b0⟩ := start2 w (lim x) _ rfl
  go_enter Try.func46, Try.ntmps46
  go_wp2_with (refine ldW k0 la _ rfl rfl rfl ?_)
  refine (NG _).mono ?_; rintro e w0 ⟨rfl, g0⟩
  have j0 := k0.keep g0
  have k1 := k1.keep g0
  have b1 := bb b0 g0
  go_wp2_with (refine stW j0 la ln _ _ rfl rfl rfl rfl ?_)
  have k0 := put_ (cs := U (lim (-x))) j0
  have k1 := far_ (b := w.heap.size) (cs := U (lim (-x))) k1 (by omega)
  have BW := below_row b1 (Nat.le_refl _) (U (lim (-x)))
  have N0 := k0.lt
  have N1 := k1.lt
  clear j0 b1 b0 g0
  generalize w0.setRow w.heap.size (U (lim (-x))) = w1 at *
  cases tx
  · refine region_steps (fun L a wx => ∃ (x0 x1 x2 x3 x4 x5 x6 x7 x8 x9 x10 x11 x12 x13 x14 x15 x16 x17 x18 x19 x20 : Value), a = { tmps := #[x0, x1, x2, x3, x4, x5, x6, x7, x8, x9, x10, x11, x12, x13, x14, x15, x16, x17, x18, x19, x20], defers := [] } ∧ x2 = .pointer (some ⟨w.heap.size, 0, none⟩) ∧ x4 = .pointer (some ⟨(w.heap.size + 1), 0, none⟩) ∧ (L 0 = true → x9 = .agg (U (lim (-x)))) ∧ (L 1 = true → x10 = .agg (U (lim (-x)))) ∧ (L 2 = true → x11 = .bool false) ∧ (L 3 = true → x12 = .bool false) ∧ (L 4 = true → x13 = .agg (U (lim (-x)))) ∧ (L 5 = true → x14 = .agg #[.int .u64 0, .int .u64 0, .int .u64 0, .int .u64 0, .int .u64 0, .int .u64 0, .int .u64 0, .int .u64 0, .int .u64 0, .int .u64 0, .int .u64 0, .int .u64 0, .int .u64 0, .int .u64 0, .int .u64 0, .int .u64 0]) ∧ (L 6 = true → x15 = .bool ez) ∧ (L 7 = true → x16 = .bool ez) ∧ (L 9 = true → x5 = .bool ez) ∧ Blk wx w.heap.size (U (lim (-x))) 27 ∧ (L 8 = false → Blk wx (w.heap.size + 1) (U (zeros)) 27) ∧ (L 8 = true → Blk wx (w.heap.size + 1) (U (lim (-x))) 27) ∧ w1.heap.size ≤ wx.heap.size ∧ Below w.heap.size w wx) [0, 1, 2, 3, 4, 5, 6, 7, 8, 9] (by kernel_rfl) (by kernel_rfl) (by kernel_rfl) ?start ?steps ?fin
    case start =>
      exact ⟨_, _, _, _, _, _, _, _, _, _, _, _, _, _, _, _, _, _, _, _, _, rfl, (by first | rfl | simp only [*]), (by first | rfl | simp only [*]), fun h => absurd h (by decide), fun h => absurd h (by decide), fun h => absurd h (by decide), fun h => absurd h (by decide), fun h => absurd h (by decide), fun h => absurd h (by decide), fun h => absurd h (by decide), fun h => absurd h (by decide), fun h => absurd h (by decide), k0.drew, fun _ => k1.drew, fun h => absurd h (by decide), Nat.le_refl _, BW.drew⟩
    case steps =>
      refine Steps.cons rfl (fun L a wx K hK hL hp hI => ?_) ?_
      · refine ex_21 hI (fun x0 x1 x2 x3 x4 x5 x6 x7 x8 x9 x10 x11 x12 x13 x14 x15 x16 x17 x18 x19 x20 hI => ?_)
        obtain ⟨rfl, P2, P4, H0, H1, H2, H3, H4, H5, H6, H7, H9, K0, F1, G1, B2, BW⟩ := hI
        clear hp
        subst P2
        refine wanted_ (by rfl) ?_
        refine wp_load_row 27 _ rfl w.heap.size rfl 27 (U (lim (-x))) (0, 0) _ K0 Try.underlying27 rfl (ofLen ln) ?_
        (try simp only [Act.put, List.setIfInBounds_toArray, List.set_cons_zero, List.set_cons_succ])
        exact hK.out _ _ ⟨_, _, _, _, _, _, _, _, _, _, _, _, _, _, _, _, _, _, _, _, _, rfl, rfl, P4, fun _ => rfl, H1, H2, H3, H4, H5, H6, H7, H9, K0, fun h => (F1 h), fun h => (G1 h), B2, BW⟩
      refine Steps.cons rfl (fun L a wx K hK hL hp hI => ?_) ?_
      · refine ex_21 hI (fun x0 x1 x2 x3 x4 x5 x6 x7 x8 x9 x10 x11 x12 x13 x14 x15 x16 x17 x18 x19 x20 hI => ?_)
        obtain ⟨rfl, P2, P4, H0, H1, H2, H3, H4, H5, H6, H7, H9, K0, F1, G1, B2, BW⟩ := hI
        clear hp
        subst P2
        refine wanted_ (by rfl) ?_
        refine wp_load_row 27 _ rfl w.heap.size rfl 27 (U (lim (-x))) (0, 0) _ K0 Try.underlying27 rfl (ofLen ln) ?_
        (try simp only [Act.put, List.setIfInBounds_toArray, List.set_cons_zero, List.set_cons_succ])
        exact hK.out _ _ ⟨_, _, _, _, _, _, _, _, _, _, _, _, _, _, _, _, _, _, _, _, _, rfl, rfl, P4, H0, fun _ => rfl, H2, H3, H4, H5, H6, H7, H9, K0, fun h => (F1 h), fun h => (G1 h), B2, BW⟩
      refine Steps.cons rfl (fun L a wx K hK hL hp hI => ?_) ?_
      · refine ex_21 hI (fun x0 x1 x2 x3 x4 x5 x6 x7 x8 x9 x10 x11 x12 x13 x14 x15 x16 x17 x18 x19 x20 hI => ?_)
        obtain ⟨rfl, P2, P4, H0, H1, H2, H3, H4, H5, H6, H7, H9, K0, F1, G1, B2, BW⟩ := hI
        have p1 : L 1 = true := hp ⟨1, .data⟩ (by simp) rfl
        have e1 := H1 p1
        clear hp
        subst e1
        refine wanted_ (by rfl) ?_
        refine goesK_ Try.func41 (by kernel_rfl) rfl #[.agg (U (lim (-x)))] rfl (by simp [Act.eval]) ?_
        refine (Bx _).mono ?_
        rintro e w' ⟨rfl, g⟩
        refine ⟨_, rfl, ?_⟩
        (try simp only [Act.put, List.setIfInBounds_toArray, List.set_cons_zero, List.set_cons_succ])
        exact hK.out _ _ ⟨_, _, _, _, _, _, _, _, _, _, _, _, _, _, _, _, _, _, _, _, _, rfl, P2, P4, H0, fun _ => rfl, fun _ => rfl, H3, H4, H5, H6, H7, H9, (Blk.keep K0 g), fun h => (Blk.keep (F1 h) g), fun h => (Blk.keep (G1 h) g), Nat.le_trans B2 g.size, bb BW g⟩
      refine Steps.cons rfl (fun L a wx K hK hL hp hI => ?_) ?_
      · refine ex_21 hI (fun x0 x1 x2 x3 x4 x5 x6 x7 x8 x9 x10 x11 x12 x13 x14 x15 x16 x17 x18 x19 x20 hI => ?_)
        obtain ⟨rfl, P2, P4, H0, H1, H2, H3, H4, H5, H6, H7, H9, K0, F1, G1, B2, BW⟩ := hI
        have p2 : L 2 = true := hp ⟨2, .data⟩ (by simp) rfl
        have e2 := H2 p2
        clear hp
        subst e2
        go_simp
        exact hK.out _ _ ⟨_, _, _, _, _, _, _, _, _, _, _, _, _, _, _, _, _, _, _, _, _, rfl, (by first | exact P2 | rfl), (by first | exact P4 | rfl), H0, H1, fun _ => rfl, fun _ => (by first | rfl | simp), H4, H5, H6, H7, H9, K0, fun h => (F1 h), fun h => (G1 h), B2, BW⟩
      refine Steps.cons rfl (fun L a wx K hK hL hp hI => ?_) ?_
      · refine ex_21 hI (fun x0 x1 x2 x3 x4 x5 x6 x7 x8 x9 x10 x11 x12 x13 x14 x15 x16 x17 x18 x19 x20 hI => ?_)
        obtain ⟨rfl, P2, P4, H0, H1, H2, H3, H4, H5, H6, H7, H9, K0, F1, G1, B2, BW⟩ := hI
        have p3 : L 3 = true := hp ⟨3, .guard⟩ (by simp) rfl
        have e3 := H3 p3
        clear hp
        subst e3 P2
        refine wanted_ (by rfl) ?_
        refine wp_load_row 27 _ rfl w.heap.size rfl 27 (U (lim (-x))) (0, 0) _ K0 Try.underlying27 rfl (ofLen ln) ?_
        (try simp only [Act.put, List.setIfInBounds_toArray, List.set_cons_zero, List.set_cons_succ])
        exact hK.out _ _ ⟨_, _, _, _, _, _, _, _, _, _, _, _, _, _, _, _, _, _, _, _, _, rfl, rfl, P4, H0, H1, H2, fun _ => rfl, fun _ => rfl, H5, H6, H7, H9, K0, fun h => (F1 h), fun h => (G1 h), B2, BW⟩
      refine Steps.cons rfl (fun L a wx K hK hL hp hI => ?_) ?_
      · refine ex_21 hI (fun x0 x1 x2 x3 x4 x5 x6 x7 x8 x9 x10 x11 x12 x13 x14 x15 x16 x17 x18 x19 x20 hI => ?_)
        obtain ⟨rfl, P2, P4, H0, H1, H2, H3, H4, H5, H6, H7, H9, K0, F1, G1, B2, BW⟩ := hI
        have p3 : L 3 = true := hp ⟨3, .guard⟩ (by simp) rfl
        have e3 := H3 p3
        clear hp
        subst e3
        go_simp
        exact hK.out _ _ ⟨_, _, _, _, _, _, _, _, _, _, _, _, _, _, _, _, _, _, _, _, _, rfl, (by first | exact P2 | rfl), (by first | exact P4 | rfl), H0, H1, H2, fun _ => rfl, H4, fun _ => (by first | rfl | simp), H6, H7, H9, K0, fun h => (F1 h), fun h => (G1 h), B2, BW⟩
      refine Steps.cons rfl (fun L a wx K hK hL hp hI => ?_) ?_
      · refine ex_21 hI (fun x0 x1 x2 x3 x4 x5 x6 x7 x8 x9 x10 x11 x12 x13 x14 x15 x16 x17 x18 x19 x20 hI => ?_)
        obtain ⟨rfl, P2, P4, H0, H1, H2, H3, H4, H5, H6, H7, H9, K0, F1, G1, B2, BW⟩ := hI
        have p4 : L 4 = true := hp ⟨4, .data⟩ (by simp) rfl
        have e4 := H4 p4
        have p5 : L 5 = true := hp ⟨5, .data⟩ (by simp) rfl
        have e5 := H5 p5
        have p3 : L 3 = true := hp ⟨3, .guard⟩ (by simp) rfl
        have e3 := H3 p3
        clear hp
        subst e4 e5 e3
        go_simp
        exact hK.out _ _ ⟨_, _, _, _, _, _, _, _, _, _, _, _, _, _, _, _, _, _, _, _, _, rfl, (by first | exact P2 | rfl), (by first | exact P4 | rfl), H0, H1, H2, fun _ => rfl, fun _ => rfl, fun _ => rfl, fun _ => (by first | rfl | simp), H7, H9, K0, fun h => (F1 h), fun h => (G1 h), B2, BW⟩
      refine Steps.cons rfl (fun L a wx K hK hL hp hI => ?_) ?_
      · refine ex_21 hI (fun x0 x1 x2 x3 x4 x5 x6 x7 x8 x9 x10 x11 x12 x13 x14 x15 x16 x17 x18 x19 x20 hI => ?_)
        obtain ⟨rfl, P2, P4, H0, H1, H2, H3, H4, H5, H6, H7, H9, K0, F1, G1, B2, BW⟩ := hI
        have p3 : L 3 = true := hp ⟨3, .data⟩ (by simp) rfl
        have e3 := H3 p3
        have p6 : L 6 = true := hp ⟨6, .data⟩ (by simp) rfl
        have e6 := H6 p6
        clear hp
        subst e3 e6
        go_simp
        exact hK.out _ _ ⟨_, _, _, _, _, _, _, _, _, _, _, _, _, _, _, _, _, _, _, _, _, rfl, (by first | exact P2 | rfl), (by first | exact P4 | rfl), H0, H1, H2, fun _ => rfl, H4, H5, fun _ => rfl, fun _ => (by first | rfl | simp), H9, K0, fun h => (F1 h), fun h => (G1 h), B2, BW⟩
      refine Steps.cons rfl (fun L a wx K hK hL hp hI => ?_) ?_
      · refine ex_21 hI (fun x0 x1 x2 x3 x4 x5 x6 x7 x8 x9 x10 x11 x12 x13 x14 x15 x16 x17 x18 x19 x20 hI => ?_)
        obtain ⟨rfl, P2, P4, H0, H1, H2, H3, H4, H5, H6, H7, H9, K0, F1, G1, B2, BW⟩ := hI
        have p0 : L 0 = true := hp ⟨0, .data⟩ (by simp) rfl
        have e0 := H0 p0
        clear hp
        subst e0 P4
        have N_0 := N0
        have N_1 := N1
        refine wanted_ (by rfl) ?_
        refine wp_store_row 27 _ _ rfl (w.heap.size + 1) (U (lim (-x))) rfl rfl 27 (U (zeros)) (F1 hL) (ofLen ln) (by rw [U_size, U_size, zeros_len, ln]) (one_cell _) ?_
        (try simp only [Act.put, List.setIfInBounds_toArray, List.set_cons_zero, List.set_cons_succ])
        exact hK.out _ _ ⟨_, _, _, _, _, _, _, _, _, _, _, _, _, _, _, _, _, _, _, _, _, rfl, P2, rfl, fun _ => rfl, H1, H2, H3, H4, H5, H6, H7, H9, (far_ K0 (by omega)), fun h => absurd h (by simp [YInv.up]), fun _ => put_ (F1 hL), (by simp; exact B2), below_row BW (by omega) _⟩
      refine Steps.cons rfl (fun L a wx K hK hL hp hI => ?_) ?_
      · refine ex_21 hI (fun x0 x1 x2 x3 x4 x5 x6 x7 x8 x9 x10 x11 x12 x13 x14 x15 x16 x17 x18 x19 x20 hI => ?_)
        obtain ⟨rfl, P2, P4, H0, H1, H2, H3, H4, H5, H6, H7, H9, K0, F1, G1, B2, BW⟩ := hI
        have p7 : L 7 = true := hp ⟨7, .data⟩ (by simp) rfl
        have e7 := H7 p7
        clear hp
        subst e7
        go_simp
        exact hK.out _ _ ⟨_, _, _, _, _, _, _, _, _, _, _, _, _, _, _, _, _, _, _, _, _, rfl, (by first | exact P2 | rfl), (by first | exact P4 | rfl), H0, H1, H2, H3, H4, H5, H6, fun _ => rfl, fun _ => (by first | rfl | simp), K0, fun h => (F1 h), fun h => (G1 h), B2, BW⟩
      exact Steps.nil
    case fin =>
      intro L a wx hall hI
      refine ex_21 hI (fun x0 x1 x2 x3 x4 x5 x6 x7 x8 x9 x10 x11 x12 x13 x14 x15 x16 x17 x18 x19 x20 hI => ?_)
      obtain ⟨rfl, P2, P4, H0, H1, H2, H3, H4, H5, H6, H7, H9, K0, F1, G1, B2, BW⟩ := hI
      have E0 := H0 (hall 0 (by decide))
      have E1 := H1 (hall 1 (by decide))
      have E2 := H2 (hall 2 (by decide))
      have E3 := H3 (hall 3 (by decide))
      have E4 := H4 (hall 4 (by decide))
      have E5 := H5 (hall 5 (by decide))
      have E6 := H6 (hall 6 (by decide))
      have E7 := H7 (hall 7 (by decide))
      have E9 := H9 (hall 9 (by decide))
      have K1 := G1 (hall 8 (by decide))
      clear hall H0 H1 H2 H3 H4 H5 H6 H7 H9 F1 G1
      subst E0 E1 E2 E3 E4 E5 E6 E7 E9 P2 P4
      go_wp2_with fail
      exact bodyPost_ret (res2 Try.results46 _ rfl K1 ln) rfl ⟨by simp, BW⟩
  · refine region_steps (fun L a wx => ∃ (x0 x1 x2 x3 x4 x5 x6 x7 x8 x9 x10 x11 x12 x13 x14 x15 x16 x17 x18 x19 x20 : Value), a = { tmps := #[x0, x1, x2, x3, x4, x5, x6, x7, x8, x9, x10, x11, x12, x13, x14, x15, x16, x17, x18, x19, x20], defers := [] } ∧ x2 = .pointer (some ⟨w.heap.size, 0, none⟩) ∧ x4 = .pointer (some ⟨(w.heap.size + 1), 0, none⟩) ∧ (L 0 = true → x9 = .agg (U (lim (-x)))) ∧ (L 1 = true → x10 = .agg (U (lim (-x)))) ∧ (L 2 = true → x11 = .bool true) ∧ (L 3 = true → x12 = .bool true) ∧ (L 4 = true → x13 = undef) ∧ (L 5 = true → x14 = undef) ∧ (L 6 = true → x15 = undef) ∧ (L 7 = true → x16 = .bool true) ∧ (L 9 = true → x5 = .bool true) ∧ Blk wx w.heap.size (U (lim (-x))) 27 ∧ (L 8 = false → Blk wx (w.heap.size + 1) (U (zeros)) 27) ∧ (L 8 = true → Blk wx (w.heap.size + 1) (U (lim (-x))) 27) ∧ w1.heap.size ≤ wx.heap.size ∧ Below w.heap.size w wx) [0, 1, 2, 3, 4, 5, 6, 7, 8, 9] (by kernel_rfl) (by kernel_rfl) (by kernel_rfl) ?start ?steps ?fin
    case start =>
      exact ⟨_, _, _, _, _, _, _, _, _, _, _, _, _, _, _, _, _, _, _, _, _, rfl, (by first | rfl | simp only [*]), (by first | rfl | simp only [*]), fun h => absurd h (by decide), fun h => absurd h (by decide), fun h => absurd h (by decide), fun h => absurd h (by decide), fun h => absurd h (by decide), fun h => absurd h (by decide), fun h => absurd h (by decide), fun h => absurd h (by decide), fun h => absurd h (by decide), k0.drew, fun _ => k1.drew, fun h => absurd h (by decide), Nat.le_refl _, BW.drew⟩
    case steps =>
      refine Steps.cons rfl (fun L a wx K hK hL hp hI => ?_) ?_
      · refine ex_21 hI (fun x0 x1 x2 x3 x4 x5 x6 x7 x8 x9 x10 x11 x12 x13 x14 x15 x16 x17 x18 x19 x20 hI => ?_)
        obtain ⟨rfl, P2, P4, H0, H1, H2, H3, H4, H5, H6, H7, H9, K0, F1, G1, B2, BW⟩ := hI
        clear hp
        subst P2
        refine wanted_ (by rfl) ?_
        refine wp_load_row 27 _ rfl w.heap.size rfl 27 (U (lim (-x))) (0, 0) _ K0 Try.underlying27 rfl (ofLen ln) ?_
        (try simp only [Act.put, List.setIfInBounds_toArray, List.set_cons_zero, List.set_cons_succ])
        exact hK.out _ _ ⟨_, _, _, _, _, _, _, _, _, _, _, _, _, _, _, _, _, _, _, _, _, rfl, rfl, P4, fun _ => rfl, H1, H2, H3, H4, H5, H6, H7, H9, K0, fun h => (F1 h), fun h => (G1 h), B2, BW⟩
      refine Steps.cons rfl (fun L a wx K hK hL hp hI => ?_) ?_
      · refine ex_21 hI (fun x0 x1 x2 x3 x4 x5 x6 x7 x8 x9 x10 x11 x12 x13 x14 x15 x16 x17 x18 x19 x20 hI => ?_)
        obtain ⟨rfl, P2, P4, H0, H1, H2, H3, H4, H5, H6, H7, H9, K0, F1, G1, B2, BW⟩ := hI
        clear hp
        subst P2
        refine wanted_ (by rfl) ?_
        refine wp_load_row 27 _ rfl w.heap.size rfl 27 (U (lim (-x))) (0, 0) _ K0 Try.underlying27 rfl (ofLen ln) ?_
        (try simp only [Act.put, List.setIfInBounds_toArray, List.set_cons_zero, List.set_cons_succ])
        exact hK.out _ _ ⟨_, _, _, _, _, _, _, _, _, _, _, _, _, _, _, _, _, _, _, _, _, rfl, rfl, P4, H0, fun _ => rfl, H2, H3, H4, H5, H6, H7, H9, K0, fun h => (F1 h), fun h => (G1 h), B2, BW⟩
      refine Steps.cons rfl (fun L a wx K hK hL hp hI => ?_) ?_
      · refine ex_21 hI (fun x0 x1 x2 x3 x4 x5 x6 x7 x8 x9 x10 x11 x12 x13 x14 x15 x16 x17 x18 x19 x20 hI => ?_)
        obtain ⟨rfl, P2, P4, H0, H1, H2, H3, H4, H5, H6, H7, H9, K0, F1, G1, B2, BW⟩ := hI
        have p1 : L 1 = true := hp ⟨1, .data⟩ (by simp) rfl
        have e1 := H1 p1
        clear hp
        subst e1
        refine wanted_ (by rfl) ?_
        refine goesK_ Try.func41 (by kernel_rfl) rfl #[.agg (U (lim (-x)))] rfl (by simp [Act.eval]) ?_
        refine (Bx _).mono ?_
        rintro e w' ⟨rfl, g⟩
        refine ⟨_, rfl, ?_⟩
        (try simp only [Act.put, List.setIfInBounds_toArray, List.set_cons_zero, List.set_cons_succ])
        exact hK.out _ _ ⟨_, _, _, _, _, _, _, _, _, _, _, _, _, _, _, _, _, _, _, _, _, rfl, P2, P4, H0, fun _ => rfl, fun _ => rfl, H3, H4, H5, H6, H7, H9, (Blk.keep K0 g), fun h => (Blk.keep (F1 h) g), fun h => (Blk.keep (G1 h) g), Nat.le_trans B2 g.size, bb BW g⟩
      refine Steps.cons rfl (fun L a wx K hK hL hp hI => ?_) ?_
      · refine ex_21 hI (fun x0 x1 x2 x3 x4 x5 x6 x7 x8 x9 x10 x11 x12 x13 x14 x15 x16 x17 x18 x19 x20 hI => ?_)
        obtain ⟨rfl, P2, P4, H0, H1, H2, H3, H4, H5, H6, H7, H9, K0, F1, G1, B2, BW⟩ := hI
        have p2 : L 2 = true := hp ⟨2, .data⟩ (by simp) rfl
        have e2 := H2 p2
        clear hp
        subst e2
        go_simp
        exact hK.out _ _ ⟨_, _, _, _, _, _, _, _, _, _, _, _, _, _, _, _, _, _, _, _, _, rfl, (by first | exact P2 | rfl), (by first | exact P4 | rfl), H0, H1, fun _ => rfl, fun _ => (by first | rfl | simp), H4, H5, H6, H7, H9, K0, fun h => (F1 h), fun h => (G1 h), B2, BW⟩
      refine Steps.cons rfl (fun L a wx K hK hL hp hI => ?_) ?_
      · refine ex_21 hI (fun x0 x1 x2 x3 x4 x5 x6 x7 x8 x9 x10 x11 x12 x13 x14 x15 x16 x17 x18 x19 x20 hI => ?_)
        obtain ⟨rfl, P2, P4, H0, H1, H2, H3, H4, H5, H6, H7, H9, K0, F1, G1, B2, BW⟩ := hI
        have p3 : L 3 = true := hp ⟨3, .guard⟩ (by simp) rfl
        have e3 := H3 p3
        clear hp
        subst e3 P2
        go_simp
        exact hK.out _ _ ⟨_, _, _, _, _, _, _, _, _, _, _, _, _, _, _, _, _, _, _, _, _, rfl, rfl, (by first | exact P4 | rfl), H0, H1, H2, fun _ => rfl, fun _ => rfl, H5, H6, H7, H9, K0, fun h => (F1 h), fun h => (G1 h), B2, BW⟩
      refine Steps.cons rfl (fun L a wx K hK hL hp hI => ?_) ?_
      · refine ex_21 hI (fun x0 x1 x2 x3 x4 x5 x6 x7 x8 x9 x10 x11 x12 x13 x14 x15 x16 x17 x18 x19 x20 hI => ?_)
        obtain ⟨rfl, P2, P4, H0, H1, H2, H3, H4, H5, H6, H7, H9, K0, F1, G1, B2, BW⟩ := hI
        have p3 : L 3 = true := hp ⟨3, .guard⟩ (by simp) rfl
        have e3 := H3 p3
        clear hp
        subst e3
        go_simp
        exact hK.out _ _ ⟨_, _, _, _, _, _, _, _, _, _, _, _, _, _, _, _, _, _, _, _, _, rfl, (by first | exact P2 | rfl), (by first | exact P4 | rfl), H0, H1, H2, fun _ => rfl, H4, fun _ => rfl, H6, H7, H9, K0, fun h => (F1 h), fun h => (G1 h), B2, BW⟩
      refine Steps.cons rfl (fun L a wx K hK hL hp hI => ?_) ?_
      · refine ex_21 hI (fun x0 x1 x2 x3 x4 x5 x6 x7 x8 x9 x10 x11 x12 x13 x14 x15 x16 x17 x18 x19 x20 hI => ?_)
        obtain ⟨rfl, P2, P4, H0, H1, H2, H3, H4, H5, H6, H7, H9, K0, F1, G1, B2, BW⟩ := hI
        have p4 : L 4 = true := hp ⟨4, .data⟩ (by simp) rfl
        have e4 := H4 p4
        have p5 : L 5 = true := hp ⟨5, .data⟩ (by simp) rfl
        have e5 := H5 p5
        have p3 : L 3 = true := hp ⟨3, .guard⟩ (by simp) rfl
        have e3 := H3 p3
        clear hp
        subst e4 e5 e3
        go_simp
        exact hK.out _ _ ⟨_, _, _, _, _, _, _, _, _, _, _, _, _, _, _, _, _, _, _, _, _, rfl, (by first | exact P2 | rfl), (by first | exact P4 | rfl), H0, H1, H2, fun _ => rfl, fun _ => rfl, fun _ => rfl, fun _ => rfl, H7, H9, K0, fun h => (F1 h), fun h => (G1 h), B2, BW⟩
      refine Steps.cons rfl (fun L a wx K hK hL hp hI => ?_) ?_
      · refine ex_21 hI (fun x0 x1 x2 x3 x4 x5 x6 x7 x8 x9 x10 x11 x12 x13 x14 x15 x16 x17 x18 x19 x20 hI => ?_)
        obtain ⟨rfl, P2, P4, H0, H1, H2, H3, H4, H5, H6, H7, H9, K0, F1, G1, B2, BW⟩ := hI
        have p3 : L 3 = true := hp ⟨3, .data⟩ (by simp) rfl
        have e3 := H3 p3
        have p6 : L 6 = true := hp ⟨6, .data⟩ (by simp) rfl
        have e6 := H6 p6
        clear hp
        subst e3 e6
        go_simp
        exact hK.out _ _ ⟨_, _, _, _, _, _, _, _, _, _, _, _, _, _, _, _, _, _, _, _, _, rfl, (by first | exact P2 | rfl), (by first | exact P4 | rfl), H0, H1, H2, fun _ => rfl, H4, H5, fun _ => rfl, fun _ => (by first | rfl | simp), H9, K0, fun h => (F1 h), fun h => (G1 h), B2, BW⟩
      refine Steps.cons rfl (fun L a wx K hK hL hp hI => ?_) ?_
      · refine ex_21 hI (fun x0 x1 x2 x3 x4 x5 x6 x7 x8 x9 x10 x11 x12 x13 x14 x15 x16 x17 x18 x19 x20 hI => ?_)
        obtain ⟨rfl, P2, P4, H0, H1, H2, H3, H4, H5, H6, H7, H9, K0, F1, G1, B2, BW⟩ := hI
        have p0 : L 0 = true := hp ⟨0, .data⟩ (by simp) rfl
        have e0 := H0 p0
        clear hp
        subst e0 P4
        have N_0 := N0
        have N_1 := N1
        refine wanted_ (by rfl) ?_
        refine wp_store_row 27 _ _ rfl (w.heap.size + 1) (U (lim (-x))) rfl rfl 27 (U (zeros)) (F1 hL) (ofLen ln) (by rw [U_size, U_size, zeros_len, ln]) (one_cell _) ?_
        (try simp only [Act.put, List.setIfInBounds_toArray, List.set_cons_zero, List.set_cons_succ])
        exact hK.out _ _ ⟨_, _, _, _, _, _, _, _, _, _, _, _, _, _, _, _, _, _, _, _, _, rfl, P2, rfl, fun _ => rfl, H1, H2, H3, H4, H5, H6, H7, H9, (far_ K0 (by omega)), fun h => absurd h (by simp [YInv.up]), fun _ => put_ (F1 hL), (by simp; exact B2), below_row BW (by omega) _⟩
      refine Steps.cons rfl (fun L a wx K hK hL hp hI => ?_) ?_
      · refine ex_21 hI (fun x0 x1 x2 x3 x4 x5 x6 x7 x8 x9 x10 x11 x12 x13 x14 x15 x16 x17 x18 x19 x20 hI => ?_)
        obtain ⟨rfl, P2, P4, H0, H1, H2, H3, H4, H5, H6, H7, H9, K0, F1, G1, B2, BW⟩ := hI
        have p7 : L 7 = true := hp ⟨7, .data⟩ (by simp) rfl
        have e7 := H7 p7
        clear hp
        subst e7
        go_simp
        exact hK.out _ _ ⟨_, _, _, _, _, _, _, _, _, _, _, _, _, _, _, _, _, _, _, _, _, rfl, (by first | exact P2 | rfl), (by first | exact P4 | rfl), H0, H1, H2, H3, H4, H5, H6, fun _ => rfl, fun _ => (by first | rfl | simp), K0, fun h => (F1 h), fun h => (G1 h), B2, BW⟩
      exact Steps.nil
    case fin =>
      intro L a wx hall hI
      refine ex_21 hI (fun x0 x1 x2 x3 x4 x5 x6 x7 x8 x9 x10 x11 x12 x13 x14 x15 x16 x17 x18 x19 x20 hI => ?_)
      obtain ⟨rfl, P2, P4, H0, H1, H2, H3, H4, H5, H6, H7, H9, K0, F1, G1, B2, BW⟩ := hI
      have E0 := H0 (hall 0 (by decide))
      have E1 := H1 (hall 1 (by decide))
      have E2 := H2 (hall 2 (by decide))
      have E3 := H3 (hall 3 (by decide))
      have E4 := H4 (hall 4 (by decide))
      have E5 := H5 (hall 5 (by decide))
      have E6 := H6 (hall 6 (by decide))
      have E7 := H7 (hall 7 (by decide))
      have E9 := H9 (hall 9 (by decide))
      have K1 := G1 (hall 8 (by decide))
      clear hall H0 H1 H2 H3 H4 H5 H6 H7 H9 F1 G1
      subst E0 E1 E2 E3 E4 E5 E6 E7 E9 P2 P4
      go_wp2_with fail
      exact bodyPost_ret (res2 Try.results46 _ rfl K1 ln) rfl ⟨by simp, BW⟩
end Go.Proofs.Ytpdljoalfmgfiaa.YWide
