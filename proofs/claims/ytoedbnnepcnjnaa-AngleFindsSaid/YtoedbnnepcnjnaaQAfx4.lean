/- Lean functions for Go functions that a statement reaches, and a proof that the calls come to them. Written by a program of this session. -/
import Derived.Test.YtoedbnnepcnjnaaQAfx0
import Derived.Test.YtoedbnnepcnjnaaQAfx1
import Derived.Test.YtoedbnnepcnjnaaQAfx2
import Derived.Test.YtoedbnnepcnjnaaQAfx3
namespace Go.Proofs.Ytoedbnnepcnjnaa.QAf
open Go.Proofs.Ytoedbnnepcnjnaa.XCarry Go.RowKit Go.Proofs.YtoedbnnepcnjnaaW.PrintWords Go.Proofs.YtoedbnnepcnjnaaW.PrintLast Go.Proofs.YtoedbnnepcnjnaaW.PrintMore
attribute [local go_sem] max2_int min2_int max_two min_two max_three min_three max_four min_four   -- for this text's walks alone
set_option linter.unusedVariables false
set_option linter.unusedSimpArgs false

/-! ### leadlineref1_Fits: function 49 -/
def leadlineref1_Fits.f (k : Nat) (a0_0 : Bool) (l0_1 : List Int) (a1 : Int) : Option (Bool) := (leadlineref1_Amount.f a0_0 l0_1).bind fun bt241 => ((leadlineref1_Of.f k a1).bind fun bt245 => ((leadlineref1_Cmp.f k bt241.1 bt241.2 bt245.1 bt245.2).bind fun t249 => (some (decide (t249 ≤ 0)))))
theorem leadlineref1_Fits.mono : ∀ a0 a1 a2 k, LeO (leadlineref1_Fits.f k a0 a1 a2) (leadlineref1_Fits.f (k + 1) a0 a1 a2) := by
  intro a0 a1 a2 k
  unfold leadlineref1_Fits.f
  repeat' first
      | (with_reducible exact leadlineref1_Cmp.mono _ _ _ _ _)
      | (with_reducible exact leadlineref1_Of.mono _ _)
      | (with_reducible exact LeO.refl _)
      | (with_reducible exact LeO.none _)
      | (with_reducible refine LeO.ite ?_ ?_)
      | (with_reducible refine LeO.bind ?_ (fun _ => ?_))
      | exact leadlineref1_Cmp.mono _ _ _ _ _
      | exact leadlineref1_Of.mono _ _
      | exact LeO.none _
      | refine LeO.ite ?_ ?_
      | refine LeO.bind ?_ (fun _ => ?_)
set_option maxHeartbeats 8000000 in
set_option maxRecDepth 100000 in
theorem leadlineref1_Fits.calls (k : Nat) (a0_0 : Bool) (A0_1 : Option Addr) (c0_1 : Nat) (l0_1 : List Int) (a1 : Int) (r : Bool) (w : World) (hr0_1 : Kd.C (Kd.int .u64) w A0_1 l0_1.length l0_1) (hc0_1 : l0_1.length ≤ c0_1) (h : leadlineref1_Fits.f k a0_0 l0_1 a1 = some r) :
    Calls Try.prog 49 #[.agg #[.bool a0_0, .slice A0_1 l0_1.length c0_1], .int .i64 a1] w fun e w' => e = .returned (.bool r) ∧ Below w.heap.size w w' := by
  have hu46 := Try.underlying46
  have HR0_1 := Aside0.mk hr0_1
  have HC0_1 := Aside0.mk hc0_1
  clear hr0_1 hc0_1
  have HB := Aside0.mk (Below.refl w.heap.size w)
  have H : ((leadlineref1_Amount.f a0_0 l0_1).bind fun bt241 => ((leadlineref1_Of.f k a1).bind fun bt245 => ((leadlineref1_Cmp.f k bt241.1 bt241.2 bt245.1 bt245.2).bind fun t249 => (some (decide (t249 ≤ 0)))))) = some r := h
  clear h
  replace H := Option.bind_eq_some_iff.mp H
  obtain ⟨⟨t241, t242⟩, A30, H⟩ := H
  replace H : ((leadlineref1_Of.f k a1).bind fun bt245 => ((leadlineref1_Cmp.f k t241 t242 bt245.1 bt245.2).bind fun t249 => (some (decide (t249 ≤ 0))))) = some r := H
  have A3 := Aside0.mk A30
  clear A30
  replace H := Option.bind_eq_some_iff.mp H
  obtain ⟨⟨t245, t246⟩, A40, H⟩ := H
  replace H : ((leadlineref1_Cmp.f k t241 t242 t245 t246).bind fun t249 => (some (decide (t249 ≤ 0)))) = some r := H
  have A4 := Aside0.mk A40
  clear A40
  replace H := Option.bind_eq_some_iff.mp H
  obtain ⟨t249, A50, H⟩ := H
  replace H : (some (decide (t249 ≤ 0))) = some r := H
  have A5 := Aside0.mk A50
  clear A50
  obtain rfl := Option.some.inj H
  go_enter Try.func49, Try.ntmps49
  go_wp2_with (first | ((with_reducible refine gate_dst (N := 2) rfl ?_); refine box_event ?hg (N := 2) ?hd (cs := #[.bool a0_0, .slice A0_1 l0_1.length c0_1]) (t := 46) ?hr ?_; (case hd => rfl); (case hg => rfl); (case hr => first | (go_simp; done) | (go_simp; rfl)); intro gb240 hg w6 hbox hb; have n0_ := Aside0.mk (below_step (by repeat (first | (with_reducible first | exact HB.out | apply below_alloc | apply pw_below_drewN | apply below_drew1) | exact HB.out)) hb); have n1_ := Aside0.mk (hbox); have n2_ := Aside0.mk ((by rw [hg]; exact (below_size (by repeat (first | (with_reducible first | exact HB.out | apply below_alloc | apply pw_below_drewN | apply below_drew1) | exact HB.out))) : w.heap.size ≤ gb240)); have n3_ := Aside0.mk ((by rw [hg]; exact (below_size (by repeat (first | (with_reducible first | exact HB.out | apply below_alloc | apply pw_below_drewN | apply below_drew1) | exact HB.out))) : w.heap.size ≤ gb240)); clear HB; have HB := n0_; have BK240 := n1_; have GW240 := n2_; have GE240 := n3_; clear n0_ n1_ n2_ n3_; clear hb hbox hg; have hcz7_0 : w6.cell? ⟨gb240, 0, none⟩ = some (.bool a0_0) := (blk_cell BK240.out 0).trans rfl; have hcz7_1 : w6.cell? ⟨gb240, 1, none⟩ = some (.slice A0_1 l0_1.length c0_1) := (blk_cell BK240.out 1).trans rfl; have hfz7_0 := blk_frozen BK240.out 0; have hfz7_1 := blk_frozen BK240.out 1) | ((with_reducible refine gate_callee (f := 44) rfl ?_); refine goesL_ (some 6) rfl rfl Try.func44 (by kernel_rfl) rfl #[.agg #[.bool a0_0, .slice A0_1 l0_1.length c0_1]] rfl (by (try simp only [List.map_toArray, List.map_cons, List.map_nil]); first | done | rfl | (simp only [List.length_drop, List.length_take]; rfl)) ?_; (with_reducible refine (leadlineref1_Amount.calls a0_0 (fun k_ => k_ < w.heap.size) _ _ l0_1 t241 t242 _ ?side1 A3.out).mono ?_); (case side1 => exact Kd.V_mk HC0_1.out (Kd.F_below (Kd.C_F (Kd.heap_int .u64) HR0_1.out) (by repeat (first | (with_reducible first | exact HB.out | apply below_alloc | apply pw_below_drewN | apply below_drew1 | refine below_set ?_ GE240.out) | exact HB.out)))); rintro e w8 ⟨v243, rfl, ho0, hb⟩; refine ⟨_, rfl, ?_⟩; have n0_ := Aside0.mk (Kd.V_lower (Kd.V_mono (ok' := fun k_ => k_ ≠ gb240) ho0 (fun k_ hk_ => Or.elim hk_ (fun hs_ => fun e_ => Nat.not_le.2 hs_ (by rw [e_]; exact GW240.out)) (fun hn_ => (Kd.freshB (g := gb240) (o := .cells #[.bool a0_0, .slice A0_1 l0_1.length c0_1] 46 (0, 0)) (by (with_reducible repeat (first | refine blk_drewN ?_ _ | refine blk_drew ?_ | refine blk_alloc ?_ _)); exact BK240.out) k_ hn_)))) (below_size (by repeat (first | (with_reducible first | exact HB.out | apply below_alloc | apply pw_below_drewN | apply below_drew1 | refine below_set ?_ GE240.out) | exact HB.out)))); have n1_ := Aside0.mk (blk_below (g := gb240) (o := .cells #[.bool a0_0, .slice A0_1 l0_1.length c0_1] 46 (0, 0)) (by (with_reducible repeat (first | refine blk_drewN ?_ _ | refine blk_drew ?_ | refine blk_alloc ?_ _)); exact BK240.out) hb); have n2_ := Aside0.mk (below_step (by repeat (first | (with_reducible first | exact HB.out | apply below_alloc | apply pw_below_drewN | apply below_drew1 | refine below_set ?_ GE240.out) | exact HB.out)) hb); clear BK240; clear HB; have HO244 := n0_; have BK240 := n1_; have HB := n2_; clear n0_ n1_ n2_; (try clear hb); (try clear hb2); (try clear hk); (try clear hi); (try clear ho0)) | ((with_reducible refine gate_callee (f := 39) rfl ?_); refine goesL_ (some 8) rfl rfl Try.func39 (by kernel_rfl) rfl #[.int .i64 a1] rfl (by (try simp only [List.map_toArray, List.map_cons, List.map_nil]); first | done | rfl | (simp only [List.length_drop, List.length_take]; rfl)) ?_; (with_reducible refine (leadlineref1_Of.calls k a1 t245 t246 _ A4.out).mono ?_); rintro e w9 ⟨v247, rfl, ho0, hb⟩; refine ⟨_, rfl, ?_⟩; have n0_ := Aside0.mk (Kd.V_below (by (with_reducible repeat (first | apply Kd.V_alloc | apply Kd.V_drewN | apply Kd.V_drew)); exact HO244.out) hb); have n1_ := Aside0.mk (Kd.V_lower (Kd.V_mono (ok' := fun k_ => k_ ≠ gb240) ho0 (fun k_ hk_ => (Kd.freshB (g := gb240) (o := .cells #[.bool a0_0, .slice A0_1 l0_1.length c0_1] 46 (0, 0)) (by (with_reducible repeat (first | refine blk_drewN ?_ _ | refine blk_drew ?_ | refine blk_alloc ?_ _)); exact BK240.out) k_ hk_))) (below_size (by repeat (first | (with_reducible first | exact HB.out | apply below_alloc | apply pw_below_drewN | apply below_drew1 | refine below_set ?_ GE240.out) | exact HB.out)))); have n2_ := Aside0.mk (blk_below (g := gb240) (o := .cells #[.bool a0_0, .slice A0_1 l0_1.length c0_1] 46 (0, 0)) (by (with_reducible repeat (first | refine blk_drewN ?_ _ | refine blk_drew ?_ | refine blk_alloc ?_ _)); exact BK240.out) hb); have n3_ := Aside0.mk (below_step (by repeat (first | (with_reducible first | exact HB.out | apply below_alloc | apply pw_below_drewN | apply below_drew1 | refine below_set ?_ GE240.out) | exact HB.out)) hb); clear HO244; clear BK240; clear HB; have HO244 := n0_; have HO248 := n1_; have BK240 := n2_; have HB := n3_; clear n0_ n1_ n2_ n3_; (try clear hb); (try clear hb2); (try clear hk); (try clear hi); (try clear ho0); obtain ⟨Ao10, co10, eo10⟩ := Kd.V_slice HO244.out; subst eo10; obtain ⟨Ao11, co11, eo11⟩ := Kd.V_slice HO248.out; subst eo11) | ((with_reducible refine gate_callee (f := 67) rfl ?_); refine goesL_ (some 9) rfl rfl Try.func67 (by kernel_rfl) rfl #[.agg #[.bool t241, .slice Ao10 t242.length co10], .agg #[.bool t245, .slice Ao11 t246.length co11]] rfl (by (try simp only [List.map_toArray, List.map_cons, List.map_nil]); first | done | rfl | (simp only [List.length_drop, List.length_take]; rfl)) ?_; (with_reducible refine (leadlineref1_Cmp.calls k t241 _ _ t242 t245 _ _ t246 t249 _ ?side1 ?side2 ?side3 ?side4 A5.out).mono ?_); (case side1 => repeat (first | exact (Kd.V_reads' HO244.out).2.2 | (with_reducible refine Kd.C_alloc ?_ _) | (with_reducible refine Kd.C_drewN ?_ _) | (with_reducible refine Kd.C_drew ?_))); (case side2 => exact (Kd.V_reads' HO244.out).2.1); (case side3 => repeat (first | exact (Kd.V_reads' HO248.out).2.2 | (with_reducible refine Kd.C_alloc ?_ _) | (with_reducible refine Kd.C_drewN ?_ _) | (with_reducible refine Kd.C_drew ?_))); (case side4 => exact (Kd.V_reads' HO248.out).2.1); rintro e w12 ⟨rfl, hb⟩; refine ⟨_, rfl, ?_⟩; have n0_ := Aside0.mk (Kd.V_below (by (with_reducible repeat (first | apply Kd.V_alloc | apply Kd.V_drewN | apply Kd.V_drew)); exact HO244.out) hb); have n1_ := Aside0.mk (Kd.V_below (by (with_reducible repeat (first | apply Kd.V_alloc | apply Kd.V_drewN | apply Kd.V_drew)); exact HO248.out) hb); have n2_ := Aside0.mk (blk_below (g := gb240) (o := .cells #[.bool a0_0, .slice A0_1 l0_1.length c0_1] 46 (0, 0)) (by (with_reducible repeat (first | refine blk_drewN ?_ _ | refine blk_drew ?_ | refine blk_alloc ?_ _)); exact BK240.out) hb); have n3_ := Aside0.mk (below_step (by repeat (first | (with_reducible first | exact HB.out | apply below_alloc | apply pw_below_drewN | apply below_drew1 | refine below_set ?_ GE240.out) | exact HB.out)) hb); clear HO244; clear HO248; clear BK240; clear HB; have HO244 := n0_; have HO248 := n1_; have BK240 := n2_; have HB := n3_; clear n0_ n1_ n2_ n3_; (try clear hb); (try clear hb2); (try clear hk); (try clear hi)))
  go_ret
  exact ⟨by first | rfl | (simp [errW_none, errW_some] <;> rfl) | (simp [*, errW_none, errW_some] <;> rfl), by repeat (first | (with_reducible first | exact HB.out | apply below_alloc | apply pw_below_drewN | apply below_drew1 | refine below_set ?_ GE240.out) | exact HB.out)⟩

/-! ### leadlineref1_quarter: function 46 -/
def leadlineref1_quarter.f (a0 : Int) : Option (Int) := some ((wrap64 (a0 * (wrap64 (51472 - ((wrap64 (((wrap64 (a0 * a0)) / 16384) * (wrap64 (21024 - ((wrap64 (((wrap64 (a0 * a0)) / 16384) * 2320)) / 16384))))) / 16384))))) / 16384)
set_option maxHeartbeats 8000000 in
set_option maxRecDepth 100000 in
theorem leadlineref1_quarter.calls (a0 : Int) (r : Int) (w : World) (h : leadlineref1_quarter.f a0 = some r) :
    Calls Try.prog 46 #[.int .i64 a0] w fun e w' => e = .returned (.int .i64 r) ∧ Drawn0 w w' := by
  have H : (some ((wrap64 (a0 * (wrap64 (51472 - ((wrap64 (((wrap64 (a0 * a0)) / 16384) * (wrap64 (21024 - ((wrap64 (((wrap64 (a0 * a0)) / 16384) * 2320)) / 16384))))) / 16384))))) / 16384)) = some r := h
  clear h
  obtain rfl := Option.some.inj H
  go_enter Try.func46, Try.ntmps46
  go_wp2
  go_ret
  exact ⟨by first | rfl | (simp; done) | (simp [*]; done) | (simp [nb1_, nb2_]; done), by repeat (first | exact Drawn0.refl _ | apply Drawn0.step)⟩

/-! ### leadlineref1_Sin: function 17 -/
def leadlineref1_Sin.f (a0 : Int) : Option (Int) := if (a0 / 16384) = 0 then ((leadlineref1_quarter.f (wrap64 (Go.bits .and .u16 a0 16383))).bind fun t250 => (some t250)) else (if (a0 / 16384) = 1 then ((leadlineref1_quarter.f (wrap64 (16384 - (wrap64 (Go.bits .and .u16 a0 16383))))).bind fun t251 => (some t251)) else (if (a0 / 16384) = 2 then ((leadlineref1_quarter.f (wrap64 (Go.bits .and .u16 a0 16383))).bind fun t252 => (some (wrap64 (-t252)))) else ((leadlineref1_quarter.f (wrap64 (16384 - (wrap64 (Go.bits .and .u16 a0 16383))))).bind fun t253 => (some (wrap64 (-t253))))))
set_option maxHeartbeats 8000000 in
set_option maxRecDepth 100000 in
theorem leadlineref1_Sin.calls (a0 : Int) (r : Int) (w : World) (h : leadlineref1_Sin.f a0 = some r) :
    Calls Try.prog 17 #[.int .u16 a0] w fun e w' => e = .returned (.int .i64 r) ∧ Drawn0 w w' := by
  have H : (if (a0 / 16384) = 0 then ((leadlineref1_quarter.f (wrap64 (Go.bits .and .u16 a0 16383))).bind fun t250 => (some t250)) else (if (a0 / 16384) = 1 then ((leadlineref1_quarter.f (wrap64 (16384 - (wrap64 (Go.bits .and .u16 a0 16383))))).bind fun t251 => (some t251)) else (if (a0 / 16384) = 2 then ((leadlineref1_quarter.f (wrap64 (Go.bits .and .u16 a0 16383))).bind fun t252 => (some (wrap64 (-t252)))) else ((leadlineref1_quarter.f (wrap64 (16384 - (wrap64 (Go.bits .and .u16 a0 16383))))).bind fun t253 => (some (wrap64 (-t253))))))) = some r := h
  clear h
  by_cases c2 : (a0 / 16384) = 0
  · rw [if_pos c2] at H
    have c2b0 : ((a0 / 16384) == 0) = true := beq_iff_eq.mpr c2
    have c2b1 : ((a0 / 16384) != 0) = false := bne_eq_false_iff_eq.mpr c2
    clear c2
    replace H := Option.bind_eq_some_iff.mp H
    obtain ⟨t250, A30, H⟩ := H
    replace H : (some t250) = some r := H
    have A3 := Aside0.mk A30
    clear A30
    obtain rfl := Option.some.inj H
    go_enter Try.func17, Try.ntmps17
    go_wp2_with (first | ((with_reducible refine gate_callee (f := 46) rfl ?_); refine goesL_ (some 12) rfl rfl Try.func46 (by kernel_rfl) rfl #[.int .i64 (wrap64 (Go.bits .and .u16 a0 16383))] rfl (by (try simp only [List.map_toArray, List.map_cons, List.map_nil]); first | done | rfl | (simp only [List.length_drop, List.length_take]; rfl)) ?_; (with_reducible refine (leadlineref1_quarter.calls (wrap64 (Go.bits .and .u16 a0 16383)) t250 _ A3.out).mono ?_); rintro e w' ⟨rfl, ⟨nd, rfl⟩⟩; refine ⟨_, rfl, ?_⟩))
    go_ret
    exact ⟨by first | rfl | (simp; done) | (simp [*]; done) | (simp [nb1_, nb2_]; done), by repeat (first | exact Drawn0.refl _ | apply Drawn0.step)⟩
  · rw [if_neg c2] at H
    have c2b0 : ((a0 / 16384) == 0) = false := beq_eq_false_iff_ne.mpr c2
    have c2b1 : ((a0 / 16384) != 0) = true := bne_iff_ne.mpr c2
    by_cases c4 : (a0 / 16384) = 1
    · rw [if_pos c4] at H
      have c4b0 : ((a0 / 16384) == 1) = true := beq_iff_eq.mpr c4
      have c4b1 : ((a0 / 16384) != 1) = false := bne_eq_false_iff_eq.mpr c4
      clear c4
      replace H := Option.bind_eq_some_iff.mp H
      obtain ⟨t251, A50, H⟩ := H
      replace H : (some t251) = some r := H
      have A5 := Aside0.mk A50
      clear A50
      obtain rfl := Option.some.inj H
      go_enter Try.func17, Try.ntmps17
      go_wp2_with (first | ((with_reducible refine gate_callee (f := 46) rfl ?_); refine goesL_ (some 17) rfl rfl Try.func46 (by kernel_rfl) rfl #[.int .i64 (wrap64 (16384 - (wrap64 (Go.bits .and .u16 a0 16383))))] rfl (by (try simp only [List.map_toArray, List.map_cons, List.map_nil]); first | done | rfl | (simp only [List.length_drop, List.length_take]; rfl)) ?_; (with_reducible refine (leadlineref1_quarter.calls (wrap64 (16384 - (wrap64 (Go.bits .and .u16 a0 16383)))) t251 _ A5.out).mono ?_); rintro e w' ⟨rfl, ⟨nd, rfl⟩⟩; refine ⟨_, rfl, ?_⟩))
      go_ret
      exact ⟨by first | rfl | (simp; done) | (simp [*]; done) | (simp [nb1_, nb2_]; done), by repeat (first | exact Drawn0.refl _ | apply Drawn0.step)⟩
    · rw [if_neg c4] at H
      have c4b0 : ((a0 / 16384) == 1) = false := beq_eq_false_iff_ne.mpr c4
      have c4b1 : ((a0 / 16384) != 1) = true := bne_iff_ne.mpr c4
      by_cases c6 : (a0 / 16384) = 2
      · rw [if_pos c6] at H
        have c6b0 : ((a0 / 16384) == 2) = true := beq_iff_eq.mpr c6
        have c6b1 : ((a0 / 16384) != 2) = false := bne_eq_false_iff_eq.mpr c6
        clear c6
        replace H := Option.bind_eq_some_iff.mp H
        obtain ⟨t252, A70, H⟩ := H
        replace H : (some (wrap64 (-t252))) = some r := H
        have A7 := Aside0.mk A70
        clear A70
        obtain rfl := Option.some.inj H
        go_enter Try.func17, Try.ntmps17
        go_wp2_with (first | ((with_reducible refine gate_callee (f := 46) rfl ?_); refine goesL_ (some 21) rfl rfl Try.func46 (by kernel_rfl) rfl #[.int .i64 (wrap64 (Go.bits .and .u16 a0 16383))] rfl (by (try simp only [List.map_toArray, List.map_cons, List.map_nil]); first | done | rfl | (simp only [List.length_drop, List.length_take]; rfl)) ?_; (with_reducible refine (leadlineref1_quarter.calls (wrap64 (Go.bits .and .u16 a0 16383)) t252 _ A7.out).mono ?_); rintro e w' ⟨rfl, ⟨nd, rfl⟩⟩; refine ⟨_, rfl, ?_⟩))
        go_ret
        exact ⟨by first | rfl | (simp; done) | (simp [*]; done) | (simp [nb1_, nb2_]; done), by repeat (first | exact Drawn0.refl _ | apply Drawn0.step)⟩
      · rw [if_neg c6] at H
        have c6b0 : ((a0 / 16384) == 2) = false := beq_eq_false_iff_ne.mpr c6
        have c6b1 : ((a0 / 16384) != 2) = true := bne_iff_ne.mpr c6
        replace H := Option.bind_eq_some_iff.mp H
        obtain ⟨t253, A80, H⟩ := H
        replace H : (some (wrap64 (-t253))) = some r := H
        have A8 := Aside0.mk A80
        clear A80
        obtain rfl := Option.some.inj H
        go_enter Try.func17, Try.ntmps17
        go_wp2_with (first | ((with_reducible refine gate_callee (f := 46) rfl ?_); refine goesL_ (some 25) rfl rfl Try.func46 (by kernel_rfl) rfl #[.int .i64 (wrap64 (16384 - (wrap64 (Go.bits .and .u16 a0 16383))))] rfl (by (try simp only [List.map_toArray, List.map_cons, List.map_nil]); first | done | rfl | (simp only [List.length_drop, List.length_take]; rfl)) ?_; (with_reducible refine (leadlineref1_quarter.calls (wrap64 (16384 - (wrap64 (Go.bits .and .u16 a0 16383)))) t253 _ A8.out).mono ?_); rintro e w' ⟨rfl, ⟨nd, rfl⟩⟩; refine ⟨_, rfl, ?_⟩))
        go_ret
        exact ⟨by first | rfl | (simp; done) | (simp [*]; done) | (simp [nb1_, nb2_]; done), by repeat (first | exact Drawn0.refl _ | apply Drawn0.step)⟩

/-! ### leadlineref1_Cos: function 19 -/
def leadlineref1_Cos.f (a0 : Int) : Option (Int) := (leadlineref1_Sin.f (IntKind.u16.wrap (a0 + 16384))).bind fun t254 => (some t254)
set_option maxHeartbeats 8000000 in
set_option maxRecDepth 100000 in
theorem leadlineref1_Cos.calls (a0 : Int) (r : Int) (w : World) (h : leadlineref1_Cos.f a0 = some r) :
    Calls Try.prog 19 #[.int .u16 a0] w fun e w' => e = .returned (.int .i64 r) ∧ Drawn0 w w' := by
  have H : ((leadlineref1_Sin.f (IntKind.u16.wrap (a0 + 16384))).bind fun t254 => (some t254)) = some r := h
  clear h
  replace H := Option.bind_eq_some_iff.mp H
  obtain ⟨t254, A20, H⟩ := H
  replace H : (some t254) = some r := H
  have A2 := Aside0.mk A20
  clear A20
  obtain rfl := Option.some.inj H
  go_enter Try.func19, Try.ntmps19
  go_wp2_with (first | ((with_reducible refine gate_callee (f := 17) rfl ?_); refine goesL_ (some 5) rfl rfl Try.func17 (by kernel_rfl) rfl #[.int .u16 (IntKind.u16.wrap (a0 + 16384))] rfl (by (try simp only [List.map_toArray, List.map_cons, List.map_nil]); first | done | rfl | (simp only [List.length_drop, List.length_take]; rfl)) ?_; (with_reducible refine (leadlineref1_Sin.calls (IntKind.u16.wrap (a0 + 16384)) t254 _ A2.out).mono ?_); rintro e w' ⟨rfl, ⟨nd, rfl⟩⟩; refine ⟨_, rfl, ?_⟩))
  go_ret
  exact ⟨by first | rfl | (simp; done) | (simp [*]; done) | (simp [nb1_, nb2_]; done), by repeat (first | exact Drawn0.refl _ | apply Drawn0.step)⟩

/-! ### leadlineref1_first: function 50 -/
def leadlineref1_first.l0 : Nat → Int → Int → Int → Int → Option (Int)
  | 0, _, _, _, _ => none
  | k + 1, x0, x1, x5, x6 => if x6 ≥ 0 then (if 0 ≤ x6 then ((leadlineref1_Cos.f (IntKind.u16.wrap (x5 + (shl .u16 1 x6)))).bind fun t255 => ((leadlineref1_Sin.f (IntKind.u16.wrap (x5 + (shl .u16 1 x6)))).bind fun t256 => (if (wrap64 (x0 * t255)) ≥ (wrap64 (x1 * t256)) then (leadlineref1_first.l0 k x0 x1 (IntKind.u16.wrap (x5 + (shl .u16 1 x6))) (wrap64 (x6 - 1))) else (leadlineref1_first.l0 k x0 x1 x5 (wrap64 (x6 - 1)))))) else (none)) else (some x5)
def leadlineref1_first.f (k : Nat) (a0 : Int) (a1 : Int) : Option (Int) := if a1 = 0 then (some 16384) else (leadlineref1_first.l0 k a0 a1 0 13)
theorem leadlineref1_first.mono_l : ∀ k, (∀ y0 y1 y2 y3, LeO (leadlineref1_first.l0 k y0 y1 y2 y3) (leadlineref1_first.l0 (k + 1) y0 y1 y2 y3))
  | 0 => fun _ _ _ _ r h => by simp [leadlineref1_first.l0] at h
  | k + 1 => by
    have ih0 := leadlineref1_first.mono_l k
    · intro y0 y1 y2 y3
      unfold leadlineref1_first.l0
      repeat' first
      | (with_reducible exact ih0 _ _ _ _)
      | (with_reducible exact LeO.refl _)
      | (with_reducible exact LeO.none _)
      | (with_reducible refine LeO.ite ?_ ?_)
      | (with_reducible refine LeO.bind ?_ (fun _ => ?_))
      | exact ih0 _ _ _ _
      | exact LeO.none _
      | refine LeO.ite ?_ ?_
      | refine LeO.bind ?_ (fun _ => ?_)
theorem leadlineref1_first.mono : ∀ a0 a1 k, LeO (leadlineref1_first.f k a0 a1) (leadlineref1_first.f (k + 1) a0 a1) := by
  intro a0 a1 k
  have ih0 := leadlineref1_first.mono_l k
  unfold leadlineref1_first.f
  repeat' first
      | (with_reducible exact ih0 _ _ _ _)
      | (with_reducible exact LeO.refl _)
      | (with_reducible exact LeO.none _)
      | (with_reducible refine LeO.ite ?_ ?_)
      | (with_reducible refine LeO.bind ?_ (fun _ => ?_))
      | exact ih0 _ _ _ _
      | exact LeO.none _
      | refine LeO.ite ?_ ?_
      | refine LeO.bind ?_ (fun _ => ?_)
set_option maxHeartbeats 8000000 in
set_option maxRecDepth 100000 in
theorem leadlineref1_first.calls (k : Nat) (a0 : Int) (a1 : Int) (r : Int) (w : World) (h : leadlineref1_first.f k a0 a1 = some r) :
    Calls Try.prog 50 #[.int .i64 a0, .int .i64 a1] w fun e w' => e = .returned (.int .u16 r) ∧ Drawn0 w w' := by
  have H : (if a1 = 0 then (some 16384) else (leadlineref1_first.l0 k a0 a1 0 13)) = some r := h
  clear h
  by_cases c3 : a1 = 0
  · rw [if_pos c3] at H
    have c3b0 : (a1 == 0) = true := beq_iff_eq.mpr c3
    have c3b1 : (a1 != 0) = false := bne_eq_false_iff_eq.mpr c3
    clear c3
    obtain rfl := Option.some.inj H
    go_enter Try.func50, Try.ntmps50
    go_wp2
    go_ret
    exact ⟨by first | rfl | (simp; done) | (simp [*]; done) | (simp [nb1_, nb2_]; done), by repeat (first | exact Drawn0.refl _ | apply Drawn0.step)⟩
  · rw [if_neg c3] at H
    have c3b0 : (a1 == 0) = false := beq_eq_false_iff_ne.mpr c3
    have c3b1 : (a1 != 0) = true := bne_iff_ne.mpr c3
    have H' := Aside0.mk H
    clear H
    go_enter Try.func50, Try.ntmps50
    go_wp2
    go_loopg [5, 6] k (fun kq v5 v6 w' => ∃ (x5_1 : Int) (x6_1 : Int), v5 = .int .u16 x5_1 ∧ v6 = .int .i64 x6_1 ∧ Aside0 (leadlineref1_first.l0 kq a0 a1 x5_1 x6_1 = some r) ∧ Aside0 (kq ≤ k) ∧ Drawn0 w w')
    case atStart => exact ⟨(0), (13), (by first | rfl | (simp; done) | (simp [*]; done) | (simp [nb1_, nb2_]; done)), (by first | rfl | (simp; done) | (simp [*]; done) | (simp [nb1_, nb2_]; done)), H', ⟨Nat.le_refl _⟩, by repeat (first | exact Drawn0.refl _ | apply Drawn0.step)⟩
    case round =>
      clear H'
      try clear p2
      try clear c3
      try clear c3b0
      try clear c3b1
      obtain ⟨x5_1, x6_1, rfl, rfl, HA, HK1, ⟨m1, rfl⟩⟩ := hrel
      cases gk with
      | zero => exact absurd HA.out (by simp [leadlineref1_first.l0])
      | succ k1 =>
        have H := HA.out
        clear HA
        simp only [leadlineref1_first.l0] at H
        by_cases c4 : x6_1 ≥ 0
        · rw [if_pos c4] at H
          have c4b0 : decide (0 ≤ x6_1) = true := decide_eq_true c4
          clear c4
          by_cases c5 : 0 ≤ x6_1
          · rw [if_pos c5] at H
            have c5b0 := eq_true c5
            have c5b1 : decide (0 ≤ x6_1) = true := decide_eq_true c5
            clear c5
            obtain ⟨ji6, hji6⟩ : ∃ j_ : Int, (shl .u16 1 x6_1) = j_ := ⟨_, rfl⟩
            replace H : ((leadlineref1_Cos.f (IntKind.u16.wrap (x5_1 + (ji6)))).bind fun t255 => ((leadlineref1_Sin.f (IntKind.u16.wrap (x5_1 + (ji6)))).bind fun t256 => (if (wrap64 (a0 * t255)) ≥ (wrap64 (a1 * t256)) then (leadlineref1_first.l0 k1 a0 a1 (IntKind.u16.wrap (x5_1 + (ji6))) (wrap64 (x6_1 - 1))) else (leadlineref1_first.l0 k1 a0 a1 x5_1 (wrap64 (x6_1 - 1)))))) = some r := by first | (rw [hji6] at H; exact H) | (simp only [hji6] at H ⊢; exact H)
            have hji6_ : (IntKind.u16.wrap (1 * 2 ^ min x6_1.toNat 16)) = ji6 := hji6
            have hji6z : x6_1 ≤ 16 → (IntKind.u16.wrap (1 * 2 ^ x6_1.toNat)) = ji6 := shl_small hji6
            have hji6u : (IntKind.u16.wrap (2 ^ min x6_1.toNat 16)) = ji6 := by have h_ := hji6_; rw [Int.one_mul] at h_; exact h_
            have hji6v : x6_1 ≤ 16 → (IntKind.u16.wrap (2 ^ x6_1.toNat)) = ji6 := fun hle_ => by have h_ := hji6z hle_; rw [Int.one_mul] at h_; exact h_
            replace H := Option.bind_eq_some_iff.mp H
            obtain ⟨t255, A70, H⟩ := H
            replace H : ((leadlineref1_Sin.f (IntKind.u16.wrap (x5_1 + (ji6)))).bind fun t256 => (if (wrap64 (a0 * t255)) ≥ (wrap64 (a1 * t256)) then (leadlineref1_first.l0 k1 a0 a1 (IntKind.u16.wrap (x5_1 + (ji6))) (wrap64 (x6_1 - 1))) else (leadlineref1_first.l0 k1 a0 a1 x5_1 (wrap64 (x6_1 - 1))))) = some r := H
            have A7 := Aside0.mk A70
            clear A70
            replace H := Option.bind_eq_some_iff.mp H
            obtain ⟨t256, A80, H⟩ := H
            replace H : (if (wrap64 (a0 * t255)) ≥ (wrap64 (a1 * t256)) then (leadlineref1_first.l0 k1 a0 a1 (IntKind.u16.wrap (x5_1 + (ji6))) (wrap64 (x6_1 - 1))) else (leadlineref1_first.l0 k1 a0 a1 x5_1 (wrap64 (x6_1 - 1)))) = some r := H
            have A8 := Aside0.mk A80
            clear A80
            by_cases c9 : (wrap64 (a0 * t255)) ≥ (wrap64 (a1 * t256))
            · rw [if_pos c9] at H
              have c9b0 : decide ((wrap64 (a1 * t256)) ≤ (wrap64 (a0 * t255))) = true := decide_eq_true c9
              clear c9
              have H' := Aside0.mk H
              clear H
              go_wp2_with (first | ((with_reducible refine gate_callee (f := 19) rfl ?_); refine goesL_ (some 20) rfl rfl Try.func19 (by kernel_rfl) rfl #[.int .u16 (IntKind.u16.wrap (x5_1 + (ji6)))] rfl (by (try simp only [List.map_toArray, List.map_cons, List.map_nil]); first | done | (simp only [hji6]; rfl) | rfl | (simp only [List.length_drop, List.length_take]; rfl)) ?_; (with_reducible refine (leadlineref1_Cos.calls (IntKind.u16.wrap (x5_1 + (ji6))) t255 _ A7.out).mono ?_); rintro e w' ⟨rfl, ⟨nd, rfl⟩⟩; refine ⟨_, rfl, ?_⟩) | ((with_reducible refine gate_callee (f := 17) rfl ?_); refine goesL_ (some 24) rfl rfl Try.func17 (by kernel_rfl) rfl #[.int .u16 (IntKind.u16.wrap (x5_1 + (ji6)))] rfl (by (try simp only [List.map_toArray, List.map_cons, List.map_nil]); first | done | (simp only [hji6]; rfl) | rfl | (simp only [List.length_drop, List.length_take]; rfl)) ?_; (with_reducible refine (leadlineref1_Sin.calls (IntKind.u16.wrap (x5_1 + (ji6))) t256 _ A8.out).mono ?_); rintro e w' ⟨rfl, ⟨nd, rfl⟩⟩; refine ⟨_, rfl, ?_⟩))
              go_roundg k1
              case measure => have := HK1.out; omega
              case rel => exact ⟨(IntKind.u16.wrap (x5_1 + (ji6))), (wrap64 (x6_1 - 1)), (by first | rfl | (simp; done) | (simp only [← hji6] <;> (first | rfl | simp)) | (simp [*]; done) | (simp [nb1_, nb2_]; done)), (by first | rfl | (simp; done) | (simp [*]; done) | (simp [nb1_, nb2_]; done)), H', ⟨by have := HK1.out; omega⟩, by repeat (first | exact Drawn0.refl _ | apply Drawn0.step)⟩
            · rw [if_neg c9] at H
              have c9b0 : decide ((wrap64 (a1 * t256)) ≤ (wrap64 (a0 * t255))) = false := decide_eq_false c9
              clear c9
              have H' := Aside0.mk H
              clear H
              go_wp2_with (first | ((with_reducible refine gate_callee (f := 19) rfl ?_); refine goesL_ (some 20) rfl rfl Try.func19 (by kernel_rfl) rfl #[.int .u16 (IntKind.u16.wrap (x5_1 + (ji6)))] rfl (by (try simp only [List.map_toArray, List.map_cons, List.map_nil]); first | done | (simp only [hji6]; rfl) | rfl | (simp only [List.length_drop, List.length_take]; rfl)) ?_; (with_reducible refine (leadlineref1_Cos.calls (IntKind.u16.wrap (x5_1 + (ji6))) t255 _ A7.out).mono ?_); rintro e w' ⟨rfl, ⟨nd, rfl⟩⟩; refine ⟨_, rfl, ?_⟩) | ((with_reducible refine gate_callee (f := 17) rfl ?_); refine goesL_ (some 24) rfl rfl Try.func17 (by kernel_rfl) rfl #[.int .u16 (IntKind.u16.wrap (x5_1 + (ji6)))] rfl (by (try simp only [List.map_toArray, List.map_cons, List.map_nil]); first | done | (simp only [hji6]; rfl) | rfl | (simp only [List.length_drop, List.length_take]; rfl)) ?_; (with_reducible refine (leadlineref1_Sin.calls (IntKind.u16.wrap (x5_1 + (ji6))) t256 _ A8.out).mono ?_); rintro e w' ⟨rfl, ⟨nd, rfl⟩⟩; refine ⟨_, rfl, ?_⟩))
              go_roundg k1
              case measure => have := HK1.out; omega
              case rel => exact ⟨(x5_1), (wrap64 (x6_1 - 1)), (by first | rfl | (simp; done) | (simp [*]; done) | (simp [nb1_, nb2_]; done)), (by first | rfl | (simp; done) | (simp [*]; done) | (simp [nb1_, nb2_]; done)), H', ⟨by have := HK1.out; omega⟩, by repeat (first | exact Drawn0.refl _ | apply Drawn0.step)⟩
          · rw [if_neg c5] at H
            exact absurd H (by simp)
        · rw [if_neg c4] at H
          have c4b0 : decide (0 ≤ x6_1) = false := decide_eq_false c4
          clear c4
          obtain rfl := Option.some.inj H
          go_wp2
          go_ret
          exact ⟨by first | rfl | (simp; done) | (simp [*]; done) | (simp [nb1_, nb2_]; done), by repeat (first | exact Drawn0.refl _ | apply Drawn0.step)⟩

/-! ### leadlineref1_Atan: function 23 -/
mutual
def leadlineref1_Atan.j0 : Nat → Int → Int → Bool → Option (Int × Bool)
  | 0, _, _, _ => none
  | k + 1, x0, x1, x15 => if x15 = true then (some (0, false)) else (if x1 = 0 then (leadlineref1_Atan.j1 k x0 x1 (x0 == 0)) else (leadlineref1_Atan.j1 k x0 x1 false))
def leadlineref1_Atan.j1 : Nat → Int → Int → Bool → Option (Int × Bool)
  | 0, _, _, _ => none
  | k + 1, x0, x1, x21 => if x21 = true then (some (0, true)) else (if x1 < 0 then (leadlineref1_Atan.j2 k x0 x1 (decide (x0 ≥ 0))) else (leadlineref1_Atan.j2 k x0 x1 false))
def leadlineref1_Atan.j2 : Nat → Int → Int → Bool → Option (Int × Bool)
  | 0, _, _, _ => none
  | k + 1, x0, x1, x22 => if x22 = true then ((leadlineref1_first.f k x0 (wrap64 (-x1))).bind fun t267 => (some (IntKind.u16.wrap (32768 - t267), true))) else (if x1 < 0 then ((leadlineref1_first.f k (wrap64 (-x0)) (wrap64 (-x1))).bind fun t268 => (some (IntKind.u16.wrap (32768 + t268), true))) else (if x0 < 0 then ((leadlineref1_first.f k (wrap64 (-x0)) x1).bind fun t269 => (some (IntKind.u16.wrap (-t269), true))) else ((leadlineref1_first.f k x0 x1).bind fun t270 => (some (t270, true)))))
end
def leadlineref1_Atan.f (k : Nat) (a0 : Int) (a1 : Int) : Option (Int × Bool) := (leadlineref1_Of.f k a1).bind fun bt257 => ((leadlineref1_Fits.f k bt257.1 bt257.2 1099511627776).bind fun t261 => (if t261 = true then ((leadlineref1_Of.f k a0).bind fun bt262 => ((leadlineref1_Fits.f k bt262.1 bt262.2 1099511627776).bind fun t266 => (leadlineref1_Atan.j0 k a0 a1 (!t266)))) else (leadlineref1_Atan.j0 k a0 a1 true)))
theorem leadlineref1_Atan.mono_l : ∀ k, (∀ y0 y1 y2, LeO (leadlineref1_Atan.j0 k y0 y1 y2) (leadlineref1_Atan.j0 (k + 1) y0 y1 y2)) ∧ (∀ y0 y1 y2, LeO (leadlineref1_Atan.j1 k y0 y1 y2) (leadlineref1_Atan.j1 (k + 1) y0 y1 y2)) ∧ (∀ y0 y1 y2, LeO (leadlineref1_Atan.j2 k y0 y1 y2) (leadlineref1_Atan.j2 (k + 1) y0 y1 y2))
  | 0 => ⟨fun _ _ _ r h => by simp [leadlineref1_Atan.j0] at h, fun _ _ _ r h => by simp [leadlineref1_Atan.j1] at h, fun _ _ _ r h => by simp [leadlineref1_Atan.j2] at h⟩
  | k + 1 => by
    obtain ⟨ih0, ih1, ih2⟩ := leadlineref1_Atan.mono_l k
    refine ⟨?_, ?_, ?_⟩
    · intro y0 y1 y2
      unfold leadlineref1_Atan.j0
      repeat' first
      | (with_reducible exact ih0 _ _ _)
      | (with_reducible exact ih1 _ _ _)
      | (with_reducible exact ih2 _ _ _)
      | (with_reducible exact leadlineref1_Fits.mono _ _ _ _)
      | (with_reducible exact leadlineref1_Of.mono _ _)
      | (with_reducible exact leadlineref1_first.mono _ _ _)
      | (with_reducible exact LeO.refl _)
      | (with_reducible exact LeO.none _)
      | (with_reducible refine LeO.ite ?_ ?_)
      | (with_reducible refine LeO.bind ?_ (fun _ => ?_))
      | exact ih0 _ _ _
      | exact ih1 _ _ _
      | exact ih2 _ _ _
      | exact leadlineref1_Fits.mono _ _ _ _
      | exact leadlineref1_Of.mono _ _
      | exact leadlineref1_first.mono _ _ _
      | exact LeO.none _
      | refine LeO.ite ?_ ?_
      | refine LeO.bind ?_ (fun _ => ?_)
    · intro y0 y1 y2
      unfold leadlineref1_Atan.j1
      repeat' first
      | (with_reducible exact ih0 _ _ _)
      | (with_reducible exact ih1 _ _ _)
      | (with_reducible exact ih2 _ _ _)
      | (with_reducible exact leadlineref1_Fits.mono _ _ _ _)
      | (with_reducible exact leadlineref1_Of.mono _ _)
      | (with_reducible exact leadlineref1_first.mono _ _ _)
      | (with_reducible exact LeO.refl _)
      | (with_reducible exact LeO.none _)
      | (with_reducible refine LeO.ite ?_ ?_)
      | (with_reducible refine LeO.bind ?_ (fun _ => ?_))
      | exact ih0 _ _ _
      | exact ih1 _ _ _
      | exact ih2 _ _ _
      | exact leadlineref1_Fits.mono _ _ _ _
      | exact leadlineref1_Of.mono _ _
      | exact leadlineref1_first.mono _ _ _
      | exact LeO.none _
      | refine LeO.ite ?_ ?_
      | refine LeO.bind ?_ (fun _ => ?_)
    · intro y0 y1 y2
      unfold leadlineref1_Atan.j2
      repeat' first
      | (with_reducible exact ih0 _ _ _)
      | (with_reducible exact ih1 _ _ _)
      | (with_reducible exact ih2 _ _ _)
      | (with_reducible exact leadlineref1_Fits.mono _ _ _ _)
      | (with_reducible exact leadlineref1_Of.mono _ _)
      | (with_reducible exact leadlineref1_first.mono _ _ _)
      | (with_reducible exact LeO.refl _)
      | (with_reducible exact LeO.none _)
      | (with_reducible refine LeO.ite ?_ ?_)
      | (with_reducible refine LeO.bind ?_ (fun _ => ?_))
      | exact ih0 _ _ _
      | exact ih1 _ _ _
      | exact ih2 _ _ _
      | exact leadlineref1_Fits.mono _ _ _ _
      | exact leadlineref1_Of.mono _ _
      | exact leadlineref1_first.mono _ _ _
      | exact LeO.none _
      | refine LeO.ite ?_ ?_
      | refine LeO.bind ?_ (fun _ => ?_)
theorem leadlineref1_Atan.mono : ∀ a0 a1 k, LeO (leadlineref1_Atan.f k a0 a1) (leadlineref1_Atan.f (k + 1) a0 a1) := by
  intro a0 a1 k
  obtain ⟨ih0, ih1, ih2⟩ := leadlineref1_Atan.mono_l k
  unfold leadlineref1_Atan.f
  repeat' first
      | (with_reducible exact ih0 _ _ _)
      | (with_reducible exact ih1 _ _ _)
      | (with_reducible exact ih2 _ _ _)
      | (with_reducible exact leadlineref1_Fits.mono _ _ _ _)
      | (with_reducible exact leadlineref1_Of.mono _ _)
      | (with_reducible exact leadlineref1_first.mono _ _ _)
      | (with_reducible exact LeO.refl _)
      | (with_reducible exact LeO.none _)
      | (with_reducible refine LeO.ite ?_ ?_)
      | (with_reducible refine LeO.bind ?_ (fun _ => ?_))
      | exact ih0 _ _ _
      | exact ih1 _ _ _
      | exact ih2 _ _ _
      | exact leadlineref1_Fits.mono _ _ _ _
      | exact leadlineref1_Of.mono _ _
      | exact leadlineref1_first.mono _ _ _
      | exact LeO.none _
      | refine LeO.ite ?_ ?_
      | refine LeO.bind ?_ (fun _ => ?_)
set_option maxHeartbeats 8000000 in
set_option maxRecDepth 100000 in
theorem leadlineref1_Atan.calls (k : Nat) (a0 : Int) (a1 : Int) (r1 : Int) (r2 : Bool) (w : World) (h : leadlineref1_Atan.f k a0 a1 = some (r1, r2)) :
    Calls Try.prog 23 #[.int .i64 a0, .int .i64 a1] w fun e w' => e = .returned (.tuple #[.int .u16 r1, .bool r2]) ∧ Below w.heap.size w w' := by
  have HB := Aside0.mk (Below.refl w.heap.size w)
  have H : ((leadlineref1_Of.f k a1).bind fun bt257 => ((leadlineref1_Fits.f k bt257.1 bt257.2 1099511627776).bind fun t261 => (if t261 = true then ((leadlineref1_Of.f k a0).bind fun bt262 => ((leadlineref1_Fits.f k bt262.1 bt262.2 1099511627776).bind fun t266 => (leadlineref1_Atan.j0 k a0 a1 (!t266)))) else (leadlineref1_Atan.j0 k a0 a1 true)))) = some (r1, r2) := h
  clear h
  have HC3 := Aside0.mk H
  clear H
  go_enter Try.func23, Try.ntmps23
  go_upto_region 1 with (fail)
  go_cut [15] (fun v15 wc => ∃ (kq : Nat) (x15_2 : Bool), v15 = .bool x15_2 ∧ Aside0 (leadlineref1_Atan.j0 kq a0 a1 x15_2 = some (r1, r2)) ∧ Aside0 (kq ≤ k) ∧ Aside0 (Below w.heap.size w wc))
  case first =>
    have H := HC3.out
    clear HC3
    replace H := Option.bind_eq_some_iff.mp H
    obtain ⟨⟨t257, t258⟩, A40, H⟩ := H
    replace H : ((leadlineref1_Fits.f k t257 t258 1099511627776).bind fun t261 => (if t261 = true then ((leadlineref1_Of.f k a0).bind fun bt262 => ((leadlineref1_Fits.f k bt262.1 bt262.2 1099511627776).bind fun t266 => (leadlineref1_Atan.j0 k a0 a1 (!t266)))) else (leadlineref1_Atan.j0 k a0 a1 true))) = some (r1, r2) := H
    have A4 := Aside0.mk A40
    clear A40
    replace H := Option.bind_eq_some_iff.mp H
    obtain ⟨t261, A50, H⟩ := H
    replace H : (if t261 = true then ((leadlineref1_Of.f k a0).bind fun bt262 => ((leadlineref1_Fits.f k bt262.1 bt262.2 1099511627776).bind fun t266 => (leadlineref1_Atan.j0 k a0 a1 (!t266)))) else (leadlineref1_Atan.j0 k a0 a1 true)) = some (r1, r2) := H
    have A5 := Aside0.mk A50
    clear A50
    by_cases c6 : t261 = true
    · subst c6
      have H1 : ((leadlineref1_Of.f k a0).bind fun bt262 => ((leadlineref1_Fits.f k bt262.1 bt262.2 1099511627776).bind fun t266 => (leadlineref1_Atan.j0 k a0 a1 (!t266)))) = some (r1, r2) := by rw [if_pos rfl] at H; exact H
      clear H
      have H := H1
      clear H1
      replace H := Option.bind_eq_some_iff.mp H
      obtain ⟨⟨t262, t263⟩, A70, H⟩ := H
      replace H : ((leadlineref1_Fits.f k t262 t263 1099511627776).bind fun t266 => (leadlineref1_Atan.j0 k a0 a1 (!t266))) = some (r1, r2) := H
      have A7 := Aside0.mk A70
      clear A70
      replace H := Option.bind_eq_some_iff.mp H
      obtain ⟨t266, A80, H⟩ := H
      replace H : (leadlineref1_Atan.j0 k a0 a1 (!t266)) = some (r1, r2) := H
      have A8 := Aside0.mk A80
      clear A80
      have H' := Aside0.mk H
      clear H
      go_wp2_with (first | ((with_reducible refine gate_callee (f := 39) rfl ?_); refine goesL_ (some 7) rfl rfl Try.func39 (by kernel_rfl) rfl #[.int .i64 a1] rfl (by (try simp only [List.map_toArray, List.map_cons, List.map_nil]); first | done | rfl | (simp only [List.length_drop, List.length_take]; rfl)) ?_; (with_reducible refine (leadlineref1_Of.calls k a1 t257 t258 _ A4.out).mono ?_); rintro e w9 ⟨v259, rfl, ho0, hb⟩; refine ⟨_, rfl, ?_⟩; have n0_ := Aside0.mk (Kd.V_lower (Kd.V_mono (ok' := fun k_ => True) ho0 (fun k_ hk_ => trivial)) (below_size (by repeat (first | (with_reducible first | exact HB.out | apply below_alloc | apply pw_below_drewN | apply below_drew1) | exact HB.out)))); have n1_ := Aside0.mk (below_step (by repeat (first | (with_reducible first | exact HB.out | apply below_alloc | apply pw_below_drewN | apply below_drew1) | exact HB.out)) hb); clear HB; have HO260 := n0_; have HB := n1_; clear n0_ n1_; (try clear hb); (try clear hb2); (try clear hk); (try clear hi); (try clear ho0); obtain ⟨Ao10, co10, eo10⟩ := Kd.V_slice HO260.out; subst eo10) | ((with_reducible refine gate_callee (f := 49) rfl ?_); refine goesL_ (some 8) rfl rfl Try.func49 (by kernel_rfl) rfl #[.agg #[.bool t257, .slice Ao10 t258.length co10], .int .i64 1099511627776] rfl (by (try simp only [List.map_toArray, List.map_cons, List.map_nil]); first | done | rfl | (simp only [List.length_drop, List.length_take]; rfl)) ?_; (with_reducible refine (leadlineref1_Fits.calls k t257 _ _ t258 1099511627776 true _ ?side1 ?side2 A5.out).mono ?_); (case side1 => repeat (first | exact (Kd.V_reads' HO260.out).2.2 | (with_reducible refine Kd.C_alloc ?_ _) | (with_reducible refine Kd.C_drewN ?_ _) | (with_reducible refine Kd.C_drew ?_))); (case side2 => exact (Kd.V_reads' HO260.out).2.1); rintro e w11 ⟨rfl, hb⟩; refine ⟨_, rfl, ?_⟩; have n0_ := Aside0.mk (Kd.V_below (by (with_reducible repeat (first | apply Kd.V_alloc | apply Kd.V_drewN | apply Kd.V_drew)); exact HO260.out) hb); have n1_ := Aside0.mk (below_step (by repeat (first | (with_reducible first | exact HB.out | apply below_alloc | apply pw_below_drewN | apply below_drew1) | exact HB.out)) hb); clear HO260; clear HB; have HO260 := n0_; have HB := n1_; clear n0_ n1_; (try clear hb); (try clear hb2); (try clear hk); (try clear hi)) | (go_at_call 39; (with_reducible refine (leadlineref1_Of.calls k a0 t262 t263 _ A7.out).mono ?_); rintro e w12 ⟨v264, rfl, ho0, hb⟩; have n0_ := Aside0.mk (Kd.V_below (by (with_reducible repeat (first | apply Kd.V_alloc | apply Kd.V_drewN | apply Kd.V_drew)); exact HO260.out) hb); have n1_ := Aside0.mk (Kd.V_lower (Kd.V_mono (ok' := fun k_ => True) ho0 (fun k_ hk_ => trivial)) (below_size (by repeat (first | (with_reducible first | exact HB.out | apply below_alloc | apply pw_below_drewN | apply below_drew1) | exact HB.out)))); have n2_ := Aside0.mk (below_step (by repeat (first | (with_reducible first | exact HB.out | apply below_alloc | apply pw_below_drewN | apply below_drew1) | exact HB.out)) hb); clear HO260; clear HB; have HO260 := n0_; have HO265 := n1_; have HB := n2_; clear n0_ n1_ n2_; (try clear hb); (try clear hb2); (try clear hk); (try clear hi); (try clear ho0); obtain ⟨Ao13, co13, eo13⟩ := Kd.V_slice HO265.out; subst eo13) | (go_at_call 49; (with_reducible refine (leadlineref1_Fits.calls k t262 _ _ t263 1099511627776 t266 _ ?side1 ?side2 A8.out).mono ?_); (case side1 => repeat (first | exact (Kd.V_reads' HO265.out).2.2 | (with_reducible refine Kd.C_alloc ?_ _) | (with_reducible refine Kd.C_drewN ?_ _) | (with_reducible refine Kd.C_drew ?_))); (case side2 => exact (Kd.V_reads' HO265.out).2.1); rintro e w14 ⟨rfl, hb⟩; have n0_ := Aside0.mk (Kd.V_below (by (with_reducible repeat (first | apply Kd.V_alloc | apply Kd.V_drewN | apply Kd.V_drew)); exact HO260.out) hb); have n1_ := Aside0.mk (Kd.V_below (by (with_reducible repeat (first | apply Kd.V_alloc | apply Kd.V_drewN | apply Kd.V_drew)); exact HO265.out) hb); have n2_ := Aside0.mk (below_step (by repeat (first | (with_reducible first | exact HB.out | apply below_alloc | apply pw_below_drewN | apply below_drew1) | exact HB.out)) hb); clear HO260; clear HO265; clear HB; have HO260 := n0_; have HO265 := n1_; have HB := n2_; clear n0_ n1_ n2_; (try clear hb); (try clear hb2); (try clear hk); (try clear hi)))
      go_meet
      case rel => exact ⟨_, (!t266), (by first | rfl | (simp; done) | (simp [*]; done) | (simp [nb1_, nb2_]; done)), H', ⟨by first | omega | exact Nat.le_refl _⟩, ⟨by repeat (first | (with_reducible first | exact HB.out | apply below_alloc | apply pw_below_drewN | apply below_drew1) | exact HB.out)⟩⟩
    · replace c6 := Bool.eq_false_iff.mpr c6
      subst c6
      have H1 : (leadlineref1_Atan.j0 k a0 a1 true) = some (r1, r2) := by rw [if_neg (show ¬ (false = true) by decide)] at H; exact H
      clear H
      have H := H1
      clear H1
      have H' := Aside0.mk H
      clear H
      go_wp2_with (first | ((with_reducible refine gate_callee (f := 39) rfl ?_); refine goesL_ (some 7) rfl rfl Try.func39 (by kernel_rfl) rfl #[.int .i64 a1] rfl (by (try simp only [List.map_toArray, List.map_cons, List.map_nil]); first | done | rfl | (simp only [List.length_drop, List.length_take]; rfl)) ?_; (with_reducible refine (leadlineref1_Of.calls k a1 t257 t258 _ A4.out).mono ?_); rintro e w15 ⟨v259, rfl, ho0, hb⟩; refine ⟨_, rfl, ?_⟩; have n0_ := Aside0.mk (Kd.V_lower (Kd.V_mono (ok' := fun k_ => True) ho0 (fun k_ hk_ => trivial)) (below_size (by repeat (first | (with_reducible first | exact HB.out | apply below_alloc | apply pw_below_drewN | apply below_drew1) | exact HB.out)))); have n1_ := Aside0.mk (below_step (by repeat (first | (with_reducible first | exact HB.out | apply below_alloc | apply pw_below_drewN | apply below_drew1) | exact HB.out)) hb); clear HB; have HO260 := n0_; have HB := n1_; clear n0_ n1_; (try clear hb); (try clear hb2); (try clear hk); (try clear hi); (try clear ho0); obtain ⟨Ao16, co16, eo16⟩ := Kd.V_slice HO260.out; subst eo16) | ((with_reducible refine gate_callee (f := 49) rfl ?_); refine goesL_ (some 8) rfl rfl Try.func49 (by kernel_rfl) rfl #[.agg #[.bool t257, .slice Ao16 t258.length co16], .int .i64 1099511627776] rfl (by (try simp only [List.map_toArray, List.map_cons, List.map_nil]); first | done | rfl | (simp only [List.length_drop, List.length_take]; rfl)) ?_; (with_reducible refine (leadlineref1_Fits.calls k t257 _ _ t258 1099511627776 false _ ?side1 ?side2 A5.out).mono ?_); (case side1 => repeat (first | exact (Kd.V_reads' HO260.out).2.2 | (with_reducible refine Kd.C_alloc ?_ _) | (with_reducible refine Kd.C_drewN ?_ _) | (with_reducible refine Kd.C_drew ?_))); (case side2 => exact (Kd.V_reads' HO260.out).2.1); rintro e w17 ⟨rfl, hb⟩; refine ⟨_, rfl, ?_⟩; have n0_ := Aside0.mk (Kd.V_below (by (with_reducible repeat (first | apply Kd.V_alloc | apply Kd.V_drewN | apply Kd.V_drew)); exact HO260.out) hb); have n1_ := Aside0.mk (below_step (by repeat (first | (with_reducible first | exact HB.out | apply below_alloc | apply pw_below_drewN | apply below_drew1) | exact HB.out)) hb); clear HO260; clear HB; have HO260 := n0_; have HB := n1_; clear n0_ n1_; (try clear hb); (try clear hb2); (try clear hk); (try clear hi)))
      go_meet
      case rel => exact ⟨_, (true), (by first | rfl | (simp; done) | (simp [*]; done) | (simp [nb1_, nb2_]; done)), H', ⟨by first | omega | exact Nat.le_refl _⟩, ⟨by repeat (first | (with_reducible first | exact HB.out | apply below_alloc | apply pw_below_drewN | apply below_drew1) | exact HB.out)⟩⟩
  case rest =>
    clear HC3
    try clear c2
    try clear p2
    try clear c3
    try clear c4
    try clear c6
    obtain ⟨kq, x15_2, rfl, HA, HJ2, HB⟩ := hcut
    cases kq with
    | zero => exact absurd HA.out (by simp [leadlineref1_Atan.j0])
    | succ kj2 =>
      have H := HA.out
      clear HA
      simp only [leadlineref1_Atan.j0] at H
      by_cases c18 : x15_2 = true
      · subst c18
        have H1 : (some (0, false)) = some (r1, r2) := by rw [if_pos rfl] at H; exact H
        clear H
        have H := H1
        clear H1
        simp only [Option.some.injEq, Prod.mk.injEq] at H
        obtain ⟨rfl, rfl⟩ := H
        go_wp2
        go_ret2
        exact ⟨by first | rfl | (simp [errW_none, errW_some] <;> rfl) | (simp [*, errW_none, errW_some] <;> rfl), by repeat (first | (with_reducible first | exact HB.out | apply below_alloc | apply pw_below_drewN | apply below_drew1) | exact HB.out)⟩
      · replace c18 := Bool.eq_false_iff.mpr c18
        subst c18
        have H1 : (if a1 = 0 then (leadlineref1_Atan.j1 kj2 a0 a1 (a0 == 0)) else (leadlineref1_Atan.j1 kj2 a0 a1 false)) = some (r1, r2) := by rw [if_neg (show ¬ (false = true) by decide)] at H; exact H
        clear H
        have H := H1
        clear H1
        have HC19 := Aside0.mk H
        clear H
        go_upto_region 3 with (fail)
        go_cut [21] (fun v21 wc => ∃ (kq : Nat) (x21_18 : Bool), v21 = .bool x21_18 ∧ Aside0 (leadlineref1_Atan.j1 kq a0 a1 x21_18 = some (r1, r2)) ∧ Aside0 (kq ≤ kj2) ∧ Aside0 (Below w.heap.size w wc))
        case first =>
          have H := HC19.out
          clear HC19
          by_cases c20 : a1 = 0
          · rw [if_pos c20] at H
            have c20b0 : (a1 == 0) = true := beq_iff_eq.mpr c20
            have c20b1 : (a1 != 0) = false := bne_eq_false_iff_eq.mpr c20
            clear c20
            (first | rw [c20b0] | (simp only [i64_w, i32_w]; rw [c20b0]) | skip)
            have H' := Aside0.mk H
            clear H
            go_wp2
            go_meet
            case rel => exact ⟨_, ((a0 == 0)), (by first | rfl | (simp; done) | (simp [*]; done) | (simp [nb1_, nb2_]; done)), H', ⟨by have := HJ2.out; first | omega | exact Nat.le_refl _⟩, ⟨by repeat (first | (with_reducible first | exact HB.out | apply below_alloc | apply pw_below_drewN | apply below_drew1) | exact HB.out)⟩⟩
          · rw [if_neg c20] at H
            have c20b0 : (a1 == 0) = false := beq_eq_false_iff_ne.mpr c20
            have c20b1 : (a1 != 0) = true := bne_iff_ne.mpr c20
            (first | rw [c20b0] | (simp only [i64_w, i32_w]; rw [c20b0]) | skip)
            have H' := Aside0.mk H
            clear H
            go_wp2
            go_meet
            case rel => exact ⟨_, (false), (by first | rfl | (simp; done) | (simp [*]; done) | (simp [nb1_, nb2_]; done)), H', ⟨by have := HJ2.out; first | omega | exact Nat.le_refl _⟩, ⟨by repeat (first | (with_reducible first | exact HB.out | apply below_alloc | apply pw_below_drewN | apply below_drew1) | exact HB.out)⟩⟩
        case rest =>
          clear HC19
          try clear c1
          try clear c2
          try clear p2
          try clear c3
          try clear c4
          try clear c6
          try clear c18
          try clear c20
          try clear c20b0
          try clear c20b1
          try clear p2
          obtain ⟨kq, x21_18, rfl, HA, HJ18, HB⟩ := hcut
          cases kq with
          | zero => exact absurd HA.out (by simp [leadlineref1_Atan.j1])
          | succ kj18 =>
            have H := HA.out
            clear HA
            simp only [leadlineref1_Atan.j1] at H
            by_cases c21 : x21_18 = true
            · subst c21
              have H1 : (some (0, true)) = some (r1, r2) := by rw [if_pos rfl] at H; exact H
              clear H
              have H := H1
              clear H1
              simp only [Option.some.injEq, Prod.mk.injEq] at H
              obtain ⟨rfl, rfl⟩ := H
              go_wp2
              go_ret2
              exact ⟨by first | rfl | (simp [errW_none, errW_some] <;> rfl) | (simp [*, errW_none, errW_some] <;> rfl), by repeat (first | (with_reducible first | exact HB.out | apply below_alloc | apply pw_below_drewN | apply below_drew1) | exact HB.out)⟩
            · replace c21 := Bool.eq_false_iff.mpr c21
              subst c21
              have H1 : (if a1 < 0 then (leadlineref1_Atan.j2 kj18 a0 a1 (decide (a0 ≥ 0))) else (leadlineref1_Atan.j2 kj18 a0 a1 false)) = some (r1, r2) := by rw [if_neg (show ¬ (false = true) by decide)] at H; exact H
              clear H
              have H := H1
              clear H1
              have HC22 := Aside0.mk H
              clear H
              go_upto_region 5 with (fail)
              go_cut [22] (fun v22 wc => ∃ (kq : Nat) (x22_21 : Bool), v22 = .bool x22_21 ∧ Aside0 (leadlineref1_Atan.j2 kq a0 a1 x22_21 = some (r1, r2)) ∧ Aside0 (kq ≤ kj18) ∧ Aside0 (Below w.heap.size w wc))
              case first =>
                have H := HC22.out
                clear HC22
                by_cases c23 : a1 < 0
                · rw [if_pos c23] at H
                  have c23b0 : decide (a1 < 0) = true := decide_eq_true c23
                  clear c23
                  (first | rw [c23b0] | (simp only [i64_w, i32_w]; rw [c23b0]) | skip)
                  have H' := Aside0.mk H
                  clear H
                  go_wp2
                  go_meet
                  case rel => exact ⟨_, (decide (a0 ≥ 0)), (by first | rfl | (simp; done) | (simp [*]; done) | (simp [nb1_, nb2_]; done)), H', ⟨by have := HJ2.out; have := HJ18.out; first | omega | exact Nat.le_refl _⟩, ⟨by repeat (first | (with_reducible first | exact HB.out | apply below_alloc | apply pw_below_drewN | apply below_drew1) | exact HB.out)⟩⟩
                · rw [if_neg c23] at H
                  have c23b0 : decide (a1 < 0) = false := decide_eq_false c23
                  clear c23
                  (first | rw [c23b0] | (simp only [i64_w, i32_w]; rw [c23b0]) | skip)
                  have H' := Aside0.mk H
                  clear H
                  go_wp2
                  go_meet
                  case rel => exact ⟨_, (false), (by first | rfl | (simp; done) | (simp [*]; done) | (simp [nb1_, nb2_]; done)), H', ⟨by have := HJ2.out; have := HJ18.out; first | omega | exact Nat.le_refl _⟩, ⟨by repeat (first | (with_reducible first | exact HB.out | apply below_alloc | apply pw_below_drewN | apply below_drew1) | exact HB.out)⟩⟩
              case rest =>
                clear HC22
                try clear c1
                try clear c2
                try clear p2
                try clear c3
                try clear c4
                try clear c6
                try clear c18
                try clear c20
                try clear c20b0
                try clear c20b1
                try clear c21
                try clear c23
                try clear c23b0
                try clear p2
                obtain ⟨kq, x22_21, rfl, HA, HJ21, HB⟩ := hcut
                cases kq with
                | zero => exact absurd HA.out (by simp [leadlineref1_Atan.j2])
                | succ kj21 =>
                  have H := HA.out
                  clear HA
                  simp only [leadlineref1_Atan.j2] at H
                  by_cases c24 : x22_21 = true
                  · subst c24
                    have H1 : ((leadlineref1_first.f kj21 a0 (wrap64 (-a1))).bind fun t267 => (some (IntKind.u16.wrap (32768 - t267), true))) = some (r1, r2) := by rw [if_pos rfl] at H; exact H
                    clear H
                    have H := H1
                    clear H1
                    replace H := Option.bind_eq_some_iff.mp H
                    obtain ⟨t267, A250, H⟩ := H
                    replace H : (some (IntKind.u16.wrap (32768 - t267), true)) = some (r1, r2) := H
                    have A25 := Aside0.mk A250
                    clear A250
                    simp only [Option.some.injEq, Prod.mk.injEq] at H
                    obtain ⟨rfl, rfl⟩ := H
                    go_wp2_with (first | ((with_reducible refine gate_callee (f := 50) rfl ?_); refine goesL_ (some 32) rfl rfl Try.func50 (by kernel_rfl) rfl #[.int .i64 a0, .int .i64 (wrap64 (-a1))] rfl (by (try simp only [List.map_toArray, List.map_cons, List.map_nil]); first | done | rfl | (simp only [List.length_drop, List.length_take]; rfl)) ?_; (with_reducible refine (leadlineref1_first.calls kj21 a0 (wrap64 (-a1)) t267 _ A25.out).mono ?_); rintro e w' ⟨rfl, ⟨nd, rfl⟩⟩; refine ⟨_, rfl, ?_⟩))
                    go_ret2
                    exact ⟨by first | rfl | (simp [errW_none, errW_some] <;> rfl) | (simp [*, errW_none, errW_some] <;> rfl), by repeat (first | (with_reducible first | exact HB.out | apply below_alloc | apply pw_below_drewN | apply below_drew1) | exact HB.out)⟩
                  · replace c24 := Bool.eq_false_iff.mpr c24
                    subst c24
                    have H1 : (if a1 < 0 then ((leadlineref1_first.f kj21 (wrap64 (-a0)) (wrap64 (-a1))).bind fun t268 => (some (IntKind.u16.wrap (32768 + t268), true))) else (if a0 < 0 then ((leadlineref1_first.f kj21 (wrap64 (-a0)) a1).bind fun t269 => (some (IntKind.u16.wrap (-t269), true))) else ((leadlineref1_first.f kj21 a0 a1).bind fun t270 => (some (t270, true))))) = some (r1, r2) := by rw [if_neg (show ¬ (false = true) by decide)] at H; exact H
                    clear H
                    have H := H1
                    clear H1
                    by_cases c26 : a1 < 0
                    · rw [if_pos c26] at H
                      have c26b0 : decide (a1 < 0) = true := decide_eq_true c26
                      clear c26
                      replace H := Option.bind_eq_some_iff.mp H
                      obtain ⟨t268, A270, H⟩ := H
                      replace H : (some (IntKind.u16.wrap (32768 + t268), true)) = some (r1, r2) := H
                      have A27 := Aside0.mk A270
                      clear A270
                      simp only [Option.some.injEq, Prod.mk.injEq] at H
                      obtain ⟨rfl, rfl⟩ := H
                      go_wp2_with (first | ((with_reducible refine gate_callee (f := 50) rfl ?_); refine goesL_ (some 41) rfl rfl Try.func50 (by kernel_rfl) rfl #[.int .i64 (wrap64 (-a0)), .int .i64 (wrap64 (-a1))] rfl (by (try simp only [List.map_toArray, List.map_cons, List.map_nil]); first | done | rfl | (simp only [List.length_drop, List.length_take]; rfl)) ?_; (with_reducible refine (leadlineref1_first.calls kj21 (wrap64 (-a0)) (wrap64 (-a1)) t268 _ A27.out).mono ?_); rintro e w' ⟨rfl, ⟨nd, rfl⟩⟩; refine ⟨_, rfl, ?_⟩))
                      go_ret2
                      exact ⟨by first | rfl | (simp [errW_none, errW_some] <;> rfl) | (simp [*, errW_none, errW_some] <;> rfl), by repeat (first | (with_reducible first | exact HB.out | apply below_alloc | apply pw_below_drewN | apply below_drew1) | exact HB.out)⟩
                    · rw [if_neg c26] at H
                      have c26b0 : decide (a1 < 0) = false := decide_eq_false c26
                      clear c26
                      by_cases c28 : a0 < 0
                      · rw [if_pos c28] at H
                        have c28b0 : decide (a0 < 0) = true := decide_eq_true c28
                        clear c28
                        replace H := Option.bind_eq_some_iff.mp H
                        obtain ⟨t269, A290, H⟩ := H
                        replace H : (some (IntKind.u16.wrap (-t269), true)) = some (r1, r2) := H
                        have A29 := Aside0.mk A290
                        clear A290
                        simp only [Option.some.injEq, Prod.mk.injEq] at H
                        obtain ⟨rfl, rfl⟩ := H
                        go_wp2_with (first | ((with_reducible refine gate_callee (f := 50) rfl ?_); refine goesL_ (some 49) rfl rfl Try.func50 (by kernel_rfl) rfl #[.int .i64 (wrap64 (-a0)), .int .i64 a1] rfl (by (try simp only [List.map_toArray, List.map_cons, List.map_nil]); first | done | rfl | (simp only [List.length_drop, List.length_take]; rfl)) ?_; (with_reducible refine (leadlineref1_first.calls kj21 (wrap64 (-a0)) a1 t269 _ A29.out).mono ?_); rintro e w' ⟨rfl, ⟨nd, rfl⟩⟩; refine ⟨_, rfl, ?_⟩))
                        go_ret2
                        exact ⟨by first | rfl | (simp [errW_none, errW_some] <;> rfl) | (simp [*, errW_none, errW_some] <;> rfl), by repeat (first | (with_reducible first | exact HB.out | apply below_alloc | apply pw_below_drewN | apply below_drew1) | exact HB.out)⟩
                      · rw [if_neg c28] at H
                        have c28b0 : decide (a0 < 0) = false := decide_eq_false c28
                        clear c28
                        replace H := Option.bind_eq_some_iff.mp H
                        obtain ⟨t270, A300, H⟩ := H
                        replace H : (some (t270, true)) = some (r1, r2) := H
                        have A30 := Aside0.mk A300
                        clear A300
                        simp only [Option.some.injEq, Prod.mk.injEq] at H
                        obtain ⟨rfl, rfl⟩ := H
                        go_wp2_with (first | ((with_reducible refine gate_callee (f := 50) rfl ?_); refine goesL_ (some 53) rfl rfl Try.func50 (by kernel_rfl) rfl #[.int .i64 a0, .int .i64 a1] rfl (by (try simp only [List.map_toArray, List.map_cons, List.map_nil]); first | done | rfl | (simp only [List.length_drop, List.length_take]; rfl)) ?_; (with_reducible refine (leadlineref1_first.calls kj21 a0 a1 t270 _ A30.out).mono ?_); rintro e w' ⟨rfl, ⟨nd, rfl⟩⟩; refine ⟨_, rfl, ?_⟩))
                        go_ret2
                        exact ⟨by first | rfl | (simp [errW_none, errW_some] <;> rfl) | (simp [*, errW_none, errW_some] <;> rfl), by repeat (first | (with_reducible first | exact HB.out | apply below_alloc | apply pw_below_drewN | apply below_drew1) | exact HB.out)⟩

/-! ### leadlinelaw3_AngleFinds: function 7 -/
def leadlinelaw3_AngleFinds.l0 : Nat → List (S33) → Int → Int → Option (Bool)
  | 0, _, _, _ => none
  | k + 1, x38, x39, x40 => if x40 < x39 then (if 0 ≤ x40 then (if x40 < (x38.length : Int) then ((angle_Atan.f k ((rd_T33 x38 x40).f0) ((rd_T33 x38 x40).f1)).bind fun bt277 => ((leadlineref1_Atan.f k ((rd_T33 x38 x40).f0) ((rd_T33 x38 x40).f1)).bind fun bt279 => (if bt277.1 = bt279.1 then (if (bt277.2 != bt279.2) = true then (some false) else (leadlinelaw3_AngleFinds.l0 k x38 x39 (wrap64 (x40 + 1)))) else (some false)))) else (none)) else (none)) else (some true)
def leadlinelaw3_AngleFinds.f (k : Nat) (a0 : Int) (a1 : Int) (a2 : Int) : Option (Bool) := (leadlinelaw3_known.f k).bind fun t271 => (if t271 = true then (if 0 ≤ (Int.tmod a2 64) then ((some (([(⟨a0, a1⟩ : S33), (⟨shr .i64 a0 (Int.tmod a2 64), shr .i64 a1 (Int.tmod a2 64)⟩ : S33), (⟨a0 / 1073741824, a1 / 1125899906842624⟩ : S33), (⟨0, a1 / 1099511627776⟩ : S33), (⟨a0 / 1099511627776, 0⟩ : S33)] : List (S33)) : List (S33))).bind fun y272 => (leadlinelaw3_AngleFinds.l0 k y272 (y272.length : Int) 0)) else (none)) else (some false))
theorem leadlinelaw3_AngleFinds.mono_l : ∀ k, (∀ y0 y1 y2, LeO (leadlinelaw3_AngleFinds.l0 k y0 y1 y2) (leadlinelaw3_AngleFinds.l0 (k + 1) y0 y1 y2))
  | 0 => fun _ _ _ r h => by simp [leadlinelaw3_AngleFinds.l0] at h
  | k + 1 => by
    have ih0 := leadlinelaw3_AngleFinds.mono_l k
    · intro y0 y1 y2
      unfold leadlinelaw3_AngleFinds.l0
      repeat' first
      | (with_reducible exact ih0 _ _ _)
      | (with_reducible exact angle_Atan.mono _ _ _)
      | (with_reducible exact leadlinelaw3_known.mono _)
      | (with_reducible exact leadlineref1_Atan.mono _ _ _)
      | (with_reducible exact LeO.refl _)
      | (with_reducible exact LeO.none _)
      | (with_reducible refine LeO.ite ?_ ?_)
      | (with_reducible refine LeO.bind ?_ (fun _ => ?_))
      | exact ih0 _ _ _
      | exact angle_Atan.mono _ _ _
      | exact leadlinelaw3_known.mono _
      | exact leadlineref1_Atan.mono _ _ _
      | exact LeO.none _
      | refine LeO.ite ?_ ?_
      | refine LeO.bind ?_ (fun _ => ?_)
theorem leadlinelaw3_AngleFinds.mono : ∀ a0 a1 a2 k, LeO (leadlinelaw3_AngleFinds.f k a0 a1 a2) (leadlinelaw3_AngleFinds.f (k + 1) a0 a1 a2) := by
  intro a0 a1 a2 k
  have ih0 := leadlinelaw3_AngleFinds.mono_l k
  unfold leadlinelaw3_AngleFinds.f
  repeat' first
      | (with_reducible exact ih0 _ _ _)
      | (with_reducible exact angle_Atan.mono _ _ _)
      | (with_reducible exact leadlinelaw3_known.mono _)
      | (with_reducible exact leadlineref1_Atan.mono _ _ _)
      | (with_reducible exact LeO.refl _)
      | (with_reducible exact LeO.none _)
      | (with_reducible refine LeO.ite ?_ ?_)
      | (with_reducible refine LeO.bind ?_ (fun _ => ?_))
      | exact ih0 _ _ _
      | exact angle_Atan.mono _ _ _
      | exact leadlinelaw3_known.mono _
      | exact leadlineref1_Atan.mono _ _ _
      | exact LeO.none _
      | refine LeO.ite ?_ ?_
      | refine LeO.bind ?_ (fun _ => ?_)
set_option maxHeartbeats 8000000 in
set_option maxRecDepth 100000 in
theorem leadlinelaw3_AngleFinds.calls (k : Nat) (a0 : Int) (a1 : Int) (a2 : Int) (r : Bool) (w : World) (h : leadlinelaw3_AngleFinds.f k a0 a1 a2 = some r) :
    Calls Try.prog 7 #[.int .i64 a0, .int .i64 a1, .int .u8 a2] w fun e w' => e = .returned (.bool r) ∧ Below w.heap.size w w' := by
  have hu33 := Try.underlying33
  have HB := Aside0.mk (Below.refl w.heap.size w)
  have H : ((leadlinelaw3_known.f k).bind fun t271 => (if t271 = true then (if 0 ≤ (Int.tmod a2 64) then ((some (([(⟨a0, a1⟩ : S33), (⟨shr .i64 a0 (Int.tmod a2 64), shr .i64 a1 (Int.tmod a2 64)⟩ : S33), (⟨a0 / 1073741824, a1 / 1125899906842624⟩ : S33), (⟨0, a1 / 1099511627776⟩ : S33), (⟨a0 / 1099511627776, 0⟩ : S33)] : List (S33)) : List (S33))).bind fun y272 => (leadlinelaw3_AngleFinds.l0 k y272 (y272.length : Int) 0)) else (none)) else (some false))) = some r := h
  clear h
  replace H := Option.bind_eq_some_iff.mp H
  obtain ⟨t271, A40, H⟩ := H
  replace H : (if t271 = true then (if 0 ≤ (Int.tmod a2 64) then ((some (([(⟨a0, a1⟩ : S33), (⟨shr .i64 a0 (Int.tmod a2 64), shr .i64 a1 (Int.tmod a2 64)⟩ : S33), (⟨a0 / 1073741824, a1 / 1125899906842624⟩ : S33), (⟨0, a1 / 1099511627776⟩ : S33), (⟨a0 / 1099511627776, 0⟩ : S33)] : List (S33)) : List (S33))).bind fun y272 => (leadlinelaw3_AngleFinds.l0 k y272 (y272.length : Int) 0)) else (none)) else (some false)) = some r := H
  have A4 := Aside0.mk A40
  clear A40
  by_cases c5 : t271 = true
  · subst c5
    have H1 : (if 0 ≤ (Int.tmod a2 64) then ((some (([(⟨a0, a1⟩ : S33), (⟨shr .i64 a0 (Int.tmod a2 64), shr .i64 a1 (Int.tmod a2 64)⟩ : S33), (⟨a0 / 1073741824, a1 / 1125899906842624⟩ : S33), (⟨0, a1 / 1099511627776⟩ : S33), (⟨a0 / 1099511627776, 0⟩ : S33)] : List (S33)) : List (S33))).bind fun y272 => (leadlinelaw3_AngleFinds.l0 k y272 (y272.length : Int) 0)) else (none)) = some r := by rw [if_pos rfl] at H; exact H
    clear H
    have H := H1
    clear H1
    obtain ⟨ji6, hji6⟩ : ∃ j_ : Int, (Int.tmod a2 64) = j_ := ⟨_, rfl⟩
    replace H : (if 0 ≤ (ji6) then ((some (([(⟨a0, a1⟩ : S33), (⟨shr .i64 a0 (ji6), shr .i64 a1 (ji6)⟩ : S33), (⟨a0 / 1073741824, a1 / 1125899906842624⟩ : S33), (⟨0, a1 / 1099511627776⟩ : S33), (⟨a0 / 1099511627776, 0⟩ : S33)] : List (S33)) : List (S33))).bind fun y272 => (leadlinelaw3_AngleFinds.l0 k y272 (y272.length : Int) 0)) else (none)) = some r := by first | (rw [hji6] at H; exact H) | (simp only [hji6] at H ⊢; exact H)
    (try rw [hji6] at A4)
    by_cases c7 : 0 ≤ (ji6)
    · rw [if_pos c7] at H
      have c7b0 := eq_true c7
      have c7b1 : decide (0 ≤ (ji6)) = true := decide_eq_true c7
      clear c7
      obtain ⟨ji8, hji8⟩ : ∃ j_ : Int, (shr .i64 a0 (ji6)) = j_ := ⟨_, rfl⟩
      replace H : ((some (([(⟨a0, a1⟩ : S33), (⟨ji8, shr .i64 a1 (ji6)⟩ : S33), (⟨a0 / 1073741824, a1 / 1125899906842624⟩ : S33), (⟨0, a1 / 1099511627776⟩ : S33), (⟨a0 / 1099511627776, 0⟩ : S33)] : List (S33)) : List (S33))).bind fun y272 => (leadlinelaw3_AngleFinds.l0 k y272 (y272.length : Int) 0)) = some r := by first | (rw [hji8] at H; exact H) | (simp only [hji8] at H ⊢; exact H)
      (try rw [hji8] at A4)
      have hji8_ : (a0 / 2 ^ min (ji6).toNat 64) = ji8 := hji8
      have hji8z : (ji6) ≤ 64 → (a0 / 2 ^ (ji6).toNat) = ji8 := shr_small hji8
      have c9b0 := eq_true (of_decide_eq_true (by first | (with_reducible assumption) | assumption) : 0 ≤ (ji6))
      obtain ⟨ji10, hji10⟩ : ∃ j_ : Int, (shr .i64 a1 (ji6)) = j_ := ⟨_, rfl⟩
      replace H : ((some (([(⟨a0, a1⟩ : S33), (⟨ji8, ji10⟩ : S33), (⟨a0 / 1073741824, a1 / 1125899906842624⟩ : S33), (⟨0, a1 / 1099511627776⟩ : S33), (⟨a0 / 1099511627776, 0⟩ : S33)] : List (S33)) : List (S33))).bind fun y272 => (leadlinelaw3_AngleFinds.l0 k y272 (y272.length : Int) 0)) = some r := by first | (rw [hji10] at H; exact H) | (simp only [hji10] at H ⊢; exact H)
      (try rw [hji10] at A4)
      have hji10_ : (a1 / 2 ^ min (ji6).toNat 64) = ji10 := hji10
      have hji10z : (ji6) ≤ 64 → (a1 / 2 ^ (ji6).toNat) = ji10 := shr_small hji10
      obtain ⟨y272, hy272⟩ : ∃ y_ : List (S33), y_ = (([(⟨a0, a1⟩ : S33), (⟨ji8, ji10⟩ : S33), (⟨a0 / 1073741824, a1 / 1125899906842624⟩ : S33), (⟨0, a1 / 1099511627776⟩ : S33), (⟨a0 / 1099511627776, 0⟩ : S33)] : List (S33))) := ⟨_, rfl⟩
      replace H : (leadlinelaw3_AngleFinds.l0 k y272 (y272.length : Int) 0) = some r := by first | (rw [hy272]; with_reducible exact H) | (have H2_ := (Option.bind_some _ _).symm.trans H; rw [hy272]; with_reducible exact H2_) | (have H2_ := (Option.bind_some _ _).symm.trans H; with_reducible exact H2_) | with_reducible exact H | (rw [hy272]; exact H) | exact H
      have Ny272 := Aside0.mk hy272
      clear hy272
      have H' := Aside0.mk H
      clear H
      go_enter Try.func7, Try.ntmps7
      go_wp2_with (first | ((with_reducible refine gate_callee (f := 15) rfl ?_); refine goesL_ (some 13) rfl rfl Try.func15 (by kernel_rfl) rfl #[] rfl (by (try simp only [List.map_toArray, List.map_cons, List.map_nil]); first | done | rfl | (simp only [List.length_drop, List.length_take]; rfl)) ?_; (with_reducible refine (leadlinelaw3_known.calls k  true _ A4.out).mono ?_); rintro e w' ⟨rfl, ⟨nd, rfl⟩⟩; refine ⟨_, rfl, ?_⟩) | ((with_reducible refine gate_dst (N := 38) rfl ?_); refine Kd.R_lit k33 _ 33 ?hg (N := 38) ?hd (xs := ([(⟨a0, a1⟩ : S33), (⟨ji8, ji10⟩ : S33), (⟨a0 / 1073741824, a1 / 1125899906842624⟩ : S33), (⟨0, a1 / 1099511627776⟩ : S33), (⟨a0 / 1099511627776, 0⟩ : S33)] : List (S33))) (inner := [.int .i64 a0, .int .i64 a1, .int .i64 ji8, .int .i64 ji10, .int .i64 (a0 / 1073741824), .int .i64 (a1 / 1125899906842624), .int .i64 0, .int .i64 (a1 / 1099511627776), .int .i64 (a0 / 1099511627776), .int .i64 0]) (ok := fun _ => True) (okp := fun _ => True) ?hr ?hp (fun _ hk => hk) trivial (Below.refl _ _) (Nat.le_refl _) (by simp) ?_; (case hd => rfl); (case hg => rfl); (case hr => first | (go_simp; done) | (go_simp; rfl)); (case hp => exact (Reps.c2 (show Kd.M k33 _ _ _ (⟨a0, a1⟩ : S33) [.int .i64 a0, .int .i64 a1] from (k33_mkM _ _ _ (⟨a0, a1⟩ : S33) )) (Reps.c2 (show Kd.M k33 _ _ _ (⟨ji8, ji10⟩ : S33) [.int .i64 ji8, .int .i64 ji10] from (k33_mkM _ _ _ (⟨ji8, ji10⟩ : S33) )) (Reps.c2 (show Kd.M k33 _ _ _ (⟨a0 / 1073741824, a1 / 1125899906842624⟩ : S33) [.int .i64 (a0 / 1073741824), .int .i64 (a1 / 1125899906842624)] from (k33_mkM _ _ _ (⟨a0 / 1073741824, a1 / 1125899906842624⟩ : S33) )) (Reps.c2 (show Kd.M k33 _ _ _ (⟨0, a1 / 1099511627776⟩ : S33) [.int .i64 0, .int .i64 (a1 / 1099511627776)] from (k33_mkM _ _ _ (⟨0, a1 / 1099511627776⟩ : S33) )) (Reps.c2 (show Kd.M k33 _ _ _ (⟨a0 / 1099511627776, 0⟩ : S33) [.int .i64 (a0 / 1099511627776), .int .i64 0] from (k33_mkM _ _ _ (⟨a0 / 1099511627776, 0⟩ : S33) )) (Reps.none _ _))))))); intro v273 w11 ho12 hb hg_ hnew_; clear hg_ hnew_; (first | rw [← Ny272.out] at ho12 | (simp only [Int.reduceToNat] at ho12; rw [← Ny272.out] at ho12)); have n0_ := Aside0.mk (Kd.R_lower ho12 (below_size (by repeat (first | (with_reducible first | exact HB.out | apply below_alloc | apply pw_below_drewN | apply below_drew1) | exact HB.out)))); have n1_ := Aside0.mk (below_step (by repeat (first | (with_reducible first | exact HB.out | apply below_alloc | apply pw_below_drewN | apply below_drew1) | exact HB.out)) hb); clear HB; have HO274 := n0_; have HB := n1_; clear n0_ n1_; clear hb ho12; obtain ⟨Ao13, co13, eo13⟩ := Kd.R_slice HO274.out; subst eo13))
      go_loopg [40] k (fun kq v40 w' => ∃ (x40_1 : Int), v40 = .int .i64 x40_1 ∧ Aside0 (leadlinelaw3_AngleFinds.l0 kq y272 (y272.length : Int) x40_1 = some r) ∧ Aside0 (kq ≤ k) ∧ Aside0 (Kd.R k33 33 w' w.heap.size (fun _ => True) (.slice Ao13 y272.length co13) y272) ∧ Aside0 (Below w.heap.size w w'))
      case atStart => exact ⟨(0), (by first | rfl | (simp; done) | (simp [*]; done) | (simp [nb1_, nb2_]; done)), H', ⟨Nat.le_refl _⟩, ⟨by (with_reducible repeat (first | apply Kd.R_alloc | apply Kd.R_drewN | apply Kd.R_drew)); exact HO274.out⟩, ⟨by repeat (first | (with_reducible first | exact HB.out | apply below_alloc | apply pw_below_drewN | apply below_drew1) | exact HB.out)⟩⟩
      case round =>
        clear H'
        try clear c1
        try clear c2
        try clear p2
        try clear c5
        try clear c7
        try clear c7b0
        try clear c7b1
        try clear c9
        try clear c9b0
        obtain ⟨x40_1, rfl, HA, HK1, HO_38, HB⟩ := hrel
        cases gk with
        | zero => exact absurd HA.out (by simp [leadlinelaw3_AngleFinds.l0])
        | succ k1 =>
          have H := HA.out
          clear HA
          simp only [leadlinelaw3_AngleFinds.l0] at H
          by_cases c14 : x40_1 < (y272.length : Int)
          · rw [if_pos c14] at H
            have c14b0 : decide (x40_1 < (y272.length : Int)) = true := decide_eq_true c14
            clear c14
            by_cases c15 : 0 ≤ x40_1
            · rw [if_pos c15] at H
              have c15b0 : decide (0 ≤ x40_1) = true := decide_eq_true c15
              clear c15
              by_cases c16 : x40_1 < (y272.length : Int)
              · rw [if_pos c16] at H
                have c16b0 : decide (x40_1 < (y272.length : Int)) = true := decide_eq_true c16
                clear c16
                replace H := Option.bind_eq_some_iff.mp H
                obtain ⟨⟨t277, t278⟩, A170, H⟩ := H
                replace H : ((leadlineref1_Atan.f k1 ((rd_T33 y272 x40_1).f0) ((rd_T33 y272 x40_1).f1)).bind fun bt279 => (if t277 = bt279.1 then (if (t278 != bt279.2) = true then (some false) else (leadlinelaw3_AngleFinds.l0 k1 y272 (y272.length : Int) (wrap64 (x40_1 + 1)))) else (some false))) = some r := H
                have A17 := Aside0.mk A170
                clear A170
                replace H := Option.bind_eq_some_iff.mp H
                obtain ⟨⟨t279, t280⟩, A180, H⟩ := H
                replace H : (if t277 = t279 then (if (t278 != t280) = true then (some false) else (leadlinelaw3_AngleFinds.l0 k1 y272 (y272.length : Int) (wrap64 (x40_1 + 1)))) else (some false)) = some r := H
                have A18 := Aside0.mk A180
                clear A180
                by_cases c19 : t277 = t279
                · rw [if_pos c19] at H
                  have c19b0 : (t277 == t279) = true := beq_iff_eq.mpr c19
                  have c19b1 : (t277 != t279) = false := bne_eq_false_iff_eq.mpr c19
                  clear c19
                  by_cases c20 : (t278 != t280) = true
                  · rw [if_pos c20] at H
                    have c20b0 : (t278 != t280) = true := c20
                    (try (have c20b1 : decide (t278 = t280) = false := by simpa using c20))
                    (try (have c20b2 : (t278 == t280) = false := by simpa using c20))
                    (try (have c20b3 : ¬ (t278 = t280) := by simpa using c20))
                    clear c20
                    obtain rfl := Option.some.inj H
                    have p275 : 0 ≤ (x40_1 : Int) := of_decide_eq_true (by first | (with_reducible assumption) | assumption)
                    have q275 : x40_1 < (y272.length : Int) := of_decide_eq_true (by first | (with_reducible assumption) | assumption)
                    obtain ⟨ad275, e275, hx275_0, hx275_1⟩ := at_T33 (Kd.R_reads' HO_38.out).2.2 x40_1 p275 q275
                    cases e275
                    replace p275 := eq_true p275
                    replace q275 := eq_true q275
                    go_wp2_with (first | ((with_reducible refine gate_dst (N := 8) rfl ?_); refine box_event ?hg (N := 8) ?hd (cs := #[.int .i64 0, .int .i64 0]) (t := 33) ?hr ?_; (case hd => rfl); (case hg => rfl); (case hr => first | (go_simp; done) | (go_simp; rfl)); intro gb276 hg w21 hbox hb; have n0_ := Aside0.mk (Kd.R_below (Kd.R_elderB (by (with_reducible repeat (first | apply Kd.R_alloc | apply Kd.R_drewN | apply Kd.R_drew)); exact HO_38.out) gb276 (Nat.le_of_eq hg.symm)) hb); have n1_ := Aside0.mk (below_step (by repeat (first | (with_reducible first | exact HB.out | apply below_alloc | apply pw_below_drewN | apply below_drew1) | exact HB.out)) hb); have n2_ := Aside0.mk (hbox); have n3_ := Aside0.mk ((by rw [hg]; exact (below_size (by repeat (first | (with_reducible first | exact HB.out | apply below_alloc | apply pw_below_drewN | apply below_drew1) | exact HB.out))) : w.heap.size ≤ gb276)); have n4_ := Aside0.mk ((by rw [hg]; exact (below_size (by repeat (first | (with_reducible first | exact HB.out | apply below_alloc | apply pw_below_drewN | apply below_drew1) | exact HB.out))) : w.heap.size ≤ gb276)); clear HO_38; clear HB; have HO_38 := n0_; have HB := n1_; have BK276 := n2_; have GW276 := n3_; have GE276 := n4_; clear n0_ n1_ n2_ n3_ n4_; clear hb hbox hg; have hcz22_0 : w21.cell? ⟨gb276, 0, none⟩ = some (.int .i64 0) := (blk_cell BK276.out 0).trans rfl; have hcz22_1 : w21.cell? ⟨gb276, 1, none⟩ = some (.int .i64 0) := (blk_cell BK276.out 1).trans rfl; have hfz22_0 := blk_frozen BK276.out 0; have hfz22_1 := blk_frozen BK276.out 1) | ((with_reducible refine gate_callee (f := 22) rfl ?_); refine goesL_ (some 49) rfl rfl Try.func22 (by kernel_rfl) rfl #[.int .i64 ((rd_T33 y272 x40_1).f0), .int .i64 ((rd_T33 y272 x40_1).f1)] rfl (by (try simp only [List.map_toArray, List.map_cons, List.map_nil]); first | done | rfl | (simp only [List.length_drop, List.length_take]; rfl)) ?_; (with_reducible refine (angle_Atan.calls k1 ((rd_T33 y272 x40_1).f0) ((rd_T33 y272 x40_1).f1) t277 t278 _ A17.out).mono ?_); rintro e w' ⟨rfl, ⟨nd, rfl⟩⟩; refine ⟨_, rfl, ?_⟩) | ((with_reducible refine gate_callee (f := 23) rfl ?_); refine goesL_ (some 57) rfl rfl Try.func23 (by kernel_rfl) rfl #[.int .i64 ((rd_T33 y272 x40_1).f0), .int .i64 ((rd_T33 y272 x40_1).f1)] rfl (by (try simp only [List.map_toArray, List.map_cons, List.map_nil]); first | done | rfl | (simp only [List.length_drop, List.length_take]; rfl)) ?_; (with_reducible refine (leadlineref1_Atan.calls k1 ((rd_T33 y272 x40_1).f0) ((rd_T33 y272 x40_1).f1) t279 t280 _ A18.out).mono ?_); rintro e w23 ⟨rfl, hb⟩; refine ⟨_, rfl, ?_⟩; have n0_ := Aside0.mk (Kd.R_below (by (with_reducible repeat (first | apply Kd.R_alloc | apply Kd.R_drewN | apply Kd.R_drew)); exact (Kd.R_mono (Kd.R_far (p := ⟨gb276, 1, none⟩) (Kd.R_far (p := ⟨gb276, 0, none⟩) (Kd.R_mono HO_38.out (fun k_ hk => (⟨hk, hk.2⟩ : _ ∧ k_ ≠ gb276))) (fun _ hk => hk.2) (.int .i64 ((rd_T33 y272 x40_1).f0))) (fun _ hk => hk.2) (.int .i64 ((rd_T33 y272 x40_1).f1))) (fun _ h_ => h_.1))) hb); have n1_ := Aside0.mk (blk_below (g := gb276) (o := .cells #[.int .i64 ((rd_T33 y272 x40_1).f0), .int .i64 ((rd_T33 y272 x40_1).f1)] 33 (0, 0)) (by (with_reducible repeat (first | refine blk_drewN ?_ _ | refine blk_drew ?_ | refine blk_alloc ?_ _)); refine blk_put (cs := #[.int .i64 ((rd_T33 y272 x40_1).f0), .int .i64 0]) ?_ 1 _ rfl; (with_reducible repeat (first | refine blk_drewN ?_ _ | refine blk_drew ?_ | refine blk_alloc ?_ _)); refine blk_put (cs := #[.int .i64 0, .int .i64 0]) ?_ 0 _ rfl; (with_reducible repeat (first | refine blk_drewN ?_ _ | refine blk_drew ?_ | refine blk_alloc ?_ _)); exact BK276.out) hb); have n2_ := Aside0.mk (below_step (by repeat (first | (with_reducible first | exact HB.out | apply below_alloc | apply pw_below_drewN | apply below_drew1 | refine below_set ?_ GE276.out) | exact HB.out)) hb); clear HO_38; clear BK276; clear HB; have HO_38 := n0_; have BK276 := n1_; have HB := n2_; clear n0_ n1_ n2_; (try clear hb); (try clear hb2); (try clear hk); (try clear hi)))
                    go_ret
                    exact ⟨by first | rfl | (simp [errW_none, errW_some] <;> rfl) | (simp only [← hji6, ← hji8, ← hji10]; first | rfl | (simp [errW_none, errW_some] <;> rfl)) | (simp [*, errW_none, errW_some] <;> rfl), by repeat (first | (with_reducible first | exact HB.out | apply below_alloc | apply pw_below_drewN | apply below_drew1 | refine below_set ?_ GE276.out) | exact HB.out)⟩
                  · rw [if_neg c20] at H
                    have c20b0 : (t278 != t280) = false := by simpa using c20
                    (try (have c20b1 : decide (t278 = t280) = true := by simpa using c20))
                    (try (have c20b2 : (t278 == t280) = true := by simpa using c20))
                    clear c20
                    have H' := Aside0.mk H
                    clear H
                    have p275 : 0 ≤ (x40_1 : Int) := of_decide_eq_true (by first | (with_reducible assumption) | assumption)
                    have q275 : x40_1 < (y272.length : Int) := of_decide_eq_true (by first | (with_reducible assumption) | assumption)
                    obtain ⟨ad275, e275, hx275_0, hx275_1⟩ := at_T33 (Kd.R_reads' HO_38.out).2.2 x40_1 p275 q275
                    cases e275
                    replace p275 := eq_true p275
                    replace q275 := eq_true q275
                    go_wp2_with (first | ((with_reducible refine gate_dst (N := 8) rfl ?_); refine box_event ?hg (N := 8) ?hd (cs := #[.int .i64 0, .int .i64 0]) (t := 33) ?hr ?_; (case hd => rfl); (case hg => rfl); (case hr => first | (go_simp; done) | (go_simp; rfl)); intro gb276 hg w24 hbox hb; have n0_ := Aside0.mk (Kd.R_below (Kd.R_elderB (by (with_reducible repeat (first | apply Kd.R_alloc | apply Kd.R_drewN | apply Kd.R_drew)); exact HO_38.out) gb276 (Nat.le_of_eq hg.symm)) hb); have n1_ := Aside0.mk (below_step (by repeat (first | (with_reducible first | exact HB.out | apply below_alloc | apply pw_below_drewN | apply below_drew1) | exact HB.out)) hb); have n2_ := Aside0.mk (hbox); have n3_ := Aside0.mk ((by rw [hg]; exact (below_size (by repeat (first | (with_reducible first | exact HB.out | apply below_alloc | apply pw_below_drewN | apply below_drew1) | exact HB.out))) : w.heap.size ≤ gb276)); have n4_ := Aside0.mk ((by rw [hg]; exact (below_size (by repeat (first | (with_reducible first | exact HB.out | apply below_alloc | apply pw_below_drewN | apply below_drew1) | exact HB.out))) : w.heap.size ≤ gb276)); clear HO_38; clear HB; have HO_38 := n0_; have HB := n1_; have BK276 := n2_; have GW276 := n3_; have GE276 := n4_; clear n0_ n1_ n2_ n3_ n4_; clear hb hbox hg; have hcz25_0 : w24.cell? ⟨gb276, 0, none⟩ = some (.int .i64 0) := (blk_cell BK276.out 0).trans rfl; have hcz25_1 : w24.cell? ⟨gb276, 1, none⟩ = some (.int .i64 0) := (blk_cell BK276.out 1).trans rfl; have hfz25_0 := blk_frozen BK276.out 0; have hfz25_1 := blk_frozen BK276.out 1) | ((with_reducible refine gate_callee (f := 22) rfl ?_); refine goesL_ (some 49) rfl rfl Try.func22 (by kernel_rfl) rfl #[.int .i64 ((rd_T33 y272 x40_1).f0), .int .i64 ((rd_T33 y272 x40_1).f1)] rfl (by (try simp only [List.map_toArray, List.map_cons, List.map_nil]); first | done | rfl | (simp only [List.length_drop, List.length_take]; rfl)) ?_; (with_reducible refine (angle_Atan.calls k1 ((rd_T33 y272 x40_1).f0) ((rd_T33 y272 x40_1).f1) t277 t278 _ A17.out).mono ?_); rintro e w' ⟨rfl, ⟨nd, rfl⟩⟩; refine ⟨_, rfl, ?_⟩) | ((with_reducible refine gate_callee (f := 23) rfl ?_); refine goesL_ (some 57) rfl rfl Try.func23 (by kernel_rfl) rfl #[.int .i64 ((rd_T33 y272 x40_1).f0), .int .i64 ((rd_T33 y272 x40_1).f1)] rfl (by (try simp only [List.map_toArray, List.map_cons, List.map_nil]); first | done | rfl | (simp only [List.length_drop, List.length_take]; rfl)) ?_; (with_reducible refine (leadlineref1_Atan.calls k1 ((rd_T33 y272 x40_1).f0) ((rd_T33 y272 x40_1).f1) t279 t280 _ A18.out).mono ?_); rintro e w26 ⟨rfl, hb⟩; refine ⟨_, rfl, ?_⟩; have n0_ := Aside0.mk (Kd.R_below (by (with_reducible repeat (first | apply Kd.R_alloc | apply Kd.R_drewN | apply Kd.R_drew)); exact (Kd.R_mono (Kd.R_far (p := ⟨gb276, 1, none⟩) (Kd.R_far (p := ⟨gb276, 0, none⟩) (Kd.R_mono HO_38.out (fun k_ hk => (⟨hk, hk.2⟩ : _ ∧ k_ ≠ gb276))) (fun _ hk => hk.2) (.int .i64 ((rd_T33 y272 x40_1).f0))) (fun _ hk => hk.2) (.int .i64 ((rd_T33 y272 x40_1).f1))) (fun _ h_ => h_.1))) hb); have n1_ := Aside0.mk (blk_below (g := gb276) (o := .cells #[.int .i64 ((rd_T33 y272 x40_1).f0), .int .i64 ((rd_T33 y272 x40_1).f1)] 33 (0, 0)) (by (with_reducible repeat (first | refine blk_drewN ?_ _ | refine blk_drew ?_ | refine blk_alloc ?_ _)); refine blk_put (cs := #[.int .i64 ((rd_T33 y272 x40_1).f0), .int .i64 0]) ?_ 1 _ rfl; (with_reducible repeat (first | refine blk_drewN ?_ _ | refine blk_drew ?_ | refine blk_alloc ?_ _)); refine blk_put (cs := #[.int .i64 0, .int .i64 0]) ?_ 0 _ rfl; (with_reducible repeat (first | refine blk_drewN ?_ _ | refine blk_drew ?_ | refine blk_alloc ?_ _)); exact BK276.out) hb); have n2_ := Aside0.mk (below_step (by repeat (first | (with_reducible first | exact HB.out | apply below_alloc | apply pw_below_drewN | apply below_drew1 | refine below_set ?_ GE276.out) | exact HB.out)) hb); clear HO_38; clear BK276; clear HB; have HO_38 := n0_; have BK276 := n1_; have HB := n2_; clear n0_ n1_ n2_; (try clear hb); (try clear hb2); (try clear hk); (try clear hi)))
                    go_roundg k1
                    case measure => have := HK1.out; omega
                    case rel => exact ⟨(wrap64 (x40_1 + 1)), (by first | rfl | (simp; done) | (simp [*]; done) | (simp [nb1_, nb2_]; done)), H', ⟨by have := HK1.out; omega⟩, ⟨by (with_reducible repeat (first | apply Kd.R_alloc | apply Kd.R_drewN | apply Kd.R_drew)); exact Kd.R_mono HO_38.out (fun _ hk => trivial)⟩, ⟨by repeat (first | (with_reducible first | exact HB.out | apply below_alloc | apply pw_below_drewN | apply below_drew1 | refine below_set ?_ GE276.out) | exact HB.out)⟩⟩
                · rw [if_neg c19] at H
                  have c19b0 : (t277 == t279) = false := beq_eq_false_iff_ne.mpr c19
                  have c19b1 : (t277 != t279) = true := bne_iff_ne.mpr c19
                  obtain rfl := Option.some.inj H
                  have p275 : 0 ≤ (x40_1 : Int) := of_decide_eq_true (by first | (with_reducible assumption) | assumption)
                  have q275 : x40_1 < (y272.length : Int) := of_decide_eq_true (by first | (with_reducible assumption) | assumption)
                  obtain ⟨ad275, e275, hx275_0, hx275_1⟩ := at_T33 (Kd.R_reads' HO_38.out).2.2 x40_1 p275 q275
                  cases e275
                  replace p275 := eq_true p275
                  replace q275 := eq_true q275
                  go_wp2_with (first | ((with_reducible refine gate_dst (N := 8) rfl ?_); refine box_event ?hg (N := 8) ?hd (cs := #[.int .i64 0, .int .i64 0]) (t := 33) ?hr ?_; (case hd => rfl); (case hg => rfl); (case hr => first | (go_simp; done) | (go_simp; rfl)); intro gb276 hg w27 hbox hb; have n0_ := Aside0.mk (Kd.R_below (Kd.R_elderB (by (with_reducible repeat (first | apply Kd.R_alloc | apply Kd.R_drewN | apply Kd.R_drew)); exact HO_38.out) gb276 (Nat.le_of_eq hg.symm)) hb); have n1_ := Aside0.mk (below_step (by repeat (first | (with_reducible first | exact HB.out | apply below_alloc | apply pw_below_drewN | apply below_drew1) | exact HB.out)) hb); have n2_ := Aside0.mk (hbox); have n3_ := Aside0.mk ((by rw [hg]; exact (below_size (by repeat (first | (with_reducible first | exact HB.out | apply below_alloc | apply pw_below_drewN | apply below_drew1) | exact HB.out))) : w.heap.size ≤ gb276)); have n4_ := Aside0.mk ((by rw [hg]; exact (below_size (by repeat (first | (with_reducible first | exact HB.out | apply below_alloc | apply pw_below_drewN | apply below_drew1) | exact HB.out))) : w.heap.size ≤ gb276)); clear HO_38; clear HB; have HO_38 := n0_; have HB := n1_; have BK276 := n2_; have GW276 := n3_; have GE276 := n4_; clear n0_ n1_ n2_ n3_ n4_; clear hb hbox hg; have hcz28_0 : w27.cell? ⟨gb276, 0, none⟩ = some (.int .i64 0) := (blk_cell BK276.out 0).trans rfl; have hcz28_1 : w27.cell? ⟨gb276, 1, none⟩ = some (.int .i64 0) := (blk_cell BK276.out 1).trans rfl; have hfz28_0 := blk_frozen BK276.out 0; have hfz28_1 := blk_frozen BK276.out 1) | ((with_reducible refine gate_callee (f := 22) rfl ?_); refine goesL_ (some 49) rfl rfl Try.func22 (by kernel_rfl) rfl #[.int .i64 ((rd_T33 y272 x40_1).f0), .int .i64 ((rd_T33 y272 x40_1).f1)] rfl (by (try simp only [List.map_toArray, List.map_cons, List.map_nil]); first | done | rfl | (simp only [List.length_drop, List.length_take]; rfl)) ?_; (with_reducible refine (angle_Atan.calls k1 ((rd_T33 y272 x40_1).f0) ((rd_T33 y272 x40_1).f1) t277 t278 _ A17.out).mono ?_); rintro e w' ⟨rfl, ⟨nd, rfl⟩⟩; refine ⟨_, rfl, ?_⟩) | ((with_reducible refine gate_callee (f := 23) rfl ?_); refine goesL_ (some 57) rfl rfl Try.func23 (by kernel_rfl) rfl #[.int .i64 ((rd_T33 y272 x40_1).f0), .int .i64 ((rd_T33 y272 x40_1).f1)] rfl (by (try simp only [List.map_toArray, List.map_cons, List.map_nil]); first | done | rfl | (simp only [List.length_drop, List.length_take]; rfl)) ?_; (with_reducible refine (leadlineref1_Atan.calls k1 ((rd_T33 y272 x40_1).f0) ((rd_T33 y272 x40_1).f1) t279 t280 _ A18.out).mono ?_); rintro e w29 ⟨rfl, hb⟩; refine ⟨_, rfl, ?_⟩; have n0_ := Aside0.mk (Kd.R_below (by (with_reducible repeat (first | apply Kd.R_alloc | apply Kd.R_drewN | apply Kd.R_drew)); exact (Kd.R_mono (Kd.R_far (p := ⟨gb276, 1, none⟩) (Kd.R_far (p := ⟨gb276, 0, none⟩) (Kd.R_mono HO_38.out (fun k_ hk => (⟨hk, hk.2⟩ : _ ∧ k_ ≠ gb276))) (fun _ hk => hk.2) (.int .i64 ((rd_T33 y272 x40_1).f0))) (fun _ hk => hk.2) (.int .i64 ((rd_T33 y272 x40_1).f1))) (fun _ h_ => h_.1))) hb); have n1_ := Aside0.mk (blk_below (g := gb276) (o := .cells #[.int .i64 ((rd_T33 y272 x40_1).f0), .int .i64 ((rd_T33 y272 x40_1).f1)] 33 (0, 0)) (by (with_reducible repeat (first | refine blk_drewN ?_ _ | refine blk_drew ?_ | refine blk_alloc ?_ _)); refine blk_put (cs := #[.int .i64 ((rd_T33 y272 x40_1).f0), .int .i64 0]) ?_ 1 _ rfl; (with_reducible repeat (first | refine blk_drewN ?_ _ | refine blk_drew ?_ | refine blk_alloc ?_ _)); refine blk_put (cs := #[.int .i64 0, .int .i64 0]) ?_ 0 _ rfl; (with_reducible repeat (first | refine blk_drewN ?_ _ | refine blk_drew ?_ | refine blk_alloc ?_ _)); exact BK276.out) hb); have n2_ := Aside0.mk (below_step (by repeat (first | (with_reducible first | exact HB.out | apply below_alloc | apply pw_below_drewN | apply below_drew1 | refine below_set ?_ GE276.out) | exact HB.out)) hb); clear HO_38; clear BK276; clear HB; have HO_38 := n0_; have BK276 := n1_; have HB := n2_; clear n0_ n1_ n2_; (try clear hb); (try clear hb2); (try clear hk); (try clear hi)))
                  go_ret
                  exact ⟨by first | rfl | (simp [errW_none, errW_some] <;> rfl) | (simp only [← hji6, ← hji8, ← hji10]; first | rfl | (simp [errW_none, errW_some] <;> rfl)) | (simp [*, errW_none, errW_some] <;> rfl), by repeat (first | (with_reducible first | exact HB.out | apply below_alloc | apply pw_below_drewN | apply below_drew1 | refine below_set ?_ GE276.out) | exact HB.out)⟩
              · rw [if_neg c16] at H
                exact absurd H (by simp)
            · rw [if_neg c15] at H
              exact absurd H (by simp)
          · rw [if_neg c14] at H
            have c14b0 : decide (x40_1 < (y272.length : Int)) = false := decide_eq_false c14
            clear c14
            obtain rfl := Option.some.inj H
            go_wp2
            go_ret
            exact ⟨by first | rfl | (simp [errW_none, errW_some] <;> rfl) | (simp only [← hji6, ← hji8, ← hji10]; first | rfl | (simp [errW_none, errW_some] <;> rfl)) | (simp [*, errW_none, errW_some] <;> rfl), by repeat (first | (with_reducible first | exact HB.out | apply below_alloc | apply pw_below_drewN | apply below_drew1) | exact HB.out)⟩
    · rw [if_neg c7] at H
      exact absurd H (by simp)
  · replace c5 := Bool.eq_false_iff.mpr c5
    subst c5
    have H1 : (some false) = some r := by rw [if_neg (show ¬ (false = true) by decide)] at H; exact H
    clear H
    have H := H1
    clear H1
    obtain rfl := Option.some.inj H
    go_enter Try.func7, Try.ntmps7
    go_wp2_with (first | ((with_reducible refine gate_callee (f := 15) rfl ?_); refine goesL_ (some 13) rfl rfl Try.func15 (by kernel_rfl) rfl #[] rfl (by (try simp only [List.map_toArray, List.map_cons, List.map_nil]); first | done | rfl | (simp only [List.length_drop, List.length_take]; rfl)) ?_; (with_reducible refine (leadlinelaw3_known.calls k  false _ A4.out).mono ?_); rintro e w' ⟨rfl, ⟨nd, rfl⟩⟩; refine ⟨_, rfl, ?_⟩))
    go_ret
    exact ⟨by first | rfl | (simp [errW_none, errW_some] <;> rfl) | (simp [*, errW_none, errW_some] <;> rfl), by repeat (first | (with_reducible first | exact HB.out | apply below_alloc | apply pw_below_drewN | apply below_drew1) | exact HB.out)⟩

/-- THE ONE PURE STATEMENT of leadlinelaw3_AngleFinds: yours. -/
def leadlinelaw3_AngleFinds.Pure : Prop := ∀ (a0 : Int) (a1 : Int) (a2 : Int), (Lit.int .i64 a0).wf = true → (Lit.int .i64 a1).wf = true → (Lit.int .u8 a2).wf = true → ∃ k, leadlinelaw3_AngleFinds.f k a0 a1 a2 = some true
theorem leadlinelaw3_AngleFinds.walk (P : leadlinelaw3_AngleFinds.Pure) (a0 : Int) (a1 : Int) (a2 : Int) (w : World) (w0 : (Lit.int .i64 a0).wf = true) (w1 : (Lit.int .i64 a1).wf = true) (w2 : (Lit.int .u8 a2).wf = true) :
    Calls Try.prog 7 #[.int .i64 a0, .int .i64 a1, .int .u8 a2] w fun e w' => e = .returned (.bool true) ∧ Below w.heap.size w w' := by
  obtain ⟨k, h⟩ := P a0 a1 a2 w0 w1 w2
  refine (leadlinelaw3_AngleFinds.calls k a0 a1 a2 true w h).mono ?_
  rintro e w' ⟨rfl, hd⟩
  exact ⟨rfl, hd⟩

end Go.Proofs.Ytoedbnnepcnjnaa.QAf
