/- Lean functions, contracts and lemmas that this claim needs. No condition. -/
import Derived.Test.YtaiolioggjknfaaDoorLQSnx0
import Derived.Test.YtaiolioggjknfaaDoorLQSnx3
import Derived.Test.YtaiolioggjknfaaDoorLQSnx4
import Derived.Test.YtaiolioggjknfaaDoorLQSnx5
import Derived.Test.YtaiolioggjknfaaDoorLQSnx6
import Derived.Test.YtaiolioggjknfaaDoorLQSnx9
namespace Go.Proofs.YtaiolioggjknfaaDoor.QSn
open Go.Proofs.YtaiolioggjknfaaDoor.XCarry Go.RowKit Go.Proofs.YtaiolioggjknfaaDoorW.PrintWords Go.Proofs.YtaiolioggjknfaaDoorW.PrintLast Go.Proofs.YtaiolioggjknfaaDoorW.PrintMore
attribute [local go_sem] max2_int min2_int max_two min_two max_three min_three max_four min_four   -- for this text's walks alone
set_option linter.unusedVariables false
set_option linter.unusedSimpArgs false
def leadlineref1_Sub.f (k : Nat) (a0_0 : Bool) (l0_1 : List Int) (a1_0 : Bool) (l1_1 : List Int) : Option (Bool × List Int) := (leadlineref1_Neg.f a1_0 l1_1).bind fun bt350 => ((leadlineref1_Add.f k a0_0 l0_1 bt350.1 bt350.2).bind fun bt354 => (some (bt354.1, bt354.2)))
theorem leadlineref1_Sub.mono : ∀ a0 a1 a2 a3 k, LeO (leadlineref1_Sub.f k a0 a1 a2 a3) (leadlineref1_Sub.f (k + 1) a0 a1 a2 a3) := by
  intro a0 a1 a2 a3 k
  unfold leadlineref1_Sub.f
  repeat' first
      | (with_reducible exact leadlineref1_Add.mono _ _ _ _ _)
      | (with_reducible exact LeO.refl _)
      | (with_reducible exact LeO.none _)
      | (with_reducible refine LeO.ite ?_ ?_)
      | (with_reducible refine LeO.bind ?_ (fun _ => ?_))
      | exact leadlineref1_Add.mono _ _ _ _ _
      | exact LeO.none _
      | refine LeO.ite ?_ ?_
      | refine LeO.bind ?_ (fun _ => ?_)
set_option maxHeartbeats 8000000 in
set_option maxRecDepth 100000 in
theorem leadlineref1_Sub.calls (k : Nat) (a0_0 : Bool) (A0_1 : Option Addr) (c0_1 : Nat) (l0_1 : List Int) (a1_0 : Bool) (P1_1_ : Nat → Prop) (A1_1 : Option Addr) (c1_1 : Nat) (l1_1 : List Int) (r1 : Bool) (r2 : List Int) (w : World) (hr0_1 : Kd.C (Kd.int .u64) w A0_1 l0_1.length l0_1) (hc0_1 : l0_1.length ≤ c0_1) (hs1_1 : Kd.V (Kd.int .u64) 78 w w.heap.size (fun k_ => P1_1_ k_) (.slice A1_1 l1_1.length c1_1) l1_1) (h : leadlineref1_Sub.f k a0_0 l0_1 a1_0 l1_1 = some (r1, r2)) :
    Calls Tryd.prog 88 #[.agg #[.bool a0_0, .slice A0_1 l0_1.length c0_1], .agg #[.bool a1_0, .slice A1_1 l1_1.length c1_1]] w fun e w' => ∃ v1_ : Value, e = .returned (.agg #[.bool r1, v1_]) ∧ Kd.V (Kd.int .u64) 78 w' w.heap.size (fun k_ => (P1_1_ k_ ∨ w.heap.size ≤ k_)) v1_ r2 ∧ Below w.heap.size w w' := by
  have hu95 := Tryd.underlying95
  have HR0_1 := Aside0.mk hr0_1
  have HC0_1 := Aside0.mk hc0_1
  clear hr0_1 hc0_1
  have HO1_1 := Aside0.mk (show Kd.V (Kd.int .u64) 78 w w.heap.size (fun k_ => (P1_1_ k_ ∨ w.heap.size ≤ k_)) (.slice A1_1 l1_1.length c1_1) l1_1 from Kd.V_mono hs1_1 (fun k_ hk => .inl hk))
  have HB := Aside0.mk (Below.refl w.heap.size w)
  have H : ((leadlineref1_Neg.f a1_0 l1_1).bind fun bt350 => ((leadlineref1_Add.f k a0_0 l0_1 bt350.1 bt350.2).bind fun bt354 => (some (bt354.1, bt354.2)))) = some (r1, r2) := h
  clear h
  replace H := Option.bind_eq_some_iff.mp H
  obtain ⟨⟨t350, t351⟩, A30, H⟩ := H
  replace H : ((leadlineref1_Add.f k a0_0 l0_1 t350 t351).bind fun bt354 => (some (bt354.1, bt354.2))) = some (r1, r2) := H
  have A3 := Aside0.mk A30
  clear A30
  replace H := Option.bind_eq_some_iff.mp H
  obtain ⟨⟨t354, t355⟩, A40, H⟩ := H
  replace H : (some (t354, t355)) = some (r1, r2) := H
  have A4 := Aside0.mk A40
  clear A40
  simp only [Option.some.injEq, Prod.mk.injEq] at H
  obtain ⟨rfl, rfl⟩ := H
  go_enter Tryd.func88, Tryd.ntmps88
  try go_wp2_with (first | ((with_reducible refine gate_dst (N := 2) rfl ?_); refine box_event ?hg (N := 2) ?hd (cs := #[.bool a0_0, .slice A0_1 l0_1.length c0_1]) (t := 95) ?hr ?_; (case hd => rfl); (case hg => rfl); (case hr => first | (go_simp; done) | (go_simp; rfl)); intro gb347 hg w5 hbox hb; have n0_ := Aside0.mk (Kd.V_below (Kd.V_elderB (by (with_reducible repeat (first | apply Kd.V_alloc | apply Kd.V_drewN | apply Kd.V_drew)); exact HO1_1.out) gb347 (Nat.le_of_eq hg.symm)) hb); have n1_ := Aside0.mk (below_step (by repeat (first | (with_reducible first | exact HB.out | apply below_alloc | apply pw_below_drewN | apply below_drew1) | exact HB.out)) hb); have n2_ := Aside0.mk (hbox); have n3_ := Aside0.mk ((by rw [hg]; exact (below_size (by repeat (first | (with_reducible first | exact HB.out | apply below_alloc | apply pw_below_drewN | apply below_drew1) | exact HB.out))) : w.heap.size ≤ gb347)); have n4_ := Aside0.mk ((by rw [hg]; exact (below_size (by repeat (first | (with_reducible first | exact HB.out | apply below_alloc | apply pw_below_drewN | apply below_drew1) | exact HB.out))) : w.heap.size ≤ gb347)); clear HO1_1; clear HB; have HO1_1 := n0_; have HB := n1_; have BK347 := n2_; have GW347 := n3_; have GE347 := n4_; clear n0_ n1_ n2_ n3_ n4_; clear hb hbox hg) | ((with_reducible refine gate_dst (N := 3) rfl ?_); refine box_event ?hg (N := 3) ?hd (cs := #[.bool a1_0, .slice A1_1 l1_1.length c1_1]) (t := 95) ?hr ?_; (case hd => rfl); (case hg => rfl); (case hr => first | (go_simp; done) | (go_simp; rfl)); intro gb348 hg w6 hbox hb; have n0_ := Aside0.mk (Kd.V_below (Kd.V_elderB (by (with_reducible repeat (first | apply Kd.V_alloc | apply Kd.V_drewN | apply Kd.V_drew)); exact HO1_1.out) gb348 (Nat.le_of_eq hg.symm)) hb); have n1_ := Aside0.mk (blk_below (g := gb347) (o := .cells #[.bool a0_0, .slice A0_1 l0_1.length c0_1] 95 (0, 0)) (by (with_reducible repeat (first | refine blk_drewN ?_ _ | refine blk_drew ?_ | refine blk_alloc ?_ _)); exact BK347.out) hb); have n2_ := Aside0.mk (below_step (by repeat (first | (with_reducible first | exact HB.out | apply below_alloc | apply pw_below_drewN | apply below_drew1 | refine below_set ?_ GE347.out) | exact HB.out)) hb); have n3_ := Aside0.mk (hbox); have n4_ := Aside0.mk ((by rw [hg]; exact (below_size (by repeat (first | (with_reducible first | exact HB.out | apply below_alloc | apply pw_below_drewN | apply below_drew1 | refine below_set ?_ GE347.out) | exact HB.out))) : w.heap.size ≤ gb348)); have n5_ := Aside0.mk ((by rw [hg]; exact (below_size (by repeat (first | (with_reducible first | exact HB.out | apply below_alloc | apply pw_below_drewN | apply below_drew1 | refine below_set ?_ GE347.out) | exact HB.out))) : w.heap.size ≤ gb348)); have n6_ := Aside0.mk ((by rw [hg]; exact Nat.ne_of_lt (blk_lt (g := gb347) (o := .cells #[.bool a0_0, .slice A0_1 l0_1.length c0_1] 95 (0, 0)) (by (with_reducible repeat (first | refine blk_drewN ?_ _ | refine blk_drew ?_ | refine blk_alloc ?_ _)); exact BK347.out)) : gb347 ≠ gb348)); have n7_ := Aside0.mk ((by rw [hg]; exact Nat.ne_of_gt (blk_lt (g := gb347) (o := .cells #[.bool a0_0, .slice A0_1 l0_1.length c0_1] 95 (0, 0)) (by (with_reducible repeat (first | refine blk_drewN ?_ _ | refine blk_drew ?_ | refine blk_alloc ?_ _)); exact BK347.out)) : gb348 ≠ gb347)); clear HO1_1; clear BK347; clear HB; have HO1_1 := n0_; have BK347 := n1_; have HB := n2_; have BK348 := n3_; have GW348 := n4_; have GE348 := n5_; have NB347_348 := n6_; have NB348_347 := n7_; clear n0_ n1_ n2_ n3_ n4_ n5_ n6_ n7_; clear hb hbox hg) | ((with_reducible refine gate_dst (N := 4) rfl ?_); refine box_event ?hg (N := 4) ?hd (cs := #[.bool false, .slice none 0 0]) (t := 95) ?hr ?_; (case hd => rfl); (case hg => rfl); (case hr => first | (go_simp; done) | (go_simp; rfl)); intro gb349 hg w7 hbox hb; have n0_ := Aside0.mk (Kd.V_below (Kd.V_elderB (by (with_reducible repeat (first | apply Kd.V_alloc | apply Kd.V_drewN | apply Kd.V_drew)); exact HO1_1.out) gb349 (Nat.le_of_eq hg.symm)) hb); have n1_ := Aside0.mk (blk_below (g := gb347) (o := .cells #[.bool a0_0, .slice A0_1 l0_1.length c0_1] 95 (0, 0)) (by (with_reducible repeat (first | refine blk_drewN ?_ _ | refine blk_drew ?_ | refine blk_alloc ?_ _)); exact BK347.out) hb); have n2_ := Aside0.mk (blk_below (g := gb348) (o := .cells #[.bool a1_0, .slice A1_1 l1_1.length c1_1] 95 (0, 0)) (by (with_reducible repeat (first | refine blk_drewN ?_ _ | refine blk_drew ?_ | refine blk_alloc ?_ _)); exact BK348.out) hb); have n3_ := Aside0.mk (below_step (by repeat (first | (with_reducible first | exact HB.out | apply below_alloc | apply pw_below_drewN | apply below_drew1 | refine below_set ?_ GE347.out | refine below_set ?_ GE348.out) | exact HB.out)) hb); have n4_ := Aside0.mk (hbox); have n5_ := Aside0.mk ((by rw [hg]; exact (below_size (by repeat (first | (with_reducible first | exact HB.out | apply below_alloc | apply pw_below_drewN | apply below_drew1 | refine below_set ?_ GE347.out | refine below_set ?_ GE348.out) | exact HB.out))) : w.heap.size ≤ gb349)); have n6_ := Aside0.mk ((by rw [hg]; exact (below_size (by repeat (first | (with_reducible first | exact HB.out | apply below_alloc | apply pw_below_drewN | apply below_drew1 | refine below_set ?_ GE347.out | refine below_set ?_ GE348.out) | exact HB.out))) : w.heap.size ≤ gb349)); have n7_ := Aside0.mk ((by rw [hg]; exact Nat.ne_of_lt (blk_lt (g := gb347) (o := .cells #[.bool a0_0, .slice A0_1 l0_1.length c0_1] 95 (0, 0)) (by (with_reducible repeat (first | refine blk_drewN ?_ _ | refine blk_drew ?_ | refine blk_alloc ?_ _)); exact BK347.out)) : gb347 ≠ gb349)); have n8_ := Aside0.mk ((by rw [hg]; exact Nat.ne_of_gt (blk_lt (g := gb347) (o := .cells #[.bool a0_0, .slice A0_1 l0_1.length c0_1] 95 (0, 0)) (by (with_reducible repeat (first | refine blk_drewN ?_ _ | refine blk_drew ?_ | refine blk_alloc ?_ _)); exact BK347.out)) : gb349 ≠ gb347)); have n9_ := Aside0.mk ((by rw [hg]; exact Nat.ne_of_lt (blk_lt (g := gb348) (o := .cells #[.bool a1_0, .slice A1_1 l1_1.length c1_1] 95 (0, 0)) (by (with_reducible repeat (first | refine blk_drewN ?_ _ | refine blk_drew ?_ | refine blk_alloc ?_ _)); exact BK348.out)) : gb348 ≠ gb349)); have n10_ := Aside0.mk ((by rw [hg]; exact Nat.ne_of_gt (blk_lt (g := gb348) (o := .cells #[.bool a1_0, .slice A1_1 l1_1.length c1_1] 95 (0, 0)) (by (with_reducible repeat (first | refine blk_drewN ?_ _ | refine blk_drew ?_ | refine blk_alloc ?_ _)); exact BK348.out)) : gb349 ≠ gb348)); clear HO1_1; clear BK347; clear BK348; clear HB; have HO1_1 := n0_; have BK347 := n1_; have BK348 := n2_; have HB := n3_; have BK349 := n4_; have GW349 := n5_; have GE349 := n6_; have NB347_349 := n7_; have NB349_347 := n8_; have NB348_349 := n9_; have NB349_348 := n10_; clear n0_ n1_ n2_ n3_ n4_ n5_ n6_ n7_ n8_ n9_ n10_; clear hb hbox hg))
  have n0_ := Aside0.mk (Kd.V_drew HO1_1.out)
  have n1_ := Aside0.mk (blk_drew BK347.out)
  have n2_ := Aside0.mk (blk_drew BK348.out)
  have n3_ := Aside0.mk (blk_drew BK349.out)
  have n4_ := Aside0.mk (below_drew1 HB.out)
  clear HO1_1
  clear BK347
  clear BK348
  clear BK349
  clear HB
  have HO1_1 := n0_
  have BK347 := n1_
  have BK348 := n2_
  have BK349 := n3_
  have HB := n4_
  clear n0_ n1_ n2_ n3_ n4_
  refine start_ (n := 5) (S := fun w' => w'.cell? ⟨gb347, 0, none⟩ = some (.bool a0_0) ∧ w'.cell? ⟨gb347, 1, none⟩ = some (.slice A0_1 l0_1.length c0_1) ∧ w'.cell? ⟨gb348, 0, none⟩ = some (.bool a1_0) ∧ w'.cell? ⟨gb348, 1, none⟩ = some (.slice A1_1 l1_1.length c1_1)) (ds := []) #[false, false, false, false, false] (by kernel_rfl) rfl rfl ⟨(blk_cell BK347.out 0).trans rfl, (blk_cell BK347.out 1).trans rfl, (blk_cell BK348.out 0).trans rfl, (blk_cell BK348.out 1).trans rfl⟩ (fun hHeld => ?_)
  generalize w7.drew = w8 at HO1_1 BK347 BK348 BK349 HB hHeld ⊢
  refine take_ (i := 0) (N := some 5) (v := ?_) (a' := ?_) #[true, false, false, false, false] rfl rfl (by kernel_rfl) (fun _ _ _ h => h) (Or.inl ⟨by rfl, ?_⟩) hHeld ?_ ?_
  rotate_left
  · rintro w' ⟨s0, s1, s2, s3⟩
    go_simp
    with_reducible rfl
  rotate_left
  · simp only [Act.put, List.setIfInBounds_toArray, List.set_cons_zero, List.set_cons_succ, i64_w, i32_w]
    rfl
  refine take_ (i := 1) (N := some 6) (v := ?_) (a' := ?_) #[true, true, false, false, false] rfl rfl (by kernel_rfl) (fun _ _ _ h => h) (Or.inl ⟨by rfl, ?_⟩) hHeld ?_ ?_
  rotate_left
  · rintro w' ⟨s0, s1, s2, s3⟩
    go_simp
    with_reducible rfl
  rotate_left
  · simp only [Act.put, List.setIfInBounds_toArray, List.set_cons_zero, List.set_cons_succ, i64_w, i32_w]
    rfl
  refine one_ (i := 2) (N := some 7) #[true, true, true, false, false] rfl rfl (by kernel_rfl) (by decide) (fun K hK => ?_)
  refine goes_ Tryd.func95 (by kernel_rfl) rfl #[.agg #[.bool a1_0, .slice A1_1 l1_1.length c1_1]] (by rfl) rfl rfl (by (try simp only [List.map_toArray, List.map_cons, List.map_nil]); first | done | rfl | (simp only [List.length_drop, List.length_take]; rfl)) ?_
  with_reducible refine (leadlineref1_Neg.calls a1_0 (fun k_ => ((((P1_1_ k_ ∨ w.heap.size ≤ k_) ∧ k_ ≠ gb347) ∧ k_ ≠ gb348) ∧ k_ ≠ gb349)) _ _ l1_1 t350 t351 _ ?side1 A3.out).mono ?_
  (case side1 => exact HO1_1.out)
  rintro e w9 ⟨v352, rfl, ho0, hb⟩
  refine ⟨_, rfl, ?_⟩
  have n0_ := Aside0.mk (Kd.V_below (by (with_reducible repeat (first | apply Kd.V_alloc | apply Kd.V_drewN | apply Kd.V_drew)); exact HO1_1.out) hb)
  have n1_ := Aside0.mk (Kd.V_lower (Kd.V_mono (ok' := fun k_ => (P1_1_ k_ ∨ w.heap.size ≤ k_) ∧ k_ ≠ gb347 ∧ k_ ≠ gb348 ∧ k_ ≠ gb349) ho0 (fun k_ hk_ => ⟨Or.elim hk_ (fun hs_ => hs_.1.1.1) (fun hn_ => (.inr (Nat.le_trans (below_size (by repeat (first | (with_reducible first | exact HB.out | apply below_alloc | apply pw_below_drewN | apply below_drew1 | refine below_set ?_ GE347.out | refine below_set ?_ GE348.out | refine below_set ?_ GE349.out) | exact HB.out))) hn_))), Or.elim hk_ (fun hs_ => hs_.1.1.2) (fun hn_ => (Kd.freshB (g := gb347) (o := .cells #[.bool a0_0, .slice A0_1 l0_1.length c0_1] 95 (0, 0)) (by (with_reducible repeat (first | refine blk_drewN ?_ _ | refine blk_drew ?_ | refine blk_alloc ?_ _)); exact BK347.out) k_ hn_)), Or.elim hk_ (fun hs_ => hs_.1.2) (fun hn_ => (Kd.freshB (g := gb348) (o := .cells #[.bool a1_0, .slice A1_1 l1_1.length c1_1] 95 (0, 0)) (by (with_reducible repeat (first | refine blk_drewN ?_ _ | refine blk_drew ?_ | refine blk_alloc ?_ _)); exact BK348.out) k_ hn_)), Or.elim hk_ (fun hs_ => hs_.2) (fun hn_ => (Kd.freshB (g := gb349) (o := .cells #[.bool false, .slice none 0 0] 95 (0, 0)) (by (with_reducible repeat (first | refine blk_drewN ?_ _ | refine blk_drew ?_ | refine blk_alloc ?_ _)); exact BK349.out) k_ hn_))⟩)) (below_size (by repeat (first | (with_reducible first | exact HB.out | apply below_alloc | apply pw_below_drewN | apply below_drew1 | refine below_set ?_ GE347.out | refine below_set ?_ GE348.out | refine below_set ?_ GE349.out) | exact HB.out))))
  have n2_ := Aside0.mk (blk_below (g := gb347) (o := .cells #[.bool a0_0, .slice A0_1 l0_1.length c0_1] 95 (0, 0)) (by (with_reducible repeat (first | refine blk_drewN ?_ _ | refine blk_drew ?_ | refine blk_alloc ?_ _)); exact BK347.out) hb)
  have n3_ := Aside0.mk (blk_below (g := gb348) (o := .cells #[.bool a1_0, .slice A1_1 l1_1.length c1_1] 95 (0, 0)) (by (with_reducible repeat (first | refine blk_drewN ?_ _ | refine blk_drew ?_ | refine blk_alloc ?_ _)); exact BK348.out) hb)
  have n4_ := Aside0.mk (blk_below (g := gb349) (o := .cells #[.bool false, .slice none 0 0] 95 (0, 0)) (by (with_reducible repeat (first | refine blk_drewN ?_ _ | refine blk_drew ?_ | refine blk_alloc ?_ _)); exact BK349.out) hb)
  have n5_ := Aside0.mk (below_step (by repeat (first | (with_reducible first | exact HB.out | apply below_alloc | apply pw_below_drewN | apply below_drew1 | refine below_set ?_ GE347.out | refine below_set ?_ GE348.out | refine below_set ?_ GE349.out) | exact HB.out)) hb)
  clear HO1_1
  clear BK347
  clear BK348
  clear BK349
  clear HB
  have HO1_1 := n0_
  have HO353 := n1_
  have BK347 := n2_
  have BK348 := n3_
  have BK349 := n4_
  have HB := n5_
  clear n0_ n1_ n2_ n3_ n4_ n5_
  (try clear hb)
  (try clear hb2)
  (try clear hk)
  (try clear hi)
  (try clear ho0)
  obtain ⟨Ao10, co10, eo10⟩ := Kd.V_slice HO353.out
  (first | subst eo10 | (injection eo10 with f1_ f2_ f3_; have f4_ := f1_.symm; have f5_ := f3_.symm; clear f1_ f2_ f3_; subst f4_; subst f5_))
  refine hK.out _ _ ⟨(blk_cell BK347.out 0).trans rfl, (blk_cell BK347.out 1).trans rfl, (blk_cell BK348.out 0).trans rfl, (blk_cell BK348.out 1).trans rfl⟩ (fun hHeld => ?_)
  clear hK K
  refine norm_ (a' := ?_) ?_ ?_
  rotate_left
  · show Act.put _ (some 7) _ = _
    simp only [Act.put, List.setIfInBounds_toArray, List.set_cons_zero, List.set_cons_succ, i64_w, i32_w]
    rfl
  refine one_ (i := 3) (N := some 8) #[true, true, true, true, false] rfl rfl (by kernel_rfl) (by decide) (fun K hK => ?_)
  refine goes_ Tryd.func79 (by kernel_rfl) rfl #[.agg #[.bool a0_0, .slice A0_1 l0_1.length c0_1], .agg #[.bool t350, .slice Ao10 t351.length co10]] (by rfl) rfl rfl (by (try simp only [List.map_toArray, List.map_cons, List.map_nil]); first | done | rfl | (simp only [List.length_drop, List.length_take]; rfl)) ?_
  with_reducible refine (leadlineref1_Add.calls k a0_0 _ _ l0_1 t350 _ _ t351 t354 t355 _ ?side1 ?side2 ?side3 ?side4 A4.out).mono ?_
  (case side1 => repeat (first | exact (Kd.C_below HR0_1.out HB.out) | (with_reducible refine Kd.C_alloc ?_ _) | (with_reducible refine Kd.C_drewN ?_ _) | (with_reducible refine Kd.C_drew ?_)))
  (case side2 => exact HC0_1.out)
  (case side3 => repeat (first | exact (Kd.V_reads' HO353.out).2.2 | (with_reducible refine Kd.C_alloc ?_ _) | (with_reducible refine Kd.C_drewN ?_ _) | (with_reducible refine Kd.C_drew ?_)))
  (case side4 => exact (Kd.V_reads' HO353.out).2.1)
  rintro e w11 ⟨v356, rfl, ho0, hb⟩
  refine ⟨_, rfl, ?_⟩
  have n0_ := Aside0.mk (Kd.V_below (by (with_reducible repeat (first | apply Kd.V_alloc | apply Kd.V_drewN | apply Kd.V_drew)); exact HO1_1.out) hb)
  have n1_ := Aside0.mk (Kd.V_below (by (with_reducible repeat (first | apply Kd.V_alloc | apply Kd.V_drewN | apply Kd.V_drew)); exact HO353.out) hb)
  have n2_ := Aside0.mk (Kd.V_lower (Kd.V_mono (ok' := fun k_ => (P1_1_ k_ ∨ w.heap.size ≤ k_) ∧ k_ ≠ gb347 ∧ k_ ≠ gb348 ∧ k_ ≠ gb349) ho0 (fun k_ hk_ => ⟨(.inr (Nat.le_trans (below_size (by repeat (first | (with_reducible first | exact HB.out | apply below_alloc | apply pw_below_drewN | apply below_drew1 | refine below_set ?_ GE347.out | refine below_set ?_ GE348.out | refine below_set ?_ GE349.out) | exact HB.out))) hk_)), (Kd.freshB (g := gb347) (o := .cells #[.bool a0_0, .slice A0_1 l0_1.length c0_1] 95 (0, 0)) (by (with_reducible repeat (first | refine blk_drewN ?_ _ | refine blk_drew ?_ | refine blk_alloc ?_ _)); exact BK347.out) k_ hk_), (Kd.freshB (g := gb348) (o := .cells #[.bool a1_0, .slice A1_1 l1_1.length c1_1] 95 (0, 0)) (by (with_reducible repeat (first | refine blk_drewN ?_ _ | refine blk_drew ?_ | refine blk_alloc ?_ _)); exact BK348.out) k_ hk_), (Kd.freshB (g := gb349) (o := .cells #[.bool false, .slice none 0 0] 95 (0, 0)) (by (with_reducible repeat (first | refine blk_drewN ?_ _ | refine blk_drew ?_ | refine blk_alloc ?_ _)); exact BK349.out) k_ hk_)⟩)) (below_size (by repeat (first | (with_reducible first | exact HB.out | apply below_alloc | apply pw_below_drewN | apply below_drew1 | refine below_set ?_ GE347.out | refine below_set ?_ GE348.out | refine below_set ?_ GE349.out) | exact HB.out))))
  have n3_ := Aside0.mk (blk_below (g := gb347) (o := .cells #[.bool a0_0, .slice A0_1 l0_1.length c0_1] 95 (0, 0)) (by (with_reducible repeat (first | refine blk_drewN ?_ _ | refine blk_drew ?_ | refine blk_alloc ?_ _)); exact BK347.out) hb)
  have n4_ := Aside0.mk (blk_below (g := gb348) (o := .cells #[.bool a1_0, .slice A1_1 l1_1.length c1_1] 95 (0, 0)) (by (with_reducible repeat (first | refine blk_drewN ?_ _ | refine blk_drew ?_ | refine blk_alloc ?_ _)); exact BK348.out) hb)
  have n5_ := Aside0.mk (blk_below (g := gb349) (o := .cells #[.bool false, .slice none 0 0] 95 (0, 0)) (by (with_reducible repeat (first | refine blk_drewN ?_ _ | refine blk_drew ?_ | refine blk_alloc ?_ _)); exact BK349.out) hb)
  have n6_ := Aside0.mk (below_step (by repeat (first | (with_reducible first | exact HB.out | apply below_alloc | apply pw_below_drewN | apply below_drew1 | refine below_set ?_ GE347.out | refine below_set ?_ GE348.out | refine below_set ?_ GE349.out) | exact HB.out)) hb)
  clear HO1_1
  clear HO353
  clear BK347
  clear BK348
  clear BK349
  clear HB
  have HO1_1 := n0_
  have HO353 := n1_
  have HO357 := n2_
  have BK347 := n3_
  have BK348 := n4_
  have BK349 := n5_
  have HB := n6_
  clear n0_ n1_ n2_ n3_ n4_ n5_ n6_
  (try clear hb)
  (try clear hb2)
  (try clear hk)
  (try clear hi)
  (try clear ho0)
  obtain ⟨Ao13, co13, eo13⟩ := Kd.V_slice HO357.out
  (first | subst eo13 | (injection eo13 with f1_ f2_ f3_; have f4_ := f1_.symm; have f5_ := f3_.symm; clear f1_ f2_ f3_; subst f4_; subst f5_))
  refine hK.out _ _ ⟨(blk_cell BK347.out 0).trans rfl, (blk_cell BK347.out 1).trans rfl, (blk_cell BK348.out 0).trans rfl, (blk_cell BK348.out 1).trans rfl⟩ (fun hHeld => ?_)
  clear hK K
  refine norm_ (a' := ?_) ?_ ?_
  rotate_left
  · show Act.put _ (some 8) _ = _
    simp only [Act.put, List.setIfInBounds_toArray, List.set_cons_zero, List.set_cons_succ, i64_w, i32_w]
    rfl
  refine one_ (i := 4) (N := none) #[true, true, true, true, true] rfl rfl (by kernel_rfl) (by decide) (fun K hK => ?_)
  have hs12 : w11.cell? ⟨gb349, 0, none⟩ = some (.bool false) := (blk_cell BK349.out 0).trans rfl
  have hfs12 := blk_frozen BK349.out 0
  have hns12_0 := NB347_349.out
  have hns12_1 := NB348_349.out
  have hms12_0 := NB349_347.out
  have hms12_1 := NB349_348.out
  have hs14 : w11.cell? ⟨gb349, 1, none⟩ = some (.slice none 0 0) := (blk_cell BK349.out 1).trans rfl
  have hfs14 := blk_frozen BK349.out 1
  have hns14_0 := NB347_349.out
  have hns14_1 := NB348_349.out
  have hms14_0 := NB349_347.out
  have hms14_1 := NB349_348.out
  refine skip_ (w1 := ?_) (by rfl) rfl ?_ ?_
  rotate_left
  · go_simp
    rfl
  refine hK.out _ _ ⟨((cell_far (p := ⟨gb349, _, none⟩) NB347_349.out _).trans (((cell_far (p := ⟨gb349, _, none⟩) NB347_349.out _).trans (hHeld.1)))), ((cell_far (p := ⟨gb349, _, none⟩) NB347_349.out _).trans (((cell_far (p := ⟨gb349, _, none⟩) NB347_349.out _).trans (hHeld.2.1)))), ((cell_far (p := ⟨gb349, _, none⟩) NB348_349.out _).trans (((cell_far (p := ⟨gb349, _, none⟩) NB348_349.out _).trans (hHeld.2.2.1)))), ((cell_far (p := ⟨gb349, _, none⟩) NB348_349.out _).trans (((cell_far (p := ⟨gb349, _, none⟩) NB348_349.out _).trans (hHeld.2.2.2))))⟩ (fun hHeld => ?_)
  clear hK K
  refine done_ (by kernel_rfl) ?_
  try go_wp2
  refine bodyPost_ret (results_cell_row rfl _ _ gb349 95 #[.bool t354, .slice Ao13 t355.length co13] (0, 0) _ rfl (by (with_reducible repeat (first | refine blk_drewN ?_ _ | refine blk_drew ?_ | refine blk_alloc ?_ _)); refine blk_put (cs := #[.bool t354, .slice none 0 0]) ?_ 1 _ rfl; (with_reducible repeat (first | refine blk_drewN ?_ _ | refine blk_drew ?_ | refine blk_alloc ?_ _)); refine blk_put (cs := #[.bool false, .slice none 0 0]) ?_ 0 _ rfl; (with_reducible repeat (first | refine blk_drewN ?_ _ | refine blk_drew ?_ | refine blk_alloc ?_ _)); exact BK349.out) Tryd.underlying95 rfl (by kernel_rfl)) rfl ?_
  exact ⟨_, by first | rfl | (simp [errW_none, errW_some] <;> rfl) | (simp [*, errW_none, errW_some] <;> rfl), by (with_reducible repeat (first | apply Kd.V_alloc | apply Kd.V_drewN | apply Kd.V_drew)); exact Kd.V_mono (Kd.V_far (p := ⟨gb349, 1, none⟩) (Kd.V_far (p := ⟨gb349, 0, none⟩) (Kd.V_mono HO357.out (fun k_ hk => (⟨hk, hk.2.2.2⟩ : _ ∧ k_ ≠ gb349))) (fun _ hk => hk.2) (.bool t354)) (fun _ hk => hk.2) (.slice Ao13 t355.length co13)) (fun _ hk => hk.1.1), by repeat (first | (with_reducible first | exact HB.out | apply below_alloc | apply pw_below_drewN | apply below_drew1 | refine below_set ?_ GE347.out | refine below_set ?_ GE348.out | refine below_set ?_ GE349.out) | exact HB.out)⟩
def leadlineref1_Rooted.l0 : Nat → Int → Int → Bool → List Int → Option (Int)
  | 0, _, _, _, _ => none
  | k + 1, x3, x4, x414000, x414001 => if x4 ≥ 0 then (if 0 ≤ x4 then ((some (([Go.bits .or .u64 x3 (shl .u64 1 x4)] : List Int) : List Int)).bind fun y414 => ((leadlineref1_times.f k y414 y414).bind fun t417 => ((leadlineref1_cmp.f k t417 x414001).bind fun t420 => (if t420 ≤ 0 then (if 0 < (y414.length : Int) then (leadlineref1_Rooted.l0 k (rd y414 0) (wrap64 (x4 - 1)) x414000 x414001) else (none)) else (leadlineref1_Rooted.l0 k x3 (wrap64 (x4 - 1)) x414000 x414001))))) else (none)) else (some x3)
def leadlineref1_Rooted.f (k : Nat) (a0_0 : Bool) (l0_1 : List Int) : Option (Int) := leadlineref1_Rooted.l0 k 0 63 a0_0 l0_1
theorem leadlineref1_Rooted.mono_l : ∀ k, (∀ y0 y1 y2 y3, LeO (leadlineref1_Rooted.l0 k y0 y1 y2 y3) (leadlineref1_Rooted.l0 (k + 1) y0 y1 y2 y3))
  | 0 => fun _ _ _ _ r h => by simp [leadlineref1_Rooted.l0] at h
  | k + 1 => by
    have ih0 := leadlineref1_Rooted.mono_l k
    · intro y0 y1 y2 y3
      unfold leadlineref1_Rooted.l0
      repeat' first
      | (with_reducible exact ih0 _ _ _ _)
      | (with_reducible exact leadlineref1_cmp.mono _ _ _)
      | (with_reducible exact leadlineref1_times.mono _ _ _)
      | (with_reducible exact LeO.refl _)
      | (with_reducible exact LeO.none _)
      | (with_reducible refine LeO.ite ?_ ?_)
      | (with_reducible refine LeO.bind ?_ (fun _ => ?_))
      | exact ih0 _ _ _ _
      | exact leadlineref1_cmp.mono _ _ _
      | exact leadlineref1_times.mono _ _ _
      | exact LeO.none _
      | refine LeO.ite ?_ ?_
      | refine LeO.bind ?_ (fun _ => ?_)
theorem leadlineref1_Rooted.mono : ∀ a0 a1 k, LeO (leadlineref1_Rooted.f k a0 a1) (leadlineref1_Rooted.f (k + 1) a0 a1) := by
  intro a0 a1 k
  have ih0 := leadlineref1_Rooted.mono_l k
  unfold leadlineref1_Rooted.f
  repeat' first
      | (with_reducible exact ih0 _ _ _ _)
      | (with_reducible exact leadlineref1_cmp.mono _ _ _)
      | (with_reducible exact leadlineref1_times.mono _ _ _)
      | (with_reducible exact LeO.refl _)
      | (with_reducible exact LeO.none _)
      | (with_reducible refine LeO.ite ?_ ?_)
      | (with_reducible refine LeO.bind ?_ (fun _ => ?_))
      | exact ih0 _ _ _ _
      | exact leadlineref1_cmp.mono _ _ _
      | exact leadlineref1_times.mono _ _ _
      | exact LeO.none _
      | refine LeO.ite ?_ ?_
      | refine LeO.bind ?_ (fun _ => ?_)
set_option maxHeartbeats 8000000 in
set_option maxRecDepth 100000 in
theorem leadlineref1_Rooted.calls (k : Nat) (a0_0 : Bool) (A0_1 : Option Addr) (c0_1 : Nat) (l0_1 : List Int) (r : Int) (w : World) (hr0_1 : Kd.C (Kd.int .u64) w A0_1 l0_1.length l0_1) (hc0_1 : l0_1.length ≤ c0_1) (h : leadlineref1_Rooted.f k a0_0 l0_1 = some r) :
    Calls Tryd.prog 51 #[.agg #[.bool a0_0, .slice A0_1 l0_1.length c0_1]] w fun e w' => e = .returned (.int .u64 r) ∧ Below w.heap.size w w' := by
  have hu95 := Tryd.underlying95
  have HR0_1 := Aside0.mk hr0_1
  have HC0_1 := Aside0.mk hc0_1
  clear hr0_1 hc0_1
  have HB := Aside0.mk (Below.refl w.heap.size w)
  have H : (leadlineref1_Rooted.l0 k 0 63 a0_0 l0_1) = some r := h
  clear h
  have H' := Aside0.mk H
  clear H
  go_enter Tryd.func51, Tryd.ntmps51
  go_wp2_with (first | ((with_reducible refine gate_dst (N := 1) rfl ?_); refine box_event ?hg (N := 1) ?hd (cs := #[.bool a0_0, .slice A0_1 l0_1.length c0_1]) (t := 95) ?hr ?_; (case hd => rfl); (case hg => rfl); (case hr => first | (go_simp; done) | (go_simp; rfl)); intro gb413 hg w2 hbox hb; have n0_ := Aside0.mk (below_step (by repeat (first | (with_reducible first | exact HB.out | apply below_alloc | apply pw_below_drewN | apply below_drew1) | exact HB.out)) hb); have n1_ := Aside0.mk (hbox); have n2_ := Aside0.mk ((by rw [hg]; exact (below_size (by repeat (first | (with_reducible first | exact HB.out | apply below_alloc | apply pw_below_drewN | apply below_drew1) | exact HB.out))) : w.heap.size ≤ gb413)); have n3_ := Aside0.mk ((by rw [hg]; exact (below_size (by repeat (first | (with_reducible first | exact HB.out | apply below_alloc | apply pw_below_drewN | apply below_drew1) | exact HB.out))) : w.heap.size ≤ gb413)); clear HB; have HB := n0_; have BK413 := n1_; have GW413 := n2_; have GE413 := n3_; clear n0_ n1_ n2_ n3_; clear hb hbox hg))
  go_loopg [3, 4] k (fun kq v3 v4 w' => ∃ (x3_1 : Int) (x4_1 : Int), v3 = .int .u64 x3_1 ∧ v4 = .int .i64 x4_1 ∧ Aside0 (leadlineref1_Rooted.l0 kq x3_1 x4_1 a0_0 l0_1 = some r) ∧ Aside0 (kq ≤ k) ∧ Aside0 (w'.heap[gb413]? = some (.cells #[.bool a0_0, (.slice A0_1 l0_1.length c0_1)] 95 (0, 0))) ∧ Aside0 (Below w.heap.size w w'))
  case atStart => exact ⟨(0), (63), (by first | rfl | (simp; done) | (simp [*]; done) | (simp [nb1_, nb2_]; done)), (by first | rfl | (simp; done) | (simp [*]; done) | (simp [nb1_, nb2_]; done)), H', ⟨Nat.le_refl _⟩, ⟨by (with_reducible repeat (first | refine blk_drewN ?_ _ | refine blk_drew ?_ | refine blk_alloc ?_ _)); exact BK413.out⟩, ⟨by repeat (first | (with_reducible first | exact HB.out | apply below_alloc | apply pw_below_drewN | apply below_drew1 | refine below_set ?_ GE413.out) | exact HB.out)⟩⟩
  case round =>
    clear H'
    try clear p2
    obtain ⟨x3_1, x4_1, rfl, rfl, HA, HK1, BK413, HB⟩ := hrel
    cases gk with
    | zero => exact absurd HA.out (by simp [leadlineref1_Rooted.l0])
    | succ k1 =>
      have H := HA.out
      clear HA
      simp only [leadlineref1_Rooted.l0] at H
      by_cases c3 : x4_1 ≥ 0
      · rw [if_pos c3] at H
        have c3b0 : decide (0 ≤ x4_1) = true := decide_eq_true c3
        clear c3
        by_cases c4 : 0 ≤ x4_1
        · rw [if_pos c4] at H
          have c4b0 := eq_true c4
          have c4b1 : decide (0 ≤ x4_1) = true := decide_eq_true c4
          clear c4
          obtain ⟨ji5, hji5⟩ : ∃ j_ : Int, (shl .u64 1 x4_1) = j_ := ⟨_, rfl⟩
          replace H : ((some (([Go.bits .or .u64 x3_1 (ji5)] : List Int) : List Int)).bind fun y414 => ((leadlineref1_times.f k1 y414 y414).bind fun t417 => ((leadlineref1_cmp.f k1 t417 l0_1).bind fun t420 => (if t420 ≤ 0 then (if 0 < (y414.length : Int) then (leadlineref1_Rooted.l0 k1 (rd y414 0) (wrap64 (x4_1 - 1)) a0_0 l0_1) else (none)) else (leadlineref1_Rooted.l0 k1 x3_1 (wrap64 (x4_1 - 1)) a0_0 l0_1))))) = some r := by first | (rw [hji5] at H; exact H) | (simp only [hji5] at H ⊢; exact H)
          have hji5_ : (IntKind.u64.wrap (1 * 2 ^ min x4_1.toNat 64)) = ji5 := hji5
          have hji5z : x4_1 ≤ 64 → (IntKind.u64.wrap (1 * 2 ^ x4_1.toNat)) = ji5 := shl_small hji5
          have hji5u : (IntKind.u64.wrap (2 ^ min x4_1.toNat 64)) = ji5 := by have h_ := hji5_; rw [Int.one_mul] at h_; exact h_
          have hji5v : x4_1 ≤ 64 → (IntKind.u64.wrap (2 ^ x4_1.toNat)) = ji5 := fun hle_ => by have h_ := hji5z hle_; rw [Int.one_mul] at h_; exact h_
          obtain ⟨y414, hy414⟩ : ∃ y_ : List Int, y_ = (([Go.bits .or .u64 x3_1 (ji5)] : List Int)) := ⟨_, rfl⟩
          replace H : ((leadlineref1_times.f k1 y414 y414).bind fun t417 => ((leadlineref1_cmp.f k1 t417 l0_1).bind fun t420 => (if t420 ≤ 0 then (if 0 < (y414.length : Int) then (leadlineref1_Rooted.l0 k1 (rd y414 0) (wrap64 (x4_1 - 1)) a0_0 l0_1) else (none)) else (leadlineref1_Rooted.l0 k1 x3_1 (wrap64 (x4_1 - 1)) a0_0 l0_1)))) = some r := by first | (rw [hy414]; with_reducible exact H) | (have H2_ := (Option.bind_some _ _).symm.trans H; rw [hy414]; with_reducible exact H2_) | (have H2_ := (Option.bind_some _ _).symm.trans H; with_reducible exact H2_) | with_reducible exact H | (rw [hy414]; exact H) | exact H
          have Ny414 := Aside0.mk hy414
          clear hy414
          replace H := Option.bind_eq_some_iff.mp H
          obtain ⟨t417, A60, H⟩ := H
          replace H : ((leadlineref1_cmp.f k1 t417 l0_1).bind fun t420 => (if t420 ≤ 0 then (if 0 < (y414.length : Int) then (leadlineref1_Rooted.l0 k1 (rd y414 0) (wrap64 (x4_1 - 1)) a0_0 l0_1) else (none)) else (leadlineref1_Rooted.l0 k1 x3_1 (wrap64 (x4_1 - 1)) a0_0 l0_1))) = some r := H
          have A6 := Aside0.mk A60
          clear A60
          replace H := Option.bind_eq_some_iff.mp H
          obtain ⟨t420, A70, H⟩ := H
          replace H : (if t420 ≤ 0 then (if 0 < (y414.length : Int) then (leadlineref1_Rooted.l0 k1 (rd y414 0) (wrap64 (x4_1 - 1)) a0_0 l0_1) else (none)) else (leadlineref1_Rooted.l0 k1 x3_1 (wrap64 (x4_1 - 1)) a0_0 l0_1)) = some r := H
          have A7 := Aside0.mk A70
          clear A70
          by_cases c8 : t420 ≤ 0
          · rw [if_pos c8] at H
            have c8b0 : decide (t420 ≤ 0) = true := decide_eq_true c8
            clear c8
            by_cases c9 : 0 < (y414.length : Int)
            · rw [if_pos c9] at H
              have c9b0 : decide (0 < (y414.length : Int)) = true := decide_eq_true c9
              have c9b1 : decide (0 < y414.length) = true := decide_eq_true (by omega)
              clear c9
              have H' := Aside0.mk H
              clear H
              try go_wp2_with (first | ((with_reducible refine gate_dst (N := 14) rfl ?_); refine Kd.R_lit (Kd.int .u64) _ 78 ?hg (N := 14) ?hd (xs := ([Go.bits .or .u64 x3_1 (ji5)] : List Int)) (inner := [.int .u64 (Go.bits .or .u64 x3_1 (ji5))]) (ok := fun _ => True) (okp := fun _ => True) ?hr ?hp (fun _ hk => hk) trivial (Below.refl _ _) (Nat.le_refl _) (by simp) ?_; (case hd => rfl); (case hg => rfl); (case hr => first | (go_simp; done) | (go_simp; rfl)); (case hp => exact (Reps.one (show Kd.M (Kd.int .u64) _ _ _ (Go.bits .or .u64 x3_1 (ji5)) [.int .u64 (Go.bits .or .u64 x3_1 (ji5))] from rfl) (Reps.none _ _))); intro v415 w10 ho11 hb hg_ hnew_; clear hg_ hnew_; (first | rw [← Ny414.out] at ho11 | (simp only [Int.reduceToNat] at ho11; rw [← Ny414.out] at ho11)); have n0_ := Aside0.mk (Kd.R_lower ho11 (below_size (by repeat (first | (with_reducible first | exact HB.out | apply below_alloc | apply pw_below_drewN | apply below_drew1 | refine below_set ?_ GE413.out) | exact HB.out)))); have n1_ := Aside0.mk (blk_below (g := gb413) (o := .cells #[.bool a0_0, .slice A0_1 l0_1.length c0_1] 95 (0, 0)) (by (with_reducible repeat (first | refine blk_drewN ?_ _ | refine blk_drew ?_ | refine blk_alloc ?_ _)); exact BK413.out) hb); have n2_ := Aside0.mk (below_step (by repeat (first | (with_reducible first | exact HB.out | apply below_alloc | apply pw_below_drewN | apply below_drew1 | refine below_set ?_ GE413.out) | exact HB.out)) hb); clear BK413; clear HB; have HO416 := n0_; have BK413 := n1_; have HB := n2_; clear n0_ n1_ n2_; clear hb ho11))
              have n0_ := Aside0.mk (Kd.R_drew HO416.out)
              have n1_ := Aside0.mk (blk_drew BK413.out)
              have n2_ := Aside0.mk (below_drew1 HB.out)
              clear HO416
              clear BK413
              clear HB
              have HO416 := n0_
              have BK413 := n1_
              have HB := n2_
              clear n0_ n1_ n2_
              obtain ⟨Ao13, co13, eo13⟩ := Kd.R_slice HO416.out
              (first | subst eo13 | (injection eo13 with f1_ f2_ f3_; have f4_ := f1_.symm; have f5_ := f3_.symm; clear f1_ f2_ f3_; subst f4_; subst f5_))
              refine start_ (n := 7) (S := fun w' => w'.cell? ⟨gb413, 0, none⟩ = some (.bool a0_0) ∧ w'.cell? ⟨gb413, 1, none⟩ = some (.slice A0_1 l0_1.length c0_1)) (ds := []) #[false, false, false, false, false, false, false] (by kernel_rfl) rfl rfl ⟨(blk_cell BK413.out 0).trans rfl, (blk_cell BK413.out 1).trans rfl⟩ (fun hHeld => ?_)
              generalize w10.drew = w12 at HO416 BK413 HB hHeld ⊢
              refine pure_ (i := 0) (N := some 15) (v := ?_) (a' := ?_) #[true, false, false, false, false, false, false] rfl rfl (by kernel_rfl) (fun _ _ _ h => h) (Or.inl ⟨by rfl, ?_⟩) ?_ ?_
              rotate_left
              · intro w'
                go_simp
                with_reducible rfl
              rotate_left
              · simp only [Act.put, List.setIfInBounds_toArray, List.set_cons_zero, List.set_cons_succ, i64_w, i32_w]
                rfl
              refine pure_ (i := 1) (N := some 16) (v := ?_) (a' := ?_) #[true, true, false, false, false, false, false] rfl rfl (by kernel_rfl) (fun _ _ _ h => h) (Or.inl ⟨by rfl, ?_⟩) ?_ ?_
              rotate_left
              · intro w'
                go_simp
                with_reducible rfl
              rotate_left
              · simp only [Act.put, List.setIfInBounds_toArray, List.set_cons_zero, List.set_cons_succ, i64_w, i32_w]
                rfl
              refine pure_ (i := 3) (N := some 18) (v := ?_) (a' := ?_) #[true, true, false, true, false, false, false] rfl rfl (by kernel_rfl) (fun _ _ _ h => h) (Or.inl ⟨by rfl, ?_⟩) ?_ ?_
              rotate_left
              · intro w'
                go_simp
                with_reducible rfl
              rotate_left
              · simp only [Act.put, List.setIfInBounds_toArray, List.set_cons_zero, List.set_cons_succ, i64_w, i32_w]
                rfl
              refine take_ (i := 4) (N := some 19) (v := ?_) (a' := ?_) #[true, true, false, true, true, false, false] rfl rfl (by kernel_rfl) (fun _ _ _ h => h) (Or.inl ⟨by rfl, ?_⟩) hHeld ?_ ?_
              rotate_left
              · rintro w' ⟨s0, s1⟩
                go_simp
                with_reducible rfl
              rotate_left
              · simp only [Act.put, List.setIfInBounds_toArray, List.set_cons_zero, List.set_cons_succ, i64_w, i32_w]
                rfl
              refine one_ (i := 2) (N := some 17) #[true, true, true, true, true, false, false] rfl rfl (by kernel_rfl) (by decide) (fun K hK => ?_)
              refine goes_ Tryd.func71 (by kernel_rfl) rfl #[.slice Ao13 y414.length co13, .slice Ao13 y414.length co13] (by rfl) rfl rfl (by (try simp only [List.map_toArray, List.map_cons, List.map_nil]); first | done | rfl | (simp only [List.length_drop, List.length_take]; rfl)) ?_
              with_reducible refine (leadlineref1_times.calls k1 _ _ y414 _ _ y414 t417 _ ?side1 ?side2 ?side3 ?side4 A6.out).mono ?_
              (case side1 => repeat (first | exact (Kd.R_reads' HO416.out).2.2 | (with_reducible refine Kd.C_alloc ?_ _) | (with_reducible refine Kd.C_drewN ?_ _) | (with_reducible refine Kd.C_drew ?_)))
              (case side2 => exact (Kd.R_reads' HO416.out).2.1)
              (case side3 => repeat (first | exact (Kd.R_reads' HO416.out).2.2 | (with_reducible refine Kd.C_alloc ?_ _) | (with_reducible refine Kd.C_drewN ?_ _) | (with_reducible refine Kd.C_drew ?_)))
              (case side4 => exact (Kd.R_reads' HO416.out).2.1)
              rintro e w14 ⟨v418, rfl, ho0, hb⟩
              refine ⟨_, rfl, ?_⟩
              have n0_ := Aside0.mk (Kd.R_below (by (with_reducible repeat (first | apply Kd.R_alloc | apply Kd.R_drewN | apply Kd.R_drew)); exact HO416.out) hb)
              have n1_ := Aside0.mk (Kd.V_lower (Kd.V_mono (ok' := fun k_ => some k_ ≠ (.slice Ao13 y414.length co13 : Value).ownBlock ∧ k_ ≠ gb413) ho0 (fun k_ hk_ => ⟨(Kd.fresh' (Kd.R_lt (by (with_reducible repeat (first | apply Kd.R_alloc | apply Kd.R_drewN | apply Kd.R_drew)); exact HO416.out)) k_ hk_), (Kd.freshB (g := gb413) (o := .cells #[.bool a0_0, .slice A0_1 l0_1.length c0_1] 95 (0, 0)) (by (with_reducible repeat (first | refine blk_drewN ?_ _ | refine blk_drew ?_ | refine blk_alloc ?_ _)); exact BK413.out) k_ hk_)⟩)) (below_size (by repeat (first | (with_reducible first | exact HB.out | apply below_alloc | apply pw_below_drewN | apply below_drew1 | refine below_set ?_ GE413.out) | exact HB.out))))
              have n2_ := Aside0.mk (blk_below (g := gb413) (o := .cells #[.bool a0_0, .slice A0_1 l0_1.length c0_1] 95 (0, 0)) (by (with_reducible repeat (first | refine blk_drewN ?_ _ | refine blk_drew ?_ | refine blk_alloc ?_ _)); exact BK413.out) hb)
              have n3_ := Aside0.mk (below_step (by repeat (first | (with_reducible first | exact HB.out | apply below_alloc | apply pw_below_drewN | apply below_drew1 | refine below_set ?_ GE413.out) | exact HB.out)) hb)
              clear HO416
              clear BK413
              clear HB
              have HO416 := n0_
              have HO419 := n1_
              have BK413 := n2_
              have HB := n3_
              clear n0_ n1_ n2_ n3_
              (try clear hb)
              (try clear hb2)
              (try clear hk)
              (try clear hi)
              (try clear ho0)
              obtain ⟨Ao15, co15, eo15⟩ := Kd.V_slice HO419.out
              (first | subst eo15 | (injection eo15 with f1_ f2_ f3_; have f4_ := f1_.symm; have f5_ := f3_.symm; clear f1_ f2_ f3_; subst f4_; subst f5_))
              refine hK.out _ _ ⟨(blk_cell BK413.out 0).trans rfl, (blk_cell BK413.out 1).trans rfl⟩ (fun hHeld => ?_)
              clear hK K
              refine norm_ (a' := ?_) ?_ ?_
              rotate_left
              · show Act.put _ (some 17) _ = _
                simp only [Act.put, List.setIfInBounds_toArray, List.set_cons_zero, List.set_cons_succ, i64_w, i32_w]
                rfl
              refine one_ (i := 5) (N := some 20) #[true, true, true, true, true, true, false] rfl rfl (by kernel_rfl) (by decide) (fun K hK => ?_)
              refine goes_ Tryd.func70 (by kernel_rfl) rfl #[.slice Ao15 t417.length co15, .slice A0_1 l0_1.length c0_1] (by rfl) rfl rfl (by (try simp only [List.map_toArray, List.map_cons, List.map_nil]); first | done | rfl | (simp only [List.length_drop, List.length_take]; rfl)) ?_
              with_reducible refine (leadlineref1_cmp.calls k1 _ _ t417 _ _ l0_1 t420 _ ?side1 ?side2 ?side3 ?side4 A7.out).mono ?_
              (case side1 => repeat (first | exact (Kd.V_reads' HO419.out).2.2 | (with_reducible refine Kd.C_alloc ?_ _) | (with_reducible refine Kd.C_drewN ?_ _) | (with_reducible refine Kd.C_drew ?_)))
              (case side2 => exact (Kd.V_reads' HO419.out).2.1)
              (case side3 => repeat (first | exact (Kd.C_below HR0_1.out HB.out) | (with_reducible refine Kd.C_alloc ?_ _) | (with_reducible refine Kd.C_drewN ?_ _) | (with_reducible refine Kd.C_drew ?_)))
              (case side4 => exact HC0_1.out)
              rintro e w' ⟨rfl, ⟨nd, rfl⟩⟩
              refine ⟨_, rfl, ?_⟩
              refine hK.out _ _ ⟨(blk_cell BK413.out 0).trans rfl, (blk_cell BK413.out 1).trans rfl⟩ (fun hHeld => ?_)
              clear hK K
              refine norm_ (a' := ?_) ?_ ?_
              rotate_left
              · show Act.put _ (some 20) _ = _
                simp only [Act.put, List.setIfInBounds_toArray, List.set_cons_zero, List.set_cons_succ, i64_w, i32_w]
                rfl
              refine pure_ (i := 6) (N := some 21) (v := ?_) (a' := ?_) #[true, true, true, true, true, true, true] rfl rfl (by kernel_rfl) (fun _ _ _ h => h) (Or.inl ⟨by rfl, ?_⟩) ?_ ?_
              rotate_left
              · intro w'
                go_simp
                with_reducible rfl
              rotate_left
              · simp only [Act.put, List.setIfInBounds_toArray, List.set_cons_zero, List.set_cons_succ, i64_w, i32_w]
                rfl
              refine done_ (by kernel_rfl) ?_
              have p421 : 0 ≤ (0 : Int) := (by omega)
              have q421 : 0 < (y414.length : Int) := of_decide_eq_true (by first | (with_reducible assumption) | assumption)
              obtain ⟨ad421, e421, hx421_0⟩ := Kd.at_int (Kd.R_reads' HO416.out).2.2 0 p421 q421
              cases e421
              have qi421 : (0 < y414.length) = True := eq_true (by omega)
              (try rw [show ((0 : Int)).toNat = 0 from rfl] at hx421_0)
              (try rw [Addr.add_zero'] at hx421_0)
              replace p421 := eq_true p421
              replace q421 := eq_true q421
              try go_wp2
              go_roundg k1
              case measure => have := HK1.out; omega
              case rel => exact ⟨(rd y414 0), (wrap64 (x4_1 - 1)), (by first | rfl | (simp; done) | (simp [*]; done) | (simp [nb1_, nb2_]; done)), (by first | rfl | (simp; done) | (simp [*]; done) | (simp [nb1_, nb2_]; done)), H', ⟨by have := HK1.out; omega⟩, ⟨by (with_reducible repeat (first | refine blk_drewN ?_ _ | refine blk_drew ?_ | refine blk_alloc ?_ _)); exact BK413.out⟩, ⟨by repeat (first | (with_reducible first | exact HB.out | apply below_alloc | apply pw_below_drewN | apply below_drew1 | refine below_set ?_ GE413.out) | exact HB.out)⟩⟩
            · rw [if_neg c9] at H
              exact absurd H (by simp)
          · rw [if_neg c8] at H
            have c8b0 : decide (t420 ≤ 0) = false := decide_eq_false c8
            clear c8
            have H' := Aside0.mk H
            clear H
            try go_wp2_with (first | ((with_reducible refine gate_dst (N := 14) rfl ?_); refine Kd.R_lit (Kd.int .u64) _ 78 ?hg (N := 14) ?hd (xs := ([Go.bits .or .u64 x3_1 (ji5)] : List Int)) (inner := [.int .u64 (Go.bits .or .u64 x3_1 (ji5))]) (ok := fun _ => True) (okp := fun _ => True) ?hr ?hp (fun _ hk => hk) trivial (Below.refl _ _) (Nat.le_refl _) (by simp) ?_; (case hd => rfl); (case hg => rfl); (case hr => first | (go_simp; done) | (go_simp; rfl)); (case hp => exact (Reps.one (show Kd.M (Kd.int .u64) _ _ _ (Go.bits .or .u64 x3_1 (ji5)) [.int .u64 (Go.bits .or .u64 x3_1 (ji5))] from rfl) (Reps.none _ _))); intro v415 w16 ho17 hb hg_ hnew_; clear hg_ hnew_; (first | rw [← Ny414.out] at ho17 | (simp only [Int.reduceToNat] at ho17; rw [← Ny414.out] at ho17)); have n0_ := Aside0.mk (Kd.R_lower ho17 (below_size (by repeat (first | (with_reducible first | exact HB.out | apply below_alloc | apply pw_below_drewN | apply below_drew1 | refine below_set ?_ GE413.out) | exact HB.out)))); have n1_ := Aside0.mk (blk_below (g := gb413) (o := .cells #[.bool a0_0, .slice A0_1 l0_1.length c0_1] 95 (0, 0)) (by (with_reducible repeat (first | refine blk_drewN ?_ _ | refine blk_drew ?_ | refine blk_alloc ?_ _)); exact BK413.out) hb); have n2_ := Aside0.mk (below_step (by repeat (first | (with_reducible first | exact HB.out | apply below_alloc | apply pw_below_drewN | apply below_drew1 | refine below_set ?_ GE413.out) | exact HB.out)) hb); clear BK413; clear HB; have HO416 := n0_; have BK413 := n1_; have HB := n2_; clear n0_ n1_ n2_; clear hb ho17))
            have n0_ := Aside0.mk (Kd.R_drew HO416.out)
            have n1_ := Aside0.mk (blk_drew BK413.out)
            have n2_ := Aside0.mk (below_drew1 HB.out)
            clear HO416
            clear BK413
            clear HB
            have HO416 := n0_
            have BK413 := n1_
            have HB := n2_
            clear n0_ n1_ n2_
            obtain ⟨Ao19, co19, eo19⟩ := Kd.R_slice HO416.out
            (first | subst eo19 | (injection eo19 with f1_ f2_ f3_; have f4_ := f1_.symm; have f5_ := f3_.symm; clear f1_ f2_ f3_; subst f4_; subst f5_))
            refine start_ (n := 7) (S := fun w' => w'.cell? ⟨gb413, 0, none⟩ = some (.bool a0_0) ∧ w'.cell? ⟨gb413, 1, none⟩ = some (.slice A0_1 l0_1.length c0_1)) (ds := []) #[false, false, false, false, false, false, false] (by kernel_rfl) rfl rfl ⟨(blk_cell BK413.out 0).trans rfl, (blk_cell BK413.out 1).trans rfl⟩ (fun hHeld => ?_)
            generalize w16.drew = w18 at HO416 BK413 HB hHeld ⊢
            refine pure_ (i := 0) (N := some 15) (v := ?_) (a' := ?_) #[true, false, false, false, false, false, false] rfl rfl (by kernel_rfl) (fun _ _ _ h => h) (Or.inl ⟨by rfl, ?_⟩) ?_ ?_
            rotate_left
            · intro w'
              go_simp
              with_reducible rfl
            rotate_left
            · simp only [Act.put, List.setIfInBounds_toArray, List.set_cons_zero, List.set_cons_succ, i64_w, i32_w]
              rfl
            refine pure_ (i := 1) (N := some 16) (v := ?_) (a' := ?_) #[true, true, false, false, false, false, false] rfl rfl (by kernel_rfl) (fun _ _ _ h => h) (Or.inl ⟨by rfl, ?_⟩) ?_ ?_
            rotate_left
            · intro w'
              go_simp
              with_reducible rfl
            rotate_left
            · simp only [Act.put, List.setIfInBounds_toArray, List.set_cons_zero, List.set_cons_succ, i64_w, i32_w]
              rfl
            refine pure_ (i := 3) (N := some 18) (v := ?_) (a' := ?_) #[true, true, false, true, false, false, false] rfl rfl (by kernel_rfl) (fun _ _ _ h => h) (Or.inl ⟨by rfl, ?_⟩) ?_ ?_
            rotate_left
            · intro w'
              go_simp
              with_reducible rfl
            rotate_left
            · simp only [Act.put, List.setIfInBounds_toArray, List.set_cons_zero, List.set_cons_succ, i64_w, i32_w]
              rfl
            refine take_ (i := 4) (N := some 19) (v := ?_) (a' := ?_) #[true, true, false, true, true, false, false] rfl rfl (by kernel_rfl) (fun _ _ _ h => h) (Or.inl ⟨by rfl, ?_⟩) hHeld ?_ ?_
            rotate_left
            · rintro w' ⟨s0, s1⟩
              go_simp
              with_reducible rfl
            rotate_left
            · simp only [Act.put, List.setIfInBounds_toArray, List.set_cons_zero, List.set_cons_succ, i64_w, i32_w]
              rfl
            refine one_ (i := 2) (N := some 17) #[true, true, true, true, true, false, false] rfl rfl (by kernel_rfl) (by decide) (fun K hK => ?_)
            refine goes_ Tryd.func71 (by kernel_rfl) rfl #[.slice Ao19 y414.length co19, .slice Ao19 y414.length co19] (by rfl) rfl rfl (by (try simp only [List.map_toArray, List.map_cons, List.map_nil]); first | done | rfl | (simp only [List.length_drop, List.length_take]; rfl)) ?_
            with_reducible refine (leadlineref1_times.calls k1 _ _ y414 _ _ y414 t417 _ ?side1 ?side2 ?side3 ?side4 A6.out).mono ?_
            (case side1 => repeat (first | exact (Kd.R_reads' HO416.out).2.2 | (with_reducible refine Kd.C_alloc ?_ _) | (with_reducible refine Kd.C_drewN ?_ _) | (with_reducible refine Kd.C_drew ?_)))
            (case side2 => exact (Kd.R_reads' HO416.out).2.1)
            (case side3 => repeat (first | exact (Kd.R_reads' HO416.out).2.2 | (with_reducible refine Kd.C_alloc ?_ _) | (with_reducible refine Kd.C_drewN ?_ _) | (with_reducible refine Kd.C_drew ?_)))
            (case side4 => exact (Kd.R_reads' HO416.out).2.1)
            rintro e w20 ⟨v418, rfl, ho0, hb⟩
            refine ⟨_, rfl, ?_⟩
            have n0_ := Aside0.mk (Kd.R_below (by (with_reducible repeat (first | apply Kd.R_alloc | apply Kd.R_drewN | apply Kd.R_drew)); exact HO416.out) hb)
            have n1_ := Aside0.mk (Kd.V_lower (Kd.V_mono (ok' := fun k_ => some k_ ≠ (.slice Ao19 y414.length co19 : Value).ownBlock ∧ k_ ≠ gb413) ho0 (fun k_ hk_ => ⟨(Kd.fresh' (Kd.R_lt (by (with_reducible repeat (first | apply Kd.R_alloc | apply Kd.R_drewN | apply Kd.R_drew)); exact HO416.out)) k_ hk_), (Kd.freshB (g := gb413) (o := .cells #[.bool a0_0, .slice A0_1 l0_1.length c0_1] 95 (0, 0)) (by (with_reducible repeat (first | refine blk_drewN ?_ _ | refine blk_drew ?_ | refine blk_alloc ?_ _)); exact BK413.out) k_ hk_)⟩)) (below_size (by repeat (first | (with_reducible first | exact HB.out | apply below_alloc | apply pw_below_drewN | apply below_drew1 | refine below_set ?_ GE413.out) | exact HB.out))))
            have n2_ := Aside0.mk (blk_below (g := gb413) (o := .cells #[.bool a0_0, .slice A0_1 l0_1.length c0_1] 95 (0, 0)) (by (with_reducible repeat (first | refine blk_drewN ?_ _ | refine blk_drew ?_ | refine blk_alloc ?_ _)); exact BK413.out) hb)
            have n3_ := Aside0.mk (below_step (by repeat (first | (with_reducible first | exact HB.out | apply below_alloc | apply pw_below_drewN | apply below_drew1 | refine below_set ?_ GE413.out) | exact HB.out)) hb)
            clear HO416
            clear BK413
            clear HB
            have HO416 := n0_
            have HO419 := n1_
            have BK413 := n2_
            have HB := n3_
            clear n0_ n1_ n2_ n3_
            (try clear hb)
            (try clear hb2)
            (try clear hk)
            (try clear hi)
            (try clear ho0)
            obtain ⟨Ao21, co21, eo21⟩ := Kd.V_slice HO419.out
            (first | subst eo21 | (injection eo21 with f1_ f2_ f3_; have f4_ := f1_.symm; have f5_ := f3_.symm; clear f1_ f2_ f3_; subst f4_; subst f5_))
            refine hK.out _ _ ⟨(blk_cell BK413.out 0).trans rfl, (blk_cell BK413.out 1).trans rfl⟩ (fun hHeld => ?_)
            clear hK K
            refine norm_ (a' := ?_) ?_ ?_
            rotate_left
            · show Act.put _ (some 17) _ = _
              simp only [Act.put, List.setIfInBounds_toArray, List.set_cons_zero, List.set_cons_succ, i64_w, i32_w]
              rfl
            refine one_ (i := 5) (N := some 20) #[true, true, true, true, true, true, false] rfl rfl (by kernel_rfl) (by decide) (fun K hK => ?_)
            refine goes_ Tryd.func70 (by kernel_rfl) rfl #[.slice Ao21 t417.length co21, .slice A0_1 l0_1.length c0_1] (by rfl) rfl rfl (by (try simp only [List.map_toArray, List.map_cons, List.map_nil]); first | done | rfl | (simp only [List.length_drop, List.length_take]; rfl)) ?_
            with_reducible refine (leadlineref1_cmp.calls k1 _ _ t417 _ _ l0_1 t420 _ ?side1 ?side2 ?side3 ?side4 A7.out).mono ?_
            (case side1 => repeat (first | exact (Kd.V_reads' HO419.out).2.2 | (with_reducible refine Kd.C_alloc ?_ _) | (with_reducible refine Kd.C_drewN ?_ _) | (with_reducible refine Kd.C_drew ?_)))
            (case side2 => exact (Kd.V_reads' HO419.out).2.1)
            (case side3 => repeat (first | exact (Kd.C_below HR0_1.out HB.out) | (with_reducible refine Kd.C_alloc ?_ _) | (with_reducible refine Kd.C_drewN ?_ _) | (with_reducible refine Kd.C_drew ?_)))
            (case side4 => exact HC0_1.out)
            rintro e w' ⟨rfl, ⟨nd, rfl⟩⟩
            refine ⟨_, rfl, ?_⟩
            refine hK.out _ _ ⟨(blk_cell BK413.out 0).trans rfl, (blk_cell BK413.out 1).trans rfl⟩ (fun hHeld => ?_)
            clear hK K
            refine norm_ (a' := ?_) ?_ ?_
            rotate_left
            · show Act.put _ (some 20) _ = _
              simp only [Act.put, List.setIfInBounds_toArray, List.set_cons_zero, List.set_cons_succ, i64_w, i32_w]
              rfl
            refine pure_ (i := 6) (N := some 21) (v := ?_) (a' := ?_) #[true, true, true, true, true, true, true] rfl rfl (by kernel_rfl) (fun _ _ _ h => h) (Or.inl ⟨by rfl, ?_⟩) ?_ ?_
            rotate_left
            · intro w'
              go_simp
              with_reducible rfl
            rotate_left
            · simp only [Act.put, List.setIfInBounds_toArray, List.set_cons_zero, List.set_cons_succ, i64_w, i32_w]
              rfl
            refine done_ (by kernel_rfl) ?_
            try go_wp2
            go_roundg k1
            case measure => have := HK1.out; omega
            case rel => exact ⟨(x3_1), (wrap64 (x4_1 - 1)), (by first | rfl | (simp; done) | (simp [*]; done) | (simp [nb1_, nb2_]; done)), (by first | rfl | (simp; done) | (simp [*]; done) | (simp [nb1_, nb2_]; done)), H', ⟨by have := HK1.out; omega⟩, ⟨by (with_reducible repeat (first | refine blk_drewN ?_ _ | refine blk_drew ?_ | refine blk_alloc ?_ _)); exact BK413.out⟩, ⟨by repeat (first | (with_reducible first | exact HB.out | apply below_alloc | apply pw_below_drewN | apply below_drew1 | refine below_set ?_ GE413.out) | exact HB.out)⟩⟩
        · rw [if_neg c4] at H
          exact absurd H (by simp)
      · rw [if_neg c3] at H
        have c3b0 : decide (0 ≤ x4_1) = false := decide_eq_false c3
        clear c3
        obtain rfl := Option.some.inj H
        go_wp2
        go_ret
        exact ⟨by first | rfl | (simp [errW_none, errW_some] <;> rfl) | (simp [*, errW_none, errW_some] <;> rfl), by repeat (first | (with_reducible first | exact HB.out | apply below_alloc | apply pw_below_drewN | apply below_drew1 | refine below_set ?_ GE413.out) | exact HB.out)⟩
def leadlineref10_Flat.j0 : Nat → Int → Int → Bool → Option (Int × Int)
  | 0, _, _, _ => none
  | k + 1, x0, x1, x22 => if x22 = true then (some (0, 27)) else ((leadlineref1_Of.f k (wrap64 ((wrap64 (x0 * x0)) - (wrap64 (x1 * x1))))).bind fun bt422 => ((leadlineref1_Rooted.f k bt422.1 bt422.2).bind fun t426 => (some (wrap64 (t426), 0))))
def leadlineref10_Flat.f (k : Nat) (a0 : Int) (a1 : Int) : Option (Int × Int) := if a0 < 0 then (leadlineref10_Flat.j0 k a0 a1 true) else (if a0 > 2097152 then (leadlineref10_Flat.j0 k a0 a1 true) else (if a1 > a0 then (leadlineref10_Flat.j0 k a0 a1 true) else (leadlineref10_Flat.j0 k a0 a1 (decide (a1 < (wrap64 (-a0)))))))
theorem leadlineref10_Flat.mono_l : ∀ k, (∀ y0 y1 y2, LeO (leadlineref10_Flat.j0 k y0 y1 y2) (leadlineref10_Flat.j0 (k + 1) y0 y1 y2))
  | 0 => fun _ _ _ r h => by simp [leadlineref10_Flat.j0] at h
  | k + 1 => by
    have ih0 := leadlineref10_Flat.mono_l k
    · intro y0 y1 y2
      unfold leadlineref10_Flat.j0
      repeat' first
      | (with_reducible exact ih0 _ _ _)
      | (with_reducible exact leadlineref1_Of.mono _ _)
      | (with_reducible exact leadlineref1_Rooted.mono _ _ _)
      | (with_reducible exact LeO.refl _)
      | (with_reducible exact LeO.none _)
      | (with_reducible refine LeO.ite ?_ ?_)
      | (with_reducible refine LeO.bind ?_ (fun _ => ?_))
      | exact ih0 _ _ _
      | exact leadlineref1_Of.mono _ _
      | exact leadlineref1_Rooted.mono _ _ _
      | exact LeO.none _
      | refine LeO.ite ?_ ?_
      | refine LeO.bind ?_ (fun _ => ?_)
theorem leadlineref10_Flat.mono : ∀ a0 a1 k, LeO (leadlineref10_Flat.f k a0 a1) (leadlineref10_Flat.f (k + 1) a0 a1) := by
  intro a0 a1 k
  have ih0 := leadlineref10_Flat.mono_l k
  unfold leadlineref10_Flat.f
  repeat' first
      | (with_reducible exact ih0 _ _ _)
      | (with_reducible exact leadlineref1_Of.mono _ _)
      | (with_reducible exact leadlineref1_Rooted.mono _ _ _)
      | (with_reducible exact LeO.refl _)
      | (with_reducible exact LeO.none _)
      | (with_reducible refine LeO.ite ?_ ?_)
      | (with_reducible refine LeO.bind ?_ (fun _ => ?_))
      | exact ih0 _ _ _
      | exact leadlineref1_Of.mono _ _
      | exact leadlineref1_Rooted.mono _ _ _
      | exact LeO.none _
      | refine LeO.ite ?_ ?_
      | refine LeO.bind ?_ (fun _ => ?_)
set_option maxHeartbeats 8000000 in
set_option maxRecDepth 100000 in
theorem leadlineref10_Flat.calls (k : Nat) (a0 : Int) (a1 : Int) (r1 : Int) (r2 : Int) (w : World) (h : leadlineref10_Flat.f k a0 a1 = some (r1, r2)) :
    Calls Tryd.prog 27 #[.int .i64 a0, .int .i64 a1] w fun e w' => e = .returned (.tuple #[.int .i64 r1, .int .i64 r2]) ∧ Below w.heap.size w w' := by
  have HB := Aside0.mk (Below.refl w.heap.size w)
  have H : (if a0 < 0 then (leadlineref10_Flat.j0 k a0 a1 true) else (if a0 > 2097152 then (leadlineref10_Flat.j0 k a0 a1 true) else (if a1 > a0 then (leadlineref10_Flat.j0 k a0 a1 true) else (leadlineref10_Flat.j0 k a0 a1 (decide (a1 < (wrap64 (-a0)))))))) = some (r1, r2) := h
  clear h
  have HC3 := Aside0.mk H
  clear H
  go_enter Tryd.func27, Tryd.ntmps27
  go_upto_region 1 with (fail)
  go_cut [22] (fun v22 wc => ∃ (kq : Nat) (x22_2 : Bool), v22 = .bool x22_2 ∧ Aside0 (leadlineref10_Flat.j0 kq a0 a1 x22_2 = some (r1, r2)) ∧ Aside0 (kq ≤ k) ∧ Aside0 (Below w.heap.size w wc))
  case first =>
    have H := HC3.out
    clear HC3
    by_cases c4 : a0 < 0
    · rw [if_pos c4] at H
      have c4b0 : decide (a0 < 0) = true := decide_eq_true c4
      clear c4
      (first | rw [c4b0] | (simp only [i64_w, i32_w]; rw [c4b0]) | skip)
      have H' := Aside0.mk H
      clear H
      go_wp2
      go_meet
      case rel => exact ⟨_, (true), (by first | rfl | (simp; done) | (simp [*]; done) | (simp [nb1_, nb2_]; done)), H', ⟨by first | omega | exact Nat.le_refl _⟩, ⟨by repeat (first | (with_reducible first | exact HB.out | apply below_alloc | apply pw_below_drewN | apply below_drew1) | exact HB.out)⟩⟩
    · rw [if_neg c4] at H
      have c4b0 : decide (a0 < 0) = false := decide_eq_false c4
      clear c4
      (first | rw [c4b0] | (simp only [i64_w, i32_w]; rw [c4b0]) | skip)
      by_cases c5 : a0 > 2097152
      · rw [if_pos c5] at H
        have c5b0 : decide (2097152 < a0) = true := decide_eq_true c5
        clear c5
        have H' := Aside0.mk H
        clear H
        go_wp2
        go_meet
        case rel => exact ⟨_, (true), (by first | rfl | (simp; done) | (simp [*]; done) | (simp [nb1_, nb2_]; done)), H', ⟨by first | omega | exact Nat.le_refl _⟩, ⟨by repeat (first | (with_reducible first | exact HB.out | apply below_alloc | apply pw_below_drewN | apply below_drew1) | exact HB.out)⟩⟩
      · rw [if_neg c5] at H
        have c5b0 : decide (2097152 < a0) = false := decide_eq_false c5
        clear c5
        by_cases c6 : a1 > a0
        · rw [if_pos c6] at H
          have c6b0 : decide (a0 < a1) = true := decide_eq_true c6
          clear c6
          have H' := Aside0.mk H
          clear H
          go_wp2
          go_meet
          case rel => exact ⟨_, (true), (by first | rfl | (simp; done) | (simp [*]; done) | (simp [nb1_, nb2_]; done)), H', ⟨by first | omega | exact Nat.le_refl _⟩, ⟨by repeat (first | (with_reducible first | exact HB.out | apply below_alloc | apply pw_below_drewN | apply below_drew1) | exact HB.out)⟩⟩
        · rw [if_neg c6] at H
          have c6b0 : decide (a0 < a1) = false := decide_eq_false c6
          clear c6
          have H' := Aside0.mk H
          clear H
          go_wp2
          go_meet
          case rel => exact ⟨_, (decide (a1 < (wrap64 (-a0)))), (by first | rfl | (simp; done) | (simp [*]; done) | (simp [nb1_, nb2_]; done)), H', ⟨by first | omega | exact Nat.le_refl _⟩, ⟨by repeat (first | (with_reducible first | exact HB.out | apply below_alloc | apply pw_below_drewN | apply below_drew1) | exact HB.out)⟩⟩
  case rest =>
    clear HC3
    try clear c2
    try clear p2
    try clear c4
    try clear c4b0
    try clear c5
    try clear c5b0
    try clear c6
    try clear c6b0
    try clear p6
    obtain ⟨kq, x22_2, rfl, HA, HJ2, HB⟩ := hcut
    cases kq with
    | zero => exact absurd HA.out (by simp [leadlineref10_Flat.j0])
    | succ kj2 =>
      have H := HA.out
      clear HA
      simp only [leadlineref10_Flat.j0] at H
      by_cases c7 : x22_2 = true
      · subst c7
        have H1 : (some (0, 27)) = some (r1, r2) := by rw [if_pos rfl] at H; exact H
        clear H
        have H := H1
        clear H1
        simp only [Option.some.injEq, Prod.mk.injEq] at H
        obtain ⟨rfl, rfl⟩ := H
        go_wp2
        go_ret2
        exact ⟨by first | rfl | (simp [errW_none, errW_some] <;> rfl) | (simp [*, errW_none, errW_some] <;> rfl), by repeat (first | (with_reducible first | exact HB.out | apply below_alloc | apply pw_below_drewN | apply below_drew1) | exact HB.out)⟩
      · replace c7 := Bool.eq_false_iff.mpr c7
        subst c7
        have H1 : ((leadlineref1_Of.f kj2 (wrap64 ((wrap64 (a0 * a0)) - (wrap64 (a1 * a1))))).bind fun bt422 => ((leadlineref1_Rooted.f kj2 bt422.1 bt422.2).bind fun t426 => (some (wrap64 (t426), 0)))) = some (r1, r2) := by rw [if_neg (show ¬ (false = true) by decide)] at H; exact H
        clear H
        have H := H1
        clear H1
        replace H := Option.bind_eq_some_iff.mp H
        obtain ⟨⟨t422, t423⟩, A80, H⟩ := H
        replace H : ((leadlineref1_Rooted.f kj2 t422 t423).bind fun t426 => (some (wrap64 (t426), 0))) = some (r1, r2) := H
        have A8 := Aside0.mk A80
        clear A80
        replace H := Option.bind_eq_some_iff.mp H
        obtain ⟨t426, A90, H⟩ := H
        replace H : (some (wrap64 (t426), 0)) = some (r1, r2) := H
        have A9 := Aside0.mk A90
        clear A90
        simp only [Option.some.injEq, Prod.mk.injEq] at H
        obtain ⟨rfl, rfl⟩ := H
        go_wp2_with (first | ((with_reducible refine gate_callee (f := 52) rfl ?_); refine goesL_ (some 30) rfl rfl Tryd.func52 (by kernel_rfl) rfl #[.int .i64 (wrap64 ((wrap64 (a0 * a0)) - (wrap64 (a1 * a1))))] rfl (by (try simp only [List.map_toArray, List.map_cons, List.map_nil]); first | done | rfl | (simp only [List.length_drop, List.length_take]; rfl)) ?_; (with_reducible refine (leadlineref1_Of.calls kj2 (wrap64 ((wrap64 (a0 * a0)) - (wrap64 (a1 * a1)))) t422 t423 _ A8.out).mono ?_); rintro e w10 ⟨v424, rfl, ho0, hb⟩; refine ⟨_, rfl, ?_⟩; have n0_ := Aside0.mk (Kd.V_lower (Kd.V_mono (ok' := fun k_ => True) ho0 (fun k_ hk_ => trivial)) (below_size (by repeat (first | (with_reducible first | exact HB.out | apply below_alloc | apply pw_below_drewN | apply below_drew1) | exact HB.out)))); have n1_ := Aside0.mk (below_step (by repeat (first | (with_reducible first | exact HB.out | apply below_alloc | apply pw_below_drewN | apply below_drew1) | exact HB.out)) hb); clear HB; have HO425 := n0_; have HB := n1_; clear n0_ n1_; (try clear hb); (try clear hb2); (try clear hk); (try clear hi); (try clear ho0); obtain ⟨Ao11, co11, eo11⟩ := Kd.V_slice HO425.out; subst eo11) | ((with_reducible refine gate_callee (f := 51) rfl ?_); refine goesL_ (some 31) rfl rfl Tryd.func51 (by kernel_rfl) rfl #[.agg #[.bool t422, .slice Ao11 t423.length co11]] rfl (by (try simp only [List.map_toArray, List.map_cons, List.map_nil]); first | done | rfl | (simp only [List.length_drop, List.length_take]; rfl)) ?_; (with_reducible refine (leadlineref1_Rooted.calls kj2 t422 _ _ t423 t426 _ ?side1 ?side2 A9.out).mono ?_); (case side1 => repeat (first | exact (Kd.V_reads' HO425.out).2.2 | (with_reducible refine Kd.C_alloc ?_ _) | (with_reducible refine Kd.C_drewN ?_ _) | (with_reducible refine Kd.C_drew ?_))); (case side2 => exact (Kd.V_reads' HO425.out).2.1); rintro e w12 ⟨rfl, hb⟩; refine ⟨_, rfl, ?_⟩; have n0_ := Aside0.mk (Kd.V_below (by (with_reducible repeat (first | apply Kd.V_alloc | apply Kd.V_drewN | apply Kd.V_drew)); exact HO425.out) hb); have n1_ := Aside0.mk (below_step (by repeat (first | (with_reducible first | exact HB.out | apply below_alloc | apply pw_below_drewN | apply below_drew1) | exact HB.out)) hb); clear HO425; clear HB; have HO425 := n0_; have HB := n1_; clear n0_ n1_; (try clear hb); (try clear hb2); (try clear hk); (try clear hi)))
        go_ret2
        exact ⟨by first | rfl | (simp [errW_none, errW_some] <;> rfl) | (simp [*, errW_none, errW_some] <;> rfl), by repeat (first | (with_reducible first | exact HB.out | apply below_alloc | apply pw_below_drewN | apply below_drew1) | exact HB.out)⟩
def leadlineref10_far.f (a0 : Int) (a1 : Int) : Option (Bool) := if a0 > a1 then (some true) else (some (decide (a0 < (wrap64 (-a1)))))
set_option maxHeartbeats 8000000 in
set_option maxRecDepth 100000 in
theorem leadlineref10_far.calls (a0 : Int) (a1 : Int) (r : Bool) (w : World) (h : leadlineref10_far.f a0 a1 = some r) :
    Calls Tryd.prog 53 #[.int .i64 a0, .int .i64 a1] w fun e w' => e = .returned (.bool r) ∧ Drawn0 w w' := by
  have H : (if a0 > a1 then (some true) else (some (decide (a0 < (wrap64 (-a1)))))) = some r := h
  clear h
  by_cases c3 : a0 > a1
  · rw [if_pos c3] at H
    have c3b0 : decide (a1 < a0) = true := decide_eq_true c3
    clear c3
    obtain rfl := Option.some.inj H
    go_enter Tryd.func53, Tryd.ntmps53
    go_wp2
    go_ret
    exact ⟨by first | rfl | (simp; done) | (simp [*]; done) | (simp [nb1_, nb2_]; done), by repeat (first | exact Drawn0.refl _ | apply Drawn0.step)⟩
  · rw [if_neg c3] at H
    have c3b0 : decide (a1 < a0) = false := decide_eq_false c3
    clear c3
    obtain rfl := Option.some.inj H
    go_enter Tryd.func53, Tryd.ntmps53
    go_wp2
    go_ret
    exact ⟨by first | rfl | (simp; done) | (simp [*]; done) | (simp [nb1_, nb2_]; done), by repeat (first | exact Drawn0.refl _ | apply Drawn0.step)⟩
def leadlineref1_quarter.f (a0 : Int) : Option (Int) := some ((wrap64 (a0 * (wrap64 (51472 - ((wrap64 (((wrap64 (a0 * a0)) / 16384) * (wrap64 (21024 - ((wrap64 (((wrap64 (a0 * a0)) / 16384) * 2320)) / 16384))))) / 16384))))) / 16384)
set_option maxHeartbeats 8000000 in
set_option maxRecDepth 100000 in
theorem leadlineref1_quarter.calls (a0 : Int) (r : Int) (w : World) (h : leadlineref1_quarter.f a0 = some r) :
    Calls Tryd.prog 74 #[.int .i64 a0] w fun e w' => e = .returned (.int .i64 r) ∧ Drawn0 w w' := by
  have H : (some ((wrap64 (a0 * (wrap64 (51472 - ((wrap64 (((wrap64 (a0 * a0)) / 16384) * (wrap64 (21024 - ((wrap64 (((wrap64 (a0 * a0)) / 16384) * 2320)) / 16384))))) / 16384))))) / 16384)) = some r := h
  clear h
  obtain rfl := Option.some.inj H
  go_enter Tryd.func74, Tryd.ntmps74
  go_wp2
  go_ret
  exact ⟨by first | rfl | (simp; done) | (simp [*]; done) | (simp [nb1_, nb2_]; done), by repeat (first | exact Drawn0.refl _ | apply Drawn0.step)⟩
def leadlineref1_Sin.f (a0 : Int) : Option (Int) := if (a0 / 16384) = 0 then ((leadlineref1_quarter.f (wrap64 (Go.bits .and .u16 a0 16383))).bind fun t427 => (some t427)) else (if (a0 / 16384) = 1 then ((leadlineref1_quarter.f (wrap64 (16384 - (wrap64 (Go.bits .and .u16 a0 16383))))).bind fun t428 => (some t428)) else (if (a0 / 16384) = 2 then ((leadlineref1_quarter.f (wrap64 (Go.bits .and .u16 a0 16383))).bind fun t429 => (some (wrap64 (-t429)))) else ((leadlineref1_quarter.f (wrap64 (16384 - (wrap64 (Go.bits .and .u16 a0 16383))))).bind fun t430 => (some (wrap64 (-t430))))))
set_option maxHeartbeats 8000000 in
set_option maxRecDepth 100000 in
theorem leadlineref1_Sin.calls (a0 : Int) (r : Int) (w : World) (h : leadlineref1_Sin.f a0 = some r) :
    Calls Tryd.prog 54 #[.int .u16 a0] w fun e w' => e = .returned (.int .i64 r) ∧ Drawn0 w w' := by
  have H : (if (a0 / 16384) = 0 then ((leadlineref1_quarter.f (wrap64 (Go.bits .and .u16 a0 16383))).bind fun t427 => (some t427)) else (if (a0 / 16384) = 1 then ((leadlineref1_quarter.f (wrap64 (16384 - (wrap64 (Go.bits .and .u16 a0 16383))))).bind fun t428 => (some t428)) else (if (a0 / 16384) = 2 then ((leadlineref1_quarter.f (wrap64 (Go.bits .and .u16 a0 16383))).bind fun t429 => (some (wrap64 (-t429)))) else ((leadlineref1_quarter.f (wrap64 (16384 - (wrap64 (Go.bits .and .u16 a0 16383))))).bind fun t430 => (some (wrap64 (-t430))))))) = some r := h
  clear h
  by_cases c2 : (a0 / 16384) = 0
  · rw [if_pos c2] at H
    have c2b0 : ((a0 / 16384) == 0) = true := beq_iff_eq.mpr c2
    have c2b1 : ((a0 / 16384) != 0) = false := bne_eq_false_iff_eq.mpr c2
    clear c2
    replace H := Option.bind_eq_some_iff.mp H
    obtain ⟨t427, A30, H⟩ := H
    replace H : (some t427) = some r := H
    have A3 := Aside0.mk A30
    clear A30
    obtain rfl := Option.some.inj H
    go_enter Tryd.func54, Tryd.ntmps54
    go_wp2_with (first | ((with_reducible refine gate_callee (f := 74) rfl ?_); refine goesL_ (some 12) rfl rfl Tryd.func74 (by kernel_rfl) rfl #[.int .i64 (wrap64 (Go.bits .and .u16 a0 16383))] rfl (by (try simp only [List.map_toArray, List.map_cons, List.map_nil]); first | done | rfl | (simp only [List.length_drop, List.length_take]; rfl)) ?_; (with_reducible refine (leadlineref1_quarter.calls (wrap64 (Go.bits .and .u16 a0 16383)) t427 _ A3.out).mono ?_); rintro e w' ⟨rfl, ⟨nd, rfl⟩⟩; refine ⟨_, rfl, ?_⟩))
    go_ret
    exact ⟨by first | rfl | (simp; done) | (simp [*]; done) | (simp [nb1_, nb2_]; done), by repeat (first | exact Drawn0.refl _ | apply Drawn0.step)⟩
  · rw [if_neg c2] at H
    have c2b0 : ((a0 / 16384) == 0) = false := beq_eq_false_iff_ne.mpr c2
    have c2b1 : ((a0 / 16384) != 0) = true := bne_iff_ne.mpr c2
    by_cases c4 : (a0 / 16384) = 1
    · rw [if_pos c4] at H
      have c4b0 : ((a0 / 16384) == 1) = true := beq_iff_eq.mpr c4
      have c4b1 : ((a0 / 16384) != 1) = false := bne_eq_false_iff_eq.mpr c4
      clear c4
      replace H := Option.bind_eq_some_iff.mp H
      obtain ⟨t428, A50, H⟩ := H
      replace H : (some t428) = some r := H
      have A5 := Aside0.mk A50
      clear A50
      obtain rfl := Option.some.inj H
      go_enter Tryd.func54, Tryd.ntmps54
      go_wp2_with (first | ((with_reducible refine gate_callee (f := 74) rfl ?_); refine goesL_ (some 17) rfl rfl Tryd.func74 (by kernel_rfl) rfl #[.int .i64 (wrap64 (16384 - (wrap64 (Go.bits .and .u16 a0 16383))))] rfl (by (try simp only [List.map_toArray, List.map_cons, List.map_nil]); first | done | rfl | (simp only [List.length_drop, List.length_take]; rfl)) ?_; (with_reducible refine (leadlineref1_quarter.calls (wrap64 (16384 - (wrap64 (Go.bits .and .u16 a0 16383)))) t428 _ A5.out).mono ?_); rintro e w' ⟨rfl, ⟨nd, rfl⟩⟩; refine ⟨_, rfl, ?_⟩))
      go_ret
      exact ⟨by first | rfl | (simp; done) | (simp [*]; done) | (simp [nb1_, nb2_]; done), by repeat (first | exact Drawn0.refl _ | apply Drawn0.step)⟩
    · rw [if_neg c4] at H
      have c4b0 : ((a0 / 16384) == 1) = false := beq_eq_false_iff_ne.mpr c4
      have c4b1 : ((a0 / 16384) != 1) = true := bne_iff_ne.mpr c4
      by_cases c6 : (a0 / 16384) = 2
      · rw [if_pos c6] at H
        have c6b0 : ((a0 / 16384) == 2) = true := beq_iff_eq.mpr c6
        have c6b1 : ((a0 / 16384) != 2) = false := bne_eq_false_iff_eq.mpr c6
        clear c6
        replace H := Option.bind_eq_some_iff.mp H
        obtain ⟨t429, A70, H⟩ := H
        replace H : (some (wrap64 (-t429))) = some r := H
        have A7 := Aside0.mk A70
        clear A70
        obtain rfl := Option.some.inj H
        go_enter Tryd.func54, Tryd.ntmps54
        go_wp2_with (first | ((with_reducible refine gate_callee (f := 74) rfl ?_); refine goesL_ (some 21) rfl rfl Tryd.func74 (by kernel_rfl) rfl #[.int .i64 (wrap64 (Go.bits .and .u16 a0 16383))] rfl (by (try simp only [List.map_toArray, List.map_cons, List.map_nil]); first | done | rfl | (simp only [List.length_drop, List.length_take]; rfl)) ?_; (with_reducible refine (leadlineref1_quarter.calls (wrap64 (Go.bits .and .u16 a0 16383)) t429 _ A7.out).mono ?_); rintro e w' ⟨rfl, ⟨nd, rfl⟩⟩; refine ⟨_, rfl, ?_⟩))
        go_ret
        exact ⟨by first | rfl | (simp; done) | (simp [*]; done) | (simp [nb1_, nb2_]; done), by repeat (first | exact Drawn0.refl _ | apply Drawn0.step)⟩
      · rw [if_neg c6] at H
        have c6b0 : ((a0 / 16384) == 2) = false := beq_eq_false_iff_ne.mpr c6
        have c6b1 : ((a0 / 16384) != 2) = true := bne_iff_ne.mpr c6
        replace H := Option.bind_eq_some_iff.mp H
        obtain ⟨t430, A80, H⟩ := H
        replace H : (some (wrap64 (-t430))) = some r := H
        have A8 := Aside0.mk A80
        clear A80
        obtain rfl := Option.some.inj H
        go_enter Tryd.func54, Tryd.ntmps54
        go_wp2_with (first | ((with_reducible refine gate_callee (f := 74) rfl ?_); refine goesL_ (some 25) rfl rfl Tryd.func74 (by kernel_rfl) rfl #[.int .i64 (wrap64 (16384 - (wrap64 (Go.bits .and .u16 a0 16383))))] rfl (by (try simp only [List.map_toArray, List.map_cons, List.map_nil]); first | done | rfl | (simp only [List.length_drop, List.length_take]; rfl)) ?_; (with_reducible refine (leadlineref1_quarter.calls (wrap64 (16384 - (wrap64 (Go.bits .and .u16 a0 16383)))) t430 _ A8.out).mono ?_); rintro e w' ⟨rfl, ⟨nd, rfl⟩⟩; refine ⟨_, rfl, ?_⟩))
        go_ret
        exact ⟨by first | rfl | (simp; done) | (simp [*]; done) | (simp [nb1_, nb2_]; done), by repeat (first | exact Drawn0.refl _ | apply Drawn0.step)⟩
def leadlineref1_Cos.f (a0 : Int) : Option (Int) := (leadlineref1_Sin.f (IntKind.u16.wrap (a0 + 16384))).bind fun t431 => (some t431)
set_option maxHeartbeats 8000000 in
set_option maxRecDepth 100000 in
theorem leadlineref1_Cos.calls (a0 : Int) (r : Int) (w : World) (h : leadlineref1_Cos.f a0 = some r) :
    Calls Tryd.prog 55 #[.int .u16 a0] w fun e w' => e = .returned (.int .i64 r) ∧ Drawn0 w w' := by
  have H : ((leadlineref1_Sin.f (IntKind.u16.wrap (a0 + 16384))).bind fun t431 => (some t431)) = some r := h
  clear h
  replace H := Option.bind_eq_some_iff.mp H
  obtain ⟨t431, A20, H⟩ := H
  replace H : (some t431) = some r := H
  have A2 := Aside0.mk A20
  clear A20
  obtain rfl := Option.some.inj H
  go_enter Tryd.func55, Tryd.ntmps55
  go_wp2_with (first | ((with_reducible refine gate_callee (f := 54) rfl ?_); refine goesL_ (some 5) rfl rfl Tryd.func54 (by kernel_rfl) rfl #[.int .u16 (IntKind.u16.wrap (a0 + 16384))] rfl (by (try simp only [List.map_toArray, List.map_cons, List.map_nil]); first | done | rfl | (simp only [List.length_drop, List.length_take]; rfl)) ?_; (with_reducible refine (leadlineref1_Sin.calls (IntKind.u16.wrap (a0 + 16384)) t431 _ A2.out).mono ?_); rintro e w' ⟨rfl, ⟨nd, rfl⟩⟩; refine ⟨_, rfl, ?_⟩))
  go_ret
  exact ⟨by first | rfl | (simp; done) | (simp [*]; done) | (simp [nb1_, nb2_]; done), by repeat (first | exact Drawn0.refl _ | apply Drawn0.step)⟩
def leadlineref10_Away.f (a0_0 : Int) (a0_1 : Int) : Option (Bool) := (leadlineref10_far.f a0_0 4194304).bind fun t438 => (if t438 = true then (some true) else ((leadlineref10_far.f a0_1 4194304).bind fun t439 => (some t439)))
set_option maxHeartbeats 8000000 in
set_option maxRecDepth 100000 in
theorem leadlineref10_Away.calls (a0_0 : Int) (a0_1 : Int) (r : Bool) (w : World) (h : leadlineref10_Away.f a0_0 a0_1 = some r) :
    Calls Tryd.prog 56 #[.agg #[.int .i64 a0_0, .int .i64 a0_1]] w fun e w' => e = .returned (.bool r) ∧ Below w.heap.size w w' := by
  have hu35 := Tryd.underlying35
  have HB := Aside0.mk (Below.refl w.heap.size w)
  have H : ((leadlineref10_far.f a0_0 4194304).bind fun t438 => (if t438 = true then (some true) else ((leadlineref10_far.f a0_1 4194304).bind fun t439 => (some t439)))) = some r := h
  clear h
  replace H := Option.bind_eq_some_iff.mp H
  obtain ⟨t438, A20, H⟩ := H
  replace H : (if t438 = true then (some true) else ((leadlineref10_far.f a0_1 4194304).bind fun t439 => (some t439))) = some r := H
  have A2 := Aside0.mk A20
  clear A20
  by_cases c3 : t438 = true
  · subst c3
    have H1 : (some true) = some r := by rw [if_pos rfl] at H; exact H
    clear H
    have H := H1
    clear H1
    obtain rfl := Option.some.inj H
    go_enter Tryd.func56, Tryd.ntmps56
    go_wp2_with (first | ((with_reducible refine gate_dst (N := 1) rfl ?_); refine box_event ?hg (N := 1) ?hd (cs := #[.int .i64 a0_0, .int .i64 a0_1]) (t := 35) ?hr ?_; (case hd => rfl); (case hg => rfl); (case hr => first | (go_simp; done) | (go_simp; rfl)); intro gb437 hg w4 hbox hb; have n0_ := Aside0.mk (below_step (by repeat (first | (with_reducible first | exact HB.out | apply below_alloc | apply pw_below_drewN | apply below_drew1) | exact HB.out)) hb); have n1_ := Aside0.mk (hbox); have n2_ := Aside0.mk ((by rw [hg]; exact (below_size (by repeat (first | (with_reducible first | exact HB.out | apply below_alloc | apply pw_below_drewN | apply below_drew1) | exact HB.out))) : w.heap.size ≤ gb437)); have n3_ := Aside0.mk ((by rw [hg]; exact (below_size (by repeat (first | (with_reducible first | exact HB.out | apply below_alloc | apply pw_below_drewN | apply below_drew1) | exact HB.out))) : w.heap.size ≤ gb437)); clear HB; have HB := n0_; have BK437 := n1_; have GW437 := n2_; have GE437 := n3_; clear n0_ n1_ n2_ n3_; clear hb hbox hg; have hcz5_0 : w4.cell? ⟨gb437, 0, none⟩ = some (.int .i64 a0_0) := (blk_cell BK437.out 0).trans rfl; have hcz5_1 : w4.cell? ⟨gb437, 1, none⟩ = some (.int .i64 a0_1) := (blk_cell BK437.out 1).trans rfl; have hfz5_0 := blk_frozen BK437.out 0; have hfz5_1 := blk_frozen BK437.out 1) | ((with_reducible refine gate_callee (f := 53) rfl ?_); refine goesL_ (some 5) rfl rfl Tryd.func53 (by kernel_rfl) rfl #[.int .i64 a0_0, .int .i64 4194304] rfl (by (try simp only [List.map_toArray, List.map_cons, List.map_nil]); first | done | rfl | (simp only [List.length_drop, List.length_take]; rfl)) ?_; (with_reducible refine (leadlineref10_far.calls a0_0 4194304 true _ A2.out).mono ?_); rintro e w' ⟨rfl, ⟨nd, rfl⟩⟩; refine ⟨_, rfl, ?_⟩))
    go_ret
    exact ⟨by first | rfl | (simp [errW_none, errW_some] <;> rfl) | (simp [*, errW_none, errW_some] <;> rfl), by repeat (first | (with_reducible first | exact HB.out | apply below_alloc | apply pw_below_drewN | apply below_drew1 | refine below_set ?_ GE437.out) | exact HB.out)⟩
  · replace c3 := Bool.eq_false_iff.mpr c3
    subst c3
    have H1 : ((leadlineref10_far.f a0_1 4194304).bind fun t439 => (some t439)) = some r := by rw [if_neg (show ¬ (false = true) by decide)] at H; exact H
    clear H
    have H := H1
    clear H1
    replace H := Option.bind_eq_some_iff.mp H
    obtain ⟨t439, A60, H⟩ := H
    replace H : (some t439) = some r := H
    have A6 := Aside0.mk A60
    clear A60
    obtain rfl := Option.some.inj H
    go_enter Tryd.func56, Tryd.ntmps56
    go_wp2_with (first | ((with_reducible refine gate_dst (N := 1) rfl ?_); refine box_event ?hg (N := 1) ?hd (cs := #[.int .i64 a0_0, .int .i64 a0_1]) (t := 35) ?hr ?_; (case hd => rfl); (case hg => rfl); (case hr => first | (go_simp; done) | (go_simp; rfl)); intro gb437 hg w7 hbox hb; have n0_ := Aside0.mk (below_step (by repeat (first | (with_reducible first | exact HB.out | apply below_alloc | apply pw_below_drewN | apply below_drew1) | exact HB.out)) hb); have n1_ := Aside0.mk (hbox); have n2_ := Aside0.mk ((by rw [hg]; exact (below_size (by repeat (first | (with_reducible first | exact HB.out | apply below_alloc | apply pw_below_drewN | apply below_drew1) | exact HB.out))) : w.heap.size ≤ gb437)); have n3_ := Aside0.mk ((by rw [hg]; exact (below_size (by repeat (first | (with_reducible first | exact HB.out | apply below_alloc | apply pw_below_drewN | apply below_drew1) | exact HB.out))) : w.heap.size ≤ gb437)); clear HB; have HB := n0_; have BK437 := n1_; have GW437 := n2_; have GE437 := n3_; clear n0_ n1_ n2_ n3_; clear hb hbox hg; have hcz8_0 : w7.cell? ⟨gb437, 0, none⟩ = some (.int .i64 a0_0) := (blk_cell BK437.out 0).trans rfl; have hcz8_1 : w7.cell? ⟨gb437, 1, none⟩ = some (.int .i64 a0_1) := (blk_cell BK437.out 1).trans rfl; have hfz8_0 := blk_frozen BK437.out 0; have hfz8_1 := blk_frozen BK437.out 1) | ((with_reducible refine gate_callee (f := 53) rfl ?_); refine goesL_ (some 5) rfl rfl Tryd.func53 (by kernel_rfl) rfl #[.int .i64 a0_0, .int .i64 4194304] rfl (by (try simp only [List.map_toArray, List.map_cons, List.map_nil]); first | done | rfl | (simp only [List.length_drop, List.length_take]; rfl)) ?_; (with_reducible refine (leadlineref10_far.calls a0_0 4194304 false _ A2.out).mono ?_); rintro e w' ⟨rfl, ⟨nd, rfl⟩⟩; refine ⟨_, rfl, ?_⟩) | (go_at_call 53; (with_reducible refine (leadlineref10_far.calls a0_1 4194304 t439 _ A6.out).mono ?_); rintro e w' ⟨rfl, ⟨nd, rfl⟩⟩))
    go_ret
    exact ⟨by first | rfl | (simp [errW_none, errW_some] <;> rfl) | (simp [*, errW_none, errW_some] <;> rfl), by repeat (first | (with_reducible first | exact HB.out | apply below_alloc | apply pw_below_drewN | apply below_drew1 | refine below_set ?_ GE437.out) | exact HB.out)⟩
end Go.Proofs.YtaiolioggjknfaaDoor.QSn
