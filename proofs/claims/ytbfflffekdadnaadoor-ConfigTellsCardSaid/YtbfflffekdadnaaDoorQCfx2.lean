/- Lean functions for Go functions that a statement reaches, and a proof that the calls come to them. Written by a program of this session. -/
import Derived.Test.YtbfflffekdadnaaDoorQCfx0
namespace Go.Proofs.YtbfflffekdadnaaDoor.QCf
open Go.Proofs.YtbfflffekdadnaaDoor.XCarry Go.RowKit Go.Proofs.YtbfflffekdadnaaDoorW.PrintWords Go.Proofs.YtbfflffekdadnaaDoorW.PrintLast Go.Proofs.YtbfflffekdadnaaDoorW.PrintMore
attribute [local go_sem] max2_int min2_int max_two min_two max_three min_three max_four min_four   -- for this text's walks alone
set_option linter.unusedVariables false
set_option linter.unusedSimpArgs false

-- NOT PRINTED: function 47 (fault_first)

-- NOT PRINTED: function 42 (fault_within)

-- NOT PRINTED: function 34 (fault_Ops)

-- NOT PRINTED: function 48 (reflectlite_ValueOf)

-- NOT PRINTED: function 49 (reflectlite_Value_Type)

-- NOT PRINTED: function 50 (reflectlite_Value_IsNil)

-- NOT PRINTED: function 52 (reflectlite_TypeOf)

-- NOT PRINTED: function 53 (reflectlite_Value_Elem)

-- NOT PRINTED: function 54 (reflectlite_Value_Set)

-- NOT PRINTED: function 51 (errors_as)

-- NOT PRINTED: function 43 (errors_As)

-- NOT PRINTED: function 35 (fault_Code)

-- NOT PRINTED: function 18 (leadlinelaw27_says)

-- NOT PRINTED: function 33 (fault_Wrap)

/-! ### dead_Far: function 44 -/
def dead_Far.f (a0_0 : Int) (a0_1 : Int) : Option (Bool) := if a0_0 < (-4194304) then (some true) else (if a0_0 > 4194304 then (some true) else (if a0_1 < (-4194304) then (some true) else (some (decide (a0_1 > 4194304)))))
set_option maxHeartbeats 8000000 in
set_option maxRecDepth 100000 in
theorem dead_Far.calls (a0_0 : Int) (a0_1 : Int) (r : Bool) (w : World) (h : dead_Far.f a0_0 a0_1 = some r) :
    Calls Tryd.prog 44 #[.agg #[.int .i64 a0_0, .int .i64 a0_1]] w fun e w' => e = .returned (.bool r) ∧ Below w.heap.size w w' := by
  have hu44 := Tryd.underlying44
  have HB := Aside0.mk (Below.refl w.heap.size w)
  have H : (if a0_0 < (-4194304) then (some true) else (if a0_0 > 4194304 then (some true) else (if a0_1 < (-4194304) then (some true) else (some (decide (a0_1 > 4194304)))))) = some r := h
  clear h
  by_cases c2 : a0_0 < (-4194304)
  · rw [if_pos c2] at H
    have c2b0 : decide (a0_0 < (-4194304)) = true := decide_eq_true c2
    clear c2
    obtain rfl := Option.some.inj H
    go_enter Tryd.func44, Tryd.ntmps44
    go_wp2_with (first | ((with_reducible refine gate_dst (N := 1) rfl ?_); refine box_event ?hg (N := 1) ?hd (cs := #[.int .i64 a0_0, .int .i64 a0_1]) (t := 44) ?hr ?_; (case hd => rfl); (case hg => rfl); (case hr => first | (go_simp; done) | (go_simp; rfl)); intro gb126 hg w3 hbox hb; have n0_ := Aside0.mk (below_step (by repeat (first | (with_reducible first | exact HB.out | apply below_alloc | apply pw_below_drewN | apply below_drew1) | exact HB.out)) hb); have n1_ := Aside0.mk (hbox); have n2_ := Aside0.mk ((by rw [hg]; exact (below_size (by repeat (first | (with_reducible first | exact HB.out | apply below_alloc | apply pw_below_drewN | apply below_drew1) | exact HB.out))) : w.heap.size ≤ gb126)); have n3_ := Aside0.mk ((by rw [hg]; exact (below_size (by repeat (first | (with_reducible first | exact HB.out | apply below_alloc | apply pw_below_drewN | apply below_drew1) | exact HB.out))) : w.heap.size ≤ gb126)); clear HB; have HB := n0_; have BK126 := n1_; have GW126 := n2_; have GE126 := n3_; clear n0_ n1_ n2_ n3_; clear hb hbox hg; have hcz4_0 : w3.cell? ⟨gb126, 0, none⟩ = some (.int .i64 a0_0) := (blk_cell BK126.out 0).trans rfl; have hcz4_1 : w3.cell? ⟨gb126, 1, none⟩ = some (.int .i64 a0_1) := (blk_cell BK126.out 1).trans rfl; have hfz4_0 := blk_frozen BK126.out 0; have hfz4_1 := blk_frozen BK126.out 1))
    go_ret
    exact ⟨by first | rfl | (simp [errW_none, errW_some] <;> rfl) | (simp [*, errW_none, errW_some] <;> rfl), by repeat (first | (with_reducible first | exact HB.out | apply below_alloc | apply pw_below_drewN | apply below_drew1 | refine below_set ?_ GE126.out) | exact HB.out)⟩
  · rw [if_neg c2] at H
    have c2b0 : decide (a0_0 < (-4194304)) = false := decide_eq_false c2
    clear c2
    by_cases c5 : a0_0 > 4194304
    · rw [if_pos c5] at H
      have c5b0 : decide (4194304 < a0_0) = true := decide_eq_true c5
      clear c5
      obtain rfl := Option.some.inj H
      go_enter Tryd.func44, Tryd.ntmps44
      go_wp2_with (first | ((with_reducible refine gate_dst (N := 1) rfl ?_); refine box_event ?hg (N := 1) ?hd (cs := #[.int .i64 a0_0, .int .i64 a0_1]) (t := 44) ?hr ?_; (case hd => rfl); (case hg => rfl); (case hr => first | (go_simp; done) | (go_simp; rfl)); intro gb126 hg w6 hbox hb; have n0_ := Aside0.mk (below_step (by repeat (first | (with_reducible first | exact HB.out | apply below_alloc | apply pw_below_drewN | apply below_drew1) | exact HB.out)) hb); have n1_ := Aside0.mk (hbox); have n2_ := Aside0.mk ((by rw [hg]; exact (below_size (by repeat (first | (with_reducible first | exact HB.out | apply below_alloc | apply pw_below_drewN | apply below_drew1) | exact HB.out))) : w.heap.size ≤ gb126)); have n3_ := Aside0.mk ((by rw [hg]; exact (below_size (by repeat (first | (with_reducible first | exact HB.out | apply below_alloc | apply pw_below_drewN | apply below_drew1) | exact HB.out))) : w.heap.size ≤ gb126)); clear HB; have HB := n0_; have BK126 := n1_; have GW126 := n2_; have GE126 := n3_; clear n0_ n1_ n2_ n3_; clear hb hbox hg; have hcz7_0 : w6.cell? ⟨gb126, 0, none⟩ = some (.int .i64 a0_0) := (blk_cell BK126.out 0).trans rfl; have hcz7_1 : w6.cell? ⟨gb126, 1, none⟩ = some (.int .i64 a0_1) := (blk_cell BK126.out 1).trans rfl; have hfz7_0 := blk_frozen BK126.out 0; have hfz7_1 := blk_frozen BK126.out 1))
      go_ret
      exact ⟨by first | rfl | (simp [errW_none, errW_some] <;> rfl) | (simp [*, errW_none, errW_some] <;> rfl), by repeat (first | (with_reducible first | exact HB.out | apply below_alloc | apply pw_below_drewN | apply below_drew1 | refine below_set ?_ GE126.out) | exact HB.out)⟩
    · rw [if_neg c5] at H
      have c5b0 : decide (4194304 < a0_0) = false := decide_eq_false c5
      clear c5
      by_cases c8 : a0_1 < (-4194304)
      · rw [if_pos c8] at H
        have c8b0 : decide (a0_1 < (-4194304)) = true := decide_eq_true c8
        clear c8
        obtain rfl := Option.some.inj H
        go_enter Tryd.func44, Tryd.ntmps44
        go_wp2_with (first | ((with_reducible refine gate_dst (N := 1) rfl ?_); refine box_event ?hg (N := 1) ?hd (cs := #[.int .i64 a0_0, .int .i64 a0_1]) (t := 44) ?hr ?_; (case hd => rfl); (case hg => rfl); (case hr => first | (go_simp; done) | (go_simp; rfl)); intro gb126 hg w9 hbox hb; have n0_ := Aside0.mk (below_step (by repeat (first | (with_reducible first | exact HB.out | apply below_alloc | apply pw_below_drewN | apply below_drew1) | exact HB.out)) hb); have n1_ := Aside0.mk (hbox); have n2_ := Aside0.mk ((by rw [hg]; exact (below_size (by repeat (first | (with_reducible first | exact HB.out | apply below_alloc | apply pw_below_drewN | apply below_drew1) | exact HB.out))) : w.heap.size ≤ gb126)); have n3_ := Aside0.mk ((by rw [hg]; exact (below_size (by repeat (first | (with_reducible first | exact HB.out | apply below_alloc | apply pw_below_drewN | apply below_drew1) | exact HB.out))) : w.heap.size ≤ gb126)); clear HB; have HB := n0_; have BK126 := n1_; have GW126 := n2_; have GE126 := n3_; clear n0_ n1_ n2_ n3_; clear hb hbox hg; have hcz10_0 : w9.cell? ⟨gb126, 0, none⟩ = some (.int .i64 a0_0) := (blk_cell BK126.out 0).trans rfl; have hcz10_1 : w9.cell? ⟨gb126, 1, none⟩ = some (.int .i64 a0_1) := (blk_cell BK126.out 1).trans rfl; have hfz10_0 := blk_frozen BK126.out 0; have hfz10_1 := blk_frozen BK126.out 1))
        go_ret
        exact ⟨by first | rfl | (simp [errW_none, errW_some] <;> rfl) | (simp [*, errW_none, errW_some] <;> rfl), by repeat (first | (with_reducible first | exact HB.out | apply below_alloc | apply pw_below_drewN | apply below_drew1 | refine below_set ?_ GE126.out) | exact HB.out)⟩
      · rw [if_neg c8] at H
        have c8b0 : decide (a0_1 < (-4194304)) = false := decide_eq_false c8
        clear c8
        obtain rfl := Option.some.inj H
        go_enter Tryd.func44, Tryd.ntmps44
        go_wp2_with (first | ((with_reducible refine gate_dst (N := 1) rfl ?_); refine box_event ?hg (N := 1) ?hd (cs := #[.int .i64 a0_0, .int .i64 a0_1]) (t := 44) ?hr ?_; (case hd => rfl); (case hg => rfl); (case hr => first | (go_simp; done) | (go_simp; rfl)); intro gb126 hg w11 hbox hb; have n0_ := Aside0.mk (below_step (by repeat (first | (with_reducible first | exact HB.out | apply below_alloc | apply pw_below_drewN | apply below_drew1) | exact HB.out)) hb); have n1_ := Aside0.mk (hbox); have n2_ := Aside0.mk ((by rw [hg]; exact (below_size (by repeat (first | (with_reducible first | exact HB.out | apply below_alloc | apply pw_below_drewN | apply below_drew1) | exact HB.out))) : w.heap.size ≤ gb126)); have n3_ := Aside0.mk ((by rw [hg]; exact (below_size (by repeat (first | (with_reducible first | exact HB.out | apply below_alloc | apply pw_below_drewN | apply below_drew1) | exact HB.out))) : w.heap.size ≤ gb126)); clear HB; have HB := n0_; have BK126 := n1_; have GW126 := n2_; have GE126 := n3_; clear n0_ n1_ n2_ n3_; clear hb hbox hg; have hcz12_0 : w11.cell? ⟨gb126, 0, none⟩ = some (.int .i64 a0_0) := (blk_cell BK126.out 0).trans rfl; have hcz12_1 : w11.cell? ⟨gb126, 1, none⟩ = some (.int .i64 a0_1) := (blk_cell BK126.out 1).trans rfl; have hfz12_0 := blk_frozen BK126.out 0; have hfz12_1 := blk_frozen BK126.out 1))
        go_ret
        exact ⟨by first | rfl | (simp [errW_none, errW_some] <;> rfl) | (simp [*, errW_none, errW_some] <;> rfl), by repeat (first | (with_reducible first | exact HB.out | apply below_alloc | apply pw_below_drewN | apply below_drew1 | refine below_set ?_ GE126.out) | exact HB.out)⟩

/-! ### config_within: function 45 -/
def config_within.f (a0 : Int) (a1 : Int) (a2 : Int) : Option (Bool) := if a0 ≥ a1 then (some (decide (a0 ≤ a2))) else (some false)
set_option maxHeartbeats 8000000 in
set_option maxRecDepth 100000 in
theorem config_within.calls (a0 : Int) (a1 : Int) (a2 : Int) (r : Bool) (w : World) (h : config_within.f a0 a1 a2 = some r) :
    Calls Tryd.prog 45 #[.int .i64 a0, .int .i64 a1, .int .i64 a2] w fun e w' => e = .returned (.bool r) ∧ Drawn0 w w' := by
  have H : (if a0 ≥ a1 then (some (decide (a0 ≤ a2))) else (some false)) = some r := h
  clear h
  by_cases c4 : a0 ≥ a1
  · rw [if_pos c4] at H
    have c4b0 : decide (a1 ≤ a0) = true := decide_eq_true c4
    clear c4
    obtain rfl := Option.some.inj H
    go_enter Tryd.func45, Tryd.ntmps45
    go_wp2
    go_ret
    exact ⟨by first | rfl | (simp; done) | (simp [*]; done) | (simp [nb1_, nb2_]; done), by repeat (first | exact Drawn0.refl _ | apply Drawn0.step)⟩
  · rw [if_neg c4] at H
    have c4b0 : decide (a1 ≤ a0) = false := decide_eq_false c4
    clear c4
    obtain rfl := Option.some.inj H
    go_enter Tryd.func45, Tryd.ntmps45
    go_wp2
    go_ret
    exact ⟨by first | rfl | (simp; done) | (simp [*]; done) | (simp [nb1_, nb2_]; done), by repeat (first | exact Drawn0.refl _ | apply Drawn0.step)⟩

/-! ### config_part: function 36 -/
def config_part.j0 : Nat → Bool → Int → Int → Int → Int → Int → Int → Int → Int → Int → Int → Int → Int → Option (Bool)
  | 0, _, _, _, _, _, _, _, _, _, _, _, _, _ => none
  | k + 1, x55, x128000, x128001, x128002, x128003, x128004, x128005, x128006, x128007, x128008, x128009, x128010, x128011 => if x55 = true then (some false) else (if x128007 ≤ 536870912 then ((config_within.f x128008 1000 1048576).bind fun t137 => (some t137)) else (some false))
def config_part.f (k : Nat) (a0_0 : Int) (a0_1 : Int) (a0_2 : Int) (a0_3 : Int) (a0_4 : Int) (a0_5 : Int) (a0_6 : Int) (a0_7 : Int) (a0_8 : Int) (a0_9 : Int) (a0_10 : Int) (a0_11 : Int) (a1 : Int) : Option (Bool) := if a1 = 0 then ((dead_Far.f a0_0 a0_1).bind fun t128 => (some (!t128))) else (if a1 = 1 then ((config_within.f a0_2 2 1048576).bind fun t135 => (if t135 = true then ((config_within.f a0_4 1 1048576).bind fun t136 => (some t136)) else (some false))) else (if a1 = 2 then ((config_within.f a0_3 1 1024).bind fun t129 => (if t129 = true then ((config_within.f a0_5 1 4096).bind fun t130 => (some t130)) else (some false))) else (if a1 = 3 then ((config_within.f a0_6 1 (wrap64 (a0_2 - 1))).bind fun t131 => (some t131)) else (if a1 = 4 then (if a0_7 ≤ a0_2 then (config_part.j0 k true a0_0 a0_1 a0_2 a0_3 a0_4 a0_5 a0_6 a0_7 a0_8 a0_9 a0_10 a0_11) else (config_part.j0 k (decide (a0_7 ≤ a0_4)) a0_0 a0_1 a0_2 a0_3 a0_4 a0_5 a0_6 a0_7 a0_8 a0_9 a0_10 a0_11)) else (if a1 = 5 then (if a0_7 ≤ 536870912 then ((config_within.f a0_8 1000 1048576).bind fun t132 => (some t132)) else (some false)) else ((config_within.f a0_9 0 1000000).bind fun t133 => (if t133 = true then ((config_within.f a0_10 0 1000000).bind fun t134 => (if t134 = true then (some (decide (a0_11 ≥ 1))) else (some false))) else (some false))))))))
theorem config_part.mono_l : ∀ k, (∀ y0 y1 y2 y3 y4 y5 y6 y7 y8 y9 y10 y11 y12, LeO (config_part.j0 k y0 y1 y2 y3 y4 y5 y6 y7 y8 y9 y10 y11 y12) (config_part.j0 (k + 1) y0 y1 y2 y3 y4 y5 y6 y7 y8 y9 y10 y11 y12))
  | 0 => fun _ _ _ _ _ _ _ _ _ _ _ _ _ r h => by simp [config_part.j0] at h
  | k + 1 => by
    have ih0 := config_part.mono_l k
    · intro y0 y1 y2 y3 y4 y5 y6 y7 y8 y9 y10 y11 y12
      unfold config_part.j0
      repeat' first
      | (with_reducible exact ih0 _ _ _ _ _ _ _ _ _ _ _ _ _)
      | (with_reducible exact LeO.refl _)
      | (with_reducible exact LeO.none _)
      | (with_reducible refine LeO.ite ?_ ?_)
      | (with_reducible refine LeO.bind ?_ (fun _ => ?_))
      | exact ih0 _ _ _ _ _ _ _ _ _ _ _ _ _
      | exact LeO.none _
      | refine LeO.ite ?_ ?_
      | refine LeO.bind ?_ (fun _ => ?_)
theorem config_part.mono : ∀ a0 a1 a2 a3 a4 a5 a6 a7 a8 a9 a10 a11 a12 k, LeO (config_part.f k a0 a1 a2 a3 a4 a5 a6 a7 a8 a9 a10 a11 a12) (config_part.f (k + 1) a0 a1 a2 a3 a4 a5 a6 a7 a8 a9 a10 a11 a12) := by
  intro a0 a1 a2 a3 a4 a5 a6 a7 a8 a9 a10 a11 a12 k
  have ih0 := config_part.mono_l k
  unfold config_part.f
  repeat' first
      | (with_reducible exact ih0 _ _ _ _ _ _ _ _ _ _ _ _ _)
      | (with_reducible exact LeO.refl _)
      | (with_reducible exact LeO.none _)
      | (with_reducible refine LeO.ite ?_ ?_)
      | (with_reducible refine LeO.bind ?_ (fun _ => ?_))
      | exact ih0 _ _ _ _ _ _ _ _ _ _ _ _ _
      | exact LeO.none _
      | refine LeO.ite ?_ ?_
      | refine LeO.bind ?_ (fun _ => ?_)
set_option maxHeartbeats 8000000 in
set_option maxRecDepth 100000 in
theorem config_part.calls (k : Nat) (a0_0 : Int) (a0_1 : Int) (a0_2 : Int) (a0_3 : Int) (a0_4 : Int) (a0_5 : Int) (a0_6 : Int) (a0_7 : Int) (a0_8 : Int) (a0_9 : Int) (a0_10 : Int) (a0_11 : Int) (a1 : Int) (r : Bool) (w : World) (h : config_part.f k a0_0 a0_1 a0_2 a0_3 a0_4 a0_5 a0_6 a0_7 a0_8 a0_9 a0_10 a0_11 a1 = some r) :
    Calls Tryd.prog 36 #[.agg #[.int .i64 a0_0, .int .i64 a0_1, .int .i64 a0_2, .int .i64 a0_3, .int .i64 a0_4, .int .i64 a0_5, .int .i64 a0_6, .int .i64 a0_7, .int .i64 a0_8, .int .i64 a0_9, .int .i64 a0_10, .int .u32 a0_11], .int .i64 a1] w fun e w' => e = .returned (.bool r) ∧ Below w.heap.size w w' := by
  have hu46 := Tryd.underlying46
  have hu44 := Tryd.underlying44
  have HB := Aside0.mk (Below.refl w.heap.size w)
  have H : (if a1 = 0 then ((dead_Far.f a0_0 a0_1).bind fun t128 => (some (!t128))) else (if a1 = 1 then ((config_within.f a0_2 2 1048576).bind fun t135 => (if t135 = true then ((config_within.f a0_4 1 1048576).bind fun t136 => (some t136)) else (some false))) else (if a1 = 2 then ((config_within.f a0_3 1 1024).bind fun t129 => (if t129 = true then ((config_within.f a0_5 1 4096).bind fun t130 => (some t130)) else (some false))) else (if a1 = 3 then ((config_within.f a0_6 1 (wrap64 (a0_2 - 1))).bind fun t131 => (some t131)) else (if a1 = 4 then (if a0_7 ≤ a0_2 then (config_part.j0 k true a0_0 a0_1 a0_2 a0_3 a0_4 a0_5 a0_6 a0_7 a0_8 a0_9 a0_10 a0_11) else (config_part.j0 k (decide (a0_7 ≤ a0_4)) a0_0 a0_1 a0_2 a0_3 a0_4 a0_5 a0_6 a0_7 a0_8 a0_9 a0_10 a0_11)) else (if a1 = 5 then (if a0_7 ≤ 536870912 then ((config_within.f a0_8 1000 1048576).bind fun t132 => (some t132)) else (some false)) else ((config_within.f a0_9 0 1000000).bind fun t133 => (if t133 = true then ((config_within.f a0_10 0 1000000).bind fun t134 => (if t134 = true then (some (decide (a0_11 ≥ 1))) else (some false))) else (some false))))))))) = some r := h
  clear h
  by_cases c3 : a1 = 0
  · rw [if_pos c3] at H
    have c3b0 : (a1 == 0) = true := beq_iff_eq.mpr c3
    have c3b1 : (a1 != 0) = false := bne_eq_false_iff_eq.mpr c3
    clear c3
    replace H := Option.bind_eq_some_iff.mp H
    obtain ⟨t128, A40, H⟩ := H
    replace H : (some (!t128)) = some r := H
    have A4 := Aside0.mk A40
    clear A40
    obtain rfl := Option.some.inj H
    go_enter Tryd.func36, Tryd.ntmps36
    go_wp2_with (first | ((with_reducible refine gate_dst (N := 2) rfl ?_); refine box_event ?hg (N := 2) ?hd (cs := #[.int .i64 a0_0, .int .i64 a0_1, .int .i64 a0_2, .int .i64 a0_3, .int .i64 a0_4, .int .i64 a0_5, .int .i64 a0_6, .int .i64 a0_7, .int .i64 a0_8, .int .i64 a0_9, .int .i64 a0_10, .int .u32 a0_11]) (t := 46) ?hr ?_; (case hd => rfl); (case hg => rfl); (case hr => first | (go_simp; done) | (go_simp; rfl)); intro gb127 hg w5 hbox hb; have n0_ := Aside0.mk (below_step (by repeat (first | (with_reducible first | exact HB.out | apply below_alloc | apply pw_below_drewN | apply below_drew1) | exact HB.out)) hb); have n1_ := Aside0.mk (hbox); have n2_ := Aside0.mk ((by rw [hg]; exact (below_size (by repeat (first | (with_reducible first | exact HB.out | apply below_alloc | apply pw_below_drewN | apply below_drew1) | exact HB.out))) : w.heap.size ≤ gb127)); have n3_ := Aside0.mk ((by rw [hg]; exact (below_size (by repeat (first | (with_reducible first | exact HB.out | apply below_alloc | apply pw_below_drewN | apply below_drew1) | exact HB.out))) : w.heap.size ≤ gb127)); clear HB; have HB := n0_; have BK127 := n1_; have GW127 := n2_; have GE127 := n3_; clear n0_ n1_ n2_ n3_; clear hb hbox hg; have hcz6_0 : w5.cell? ⟨gb127, 0, none⟩ = some (.int .i64 a0_0) := (blk_cell BK127.out 0).trans rfl; have hcz6_1 : w5.cell? ⟨gb127, 1, none⟩ = some (.int .i64 a0_1) := (blk_cell BK127.out 1).trans rfl; have hcz6_2 : w5.cell? ⟨gb127, 2, none⟩ = some (.int .i64 a0_2) := (blk_cell BK127.out 2).trans rfl; have hcz6_3 : w5.cell? ⟨gb127, 3, none⟩ = some (.int .i64 a0_3) := (blk_cell BK127.out 3).trans rfl; have hcz6_4 : w5.cell? ⟨gb127, 4, none⟩ = some (.int .i64 a0_4) := (blk_cell BK127.out 4).trans rfl; have hcz6_5 : w5.cell? ⟨gb127, 5, none⟩ = some (.int .i64 a0_5) := (blk_cell BK127.out 5).trans rfl; have hcz6_6 : w5.cell? ⟨gb127, 6, none⟩ = some (.int .i64 a0_6) := (blk_cell BK127.out 6).trans rfl; have hcz6_7 : w5.cell? ⟨gb127, 7, none⟩ = some (.int .i64 a0_7) := (blk_cell BK127.out 7).trans rfl; have hcz6_8 : w5.cell? ⟨gb127, 8, none⟩ = some (.int .i64 a0_8) := (blk_cell BK127.out 8).trans rfl; have hcz6_9 : w5.cell? ⟨gb127, 9, none⟩ = some (.int .i64 a0_9) := (blk_cell BK127.out 9).trans rfl; have hcz6_10 : w5.cell? ⟨gb127, 10, none⟩ = some (.int .i64 a0_10) := (blk_cell BK127.out 10).trans rfl; have hcz6_11 : w5.cell? ⟨gb127, 11, none⟩ = some (.int .u32 a0_11) := (blk_cell BK127.out 11).trans rfl; have hfz6_0 := blk_frozen BK127.out 0; have hfz6_1 := blk_frozen BK127.out 1; have hfz6_2 := blk_frozen BK127.out 2; have hfz6_3 := blk_frozen BK127.out 3; have hfz6_4 := blk_frozen BK127.out 4; have hfz6_5 := blk_frozen BK127.out 5; have hfz6_6 := blk_frozen BK127.out 6; have hfz6_7 := blk_frozen BK127.out 7; have hfz6_8 := blk_frozen BK127.out 8; have hfz6_9 := blk_frozen BK127.out 9; have hfz6_10 := blk_frozen BK127.out 10; have hfz6_11 := blk_frozen BK127.out 11) | ((with_reducible refine gate_callee (f := 44) rfl ?_); refine goesL_ (some 20) rfl rfl Tryd.func44 (by kernel_rfl) rfl #[.agg #[.int .i64 a0_0, .int .i64 a0_1]] rfl (by (try simp only [List.map_toArray, List.map_cons, List.map_nil]); first | done | rfl | (simp only [List.length_drop, List.length_take]; rfl)) ?_; (with_reducible refine (dead_Far.calls a0_0 a0_1 t128 _ A4.out).mono ?_); rintro e w7 ⟨rfl, hb⟩; refine ⟨_, rfl, ?_⟩; have n0_ := Aside0.mk (blk_below (g := gb127) (o := .cells #[.int .i64 a0_0, .int .i64 a0_1, .int .i64 a0_2, .int .i64 a0_3, .int .i64 a0_4, .int .i64 a0_5, .int .i64 a0_6, .int .i64 a0_7, .int .i64 a0_8, .int .i64 a0_9, .int .i64 a0_10, .int .u32 a0_11] 46 (0, 0)) (by (with_reducible repeat (first | refine blk_drewN ?_ _ | refine blk_drew ?_ | refine blk_alloc ?_ _)); exact BK127.out) hb); have n1_ := Aside0.mk (below_step (by repeat (first | (with_reducible first | exact HB.out | apply below_alloc | apply pw_below_drewN | apply below_drew1 | refine below_set ?_ GE127.out) | exact HB.out)) hb); clear BK127; clear HB; have BK127 := n0_; have HB := n1_; clear n0_ n1_; (try clear hb); (try clear hb2); (try clear hk); (try clear hi)))
    go_ret
    exact ⟨by first | rfl | (simp [errW_none, errW_some] <;> rfl) | (simp [*, errW_none, errW_some] <;> rfl), by repeat (first | (with_reducible first | exact HB.out | apply below_alloc | apply pw_below_drewN | apply below_drew1 | refine below_set ?_ GE127.out) | exact HB.out)⟩
  · rw [if_neg c3] at H
    have c3b0 : (a1 == 0) = false := beq_eq_false_iff_ne.mpr c3
    have c3b1 : (a1 != 0) = true := bne_iff_ne.mpr c3
    by_cases c8 : a1 = 1
    · rw [if_pos c8] at H
      have c8b0 : (a1 == 1) = true := beq_iff_eq.mpr c8
      have c8b1 : (a1 != 1) = false := bne_eq_false_iff_eq.mpr c8
      clear c8
      replace H := Option.bind_eq_some_iff.mp H
      obtain ⟨t135, A90, H⟩ := H
      replace H : (if t135 = true then ((config_within.f a0_4 1 1048576).bind fun t136 => (some t136)) else (some false)) = some r := H
      have A9 := Aside0.mk A90
      clear A90
      by_cases c10 : t135 = true
      · subst c10
        have H1 : ((config_within.f a0_4 1 1048576).bind fun t136 => (some t136)) = some r := by rw [if_pos rfl] at H; exact H
        clear H
        have H := H1
        clear H1
        replace H := Option.bind_eq_some_iff.mp H
        obtain ⟨t136, A110, H⟩ := H
        replace H : (some t136) = some r := H
        have A11 := Aside0.mk A110
        clear A110
        obtain rfl := Option.some.inj H
        go_enter Tryd.func36, Tryd.ntmps36
        go_wp2_with (first | ((with_reducible refine gate_dst (N := 2) rfl ?_); refine box_event ?hg (N := 2) ?hd (cs := #[.int .i64 a0_0, .int .i64 a0_1, .int .i64 a0_2, .int .i64 a0_3, .int .i64 a0_4, .int .i64 a0_5, .int .i64 a0_6, .int .i64 a0_7, .int .i64 a0_8, .int .i64 a0_9, .int .i64 a0_10, .int .u32 a0_11]) (t := 46) ?hr ?_; (case hd => rfl); (case hg => rfl); (case hr => first | (go_simp; done) | (go_simp; rfl)); intro gb127 hg w12 hbox hb; have n0_ := Aside0.mk (below_step (by repeat (first | (with_reducible first | exact HB.out | apply below_alloc | apply pw_below_drewN | apply below_drew1) | exact HB.out)) hb); have n1_ := Aside0.mk (hbox); have n2_ := Aside0.mk ((by rw [hg]; exact (below_size (by repeat (first | (with_reducible first | exact HB.out | apply below_alloc | apply pw_below_drewN | apply below_drew1) | exact HB.out))) : w.heap.size ≤ gb127)); have n3_ := Aside0.mk ((by rw [hg]; exact (below_size (by repeat (first | (with_reducible first | exact HB.out | apply below_alloc | apply pw_below_drewN | apply below_drew1) | exact HB.out))) : w.heap.size ≤ gb127)); clear HB; have HB := n0_; have BK127 := n1_; have GW127 := n2_; have GE127 := n3_; clear n0_ n1_ n2_ n3_; clear hb hbox hg; have hcz13_0 : w12.cell? ⟨gb127, 0, none⟩ = some (.int .i64 a0_0) := (blk_cell BK127.out 0).trans rfl; have hcz13_1 : w12.cell? ⟨gb127, 1, none⟩ = some (.int .i64 a0_1) := (blk_cell BK127.out 1).trans rfl; have hcz13_2 : w12.cell? ⟨gb127, 2, none⟩ = some (.int .i64 a0_2) := (blk_cell BK127.out 2).trans rfl; have hcz13_3 : w12.cell? ⟨gb127, 3, none⟩ = some (.int .i64 a0_3) := (blk_cell BK127.out 3).trans rfl; have hcz13_4 : w12.cell? ⟨gb127, 4, none⟩ = some (.int .i64 a0_4) := (blk_cell BK127.out 4).trans rfl; have hcz13_5 : w12.cell? ⟨gb127, 5, none⟩ = some (.int .i64 a0_5) := (blk_cell BK127.out 5).trans rfl; have hcz13_6 : w12.cell? ⟨gb127, 6, none⟩ = some (.int .i64 a0_6) := (blk_cell BK127.out 6).trans rfl; have hcz13_7 : w12.cell? ⟨gb127, 7, none⟩ = some (.int .i64 a0_7) := (blk_cell BK127.out 7).trans rfl; have hcz13_8 : w12.cell? ⟨gb127, 8, none⟩ = some (.int .i64 a0_8) := (blk_cell BK127.out 8).trans rfl; have hcz13_9 : w12.cell? ⟨gb127, 9, none⟩ = some (.int .i64 a0_9) := (blk_cell BK127.out 9).trans rfl; have hcz13_10 : w12.cell? ⟨gb127, 10, none⟩ = some (.int .i64 a0_10) := (blk_cell BK127.out 10).trans rfl; have hcz13_11 : w12.cell? ⟨gb127, 11, none⟩ = some (.int .u32 a0_11) := (blk_cell BK127.out 11).trans rfl; have hfz13_0 := blk_frozen BK127.out 0; have hfz13_1 := blk_frozen BK127.out 1; have hfz13_2 := blk_frozen BK127.out 2; have hfz13_3 := blk_frozen BK127.out 3; have hfz13_4 := blk_frozen BK127.out 4; have hfz13_5 := blk_frozen BK127.out 5; have hfz13_6 := blk_frozen BK127.out 6; have hfz13_7 := blk_frozen BK127.out 7; have hfz13_8 := blk_frozen BK127.out 8; have hfz13_9 := blk_frozen BK127.out 9; have hfz13_10 := blk_frozen BK127.out 10; have hfz13_11 := blk_frozen BK127.out 11) | ((with_reducible refine gate_callee (f := 45) rfl ?_); refine goesL_ (some 24) rfl rfl Tryd.func45 (by kernel_rfl) rfl #[.int .i64 a0_2, .int .i64 2, .int .i64 1048576] rfl (by (try simp only [List.map_toArray, List.map_cons, List.map_nil]); first | done | rfl | (simp only [List.length_drop, List.length_take]; rfl)) ?_; (with_reducible refine (config_within.calls a0_2 2 1048576 true _ A9.out).mono ?_); rintro e w' ⟨rfl, ⟨nd, rfl⟩⟩; refine ⟨_, rfl, ?_⟩) | (go_at_call 45; (with_reducible refine (config_within.calls a0_4 1 1048576 t136 _ A11.out).mono ?_); rintro e w' ⟨rfl, ⟨nd, rfl⟩⟩))
        go_ret
        exact ⟨by first | rfl | (simp [errW_none, errW_some] <;> rfl) | (simp [*, errW_none, errW_some] <;> rfl), by repeat (first | (with_reducible first | exact HB.out | apply below_alloc | apply pw_below_drewN | apply below_drew1 | refine below_set ?_ GE127.out) | exact HB.out)⟩
      · replace c10 := Bool.eq_false_iff.mpr c10
        subst c10
        have H1 : (some false) = some r := by rw [if_neg (show ¬ (false = true) by decide)] at H; exact H
        clear H
        have H := H1
        clear H1
        obtain rfl := Option.some.inj H
        go_enter Tryd.func36, Tryd.ntmps36
        go_wp2_with (first | ((with_reducible refine gate_dst (N := 2) rfl ?_); refine box_event ?hg (N := 2) ?hd (cs := #[.int .i64 a0_0, .int .i64 a0_1, .int .i64 a0_2, .int .i64 a0_3, .int .i64 a0_4, .int .i64 a0_5, .int .i64 a0_6, .int .i64 a0_7, .int .i64 a0_8, .int .i64 a0_9, .int .i64 a0_10, .int .u32 a0_11]) (t := 46) ?hr ?_; (case hd => rfl); (case hg => rfl); (case hr => first | (go_simp; done) | (go_simp; rfl)); intro gb127 hg w14 hbox hb; have n0_ := Aside0.mk (below_step (by repeat (first | (with_reducible first | exact HB.out | apply below_alloc | apply pw_below_drewN | apply below_drew1) | exact HB.out)) hb); have n1_ := Aside0.mk (hbox); have n2_ := Aside0.mk ((by rw [hg]; exact (below_size (by repeat (first | (with_reducible first | exact HB.out | apply below_alloc | apply pw_below_drewN | apply below_drew1) | exact HB.out))) : w.heap.size ≤ gb127)); have n3_ := Aside0.mk ((by rw [hg]; exact (below_size (by repeat (first | (with_reducible first | exact HB.out | apply below_alloc | apply pw_below_drewN | apply below_drew1) | exact HB.out))) : w.heap.size ≤ gb127)); clear HB; have HB := n0_; have BK127 := n1_; have GW127 := n2_; have GE127 := n3_; clear n0_ n1_ n2_ n3_; clear hb hbox hg; have hcz15_0 : w14.cell? ⟨gb127, 0, none⟩ = some (.int .i64 a0_0) := (blk_cell BK127.out 0).trans rfl; have hcz15_1 : w14.cell? ⟨gb127, 1, none⟩ = some (.int .i64 a0_1) := (blk_cell BK127.out 1).trans rfl; have hcz15_2 : w14.cell? ⟨gb127, 2, none⟩ = some (.int .i64 a0_2) := (blk_cell BK127.out 2).trans rfl; have hcz15_3 : w14.cell? ⟨gb127, 3, none⟩ = some (.int .i64 a0_3) := (blk_cell BK127.out 3).trans rfl; have hcz15_4 : w14.cell? ⟨gb127, 4, none⟩ = some (.int .i64 a0_4) := (blk_cell BK127.out 4).trans rfl; have hcz15_5 : w14.cell? ⟨gb127, 5, none⟩ = some (.int .i64 a0_5) := (blk_cell BK127.out 5).trans rfl; have hcz15_6 : w14.cell? ⟨gb127, 6, none⟩ = some (.int .i64 a0_6) := (blk_cell BK127.out 6).trans rfl; have hcz15_7 : w14.cell? ⟨gb127, 7, none⟩ = some (.int .i64 a0_7) := (blk_cell BK127.out 7).trans rfl; have hcz15_8 : w14.cell? ⟨gb127, 8, none⟩ = some (.int .i64 a0_8) := (blk_cell BK127.out 8).trans rfl; have hcz15_9 : w14.cell? ⟨gb127, 9, none⟩ = some (.int .i64 a0_9) := (blk_cell BK127.out 9).trans rfl; have hcz15_10 : w14.cell? ⟨gb127, 10, none⟩ = some (.int .i64 a0_10) := (blk_cell BK127.out 10).trans rfl; have hcz15_11 : w14.cell? ⟨gb127, 11, none⟩ = some (.int .u32 a0_11) := (blk_cell BK127.out 11).trans rfl; have hfz15_0 := blk_frozen BK127.out 0; have hfz15_1 := blk_frozen BK127.out 1; have hfz15_2 := blk_frozen BK127.out 2; have hfz15_3 := blk_frozen BK127.out 3; have hfz15_4 := blk_frozen BK127.out 4; have hfz15_5 := blk_frozen BK127.out 5; have hfz15_6 := blk_frozen BK127.out 6; have hfz15_7 := blk_frozen BK127.out 7; have hfz15_8 := blk_frozen BK127.out 8; have hfz15_9 := blk_frozen BK127.out 9; have hfz15_10 := blk_frozen BK127.out 10; have hfz15_11 := blk_frozen BK127.out 11) | ((with_reducible refine gate_callee (f := 45) rfl ?_); refine goesL_ (some 24) rfl rfl Tryd.func45 (by kernel_rfl) rfl #[.int .i64 a0_2, .int .i64 2, .int .i64 1048576] rfl (by (try simp only [List.map_toArray, List.map_cons, List.map_nil]); first | done | rfl | (simp only [List.length_drop, List.length_take]; rfl)) ?_; (with_reducible refine (config_within.calls a0_2 2 1048576 false _ A9.out).mono ?_); rintro e w' ⟨rfl, ⟨nd, rfl⟩⟩; refine ⟨_, rfl, ?_⟩))
        go_ret
        exact ⟨by first | rfl | (simp [errW_none, errW_some] <;> rfl) | (simp [*, errW_none, errW_some] <;> rfl), by repeat (first | (with_reducible first | exact HB.out | apply below_alloc | apply pw_below_drewN | apply below_drew1 | refine below_set ?_ GE127.out) | exact HB.out)⟩
    · rw [if_neg c8] at H
      have c8b0 : (a1 == 1) = false := beq_eq_false_iff_ne.mpr c8
      have c8b1 : (a1 != 1) = true := bne_iff_ne.mpr c8
      by_cases c16 : a1 = 2
      · rw [if_pos c16] at H
        have c16b0 : (a1 == 2) = true := beq_iff_eq.mpr c16
        have c16b1 : (a1 != 2) = false := bne_eq_false_iff_eq.mpr c16
        clear c16
        replace H := Option.bind_eq_some_iff.mp H
        obtain ⟨t129, A170, H⟩ := H
        replace H : (if t129 = true then ((config_within.f a0_5 1 4096).bind fun t130 => (some t130)) else (some false)) = some r := H
        have A17 := Aside0.mk A170
        clear A170
        by_cases c18 : t129 = true
        · subst c18
          have H1 : ((config_within.f a0_5 1 4096).bind fun t130 => (some t130)) = some r := by rw [if_pos rfl] at H; exact H
          clear H
          have H := H1
          clear H1
          replace H := Option.bind_eq_some_iff.mp H
          obtain ⟨t130, A190, H⟩ := H
          replace H : (some t130) = some r := H
          have A19 := Aside0.mk A190
          clear A190
          obtain rfl := Option.some.inj H
          go_enter Tryd.func36, Tryd.ntmps36
          go_wp2_with (first | ((with_reducible refine gate_dst (N := 2) rfl ?_); refine box_event ?hg (N := 2) ?hd (cs := #[.int .i64 a0_0, .int .i64 a0_1, .int .i64 a0_2, .int .i64 a0_3, .int .i64 a0_4, .int .i64 a0_5, .int .i64 a0_6, .int .i64 a0_7, .int .i64 a0_8, .int .i64 a0_9, .int .i64 a0_10, .int .u32 a0_11]) (t := 46) ?hr ?_; (case hd => rfl); (case hg => rfl); (case hr => first | (go_simp; done) | (go_simp; rfl)); intro gb127 hg w20 hbox hb; have n0_ := Aside0.mk (below_step (by repeat (first | (with_reducible first | exact HB.out | apply below_alloc | apply pw_below_drewN | apply below_drew1) | exact HB.out)) hb); have n1_ := Aside0.mk (hbox); have n2_ := Aside0.mk ((by rw [hg]; exact (below_size (by repeat (first | (with_reducible first | exact HB.out | apply below_alloc | apply pw_below_drewN | apply below_drew1) | exact HB.out))) : w.heap.size ≤ gb127)); have n3_ := Aside0.mk ((by rw [hg]; exact (below_size (by repeat (first | (with_reducible first | exact HB.out | apply below_alloc | apply pw_below_drewN | apply below_drew1) | exact HB.out))) : w.heap.size ≤ gb127)); clear HB; have HB := n0_; have BK127 := n1_; have GW127 := n2_; have GE127 := n3_; clear n0_ n1_ n2_ n3_; clear hb hbox hg; have hcz21_0 : w20.cell? ⟨gb127, 0, none⟩ = some (.int .i64 a0_0) := (blk_cell BK127.out 0).trans rfl; have hcz21_1 : w20.cell? ⟨gb127, 1, none⟩ = some (.int .i64 a0_1) := (blk_cell BK127.out 1).trans rfl; have hcz21_2 : w20.cell? ⟨gb127, 2, none⟩ = some (.int .i64 a0_2) := (blk_cell BK127.out 2).trans rfl; have hcz21_3 : w20.cell? ⟨gb127, 3, none⟩ = some (.int .i64 a0_3) := (blk_cell BK127.out 3).trans rfl; have hcz21_4 : w20.cell? ⟨gb127, 4, none⟩ = some (.int .i64 a0_4) := (blk_cell BK127.out 4).trans rfl; have hcz21_5 : w20.cell? ⟨gb127, 5, none⟩ = some (.int .i64 a0_5) := (blk_cell BK127.out 5).trans rfl; have hcz21_6 : w20.cell? ⟨gb127, 6, none⟩ = some (.int .i64 a0_6) := (blk_cell BK127.out 6).trans rfl; have hcz21_7 : w20.cell? ⟨gb127, 7, none⟩ = some (.int .i64 a0_7) := (blk_cell BK127.out 7).trans rfl; have hcz21_8 : w20.cell? ⟨gb127, 8, none⟩ = some (.int .i64 a0_8) := (blk_cell BK127.out 8).trans rfl; have hcz21_9 : w20.cell? ⟨gb127, 9, none⟩ = some (.int .i64 a0_9) := (blk_cell BK127.out 9).trans rfl; have hcz21_10 : w20.cell? ⟨gb127, 10, none⟩ = some (.int .i64 a0_10) := (blk_cell BK127.out 10).trans rfl; have hcz21_11 : w20.cell? ⟨gb127, 11, none⟩ = some (.int .u32 a0_11) := (blk_cell BK127.out 11).trans rfl; have hfz21_0 := blk_frozen BK127.out 0; have hfz21_1 := blk_frozen BK127.out 1; have hfz21_2 := blk_frozen BK127.out 2; have hfz21_3 := blk_frozen BK127.out 3; have hfz21_4 := blk_frozen BK127.out 4; have hfz21_5 := blk_frozen BK127.out 5; have hfz21_6 := blk_frozen BK127.out 6; have hfz21_7 := blk_frozen BK127.out 7; have hfz21_8 := blk_frozen BK127.out 8; have hfz21_9 := blk_frozen BK127.out 9; have hfz21_10 := blk_frozen BK127.out 10; have hfz21_11 := blk_frozen BK127.out 11) | ((with_reducible refine gate_callee (f := 45) rfl ?_); refine goesL_ (some 32) rfl rfl Tryd.func45 (by kernel_rfl) rfl #[.int .i64 a0_3, .int .i64 1, .int .i64 1024] rfl (by (try simp only [List.map_toArray, List.map_cons, List.map_nil]); first | done | rfl | (simp only [List.length_drop, List.length_take]; rfl)) ?_; (with_reducible refine (config_within.calls a0_3 1 1024 true _ A17.out).mono ?_); rintro e w' ⟨rfl, ⟨nd, rfl⟩⟩; refine ⟨_, rfl, ?_⟩) | (go_at_call 45; (with_reducible refine (config_within.calls a0_5 1 4096 t130 _ A19.out).mono ?_); rintro e w' ⟨rfl, ⟨nd, rfl⟩⟩))
          go_ret
          exact ⟨by first | rfl | (simp [errW_none, errW_some] <;> rfl) | (simp [*, errW_none, errW_some] <;> rfl), by repeat (first | (with_reducible first | exact HB.out | apply below_alloc | apply pw_below_drewN | apply below_drew1 | refine below_set ?_ GE127.out) | exact HB.out)⟩
        · replace c18 := Bool.eq_false_iff.mpr c18
          subst c18
          have H1 : (some false) = some r := by rw [if_neg (show ¬ (false = true) by decide)] at H; exact H
          clear H
          have H := H1
          clear H1
          obtain rfl := Option.some.inj H
          go_enter Tryd.func36, Tryd.ntmps36
          go_wp2_with (first | ((with_reducible refine gate_dst (N := 2) rfl ?_); refine box_event ?hg (N := 2) ?hd (cs := #[.int .i64 a0_0, .int .i64 a0_1, .int .i64 a0_2, .int .i64 a0_3, .int .i64 a0_4, .int .i64 a0_5, .int .i64 a0_6, .int .i64 a0_7, .int .i64 a0_8, .int .i64 a0_9, .int .i64 a0_10, .int .u32 a0_11]) (t := 46) ?hr ?_; (case hd => rfl); (case hg => rfl); (case hr => first | (go_simp; done) | (go_simp; rfl)); intro gb127 hg w22 hbox hb; have n0_ := Aside0.mk (below_step (by repeat (first | (with_reducible first | exact HB.out | apply below_alloc | apply pw_below_drewN | apply below_drew1) | exact HB.out)) hb); have n1_ := Aside0.mk (hbox); have n2_ := Aside0.mk ((by rw [hg]; exact (below_size (by repeat (first | (with_reducible first | exact HB.out | apply below_alloc | apply pw_below_drewN | apply below_drew1) | exact HB.out))) : w.heap.size ≤ gb127)); have n3_ := Aside0.mk ((by rw [hg]; exact (below_size (by repeat (first | (with_reducible first | exact HB.out | apply below_alloc | apply pw_below_drewN | apply below_drew1) | exact HB.out))) : w.heap.size ≤ gb127)); clear HB; have HB := n0_; have BK127 := n1_; have GW127 := n2_; have GE127 := n3_; clear n0_ n1_ n2_ n3_; clear hb hbox hg; have hcz23_0 : w22.cell? ⟨gb127, 0, none⟩ = some (.int .i64 a0_0) := (blk_cell BK127.out 0).trans rfl; have hcz23_1 : w22.cell? ⟨gb127, 1, none⟩ = some (.int .i64 a0_1) := (blk_cell BK127.out 1).trans rfl; have hcz23_2 : w22.cell? ⟨gb127, 2, none⟩ = some (.int .i64 a0_2) := (blk_cell BK127.out 2).trans rfl; have hcz23_3 : w22.cell? ⟨gb127, 3, none⟩ = some (.int .i64 a0_3) := (blk_cell BK127.out 3).trans rfl; have hcz23_4 : w22.cell? ⟨gb127, 4, none⟩ = some (.int .i64 a0_4) := (blk_cell BK127.out 4).trans rfl; have hcz23_5 : w22.cell? ⟨gb127, 5, none⟩ = some (.int .i64 a0_5) := (blk_cell BK127.out 5).trans rfl; have hcz23_6 : w22.cell? ⟨gb127, 6, none⟩ = some (.int .i64 a0_6) := (blk_cell BK127.out 6).trans rfl; have hcz23_7 : w22.cell? ⟨gb127, 7, none⟩ = some (.int .i64 a0_7) := (blk_cell BK127.out 7).trans rfl; have hcz23_8 : w22.cell? ⟨gb127, 8, none⟩ = some (.int .i64 a0_8) := (blk_cell BK127.out 8).trans rfl; have hcz23_9 : w22.cell? ⟨gb127, 9, none⟩ = some (.int .i64 a0_9) := (blk_cell BK127.out 9).trans rfl; have hcz23_10 : w22.cell? ⟨gb127, 10, none⟩ = some (.int .i64 a0_10) := (blk_cell BK127.out 10).trans rfl; have hcz23_11 : w22.cell? ⟨gb127, 11, none⟩ = some (.int .u32 a0_11) := (blk_cell BK127.out 11).trans rfl; have hfz23_0 := blk_frozen BK127.out 0; have hfz23_1 := blk_frozen BK127.out 1; have hfz23_2 := blk_frozen BK127.out 2; have hfz23_3 := blk_frozen BK127.out 3; have hfz23_4 := blk_frozen BK127.out 4; have hfz23_5 := blk_frozen BK127.out 5; have hfz23_6 := blk_frozen BK127.out 6; have hfz23_7 := blk_frozen BK127.out 7; have hfz23_8 := blk_frozen BK127.out 8; have hfz23_9 := blk_frozen BK127.out 9; have hfz23_10 := blk_frozen BK127.out 10; have hfz23_11 := blk_frozen BK127.out 11) | ((with_reducible refine gate_callee (f := 45) rfl ?_); refine goesL_ (some 32) rfl rfl Tryd.func45 (by kernel_rfl) rfl #[.int .i64 a0_3, .int .i64 1, .int .i64 1024] rfl (by (try simp only [List.map_toArray, List.map_cons, List.map_nil]); first | done | rfl | (simp only [List.length_drop, List.length_take]; rfl)) ?_; (with_reducible refine (config_within.calls a0_3 1 1024 false _ A17.out).mono ?_); rintro e w' ⟨rfl, ⟨nd, rfl⟩⟩; refine ⟨_, rfl, ?_⟩))
          go_ret
          exact ⟨by first | rfl | (simp [errW_none, errW_some] <;> rfl) | (simp [*, errW_none, errW_some] <;> rfl), by repeat (first | (with_reducible first | exact HB.out | apply below_alloc | apply pw_below_drewN | apply below_drew1 | refine below_set ?_ GE127.out) | exact HB.out)⟩
      · rw [if_neg c16] at H
        have c16b0 : (a1 == 2) = false := beq_eq_false_iff_ne.mpr c16
        have c16b1 : (a1 != 2) = true := bne_iff_ne.mpr c16
        by_cases c24 : a1 = 3
        · rw [if_pos c24] at H
          have c24b0 : (a1 == 3) = true := beq_iff_eq.mpr c24
          have c24b1 : (a1 != 3) = false := bne_eq_false_iff_eq.mpr c24
          clear c24
          replace H := Option.bind_eq_some_iff.mp H
          obtain ⟨t131, A250, H⟩ := H
          replace H : (some t131) = some r := H
          have A25 := Aside0.mk A250
          clear A250
          obtain rfl := Option.some.inj H
          go_enter Tryd.func36, Tryd.ntmps36
          go_wp2_with (first | ((with_reducible refine gate_dst (N := 2) rfl ?_); refine box_event ?hg (N := 2) ?hd (cs := #[.int .i64 a0_0, .int .i64 a0_1, .int .i64 a0_2, .int .i64 a0_3, .int .i64 a0_4, .int .i64 a0_5, .int .i64 a0_6, .int .i64 a0_7, .int .i64 a0_8, .int .i64 a0_9, .int .i64 a0_10, .int .u32 a0_11]) (t := 46) ?hr ?_; (case hd => rfl); (case hg => rfl); (case hr => first | (go_simp; done) | (go_simp; rfl)); intro gb127 hg w26 hbox hb; have n0_ := Aside0.mk (below_step (by repeat (first | (with_reducible first | exact HB.out | apply below_alloc | apply pw_below_drewN | apply below_drew1) | exact HB.out)) hb); have n1_ := Aside0.mk (hbox); have n2_ := Aside0.mk ((by rw [hg]; exact (below_size (by repeat (first | (with_reducible first | exact HB.out | apply below_alloc | apply pw_below_drewN | apply below_drew1) | exact HB.out))) : w.heap.size ≤ gb127)); have n3_ := Aside0.mk ((by rw [hg]; exact (below_size (by repeat (first | (with_reducible first | exact HB.out | apply below_alloc | apply pw_below_drewN | apply below_drew1) | exact HB.out))) : w.heap.size ≤ gb127)); clear HB; have HB := n0_; have BK127 := n1_; have GW127 := n2_; have GE127 := n3_; clear n0_ n1_ n2_ n3_; clear hb hbox hg; have hcz27_0 : w26.cell? ⟨gb127, 0, none⟩ = some (.int .i64 a0_0) := (blk_cell BK127.out 0).trans rfl; have hcz27_1 : w26.cell? ⟨gb127, 1, none⟩ = some (.int .i64 a0_1) := (blk_cell BK127.out 1).trans rfl; have hcz27_2 : w26.cell? ⟨gb127, 2, none⟩ = some (.int .i64 a0_2) := (blk_cell BK127.out 2).trans rfl; have hcz27_3 : w26.cell? ⟨gb127, 3, none⟩ = some (.int .i64 a0_3) := (blk_cell BK127.out 3).trans rfl; have hcz27_4 : w26.cell? ⟨gb127, 4, none⟩ = some (.int .i64 a0_4) := (blk_cell BK127.out 4).trans rfl; have hcz27_5 : w26.cell? ⟨gb127, 5, none⟩ = some (.int .i64 a0_5) := (blk_cell BK127.out 5).trans rfl; have hcz27_6 : w26.cell? ⟨gb127, 6, none⟩ = some (.int .i64 a0_6) := (blk_cell BK127.out 6).trans rfl; have hcz27_7 : w26.cell? ⟨gb127, 7, none⟩ = some (.int .i64 a0_7) := (blk_cell BK127.out 7).trans rfl; have hcz27_8 : w26.cell? ⟨gb127, 8, none⟩ = some (.int .i64 a0_8) := (blk_cell BK127.out 8).trans rfl; have hcz27_9 : w26.cell? ⟨gb127, 9, none⟩ = some (.int .i64 a0_9) := (blk_cell BK127.out 9).trans rfl; have hcz27_10 : w26.cell? ⟨gb127, 10, none⟩ = some (.int .i64 a0_10) := (blk_cell BK127.out 10).trans rfl; have hcz27_11 : w26.cell? ⟨gb127, 11, none⟩ = some (.int .u32 a0_11) := (blk_cell BK127.out 11).trans rfl; have hfz27_0 := blk_frozen BK127.out 0; have hfz27_1 := blk_frozen BK127.out 1; have hfz27_2 := blk_frozen BK127.out 2; have hfz27_3 := blk_frozen BK127.out 3; have hfz27_4 := blk_frozen BK127.out 4; have hfz27_5 := blk_frozen BK127.out 5; have hfz27_6 := blk_frozen BK127.out 6; have hfz27_7 := blk_frozen BK127.out 7; have hfz27_8 := blk_frozen BK127.out 8; have hfz27_9 := blk_frozen BK127.out 9; have hfz27_10 := blk_frozen BK127.out 10; have hfz27_11 := blk_frozen BK127.out 11) | ((with_reducible refine gate_callee (f := 45) rfl ?_); refine goesL_ (some 43) rfl rfl Tryd.func45 (by kernel_rfl) rfl #[.int .i64 a0_6, .int .i64 1, .int .i64 (wrap64 (a0_2 - 1))] rfl (by (try simp only [List.map_toArray, List.map_cons, List.map_nil]); first | done | rfl | (simp only [List.length_drop, List.length_take]; rfl)) ?_; (with_reducible refine (config_within.calls a0_6 1 (wrap64 (a0_2 - 1)) t131 _ A25.out).mono ?_); rintro e w' ⟨rfl, ⟨nd, rfl⟩⟩; refine ⟨_, rfl, ?_⟩))
          go_ret
          exact ⟨by first | rfl | (simp [errW_none, errW_some] <;> rfl) | (simp [*, errW_none, errW_some] <;> rfl), by repeat (first | (with_reducible first | exact HB.out | apply below_alloc | apply pw_below_drewN | apply below_drew1 | refine below_set ?_ GE127.out) | exact HB.out)⟩
        · rw [if_neg c24] at H
          have c24b0 : (a1 == 3) = false := beq_eq_false_iff_ne.mpr c24
          have c24b1 : (a1 != 3) = true := bne_iff_ne.mpr c24
          by_cases c28 : a1 = 4
          · rw [if_pos c28] at H
            have c28b0 : (a1 == 4) = true := beq_iff_eq.mpr c28
            have c28b1 : (a1 != 4) = false := bne_eq_false_iff_eq.mpr c28
            clear c28
            have HC29 := Aside0.mk H
            clear H
            go_enter Tryd.func36, Tryd.ntmps36
            go_upto_region 12 with (first | ((with_reducible refine gate_dst (N := 2) rfl ?_); refine box_event ?hg (N := 2) ?hd (cs := #[.int .i64 a0_0, .int .i64 a0_1, .int .i64 a0_2, .int .i64 a0_3, .int .i64 a0_4, .int .i64 a0_5, .int .i64 a0_6, .int .i64 a0_7, .int .i64 a0_8, .int .i64 a0_9, .int .i64 a0_10, .int .u32 a0_11]) (t := 46) ?hr ?_; (case hd => rfl); (case hg => rfl); (case hr => first | (go_simp; done) | (go_simp; rfl)); intro gb127 hg w30 hbox hb; have n0_ := Aside0.mk (below_step (by repeat (first | (with_reducible first | exact HB.out | apply below_alloc | apply pw_below_drewN | apply below_drew1) | exact HB.out)) hb); have n1_ := Aside0.mk (hbox); have n2_ := Aside0.mk ((by rw [hg]; exact (below_size (by repeat (first | (with_reducible first | exact HB.out | apply below_alloc | apply pw_below_drewN | apply below_drew1) | exact HB.out))) : w.heap.size ≤ gb127)); have n3_ := Aside0.mk ((by rw [hg]; exact (below_size (by repeat (first | (with_reducible first | exact HB.out | apply below_alloc | apply pw_below_drewN | apply below_drew1) | exact HB.out))) : w.heap.size ≤ gb127)); clear HB; have HB := n0_; have BK127 := n1_; have GW127 := n2_; have GE127 := n3_; clear n0_ n1_ n2_ n3_; clear hb hbox hg))
            (try simp only [Act.put, List.setIfInBounds_toArray, List.set_cons_zero, List.set_cons_succ])
            go_cut [55] (fun v55 wc => ∃ (kq : Nat) (x55_28 : Bool), v55 = .bool x55_28 ∧ Aside0 (config_part.j0 kq x55_28 a0_0 a0_1 a0_2 a0_3 a0_4 a0_5 a0_6 a0_7 a0_8 a0_9 a0_10 a0_11 = some r) ∧ Aside0 (kq ≤ k) ∧ Aside0 (wc.heap[gb127]? = some (.cells #[.int .i64 a0_0, .int .i64 a0_1, .int .i64 a0_2, .int .i64 a0_3, .int .i64 a0_4, .int .i64 a0_5, .int .i64 a0_6, .int .i64 a0_7, .int .i64 a0_8, .int .i64 a0_9, .int .i64 a0_10, .int .u32 a0_11] 46 (0, 0))) ∧ Aside0 (Below w.heap.size w wc))
            case first =>
              have H := HC29.out
              clear HC29
              by_cases c31 : a0_7 ≤ a0_2
              · rw [if_pos c31] at H
                have c31b0 : decide (a0_7 ≤ a0_2) = true := decide_eq_true c31
                clear c31
                (first | rw [c31b0] | (simp only [i64_w, i32_w]; rw [c31b0]) | skip)
                have H' := Aside0.mk H
                clear H
                have hcz32_0 : w30.cell? ⟨gb127, 0, none⟩ = some (.int .i64 a0_0) := (blk_cell BK127.out 0).trans rfl
                have hcz32_1 : w30.cell? ⟨gb127, 1, none⟩ = some (.int .i64 a0_1) := (blk_cell BK127.out 1).trans rfl
                have hcz32_2 : w30.cell? ⟨gb127, 2, none⟩ = some (.int .i64 a0_2) := (blk_cell BK127.out 2).trans rfl
                have hcz32_3 : w30.cell? ⟨gb127, 3, none⟩ = some (.int .i64 a0_3) := (blk_cell BK127.out 3).trans rfl
                have hcz32_4 : w30.cell? ⟨gb127, 4, none⟩ = some (.int .i64 a0_4) := (blk_cell BK127.out 4).trans rfl
                have hcz32_5 : w30.cell? ⟨gb127, 5, none⟩ = some (.int .i64 a0_5) := (blk_cell BK127.out 5).trans rfl
                have hcz32_6 : w30.cell? ⟨gb127, 6, none⟩ = some (.int .i64 a0_6) := (blk_cell BK127.out 6).trans rfl
                have hcz32_7 : w30.cell? ⟨gb127, 7, none⟩ = some (.int .i64 a0_7) := (blk_cell BK127.out 7).trans rfl
                have hcz32_8 : w30.cell? ⟨gb127, 8, none⟩ = some (.int .i64 a0_8) := (blk_cell BK127.out 8).trans rfl
                have hcz32_9 : w30.cell? ⟨gb127, 9, none⟩ = some (.int .i64 a0_9) := (blk_cell BK127.out 9).trans rfl
                have hcz32_10 : w30.cell? ⟨gb127, 10, none⟩ = some (.int .i64 a0_10) := (blk_cell BK127.out 10).trans rfl
                have hcz32_11 : w30.cell? ⟨gb127, 11, none⟩ = some (.int .u32 a0_11) := (blk_cell BK127.out 11).trans rfl
                have hfz32_0 := blk_frozen BK127.out 0
                have hfz32_1 := blk_frozen BK127.out 1
                have hfz32_2 := blk_frozen BK127.out 2
                have hfz32_3 := blk_frozen BK127.out 3
                have hfz32_4 := blk_frozen BK127.out 4
                have hfz32_5 := blk_frozen BK127.out 5
                have hfz32_6 := blk_frozen BK127.out 6
                have hfz32_7 := blk_frozen BK127.out 7
                have hfz32_8 := blk_frozen BK127.out 8
                have hfz32_9 := blk_frozen BK127.out 9
                have hfz32_10 := blk_frozen BK127.out 10
                have hfz32_11 := blk_frozen BK127.out 11
                go_wp2
                go_meet
                case rel => exact ⟨_, (true), (by first | rfl | (simp; done) | (simp [*]; done) | (simp [nb1_, nb2_]; done)), H', ⟨by first | omega | exact Nat.le_refl _⟩, ⟨by (with_reducible repeat (first | refine blk_drewN ?_ _ | refine blk_drew ?_ | refine blk_alloc ?_ _)); exact BK127.out⟩, ⟨by repeat (first | (with_reducible first | exact HB.out | apply below_alloc | apply pw_below_drewN | apply below_drew1 | refine below_set ?_ GE127.out) | exact HB.out)⟩⟩
              · rw [if_neg c31] at H
                have c31b0 : decide (a0_7 ≤ a0_2) = false := decide_eq_false c31
                clear c31
                (first | rw [c31b0] | (simp only [i64_w, i32_w]; rw [c31b0]) | skip)
                have H' := Aside0.mk H
                clear H
                have hcz33_0 : w30.cell? ⟨gb127, 0, none⟩ = some (.int .i64 a0_0) := (blk_cell BK127.out 0).trans rfl
                have hcz33_1 : w30.cell? ⟨gb127, 1, none⟩ = some (.int .i64 a0_1) := (blk_cell BK127.out 1).trans rfl
                have hcz33_2 : w30.cell? ⟨gb127, 2, none⟩ = some (.int .i64 a0_2) := (blk_cell BK127.out 2).trans rfl
                have hcz33_3 : w30.cell? ⟨gb127, 3, none⟩ = some (.int .i64 a0_3) := (blk_cell BK127.out 3).trans rfl
                have hcz33_4 : w30.cell? ⟨gb127, 4, none⟩ = some (.int .i64 a0_4) := (blk_cell BK127.out 4).trans rfl
                have hcz33_5 : w30.cell? ⟨gb127, 5, none⟩ = some (.int .i64 a0_5) := (blk_cell BK127.out 5).trans rfl
                have hcz33_6 : w30.cell? ⟨gb127, 6, none⟩ = some (.int .i64 a0_6) := (blk_cell BK127.out 6).trans rfl
                have hcz33_7 : w30.cell? ⟨gb127, 7, none⟩ = some (.int .i64 a0_7) := (blk_cell BK127.out 7).trans rfl
                have hcz33_8 : w30.cell? ⟨gb127, 8, none⟩ = some (.int .i64 a0_8) := (blk_cell BK127.out 8).trans rfl
                have hcz33_9 : w30.cell? ⟨gb127, 9, none⟩ = some (.int .i64 a0_9) := (blk_cell BK127.out 9).trans rfl
                have hcz33_10 : w30.cell? ⟨gb127, 10, none⟩ = some (.int .i64 a0_10) := (blk_cell BK127.out 10).trans rfl
                have hcz33_11 : w30.cell? ⟨gb127, 11, none⟩ = some (.int .u32 a0_11) := (blk_cell BK127.out 11).trans rfl
                have hfz33_0 := blk_frozen BK127.out 0
                have hfz33_1 := blk_frozen BK127.out 1
                have hfz33_2 := blk_frozen BK127.out 2
                have hfz33_3 := blk_frozen BK127.out 3
                have hfz33_4 := blk_frozen BK127.out 4
                have hfz33_5 := blk_frozen BK127.out 5
                have hfz33_6 := blk_frozen BK127.out 6
                have hfz33_7 := blk_frozen BK127.out 7
                have hfz33_8 := blk_frozen BK127.out 8
                have hfz33_9 := blk_frozen BK127.out 9
                have hfz33_10 := blk_frozen BK127.out 10
                have hfz33_11 := blk_frozen BK127.out 11
                go_wp2
                go_meet
                case rel => exact ⟨_, (decide (a0_7 ≤ a0_4)), (by first | rfl | (simp; done) | (simp [*]; done) | (simp [nb1_, nb2_]; done)), H', ⟨by first | omega | exact Nat.le_refl _⟩, ⟨by (with_reducible repeat (first | refine blk_drewN ?_ _ | refine blk_drew ?_ | refine blk_alloc ?_ _)); exact BK127.out⟩, ⟨by repeat (first | (with_reducible first | exact HB.out | apply below_alloc | apply pw_below_drewN | apply below_drew1 | refine below_set ?_ GE127.out) | exact HB.out)⟩⟩
            case rest =>
              clear HC29
              try clear c1
              try clear c2
              try clear p2
              try clear c3
              try clear c3b0
              try clear c3b1
              try clear c4
              try clear p6
              try clear c8
              try clear c8b0
              try clear c8b1
              try clear c10
              try clear c16
              try clear c16b0
              try clear c16b1
              try clear c18
              try clear c24
              try clear c24b0
              try clear c24b1
              try clear c28
              try clear c28b0
              try clear c28b1
              try clear c31
              try clear c31b0
              try clear hcz13_0
              try clear hcz13_1
              try clear hcz13_10
              try clear hcz13_11
              try clear hcz13_2
              try clear hcz13_3
              try clear hcz13_4
              try clear hcz13_5
              try clear hcz13_6
              try clear hcz13_7
              try clear hcz13_8
              try clear hcz13_9
              try clear hcz15_0
              try clear hcz15_1
              try clear hcz15_10
              try clear hcz15_11
              try clear hcz15_2
              try clear hcz15_3
              try clear hcz15_4
              try clear hcz15_5
              try clear hcz15_6
              try clear hcz15_7
              try clear hcz15_8
              try clear hcz15_9
              try clear hcz21_0
              try clear hcz21_1
              try clear hcz21_10
              try clear hcz21_11
              try clear hcz21_2
              try clear hcz21_3
              try clear hcz21_4
              try clear hcz21_5
              try clear hcz21_6
              try clear hcz21_7
              try clear hcz21_8
              try clear hcz21_9
              try clear hcz23_0
              try clear hcz23_1
              try clear hcz23_10
              try clear hcz23_11
              try clear hcz23_2
              try clear hcz23_3
              try clear hcz23_4
              try clear hcz23_5
              try clear hcz23_6
              try clear hcz23_7
              try clear hcz23_8
              try clear hcz23_9
              try clear hcz27_0
              try clear hcz27_1
              try clear hcz27_10
              try clear hcz27_11
              try clear hcz27_2
              try clear hcz27_3
              try clear hcz27_4
              try clear hcz27_5
              try clear hcz27_6
              try clear hcz27_7
              try clear hcz27_8
              try clear hcz27_9
              try clear hcz32_0
              try clear hcz32_1
              try clear hcz32_10
              try clear hcz32_11
              try clear hcz32_2
              try clear hcz32_3
              try clear hcz32_4
              try clear hcz32_5
              try clear hcz32_6
              try clear hcz32_7
              try clear hcz32_8
              try clear hcz32_9
              try clear hcz33_0
              try clear hcz33_1
              try clear hcz33_10
              try clear hcz33_11
              try clear hcz33_2
              try clear hcz33_3
              try clear hcz33_4
              try clear hcz33_5
              try clear hcz33_6
              try clear hcz33_7
              try clear hcz33_8
              try clear hcz33_9
              try clear hcz6_0
              try clear hcz6_1
              try clear hcz6_10
              try clear hcz6_11
              try clear hcz6_2
              try clear hcz6_3
              try clear hcz6_4
              try clear hcz6_5
              try clear hcz6_6
              try clear hcz6_7
              try clear hcz6_8
              try clear hcz6_9
              try clear hfz13_0
              try clear hfz13_1
              try clear hfz13_10
              try clear hfz13_11
              try clear hfz13_2
              try clear hfz13_3
              try clear hfz13_4
              try clear hfz13_5
              try clear hfz13_6
              try clear hfz13_7
              try clear hfz13_8
              try clear hfz13_9
              try clear hfz15_0
              try clear hfz15_1
              try clear hfz15_10
              try clear hfz15_11
              try clear hfz15_2
              try clear hfz15_3
              try clear hfz15_4
              try clear hfz15_5
              try clear hfz15_6
              try clear hfz15_7
              try clear hfz15_8
              try clear hfz15_9
              try clear hfz21_0
              try clear hfz21_1
              try clear hfz21_10
              try clear hfz21_11
              try clear hfz21_2
              try clear hfz21_3
              try clear hfz21_4
              try clear hfz21_5
              try clear hfz21_6
              try clear hfz21_7
              try clear hfz21_8
              try clear hfz21_9
              try clear hfz23_0
              try clear hfz23_1
              try clear hfz23_10
              try clear hfz23_11
              try clear hfz23_2
              try clear hfz23_3
              try clear hfz23_4
              try clear hfz23_5
              try clear hfz23_6
              try clear hfz23_7
              try clear hfz23_8
              try clear hfz23_9
              try clear hfz27_0
              try clear hfz27_1
              try clear hfz27_10
              try clear hfz27_11
              try clear hfz27_2
              try clear hfz27_3
              try clear hfz27_4
              try clear hfz27_5
              try clear hfz27_6
              try clear hfz27_7
              try clear hfz27_8
              try clear hfz27_9
              try clear hfz32_0
              try clear hfz32_1
              try clear hfz32_10
              try clear hfz32_11
              try clear hfz32_2
              try clear hfz32_3
              try clear hfz32_4
              try clear hfz32_5
              try clear hfz32_6
              try clear hfz32_7
              try clear hfz32_8
              try clear hfz32_9
              try clear hfz33_0
              try clear hfz33_1
              try clear hfz33_10
              try clear hfz33_11
              try clear hfz33_2
              try clear hfz33_3
              try clear hfz33_4
              try clear hfz33_5
              try clear hfz33_6
              try clear hfz33_7
              try clear hfz33_8
              try clear hfz33_9
              try clear hfz6_0
              try clear hfz6_1
              try clear hfz6_10
              try clear hfz6_11
              try clear hfz6_2
              try clear hfz6_3
              try clear hfz6_4
              try clear hfz6_5
              try clear hfz6_6
              try clear hfz6_7
              try clear hfz6_8
              try clear hfz6_9
              obtain ⟨kq, x55_28, rfl, HA, HJ28, BK127, HB⟩ := hcut
              cases kq with
              | zero => exact absurd HA.out (by simp [config_part.j0])
              | succ kj28 =>
                have H := HA.out
                clear HA
                simp only [config_part.j0] at H
                by_cases c34 : x55_28 = true
                · subst c34
                  have H1 : (some false) = some r := by rw [if_pos rfl] at H; exact H
                  clear H
                  have H := H1
                  clear H1
                  obtain rfl := Option.some.inj H
                  go_wp2
                  go_ret
                  exact ⟨by first | rfl | (simp [errW_none, errW_some] <;> rfl) | (simp [*, errW_none, errW_some] <;> rfl), by repeat (first | (with_reducible first | exact HB.out | apply below_alloc | apply pw_below_drewN | apply below_drew1 | refine below_set ?_ GE127.out) | exact HB.out)⟩
                · replace c34 := Bool.eq_false_iff.mpr c34
                  subst c34
                  have H1 : (if a0_7 ≤ 536870912 then ((config_within.f a0_8 1000 1048576).bind fun t137 => (some t137)) else (some false)) = some r := by rw [if_neg (show ¬ (false = true) by decide)] at H; exact H
                  clear H
                  have H := H1
                  clear H1
                  by_cases c35 : a0_7 ≤ 536870912
                  · rw [if_pos c35] at H
                    have c35b0 : decide (a0_7 ≤ 536870912) = true := decide_eq_true c35
                    clear c35
                    replace H := Option.bind_eq_some_iff.mp H
                    obtain ⟨t137, A360, H⟩ := H
                    replace H : (some t137) = some r := H
                    have A36 := Aside0.mk A360
                    clear A360
                    obtain rfl := Option.some.inj H
                    have hcz37_0 : wc.cell? ⟨gb127, 0, none⟩ = some (.int .i64 a0_0) := (blk_cell BK127.out 0).trans rfl
                    have hcz37_1 : wc.cell? ⟨gb127, 1, none⟩ = some (.int .i64 a0_1) := (blk_cell BK127.out 1).trans rfl
                    have hcz37_2 : wc.cell? ⟨gb127, 2, none⟩ = some (.int .i64 a0_2) := (blk_cell BK127.out 2).trans rfl
                    have hcz37_3 : wc.cell? ⟨gb127, 3, none⟩ = some (.int .i64 a0_3) := (blk_cell BK127.out 3).trans rfl
                    have hcz37_4 : wc.cell? ⟨gb127, 4, none⟩ = some (.int .i64 a0_4) := (blk_cell BK127.out 4).trans rfl
                    have hcz37_5 : wc.cell? ⟨gb127, 5, none⟩ = some (.int .i64 a0_5) := (blk_cell BK127.out 5).trans rfl
                    have hcz37_6 : wc.cell? ⟨gb127, 6, none⟩ = some (.int .i64 a0_6) := (blk_cell BK127.out 6).trans rfl
                    have hcz37_7 : wc.cell? ⟨gb127, 7, none⟩ = some (.int .i64 a0_7) := (blk_cell BK127.out 7).trans rfl
                    have hcz37_8 : wc.cell? ⟨gb127, 8, none⟩ = some (.int .i64 a0_8) := (blk_cell BK127.out 8).trans rfl
                    have hcz37_9 : wc.cell? ⟨gb127, 9, none⟩ = some (.int .i64 a0_9) := (blk_cell BK127.out 9).trans rfl
                    have hcz37_10 : wc.cell? ⟨gb127, 10, none⟩ = some (.int .i64 a0_10) := (blk_cell BK127.out 10).trans rfl
                    have hcz37_11 : wc.cell? ⟨gb127, 11, none⟩ = some (.int .u32 a0_11) := (blk_cell BK127.out 11).trans rfl
                    have hfz37_0 := blk_frozen BK127.out 0
                    have hfz37_1 := blk_frozen BK127.out 1
                    have hfz37_2 := blk_frozen BK127.out 2
                    have hfz37_3 := blk_frozen BK127.out 3
                    have hfz37_4 := blk_frozen BK127.out 4
                    have hfz37_5 := blk_frozen BK127.out 5
                    have hfz37_6 := blk_frozen BK127.out 6
                    have hfz37_7 := blk_frozen BK127.out 7
                    have hfz37_8 := blk_frozen BK127.out 8
                    have hfz37_9 := blk_frozen BK127.out 9
                    have hfz37_10 := blk_frozen BK127.out 10
                    have hfz37_11 := blk_frozen BK127.out 11
                    go_wp2_with (first | (go_at_call 45; (with_reducible refine (config_within.calls a0_8 1000 1048576 t137 _ A36.out).mono ?_); rintro e w' ⟨rfl, ⟨nd, rfl⟩⟩))
                    go_ret
                    exact ⟨by first | rfl | (simp [errW_none, errW_some] <;> rfl) | (simp [*, errW_none, errW_some] <;> rfl), by repeat (first | (with_reducible first | exact HB.out | apply below_alloc | apply pw_below_drewN | apply below_drew1 | refine below_set ?_ GE127.out) | exact HB.out)⟩
                  · rw [if_neg c35] at H
                    have c35b0 : decide (a0_7 ≤ 536870912) = false := decide_eq_false c35
                    clear c35
                    obtain rfl := Option.some.inj H
                    have hcz38_0 : wc.cell? ⟨gb127, 0, none⟩ = some (.int .i64 a0_0) := (blk_cell BK127.out 0).trans rfl
                    have hcz38_1 : wc.cell? ⟨gb127, 1, none⟩ = some (.int .i64 a0_1) := (blk_cell BK127.out 1).trans rfl
                    have hcz38_2 : wc.cell? ⟨gb127, 2, none⟩ = some (.int .i64 a0_2) := (blk_cell BK127.out 2).trans rfl
                    have hcz38_3 : wc.cell? ⟨gb127, 3, none⟩ = some (.int .i64 a0_3) := (blk_cell BK127.out 3).trans rfl
                    have hcz38_4 : wc.cell? ⟨gb127, 4, none⟩ = some (.int .i64 a0_4) := (blk_cell BK127.out 4).trans rfl
                    have hcz38_5 : wc.cell? ⟨gb127, 5, none⟩ = some (.int .i64 a0_5) := (blk_cell BK127.out 5).trans rfl
                    have hcz38_6 : wc.cell? ⟨gb127, 6, none⟩ = some (.int .i64 a0_6) := (blk_cell BK127.out 6).trans rfl
                    have hcz38_7 : wc.cell? ⟨gb127, 7, none⟩ = some (.int .i64 a0_7) := (blk_cell BK127.out 7).trans rfl
                    have hcz38_8 : wc.cell? ⟨gb127, 8, none⟩ = some (.int .i64 a0_8) := (blk_cell BK127.out 8).trans rfl
                    have hcz38_9 : wc.cell? ⟨gb127, 9, none⟩ = some (.int .i64 a0_9) := (blk_cell BK127.out 9).trans rfl
                    have hcz38_10 : wc.cell? ⟨gb127, 10, none⟩ = some (.int .i64 a0_10) := (blk_cell BK127.out 10).trans rfl
                    have hcz38_11 : wc.cell? ⟨gb127, 11, none⟩ = some (.int .u32 a0_11) := (blk_cell BK127.out 11).trans rfl
                    have hfz38_0 := blk_frozen BK127.out 0
                    have hfz38_1 := blk_frozen BK127.out 1
                    have hfz38_2 := blk_frozen BK127.out 2
                    have hfz38_3 := blk_frozen BK127.out 3
                    have hfz38_4 := blk_frozen BK127.out 4
                    have hfz38_5 := blk_frozen BK127.out 5
                    have hfz38_6 := blk_frozen BK127.out 6
                    have hfz38_7 := blk_frozen BK127.out 7
                    have hfz38_8 := blk_frozen BK127.out 8
                    have hfz38_9 := blk_frozen BK127.out 9
                    have hfz38_10 := blk_frozen BK127.out 10
                    have hfz38_11 := blk_frozen BK127.out 11
                    go_wp2
                    go_ret
                    exact ⟨by first | rfl | (simp [errW_none, errW_some] <;> rfl) | (simp [*, errW_none, errW_some] <;> rfl), by repeat (first | (with_reducible first | exact HB.out | apply below_alloc | apply pw_below_drewN | apply below_drew1 | refine below_set ?_ GE127.out) | exact HB.out)⟩
          · rw [if_neg c28] at H
            have c28b0 : (a1 == 4) = false := beq_eq_false_iff_ne.mpr c28
            have c28b1 : (a1 != 4) = true := bne_iff_ne.mpr c28
            by_cases c39 : a1 = 5
            · rw [if_pos c39] at H
              have c39b0 : (a1 == 5) = true := beq_iff_eq.mpr c39
              have c39b1 : (a1 != 5) = false := bne_eq_false_iff_eq.mpr c39
              clear c39
              by_cases c40 : a0_7 ≤ 536870912
              · rw [if_pos c40] at H
                have c40b0 : decide (a0_7 ≤ 536870912) = true := decide_eq_true c40
                clear c40
                replace H := Option.bind_eq_some_iff.mp H
                obtain ⟨t132, A410, H⟩ := H
                replace H : (some t132) = some r := H
                have A41 := Aside0.mk A410
                clear A410
                obtain rfl := Option.some.inj H
                go_enter Tryd.func36, Tryd.ntmps36
                go_wp2_with (first | ((with_reducible refine gate_dst (N := 2) rfl ?_); refine box_event ?hg (N := 2) ?hd (cs := #[.int .i64 a0_0, .int .i64 a0_1, .int .i64 a0_2, .int .i64 a0_3, .int .i64 a0_4, .int .i64 a0_5, .int .i64 a0_6, .int .i64 a0_7, .int .i64 a0_8, .int .i64 a0_9, .int .i64 a0_10, .int .u32 a0_11]) (t := 46) ?hr ?_; (case hd => rfl); (case hg => rfl); (case hr => first | (go_simp; done) | (go_simp; rfl)); intro gb127 hg w42 hbox hb; have n0_ := Aside0.mk (below_step (by repeat (first | (with_reducible first | exact HB.out | apply below_alloc | apply pw_below_drewN | apply below_drew1) | exact HB.out)) hb); have n1_ := Aside0.mk (hbox); have n2_ := Aside0.mk ((by rw [hg]; exact (below_size (by repeat (first | (with_reducible first | exact HB.out | apply below_alloc | apply pw_below_drewN | apply below_drew1) | exact HB.out))) : w.heap.size ≤ gb127)); have n3_ := Aside0.mk ((by rw [hg]; exact (below_size (by repeat (first | (with_reducible first | exact HB.out | apply below_alloc | apply pw_below_drewN | apply below_drew1) | exact HB.out))) : w.heap.size ≤ gb127)); clear HB; have HB := n0_; have BK127 := n1_; have GW127 := n2_; have GE127 := n3_; clear n0_ n1_ n2_ n3_; clear hb hbox hg; have hcz43_0 : w42.cell? ⟨gb127, 0, none⟩ = some (.int .i64 a0_0) := (blk_cell BK127.out 0).trans rfl; have hcz43_1 : w42.cell? ⟨gb127, 1, none⟩ = some (.int .i64 a0_1) := (blk_cell BK127.out 1).trans rfl; have hcz43_2 : w42.cell? ⟨gb127, 2, none⟩ = some (.int .i64 a0_2) := (blk_cell BK127.out 2).trans rfl; have hcz43_3 : w42.cell? ⟨gb127, 3, none⟩ = some (.int .i64 a0_3) := (blk_cell BK127.out 3).trans rfl; have hcz43_4 : w42.cell? ⟨gb127, 4, none⟩ = some (.int .i64 a0_4) := (blk_cell BK127.out 4).trans rfl; have hcz43_5 : w42.cell? ⟨gb127, 5, none⟩ = some (.int .i64 a0_5) := (blk_cell BK127.out 5).trans rfl; have hcz43_6 : w42.cell? ⟨gb127, 6, none⟩ = some (.int .i64 a0_6) := (blk_cell BK127.out 6).trans rfl; have hcz43_7 : w42.cell? ⟨gb127, 7, none⟩ = some (.int .i64 a0_7) := (blk_cell BK127.out 7).trans rfl; have hcz43_8 : w42.cell? ⟨gb127, 8, none⟩ = some (.int .i64 a0_8) := (blk_cell BK127.out 8).trans rfl; have hcz43_9 : w42.cell? ⟨gb127, 9, none⟩ = some (.int .i64 a0_9) := (blk_cell BK127.out 9).trans rfl; have hcz43_10 : w42.cell? ⟨gb127, 10, none⟩ = some (.int .i64 a0_10) := (blk_cell BK127.out 10).trans rfl; have hcz43_11 : w42.cell? ⟨gb127, 11, none⟩ = some (.int .u32 a0_11) := (blk_cell BK127.out 11).trans rfl; have hfz43_0 := blk_frozen BK127.out 0; have hfz43_1 := blk_frozen BK127.out 1; have hfz43_2 := blk_frozen BK127.out 2; have hfz43_3 := blk_frozen BK127.out 3; have hfz43_4 := blk_frozen BK127.out 4; have hfz43_5 := blk_frozen BK127.out 5; have hfz43_6 := blk_frozen BK127.out 6; have hfz43_7 := blk_frozen BK127.out 7; have hfz43_8 := blk_frozen BK127.out 8; have hfz43_9 := blk_frozen BK127.out 9; have hfz43_10 := blk_frozen BK127.out 10; have hfz43_11 := blk_frozen BK127.out 11) | (go_at_call 45; (with_reducible refine (config_within.calls a0_8 1000 1048576 t132 _ A41.out).mono ?_); rintro e w' ⟨rfl, ⟨nd, rfl⟩⟩))
                go_ret
                exact ⟨by first | rfl | (simp [errW_none, errW_some] <;> rfl) | (simp [*, errW_none, errW_some] <;> rfl), by repeat (first | (with_reducible first | exact HB.out | apply below_alloc | apply pw_below_drewN | apply below_drew1 | refine below_set ?_ GE127.out) | exact HB.out)⟩
              · rw [if_neg c40] at H
                have c40b0 : decide (a0_7 ≤ 536870912) = false := decide_eq_false c40
                clear c40
                obtain rfl := Option.some.inj H
                go_enter Tryd.func36, Tryd.ntmps36
                go_wp2_with (first | ((with_reducible refine gate_dst (N := 2) rfl ?_); refine box_event ?hg (N := 2) ?hd (cs := #[.int .i64 a0_0, .int .i64 a0_1, .int .i64 a0_2, .int .i64 a0_3, .int .i64 a0_4, .int .i64 a0_5, .int .i64 a0_6, .int .i64 a0_7, .int .i64 a0_8, .int .i64 a0_9, .int .i64 a0_10, .int .u32 a0_11]) (t := 46) ?hr ?_; (case hd => rfl); (case hg => rfl); (case hr => first | (go_simp; done) | (go_simp; rfl)); intro gb127 hg w44 hbox hb; have n0_ := Aside0.mk (below_step (by repeat (first | (with_reducible first | exact HB.out | apply below_alloc | apply pw_below_drewN | apply below_drew1) | exact HB.out)) hb); have n1_ := Aside0.mk (hbox); have n2_ := Aside0.mk ((by rw [hg]; exact (below_size (by repeat (first | (with_reducible first | exact HB.out | apply below_alloc | apply pw_below_drewN | apply below_drew1) | exact HB.out))) : w.heap.size ≤ gb127)); have n3_ := Aside0.mk ((by rw [hg]; exact (below_size (by repeat (first | (with_reducible first | exact HB.out | apply below_alloc | apply pw_below_drewN | apply below_drew1) | exact HB.out))) : w.heap.size ≤ gb127)); clear HB; have HB := n0_; have BK127 := n1_; have GW127 := n2_; have GE127 := n3_; clear n0_ n1_ n2_ n3_; clear hb hbox hg; have hcz45_0 : w44.cell? ⟨gb127, 0, none⟩ = some (.int .i64 a0_0) := (blk_cell BK127.out 0).trans rfl; have hcz45_1 : w44.cell? ⟨gb127, 1, none⟩ = some (.int .i64 a0_1) := (blk_cell BK127.out 1).trans rfl; have hcz45_2 : w44.cell? ⟨gb127, 2, none⟩ = some (.int .i64 a0_2) := (blk_cell BK127.out 2).trans rfl; have hcz45_3 : w44.cell? ⟨gb127, 3, none⟩ = some (.int .i64 a0_3) := (blk_cell BK127.out 3).trans rfl; have hcz45_4 : w44.cell? ⟨gb127, 4, none⟩ = some (.int .i64 a0_4) := (blk_cell BK127.out 4).trans rfl; have hcz45_5 : w44.cell? ⟨gb127, 5, none⟩ = some (.int .i64 a0_5) := (blk_cell BK127.out 5).trans rfl; have hcz45_6 : w44.cell? ⟨gb127, 6, none⟩ = some (.int .i64 a0_6) := (blk_cell BK127.out 6).trans rfl; have hcz45_7 : w44.cell? ⟨gb127, 7, none⟩ = some (.int .i64 a0_7) := (blk_cell BK127.out 7).trans rfl; have hcz45_8 : w44.cell? ⟨gb127, 8, none⟩ = some (.int .i64 a0_8) := (blk_cell BK127.out 8).trans rfl; have hcz45_9 : w44.cell? ⟨gb127, 9, none⟩ = some (.int .i64 a0_9) := (blk_cell BK127.out 9).trans rfl; have hcz45_10 : w44.cell? ⟨gb127, 10, none⟩ = some (.int .i64 a0_10) := (blk_cell BK127.out 10).trans rfl; have hcz45_11 : w44.cell? ⟨gb127, 11, none⟩ = some (.int .u32 a0_11) := (blk_cell BK127.out 11).trans rfl; have hfz45_0 := blk_frozen BK127.out 0; have hfz45_1 := blk_frozen BK127.out 1; have hfz45_2 := blk_frozen BK127.out 2; have hfz45_3 := blk_frozen BK127.out 3; have hfz45_4 := blk_frozen BK127.out 4; have hfz45_5 := blk_frozen BK127.out 5; have hfz45_6 := blk_frozen BK127.out 6; have hfz45_7 := blk_frozen BK127.out 7; have hfz45_8 := blk_frozen BK127.out 8; have hfz45_9 := blk_frozen BK127.out 9; have hfz45_10 := blk_frozen BK127.out 10; have hfz45_11 := blk_frozen BK127.out 11))
                go_ret
                exact ⟨by first | rfl | (simp [errW_none, errW_some] <;> rfl) | (simp [*, errW_none, errW_some] <;> rfl), by repeat (first | (with_reducible first | exact HB.out | apply below_alloc | apply pw_below_drewN | apply below_drew1 | refine below_set ?_ GE127.out) | exact HB.out)⟩
            · rw [if_neg c39] at H
              have c39b0 : (a1 == 5) = false := beq_eq_false_iff_ne.mpr c39
              have c39b1 : (a1 != 5) = true := bne_iff_ne.mpr c39
              replace H := Option.bind_eq_some_iff.mp H
              obtain ⟨t133, A460, H⟩ := H
              replace H : (if t133 = true then ((config_within.f a0_10 0 1000000).bind fun t134 => (if t134 = true then (some (decide (a0_11 ≥ 1))) else (some false))) else (some false)) = some r := H
              have A46 := Aside0.mk A460
              clear A460
              by_cases c47 : t133 = true
              · subst c47
                have H1 : ((config_within.f a0_10 0 1000000).bind fun t134 => (if t134 = true then (some (decide (a0_11 ≥ 1))) else (some false))) = some r := by rw [if_pos rfl] at H; exact H
                clear H
                have H := H1
                clear H1
                replace H := Option.bind_eq_some_iff.mp H
                obtain ⟨t134, A480, H⟩ := H
                replace H : (if t134 = true then (some (decide (a0_11 ≥ 1))) else (some false)) = some r := H
                have A48 := Aside0.mk A480
                clear A480
                by_cases c49 : t134 = true
                · subst c49
                  have H1 : (some (decide (a0_11 ≥ 1))) = some r := by rw [if_pos rfl] at H; exact H
                  clear H
                  have H := H1
                  clear H1
                  obtain rfl := Option.some.inj H
                  go_enter Tryd.func36, Tryd.ntmps36
                  go_wp2_with (first | ((with_reducible refine gate_dst (N := 2) rfl ?_); refine box_event ?hg (N := 2) ?hd (cs := #[.int .i64 a0_0, .int .i64 a0_1, .int .i64 a0_2, .int .i64 a0_3, .int .i64 a0_4, .int .i64 a0_5, .int .i64 a0_6, .int .i64 a0_7, .int .i64 a0_8, .int .i64 a0_9, .int .i64 a0_10, .int .u32 a0_11]) (t := 46) ?hr ?_; (case hd => rfl); (case hg => rfl); (case hr => first | (go_simp; done) | (go_simp; rfl)); intro gb127 hg w50 hbox hb; have n0_ := Aside0.mk (below_step (by repeat (first | (with_reducible first | exact HB.out | apply below_alloc | apply pw_below_drewN | apply below_drew1) | exact HB.out)) hb); have n1_ := Aside0.mk (hbox); have n2_ := Aside0.mk ((by rw [hg]; exact (below_size (by repeat (first | (with_reducible first | exact HB.out | apply below_alloc | apply pw_below_drewN | apply below_drew1) | exact HB.out))) : w.heap.size ≤ gb127)); have n3_ := Aside0.mk ((by rw [hg]; exact (below_size (by repeat (first | (with_reducible first | exact HB.out | apply below_alloc | apply pw_below_drewN | apply below_drew1) | exact HB.out))) : w.heap.size ≤ gb127)); clear HB; have HB := n0_; have BK127 := n1_; have GW127 := n2_; have GE127 := n3_; clear n0_ n1_ n2_ n3_; clear hb hbox hg; have hcz51_0 : w50.cell? ⟨gb127, 0, none⟩ = some (.int .i64 a0_0) := (blk_cell BK127.out 0).trans rfl; have hcz51_1 : w50.cell? ⟨gb127, 1, none⟩ = some (.int .i64 a0_1) := (blk_cell BK127.out 1).trans rfl; have hcz51_2 : w50.cell? ⟨gb127, 2, none⟩ = some (.int .i64 a0_2) := (blk_cell BK127.out 2).trans rfl; have hcz51_3 : w50.cell? ⟨gb127, 3, none⟩ = some (.int .i64 a0_3) := (blk_cell BK127.out 3).trans rfl; have hcz51_4 : w50.cell? ⟨gb127, 4, none⟩ = some (.int .i64 a0_4) := (blk_cell BK127.out 4).trans rfl; have hcz51_5 : w50.cell? ⟨gb127, 5, none⟩ = some (.int .i64 a0_5) := (blk_cell BK127.out 5).trans rfl; have hcz51_6 : w50.cell? ⟨gb127, 6, none⟩ = some (.int .i64 a0_6) := (blk_cell BK127.out 6).trans rfl; have hcz51_7 : w50.cell? ⟨gb127, 7, none⟩ = some (.int .i64 a0_7) := (blk_cell BK127.out 7).trans rfl; have hcz51_8 : w50.cell? ⟨gb127, 8, none⟩ = some (.int .i64 a0_8) := (blk_cell BK127.out 8).trans rfl; have hcz51_9 : w50.cell? ⟨gb127, 9, none⟩ = some (.int .i64 a0_9) := (blk_cell BK127.out 9).trans rfl; have hcz51_10 : w50.cell? ⟨gb127, 10, none⟩ = some (.int .i64 a0_10) := (blk_cell BK127.out 10).trans rfl; have hcz51_11 : w50.cell? ⟨gb127, 11, none⟩ = some (.int .u32 a0_11) := (blk_cell BK127.out 11).trans rfl; have hfz51_0 := blk_frozen BK127.out 0; have hfz51_1 := blk_frozen BK127.out 1; have hfz51_2 := blk_frozen BK127.out 2; have hfz51_3 := blk_frozen BK127.out 3; have hfz51_4 := blk_frozen BK127.out 4; have hfz51_5 := blk_frozen BK127.out 5; have hfz51_6 := blk_frozen BK127.out 6; have hfz51_7 := blk_frozen BK127.out 7; have hfz51_8 := blk_frozen BK127.out 8; have hfz51_9 := blk_frozen BK127.out 9; have hfz51_10 := blk_frozen BK127.out 10; have hfz51_11 := blk_frozen BK127.out 11) | ((with_reducible refine gate_callee (f := 45) rfl ?_); refine goesL_ (some 66) rfl rfl Tryd.func45 (by kernel_rfl) rfl #[.int .i64 a0_9, .int .i64 0, .int .i64 1000000] rfl (by (try simp only [List.map_toArray, List.map_cons, List.map_nil]); first | done | rfl | (simp only [List.length_drop, List.length_take]; rfl)) ?_; (with_reducible refine (config_within.calls a0_9 0 1000000 true _ A46.out).mono ?_); rintro e w' ⟨rfl, ⟨nd, rfl⟩⟩; refine ⟨_, rfl, ?_⟩) | (go_at_call 45; (with_reducible refine (config_within.calls a0_10 0 1000000 true _ A48.out).mono ?_); rintro e w' ⟨rfl, ⟨nd, rfl⟩⟩))
                  go_ret
                  exact ⟨by first | rfl | (simp [errW_none, errW_some] <;> rfl) | (simp [*, errW_none, errW_some] <;> rfl), by repeat (first | (with_reducible first | exact HB.out | apply below_alloc | apply pw_below_drewN | apply below_drew1 | refine below_set ?_ GE127.out) | exact HB.out)⟩
                · replace c49 := Bool.eq_false_iff.mpr c49
                  subst c49
                  have H1 : (some false) = some r := by rw [if_neg (show ¬ (false = true) by decide)] at H; exact H
                  clear H
                  have H := H1
                  clear H1
                  obtain rfl := Option.some.inj H
                  go_enter Tryd.func36, Tryd.ntmps36
                  go_wp2_with (first | ((with_reducible refine gate_dst (N := 2) rfl ?_); refine box_event ?hg (N := 2) ?hd (cs := #[.int .i64 a0_0, .int .i64 a0_1, .int .i64 a0_2, .int .i64 a0_3, .int .i64 a0_4, .int .i64 a0_5, .int .i64 a0_6, .int .i64 a0_7, .int .i64 a0_8, .int .i64 a0_9, .int .i64 a0_10, .int .u32 a0_11]) (t := 46) ?hr ?_; (case hd => rfl); (case hg => rfl); (case hr => first | (go_simp; done) | (go_simp; rfl)); intro gb127 hg w52 hbox hb; have n0_ := Aside0.mk (below_step (by repeat (first | (with_reducible first | exact HB.out | apply below_alloc | apply pw_below_drewN | apply below_drew1) | exact HB.out)) hb); have n1_ := Aside0.mk (hbox); have n2_ := Aside0.mk ((by rw [hg]; exact (below_size (by repeat (first | (with_reducible first | exact HB.out | apply below_alloc | apply pw_below_drewN | apply below_drew1) | exact HB.out))) : w.heap.size ≤ gb127)); have n3_ := Aside0.mk ((by rw [hg]; exact (below_size (by repeat (first | (with_reducible first | exact HB.out | apply below_alloc | apply pw_below_drewN | apply below_drew1) | exact HB.out))) : w.heap.size ≤ gb127)); clear HB; have HB := n0_; have BK127 := n1_; have GW127 := n2_; have GE127 := n3_; clear n0_ n1_ n2_ n3_; clear hb hbox hg; have hcz53_0 : w52.cell? ⟨gb127, 0, none⟩ = some (.int .i64 a0_0) := (blk_cell BK127.out 0).trans rfl; have hcz53_1 : w52.cell? ⟨gb127, 1, none⟩ = some (.int .i64 a0_1) := (blk_cell BK127.out 1).trans rfl; have hcz53_2 : w52.cell? ⟨gb127, 2, none⟩ = some (.int .i64 a0_2) := (blk_cell BK127.out 2).trans rfl; have hcz53_3 : w52.cell? ⟨gb127, 3, none⟩ = some (.int .i64 a0_3) := (blk_cell BK127.out 3).trans rfl; have hcz53_4 : w52.cell? ⟨gb127, 4, none⟩ = some (.int .i64 a0_4) := (blk_cell BK127.out 4).trans rfl; have hcz53_5 : w52.cell? ⟨gb127, 5, none⟩ = some (.int .i64 a0_5) := (blk_cell BK127.out 5).trans rfl; have hcz53_6 : w52.cell? ⟨gb127, 6, none⟩ = some (.int .i64 a0_6) := (blk_cell BK127.out 6).trans rfl; have hcz53_7 : w52.cell? ⟨gb127, 7, none⟩ = some (.int .i64 a0_7) := (blk_cell BK127.out 7).trans rfl; have hcz53_8 : w52.cell? ⟨gb127, 8, none⟩ = some (.int .i64 a0_8) := (blk_cell BK127.out 8).trans rfl; have hcz53_9 : w52.cell? ⟨gb127, 9, none⟩ = some (.int .i64 a0_9) := (blk_cell BK127.out 9).trans rfl; have hcz53_10 : w52.cell? ⟨gb127, 10, none⟩ = some (.int .i64 a0_10) := (blk_cell BK127.out 10).trans rfl; have hcz53_11 : w52.cell? ⟨gb127, 11, none⟩ = some (.int .u32 a0_11) := (blk_cell BK127.out 11).trans rfl; have hfz53_0 := blk_frozen BK127.out 0; have hfz53_1 := blk_frozen BK127.out 1; have hfz53_2 := blk_frozen BK127.out 2; have hfz53_3 := blk_frozen BK127.out 3; have hfz53_4 := blk_frozen BK127.out 4; have hfz53_5 := blk_frozen BK127.out 5; have hfz53_6 := blk_frozen BK127.out 6; have hfz53_7 := blk_frozen BK127.out 7; have hfz53_8 := blk_frozen BK127.out 8; have hfz53_9 := blk_frozen BK127.out 9; have hfz53_10 := blk_frozen BK127.out 10; have hfz53_11 := blk_frozen BK127.out 11) | ((with_reducible refine gate_callee (f := 45) rfl ?_); refine goesL_ (some 66) rfl rfl Tryd.func45 (by kernel_rfl) rfl #[.int .i64 a0_9, .int .i64 0, .int .i64 1000000] rfl (by (try simp only [List.map_toArray, List.map_cons, List.map_nil]); first | done | rfl | (simp only [List.length_drop, List.length_take]; rfl)) ?_; (with_reducible refine (config_within.calls a0_9 0 1000000 true _ A46.out).mono ?_); rintro e w' ⟨rfl, ⟨nd, rfl⟩⟩; refine ⟨_, rfl, ?_⟩) | (go_at_call 45; (with_reducible refine (config_within.calls a0_10 0 1000000 false _ A48.out).mono ?_); rintro e w' ⟨rfl, ⟨nd, rfl⟩⟩))
                  go_ret
                  exact ⟨by first | rfl | (simp [errW_none, errW_some] <;> rfl) | (simp [*, errW_none, errW_some] <;> rfl), by repeat (first | (with_reducible first | exact HB.out | apply below_alloc | apply pw_below_drewN | apply below_drew1 | refine below_set ?_ GE127.out) | exact HB.out)⟩
              · replace c47 := Bool.eq_false_iff.mpr c47
                subst c47
                have H1 : (some false) = some r := by rw [if_neg (show ¬ (false = true) by decide)] at H; exact H
                clear H
                have H := H1
                clear H1
                obtain rfl := Option.some.inj H
                go_enter Tryd.func36, Tryd.ntmps36
                go_wp2_with (first | ((with_reducible refine gate_dst (N := 2) rfl ?_); refine box_event ?hg (N := 2) ?hd (cs := #[.int .i64 a0_0, .int .i64 a0_1, .int .i64 a0_2, .int .i64 a0_3, .int .i64 a0_4, .int .i64 a0_5, .int .i64 a0_6, .int .i64 a0_7, .int .i64 a0_8, .int .i64 a0_9, .int .i64 a0_10, .int .u32 a0_11]) (t := 46) ?hr ?_; (case hd => rfl); (case hg => rfl); (case hr => first | (go_simp; done) | (go_simp; rfl)); intro gb127 hg w54 hbox hb; have n0_ := Aside0.mk (below_step (by repeat (first | (with_reducible first | exact HB.out | apply below_alloc | apply pw_below_drewN | apply below_drew1) | exact HB.out)) hb); have n1_ := Aside0.mk (hbox); have n2_ := Aside0.mk ((by rw [hg]; exact (below_size (by repeat (first | (with_reducible first | exact HB.out | apply below_alloc | apply pw_below_drewN | apply below_drew1) | exact HB.out))) : w.heap.size ≤ gb127)); have n3_ := Aside0.mk ((by rw [hg]; exact (below_size (by repeat (first | (with_reducible first | exact HB.out | apply below_alloc | apply pw_below_drewN | apply below_drew1) | exact HB.out))) : w.heap.size ≤ gb127)); clear HB; have HB := n0_; have BK127 := n1_; have GW127 := n2_; have GE127 := n3_; clear n0_ n1_ n2_ n3_; clear hb hbox hg; have hcz55_0 : w54.cell? ⟨gb127, 0, none⟩ = some (.int .i64 a0_0) := (blk_cell BK127.out 0).trans rfl; have hcz55_1 : w54.cell? ⟨gb127, 1, none⟩ = some (.int .i64 a0_1) := (blk_cell BK127.out 1).trans rfl; have hcz55_2 : w54.cell? ⟨gb127, 2, none⟩ = some (.int .i64 a0_2) := (blk_cell BK127.out 2).trans rfl; have hcz55_3 : w54.cell? ⟨gb127, 3, none⟩ = some (.int .i64 a0_3) := (blk_cell BK127.out 3).trans rfl; have hcz55_4 : w54.cell? ⟨gb127, 4, none⟩ = some (.int .i64 a0_4) := (blk_cell BK127.out 4).trans rfl; have hcz55_5 : w54.cell? ⟨gb127, 5, none⟩ = some (.int .i64 a0_5) := (blk_cell BK127.out 5).trans rfl; have hcz55_6 : w54.cell? ⟨gb127, 6, none⟩ = some (.int .i64 a0_6) := (blk_cell BK127.out 6).trans rfl; have hcz55_7 : w54.cell? ⟨gb127, 7, none⟩ = some (.int .i64 a0_7) := (blk_cell BK127.out 7).trans rfl; have hcz55_8 : w54.cell? ⟨gb127, 8, none⟩ = some (.int .i64 a0_8) := (blk_cell BK127.out 8).trans rfl; have hcz55_9 : w54.cell? ⟨gb127, 9, none⟩ = some (.int .i64 a0_9) := (blk_cell BK127.out 9).trans rfl; have hcz55_10 : w54.cell? ⟨gb127, 10, none⟩ = some (.int .i64 a0_10) := (blk_cell BK127.out 10).trans rfl; have hcz55_11 : w54.cell? ⟨gb127, 11, none⟩ = some (.int .u32 a0_11) := (blk_cell BK127.out 11).trans rfl; have hfz55_0 := blk_frozen BK127.out 0; have hfz55_1 := blk_frozen BK127.out 1; have hfz55_2 := blk_frozen BK127.out 2; have hfz55_3 := blk_frozen BK127.out 3; have hfz55_4 := blk_frozen BK127.out 4; have hfz55_5 := blk_frozen BK127.out 5; have hfz55_6 := blk_frozen BK127.out 6; have hfz55_7 := blk_frozen BK127.out 7; have hfz55_8 := blk_frozen BK127.out 8; have hfz55_9 := blk_frozen BK127.out 9; have hfz55_10 := blk_frozen BK127.out 10; have hfz55_11 := blk_frozen BK127.out 11) | ((with_reducible refine gate_callee (f := 45) rfl ?_); refine goesL_ (some 66) rfl rfl Tryd.func45 (by kernel_rfl) rfl #[.int .i64 a0_9, .int .i64 0, .int .i64 1000000] rfl (by (try simp only [List.map_toArray, List.map_cons, List.map_nil]); first | done | rfl | (simp only [List.length_drop, List.length_take]; rfl)) ?_; (with_reducible refine (config_within.calls a0_9 0 1000000 false _ A46.out).mono ?_); rintro e w' ⟨rfl, ⟨nd, rfl⟩⟩; refine ⟨_, rfl, ?_⟩))
                go_ret
                exact ⟨by first | rfl | (simp [errW_none, errW_some] <;> rfl) | (simp [*, errW_none, errW_some] <;> rfl), by repeat (first | (with_reducible first | exact HB.out | apply below_alloc | apply pw_below_drewN | apply below_drew1 | refine below_set ?_ GE127.out) | exact HB.out)⟩

-- NOT PRINTED: function 19 (config_Check)

/-! ### config_Steps: function 21 -/
def config_Steps.f (a0 : Int) (a1 : Int) : Option (Int) := some (wrap64 ((wrap64 ((wrap64 ((mn (mx a0 0) 8) * (mn (mx a0 0) 8))) * (mn (mx a0 0) 8))) + (40 * (mn (mx a1 0) 40))))
set_option maxHeartbeats 8000000 in
set_option maxRecDepth 100000 in
theorem config_Steps.calls (a0 : Int) (a1 : Int) (r : Int) (w : World) (h : config_Steps.f a0 a1 = some r) :
    Calls Tryd.prog 21 #[.int .i64 a0, .int .i64 a1] w fun e w' => e = .returned (.int .i64 r) ∧ Below w.heap.size w w' := by
  have HB := Aside0.mk (Below.refl w.heap.size w)
  have H : (some (wrap64 ((wrap64 ((wrap64 ((mn (mx a0 0) 8) * (mn (mx a0 0) 8))) * (mn (mx a0 0) 8))) + (40 * (mn (mx a1 0) 40))))) = some r := h
  clear h
  obtain ⟨ji3, hji3⟩ : ∃ j_ : Int, (mx a0 0) = j_ := ⟨_, rfl⟩
  replace H : (some (wrap64 ((wrap64 ((wrap64 ((mn (ji3) 8) * (mn (ji3) 8))) * (mn (ji3) 8))) + (40 * (mn (mx a1 0) 40))))) = some r := by first | (rw [hji3] at H; exact H) | (simp only [hji3] at H ⊢; exact H)
  (try (have hji3l : 0 ≤ ji3 := by (rw [← hji3]; unfold mx; (repeat' split) <;> omega)))
  (try (have hji3m : 0 ≤ ji3 := by omega))
  have hji3_ : (if a0 < 0 then 0 else a0) = ji3 := hji3
  obtain ⟨ji4, hji4⟩ : ∃ j_ : Int, (mn (ji3) 8) = j_ := ⟨_, rfl⟩
  replace H : (some (wrap64 ((wrap64 ((wrap64 ((ji4) * (ji4))) * (ji4))) + (40 * (mn (mx a1 0) 40))))) = some r := by first | (rw [hji4] at H; exact H) | (simp only [hji4] at H ⊢; exact H)
  have hji4_ : (if 8 < (ji3) then 8 else (ji3)) = ji4 := hji4
  obtain ⟨ji5, hji5⟩ : ∃ j_ : Int, (mx a1 0) = j_ := ⟨_, rfl⟩
  replace H : (some (wrap64 ((wrap64 ((wrap64 ((ji4) * (ji4))) * (ji4))) + (40 * (mn (ji5) 40))))) = some r := by first | (rw [hji5] at H; exact H) | (simp only [hji5] at H ⊢; exact H)
  (try (have hji5l : 0 ≤ ji5 := by (rw [← hji5]; unfold mx; (repeat' split) <;> omega)))
  (try (have hji5m : 0 ≤ ji5 := by omega))
  have hji5_ : (if a1 < 0 then 0 else a1) = ji5 := hji5
  obtain ⟨ji6, hji6⟩ : ∃ j_ : Int, (mn (ji5) 40) = j_ := ⟨_, rfl⟩
  replace H : (some (wrap64 ((wrap64 ((wrap64 ((ji4) * (ji4))) * (ji4))) + (40 * (ji6))))) = some r := by first | (rw [hji6] at H; exact H) | (simp only [hji6] at H ⊢; exact H)
  have hji6_ : (if 40 < (ji5) then 40 else (ji5)) = ji6 := hji6
  obtain rfl := Option.some.inj H
  go_enter Tryd.func21, Tryd.ntmps21
  go_wp2
  go_ret
  exact ⟨by first | rfl | (simp [errW_none, errW_some] <;> rfl) | (simp only [← hji3, ← hji4, ← hji5, ← hji6]; first | rfl | (simp [errW_none, errW_some] <;> rfl)) | (simp [*, errW_none, errW_some] <;> rfl), by repeat (first | (with_reducible first | exact HB.out | apply below_alloc | apply pw_below_drewN | apply below_drew1) | exact HB.out)⟩

/-! ### config_Default: function 23 -/
def config_Default.f  : Option (Int × Int × Int × Int × Int × Int × Int × Int × Int × Int × Int × Int) := some (0, 0, 4096, 16, 65536, 2048, 16, 268435456, 2000, 500, 0, 5000)
set_option maxHeartbeats 8000000 in
set_option maxRecDepth 100000 in
theorem config_Default.calls  (r1 : Int) (r2 : Int) (r3 : Int) (r4 : Int) (r5 : Int) (r6 : Int) (r7 : Int) (r8 : Int) (r9 : Int) (r10 : Int) (r11 : Int) (r12 : Int) (w : World) (h : config_Default.f  = some (r1, r2, r3, r4, r5, r6, r7, r8, r9, r10, r11, r12)) :
    Calls Tryd.prog 23 #[] w fun e w' => e = .returned (.agg #[.int .i64 r1, .int .i64 r2, .int .i64 r3, .int .i64 r4, .int .i64 r5, .int .i64 r6, .int .i64 r7, .int .i64 r8, .int .i64 r9, .int .i64 r10, .int .i64 r11, .int .u32 r12]) ∧ Below w.heap.size w w' := by
  have hu46 := Tryd.underlying46
  have HB := Aside0.mk (Below.refl w.heap.size w)
  have H : (some (0, 0, 4096, 16, 65536, 2048, 16, 268435456, 2000, 500, 0, 5000)) = some (r1, r2, r3, r4, r5, r6, r7, r8, r9, r10, r11, r12) := h
  clear h
  simp only [Option.some.injEq, Prod.mk.injEq] at H
  obtain ⟨rfl, rfl, rfl, rfl, rfl, rfl, rfl, rfl, rfl, rfl, rfl, rfl⟩ := H
  go_enter Tryd.func23, Tryd.ntmps23
  go_wp2_with (first | ((with_reducible refine gate_dst (N := 0) rfl ?_); refine box_event ?hg (N := 0) ?hd (cs := #[.int .i64 0, .int .i64 0, .int .i64 0, .int .i64 0, .int .i64 0, .int .i64 0, .int .i64 0, .int .i64 0, .int .i64 0, .int .i64 0, .int .i64 0, .int .u32 0]) (t := 46) ?hr ?_; (case hd => rfl); (case hg => rfl); (case hr => first | (go_simp; done) | (go_simp; rfl)); intro gb140 hg w1 hbox hb; have n0_ := Aside0.mk (below_step (by repeat (first | (with_reducible first | exact HB.out | apply below_alloc | apply pw_below_drewN | apply below_drew1) | exact HB.out)) hb); have n1_ := Aside0.mk (hbox); have n2_ := Aside0.mk ((by rw [hg]; exact (below_size (by repeat (first | (with_reducible first | exact HB.out | apply below_alloc | apply pw_below_drewN | apply below_drew1) | exact HB.out))) : w.heap.size ≤ gb140)); have n3_ := Aside0.mk ((by rw [hg]; exact (below_size (by repeat (first | (with_reducible first | exact HB.out | apply below_alloc | apply pw_below_drewN | apply below_drew1) | exact HB.out))) : w.heap.size ≤ gb140)); clear HB; have HB := n0_; have BK140 := n1_; have GW140 := n2_; have GE140 := n3_; clear n0_ n1_ n2_ n3_; clear hb hbox hg; have hcz2_0 : w1.cell? ⟨gb140, 0, none⟩ = some (.int .i64 0) := (blk_cell BK140.out 0).trans rfl; have hcz2_1 : w1.cell? ⟨gb140, 1, none⟩ = some (.int .i64 0) := (blk_cell BK140.out 1).trans rfl; have hcz2_2 : w1.cell? ⟨gb140, 2, none⟩ = some (.int .i64 0) := (blk_cell BK140.out 2).trans rfl; have hcz2_3 : w1.cell? ⟨gb140, 3, none⟩ = some (.int .i64 0) := (blk_cell BK140.out 3).trans rfl; have hcz2_4 : w1.cell? ⟨gb140, 4, none⟩ = some (.int .i64 0) := (blk_cell BK140.out 4).trans rfl; have hcz2_5 : w1.cell? ⟨gb140, 5, none⟩ = some (.int .i64 0) := (blk_cell BK140.out 5).trans rfl; have hcz2_6 : w1.cell? ⟨gb140, 6, none⟩ = some (.int .i64 0) := (blk_cell BK140.out 6).trans rfl; have hcz2_7 : w1.cell? ⟨gb140, 7, none⟩ = some (.int .i64 0) := (blk_cell BK140.out 7).trans rfl; have hcz2_8 : w1.cell? ⟨gb140, 8, none⟩ = some (.int .i64 0) := (blk_cell BK140.out 8).trans rfl; have hcz2_9 : w1.cell? ⟨gb140, 9, none⟩ = some (.int .i64 0) := (blk_cell BK140.out 9).trans rfl; have hcz2_10 : w1.cell? ⟨gb140, 10, none⟩ = some (.int .i64 0) := (blk_cell BK140.out 10).trans rfl; have hcz2_11 : w1.cell? ⟨gb140, 11, none⟩ = some (.int .u32 0) := (blk_cell BK140.out 11).trans rfl; have hfz2_0 := blk_frozen BK140.out 0; have hfz2_1 := blk_frozen BK140.out 1; have hfz2_2 := blk_frozen BK140.out 2; have hfz2_3 := blk_frozen BK140.out 3; have hfz2_4 := blk_frozen BK140.out 4; have hfz2_5 := blk_frozen BK140.out 5; have hfz2_6 := blk_frozen BK140.out 6; have hfz2_7 := blk_frozen BK140.out 7; have hfz2_8 := blk_frozen BK140.out 8; have hfz2_9 := blk_frozen BK140.out 9; have hfz2_10 := blk_frozen BK140.out 10; have hfz2_11 := blk_frozen BK140.out 11))
  refine bodyPost_ret (results_cell_row rfl _ _ gb140 46 #[.int .i64 0, .int .i64 0, .int .i64 4096, .int .i64 16, .int .i64 65536, .int .i64 2048, .int .i64 16, .int .i64 268435456, .int .i64 2000, .int .i64 500, .int .i64 0, .int .u32 5000] (0, 0) _ rfl (by (with_reducible repeat (first | refine blk_drewN ?_ _ | refine blk_drew ?_ | refine blk_alloc ?_ _)); refine blk_put (cs := #[.int .i64 0, .int .i64 0, .int .i64 4096, .int .i64 16, .int .i64 65536, .int .i64 2048, .int .i64 16, .int .i64 268435456, .int .i64 2000, .int .i64 500, .int .i64 0, .int .u32 0]) ?_ 11 _ rfl; (with_reducible repeat (first | refine blk_drewN ?_ _ | refine blk_drew ?_ | refine blk_alloc ?_ _)); refine blk_put (cs := #[.int .i64 0, .int .i64 0, .int .i64 4096, .int .i64 16, .int .i64 65536, .int .i64 2048, .int .i64 16, .int .i64 268435456, .int .i64 2000, .int .i64 500, .int .i64 0, .int .u32 0]) ?_ 10 _ rfl; (with_reducible repeat (first | refine blk_drewN ?_ _ | refine blk_drew ?_ | refine blk_alloc ?_ _)); refine blk_put (cs := #[.int .i64 0, .int .i64 0, .int .i64 4096, .int .i64 16, .int .i64 65536, .int .i64 2048, .int .i64 16, .int .i64 268435456, .int .i64 2000, .int .i64 0, .int .i64 0, .int .u32 0]) ?_ 9 _ rfl; (with_reducible repeat (first | refine blk_drewN ?_ _ | refine blk_drew ?_ | refine blk_alloc ?_ _)); refine blk_put (cs := #[.int .i64 0, .int .i64 0, .int .i64 4096, .int .i64 16, .int .i64 65536, .int .i64 2048, .int .i64 16, .int .i64 268435456, .int .i64 0, .int .i64 0, .int .i64 0, .int .u32 0]) ?_ 8 _ rfl; (with_reducible repeat (first | refine blk_drewN ?_ _ | refine blk_drew ?_ | refine blk_alloc ?_ _)); refine blk_put (cs := #[.int .i64 0, .int .i64 0, .int .i64 4096, .int .i64 16, .int .i64 65536, .int .i64 2048, .int .i64 16, .int .i64 0, .int .i64 0, .int .i64 0, .int .i64 0, .int .u32 0]) ?_ 7 _ rfl; (with_reducible repeat (first | refine blk_drewN ?_ _ | refine blk_drew ?_ | refine blk_alloc ?_ _)); refine blk_put (cs := #[.int .i64 0, .int .i64 0, .int .i64 4096, .int .i64 16, .int .i64 65536, .int .i64 2048, .int .i64 0, .int .i64 0, .int .i64 0, .int .i64 0, .int .i64 0, .int .u32 0]) ?_ 6 _ rfl; (with_reducible repeat (first | refine blk_drewN ?_ _ | refine blk_drew ?_ | refine blk_alloc ?_ _)); refine blk_put (cs := #[.int .i64 0, .int .i64 0, .int .i64 4096, .int .i64 16, .int .i64 65536, .int .i64 0, .int .i64 0, .int .i64 0, .int .i64 0, .int .i64 0, .int .i64 0, .int .u32 0]) ?_ 5 _ rfl; (with_reducible repeat (first | refine blk_drewN ?_ _ | refine blk_drew ?_ | refine blk_alloc ?_ _)); refine blk_put (cs := #[.int .i64 0, .int .i64 0, .int .i64 4096, .int .i64 16, .int .i64 0, .int .i64 0, .int .i64 0, .int .i64 0, .int .i64 0, .int .i64 0, .int .i64 0, .int .u32 0]) ?_ 4 _ rfl; (with_reducible repeat (first | refine blk_drewN ?_ _ | refine blk_drew ?_ | refine blk_alloc ?_ _)); refine blk_put (cs := #[.int .i64 0, .int .i64 0, .int .i64 4096, .int .i64 0, .int .i64 0, .int .i64 0, .int .i64 0, .int .i64 0, .int .i64 0, .int .i64 0, .int .i64 0, .int .u32 0]) ?_ 3 _ rfl; (with_reducible repeat (first | refine blk_drewN ?_ _ | refine blk_drew ?_ | refine blk_alloc ?_ _)); refine blk_put (cs := #[.int .i64 0, .int .i64 0, .int .i64 0, .int .i64 0, .int .i64 0, .int .i64 0, .int .i64 0, .int .i64 0, .int .i64 0, .int .i64 0, .int .i64 0, .int .u32 0]) ?_ 2 _ rfl; (with_reducible repeat (first | refine blk_drewN ?_ _ | refine blk_drew ?_ | refine blk_alloc ?_ _)); refine blk_put (cs := #[.int .i64 0, .int .i64 0, .int .i64 0, .int .i64 0, .int .i64 0, .int .i64 0, .int .i64 0, .int .i64 0, .int .i64 0, .int .i64 0, .int .i64 0, .int .u32 0]) ?_ 1 _ rfl; (with_reducible repeat (first | refine blk_drewN ?_ _ | refine blk_drew ?_ | refine blk_alloc ?_ _)); refine blk_put (cs := #[.int .i64 0, .int .i64 0, .int .i64 0, .int .i64 0, .int .i64 0, .int .i64 0, .int .i64 0, .int .i64 0, .int .i64 0, .int .i64 0, .int .i64 0, .int .u32 0]) ?_ 0 _ rfl; (with_reducible repeat (first | refine blk_drewN ?_ _ | refine blk_drew ?_ | refine blk_alloc ?_ _)); exact BK140.out) Tryd.underlying46 rfl (by kernel_rfl)) rfl ?_
  exact ⟨by first | rfl | (simp [errW_none, errW_some] <;> rfl) | (simp [*, errW_none, errW_some] <;> rfl), by repeat (first | (with_reducible first | exact HB.out | apply below_alloc | apply pw_below_drewN | apply below_drew1 | refine below_set ?_ GE140.out) | exact HB.out)⟩

-- NOT PRINTED: function 16 (leadlinelaw27_known)

/-! ### leadlineref10_far: function 46 -/
def leadlineref10_far.f (a0 : Int) (a1 : Int) : Option (Bool) := if a0 > a1 then (some true) else (some (decide (a0 < (wrap64 (-a1)))))
set_option maxHeartbeats 8000000 in
set_option maxRecDepth 100000 in
theorem leadlineref10_far.calls (a0 : Int) (a1 : Int) (r : Bool) (w : World) (h : leadlineref10_far.f a0 a1 = some r) :
    Calls Tryd.prog 46 #[.int .i64 a0, .int .i64 a1] w fun e w' => e = .returned (.bool r) ∧ Drawn0 w w' := by
  have H : (if a0 > a1 then (some true) else (some (decide (a0 < (wrap64 (-a1)))))) = some r := h
  clear h
  by_cases c3 : a0 > a1
  · rw [if_pos c3] at H
    have c3b0 : decide (a1 < a0) = true := decide_eq_true c3
    clear c3
    obtain rfl := Option.some.inj H
    go_enter Tryd.func46, Tryd.ntmps46
    go_wp2
    go_ret
    exact ⟨by first | rfl | (simp; done) | (simp [*]; done) | (simp [nb1_, nb2_]; done), by repeat (first | exact Drawn0.refl _ | apply Drawn0.step)⟩
  · rw [if_neg c3] at H
    have c3b0 : decide (a1 < a0) = false := decide_eq_false c3
    clear c3
    obtain rfl := Option.some.inj H
    go_enter Tryd.func46, Tryd.ntmps46
    go_wp2
    go_ret
    exact ⟨by first | rfl | (simp; done) | (simp [*]; done) | (simp [nb1_, nb2_]; done), by repeat (first | exact Drawn0.refl _ | apply Drawn0.step)⟩

/-! ### leadlineref10_Away: function 37 -/
def leadlineref10_Away.f (a0_0 : Int) (a0_1 : Int) : Option (Bool) := (leadlineref10_far.f a0_0 4194304).bind fun t154 => (if t154 = true then (some true) else ((leadlineref10_far.f a0_1 4194304).bind fun t155 => (some t155)))
set_option maxHeartbeats 8000000 in
set_option maxRecDepth 100000 in
theorem leadlineref10_Away.calls (a0_0 : Int) (a0_1 : Int) (r : Bool) (w : World) (h : leadlineref10_Away.f a0_0 a0_1 = some r) :
    Calls Tryd.prog 37 #[.agg #[.int .i64 a0_0, .int .i64 a0_1]] w fun e w' => e = .returned (.bool r) ∧ Below w.heap.size w w' := by
  have hu44 := Tryd.underlying44
  have HB := Aside0.mk (Below.refl w.heap.size w)
  have H : ((leadlineref10_far.f a0_0 4194304).bind fun t154 => (if t154 = true then (some true) else ((leadlineref10_far.f a0_1 4194304).bind fun t155 => (some t155)))) = some r := h
  clear h
  replace H := Option.bind_eq_some_iff.mp H
  obtain ⟨t154, A20, H⟩ := H
  replace H : (if t154 = true then (some true) else ((leadlineref10_far.f a0_1 4194304).bind fun t155 => (some t155))) = some r := H
  have A2 := Aside0.mk A20
  clear A20
  by_cases c3 : t154 = true
  · subst c3
    have H1 : (some true) = some r := by rw [if_pos rfl] at H; exact H
    clear H
    have H := H1
    clear H1
    obtain rfl := Option.some.inj H
    go_enter Tryd.func37, Tryd.ntmps37
    go_wp2_with (first | ((with_reducible refine gate_dst (N := 1) rfl ?_); refine box_event ?hg (N := 1) ?hd (cs := #[.int .i64 a0_0, .int .i64 a0_1]) (t := 44) ?hr ?_; (case hd => rfl); (case hg => rfl); (case hr => first | (go_simp; done) | (go_simp; rfl)); intro gb153 hg w4 hbox hb; have n0_ := Aside0.mk (below_step (by repeat (first | (with_reducible first | exact HB.out | apply below_alloc | apply pw_below_drewN | apply below_drew1) | exact HB.out)) hb); have n1_ := Aside0.mk (hbox); have n2_ := Aside0.mk ((by rw [hg]; exact (below_size (by repeat (first | (with_reducible first | exact HB.out | apply below_alloc | apply pw_below_drewN | apply below_drew1) | exact HB.out))) : w.heap.size ≤ gb153)); have n3_ := Aside0.mk ((by rw [hg]; exact (below_size (by repeat (first | (with_reducible first | exact HB.out | apply below_alloc | apply pw_below_drewN | apply below_drew1) | exact HB.out))) : w.heap.size ≤ gb153)); clear HB; have HB := n0_; have BK153 := n1_; have GW153 := n2_; have GE153 := n3_; clear n0_ n1_ n2_ n3_; clear hb hbox hg; have hcz5_0 : w4.cell? ⟨gb153, 0, none⟩ = some (.int .i64 a0_0) := (blk_cell BK153.out 0).trans rfl; have hcz5_1 : w4.cell? ⟨gb153, 1, none⟩ = some (.int .i64 a0_1) := (blk_cell BK153.out 1).trans rfl; have hfz5_0 := blk_frozen BK153.out 0; have hfz5_1 := blk_frozen BK153.out 1) | ((with_reducible refine gate_callee (f := 46) rfl ?_); refine goesL_ (some 5) rfl rfl Tryd.func46 (by kernel_rfl) rfl #[.int .i64 a0_0, .int .i64 4194304] rfl (by (try simp only [List.map_toArray, List.map_cons, List.map_nil]); first | done | rfl | (simp only [List.length_drop, List.length_take]; rfl)) ?_; (with_reducible refine (leadlineref10_far.calls a0_0 4194304 true _ A2.out).mono ?_); rintro e w' ⟨rfl, ⟨nd, rfl⟩⟩; refine ⟨_, rfl, ?_⟩))
    go_ret
    exact ⟨by first | rfl | (simp [errW_none, errW_some] <;> rfl) | (simp [*, errW_none, errW_some] <;> rfl), by repeat (first | (with_reducible first | exact HB.out | apply below_alloc | apply pw_below_drewN | apply below_drew1 | refine below_set ?_ GE153.out) | exact HB.out)⟩
  · replace c3 := Bool.eq_false_iff.mpr c3
    subst c3
    have H1 : ((leadlineref10_far.f a0_1 4194304).bind fun t155 => (some t155)) = some r := by rw [if_neg (show ¬ (false = true) by decide)] at H; exact H
    clear H
    have H := H1
    clear H1
    replace H := Option.bind_eq_some_iff.mp H
    obtain ⟨t155, A60, H⟩ := H
    replace H : (some t155) = some r := H
    have A6 := Aside0.mk A60
    clear A60
    obtain rfl := Option.some.inj H
    go_enter Tryd.func37, Tryd.ntmps37
    go_wp2_with (first | ((with_reducible refine gate_dst (N := 1) rfl ?_); refine box_event ?hg (N := 1) ?hd (cs := #[.int .i64 a0_0, .int .i64 a0_1]) (t := 44) ?hr ?_; (case hd => rfl); (case hg => rfl); (case hr => first | (go_simp; done) | (go_simp; rfl)); intro gb153 hg w7 hbox hb; have n0_ := Aside0.mk (below_step (by repeat (first | (with_reducible first | exact HB.out | apply below_alloc | apply pw_below_drewN | apply below_drew1) | exact HB.out)) hb); have n1_ := Aside0.mk (hbox); have n2_ := Aside0.mk ((by rw [hg]; exact (below_size (by repeat (first | (with_reducible first | exact HB.out | apply below_alloc | apply pw_below_drewN | apply below_drew1) | exact HB.out))) : w.heap.size ≤ gb153)); have n3_ := Aside0.mk ((by rw [hg]; exact (below_size (by repeat (first | (with_reducible first | exact HB.out | apply below_alloc | apply pw_below_drewN | apply below_drew1) | exact HB.out))) : w.heap.size ≤ gb153)); clear HB; have HB := n0_; have BK153 := n1_; have GW153 := n2_; have GE153 := n3_; clear n0_ n1_ n2_ n3_; clear hb hbox hg; have hcz8_0 : w7.cell? ⟨gb153, 0, none⟩ = some (.int .i64 a0_0) := (blk_cell BK153.out 0).trans rfl; have hcz8_1 : w7.cell? ⟨gb153, 1, none⟩ = some (.int .i64 a0_1) := (blk_cell BK153.out 1).trans rfl; have hfz8_0 := blk_frozen BK153.out 0; have hfz8_1 := blk_frozen BK153.out 1) | ((with_reducible refine gate_callee (f := 46) rfl ?_); refine goesL_ (some 5) rfl rfl Tryd.func46 (by kernel_rfl) rfl #[.int .i64 a0_0, .int .i64 4194304] rfl (by (try simp only [List.map_toArray, List.map_cons, List.map_nil]); first | done | rfl | (simp only [List.length_drop, List.length_take]; rfl)) ?_; (with_reducible refine (leadlineref10_far.calls a0_0 4194304 false _ A2.out).mono ?_); rintro e w' ⟨rfl, ⟨nd, rfl⟩⟩; refine ⟨_, rfl, ?_⟩) | (go_at_call 46; (with_reducible refine (leadlineref10_far.calls a0_1 4194304 t155 _ A6.out).mono ?_); rintro e w' ⟨rfl, ⟨nd, rfl⟩⟩))
    go_ret
    exact ⟨by first | rfl | (simp [errW_none, errW_some] <;> rfl) | (simp [*, errW_none, errW_some] <;> rfl), by repeat (first | (with_reducible first | exact HB.out | apply below_alloc | apply pw_below_drewN | apply below_drew1 | refine below_set ?_ GE153.out) | exact HB.out)⟩

/-! ### leadlineref28_in: function 38 -/
def leadlineref28_in.f (a0 : Int) (a1 : Int) (a2 : Int) : Option (Bool) := if a0 ≥ a1 then (some (decide (a0 ≤ a2))) else (some false)
set_option maxHeartbeats 8000000 in
set_option maxRecDepth 100000 in
theorem leadlineref28_in.calls (a0 : Int) (a1 : Int) (a2 : Int) (r : Bool) (w : World) (h : leadlineref28_in.f a0 a1 a2 = some r) :
    Calls Tryd.prog 38 #[.int .i64 a0, .int .i64 a1, .int .i64 a2] w fun e w' => e = .returned (.bool r) ∧ Drawn0 w w' := by
  have H : (if a0 ≥ a1 then (some (decide (a0 ≤ a2))) else (some false)) = some r := h
  clear h
  by_cases c4 : a0 ≥ a1
  · rw [if_pos c4] at H
    have c4b0 : decide (a1 ≤ a0) = true := decide_eq_true c4
    clear c4
    obtain rfl := Option.some.inj H
    go_enter Tryd.func38, Tryd.ntmps38
    go_wp2
    go_ret
    exact ⟨by first | rfl | (simp; done) | (simp [*]; done) | (simp [nb1_, nb2_]; done), by repeat (first | exact Drawn0.refl _ | apply Drawn0.step)⟩
  · rw [if_neg c4] at H
    have c4b0 : decide (a1 ≤ a0) = false := decide_eq_false c4
    clear c4
    obtain rfl := Option.some.inj H
    go_enter Tryd.func38, Tryd.ntmps38
    go_wp2
    go_ret
    exact ⟨by first | rfl | (simp; done) | (simp [*]; done) | (simp [nb1_, nb2_]; done), by repeat (first | exact Drawn0.refl _ | apply Drawn0.step)⟩

end Go.Proofs.YtbfflffekdadnaaDoor.QCf
