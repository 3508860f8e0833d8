/- The row and the card of DeadTells: true whatever the input. Written by a program of this session. -/
import Derived.Test.YtaiolioggjknfaaDoorYDeadTells
import Derived.Test.YtaiolioggjknfaaDoorYLaid
import Derived.Test.YtaiolioggjknfaaDoorYOpen
import Derived.Test.YtaiolioggjknfaaDoorCards
import Derived.Test.YtaiolioggjknfaaDoorTie
import Derived.SevenTiedAt
import Derived.Carry
namespace Go.Proofs.YtaiolioggjknfaaDoor
open Go.ChangeShapes Go.WideShapes Go.ChangeAt Go.RowKit
set_option linter.unusedVariables false
theorem deadTells_laidOut : laidOutB Tryd.prog = true := by kernel_rfl
set_option maxRecDepth 100000 in
set_option maxHeartbeats 1000000 in
theorem deadTells_lifted (os : Os) (started : os.Started) (H : Type) (enc : TypeId × Value → H) :
    ReturnsInHanded {} Tryd.checked os 11 .any (fun w args => (Rows.deadTellsSpec.pre enc Tryd.prog Tryd.f11 [] false w args ∧ laidMetH Tryd.prog laidVars w) ∧ sizedMet enc Tryd.prog Tryd.f11 (OpenSpec.ofChange Rows.deadTellsSpec) false w args)
      (Rows.deadTellsSpec.post enc Tryd.prog Tryd.f11 false true false false) := by
  refine returnsInHanded_of_change_and (C := Tryd.checked) (X := fun w _ => laidMetH Tryd.prog laidVars w) (fun _ _ _ hh h => h.of_heap hh) Tryd.own started (by kernel_rfl) Tryd.func11
    (ChangeSpec.witness_at (enc := enc) (C := Tryd.checked) (os := os) (X := fun w _ => laidMetH Tryd.prog laidVars w) false (laidWorld os) #[.int .u16 0, .int .i64 0, .int .i64 0, .int .u32 0, .agg #[.int .i64 0, .int .i64 0], .agg #[.int .i64 0, .int .i64 0], .bool false] 8 rfl (by kernel_rfl) (by kernel_rfl) (by kernel_rfl) (by kernel_rfl) (by kernel_rfl) (laidWorld_met os _)) ?_
  intro W base args ds gs before hval0 hW _ _ hL _
  have hval : ∀ (j : Nat) t v, Tryd.f11.params[j]? = some t → args[j]? = some v → Value.okWide Tryd.prog W .any base t v := hval0
  have hW' := hW
  obtain ⟨p, q, hA0, hV, rfl, hfz, hnd⟩ := hW
  have hA : DataW.TrodAll enc Tryd.prog W 0 (fun _ => true) true Tryd.f11.params.toList args.toList ds p := hA0
  rw [Tryd.params11] at hA hval
  obtain ⟨v0, vs0, d0, ds0, p0, q0, hargs, rfl, rfl, h0, r0⟩ := trodAll_cons hA
  obtain ⟨v1, vs1, d1, ds1, p1, q1, rfl, rfl, rfl, h1, r1⟩ := trodAll_cons r0
  obtain ⟨v2, vs2, d2, ds2, p2, q2, rfl, rfl, rfl, h2, r2⟩ := trodAll_cons r1
  obtain ⟨v3, vs3, d3, ds3, p3, q3, rfl, rfl, rfl, h3, r3⟩ := trodAll_cons r2
  obtain ⟨v4, vs4, d4, ds4, p4, q4, rfl, rfl, rfl, h4, r4⟩ := trodAll_cons r3
  obtain ⟨v5, vs5, d5, ds5, p5, q5, rfl, rfl, rfl, h5, r5⟩ := trodAll_cons r4
  obtain ⟨v6, vs6, d6, ds6, p6, q6, rfl, rfl, rfl, h6, r6⟩ := trodAll_cons r5
  obtain ⟨rfl, rfl, rfl⟩ := trodAll_nil r6
  obtain rfl : args = #[v0, v1, v2, v3, v4, v5, v6] := by cases args; simp_all
  obtain ⟨rfl, rfl⟩ := trodVars_none hV
  obtain ⟨a0, rfl, rfl, rfl, w0⟩ := open_int Tryd.underlying29 (hval 0 29 v0 rfl rfl) h0
  obtain ⟨a1, rfl, rfl, rfl, w1⟩ := open_int Tryd.underlying2 (hval 1 2 v1 rfl rfl) h1
  obtain ⟨a2, rfl, rfl, rfl, w2⟩ := open_int Tryd.underlying2 (hval 2 2 v2 rfl rfl) h2
  obtain ⟨a3, rfl, rfl, rfl, w3⟩ := open_int Tryd.underlying22 (hval 3 22 v3 rfl rfl) h3
  obtain ⟨cs4, rfl, hsz4, hc4⟩ := YOpen.agg_cells [2, 2] (by kernel_rfl) (by kernel_rfl) (by kernel_rfl) (hval 4 35 v4 rfl rfl)
  obtain ⟨x4_0, hx4_0, hy4_0⟩ := hc4 0 2 rfl
  obtain ⟨a4_0, rfl, w4_0⟩ := YOpen.int_cell Tryd.underlying2 hy4_0
  obtain ⟨x4_1, hx4_1, hy4_1⟩ := hc4 1 2 rfl
  obtain ⟨a4_1, rfl, w4_1⟩ := YOpen.int_cell Tryd.underlying2 hy4_1
  obtain rfl : cs4 = #[.int .i64 a4_0, .int .i64 a4_1] := by
    apply Array.ext_getElem?
    intro i
    rcases i with _ | i
    · rw [hx4_0]; rfl
    rcases i with _ | i
    · rw [hx4_1]; rfl
    rw [Array.getElem?_eq_none (by rw [hsz4]; simp), Array.getElem?_eq_none (by simp)]
  obtain ⟨cs5, rfl, hsz5, hc5⟩ := YOpen.agg_cells [2, 2] (by kernel_rfl) (by kernel_rfl) (by kernel_rfl) (hval 5 35 v5 rfl rfl)
  obtain ⟨x5_0, hx5_0, hy5_0⟩ := hc5 0 2 rfl
  obtain ⟨a5_0, rfl, w5_0⟩ := YOpen.int_cell Tryd.underlying2 hy5_0
  obtain ⟨x5_1, hx5_1, hy5_1⟩ := hc5 1 2 rfl
  obtain ⟨a5_1, rfl, w5_1⟩ := YOpen.int_cell Tryd.underlying2 hy5_1
  obtain rfl : cs5 = #[.int .i64 a5_0, .int .i64 a5_1] := by
    apply Array.ext_getElem?
    intro i
    rcases i with _ | i
    · rw [hx5_0]; rfl
    rcases i with _ | i
    · rw [hx5_1]; rfl
    rw [Array.getElem?_eq_none (by rw [hsz5]; simp), Array.getElem?_eq_none (by simp)]
  obtain ⟨a6, rfl, rfl, rfl⟩ := open_bool Tryd.underlying4 (hval 6 4 v6 rfl rfl) h6
  clear hA0 hval0
  refine (YDead.DeadTells_law a0 a1 a2 a3 a4_0 a4_1 a5_0 a5_1 a6 W (handle_of_laid hL) w0 w1 w2 w3 w4_0 w4_1 w5_0 w5_1).mono fun e W' ⟨he, bel⟩ => ?_
  subst he
  have k4 : DataW.Trod enc Tryd.prog W' 0 (fun b => decide (b < W.heap.size)) true 35 _ d4 p4 := Below.trod deadTells_laidOut (by kernel_rfl) (of_decide_eq_true (by kernel_rfl)) h4 bel (fun x hx => by have := hW'.lt x; simp at this; first | exact this hx | exact this (by simp [hx]) | simp_all)
  have k5 : DataW.Trod enc Tryd.prog W' 0 (fun b => decide (b < W.heap.size)) true 35 _ d5 p5 := Below.trod deadTells_laidOut (by kernel_rfl) (of_decide_eq_true (by kernel_rfl)) h5 bel (fun x hx => by have := hW'.lt x; simp at this; first | exact this hx | exact this (by simp [hx]) | simp_all)
  exact ⟨_, rfl, _, _, _, [], _, [], hW', trodAll_mk1 (shut_bool Tryd.underlying4 _), (trodAll_cons_mk (shut_int Tryd.underlying29 w0) (trodAll_cons_mk (shut_int Tryd.underlying2 w1) (trodAll_cons_mk (shut_int Tryd.underlying2 w2) (trodAll_cons_mk (shut_int Tryd.underlying22 w3) (trodAll_cons_mk (k4) (trodAll_cons_mk (k5) (trodAll_cons_mk (shut_bool Tryd.underlying4 _) trodAll_mk0))))))), rfl, bel.frame _, fun h => by cases h⟩
theorem deadTells_row : Rows.DeadTellsSaid :=
  OpenClaim.holds_of_wide 11 Tryd.f11 rfl rfl rfl rfl rfl rfl rfl ⟨rfl, rfl, rfl, rfl, rfl⟩ rfl rfl rfl rfl rfl (by kernel_rfl) Tryd.func11 (by kernel_rfl)
    (of_decide_eq_true (by kernel_rfl)) (by unfold Func.isWrapper; first | (rw [if_pos (by decide +kernel)]; kernel_rfl) | (rw [if_neg (by decide +kernel)]; exact ⟨rfl, rfl⟩))
    (fun os started H enc _ => deadTells_lifted os started H enc)
/-- THE CARD. -/
theorem deadTells_holds : Rows.DeadTellsCardSaid :=
  Claim7.holds_tied_plain_at .later [] [.handle] true (true, "cf1cd93ed22b7754dc73b5c40617a8d8a51ab6d08d28967bd7f4b9ac475f7174") true
    deadTells_row (fun _ h => by cases h) (by kernel_rfl) (fun _ h => by cases h) deadTells_row_tie rfl ⟨rfl, rfl⟩ (by kernel_rfl) rfl
    (fun f fn hf hfn => by
      obtain rfl : f = 11 := Option.some.inj ((show Tryd.prog.funcNamed "leadline/leadlinelaw15.DeadTells" = some 11 by kernel_rfl).symm.trans hf) |>.symm
      obtain rfl : fn = Tryd.f11 := (Option.some.inj (Tryd.func11.symm.trans hfn)).symm
      exact ⟨by kernel_rfl, fun j t ht => by
        rw [Tryd.params11] at ht
        have ht' : t ∈ [29, 2, 2, 22, 35, 35, 4] := by
          have := Array.mem_of_getElem? ht
          simpa using this
        simp only [List.mem_cons, List.not_mem_nil, or_false] at ht'
        rcases ht' with rfl | rfl | rfl | rfl | rfl | rfl | rfl
        · exact (show Tryd.prog.wantsStandIn 29 = false by kernel_rfl)
        · exact (show Tryd.prog.wantsStandIn 2 = false by kernel_rfl)
        · exact (show Tryd.prog.wantsStandIn 2 = false by kernel_rfl)
        · exact (show Tryd.prog.wantsStandIn 22 = false by kernel_rfl)
        · exact (show Tryd.prog.wantsStandIn 35 = false by kernel_rfl)
        · exact (show Tryd.prog.wantsStandIn 35 = false by kernel_rfl)
        · exact (show Tryd.prog.wantsStandIn 4 = false by kernel_rfl)⟩)
    (by kernel_rfl)
#print axioms deadTells_holds
end Go.Proofs.YtaiolioggjknfaaDoor
