/- The row of the statement. No condition. -/
import Derived.Test.YtaiolioggjknfaaDoorLYLineTellsA
import Derived.Test.YtaiolioggjknfaaDoorLYLaid
import Derived.Test.YtaiolioggjknfaaDoorLYOpen
import Derived.Test.YtaiolioggjknfaaDoorCards
import Derived.Test.YtaiolioggjknfaaDoorTie
import Derived.SevenTiedAt
import Derived.Carry
import Derived.ChangeMaps5
import Derived.SizedLaws
namespace Go.Proofs.YtaiolioggjknfaaDoor
open Go.ChangeShapes Go.WideShapes Go.ChangeAt Go.RowKit
set_option linter.unusedVariables false
theorem lineTells_laidOut : laidOutB Tryd.prog = true := by kernel_rfl
set_option maxRecDepth 100000 in
set_option maxHeartbeats 1000000 in
theorem lineTells_lifted (os : Os) (started : os.Started) (H : Type) (enc : TypeId × Value → H) :
    ReturnsInHanded {} Tryd.checked os 13 .any (fun w args => (Rows.lineTellsSpec.pre enc Tryd.prog Tryd.f13 [] false w args ∧ laidMetH Tryd.prog laidVars w) ∧ sizedMet enc Tryd.prog Tryd.f13 (OpenSpec.ofChange Rows.lineTellsSpec) false w args)
      (Rows.lineTellsSpec.post enc Tryd.prog Tryd.f13 false true false false) := by
  refine returnsInHanded_of_change_and (C := Tryd.checked) (X := fun w _ => laidMetH Tryd.prog laidVars w) (fun _ _ _ hh h => h.of_heap hh) Tryd.own started (by kernel_rfl) Tryd.func13
    (ChangeSpec.witness_at (enc := enc) (C := Tryd.checked) (os := os) (X := fun w _ => laidMetH Tryd.prog laidVars w) false (laidWorld os) #[.agg #[.int .i64 0, .int .i64 0], .agg #[.int .i64 0, .int .i64 0], .int .i64 0, .int .i64 0, .agg #[.int .i64 0, .int .i64 0], .bool false] 8 rfl (by kernel_rfl) (by kernel_rfl) (by kernel_rfl) (by kernel_rfl) (by kernel_rfl) (laidWorld_met os _)) ?_
  intro W base args ds gs before hval0 hW _ hR hL _
  have hval : ∀ (j : Nat) t v, Tryd.f13.params[j]? = some t → args[j]? = some v → Value.okWide Tryd.prog W .any base t v := hval0
  have hW' := hW
  obtain ⟨p, q, hA0, hV, rfl, hfz, hnd⟩ := hW
  have hA : DataW.TrodAll enc Tryd.prog W 0 (fun _ => true) true Tryd.f13.params.toList args.toList ds p := hA0
  rw [Tryd.params13] at hA hval
  obtain ⟨v0, vs0, d0, ds0, p0, q0, hargs, rfl, rfl, h0, r0⟩ := trodAll_cons hA
  obtain ⟨v1, vs1, d1, ds1, p1, q1, rfl, rfl, rfl, h1, r1⟩ := trodAll_cons r0
  obtain ⟨v2, vs2, d2, ds2, p2, q2, rfl, rfl, rfl, h2, r2⟩ := trodAll_cons r1
  obtain ⟨v3, vs3, d3, ds3, p3, q3, rfl, rfl, rfl, h3, r3⟩ := trodAll_cons r2
  obtain ⟨v4, vs4, d4, ds4, p4, q4, rfl, rfl, rfl, h4, r4⟩ := trodAll_cons r3
  obtain ⟨v5, vs5, d5, ds5, p5, q5, rfl, rfl, rfl, h5, r5⟩ := trodAll_cons r4
  obtain ⟨rfl, rfl, rfl⟩ := trodAll_nil r5
  obtain rfl : args = #[v0, v1, v2, v3, v4, v5] := by cases args; simp_all
  obtain ⟨rfl, rfl⟩ := trodVars_none hV
  obtain ⟨cs0, rfl, hsz0, hc0⟩ := YOpen.agg_cells [2, 2] (by kernel_rfl) (by kernel_rfl) (by kernel_rfl) (hval 0 35 v0 rfl rfl)
  obtain ⟨x0_0, hx0_0, hy0_0⟩ := hc0 0 2 rfl
  obtain ⟨a0_0, rfl, w0_0⟩ := YOpen.int_cell Tryd.underlying2 hy0_0
  obtain ⟨x0_1, hx0_1, hy0_1⟩ := hc0 1 2 rfl
  obtain ⟨a0_1, rfl, w0_1⟩ := YOpen.int_cell Tryd.underlying2 hy0_1
  obtain rfl : cs0 = #[.int .i64 a0_0, .int .i64 a0_1] := by
    apply Array.ext_getElem?
    intro i
    rcases i with _ | i
    · rw [hx0_0]; rfl
    rcases i with _ | i
    · rw [hx0_1]; rfl
    rw [Array.getElem?_eq_none (by rw [hsz0]; simp), Array.getElem?_eq_none (by simp)]
  obtain ⟨cs1, rfl, hsz1, hc1⟩ := YOpen.agg_cells [2, 2] (by kernel_rfl) (by kernel_rfl) (by kernel_rfl) (hval 1 35 v1 rfl rfl)
  obtain ⟨x1_0, hx1_0, hy1_0⟩ := hc1 0 2 rfl
  obtain ⟨a1_0, rfl, w1_0⟩ := YOpen.int_cell Tryd.underlying2 hy1_0
  obtain ⟨x1_1, hx1_1, hy1_1⟩ := hc1 1 2 rfl
  obtain ⟨a1_1, rfl, w1_1⟩ := YOpen.int_cell Tryd.underlying2 hy1_1
  obtain rfl : cs1 = #[.int .i64 a1_0, .int .i64 a1_1] := by
    apply Array.ext_getElem?
    intro i
    rcases i with _ | i
    · rw [hx1_0]; rfl
    rcases i with _ | i
    · rw [hx1_1]; rfl
    rw [Array.getElem?_eq_none (by rw [hsz1]; simp), Array.getElem?_eq_none (by simp)]
  obtain ⟨a2, rfl, rfl, rfl, w2⟩ := open_int Tryd.underlying3 (hval 2 3 v2 rfl rfl) h2
  obtain ⟨a3, rfl, rfl, rfl, w3⟩ := open_int Tryd.underlying3 (hval 3 3 v3 rfl rfl) h3
  obtain ⟨cs4, rfl, hsz4, hc4⟩ := YOpen.agg_cells [2, 2] (by kernel_rfl) (by kernel_rfl) (by kernel_rfl) (hval 4 39 v4 rfl rfl)
  obtain ⟨x4_0, hx4_0, hy4_0⟩ := hc4 0 2 rfl
  obtain ⟨a4_0, rfl, w4_0⟩ := YOpen.int_cell Tryd.underlying2 hy4_0
  obtain ⟨x4_1, hx4_1, hy4_1⟩ := hc4 1 2 rfl
  obtain ⟨a4_1, rfl, w4_1⟩ := YOpen.int_cell Tryd.underlying2 hy4_1
  obtain rfl : cs4 = #[.int .i64 a4_0, .int .i64 a4_1] := by
    apply Array.ext_getElem?
    intro i
    rcases i with _ | i
    · rw [hx4_0]; rfl
    rcases i with _ | i
    · rw [hx4_1]; rfl
    rw [Array.getElem?_eq_none (by rw [hsz4]; simp), Array.getElem?_eq_none (by simp)]
  obtain ⟨a5, rfl, rfl, rfl⟩ := open_bool Tryd.underlying4 (hval 5 4 v5 rfl rfl) h5
  clear hA0 hval0
  refine (YLine.LineTells_law a0_0 a0_1 a1_0 a1_1 a2 a3 a4_0 a4_1 a5 W (handle_of_laid hL) w0_0 w0_1 w1_0 w1_1 w2 w3 w4_0 w4_1).mono fun e W' ⟨he, bel⟩ => ?_
  subst he
  have k0 : DataW.Trod enc Tryd.prog W' 0 (fun b => decide (b < W.heap.size)) true 35 _ d0 p0 := Below.trod lineTells_laidOut (by kernel_rfl) (of_decide_eq_true (by kernel_rfl)) h0 bel (fun x hx => by have := hW'.lt x; simp at this; first | exact this hx | exact this (by simp [hx]) | simp_all)
  have k1 : DataW.Trod enc Tryd.prog W' 0 (fun b => decide (b < W.heap.size)) true 35 _ d1 p1 := Below.trod lineTells_laidOut (by kernel_rfl) (of_decide_eq_true (by kernel_rfl)) h1 bel (fun x hx => by have := hW'.lt x; simp at this; first | exact this hx | exact this (by simp [hx]) | simp_all)
  have k4 : DataW.Trod enc Tryd.prog W' 0 (fun b => decide (b < W.heap.size)) true 39 _ d4 p4 := Below.trod lineTells_laidOut (by kernel_rfl) (of_decide_eq_true (by kernel_rfl)) h4 bel (fun x hx => by have := hW'.lt x; simp at this; first | exact this hx | exact this (by simp [hx]) | simp_all)
  exact ⟨_, rfl, _, _, _, [], _, [], hW', trodAll_mk1 (shut_bool Tryd.underlying4 _), (trodAll_cons_mk (k0) (trodAll_cons_mk (k1) (trodAll_cons_mk (shut_int Tryd.underlying3 w2) (trodAll_cons_mk (shut_int Tryd.underlying3 w3) (trodAll_cons_mk (k4) (trodAll_cons_mk (shut_bool Tryd.underlying4 _) trodAll_mk0)))))), rfl, bel.frame _, fun h => by cases h⟩
theorem lineTells_row : Rows.LineTellsSaid :=
  OpenClaim.holds_of_wide 13 Tryd.f13 rfl rfl rfl rfl rfl rfl rfl ⟨rfl, rfl, rfl, rfl, rfl⟩ rfl rfl rfl rfl rfl (by kernel_rfl) Tryd.func13 (by kernel_rfl)
    (of_decide_eq_true (by kernel_rfl)) (by unfold Func.isWrapper; first | (rw [if_pos (by decide +kernel)]; kernel_rfl) | (rw [if_neg (by decide +kernel)]; exact ⟨rfl, rfl⟩))
    (fun os started H enc _ => lineTells_lifted os started H enc)
/-- THE CARD. -/
theorem lineTells_holds : Rows.LineTellsCardSaid :=
  Claim7.holds_tied_plain_at .later [] [.handle] true (true, "cf1cd93ed22b7754dc73b5c40617a8d8a51ab6d08d28967bd7f4b9ac475f7174") true
    lineTells_row (fun _ h => by cases h) (by kernel_rfl) (fun _ h => by cases h) lineTells_row_tie rfl ⟨rfl, rfl⟩ (by kernel_rfl) rfl
    (fun f fn hf hfn => by
      obtain rfl : f = 13 := Option.some.inj ((show Tryd.prog.funcNamed "leadline/leadlinelaw16.LineTells" = some 13 by kernel_rfl).symm.trans hf) |>.symm
      obtain rfl : fn = Tryd.f13 := (Option.some.inj (Tryd.func13.symm.trans hfn)).symm
      exact ⟨by kernel_rfl, fun j t ht => by
        rw [Tryd.params13] at ht
        have ht' : t ∈ [35, 35, 3, 3, 39, 4] := by
          have := Array.mem_of_getElem? ht
          simpa using this
        simp only [List.mem_cons, List.not_mem_nil, or_false] at ht'
        rcases ht' with rfl | rfl | rfl | rfl | rfl | rfl
        · exact (show Tryd.prog.wantsStandIn 35 = false by kernel_rfl)
        · exact (show Tryd.prog.wantsStandIn 35 = false by kernel_rfl)
        · exact (show Tryd.prog.wantsStandIn 3 = false by kernel_rfl)
        · exact (show Tryd.prog.wantsStandIn 3 = false by kernel_rfl)
        · exact (show Tryd.prog.wantsStandIn 39 = false by kernel_rfl)
        · exact (show Tryd.prog.wantsStandIn 4 = false by kernel_rfl)⟩)
    (by kernel_rfl)
#print axioms lineTells_holds
end Go.Proofs.YtaiolioggjknfaaDoor
