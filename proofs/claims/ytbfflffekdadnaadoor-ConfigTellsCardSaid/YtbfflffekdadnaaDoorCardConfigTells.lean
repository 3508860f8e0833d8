/- The row and the card of ConfigTells: true whatever the input. Written by a program of this session. -/
import Derived.Test.YtbfflffekdadnaaDoorYConfTells
import Derived.Test.YtbfflffekdadnaaDoorYLaid
import Derived.Test.YtbfflffekdadnaaDoorYOpen
import Derived.Test.YtbfflffekdadnaaDoorCards
import Derived.Test.YtbfflffekdadnaaDoorTie
import Derived.SevenTiedAt
import Derived.Carry
namespace Go.Proofs.YtbfflffekdadnaaDoor
open Go.ChangeShapes Go.WideShapes Go.ChangeAt Go.RowKit
set_option linter.unusedVariables false
theorem configTells_laidOut : laidOutB Tryd.prog = true := by kernel_rfl
set_option maxRecDepth 100000 in
set_option maxHeartbeats 1000000 in
theorem configTells_lifted (os : Os) (started : os.Started) (H : Type) (enc : TypeId × Value → H) :
    ReturnsInHanded {} Tryd.checked os 5 .any (fun w args => (Rows.configTellsSpec.pre enc Tryd.prog Tryd.f5 [] false w args ∧ laidMetH Tryd.prog laidVars w) ∧ sizedMet enc Tryd.prog Tryd.f5 (OpenSpec.ofChange Rows.configTellsSpec) false w args)
      (Rows.configTellsSpec.post enc Tryd.prog Tryd.f5 false true false false) := by
  refine returnsInHanded_of_change_and (C := Tryd.checked) (X := fun w _ => laidMetH Tryd.prog laidVars w) (fun _ _ _ hh h => h.of_heap hh) Tryd.own started (by kernel_rfl) Tryd.func5
    (ChangeSpec.witness_at (enc := enc) (C := Tryd.checked) (os := os) (X := fun w _ => laidMetH Tryd.prog laidVars w) false (laidWorld os) #[.agg #[.int .i64 0, .int .i64 0, .int .i64 0, .int .i64 0, .int .i64 0, .int .i64 0, .int .i64 0, .int .i64 0, .int .i64 0, .int .i64 0, .int .i64 0, .int .u32 0], .int .u8 0, .int .u8 0, .int .i64 0, .int .i64 0, .int .i64 0] 8 rfl (by kernel_rfl) (by kernel_rfl) (by kernel_rfl) (by kernel_rfl) (by kernel_rfl) (laidWorld_met os _)) ?_
  intro W base args ds gs before hval0 hW _ _ hL _
  have hval : ∀ (j : Nat) t v, Tryd.f5.params[j]? = some t → args[j]? = some v → Value.okWide Tryd.prog W .any base t v := hval0
  have hW' := hW
  obtain ⟨p, q, hA0, hV, rfl, hfz, hnd⟩ := hW
  have hA : DataW.TrodAll enc Tryd.prog W 0 (fun _ => true) true Tryd.f5.params.toList args.toList ds p := hA0
  rw [Tryd.params5] at hA hval
  obtain ⟨v0, vs0, d0, ds0, p0, q0, hargs, rfl, rfl, h0, r0⟩ := trodAll_cons hA
  obtain ⟨v1, vs1, d1, ds1, p1, q1, rfl, rfl, rfl, h1, r1⟩ := trodAll_cons r0
  obtain ⟨v2, vs2, d2, ds2, p2, q2, rfl, rfl, rfl, h2, r2⟩ := trodAll_cons r1
  obtain ⟨v3, vs3, d3, ds3, p3, q3, rfl, rfl, rfl, h3, r3⟩ := trodAll_cons r2
  obtain ⟨v4, vs4, d4, ds4, p4, q4, rfl, rfl, rfl, h4, r4⟩ := trodAll_cons r3
  obtain ⟨v5, vs5, d5, ds5, p5, q5, rfl, rfl, rfl, h5, r5⟩ := trodAll_cons r4
  obtain ⟨rfl, rfl, rfl⟩ := trodAll_nil r5
  obtain rfl : args = #[v0, v1, v2, v3, v4, v5] := by cases args; simp_all
  obtain ⟨rfl, rfl⟩ := trodVars_none hV
  obtain ⟨cs0, rfl, hsz0, hc0⟩ := YOpen.agg_cells [2, 2, 2, 2, 2, 2, 2, 2, 2, 2, 2, 22] (by kernel_rfl) (by kernel_rfl) (by kernel_rfl) (hval 0 46 v0 rfl rfl)
  obtain ⟨x0_0, hx0_0, hy0_0⟩ := hc0 0 2 rfl
  obtain ⟨a0_0, rfl, w0_0⟩ := YOpen.int_cell Tryd.underlying2 hy0_0
  obtain ⟨x0_1, hx0_1, hy0_1⟩ := hc0 1 2 rfl
  obtain ⟨a0_1, rfl, w0_1⟩ := YOpen.int_cell Tryd.underlying2 hy0_1
  obtain ⟨x0_2, hx0_2, hy0_2⟩ := hc0 2 2 rfl
  obtain ⟨a0_2, rfl, w0_2⟩ := YOpen.int_cell Tryd.underlying2 hy0_2
  obtain ⟨x0_3, hx0_3, hy0_3⟩ := hc0 3 2 rfl
  obtain ⟨a0_3, rfl, w0_3⟩ := YOpen.int_cell Tryd.underlying2 hy0_3
  obtain ⟨x0_4, hx0_4, hy0_4⟩ := hc0 4 2 rfl
  obtain ⟨a0_4, rfl, w0_4⟩ := YOpen.int_cell Tryd.underlying2 hy0_4
  obtain ⟨x0_5, hx0_5, hy0_5⟩ := hc0 5 2 rfl
  obtain ⟨a0_5, rfl, w0_5⟩ := YOpen.int_cell Tryd.underlying2 hy0_5
  obtain ⟨x0_6, hx0_6, hy0_6⟩ := hc0 6 2 rfl
  obtain ⟨a0_6, rfl, w0_6⟩ := YOpen.int_cell Tryd.underlying2 hy0_6
  obtain ⟨x0_7, hx0_7, hy0_7⟩ := hc0 7 2 rfl
  obtain ⟨a0_7, rfl, w0_7⟩ := YOpen.int_cell Tryd.underlying2 hy0_7
  obtain ⟨x0_8, hx0_8, hy0_8⟩ := hc0 8 2 rfl
  obtain ⟨a0_8, rfl, w0_8⟩ := YOpen.int_cell Tryd.underlying2 hy0_8
  obtain ⟨x0_9, hx0_9, hy0_9⟩ := hc0 9 2 rfl
  obtain ⟨a0_9, rfl, w0_9⟩ := YOpen.int_cell Tryd.underlying2 hy0_9
  obtain ⟨x0_10, hx0_10, hy0_10⟩ := hc0 10 2 rfl
  obtain ⟨a0_10, rfl, w0_10⟩ := YOpen.int_cell Tryd.underlying2 hy0_10
  obtain ⟨x0_11, hx0_11, hy0_11⟩ := hc0 11 22 rfl
  obtain ⟨a0_11, rfl, w0_11⟩ := YOpen.int_cell Tryd.underlying22 hy0_11
  obtain rfl : cs0 = #[.int .i64 a0_0, .int .i64 a0_1, .int .i64 a0_2, .int .i64 a0_3, .int .i64 a0_4, .int .i64 a0_5, .int .i64 a0_6, .int .i64 a0_7, .int .i64 a0_8, .int .i64 a0_9, .int .i64 a0_10, .int .u32 a0_11] := by
    apply Array.ext_getElem?
    intro i
    rcases i with _ | i
    · rw [hx0_0]; rfl
    rcases i with _ | i
    · rw [hx0_1]; rfl
    rcases i with _ | i
    · rw [hx0_2]; rfl
    rcases i with _ | i
    · rw [hx0_3]; rfl
    rcases i with _ | i
    · rw [hx0_4]; rfl
    rcases i with _ | i
    · rw [hx0_5]; rfl
    rcases i with _ | i
    · rw [hx0_6]; rfl
    rcases i with _ | i
    · rw [hx0_7]; rfl
    rcases i with _ | i
    · rw [hx0_8]; rfl
    rcases i with _ | i
    · rw [hx0_9]; rfl
    rcases i with _ | i
    · rw [hx0_10]; rfl
    rcases i with _ | i
    · rw [hx0_11]; rfl
    rw [Array.getElem?_eq_none (by rw [hsz0]; simp), Array.getElem?_eq_none (by simp)]
  obtain ⟨a1, rfl, rfl, rfl, w1⟩ := open_int Tryd.underlying5 (hval 1 5 v1 rfl rfl) h1
  obtain ⟨a2, rfl, rfl, rfl, w2⟩ := open_int Tryd.underlying5 (hval 2 5 v2 rfl rfl) h2
  obtain ⟨a3, rfl, rfl, rfl, w3⟩ := open_int Tryd.underlying2 (hval 3 2 v3 rfl rfl) h3
  obtain ⟨a4, rfl, rfl, rfl, w4⟩ := open_int Tryd.underlying3 (hval 4 3 v4 rfl rfl) h4
  obtain ⟨a5, rfl, rfl, rfl, w5⟩ := open_int Tryd.underlying3 (hval 5 3 v5 rfl rfl) h5
  clear hA0 hval0
  refine (YConf.ConfigTells_law a0_0 a0_1 a0_2 a0_3 a0_4 a0_5 a0_6 a0_7 a0_8 a0_9 a0_10 a0_11 a1 a2 a3 a4 a5 W (handle_of_laid hL) w0_0 w0_1 w0_2 w0_3 w0_4 w0_5 w0_6 w0_7 w0_8 w0_9 w0_10 w0_11 w1 w2 w3 w4 w5).mono fun e W' ⟨he, bel⟩ => ?_
  subst he
  have k0 : DataW.Trod enc Tryd.prog W' 0 (fun b => decide (b < W.heap.size)) true 46 _ d0 p0 := Below.trod configTells_laidOut (by kernel_rfl) (of_decide_eq_true (by kernel_rfl)) h0 bel (fun x hx => by have := hW'.lt x; simp at this; first | exact this hx | exact this (by simp [hx]) | simp_all)
  exact ⟨_, rfl, _, _, _, [], _, [], hW', trodAll_mk1 (shut_bool Tryd.underlying4 _), (trodAll_cons_mk (k0) (trodAll_cons_mk (shut_int Tryd.underlying5 w1) (trodAll_cons_mk (shut_int Tryd.underlying5 w2) (trodAll_cons_mk (shut_int Tryd.underlying2 w3) (trodAll_cons_mk (shut_int Tryd.underlying3 w4) (trodAll_cons_mk (shut_int Tryd.underlying3 w5) trodAll_mk0)))))), rfl, bel.frame _, fun h => by cases h⟩
theorem configTells_row : Rows.ConfigTellsSaid :=
  OpenClaim.holds_of_wide 5 Tryd.f5 rfl rfl rfl rfl rfl rfl rfl ⟨rfl, rfl, rfl, rfl, rfl⟩ rfl rfl rfl rfl rfl (by kernel_rfl) Tryd.func5 (by kernel_rfl)
    (of_decide_eq_true (by kernel_rfl)) (by unfold Func.isWrapper; first | (rw [if_pos (by decide +kernel)]; kernel_rfl) | (rw [if_neg (by decide +kernel)]; exact ⟨rfl, rfl⟩))
    (fun os started H enc _ => configTells_lifted os started H enc)
/-- THE CARD. -/
theorem configTells_holds : Rows.ConfigTellsCardSaid :=
  Claim7.holds_tied_plain_at .later [] [.handle] true (true, "6371e8f925ef26db9f6d98a21429ea5aa35858ab7567116c784454377b3701d6") true
    configTells_row (fun _ h => by cases h) (by kernel_rfl) (fun _ h => by cases h) configTells_row_tie rfl ⟨rfl, rfl⟩ (by kernel_rfl) rfl
    (fun f fn hf hfn => by
      obtain rfl : f = 5 := Option.some.inj ((show Tryd.prog.funcNamed "leadline/leadlinelaw27.ConfigTells" = some 5 by kernel_rfl).symm.trans hf) |>.symm
      obtain rfl : fn = Tryd.f5 := (Option.some.inj (Tryd.func5.symm.trans hfn)).symm
      exact ⟨by kernel_rfl, fun j t ht => by
        rw [Tryd.params5] at ht
        have ht' : t ∈ [46, 5, 5, 2, 3, 3] := by
          have := Array.mem_of_getElem? ht
          simpa using this
        simp only [List.mem_cons, List.not_mem_nil, or_false] at ht'
        rcases ht' with rfl | rfl | rfl | rfl | rfl | rfl
        · exact (show Tryd.prog.wantsStandIn 46 = false by kernel_rfl)
        · exact (show Tryd.prog.wantsStandIn 5 = false by kernel_rfl)
        · exact (show Tryd.prog.wantsStandIn 5 = false by kernel_rfl)
        · exact (show Tryd.prog.wantsStandIn 2 = false by kernel_rfl)
        · exact (show Tryd.prog.wantsStandIn 3 = false by kernel_rfl)
        · exact (show Tryd.prog.wantsStandIn 3 = false by kernel_rfl)⟩)
    (by kernel_rfl)
#print axioms configTells_holds
end Go.Proofs.YtbfflffekdadnaaDoor
