/- The row and the card of TableBack: true whatever the input. Written by a program of this session. -/
import Derived.Test.YtekcemncmgingaaDoorYTArg2
import Derived.Test.YtekcemncmgingaaDoorYLaid
import Derived.Test.YtekcemncmgingaaDoorYOpen
import Derived.Test.YtekcemncmgingaaDoorCards
import Derived.Test.YtekcemncmgingaaDoorTie
import Derived.SevenTiedAt
import Derived.Carry
import Derived.ChangeMaps5
import Derived.SizedLaws
namespace Go.Proofs.YtekcemncmgingaaDoor
open Go.ChangeShapes Go.WideShapes Go.ChangeAt Go.RowKit
set_option linter.unusedVariables false
theorem tableBack_laidOut : laidOutB Tryd.prog = true := by kernel_rfl
set_option maxRecDepth 100000 in
set_option maxHeartbeats 1000000 in
theorem tableBack_lifted (os : Os) (started : os.Started) (H : Type) (enc : TypeId × Value → H) :
    ReturnsInHanded {} Tryd.checked os 7 .any (fun w args => (Rows.tableBackSpec.pre enc Tryd.prog Tryd.f7 [] false w args ∧ laidMetH Tryd.prog laidVars w) ∧ sizedMet enc Tryd.prog Tryd.f7 (OpenSpec.ofChange Rows.tableBackSpec) false w args)
      (Rows.tableBackSpec.post enc Tryd.prog Tryd.f7 false true false false) := by
  refine returnsInHanded_of_change_and (C := Tryd.checked) (X := fun w _ => laidMetH Tryd.prog laidVars w) (fun _ _ _ hh h => h.of_heap hh) Tryd.own started (by kernel_rfl) Tryd.func7
    (ChangeSpec.witness_at (enc := enc) (C := Tryd.checked) (os := os) (X := fun w _ => laidMetH Tryd.prog laidVars w) false (laidWorld os) #[.slice none 0 0, .slice none 0 0] 8 rfl (by kernel_rfl) (by kernel_rfl) (by kernel_rfl) (by kernel_rfl) (by kernel_rfl) (laidWorld_met os _)) ?_
  intro W base args ds gs before hval0 hW _ hR hL _
  have hval : ∀ (j : Nat) t v, Tryd.f7.params[j]? = some t → args[j]? = some v → Value.okWide Tryd.prog W .any base t v := hval0
  have hW' := hW
  obtain ⟨p, q, hA0, hV, rfl, hfz, hnd⟩ := hW
  have hA : DataW.TrodAll enc Tryd.prog W 0 (fun _ => true) true Tryd.f7.params.toList args.toList ds p := hA0
  rw [Tryd.params7] at hA hval
  obtain ⟨v0, vs0, d0, ds0, p0, q0, hargs, rfl, rfl, h0, r0⟩ := trodAll_cons hA
  obtain ⟨v1, vs1, d1, ds1, p1, q1, rfl, rfl, rfl, h1, r1⟩ := trodAll_cons r0
  obtain ⟨rfl, rfl, rfl⟩ := trodAll_nil r1
  obtain rfl : args = #[v0, v1] := by cases args; simp_all
  obtain ⟨rfl, rfl⟩ := trodVars_none hV
  obtain ⟨A0, c0, a0, rfl, y0, z0, w0, l0⟩ := YErr.acts_arg (hval 0 51 v0 rfl rfl) h0
  obtain ⟨A1, c1, a1, rfl, y1, z1, l1⟩ := YErr.raws_arg (hval 1 70 v1 rfl rfl) h1
  clear hA0 hval0
  refine (YErr.TableBack_law A0 c0 a0 A1 c1 a1 W (handle_of_laid hL) y0 z0 w0 l0 y1 z1 l1).mono fun e W' ⟨he, bel⟩ => ?_
  subst he
  have k0 : DataW.Trod enc Tryd.prog W' 0 (fun b => decide (b < W.heap.size)) true 51 _ d0 p0 := Below.trod tableBack_laidOut (by kernel_rfl) (of_decide_eq_true (by kernel_rfl)) h0 bel (fun x hx => by have := hW'.lt x; simp at this; first | exact this hx | exact this (by simp [hx]) | simp_all)
  have k1 : DataW.Trod enc Tryd.prog W' 0 (fun b => decide (b < W.heap.size)) true 70 _ d1 p1 := Below.trod tableBack_laidOut (by kernel_rfl) (of_decide_eq_true (by kernel_rfl)) h1 bel (fun x hx => by have := hW'.lt x; simp at this; first | exact this hx | exact this (by simp [hx]) | simp_all)
  exact ⟨_, rfl, _, _, _, [], _, [], hW', trodAll_mk1 (shut_bool Tryd.underlying4 _), (trodAll_cons_mk (k0) (trodAll_cons_mk (k1) trodAll_mk0)), rfl, bel.frame _, fun h => by cases h⟩
theorem tableBack_row : Rows.TableBackSaid :=
  OpenClaim.holds_of_wide 7 Tryd.f7 rfl rfl rfl rfl rfl rfl rfl ⟨rfl, rfl, rfl, rfl, rfl⟩ rfl rfl rfl rfl rfl (by kernel_rfl) Tryd.func7 (by kernel_rfl)
    (of_decide_eq_true (by kernel_rfl)) (by unfold Func.isWrapper; first | (rw [if_pos (by decide +kernel)]; kernel_rfl) | (rw [if_neg (by decide +kernel)]; exact ⟨rfl, rfl⟩))
    (fun os started H enc _ => tableBack_lifted os started H enc)
/-- THE CARD. -/
theorem tableBack_holds : Rows.TableBackCardSaid :=
  Claim7.holds_tied_plain_at .later [] [.handle] true (true, "cf55308e833daf8850cf1429ce2687a8a759a626257306e4522d9a67d8349051") true
    tableBack_row (fun _ h => by cases h) (by kernel_rfl) (fun _ h => by cases h) tableBack_row_tie rfl ⟨rfl, rfl⟩ (by kernel_rfl) rfl
    (fun f fn hf hfn => by
      obtain rfl : f = 7 := Option.some.inj ((show Tryd.prog.funcNamed "leadline/leadlinelaw24.TableBack" = some 7 by kernel_rfl).symm.trans hf) |>.symm
      obtain rfl : fn = Tryd.f7 := (Option.some.inj (Tryd.func7.symm.trans hfn)).symm
      exact ⟨by kernel_rfl, fun j t ht => by
        rw [Tryd.params7] at ht
        have ht' : t ∈ [51, 70] := by
          have := Array.mem_of_getElem? ht
          simpa using this
        simp only [List.mem_cons, List.not_mem_nil, or_false] at ht'
        rcases ht' with rfl | rfl
        · exact (show Tryd.prog.wantsStandIn 51 = false by kernel_rfl)
        · exact (show Tryd.prog.wantsStandIn 70 = false by kernel_rfl)⟩)
    (by kernel_rfl)
#print axioms tableBack_holds
end Go.Proofs.YtekcemncmgingaaDoor
