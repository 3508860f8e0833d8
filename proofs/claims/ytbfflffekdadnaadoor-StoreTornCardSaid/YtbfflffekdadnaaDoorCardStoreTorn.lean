/- The row and the card of StoreTorn: true whatever the input. Written by a program of this session. -/
import Derived.Test.YtbfflffekdadnaaDoorYStoreTorn
import Derived.Test.YtbfflffekdadnaaDoorYLaid
import Derived.Test.YtbfflffekdadnaaDoorYOpen
import Derived.Test.YtbfflffekdadnaaDoorCards
import Derived.Test.YtbfflffekdadnaaDoorTie
import Derived.SevenTiedAt
import Derived.Carry
namespace Go.Proofs.YtbfflffekdadnaaDoor
open Go.ChangeShapes Go.WideShapes Go.ChangeAt Go.RowKit
set_option linter.unusedVariables false
theorem storeTorn_laidOut : laidOutB Tryd.prog = true := by kernel_rfl
set_option maxRecDepth 100000 in
set_option maxHeartbeats 1000000 in
theorem storeTorn_lifted (os : Os) (started : os.Started) (H : Type) (enc : TypeId × Value → H) :
    ReturnsInHanded {} Tryd.checked os 8 .any (fun w args => (Rows.storeTornSpec.pre enc Tryd.prog Tryd.f8 [] false w args ∧ laidMetH Tryd.prog laidVars w) ∧ sizedMet enc Tryd.prog Tryd.f8 (OpenSpec.ofChange Rows.storeTornSpec) false w args)
      (Rows.storeTornSpec.post enc Tryd.prog Tryd.f8 false true false false) := by
  refine returnsInHanded_of_change_and (C := Tryd.checked) (X := fun w _ => laidMetH Tryd.prog laidVars w) (fun _ _ _ hh h => h.of_heap hh) Tryd.own started (by kernel_rfl) Tryd.func8
    (ChangeSpec.witness_at (enc := enc) (C := Tryd.checked) (os := os) (X := fun w _ => laidMetH Tryd.prog laidVars w) false (laidWorld os) #[.slice none 0 0, .slice none 0 0, .int .u8 0] 8 rfl (by kernel_rfl) (by kernel_rfl) (by kernel_rfl) (by kernel_rfl) (by kernel_rfl) (laidWorld_met os _)) ?_
  intro W base args ds gs before hval0 hW _ _ hL _
  have hval : ∀ (j : Nat) t v, Tryd.f8.params[j]? = some t → args[j]? = some v → Value.okWide Tryd.prog W .any base t v := hval0
  have hW' := hW
  obtain ⟨p, q, hA0, hV, rfl, hfz, hnd⟩ := hW
  have hA : DataW.TrodAll enc Tryd.prog W 0 (fun _ => true) true Tryd.f8.params.toList args.toList ds p := hA0
  rw [Tryd.params8] at hA hval
  obtain ⟨v0, vs0, d0, ds0, p0, q0, hargs, rfl, rfl, h0, r0⟩ := trodAll_cons hA
  obtain ⟨v1, vs1, d1, ds1, p1, q1, rfl, rfl, rfl, h1, r1⟩ := trodAll_cons r0
  obtain ⟨v2, vs2, d2, ds2, p2, q2, rfl, rfl, rfl, h2, r2⟩ := trodAll_cons r1
  obtain ⟨rfl, rfl, rfl⟩ := trodAll_nil r2
  obtain rfl : args = #[v0, v1, v2] := by cases args; simp_all
  obtain ⟨rfl, rfl⟩ := trodVars_none hV
  obtain ⟨A0, c0, a0, rfl, y0, z0, w0, l0⟩ := YOpen.ints_arg Tryd.underlying59 Tryd.underlying5 (by kernel_rfl) (hval 0 59 v0 rfl rfl) h0
  obtain ⟨A1, c1, a1, rfl, y1, z1, w1, l1⟩ := YOpen.ints_arg Tryd.underlying59 Tryd.underlying5 (by kernel_rfl) (hval 1 59 v1 rfl rfl) h1
  obtain ⟨a2, rfl, rfl, rfl, w2⟩ := open_int Tryd.underlying5 (hval 2 5 v2 rfl rfl) h2
  clear hA0 hval0
  refine (YErr.StoreTorn_law A0 c0 a0 A1 c1 a1 a2 W (handle_of_laid hL) y0 z0 w0 l0 y1 z1 w1 l1 w2).mono fun e W' ⟨he, bel⟩ => ?_
  subst he
  have k0 : DataW.Trod enc Tryd.prog W' 0 (fun b => decide (b < W.heap.size)) true 59 _ d0 p0 := Below.trod storeTorn_laidOut (by kernel_rfl) (of_decide_eq_true (by kernel_rfl)) h0 bel (fun x hx => by have := hW'.lt x; simp at this; first | exact this hx | exact this (by simp [hx]) | simp_all)
  have k1 : DataW.Trod enc Tryd.prog W' 0 (fun b => decide (b < W.heap.size)) true 59 _ d1 p1 := Below.trod storeTorn_laidOut (by kernel_rfl) (of_decide_eq_true (by kernel_rfl)) h1 bel (fun x hx => by have := hW'.lt x; simp at this; first | exact this hx | exact this (by simp [hx]) | simp_all)
  exact ⟨_, rfl, _, _, _, [], _, [], hW', trodAll_mk1 (shut_bool Tryd.underlying4 _), (trodAll_cons_mk (k0) (trodAll_cons_mk (k1) (trodAll_cons_mk (shut_int Tryd.underlying5 w2) trodAll_mk0))), rfl, bel.frame _, fun h => by cases h⟩
theorem storeTorn_row : Rows.StoreTornSaid :=
  OpenClaim.holds_of_wide 8 Tryd.f8 rfl rfl rfl rfl rfl rfl rfl ⟨rfl, rfl, rfl, rfl, rfl⟩ rfl rfl rfl rfl rfl (by kernel_rfl) Tryd.func8 (by kernel_rfl)
    (of_decide_eq_true (by kernel_rfl)) (by unfold Func.isWrapper; first | (rw [if_pos (by decide +kernel)]; kernel_rfl) | (rw [if_neg (by decide +kernel)]; exact ⟨rfl, rfl⟩))
    (fun os started H enc _ => storeTorn_lifted os started H enc)
/-- THE CARD. -/
theorem storeTorn_holds : Rows.StoreTornCardSaid :=
  Claim7.holds_tied_plain_at .later [] [.handle] true (true, "6371e8f925ef26db9f6d98a21429ea5aa35858ab7567116c784454377b3701d6") true
    storeTorn_row (fun _ h => by cases h) (by kernel_rfl) (fun _ h => by cases h) storeTorn_row_tie rfl ⟨rfl, rfl⟩ (by kernel_rfl) rfl
    (fun f fn hf hfn => by
      obtain rfl : f = 8 := Option.some.inj ((show Tryd.prog.funcNamed "leadline/leadlinelaw25.StoreTorn" = some 8 by kernel_rfl).symm.trans hf) |>.symm
      obtain rfl : fn = Tryd.f8 := (Option.some.inj (Tryd.func8.symm.trans hfn)).symm
      exact ⟨by kernel_rfl, fun j t ht => by
        rw [Tryd.params8] at ht
        have ht' : t ∈ [59, 59, 5] := by
          have := Array.mem_of_getElem? ht
          simpa using this
        simp only [List.mem_cons, List.not_mem_nil, or_false] at ht'
        rcases ht' with rfl | rfl | rfl
        · exact (show Tryd.prog.wantsStandIn 59 = false by kernel_rfl)
        · exact (show Tryd.prog.wantsStandIn 59 = false by kernel_rfl)
        · exact (show Tryd.prog.wantsStandIn 5 = false by kernel_rfl)⟩)
    (by kernel_rfl)
#print axioms storeTorn_holds
end Go.Proofs.YtbfflffekdadnaaDoor
