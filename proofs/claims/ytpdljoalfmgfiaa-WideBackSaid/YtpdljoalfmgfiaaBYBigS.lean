/- Lean functions, contracts and lemmas that this claim needs. No condition. -/
import Derived.Test.YtpdljoalfmgfiaaBYRefS
namespace Go.Proofs.Ytpdljoalfmgfiaa.YBig
open Go.RowKit Go.Proofs.Ytpdljoalfmgfiaa.QWd Go.Proofs.Ytpdljoalfmgfiaa.YBits Go.Proofs.Ytpdljoalfmgfiaa.YRef Go.Proofs.YtpdljoalfmgfiaaW.PrintWords Go.Proofs.YtpdljoalfmgfiaaW.PrintLast
set_option linter.unusedVariables false
set_option linter.unusedSimpArgs false
/-- A value that reads as a number: its sign, its limbs. -/
def IsBig (w : World) (v : Value) (x : Int) : Prop := ∃ A c, v = .agg #[.bool (sg x), .slice A (mag x).length c] ∧ (mag x).length ≤ c ∧ Kd.V (Kd.int .u64) 25 w 0 (fun _ => True) (.slice A (mag x).length c) (mag x)
theorem IsBig.below {w w' : World} {v : Value} {x : Int} (h : IsBig w v x) (hb : Below w.heap.size w w') : IsBig w' v x := by
  obtain ⟨A, c, hv, hc, h⟩ := h
  exact ⟨A, c, hv, hc, Kd.V_below h hb⟩
theorem big_of {w w1 : World} {v : Value} {x : Int} {base : Nat} {ok : Nat → Prop} (h : Kd.V (Kd.int .u64) 25 w base ok v (mag x)) : IsBig w (.agg #[.bool (sg x), v]) x := by
  obtain ⟨A, c, rfl⟩ := Kd.V_slice h
  exact ⟨A, c, rfl, (Kd.V_at h).2.1, Kd.V_mono (Kd.V_lower (base' := 0) h (Nat.zero_le _)) (fun _ _ => trivial)⟩
theorem IsBig.C {w : World} {A : Option Addr} {c : Nat} {x : Int} (h : Kd.V (Kd.int .u64) 25 w 0 (fun _ => True) (.slice A (mag x).length c) (mag x)) : Kd.C (Kd.int .u64) w A (mag x).length (mag x) := (Kd.V_reads' h).2.2
end Go.Proofs.Ytpdljoalfmgfiaa.YBig
