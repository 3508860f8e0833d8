/- Lean functions, contracts and lemmas that this claim needs. No condition. -/
import Derived.Test.YtfcandmhalhaeaaDoorAYRef
import Derived.Test.YtfcandmhalhaeaaDoorAQSyx5
import Derived.Test.YtfcandmhalhaeaaDoorAQSyx6
namespace Go.Proofs.YtfcandmhalhaeaaDoor.YBig
open Go.RowKit Go.Proofs.YtfcandmhalhaeaaDoor.QSy Go.Proofs.YtfcandmhalhaeaaDoor.YBits Go.Proofs.YtfcandmhalhaeaaDoor.YRef Go.Proofs.YtfcandmhalhaeaaDoorW.PrintWords Go.Proofs.YtfcandmhalhaeaaDoorW.PrintLast
set_option linter.unusedVariables false
set_option linter.unusedSimpArgs false
/-- A value that reads as a number: its sign, its limbs. -/
def IsBig (w : World) (v : Value) (x : Int) : Prop := ∃ A c, v = .agg #[.bool (sg x), .slice A (mag x).length c] ∧ (mag x).length ≤ c ∧ Kd.V (Kd.int .u64) 77 w 0 (fun _ => True) (.slice A (mag x).length c) (mag x)
theorem IsBig.below {w w' : World} {v : Value} {x : Int} (h : IsBig w v x) (hb : Below w.heap.size w w') : IsBig w' v x := by
  obtain ⟨A, c, hv, hc, h⟩ := h
  exact ⟨A, c, hv, hc, Kd.V_below h hb⟩
theorem big_of {w w1 : World} {v : Value} {x : Int} {base : Nat} {ok : Nat → Prop} (h : Kd.V (Kd.int .u64) 77 w base ok v (mag x)) : IsBig w (.agg #[.bool (sg x), v]) x := by
  obtain ⟨A, c, rfl⟩ := Kd.V_slice h
  exact ⟨A, c, rfl, (Kd.V_at h).2.1, Kd.V_mono (Kd.V_lower (base' := 0) h (Nat.zero_le _)) (fun _ _ => trivial)⟩
theorem IsBig.C {w : World} {A : Option Addr} {c : Nat} {x : Int} (h : Kd.V (Kd.int .u64) 77 w 0 (fun _ => True) (.slice A (mag x).length c) (mag x)) : Kd.C (Kd.int .u64) w A (mag x).length (mag x) := (Kd.V_reads' h).2.2
theorem Of_c (a : Int) (h0 : -9223372036854775808 ≤ a) (h1 : a ≤ 9223372036854775807) (W : World) :
    Calls Tryd.prog 48 #[.int .i64 a] W fun e w' => ∃ v, e = .returned v ∧ IsBig w' v a ∧ Below W.heap.size W w' := by
  refine (leadlineref1_Of.calls 2000 a _ _ W (Of_tells 0 h0 h1)).mono ?_
  rintro e w' ⟨v, rfl, hv, hb⟩
  exact ⟨_, rfl, big_of (w1 := w') hv, hb⟩
theorem Add_c {v u : Value} {x y : Int} {W : World} (hv : IsBig W v x) (hu : IsBig W u y) (sx : Small x) (sy : Small y) :
    Calls Tryd.prog 47 #[v, u] W fun e w' => ∃ r, e = .returned r ∧ IsBig w' r (x + y) ∧ Below W.heap.size W w' := by
  obtain ⟨A, c, rfl, hc, hv⟩ := hv
  obtain ⟨A', c', rfl, hc', hu⟩ := hu
  refine (leadlineref1_Add.calls 2000 (sg x) A c (mag x) (sg y) A' c' (mag y) _ _ W (IsBig.C hv) hc (IsBig.C hu) hc' (Add_tells 0 sx sy)).mono ?_
  rintro e w' ⟨v, rfl, hv, hb⟩
  exact ⟨_, rfl, big_of (w1 := w') hv, hb⟩
end Go.Proofs.YtfcandmhalhaeaaDoor.YBig
