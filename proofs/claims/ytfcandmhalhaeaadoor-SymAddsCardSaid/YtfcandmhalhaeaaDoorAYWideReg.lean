/- Lean functions, contracts and lemmas that this claim needs. No condition. -/
import Derived.Test.YtfcandmhalhaeaaDoorAYRVals
namespace Go.Proofs.YtfcandmhalhaeaaDoor.YInv
open Go.RowKit
theorem evr_ {a : Act} {v : Value} : Act.eval a (.const v) = v := rfl
theorem valw_ {P : Program} {o : Oper} {a : Act} {v : Value} {w w' : World} {K : Act → World → Prop} {Q : Exit → Act → World → Prop} (h : (execOp a.eval o).run P w = .ok (.value v) w') (hK : K (a.put o.dst v) w') : Oper.wp P o a w K Q := by
  unfold Oper.wp
  rw [h]
  exact hK
end Go.Proofs.YtfcandmhalhaeaaDoor.YInv
