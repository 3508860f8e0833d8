/- Lean functions, contracts and lemmas that this claim needs. No condition. -/
import Derived.Test.YtaiolioggjknfaaDoorProg
import Derived.ProofKit
import Derived.OpenShut
import Derived.Carry
import Derived.ChangeSlices
import Derived.SliceStrings
namespace Go.Proofs.YtaiolioggjknfaaDoor.YOpen
open Go.ChangeShapes Go.WideShapes Go.ChangeAt Go.RowKit
set_option linter.unusedVariables false
set_option linter.unusedSimpArgs false
theorem agg_cells {P : Program} {w : World} {r : Reach} {b : Nat} {t : TypeId} {v : Value} (ts : List TypeId) (hs : (match P.underlying t with | some (.struct _) | some (.array _ _) => true | _ => false) = true)
    (hts : P.cellTypes P.depth t = some ts) (hC : P.cellsOf t = ts.length) (hv : Value.okWide P w r b t v) :
    ∃ cs : Array Value, v = .agg cs ∧ cs.size = ts.length ∧ ∀ (i : Nat) (u : TypeId), ts[i]? = some u → ∃ x, cs[i]? = some x ∧ Cell.okWide P w r b u x := by
  have key : ∃ cs : Array Value, v = .agg cs ∧ cs.size = P.cellsOf t ∧ Row.okWide P w r b t cs := by
    unfold Value.okWide at hv
    split at hs
    · rename_i h; rw [h] at hv; exact hv
    · rename_i h; rw [h] at hv; exact hv
    · cases hs
  obtain ⟨cs, hcs, hsz, ts', h1, _, h3⟩ := key
  obtain rfl := Option.some.inj (hts.symm.trans h1)
  refine ⟨cs, hcs, hsz.trans hC, fun i u hu => ?_⟩
  have hlt : i < ts.length := (List.getElem?_eq_some_iff.1 hu).1
  have hi : i < cs.size := by omega
  obtain ⟨u', hu', hok⟩ := h3 i cs[i] (by simp [hi])
  rw [Nat.mod_eq_of_lt hlt] at hu'
  obtain rfl := Option.some.inj (hu.symm.trans hu')
  exact ⟨cs[i], by simp [hi], hok⟩
theorem int_cell {P : Program} {w : World} {r : Reach} {b : Nat} {u : TypeId} {k : IntKind} {x : Value} (hu : P.underlying u = some (.int k)) (h : Cell.okWide P w r b u x) : ∃ n, x = .int k n ∧ (Lit.int k n).wf = true := by
  unfold Cell.okWide at h
  rw [hu] at h
  unfold Cell.ok at h
  rw [hu] at h
  cases x <;> simp at h
  obtain ⟨rfl, h⟩ := h
  exact ⟨_, rfl, by unfold IntKind.has at h; simpa [Lit.wf] using h⟩
end Go.Proofs.YtaiolioggjknfaaDoor.YOpen
