/- Drawn regions with new places: the values by their slots, the places by their operations. -/
import Derived.Test.YtoedbnnepcnjnaaYRVals
namespace Go.Proofs.Ytoedbnnepcnjnaa.YInv
open Go.RowKit
def upd (s : Nat → Nat) (i b : Nat) : Nat → Nat := fun k => bif Nat.beq k i then b else s k
def VO (vs : List (Option Value)) (s : Nat → Nat) (j : Nat) : Value := match vs.getD j none with | some v => v | none => .pointer (some ⟨s j, 0, none⟩)
theorem VO_upd (vs : List (Option Value)) (s : Nat → Nat) {L : Nat → Bool} {i : Nat} (b : Nat) (h : L i = false) : ∀ j, L j = true → VO vs (upd s i b) j = VO vs s j := by
  intro j hj
  have : Nat.beq j i = false := by
    cases e : Nat.beq j i with
    | false => rfl
    | true => rw [Nat.eq_of_beq_eq_true e, h] at hj; cases hj
  unfold VO upd
  rw [this]
  rfl
theorem evr_ {a : Act} {v : Value} : Act.eval a (.const v) = v := rfl
theorem valw_ {P : Program} {o : Oper} {a : Act} {v : Value} {w w' : World} {K : Act → World → Prop} {Q : Exit → Act → World → Prop} (h : (execOp a.eval o).run P w = .ok (.value v) w') (hK : K (a.put o.dst v) w') : Oper.wp P o a w K Q := by
  unfold Oper.wp
  rw [h]
  exact hK
theorem skipw_ {P : Program} {o : Oper} {a : Act} {w w' : World} {K : Act → World → Prop} {Q : Exit → Act → World → Prop} (h : (execOp a.eval o).run P w = .ok .skip w') (hK : K (a.put o.dst undef) w') : Oper.wp P o a w K Q := by
  unfold Oper.wp
  rw [h]
  exact hK
end Go.Proofs.Ytoedbnnepcnjnaa.YInv
