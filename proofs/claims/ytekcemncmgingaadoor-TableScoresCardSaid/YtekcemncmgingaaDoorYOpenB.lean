/- Arguments that are slices of bools. No condition. -/
import Derived.Test.YtekcemncmgingaaDoorYOpen
import Derived.Deep.Grids
namespace Go.Proofs.YtekcemncmgingaaDoor.YOpen
open Go.ChangeShapes Go.WideShapes Go.ChangeAt Go.RowKit
/-- A slice of bools: its form, its bools, where they lie. -/
theorem bools_arg {H : Type} {enc : TypeId × Value → H} {P : Program} {w : World} {r : Reach} {b0 : Nat} {t e : TypeId} {v : Value} {d : DataW H} {ps : List MemPlace} (ht : P.underlying t = some (.slice e)) (he : P.underlying e = some .bool) (hc : P.cellsOf e = 1)
    (hv : Value.okWide P w r b0 t v) (h : DataW.Trod enc P w 0 (fun _ => true) true t v d ps) :
    ∃ (A : Option Addr) (c : Nat) (zs : List Bool), v = .slice A zs.length c ∧ zs.length ≤ c ∧ c ≤ maxLen ∧
      (0 < zs.length → ∃ b off, A = some ⟨b, off, none⟩ ∧ ∀ i, i < zs.length → w.cell? ⟨b, off + i, none⟩ = some (.bool (zs.getD i false))) := by
  obtain ⟨fuel, hf⟩ := h
  obtain ⟨A0, len0, cap0, rfl⟩ := okWide_slice ht hv
  have hf : DataW.trod enc P w 0 (fun _ => true) true fuel t [Value.slice A0 len0 cap0] = some (d, ps) := hf
  rcases Go.Deep.open_bools ht he hc hf with ⟨h0, _⟩ | ⟨a, len, cap, B, h0, _, hl, hm, _, hcell⟩
  · obtain ⟨rfl, rfl, rfl⟩ : A0 = none ∧ len0 = 0 ∧ cap0 = 0 := by simpa using h0
    exact ⟨none, 0, [], rfl, Nat.le_refl _, by unfold maxLen; omega, fun h => absurd h (by simp)⟩
  · obtain ⟨rfl, rfl, rfl⟩ : A0 = some a ∧ len0 = len ∧ cap0 = cap := by simpa using h0
    have e : ((List.range len0).map B).length = len0 := by simp
    refine ⟨some a, cap0, (List.range len0).map B, by rw [e], by rw [e]; exact hl, hm, fun hpos => ?_⟩
    rw [e] at hpos ⊢
    have hs' : a.spot = none := by
      have := cell_spot (hcell 0 (by omega))
      simpa [Addr.add] using this
    obtain ⟨ab, ao, asp⟩ := a
    obtain rfl : asp = none := hs'
    refine ⟨ab, ao, rfl, fun i hi => ?_⟩
    have hh := hcell i (by omega)
    have ea : (⟨ab, ao, none⟩ : Addr).add i = ⟨ab, ao + i, none⟩ := by
      unfold Addr.add
      split
      · rename_i h; subst h; rfl
      · rfl
    rw [ea] at hh
    rw [hh]
    simp [List.getD_eq_getElem?_getD, hi]
end Go.Proofs.YtekcemncmgingaaDoor.YOpen
