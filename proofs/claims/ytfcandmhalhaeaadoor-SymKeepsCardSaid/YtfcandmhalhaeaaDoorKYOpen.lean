/- Lean functions, contracts and lemmas that this claim needs. No condition. -/
import Derived.Test.YtfcandmhalhaeaaDoorProg
import Derived.ProofKit
import Derived.OpenShut
import Derived.Carry
import Derived.ChangeSlices
import Derived.SliceStrings
namespace Go.Proofs.YtfcandmhalhaeaaDoor.YOpen
open Go.ChangeShapes Go.WideShapes Go.ChangeAt Go.RowKit
set_option linter.unusedVariables false
set_option linter.unusedSimpArgs false
theorem cell_spot {w : World} {a : Addr} {v : Value} (h : w.cell? a = some v) : a.spot = none := by
  unfold World.cell? at h
  split at h
  · split at h
    · cases h
    · rename_i h'; simpa using h'
  · cases h
/-- A slice of numbers: its form, its numbers, where they lie. -/
theorem ints_arg {H : Type} {enc : TypeId × Value → H} {P : Program} {w : World} {r : Reach} {b0 : Nat} {t e : TypeId} {k : IntKind} {v : Value} {d : DataW H} {ps : List MemPlace} (ht : P.underlying t = some (.slice e)) (he : P.underlying e = some (.int k)) (hc : P.cellsOf e = 1)
    (hv : Value.okWide P w r b0 t v) (h : DataW.Trod enc P w 0 (fun _ => true) true t v d ps) :
    ∃ (A : Option Addr) (c : Nat) (zs : List Int), v = .slice A zs.length c ∧ zs.length ≤ c ∧ c ≤ maxLen ∧ (∀ n ∈ zs, (Lit.int k n).wf = true) ∧
      (0 < zs.length → ∃ b off, A = some ⟨b, off, none⟩ ∧ ∀ i, i < zs.length → w.cell? ⟨b, off + i, none⟩ = some (.int k (zs.getD i 0))) := by
  obtain ⟨fuel, hf⟩ := h
  obtain ⟨A0, len0, cap0, rfl⟩ := okWide_slice ht hv
  have hf : DataW.trod enc P w 0 (fun _ => true) true fuel t [Value.slice A0 len0 cap0] = some (d, ps) := hf
  rcases open_ints ht he hc hf with ⟨h0, _⟩ | ⟨a, len, cap, zs, h0, _, hl, hm, hlen, _, hcell, hwf⟩
  · obtain ⟨rfl, rfl, rfl⟩ : A0 = none ∧ len0 = 0 ∧ cap0 = 0 := by simpa using h0
    exact ⟨none, 0, [], rfl, Nat.le_refl _, by unfold maxLen; omega, fun n hn => (by cases hn), fun h => absurd h (by simp)⟩
  · obtain ⟨rfl, rfl, rfl⟩ : A0 = some a ∧ len0 = len ∧ cap0 = cap := by simpa using h0
    have hlz : len0 ≤ zs.length := by simp at hlen; omega
    have e : (zs.take len0).length = len0 := by simp; omega
    refine ⟨some a, cap0, zs.take len0, by rw [e], by rw [e]; exact hl, hm, fun n hn => hwf n (List.mem_of_mem_take hn), fun hpos => ?_⟩
    rw [e] at hpos ⊢
    have hs' : a.spot = none := by
      have := cell_spot (hcell 0 (by omega))
      simpa [Addr.add] using this
    obtain ⟨ab, ao, asp⟩ := a
    obtain rfl : asp = none := hs'
    refine ⟨ab, ao, rfl, fun i hi => ?_⟩
    have hh := hcell i (by omega)
    have ea : (⟨ab, ao, none⟩ : Addr).add i = ⟨ab, ao + i, none⟩ := by
      unfold Addr.add
      split
      · rename_i h; subst h; rfl
      · rfl
    rw [ea] at hh
    rw [hh]
    simp [List.getD_eq_getElem?_getD, List.getElem?_take, hi]
end Go.Proofs.YtfcandmhalhaeaaDoor.YOpen
