/- Lean functions, contracts and lemmas that this claim needs. No condition. -/
import Derived.Test.YtpdljoalfmgfiaaProg
import Derived.WalkKit
import Derived.Below
import Derived.OneCell
import Derived.Deep.Draws
namespace Go.Proofs.Ytpdljoalfmgfiaa.YErr
open Go.RowKit Go.Extern.Stop Go.Stop Go.Extern
set_option linter.unusedVariables false
set_option linter.unusedSimpArgs false
/-- A block holds just these cells. -/
def Blk (w : World) (b : Nat) (cs : Array Value) (T : TypeId) : Prop := w.heap[b]? = some (.cells cs T (0, 0))
section
variable {w w' w2 : World} {b : Nat} {cs : Array Value} {T : TypeId} {row : Option Nat}
theorem Blk.cell (h : Blk w b cs T) (j : Nat) : w.cell? ⟨b, j, none⟩ = cs[j]? := by
  unfold Blk at h
  simp [World.cell?, h]
theorem Blk.free (h : Blk w b cs T) (j : Nat) : w.frozen? ⟨b, j, none⟩ = false := by
  unfold Blk at h
  simp [World.frozen?, h]
theorem Blk.lt (h : Blk w b cs T) : b < w.heap.size := by
  rcases Nat.lt_or_ge b w.heap.size with h' | h'
  · exact h'
  · unfold Blk at h
    rw [Array.getElem?_eq_none h'] at h
    cases h
theorem Blk.set (h : Blk w b cs T) (j : Nat) (u : Value) : Blk (w.setCell ⟨b, j, none⟩ u) b (cs.setIfInBounds j u) T := by
  unfold Blk at *
  simp [World.setCell, Array.getElem?_modify, h]
theorem Blk.grown (h : Blk w b cs T) (g : w.grownBy w' row) (hne : some b ≠ row) : Blk w' b cs T := (g.block b h.lt hne).trans h
theorem Blk.below {B : Nat} (h : Blk w b cs T) (g : Below B w w') (hb : b < B) : Blk w' b cs T := (g.block b hb).trans h
theorem Blk.keep (h : Blk w b cs T) (g : Below w.heap.size w w') : Blk w' b cs T := h.below g h.lt
theorem Blk.alloc (h : Blk w b cs T) (o : Obj) : Blk (w.alloc o) b cs T := h.grown (World.grownBy_alloc w o none) (by simp)
theorem Blk.setOther (h : Blk w b cs T) {p : Addr} (hp : p.block ≠ b) (u : Value) : Blk (w.setCell p u) b cs T := (Below.heap_setCell w p u b (Ne.symm hp)).trans h
theorem Blk.new (w : World) (cs : Array Value) (T : TypeId) : Blk (w.alloc (.cells cs T)) w.heap.size cs T := heap_alloc_new w _
theorem Blk.drewN (h : Blk w b cs T) (n : Nat) : Blk (w.drewN n) b cs T := h
theorem Blk.drew (h : Blk w b cs T) : Blk w.drew b cs T := h
theorem below_drewN {B : Nat} {a : World} (h : Below B a w) (n : Nat) : Below B a (w.drewN n) := ⟨h.os, h.tape, h.output, h.size, h.block⟩
end
end Go.Proofs.Ytpdljoalfmgfiaa.YErr
