/- Lean functions, contracts and lemmas that this claim needs. No condition. -/
import Derived.Test.YtfcandmhalhaeaaDoorAYErr2
import Derived.WalkKit
import Derived.Below
import Derived.OneCell
import Derived.Deep.Draws
namespace Go.Proofs.YtfcandmhalhaeaaDoor.YErr
open Go.RowKit Go.Extern.Stop Go.Stop Go.Extern
set_option linter.unusedVariables false
set_option linter.unusedSimpArgs false
/-- A block holds just these cells. -/
def Blk (w : World) (b : Nat) (cs : Array Value) (T : TypeId) : Prop := w.heap[b]? = some (.cells cs T (0, 0))
section
variable {w w' w2 : World} {b : Nat} {cs : Array Value} {T : TypeId} {row : Option Nat}
theorem Blk.cell (h : Blk w b cs T) (j : Nat) : w.cell? ⟨b, j, none⟩ = cs[j]? := by
  unfold Blk at h
  simp [World.cell?, h]
theorem Blk.free (h : Blk w b cs T) (j : Nat) : w.frozen? ⟨b, j, none⟩ = false := by
  unfold Blk at h
  simp [World.frozen?, h]
theorem Blk.lt (h : Blk w b cs T) : b < w.heap.size := by
  rcases Nat.lt_or_ge b w.heap.size with h' | h'
  · exact h'
  · unfold Blk at h
    rw [Array.getElem?_eq_none h'] at h
    cases h
theorem Blk.set (h : Blk w b cs T) (j : Nat) (u : Value) : Blk (w.setCell ⟨b, j, none⟩ u) b (cs.setIfInBounds j u) T := by
  unfold Blk at *
  simp [World.setCell, Array.getElem?_modify, h]
theorem Blk.grown (h : Blk w b cs T) (g : w.grownBy w' row) (hne : some b ≠ row) : Blk w' b cs T := (g.block b h.lt hne).trans h
theorem Blk.below {B : Nat} (h : Blk w b cs T) (g : Below B w w') (hb : b < B) : Blk w' b cs T := (g.block b hb).trans h
theorem Blk.keep (h : Blk w b cs T) (g : Below w.heap.size w w') : Blk w' b cs T := h.below g h.lt
theorem Blk.alloc (h : Blk w b cs T) (o : Obj) : Blk (w.alloc o) b cs T := h.grown (World.grownBy_alloc w o none) (by simp)
theorem Blk.setOther (h : Blk w b cs T) {p : Addr} (hp : p.block ≠ b) (u : Value) : Blk (w.setCell p u) b cs T := (Below.heap_setCell w p u b (Ne.symm hp)).trans h
theorem Blk.new (w : World) (cs : Array Value) (T : TypeId) : Blk (w.alloc (.cells cs T)) w.heap.size cs T := heap_alloc_new w _
theorem Blk.drewN (h : Blk w b cs T) (n : Nat) : Blk (w.drewN n) b cs T := h
theorem Blk.drew (h : Blk w b cs T) : Blk w.drew b cs T := h
theorem gro_refl (w : World) (row : Option Nat) : w.grownBy w row := ⟨rfl, rfl, rfl, Nat.le_refl _, fun _ _ _ => rfl⟩
theorem gro_trans (g : w.grownBy w' row) (h : w'.grownBy w2 row) : w.grownBy w2 row :=
  ⟨h.os.trans g.os, h.tape.trans g.tape, h.output.trans g.output, Nat.le_trans g.size h.size, fun k hk hn => (h.block k (Nat.lt_of_lt_of_le hk g.size) hn).trans (g.block k hk hn)⟩
theorem gro_set (g : w.grownBy w' (some b)) (j : Nat) (u : Value) : w.grownBy (w'.setCell ⟨b, j, none⟩ u) (some b) :=
  gro_trans g ⟨rfl, rfl, rfl, by simp [World.setCell], fun k hk hn => Below.heap_setCell _ _ _ _ (fun e => hn (by rw [e]))⟩
theorem gro_below (g : Below w.heap.size w w') : w.grownBy w' row := ⟨g.os, g.tape, g.output, g.size, fun k hk _ => g.block k hk⟩
theorem below_gro (g : w.grownBy w' none) : Below w.heap.size w w' := ⟨g.os, g.tape, g.output, g.size, fun k hk => g.block k hk (by simp)⟩
theorem gro_cell (g : w.grownBy w' row) {p : Addr} (hp : p.block < w.heap.size) (hn : some p.block ≠ row) : w'.cell? p = w.cell? p := World.cell?_of_block (w := w) (g.block p.block hp hn)
theorem below_drewN {B : Nat} {a : World} (h : Below B a w) (n : Nat) : Below B a (w.drewN n) := ⟨h.os, h.tape, h.output, h.size, h.block⟩
theorem Laid.grown (h : Laid w) (g : w.grownBy w' (some b)) (hb : 0 ≠ b) : Laid w' := (gro_cell g (lt_of_cell h) (by simpa using hb)).trans h
end
/-- An error of one layer, whose memory is not older than block B. -/
def ErrFrom (op : ByteArray) (B : Nat) (w : World) (v : Value) (c : Int) : Prop :=
  (c = 0 ∧ v = .nilIface) ∨ (c ≠ 0 ∧ ∃ a : Addr, v = .iface 131 (.pointer (some a)) ∧ B ≤ a.block ∧ w.cell? a = some (.string op) ∧ w.cell? ⟨a.block, a.off + 1, none⟩ = some (.iface 54 (.int .i64 c)))
section
variable {op : ByteArray} {B b : Nat} {w w' : World} {v : Value} {c : Int} {row : Option Nat}
theorem ErrFrom.is (h : ErrFrom op B w v c) : ErrIs op w v c := by
  rcases h with h | ⟨hc, a, hv, _, h0, h1⟩
  · exact .inl h
  · exact .inr ⟨hc, a, hv, h0, h1⟩
theorem ErrFrom.grown (h : ErrFrom op B w v c) (g : w.grownBy w' (some b)) (hb : b < B) : ErrFrom op B w' v c := by
  rcases h with h | ⟨hc, a, hv, hB, h0, h1⟩
  · exact .inl h
  · exact .inr ⟨hc, a, hv, hB, (gro_cell g (lt_of_cell h0) (by simp; omega)).trans h0, (gro_cell (p := ⟨a.block, a.off + 1, none⟩) g (lt_of_cell (a := ⟨a.block, a.off + 1, none⟩) h1) (by simp; omega)).trans h1⟩
theorem ErrFrom.below {C : Nat} (h : ErrFrom op B w v c) (g : Below w.heap.size w w') : ErrFrom op B w' v c := by
  rcases h with h | ⟨hc, a, hv, hB, h0, h1⟩
  · exact .inl h
  · exact .inr ⟨hc, a, hv, hB, (gro_cell (row := none) (gro_below g) (lt_of_cell h0) (by simp)).trans h0, (gro_cell (p := ⟨a.block, a.off + 1, none⟩) (row := none) (gro_below g) (lt_of_cell (a := ⟨a.block, a.off + 1, none⟩) h1) (by simp)).trans h1⟩
theorem ErrFrom.mono {B' : Nat} (h : ErrFrom op B w v c) (hB : B' ≤ B) : ErrFrom op B' w v c := by
  rcases h with h | ⟨hc, a, hv, hB', h0, h1⟩
  · exact .inl h
  · exact .inr ⟨hc, a, hv, Nat.le_trans hB hB', h0, h1⟩
theorem ErrFrom.nil (op : ByteArray) (B : Nat) (w : World) : ErrFrom op B w .nilIface 0 := .inl ⟨rfl, rfl⟩
theorem ErrFrom.none (h : ErrFrom op B w v 0) : v = .nilIface := h.is.none
theorem Wrap_from (op : ByteArray) (c : Int) (hc : c ≠ 0) (w : World) :
    Calls Tryd.prog 54 #[.string op, .iface 54 (.int .i64 c)] w fun e w' => ∃ v, e = .returned v ∧ ErrFrom op w.heap.size w' v c ∧ Below w.heap.size w w' := by
  refine (Wrap_one op _ _ w).mono ?_
  rintro e w' ⟨rfl, rfl⟩
  exact ⟨_, rfl, .inr ⟨hc, _, rfl, Nat.le_refl _, by simp, by simp⟩, (Below.refl _ _).alloc (Nat.le_refl _) _⟩
end
end Go.Proofs.YtfcandmhalhaeaaDoor.YErr
