/- Lean functions, contracts and lemmas that this claim needs. No condition. -/
import Derived.Test.YtfcandmhalhaeaaDoorKYSymT
namespace Go.Proofs.YtfcandmhalhaeaaDoor.YSym
open Go.RowKit Go.Proofs.YtfcandmhalhaeaaDoor.YErr Go.Proofs.YtfcandmhalhaeaaDoor.YInv Go.Proofs.YtfcandmhalhaeaaDoor.YRef Go.Proofs.YtfcandmhalhaeaaDoor.YBits Go.Proofs.YtfcandmhalhaeaaDoor.YNum Go.Proofs.YtfcandmhalhaeaaDoor.QSy Go.Proofs.YtfcandmhalhaeaaDoor.YWide Go.Proofs.YtfcandmhalhaeaaDoorW.PrintWords Go.Proofs.YtfcandmhalhaeaaDoorW.PrintLast
set_option linter.unusedVariables false
set_option linter.unusedSimpArgs false
theorem _root_.Go.Proofs.YtfcandmhalhaeaaDoor.YErr.ErrFrom.keep {op : ByteArray} {B : Nat} {w w' : World} {v : Value} {c : Int} (h : ErrFrom op B w v c) (g : Below w.heap.size w w') : ErrFrom op B w' v c := ErrFrom.below (C := 0) h g
theorem _root_.Go.Proofs.YtfcandmhalhaeaaDoor.YErr.Laid.keep {w w' : World} (h : Laid w) (g : Below w.heap.size w w') : Laid w' := h.below g
/-- A slice's number of small wholes (of any kind) that lie there. -/
def RdK (k : IntKind) (w : World) (A : Option Addr) (l : List Int) : Prop := 0 < l.length → ∃ b off, A = some ⟨b, off, none⟩ ∧ ∀ i, i < l.length → w.cell? ⟨b, off + i, none⟩ = some (.int k (l.getD i 0))
theorem RdK.keep {k : IntKind} {w w' : World} {A : Option Addr} {l : List Int} (h : RdK k w A l) (b : Below w.heap.size w w') : RdK k w' A l := fun hp => by
  obtain ⟨g, o, e, hc⟩ := h hp
  exact ⟨g, o, e, fun i hi => (b.cell (p := ⟨g, o + i, none⟩) (lt_of_cell (a := ⟨g, o + i, none⟩) (hc i hi))).trans (hc i hi)⟩
/-- What the loop over the matrices knows of them. -/
def Two (w : World) (g : Nat) : Prop := ∀ r, r < 2 → ∃ (N : Int) (A : Option Addr) (C : Nat) (L : List Int), w.cell? ⟨g, r * 2, none⟩ = some (.int .i64 N) ∧ w.cell? ⟨g, r * 2 + 1, none⟩ = some (.slice A L.length C) ∧ Rd w A L ∧ L.length ≤ C ∧ L.length ≤ 60
theorem Two.keep {w w' : World} {g : Nat} (h : Two w g) (b : Below w.heap.size w w') : Two w' g := fun r hr => by
  obtain ⟨N, A, C, L, h1, h2, h3, h4⟩ := h r hr
  exact ⟨N, A, C, L, (b.cell (lt_of_cell h1)).trans h1, (b.cell (lt_of_cell h2)).trans h2, h3.keep b, h4⟩
/-- What the loop over the pairs knows of them. -/
def Prs (w : World) (g : Nat) : Prop := ∀ t, t < 3 → ∃ x y : Int, w.cell? ⟨g, t * 2, none⟩ = some (.int .i64 x) ∧ w.cell? ⟨g, t * 2 + 1, none⟩ = some (.int .i64 y)
theorem Prs.keep {w w' : World} {g : Nat} (h : Prs w g) (b : Below w.heap.size w w') : Prs w' g := fun t ht => by
  obtain ⟨x, y, h1, h2⟩ := h t ht
  exact ⟨x, y, (b.cell (lt_of_cell h1)).trans h1, (b.cell (lt_of_cell h2)).trans h2⟩
theorem Prs.of {w : World} {g : Nat} {a b c d e f : Int} {T : TypeId} (k : Blk w g #[.int .i64 a, .int .i64 b, .int .i64 c, .int .i64 d, .int .i64 e, .int .i64 f] T) : Prs w g := fun t ht => by
  match t, ht with
  | 0, _ => exact ⟨a, b, k.cell 0, k.cell 1⟩
  | 1, _ => exact ⟨c, d, k.cell 2, k.cell 3⟩
  | 2, _ => exact ⟨e, f, k.cell 4, k.cell 5⟩
theorem Two.of {w : World} {g : Nat} {n m : Int} {A A' : Option Addr} {c c' : Nat} {l l' : List Int} {T : TypeId} (k : Blk w g #[.int .i64 n, .slice A l.length c, .int .i64 m, .slice A' l'.length c'] T) (R : Rd w A l) (h1 : l.length ≤ c) (h2 : l.length ≤ 60) (R' : Rd w A' l') (h1' : l'.length ≤ c') (h2' : l'.length ≤ 60) : Two w g := fun t ht => by
  match t, ht with
  | 0, _ => exact ⟨n, A, c, l, k.cell 0, k.cell 1, R, h1, h2⟩
  | 1, _ => exact ⟨m, A', c', l', k.cell 2, k.cell 3, R', h1', h2'⟩
end Go.Proofs.YtfcandmhalhaeaaDoor.YSym
