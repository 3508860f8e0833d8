/-
  No cell of these rows narrows 'for every input' (looked for: loops, veiled, ifaces, maps, wideKeys, modest, calm, conditions, laid).
  DERIVED. THE GIVEN ROWS OF THIS SEAT. 7 by the template 'for every input the law returns true; each argument reads behind the call as it read before'; 0 by the template 'total and deterministic' (their statements: YtpdljoalfmgfiaaTotals.lean).
  GIVEN WITH THE SEED: the statements are not yours to turn. If you find one false, say at which input.
  Laid BY PROGRAM, IN A SANDBOX (cutbox-rows.mjs): the forced cells as the released guide's own fill.sh prints them over the translation 7d3eddb4321611f3… (all of the seat's roots in one cut). By AI agents, Wed Nov 11 2026. No macro, syntax, notation, axiom, sorry.
-/
import Derived.Test.YtpdljoalfmgfiaaChecked
import GoSem.Claim
import GoSem.ClaimJoined
import GoSem.ClaimMapViews
import Derived.JoinedTies
import Derived.KernelRfl
namespace Go.Proofs.Ytpdljoalfmgfiaa
/- THE CELL 'sum', in the pinned program and in every row, IS THE sha256 OF THE DUMP (.gsa) THAT YtpdljoalfmgfiaaProg.lean LOADS. Nothing in Lean hashes anything: it is a label: what it is worth is what the hold of that sum in a sandbox is worth. -/
noncomputable def Try.pinned : Pinned := { name := "ytpdljoalfmgfiaa", sum := "7d3eddb4321611f30d0d2306eefcc6d8c916b3202baf8b0210e4eeda37a67a74", checked := Try.checked }
namespace Rows
def none {H : Type} : Left H := { results := [], args := [] }

/-- 'leadlinelaw1.WideSums': WHATEVER THE INPUT: true; the input reads as it did. -/
def wideSumsSpec : ChangeSpec := { name := "wideSums", fn := fun _ => fun
  | [d1, d2, d3, d4, d5, d6, d7, d8] => { results := [.lit (.bool true)], args := [d1, d2, d3, d4, d5, d6, d7, d8] }
  | _ => none }
def wideSumsRow : OpenClaim := { program := "ytpdljoalfmgfiaa", sum := "7d3eddb4321611f30d0d2306eefcc6d8c916b3202baf8b0210e4eeda37a67a74", func := "leadline/leadlinelaw1.WideSums", spec := "wideSums", inPlace := ["math/bits.Add64", "math/bits.Sub64"], named := ["math/bits.divideError", "math/bits.overflowError"], apart := false }
def WideSumsSaid : Prop := wideSumsRow.holds Try.pinned (OpenSpec.ofChange wideSumsSpec)

/-- ITS FALSE NEIGHBOUR: 'it returns false'. Refute it at one input. -/
def wideSumsWrong : ChangeSpec := { name := "wideSums", fn := fun _ => fun
  | [d1, d2, d3, d4, d5, d6, d7, d8] => { results := [.lit (.bool false)], args := [d1, d2, d3, d4, d5, d6, d7, d8] }
  | _ => none }
def WideSumsWrongFalsely : Prop := wideSumsRow.holds Try.pinned (OpenSpec.ofChange wideSumsWrong)

/-- 'leadlinelaw1.WideParts': WHATEVER THE INPUT: true; the input reads as it did. -/
def widePartsSpec : ChangeSpec := { name := "wideParts", fn := fun _ => fun
  | [d1, d2, d3, d4, d5, d6, d7, d8] => { results := [.lit (.bool true)], args := [d1, d2, d3, d4, d5, d6, d7, d8] }
  | _ => none }
def widePartsRow : OpenClaim := { program := "ytpdljoalfmgfiaa", sum := "7d3eddb4321611f30d0d2306eefcc6d8c916b3202baf8b0210e4eeda37a67a74", func := "leadline/leadlinelaw1.WideParts", spec := "wideParts", inPlace := ["math/bits.Add64", "math/bits.Sub64"], named := ["math/bits.divideError", "math/bits.overflowError"], apart := false }
def WidePartsSaid : Prop := widePartsRow.holds Try.pinned (OpenSpec.ofChange widePartsSpec)

/-- ITS FALSE NEIGHBOUR: 'it returns false'. Refute it at one input. -/
def widePartsWrong : ChangeSpec := { name := "wideParts", fn := fun _ => fun
  | [d1, d2, d3, d4, d5, d6, d7, d8] => { results := [.lit (.bool false)], args := [d1, d2, d3, d4, d5, d6, d7, d8] }
  | _ => none }
def WidePartsWrongFalsely : Prop := widePartsRow.holds Try.pinned (OpenSpec.ofChange widePartsWrong)

/-- 'leadlinelaw1.WideSmall': WHATEVER THE INPUT: true; the input reads as it did. -/
def wideSmallSpec : ChangeSpec := { name := "wideSmall", fn := fun _ => fun
  | [d1, d2, d3, d4, d5, d6] => { results := [.lit (.bool true)], args := [d1, d2, d3, d4, d5, d6] }
  | _ => none }
def wideSmallRow : OpenClaim := { program := "ytpdljoalfmgfiaa", sum := "7d3eddb4321611f30d0d2306eefcc6d8c916b3202baf8b0210e4eeda37a67a74", func := "leadline/leadlinelaw1.WideSmall", spec := "wideSmall", inPlace := ["math/bits.Add64", "math/bits.Sub64"], named := ["math/bits.divideError", "math/bits.overflowError"], apart := false }
def WideSmallSaid : Prop := wideSmallRow.holds Try.pinned (OpenSpec.ofChange wideSmallSpec)

/-- ITS FALSE NEIGHBOUR: 'it returns false'. Refute it at one input. -/
def wideSmallWrong : ChangeSpec := { name := "wideSmall", fn := fun _ => fun
  | [d1, d2, d3, d4, d5, d6] => { results := [.lit (.bool false)], args := [d1, d2, d3, d4, d5, d6] }
  | _ => none }
def WideSmallWrongFalsely : Prop := wideSmallRow.holds Try.pinned (OpenSpec.ofChange wideSmallWrong)

/-- 'leadlinelaw1.WideBack': WHATEVER THE INPUT: true; the input reads as it did. -/
def wideBackSpec : ChangeSpec := { name := "wideBack", fn := fun _ => fun
  | [d1, d2, d3, d4, d5, d6] => { results := [.lit (.bool true)], args := [d1, d2, d3, d4, d5, d6] }
  | _ => none }
def wideBackRow : OpenClaim := { program := "ytpdljoalfmgfiaa", sum := "7d3eddb4321611f30d0d2306eefcc6d8c916b3202baf8b0210e4eeda37a67a74", func := "leadline/leadlinelaw1.WideBack", spec := "wideBack", inPlace := ["math/bits.Add64", "math/bits.Sub64"], named := ["math/bits.divideError", "math/bits.overflowError"], apart := false }
def WideBackSaid : Prop := wideBackRow.holds Try.pinned (OpenSpec.ofChange wideBackSpec)

/-- ITS FALSE NEIGHBOUR: 'it returns false'. Refute it at one input. -/
def wideBackWrong : ChangeSpec := { name := "wideBack", fn := fun _ => fun
  | [d1, d2, d3, d4, d5, d6] => { results := [.lit (.bool false)], args := [d1, d2, d3, d4, d5, d6] }
  | _ => none }
def WideBackWrongFalsely : Prop := wideBackRow.holds Try.pinned (OpenSpec.ofChange wideBackWrong)

/-- 'leadlinelaw1.WideLine': WHATEVER THE INPUT: true; the input reads as it did. -/
def wideLineSpec : ChangeSpec := { name := "wideLine", fn := fun _ => fun
  | [d1, d2, d3, d4, d5, d6, d7] => { results := [.lit (.bool true)], args := [d1, d2, d3, d4, d5, d6, d7] }
  | _ => none }
def wideLineRow : OpenClaim := { program := "ytpdljoalfmgfiaa", sum := "7d3eddb4321611f30d0d2306eefcc6d8c916b3202baf8b0210e4eeda37a67a74", func := "leadline/leadlinelaw1.WideLine", spec := "wideLine", inPlace := ["math/bits.Add64", "math/bits.Sub64"], named := ["math/bits.divideError", "math/bits.overflowError"], apart := false }
def WideLineSaid : Prop := wideLineRow.holds Try.pinned (OpenSpec.ofChange wideLineSpec)

/-- ITS FALSE NEIGHBOUR: 'it returns false'. Refute it at one input. -/
def wideLineWrong : ChangeSpec := { name := "wideLine", fn := fun _ => fun
  | [d1, d2, d3, d4, d5, d6, d7] => { results := [.lit (.bool false)], args := [d1, d2, d3, d4, d5, d6, d7] }
  | _ => none }
def WideLineWrongFalsely : Prop := wideLineRow.holds Try.pinned (OpenSpec.ofChange wideLineWrong)

/-- 'leadlinelaw1.WideRing': WHATEVER THE INPUT: true; the input reads as it did. -/
def wideRingSpec : ChangeSpec := { name := "wideRing", fn := fun _ => fun
  | [d1, d2, d3, d4, d5, d6, d7, d8] => { results := [.lit (.bool true)], args := [d1, d2, d3, d4, d5, d6, d7, d8] }
  | _ => none }
def wideRingRow : OpenClaim := { program := "ytpdljoalfmgfiaa", sum := "7d3eddb4321611f30d0d2306eefcc6d8c916b3202baf8b0210e4eeda37a67a74", func := "leadline/leadlinelaw1.WideRing", spec := "wideRing", inPlace := ["math/bits.Add64", "math/bits.Sub64"], named := ["math/bits.divideError", "math/bits.overflowError"], apart := false }
def WideRingSaid : Prop := wideRingRow.holds Try.pinned (OpenSpec.ofChange wideRingSpec)

/-- ITS FALSE NEIGHBOUR: 'it returns false'. Refute it at one input. -/
def wideRingWrong : ChangeSpec := { name := "wideRing", fn := fun _ => fun
  | [d1, d2, d3, d4, d5, d6, d7, d8] => { results := [.lit (.bool false)], args := [d1, d2, d3, d4, d5, d6, d7, d8] }
  | _ => none }
def WideRingWrongFalsely : Prop := wideRingRow.holds Try.pinned (OpenSpec.ofChange wideRingWrong)

/-- 'leadlinelaw1.WideEdges': WHATEVER THE INPUT: true; the input reads as it did. -/
def wideEdgesSpec : ChangeSpec := { name := "wideEdges", fn := fun _ => fun
  | [d1, d2] => { results := [.lit (.bool true)], args := [d1, d2] }
  | _ => none }
def wideEdgesRow : OpenClaim := { program := "ytpdljoalfmgfiaa", sum := "7d3eddb4321611f30d0d2306eefcc6d8c916b3202baf8b0210e4eeda37a67a74", func := "leadline/leadlinelaw1.WideEdges", spec := "wideEdges", inPlace := ["math/bits.Add64", "math/bits.Sub64"], named := ["math/bits.divideError", "math/bits.overflowError"], apart := false }
def WideEdgesSaid : Prop := wideEdgesRow.holds Try.pinned (OpenSpec.ofChange wideEdgesSpec)

/-- ITS FALSE NEIGHBOUR: 'it returns false'. Refute it at one input. -/
def wideEdgesWrong : ChangeSpec := { name := "wideEdges", fn := fun _ => fun
  | [d1, d2] => { results := [.lit (.bool false)], args := [d1, d2] }
  | _ => none }
def WideEdgesWrongFalsely : Prop := wideEdgesRow.holds Try.pinned (OpenSpec.ofChange wideEdgesWrong)

/- THE SECOND FORM. 'bulk': how many values and letters a reading holds, each counted each time it is reached (what is shared counts as often as it is met; a slice's spare places count too). A statement '..UptoSaid' is the law's where the arguments, and the package variables that the reading takes, are together of bulk at most 1048576: NARROWER than '..Said'. Prove '..Said' where nothing that the law and all that it calls make is longer than what came in: it says more and counts as full. Else prove '..UptoSaid'. A law counts once. -/
mutual
def uptoBulk {H : Type} : DataW H → Nat
  | .lit (.string bytes) => bytes.length + 1
  | .lit _ => 1
  | .nil => 1
  | .ptr d => uptoBulk d + 1
  | .slice elems spare => uptoBulkAll elems + uptoBulkAll spare + 1
  | .agg parts => uptoBulkAll parts + 1
  | .iface _ d => uptoBulk d + 1
  | .map entries => uptoBulkEntries entries + 1
  | .held _ => 1
def uptoBulkAll {H : Type} : List (DataW H) → Nat
  | [] => 0
  | d :: r => uptoBulk d + uptoBulkAll r
def uptoBulkEntries {H : Type} : List (Lit × DataW H) → Nat
  | [] => 0
  | x :: r => uptoBulkEntry x + uptoBulkEntries r
def uptoBulkEntry {H : Type} : Lit × DataW H → Nat
  | (.string bytes, d) => bytes.length + uptoBulk d + 1
  | (_, d) => uptoBulk d + 1
 end
def uptoSmall : (H : Type) → List (DataW H) → Bool := fun _ ds => decide (uptoBulkAll ds ≤ 1048576)
def OpenSpec.upto (s : _root_.Go.ChangeSpec) : _root_.Go.OpenSpec := { _root_.Go.OpenSpec.ofChange s with cond := some uptoSmall }

/-- 'leadlinelaw1.WideSums', WHERE WHAT IT READS IS OF BULK AT MOST 1048576: true; the input reads as it did. -/
def wideSumsUptoRow : OpenClaim := { program := "ytpdljoalfmgfiaa", sum := "7d3eddb4321611f30d0d2306eefcc6d8c916b3202baf8b0210e4eeda37a67a74", func := "leadline/leadlinelaw1.WideSums", spec := "wideSums", inPlace := ["math/bits.Add64", "math/bits.Sub64"], named := ["math/bits.divideError", "math/bits.overflowError"], apart := false, narrowed := true }
def WideSumsUptoSaid : Prop := wideSumsUptoRow.holds Try.pinned (OpenSpec.upto wideSumsSpec)

/-- 'leadlinelaw1.WideParts', WHERE WHAT IT READS IS OF BULK AT MOST 1048576: true; the input reads as it did. -/
def widePartsUptoRow : OpenClaim := { program := "ytpdljoalfmgfiaa", sum := "7d3eddb4321611f30d0d2306eefcc6d8c916b3202baf8b0210e4eeda37a67a74", func := "leadline/leadlinelaw1.WideParts", spec := "wideParts", inPlace := ["math/bits.Add64", "math/bits.Sub64"], named := ["math/bits.divideError", "math/bits.overflowError"], apart := false, narrowed := true }
def WidePartsUptoSaid : Prop := widePartsUptoRow.holds Try.pinned (OpenSpec.upto widePartsSpec)

/-- 'leadlinelaw1.WideSmall', WHERE WHAT IT READS IS OF BULK AT MOST 1048576: true; the input reads as it did. -/
def wideSmallUptoRow : OpenClaim := { program := "ytpdljoalfmgfiaa", sum := "7d3eddb4321611f30d0d2306eefcc6d8c916b3202baf8b0210e4eeda37a67a74", func := "leadline/leadlinelaw1.WideSmall", spec := "wideSmall", inPlace := ["math/bits.Add64", "math/bits.Sub64"], named := ["math/bits.divideError", "math/bits.overflowError"], apart := false, narrowed := true }
def WideSmallUptoSaid : Prop := wideSmallUptoRow.holds Try.pinned (OpenSpec.upto wideSmallSpec)

/-- 'leadlinelaw1.WideBack', WHERE WHAT IT READS IS OF BULK AT MOST 1048576: true; the input reads as it did. -/
def wideBackUptoRow : OpenClaim := { program := "ytpdljoalfmgfiaa", sum := "7d3eddb4321611f30d0d2306eefcc6d8c916b3202baf8b0210e4eeda37a67a74", func := "leadline/leadlinelaw1.WideBack", spec := "wideBack", inPlace := ["math/bits.Add64", "math/bits.Sub64"], named := ["math/bits.divideError", "math/bits.overflowError"], apart := false, narrowed := true }
def WideBackUptoSaid : Prop := wideBackUptoRow.holds Try.pinned (OpenSpec.upto wideBackSpec)

/-- 'leadlinelaw1.WideLine', WHERE WHAT IT READS IS OF BULK AT MOST 1048576: true; the input reads as it did. -/
def wideLineUptoRow : OpenClaim := { program := "ytpdljoalfmgfiaa", sum := "7d3eddb4321611f30d0d2306eefcc6d8c916b3202baf8b0210e4eeda37a67a74", func := "leadline/leadlinelaw1.WideLine", spec := "wideLine", inPlace := ["math/bits.Add64", "math/bits.Sub64"], named := ["math/bits.divideError", "math/bits.overflowError"], apart := false, narrowed := true }
def WideLineUptoSaid : Prop := wideLineUptoRow.holds Try.pinned (OpenSpec.upto wideLineSpec)

/-- 'leadlinelaw1.WideRing', WHERE WHAT IT READS IS OF BULK AT MOST 1048576: true; the input reads as it did. -/
def wideRingUptoRow : OpenClaim := { program := "ytpdljoalfmgfiaa", sum := "7d3eddb4321611f30d0d2306eefcc6d8c916b3202baf8b0210e4eeda37a67a74", func := "leadline/leadlinelaw1.WideRing", spec := "wideRing", inPlace := ["math/bits.Add64", "math/bits.Sub64"], named := ["math/bits.divideError", "math/bits.overflowError"], apart := false, narrowed := true }
def WideRingUptoSaid : Prop := wideRingUptoRow.holds Try.pinned (OpenSpec.upto wideRingSpec)

/-- 'leadlinelaw1.WideEdges', WHERE WHAT IT READS IS OF BULK AT MOST 1048576: true; the input reads as it did. -/
def wideEdgesUptoRow : OpenClaim := { program := "ytpdljoalfmgfiaa", sum := "7d3eddb4321611f30d0d2306eefcc6d8c916b3202baf8b0210e4eeda37a67a74", func := "leadline/leadlinelaw1.WideEdges", spec := "wideEdges", inPlace := ["math/bits.Add64", "math/bits.Sub64"], named := ["math/bits.divideError", "math/bits.overflowError"], apart := false, narrowed := true }
def WideEdgesUptoSaid : Prop := wideEdgesUptoRow.holds Try.pinned (OpenSpec.upto wideEdgesSpec)

end Rows
end Go.Proofs.Ytpdljoalfmgfiaa
