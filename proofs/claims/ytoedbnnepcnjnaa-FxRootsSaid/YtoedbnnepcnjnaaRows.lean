/-
  No cell of these rows narrows 'for every input' (looked for: loops, veiled, ifaces, maps, wideKeys, modest, calm, conditions, laid).
  DERIVED. THE GIVEN ROWS OF THIS SEAT. 12 by the template 'for every input the law returns true; each argument reads behind the call as it read before'; 0 by the template 'total and deterministic' (their statements: YtoedbnnepcnjnaaTotals.lean).
  GIVEN WITH THE SEED: the statements are not yours to turn. If you find one false, say at which input.
  Laid BY PROGRAM, IN A SANDBOX (cutbox-rows.mjs): the forced cells as the released guide's own fill.sh prints them over the translation eb1783c546e09761… (all of the seat's roots in one cut). By AI agents, Wed Nov 11 2026. No macro, syntax, notation, axiom, sorry.
-/
import Derived.Test.YtoedbnnepcnjnaaChecked
import GoSem.Claim
import GoSem.ClaimJoined
import GoSem.ClaimMapViews
import Derived.JoinedTies
import Derived.KernelRfl
namespace Go.Proofs.Ytoedbnnepcnjnaa
/- THE CELL 'sum', in the pinned program and in every row, IS THE sha256 OF THE DUMP (.gsa) THAT YtoedbnnepcnjnaaProg.lean LOADS. Nothing in Lean hashes anything: it is a label: what it is worth is what the hold of that sum in a sandbox is worth. -/
noncomputable def Try.pinned : Pinned := { name := "ytoedbnnepcnjnaa", sum := "eb1783c546e09761dec89365c9ff9ef57dabb2172524bd0565c01f93e3965085", checked := Try.checked }
namespace Rows
def none {H : Type} : Left H := { results := [], args := [] }

/-- 'leadlinelaw3.AngleTells': WHATEVER THE INPUT: true; the input reads as it did. -/
def angleTellsSpec : ChangeSpec := { name := "angleTells", fn := fun _ => fun
  | [d1, d2] => { results := [.lit (.bool true)], args := [d1, d2] }
  | _ => none }
def angleTellsRow : OpenClaim := { program := "ytoedbnnepcnjnaa", sum := "eb1783c546e09761dec89365c9ff9ef57dabb2172524bd0565c01f93e3965085", func := "leadline/leadlinelaw3.AngleTells", spec := "angleTells", apart := false }
def AngleTellsSaid : Prop := angleTellsRow.holds Try.pinned (OpenSpec.ofChange angleTellsSpec)

/-- ITS FALSE NEIGHBOUR: 'it returns false'. Refute it at one input. -/
def angleTellsWrong : ChangeSpec := { name := "angleTells", fn := fun _ => fun
  | [d1, d2] => { results := [.lit (.bool false)], args := [d1, d2] }
  | _ => none }
def AngleTellsWrongFalsely : Prop := angleTellsRow.holds Try.pinned (OpenSpec.ofChange angleTellsWrong)

/-- 'leadlinelaw3.AngleTurns': WHATEVER THE INPUT: true; the input reads as it did. -/
def angleTurnsSpec : ChangeSpec := { name := "angleTurns", fn := fun _ => fun
  | [d] => { results := [.lit (.bool true)], args := [d] }
  | _ => none }
def angleTurnsRow : OpenClaim := { program := "ytoedbnnepcnjnaa", sum := "eb1783c546e09761dec89365c9ff9ef57dabb2172524bd0565c01f93e3965085", func := "leadline/leadlinelaw3.AngleTurns", spec := "angleTurns", apart := false }
def AngleTurnsSaid : Prop := angleTurnsRow.holds Try.pinned (OpenSpec.ofChange angleTurnsSpec)

/-- ITS FALSE NEIGHBOUR: 'it returns false'. Refute it at one input. -/
def angleTurnsWrong : ChangeSpec := { name := "angleTurns", fn := fun _ => fun
  | [d] => { results := [.lit (.bool false)], args := [d] }
  | _ => none }
def AngleTurnsWrongFalsely : Prop := angleTurnsRow.holds Try.pinned (OpenSpec.ofChange angleTurnsWrong)

/-- 'leadlinelaw3.AngleSides': WHATEVER THE INPUT: true; the input reads as it did. -/
def angleSidesSpec : ChangeSpec := { name := "angleSides", fn := fun _ => fun
  | [d1, d2] => { results := [.lit (.bool true)], args := [d1, d2] }
  | _ => none }
def angleSidesRow : OpenClaim := { program := "ytoedbnnepcnjnaa", sum := "eb1783c546e09761dec89365c9ff9ef57dabb2172524bd0565c01f93e3965085", func := "leadline/leadlinelaw3.AngleSides", spec := "angleSides", apart := false }
def AngleSidesSaid : Prop := angleSidesRow.holds Try.pinned (OpenSpec.ofChange angleSidesSpec)

/-- ITS FALSE NEIGHBOUR: 'it returns false'. Refute it at one input. -/
def angleSidesWrong : ChangeSpec := { name := "angleSides", fn := fun _ => fun
  | [d1, d2] => { results := [.lit (.bool false)], args := [d1, d2] }
  | _ => none }
def AngleSidesWrongFalsely : Prop := angleSidesRow.holds Try.pinned (OpenSpec.ofChange angleSidesWrong)

/-- 'leadlinelaw3.AngleScales': WHATEVER THE INPUT: true; the input reads as it did. -/
def angleScalesSpec : ChangeSpec := { name := "angleScales", fn := fun _ => fun
  | [d1, d2, d3] => { results := [.lit (.bool true)], args := [d1, d2, d3] }
  | _ => none }
def angleScalesRow : OpenClaim := { program := "ytoedbnnepcnjnaa", sum := "eb1783c546e09761dec89365c9ff9ef57dabb2172524bd0565c01f93e3965085", func := "leadline/leadlinelaw3.AngleScales", spec := "angleScales", apart := false }
def AngleScalesSaid : Prop := angleScalesRow.holds Try.pinned (OpenSpec.ofChange angleScalesSpec)

/-- ITS FALSE NEIGHBOUR: 'it returns false'. Refute it at one input. -/
def angleScalesWrong : ChangeSpec := { name := "angleScales", fn := fun _ => fun
  | [d1, d2, d3] => { results := [.lit (.bool false)], args := [d1, d2, d3] }
  | _ => none }
def AngleScalesWrongFalsely : Prop := angleScalesRow.holds Try.pinned (OpenSpec.ofChange angleScalesWrong)

/-- 'leadlinelaw3.AngleFinds': WHATEVER THE INPUT: true; the input reads as it did. -/
def angleFindsSpec : ChangeSpec := { name := "angleFinds", fn := fun _ => fun
  | [d1, d2, d3] => { results := [.lit (.bool true)], args := [d1, d2, d3] }
  | _ => none }
def angleFindsRow : OpenClaim := { program := "ytoedbnnepcnjnaa", sum := "eb1783c546e09761dec89365c9ff9ef57dabb2172524bd0565c01f93e3965085", func := "leadline/leadlinelaw3.AngleFinds", spec := "angleFinds", inPlace := ["math/bits.Add64", "math/bits.Sub64"], apart := false }
def AngleFindsSaid : Prop := angleFindsRow.holds Try.pinned (OpenSpec.ofChange angleFindsSpec)

/-- ITS FALSE NEIGHBOUR: 'it returns false'. Refute it at one input. -/
def angleFindsWrong : ChangeSpec := { name := "angleFinds", fn := fun _ => fun
  | [d1, d2, d3] => { results := [.lit (.bool false)], args := [d1, d2, d3] }
  | _ => none }
def AngleFindsWrongFalsely : Prop := angleFindsRow.holds Try.pinned (OpenSpec.ofChange angleFindsWrong)

/-- 'leadlinelaw2.FxHalves': WHATEVER THE INPUT: true; the input reads as it did. -/
def fxHalvesSpec : ChangeSpec := { name := "fxHalves", fn := fun _ => fun
  | [d1, d2] => { results := [.lit (.bool true)], args := [d1, d2] }
  | _ => none }
def fxHalvesRow : OpenClaim := { program := "ytoedbnnepcnjnaa", sum := "eb1783c546e09761dec89365c9ff9ef57dabb2172524bd0565c01f93e3965085", func := "leadline/leadlinelaw2.FxHalves", spec := "fxHalves", named := ["math/bits.divideError", "math/bits.overflowError"], apart := false }
def FxHalvesSaid : Prop := fxHalvesRow.holds Try.pinned (OpenSpec.ofChange fxHalvesSpec)

/-- ITS FALSE NEIGHBOUR: 'it returns false'. Refute it at one input. -/
def fxHalvesWrong : ChangeSpec := { name := "fxHalves", fn := fun _ => fun
  | [d1, d2] => { results := [.lit (.bool false)], args := [d1, d2] }
  | _ => none }
def FxHalvesWrongFalsely : Prop := fxHalvesRow.holds Try.pinned (OpenSpec.ofChange fxHalvesWrong)

/-- 'leadlinelaw2.FxSides': WHATEVER THE INPUT: true; the input reads as it did. -/
def fxSidesSpec : ChangeSpec := { name := "fxSides", fn := fun _ => fun
  | [d1, d2] => { results := [.lit (.bool true)], args := [d1, d2] }
  | _ => none }
def fxSidesRow : OpenClaim := { program := "ytoedbnnepcnjnaa", sum := "eb1783c546e09761dec89365c9ff9ef57dabb2172524bd0565c01f93e3965085", func := "leadline/leadlinelaw2.FxSides", spec := "fxSides", named := ["math/bits.divideError", "math/bits.overflowError"], apart := false }
def FxSidesSaid : Prop := fxSidesRow.holds Try.pinned (OpenSpec.ofChange fxSidesSpec)

/-- ITS FALSE NEIGHBOUR: 'it returns false'. Refute it at one input. -/
def fxSidesWrong : ChangeSpec := { name := "fxSides", fn := fun _ => fun
  | [d1, d2] => { results := [.lit (.bool false)], args := [d1, d2] }
  | _ => none }
def FxSidesWrongFalsely : Prop := fxSidesRow.holds Try.pinned (OpenSpec.ofChange fxSidesWrong)

/-- 'leadlinelaw2.FxSquares': WHATEVER THE INPUT: true; the input reads as it did. -/
def fxSquaresSpec : ChangeSpec := { name := "fxSquares", fn := fun _ => fun
  | [d1, d2] => { results := [.lit (.bool true)], args := [d1, d2] }
  | _ => none }
def fxSquaresRow : OpenClaim := { program := "ytoedbnnepcnjnaa", sum := "eb1783c546e09761dec89365c9ff9ef57dabb2172524bd0565c01f93e3965085", func := "leadline/leadlinelaw2.FxSquares", spec := "fxSquares", inPlace := ["math/bits.Add64"], named := ["math/bits.divideError", "math/bits.overflowError"], apart := false }
def FxSquaresSaid : Prop := fxSquaresRow.holds Try.pinned (OpenSpec.ofChange fxSquaresSpec)

/-- ITS FALSE NEIGHBOUR: 'it returns false'. Refute it at one input. -/
def fxSquaresWrong : ChangeSpec := { name := "fxSquares", fn := fun _ => fun
  | [d1, d2] => { results := [.lit (.bool false)], args := [d1, d2] }
  | _ => none }
def FxSquaresWrongFalsely : Prop := fxSquaresRow.holds Try.pinned (OpenSpec.ofChange fxSquaresWrong)

/-- 'leadlinelaw2.FxRounds': WHATEVER THE INPUT: true; the input reads as it did. -/
def fxRoundsSpec : ChangeSpec := { name := "fxRounds", fn := fun _ => fun
  | [d1, d2, d3, d4, d5, d6] => { results := [.lit (.bool true)], args := [d1, d2, d3, d4, d5, d6] }
  | _ => none }
def fxRoundsRow : OpenClaim := { program := "ytoedbnnepcnjnaa", sum := "eb1783c546e09761dec89365c9ff9ef57dabb2172524bd0565c01f93e3965085", func := "leadline/leadlinelaw2.FxRounds", spec := "fxRounds", inPlace := ["math/bits.Add64", "math/bits.Sub64"], named := ["math/bits.divideError", "math/bits.overflowError"], apart := false }
def FxRoundsSaid : Prop := fxRoundsRow.holds Try.pinned (OpenSpec.ofChange fxRoundsSpec)

/-- ITS FALSE NEIGHBOUR: 'it returns false'. Refute it at one input. -/
def fxRoundsWrong : ChangeSpec := { name := "fxRounds", fn := fun _ => fun
  | [d1, d2, d3, d4, d5, d6] => { results := [.lit (.bool false)], args := [d1, d2, d3, d4, d5, d6] }
  | _ => none }
def FxRoundsWrongFalsely : Prop := fxRoundsRow.holds Try.pinned (OpenSpec.ofChange fxRoundsWrong)

/-- 'leadlinelaw2.FxRoots': WHATEVER THE INPUT: true; the input reads as it did. -/
def fxRootsSpec : ChangeSpec := { name := "fxRoots", fn := fun _ => fun
  | [d1, d2, d3, d4, d5] => { results := [.lit (.bool true)], args := [d1, d2, d3, d4, d5] }
  | _ => none }
def fxRootsRow : OpenClaim := { program := "ytoedbnnepcnjnaa", sum := "eb1783c546e09761dec89365c9ff9ef57dabb2172524bd0565c01f93e3965085", func := "leadline/leadlinelaw2.FxRoots", spec := "fxRoots", inPlace := ["math/bits.Add64", "math/bits.Sub64"], named := ["math/bits.divideError", "math/bits.overflowError"], apart := false }
def FxRootsSaid : Prop := fxRootsRow.holds Try.pinned (OpenSpec.ofChange fxRootsSpec)

/-- ITS FALSE NEIGHBOUR: 'it returns false'. Refute it at one input. -/
def fxRootsWrong : ChangeSpec := { name := "fxRoots", fn := fun _ => fun
  | [d1, d2, d3, d4, d5] => { results := [.lit (.bool false)], args := [d1, d2, d3, d4, d5] }
  | _ => none }
def FxRootsWrongFalsely : Prop := fxRootsRow.holds Try.pinned (OpenSpec.ofChange fxRootsWrong)

/-- 'leadlinelaw2.FxBack': WHATEVER THE INPUT: true; the input reads as it did. -/
def fxBackSpec : ChangeSpec := { name := "fxBack", fn := fun _ => fun
  | [d1, d2, d3, d4] => { results := [.lit (.bool true)], args := [d1, d2, d3, d4] }
  | _ => none }
def fxBackRow : OpenClaim := { program := "ytoedbnnepcnjnaa", sum := "eb1783c546e09761dec89365c9ff9ef57dabb2172524bd0565c01f93e3965085", func := "leadline/leadlinelaw2.FxBack", spec := "fxBack", named := ["math/bits.divideError", "math/bits.overflowError"], apart := false }
def FxBackSaid : Prop := fxBackRow.holds Try.pinned (OpenSpec.ofChange fxBackSpec)

/-- ITS FALSE NEIGHBOUR: 'it returns false'. Refute it at one input. -/
def fxBackWrong : ChangeSpec := { name := "fxBack", fn := fun _ => fun
  | [d1, d2, d3, d4] => { results := [.lit (.bool false)], args := [d1, d2, d3, d4] }
  | _ => none }
def FxBackWrongFalsely : Prop := fxBackRow.holds Try.pinned (OpenSpec.ofChange fxBackWrong)

/-- 'leadlinelaw2.FxSums': WHATEVER THE INPUT: true; the input reads as it did. -/
def fxSumsSpec : ChangeSpec := { name := "fxSums", fn := fun _ => fun
  | [d1, d2, d3, d4] => { results := [.lit (.bool true)], args := [d1, d2, d3, d4] }
  | _ => none }
def fxSumsRow : OpenClaim := { program := "ytoedbnnepcnjnaa", sum := "eb1783c546e09761dec89365c9ff9ef57dabb2172524bd0565c01f93e3965085", func := "leadline/leadlinelaw2.FxSums", spec := "fxSums", inPlace := ["math/bits.Add64", "math/bits.Sub64"], named := ["math/bits.divideError", "math/bits.overflowError"], apart := false }
def FxSumsSaid : Prop := fxSumsRow.holds Try.pinned (OpenSpec.ofChange fxSumsSpec)

/-- ITS FALSE NEIGHBOUR: 'it returns false'. Refute it at one input. -/
def fxSumsWrong : ChangeSpec := { name := "fxSums", fn := fun _ => fun
  | [d1, d2, d3, d4] => { results := [.lit (.bool false)], args := [d1, d2, d3, d4] }
  | _ => none }
def FxSumsWrongFalsely : Prop := fxSumsRow.holds Try.pinned (OpenSpec.ofChange fxSumsWrong)

/- THE SECOND FORM. 'bulk': how many values and letters a reading holds, each counted each time it is reached (what is shared counts as often as it is met; a slice's spare places count too). A statement '..UptoSaid' is the law's where the arguments, and the package variables that the reading takes, are together of bulk at most 1048576: NARROWER than '..Said'. Prove '..Said' where nothing that the law and all that it calls make is longer than what came in: it says more and counts as full. Else prove '..UptoSaid'. A law counts once. -/
mutual
def uptoBulk {H : Type} : DataW H → Nat
  | .lit (.string bytes) => bytes.length + 1
  | .lit _ => 1
  | .nil => 1
  | .ptr d => uptoBulk d + 1
  | .slice elems spare => uptoBulkAll elems + uptoBulkAll spare + 1
  | .agg parts => uptoBulkAll parts + 1
  | .iface _ d => uptoBulk d + 1
  | .map entries => uptoBulkEntries entries + 1
  | .held _ => 1
def uptoBulkAll {H : Type} : List (DataW H) → Nat
  | [] => 0
  | d :: r => uptoBulk d + uptoBulkAll r
def uptoBulkEntries {H : Type} : List (Lit × DataW H) → Nat
  | [] => 0
  | x :: r => uptoBulkEntry x + uptoBulkEntries r
def uptoBulkEntry {H : Type} : Lit × DataW H → Nat
  | (.string bytes, d) => bytes.length + uptoBulk d + 1
  | (_, d) => uptoBulk d + 1
 end
def uptoSmall : (H : Type) → List (DataW H) → Bool := fun _ ds => decide (uptoBulkAll ds ≤ 1048576)
def OpenSpec.upto (s : _root_.Go.ChangeSpec) : _root_.Go.OpenSpec := { _root_.Go.OpenSpec.ofChange s with cond := some uptoSmall }

/-- 'leadlinelaw3.AngleTells', WHERE WHAT IT READS IS OF BULK AT MOST 1048576: true; the input reads as it did. -/
def angleTellsUptoRow : OpenClaim := { program := "ytoedbnnepcnjnaa", sum := "eb1783c546e09761dec89365c9ff9ef57dabb2172524bd0565c01f93e3965085", func := "leadline/leadlinelaw3.AngleTells", spec := "angleTells", apart := false, narrowed := true }
def AngleTellsUptoSaid : Prop := angleTellsUptoRow.holds Try.pinned (OpenSpec.upto angleTellsSpec)

/-- 'leadlinelaw3.AngleTurns', WHERE WHAT IT READS IS OF BULK AT MOST 1048576: true; the input reads as it did. -/
def angleTurnsUptoRow : OpenClaim := { program := "ytoedbnnepcnjnaa", sum := "eb1783c546e09761dec89365c9ff9ef57dabb2172524bd0565c01f93e3965085", func := "leadline/leadlinelaw3.AngleTurns", spec := "angleTurns", apart := false, narrowed := true }
def AngleTurnsUptoSaid : Prop := angleTurnsUptoRow.holds Try.pinned (OpenSpec.upto angleTurnsSpec)

/-- 'leadlinelaw3.AngleSides', WHERE WHAT IT READS IS OF BULK AT MOST 1048576: true; the input reads as it did. -/
def angleSidesUptoRow : OpenClaim := { program := "ytoedbnnepcnjnaa", sum := "eb1783c546e09761dec89365c9ff9ef57dabb2172524bd0565c01f93e3965085", func := "leadline/leadlinelaw3.AngleSides", spec := "angleSides", apart := false, narrowed := true }
def AngleSidesUptoSaid : Prop := angleSidesUptoRow.holds Try.pinned (OpenSpec.upto angleSidesSpec)

/-- 'leadlinelaw3.AngleScales', WHERE WHAT IT READS IS OF BULK AT MOST 1048576: true; the input reads as it did. -/
def angleScalesUptoRow : OpenClaim := { program := "ytoedbnnepcnjnaa", sum := "eb1783c546e09761dec89365c9ff9ef57dabb2172524bd0565c01f93e3965085", func := "leadline/leadlinelaw3.AngleScales", spec := "angleScales", apart := false, narrowed := true }
def AngleScalesUptoSaid : Prop := angleScalesUptoRow.holds Try.pinned (OpenSpec.upto angleScalesSpec)

/-- 'leadlinelaw3.AngleFinds', WHERE WHAT IT READS IS OF BULK AT MOST 1048576: true; the input reads as it did. -/
def angleFindsUptoRow : OpenClaim := { program := "ytoedbnnepcnjnaa", sum := "eb1783c546e09761dec89365c9ff9ef57dabb2172524bd0565c01f93e3965085", func := "leadline/leadlinelaw3.AngleFinds", spec := "angleFinds", inPlace := ["math/bits.Add64", "math/bits.Sub64"], apart := false, narrowed := true }
def AngleFindsUptoSaid : Prop := angleFindsUptoRow.holds Try.pinned (OpenSpec.upto angleFindsSpec)

/-- 'leadlinelaw2.FxHalves', WHERE WHAT IT READS IS OF BULK AT MOST 1048576: true; the input reads as it did. -/
def fxHalvesUptoRow : OpenClaim := { program := "ytoedbnnepcnjnaa", sum := "eb1783c546e09761dec89365c9ff9ef57dabb2172524bd0565c01f93e3965085", func := "leadline/leadlinelaw2.FxHalves", spec := "fxHalves", named := ["math/bits.divideError", "math/bits.overflowError"], apart := false, narrowed := true }
def FxHalvesUptoSaid : Prop := fxHalvesUptoRow.holds Try.pinned (OpenSpec.upto fxHalvesSpec)

/-- 'leadlinelaw2.FxSides', WHERE WHAT IT READS IS OF BULK AT MOST 1048576: true; the input reads as it did. -/
def fxSidesUptoRow : OpenClaim := { program := "ytoedbnnepcnjnaa", sum := "eb1783c546e09761dec89365c9ff9ef57dabb2172524bd0565c01f93e3965085", func := "leadline/leadlinelaw2.FxSides", spec := "fxSides", named := ["math/bits.divideError", "math/bits.overflowError"], apart := false, narrowed := true }
def FxSidesUptoSaid : Prop := fxSidesUptoRow.holds Try.pinned (OpenSpec.upto fxSidesSpec)

/-- 'leadlinelaw2.FxSquares', WHERE WHAT IT READS IS OF BULK AT MOST 1048576: true; the input reads as it did. -/
def fxSquaresUptoRow : OpenClaim := { program := "ytoedbnnepcnjnaa", sum := "eb1783c546e09761dec89365c9ff9ef57dabb2172524bd0565c01f93e3965085", func := "leadline/leadlinelaw2.FxSquares", spec := "fxSquares", inPlace := ["math/bits.Add64"], named := ["math/bits.divideError", "math/bits.overflowError"], apart := false, narrowed := true }
def FxSquaresUptoSaid : Prop := fxSquaresUptoRow.holds Try.pinned (OpenSpec.upto fxSquaresSpec)

/-- 'leadlinelaw2.FxRounds', WHERE WHAT IT READS IS OF BULK AT MOST 1048576: true; the input reads as it did. -/
def fxRoundsUptoRow : OpenClaim := { program := "ytoedbnnepcnjnaa", sum := "eb1783c546e09761dec89365c9ff9ef57dabb2172524bd0565c01f93e3965085", func := "leadline/leadlinelaw2.FxRounds", spec := "fxRounds", inPlace := ["math/bits.Add64", "math/bits.Sub64"], named := ["math/bits.divideError", "math/bits.overflowError"], apart := false, narrowed := true }
def FxRoundsUptoSaid : Prop := fxRoundsUptoRow.holds Try.pinned (OpenSpec.upto fxRoundsSpec)

/-- 'leadlinelaw2.FxRoots', WHERE WHAT IT READS IS OF BULK AT MOST 1048576: true; the input reads as it did. -/
def fxRootsUptoRow : OpenClaim := { program := "ytoedbnnepcnjnaa", sum := "eb1783c546e09761dec89365c9ff9ef57dabb2172524bd0565c01f93e3965085", func := "leadline/leadlinelaw2.FxRoots", spec := "fxRoots", inPlace := ["math/bits.Add64", "math/bits.Sub64"], named := ["math/bits.divideError", "math/bits.overflowError"], apart := false, narrowed := true }
def FxRootsUptoSaid : Prop := fxRootsUptoRow.holds Try.pinned (OpenSpec.upto fxRootsSpec)

/-- 'leadlinelaw2.FxBack', WHERE WHAT IT READS IS OF BULK AT MOST 1048576: true; the input reads as it did. -/
def fxBackUptoRow : OpenClaim := { program := "ytoedbnnepcnjnaa", sum := "eb1783c546e09761dec89365c9ff9ef57dabb2172524bd0565c01f93e3965085", func := "leadline/leadlinelaw2.FxBack", spec := "fxBack", named := ["math/bits.divideError", "math/bits.overflowError"], apart := false, narrowed := true }
def FxBackUptoSaid : Prop := fxBackUptoRow.holds Try.pinned (OpenSpec.upto fxBackSpec)

/-- 'leadlinelaw2.FxSums', WHERE WHAT IT READS IS OF BULK AT MOST 1048576: true; the input reads as it did. -/
def fxSumsUptoRow : OpenClaim := { program := "ytoedbnnepcnjnaa", sum := "eb1783c546e09761dec89365c9ff9ef57dabb2172524bd0565c01f93e3965085", func := "leadline/leadlinelaw2.FxSums", spec := "fxSums", inPlace := ["math/bits.Add64", "math/bits.Sub64"], named := ["math/bits.divideError", "math/bits.overflowError"], apart := false, narrowed := true }
def FxSumsUptoSaid : Prop := fxSumsUptoRow.holds Try.pinned (OpenSpec.upto fxSumsSpec)

end Rows
end Go.Proofs.Ytoedbnnepcnjnaa
