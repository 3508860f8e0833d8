/-
  NARROWER THAN 'FOR EVERY INPUT', by the rows' own cells (each row's printed sentence says how): SymTells: laid · SymRows: laid · SymKeeps: laid · SymAdds: laid.
  DERIVED. THE GIVEN ROWS OF THIS SEAT. 4 by the template 'for every input the law returns true; each argument reads behind the call as it read before'; 0 by the template 'total and deterministic' (their statements: YtfcandmhalhaeaaDoorTotals.lean).
  GIVEN WITH THE SEED: the statements are not yours to turn. If you find one false, say at which input.
  Laid BY PROGRAM, IN A SANDBOX (cutbox-rows.mjs): the forced cells as the released guide's own fill.sh prints them over the translation f07ee209ca9abde2… (all of the seat's roots in one cut). By AI agents, Wed Nov 11 2026. No macro, syntax, notation, axiom, sorry.
-/
import Derived.Test.YtfcandmhalhaeaaDoorChecked
import GoSem.Claim
import GoSem.ClaimJoined
import GoSem.ClaimMapViews
import Derived.JoinedTies
import Derived.KernelRfl
namespace Go.Proofs.YtfcandmhalhaeaaDoor
/- THE CELL 'sum', in the pinned program and in every row, IS THE sha256 OF THE DUMP (.gsa) THAT YtfcandmhalhaeaaDoorProg.lean LOADS. Nothing in Lean hashes anything: it is a label: what it is worth is what the hold of that sum in a sandbox is worth. -/
noncomputable def Tryd.pinned : Pinned := { name := "ytfcandmhalhaeaadoor", sum := "f07ee209ca9abde25248205811ac3480d5efa87b68e48560b418431b1770f014", checked := Tryd.checked }
namespace Rows
def none {H : Type} : Left H := { results := [], args := [] }

/- WHAT THE LISTED PACKAGE-LEVEL VARIABLES READ AS WHEN THE CALL BEGINS. Each datum BY PROGRAM (the guide's laid-datum.mjs) off the statement by which the dump's own 'gosem.cut.vars' lays the variable. In a bare row this is a premise. The card (YtfcandmhalhaeaaDoorCards.lean) ties it to the program's text. -/
def laid_errors_errorType {H : Type} : DataW H := .iface "internal/reflectlite.rtype" (.agg [.ptr (.lit (.string [101, 114, 114, 111, 114]))])

/-- 'leadlinelaw5.SymTells': WHATEVER THE INPUT: true; the input reads as it did. -/
def symTellsSpec : ChangeSpec := { name := "symTells", fn := fun _ => fun
  | [d1, d2, d3, d4, d5, d6, d7] => { results := [.lit (.bool true)], args := [d1, d2, d3, d4, d5, d6, d7] }
  | _ => none }
def symTellsRow : OpenClaim := { program := "ytfcandmhalhaeaadoor", sum := "f07ee209ca9abde25248205811ac3480d5efa87b68e48560b418431b1770f014", func := "leadline/leadlinelaw5.SymTells", spec := "symTells", inPlace := ["math/bits.Add64", "internal/reflectlite.ValueOf", "(internal/reflectlite.Value).Type", "(internal/reflectlite.Value).IsNil", "internal/reflectlite.TypeOf", "(internal/reflectlite.Value).Elem", "(internal/reflectlite.Value).Set", "math/bits.Sub64"], unfollowed := true, recurses := true, named := ["errors.errorType"], apart := false, laid := [("errors.errorType", laid_errors_errorType)] }
def SymTellsSaid : Prop := symTellsRow.holds Tryd.pinned (OpenSpec.ofChange symTellsSpec)

/-- ITS FALSE NEIGHBOUR: 'it returns false'. Refute it at one input. -/
def symTellsWrong : ChangeSpec := { name := "symTells", fn := fun _ => fun
  | [d1, d2, d3, d4, d5, d6, d7] => { results := [.lit (.bool false)], args := [d1, d2, d3, d4, d5, d6, d7] }
  | _ => none }
def SymTellsWrongFalsely : Prop := symTellsRow.holds Tryd.pinned (OpenSpec.ofChange symTellsWrong)

/-- 'leadlinelaw5.SymRows': WHATEVER THE INPUT: true; the input reads as it did. -/
def symRowsSpec : ChangeSpec := { name := "symRows", fn := fun _ => fun
  | [d1, d2, d3, d4] => { results := [.lit (.bool true)], args := [d1, d2, d3, d4] }
  | _ => none }
def symRowsRow : OpenClaim := { program := "ytfcandmhalhaeaadoor", sum := "f07ee209ca9abde25248205811ac3480d5efa87b68e48560b418431b1770f014", func := "leadline/leadlinelaw5.SymRows", spec := "symRows", inPlace := ["math/bits.Add64", "internal/reflectlite.ValueOf", "(internal/reflectlite.Value).Type", "(internal/reflectlite.Value).IsNil", "internal/reflectlite.TypeOf", "(internal/reflectlite.Value).Elem", "(internal/reflectlite.Value).Set", "math/bits.Sub64"], unfollowed := true, recurses := true, named := ["errors.errorType"], apart := false, laid := [("errors.errorType", laid_errors_errorType)] }
def SymRowsSaid : Prop := symRowsRow.holds Tryd.pinned (OpenSpec.ofChange symRowsSpec)

/-- ITS FALSE NEIGHBOUR: 'it returns false'. Refute it at one input. -/
def symRowsWrong : ChangeSpec := { name := "symRows", fn := fun _ => fun
  | [d1, d2, d3, d4] => { results := [.lit (.bool false)], args := [d1, d2, d3, d4] }
  | _ => none }
def SymRowsWrongFalsely : Prop := symRowsRow.holds Tryd.pinned (OpenSpec.ofChange symRowsWrong)

/-- 'leadlinelaw5.SymKeeps': WHATEVER THE INPUT: true; the input reads as it did. -/
def symKeepsSpec : ChangeSpec := { name := "symKeeps", fn := fun _ => fun
  | [d1, d2, d3, d4, d5, d6, d7] => { results := [.lit (.bool true)], args := [d1, d2, d3, d4, d5, d6, d7] }
  | _ => none }
def symKeepsRow : OpenClaim := { program := "ytfcandmhalhaeaadoor", sum := "f07ee209ca9abde25248205811ac3480d5efa87b68e48560b418431b1770f014", func := "leadline/leadlinelaw5.SymKeeps", spec := "symKeeps", inPlace := ["math/bits.Add64", "internal/reflectlite.ValueOf", "(internal/reflectlite.Value).Type", "(internal/reflectlite.Value).IsNil", "internal/reflectlite.TypeOf", "(internal/reflectlite.Value).Elem", "(internal/reflectlite.Value).Set", "math/bits.Sub64"], unfollowed := true, recurses := true, named := ["errors.errorType"], apart := false, laid := [("errors.errorType", laid_errors_errorType)] }
def SymKeepsSaid : Prop := symKeepsRow.holds Tryd.pinned (OpenSpec.ofChange symKeepsSpec)

/-- ITS FALSE NEIGHBOUR: 'it returns false'. Refute it at one input. -/
def symKeepsWrong : ChangeSpec := { name := "symKeeps", fn := fun _ => fun
  | [d1, d2, d3, d4, d5, d6, d7] => { results := [.lit (.bool false)], args := [d1, d2, d3, d4, d5, d6, d7] }
  | _ => none }
def SymKeepsWrongFalsely : Prop := symKeepsRow.holds Tryd.pinned (OpenSpec.ofChange symKeepsWrong)

/-- 'leadlinelaw5.SymAdds': WHATEVER THE INPUT: true; the input reads as it did. -/
def symAddsSpec : ChangeSpec := { name := "symAdds", fn := fun _ => fun
  | [d1, d2, d3, d4, d5, d6, d7, d8] => { results := [.lit (.bool true)], args := [d1, d2, d3, d4, d5, d6, d7, d8] }
  | _ => none }
def symAddsRow : OpenClaim := { program := "ytfcandmhalhaeaadoor", sum := "f07ee209ca9abde25248205811ac3480d5efa87b68e48560b418431b1770f014", func := "leadline/leadlinelaw5.SymAdds", spec := "symAdds", inPlace := ["math/bits.Add64", "internal/reflectlite.ValueOf", "(internal/reflectlite.Value).Type", "(internal/reflectlite.Value).IsNil", "internal/reflectlite.TypeOf", "(internal/reflectlite.Value).Elem", "(internal/reflectlite.Value).Set", "math/bits.Sub64"], unfollowed := true, recurses := true, named := ["errors.errorType"], apart := false, laid := [("errors.errorType", laid_errors_errorType)] }
def SymAddsSaid : Prop := symAddsRow.holds Tryd.pinned (OpenSpec.ofChange symAddsSpec)

/-- ITS FALSE NEIGHBOUR: 'it returns false'. Refute it at one input. -/
def symAddsWrong : ChangeSpec := { name := "symAdds", fn := fun _ => fun
  | [d1, d2, d3, d4, d5, d6, d7, d8] => { results := [.lit (.bool false)], args := [d1, d2, d3, d4, d5, d6, d7, d8] }
  | _ => none }
def SymAddsWrongFalsely : Prop := symAddsRow.holds Tryd.pinned (OpenSpec.ofChange symAddsWrong)

/- THE SECOND FORM. 'bulk': how many values and letters a reading holds, each counted each time it is reached (what is shared counts as often as it is met; a slice's spare places count too). A statement '..UptoSaid' is the law's where the arguments, and the package variables that the reading takes, are together of bulk at most 1048576: NARROWER than '..Said'. Prove '..Said' where nothing that the law and all that it calls make is longer than what came in: it says more and counts as full. Else prove '..UptoSaid'. A law counts once. -/
mutual
def uptoBulk {H : Type} : DataW H → Nat
  | .lit (.string bytes) => bytes.length + 1
  | .lit _ => 1
  | .nil => 1
  | .ptr d => uptoBulk d + 1
  | .slice elems spare => uptoBulkAll elems + uptoBulkAll spare + 1
  | .agg parts => uptoBulkAll parts + 1
  | .iface _ d => uptoBulk d + 1
  | .map entries => uptoBulkEntries entries + 1
  | .held _ => 1
def uptoBulkAll {H : Type} : List (DataW H) → Nat
  | [] => 0
  | d :: r => uptoBulk d + uptoBulkAll r
def uptoBulkEntries {H : Type} : List (Lit × DataW H) → Nat
  | [] => 0
  | x :: r => uptoBulkEntry x + uptoBulkEntries r
def uptoBulkEntry {H : Type} : Lit × DataW H → Nat
  | (.string bytes, d) => bytes.length + uptoBulk d + 1
  | (_, d) => uptoBulk d + 1
 end
def uptoSmall : (H : Type) → List (DataW H) → Bool := fun _ ds => decide (uptoBulkAll ds ≤ 1048576)
def OpenSpec.upto (s : _root_.Go.ChangeSpec) : _root_.Go.OpenSpec := { _root_.Go.OpenSpec.ofChange s with cond := some uptoSmall }

/-- 'leadlinelaw5.SymTells', WHERE WHAT IT READS IS OF BULK AT MOST 1048576: true; the input reads as it did. -/
def symTellsUptoRow : OpenClaim := { program := "ytfcandmhalhaeaadoor", sum := "f07ee209ca9abde25248205811ac3480d5efa87b68e48560b418431b1770f014", func := "leadline/leadlinelaw5.SymTells", spec := "symTells", inPlace := ["math/bits.Add64", "internal/reflectlite.ValueOf", "(internal/reflectlite.Value).Type", "(internal/reflectlite.Value).IsNil", "internal/reflectlite.TypeOf", "(internal/reflectlite.Value).Elem", "(internal/reflectlite.Value).Set", "math/bits.Sub64"], unfollowed := true, recurses := true, named := ["errors.errorType"], apart := false, laid := [("errors.errorType", laid_errors_errorType)], narrowed := true }
def SymTellsUptoSaid : Prop := symTellsUptoRow.holds Tryd.pinned (OpenSpec.upto symTellsSpec)

/-- 'leadlinelaw5.SymRows', WHERE WHAT IT READS IS OF BULK AT MOST 1048576: true; the input reads as it did. -/
def symRowsUptoRow : OpenClaim := { program := "ytfcandmhalhaeaadoor", sum := "f07ee209ca9abde25248205811ac3480d5efa87b68e48560b418431b1770f014", func := "leadline/leadlinelaw5.SymRows", spec := "symRows", inPlace := ["math/bits.Add64", "internal/reflectlite.ValueOf", "(internal/reflectlite.Value).Type", "(internal/reflectlite.Value).IsNil", "internal/reflectlite.TypeOf", "(internal/reflectlite.Value).Elem", "(internal/reflectlite.Value).Set", "math/bits.Sub64"], unfollowed := true, recurses := true, named := ["errors.errorType"], apart := false, laid := [("errors.errorType", laid_errors_errorType)], narrowed := true }
def SymRowsUptoSaid : Prop := symRowsUptoRow.holds Tryd.pinned (OpenSpec.upto symRowsSpec)

/-- 'leadlinelaw5.SymKeeps', WHERE WHAT IT READS IS OF BULK AT MOST 1048576: true; the input reads as it did. -/
def symKeepsUptoRow : OpenClaim := { program := "ytfcandmhalhaeaadoor", sum := "f07ee209ca9abde25248205811ac3480d5efa87b68e48560b418431b1770f014", func := "leadline/leadlinelaw5.SymKeeps", spec := "symKeeps", inPlace := ["math/bits.Add64", "internal/reflectlite.ValueOf", "(internal/reflectlite.Value).Type", "(internal/reflectlite.Value).IsNil", "internal/reflectlite.TypeOf", "(internal/reflectlite.Value).Elem", "(internal/reflectlite.Value).Set", "math/bits.Sub64"], unfollowed := true, recurses := true, named := ["errors.errorType"], apart := false, laid := [("errors.errorType", laid_errors_errorType)], narrowed := true }
def SymKeepsUptoSaid : Prop := symKeepsUptoRow.holds Tryd.pinned (OpenSpec.upto symKeepsSpec)

/-- 'leadlinelaw5.SymAdds', WHERE WHAT IT READS IS OF BULK AT MOST 1048576: true; the input reads as it did. -/
def symAddsUptoRow : OpenClaim := { program := "ytfcandmhalhaeaadoor", sum := "f07ee209ca9abde25248205811ac3480d5efa87b68e48560b418431b1770f014", func := "leadline/leadlinelaw5.SymAdds", spec := "symAdds", inPlace := ["math/bits.Add64", "internal/reflectlite.ValueOf", "(internal/reflectlite.Value).Type", "(internal/reflectlite.Value).IsNil", "internal/reflectlite.TypeOf", "(internal/reflectlite.Value).Elem", "(internal/reflectlite.Value).Set", "math/bits.Sub64"], unfollowed := true, recurses := true, named := ["errors.errorType"], apart := false, laid := [("errors.errorType", laid_errors_errorType)], narrowed := true }
def SymAddsUptoSaid : Prop := symAddsUptoRow.holds Tryd.pinned (OpenSpec.upto symAddsSpec)

end Rows
end Go.Proofs.YtfcandmhalhaeaaDoor
