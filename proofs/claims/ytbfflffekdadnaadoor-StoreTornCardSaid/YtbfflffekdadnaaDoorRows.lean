/-
  NARROWER THAN 'FOR EVERY INPUT', by the rows' own cells (each row's printed sentence says how): ClockRound: laid · ClockTakes: laid · ConfigTells: laid · ConfigDefault: laid · StoreSizes: laid · StoreTorn: laid.
  DERIVED. THE GIVEN ROWS OF THIS SEAT. 6 by the template 'for every input the law returns true; each argument reads behind the call as it read before'; 0 by the template 'total and deterministic' (their statements: YtbfflffekdadnaaDoorTotals.lean).
  GIVEN WITH THE SEED: the statements are not yours to turn. If you find one false, say at which input.
  Laid BY PROGRAM, IN A SANDBOX (cutbox-rows.mjs): the forced cells as the released guide's own fill.sh prints them over the translation e279992107d610a0… (all of the seat's roots in one cut). By AI agents, Wed Nov 11 2026. No macro, syntax, notation, axiom, sorry.
-/
import Derived.Test.YtbfflffekdadnaaDoorChecked
import GoSem.Claim
import GoSem.ClaimJoined
import GoSem.ClaimMapViews
import Derived.JoinedTies
import Derived.KernelRfl
namespace Go.Proofs.YtbfflffekdadnaaDoor
/- THE CELL 'sum', in the pinned program and in every row, IS THE sha256 OF THE DUMP (.gsa) THAT YtbfflffekdadnaaDoorProg.lean LOADS. Nothing in Lean hashes anything: it is a label: what it is worth is what the hold of that sum in a sandbox is worth. -/
noncomputable def Tryd.pinned : Pinned := { name := "ytbfflffekdadnaadoor", sum := "e279992107d610a0026c6f5e5dfbcda01d34c8d3bdceee402ea712c7e0becbfa", checked := Tryd.checked }
namespace Rows
def none {H : Type} : Left H := { results := [], args := [] }

/- WHAT THE LISTED PACKAGE-LEVEL VARIABLES READ AS WHEN THE CALL BEGINS. Each datum BY PROGRAM (the guide's laid-datum.mjs) off the statement by which the dump's own 'gosem.cut.vars' lays the variable. In a bare row this is a premise. The card (YtbfflffekdadnaaDoorCards.lean) ties it to the program's text. -/
def laid_errors_errorType {H : Type} : DataW H := .iface "internal/reflectlite.rtype" (.agg [.ptr (.lit (.string [101, 114, 114, 111, 114]))])

/-- 'leadlinelaw14.ClockRound': WHATEVER THE INPUT: true; the input reads as it did. -/
def clockRoundSpec : ChangeSpec := { name := "clockRound", fn := fun _ => fun
  | [d1, d2] => { results := [.lit (.bool true)], args := [d1, d2] }
  | _ => none }
def clockRoundRow : OpenClaim := { program := "ytbfflffekdadnaadoor", sum := "e279992107d610a0026c6f5e5dfbcda01d34c8d3bdceee402ea712c7e0becbfa", func := "leadline/leadlinelaw14.ClockRound", spec := "clockRound", inPlace := ["internal/reflectlite.ValueOf", "(internal/reflectlite.Value).Type", "(internal/reflectlite.Value).IsNil", "internal/reflectlite.TypeOf", "(internal/reflectlite.Value).Elem", "(internal/reflectlite.Value).Set"], unfollowed := true, recurses := true, named := ["errors.errorType"], apart := false, laid := [("errors.errorType", laid_errors_errorType)] }
def ClockRoundSaid : Prop := clockRoundRow.holds Tryd.pinned (OpenSpec.ofChange clockRoundSpec)

/-- ITS FALSE NEIGHBOUR: 'it returns false'. Refute it at one input. -/
def clockRoundWrong : ChangeSpec := { name := "clockRound", fn := fun _ => fun
  | [d1, d2] => { results := [.lit (.bool false)], args := [d1, d2] }
  | _ => none }
def ClockRoundWrongFalsely : Prop := clockRoundRow.holds Tryd.pinned (OpenSpec.ofChange clockRoundWrong)

/-- 'leadlinelaw14.ClockTakes': WHATEVER THE INPUT: true; the input reads as it did. -/
def clockTakesSpec : ChangeSpec := { name := "clockTakes", fn := fun _ => fun
  | [d1, d2] => { results := [.lit (.bool true)], args := [d1, d2] }
  | _ => none }
def clockTakesRow : OpenClaim := { program := "ytbfflffekdadnaadoor", sum := "e279992107d610a0026c6f5e5dfbcda01d34c8d3bdceee402ea712c7e0becbfa", func := "leadline/leadlinelaw14.ClockTakes", spec := "clockTakes", inPlace := ["internal/reflectlite.ValueOf", "(internal/reflectlite.Value).Type", "(internal/reflectlite.Value).IsNil", "internal/reflectlite.TypeOf", "(internal/reflectlite.Value).Elem", "(internal/reflectlite.Value).Set"], unfollowed := true, recurses := true, named := ["errors.errorType"], apart := false, laid := [("errors.errorType", laid_errors_errorType)] }
def ClockTakesSaid : Prop := clockTakesRow.holds Tryd.pinned (OpenSpec.ofChange clockTakesSpec)

/-- ITS FALSE NEIGHBOUR: 'it returns false'. Refute it at one input. -/
def clockTakesWrong : ChangeSpec := { name := "clockTakes", fn := fun _ => fun
  | [d1, d2] => { results := [.lit (.bool false)], args := [d1, d2] }
  | _ => none }
def ClockTakesWrongFalsely : Prop := clockTakesRow.holds Tryd.pinned (OpenSpec.ofChange clockTakesWrong)

/-- 'leadlinelaw27.ConfigTells': WHATEVER THE INPUT: true; the input reads as it did. -/
def configTellsSpec : ChangeSpec := { name := "configTells", fn := fun _ => fun
  | [d1, d2, d3, d4, d5, d6] => { results := [.lit (.bool true)], args := [d1, d2, d3, d4, d5, d6] }
  | _ => none }
def configTellsRow : OpenClaim := { program := "ytbfflffekdadnaadoor", sum := "e279992107d610a0026c6f5e5dfbcda01d34c8d3bdceee402ea712c7e0becbfa", func := "leadline/leadlinelaw27.ConfigTells", spec := "configTells", inPlace := ["internal/reflectlite.ValueOf", "(internal/reflectlite.Value).Type", "(internal/reflectlite.Value).IsNil", "internal/reflectlite.TypeOf", "(internal/reflectlite.Value).Elem", "(internal/reflectlite.Value).Set"], unfollowed := true, recurses := true, named := ["errors.errorType"], apart := false, laid := [("errors.errorType", laid_errors_errorType)] }
def ConfigTellsSaid : Prop := configTellsRow.holds Tryd.pinned (OpenSpec.ofChange configTellsSpec)

/-- ITS FALSE NEIGHBOUR: 'it returns false'. Refute it at one input. -/
def configTellsWrong : ChangeSpec := { name := "configTells", fn := fun _ => fun
  | [d1, d2, d3, d4, d5, d6] => { results := [.lit (.bool false)], args := [d1, d2, d3, d4, d5, d6] }
  | _ => none }
def ConfigTellsWrongFalsely : Prop := configTellsRow.holds Tryd.pinned (OpenSpec.ofChange configTellsWrong)

/-- 'leadlinelaw27.ConfigDefault': WHATEVER THE INPUT: true; the input reads as it did. -/
def configDefaultSpec : ChangeSpec := { name := "configDefault", fn := fun _ => fun
  | [d] => { results := [.lit (.bool true)], args := [d] }
  | _ => none }
def configDefaultRow : OpenClaim := { program := "ytbfflffekdadnaadoor", sum := "e279992107d610a0026c6f5e5dfbcda01d34c8d3bdceee402ea712c7e0becbfa", func := "leadline/leadlinelaw27.ConfigDefault", spec := "configDefault", inPlace := ["internal/reflectlite.ValueOf", "(internal/reflectlite.Value).Type", "(internal/reflectlite.Value).IsNil", "internal/reflectlite.TypeOf", "(internal/reflectlite.Value).Elem", "(internal/reflectlite.Value).Set"], unfollowed := true, recurses := true, named := ["errors.errorType"], apart := false, laid := [("errors.errorType", laid_errors_errorType)] }
def ConfigDefaultSaid : Prop := configDefaultRow.holds Tryd.pinned (OpenSpec.ofChange configDefaultSpec)

/-- ITS FALSE NEIGHBOUR: 'it returns false'. Refute it at one input. -/
def configDefaultWrong : ChangeSpec := { name := "configDefault", fn := fun _ => fun
  | [d] => { results := [.lit (.bool false)], args := [d] }
  | _ => none }
def ConfigDefaultWrongFalsely : Prop := configDefaultRow.holds Tryd.pinned (OpenSpec.ofChange configDefaultWrong)

/-- 'leadlinelaw25.StoreSizes': WHATEVER THE INPUT: true; the input reads as it did. -/
def storeSizesSpec : ChangeSpec := { name := "storeSizes", fn := fun _ => fun
  | [d1, d2] => { results := [.lit (.bool true)], args := [d1, d2] }
  | _ => none }
def storeSizesRow : OpenClaim := { program := "ytbfflffekdadnaadoor", sum := "e279992107d610a0026c6f5e5dfbcda01d34c8d3bdceee402ea712c7e0becbfa", func := "leadline/leadlinelaw25.StoreSizes", spec := "storeSizes", inPlace := ["internal/reflectlite.ValueOf", "(internal/reflectlite.Value).Type", "(internal/reflectlite.Value).IsNil", "internal/reflectlite.TypeOf", "(internal/reflectlite.Value).Elem", "(internal/reflectlite.Value).Set"], unfollowed := true, recurses := true, named := ["errors.errorType"], apart := false, laid := [("errors.errorType", laid_errors_errorType)] }
def StoreSizesSaid : Prop := storeSizesRow.holds Tryd.pinned (OpenSpec.ofChange storeSizesSpec)

/-- ITS FALSE NEIGHBOUR: 'it returns false'. Refute it at one input. -/
def storeSizesWrong : ChangeSpec := { name := "storeSizes", fn := fun _ => fun
  | [d1, d2] => { results := [.lit (.bool false)], args := [d1, d2] }
  | _ => none }
def StoreSizesWrongFalsely : Prop := storeSizesRow.holds Tryd.pinned (OpenSpec.ofChange storeSizesWrong)

/-- 'leadlinelaw25.StoreTorn': WHATEVER THE INPUT: true; the input reads as it did. -/
def storeTornSpec : ChangeSpec := { name := "storeTorn", fn := fun _ => fun
  | [d1, d2, d3] => { results := [.lit (.bool true)], args := [d1, d2, d3] }
  | _ => none }
def storeTornRow : OpenClaim := { program := "ytbfflffekdadnaadoor", sum := "e279992107d610a0026c6f5e5dfbcda01d34c8d3bdceee402ea712c7e0becbfa", func := "leadline/leadlinelaw25.StoreTorn", spec := "storeTorn", inPlace := ["internal/reflectlite.ValueOf", "(internal/reflectlite.Value).Type", "(internal/reflectlite.Value).IsNil", "internal/reflectlite.TypeOf", "(internal/reflectlite.Value).Elem", "(internal/reflectlite.Value).Set"], unfollowed := true, recurses := true, named := ["errors.errorType"], apart := false, laid := [("errors.errorType", laid_errors_errorType)] }
def StoreTornSaid : Prop := storeTornRow.holds Tryd.pinned (OpenSpec.ofChange storeTornSpec)

/-- ITS FALSE NEIGHBOUR: 'it returns false'. Refute it at one input. -/
def storeTornWrong : ChangeSpec := { name := "storeTorn", fn := fun _ => fun
  | [d1, d2, d3] => { results := [.lit (.bool false)], args := [d1, d2, d3] }
  | _ => none }
def StoreTornWrongFalsely : Prop := storeTornRow.holds Tryd.pinned (OpenSpec.ofChange storeTornWrong)

/- THE SECOND FORM. 'bulk': how many values and letters a reading holds, each counted each time it is reached (what is shared counts as often as it is met; a slice's spare places count too). A statement '..UptoSaid' is the law's where the arguments, and the package variables that the reading takes, are together of bulk at most 1048576: NARROWER than '..Said'. Prove '..Said' where nothing that the law and all that it calls make is longer than what came in: it says more and counts as full. Else prove '..UptoSaid'. A law counts once. -/
mutual
def uptoBulk {H : Type} : DataW H → Nat
  | .lit (.string bytes) => bytes.length + 1
  | .lit _ => 1
  | .nil => 1
  | .ptr d => uptoBulk d + 1
  | .slice elems spare => uptoBulkAll elems + uptoBulkAll spare + 1
  | .agg parts => uptoBulkAll parts + 1
  | .iface _ d => uptoBulk d + 1
  | .map entries => uptoBulkEntries entries + 1
  | .held _ => 1
def uptoBulkAll {H : Type} : List (DataW H) → Nat
  | [] => 0
  | d :: r => uptoBulk d + uptoBulkAll r
def uptoBulkEntries {H : Type} : List (Lit × DataW H) → Nat
  | [] => 0
  | x :: r => uptoBulkEntry x + uptoBulkEntries r
def uptoBulkEntry {H : Type} : Lit × DataW H → Nat
  | (.string bytes, d) => bytes.length + uptoBulk d + 1
  | (_, d) => uptoBulk d + 1
 end
def uptoSmall : (H : Type) → List (DataW H) → Bool := fun _ ds => decide (uptoBulkAll ds ≤ 1048576)
def OpenSpec.upto (s : _root_.Go.ChangeSpec) : _root_.Go.OpenSpec := { _root_.Go.OpenSpec.ofChange s with cond := some uptoSmall }

/-- 'leadlinelaw14.ClockRound', WHERE WHAT IT READS IS OF BULK AT MOST 1048576: true; the input reads as it did. -/
def clockRoundUptoRow : OpenClaim := { program := "ytbfflffekdadnaadoor", sum := "e279992107d610a0026c6f5e5dfbcda01d34c8d3bdceee402ea712c7e0becbfa", func := "leadline/leadlinelaw14.ClockRound", spec := "clockRound", inPlace := ["internal/reflectlite.ValueOf", "(internal/reflectlite.Value).Type", "(internal/reflectlite.Value).IsNil", "internal/reflectlite.TypeOf", "(internal/reflectlite.Value).Elem", "(internal/reflectlite.Value).Set"], unfollowed := true, recurses := true, named := ["errors.errorType"], apart := false, laid := [("errors.errorType", laid_errors_errorType)], narrowed := true }
def ClockRoundUptoSaid : Prop := clockRoundUptoRow.holds Tryd.pinned (OpenSpec.upto clockRoundSpec)

/-- 'leadlinelaw14.ClockTakes', WHERE WHAT IT READS IS OF BULK AT MOST 1048576: true; the input reads as it did. -/
def clockTakesUptoRow : OpenClaim := { program := "ytbfflffekdadnaadoor", sum := "e279992107d610a0026c6f5e5dfbcda01d34c8d3bdceee402ea712c7e0becbfa", func := "leadline/leadlinelaw14.ClockTakes", spec := "clockTakes", inPlace := ["internal/reflectlite.ValueOf", "(internal/reflectlite.Value).Type", "(internal/reflectlite.Value).IsNil", "internal/reflectlite.TypeOf", "(internal/reflectlite.Value).Elem", "(internal/reflectlite.Value).Set"], unfollowed := true, recurses := true, named := ["errors.errorType"], apart := false, laid := [("errors.errorType", laid_errors_errorType)], narrowed := true }
def ClockTakesUptoSaid : Prop := clockTakesUptoRow.holds Tryd.pinned (OpenSpec.upto clockTakesSpec)

/-- 'leadlinelaw27.ConfigTells', WHERE WHAT IT READS IS OF BULK AT MOST 1048576: true; the input reads as it did. -/
def configTellsUptoRow : OpenClaim := { program := "ytbfflffekdadnaadoor", sum := "e279992107d610a0026c6f5e5dfbcda01d34c8d3bdceee402ea712c7e0becbfa", func := "leadline/leadlinelaw27.ConfigTells", spec := "configTells", inPlace := ["internal/reflectlite.ValueOf", "(internal/reflectlite.Value).Type", "(internal/reflectlite.Value).IsNil", "internal/reflectlite.TypeOf", "(internal/reflectlite.Value).Elem", "(internal/reflectlite.Value).Set"], unfollowed := true, recurses := true, named := ["errors.errorType"], apart := false, laid := [("errors.errorType", laid_errors_errorType)], narrowed := true }
def ConfigTellsUptoSaid : Prop := configTellsUptoRow.holds Tryd.pinned (OpenSpec.upto configTellsSpec)

/-- 'leadlinelaw27.ConfigDefault', WHERE WHAT IT READS IS OF BULK AT MOST 1048576: true; the input reads as it did. -/
def configDefaultUptoRow : OpenClaim := { program := "ytbfflffekdadnaadoor", sum := "e279992107d610a0026c6f5e5dfbcda01d34c8d3bdceee402ea712c7e0becbfa", func := "leadline/leadlinelaw27.ConfigDefault", spec := "configDefault", inPlace := ["internal/reflectlite.ValueOf", "(internal/reflectlite.Value).Type", "(internal/reflectlite.Value).IsNil", "internal/reflectlite.TypeOf", "(internal/reflectlite.Value).Elem", "(internal/reflectlite.Value).Set"], unfollowed := true, recurses := true, named := ["errors.errorType"], apart := false, laid := [("errors.errorType", laid_errors_errorType)], narrowed := true }
def ConfigDefaultUptoSaid : Prop := configDefaultUptoRow.holds Tryd.pinned (OpenSpec.upto configDefaultSpec)

/-- 'leadlinelaw25.StoreSizes', WHERE WHAT IT READS IS OF BULK AT MOST 1048576: true; the input reads as it did. -/
def storeSizesUptoRow : OpenClaim := { program := "ytbfflffekdadnaadoor", sum := "e279992107d610a0026c6f5e5dfbcda01d34c8d3bdceee402ea712c7e0becbfa", func := "leadline/leadlinelaw25.StoreSizes", spec := "storeSizes", inPlace := ["internal/reflectlite.ValueOf", "(internal/reflectlite.Value).Type", "(internal/reflectlite.Value).IsNil", "internal/reflectlite.TypeOf", "(internal/reflectlite.Value).Elem", "(internal/reflectlite.Value).Set"], unfollowed := true, recurses := true, named := ["errors.errorType"], apart := false, laid := [("errors.errorType", laid_errors_errorType)], narrowed := true }
def StoreSizesUptoSaid : Prop := storeSizesUptoRow.holds Tryd.pinned (OpenSpec.upto storeSizesSpec)

/-- 'leadlinelaw25.StoreTorn', WHERE WHAT IT READS IS OF BULK AT MOST 1048576: true; the input reads as it did. -/
def storeTornUptoRow : OpenClaim := { program := "ytbfflffekdadnaadoor", sum := "e279992107d610a0026c6f5e5dfbcda01d34c8d3bdceee402ea712c7e0becbfa", func := "leadline/leadlinelaw25.StoreTorn", spec := "storeTorn", inPlace := ["internal/reflectlite.ValueOf", "(internal/reflectlite.Value).Type", "(internal/reflectlite.Value).IsNil", "internal/reflectlite.TypeOf", "(internal/reflectlite.Value).Elem", "(internal/reflectlite.Value).Set"], unfollowed := true, recurses := true, named := ["errors.errorType"], apart := false, laid := [("errors.errorType", laid_errors_errorType)], narrowed := true }
def StoreTornUptoSaid : Prop := storeTornUptoRow.holds Tryd.pinned (OpenSpec.upto storeTornSpec)

end Rows
end Go.Proofs.YtbfflffekdadnaaDoor
