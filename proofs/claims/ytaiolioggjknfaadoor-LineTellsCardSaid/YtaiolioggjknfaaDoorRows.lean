/-
  NARROWER THAN 'FOR EVERY INPUT', by the rows' own cells (each row's printed sentence says how): SoundSlants: laid · SoundLine: laid · SoundWater: laid · DeadBack: laid · LineUnits: laid · RowSums: laid · LineSame: laid · SoundTells: laid · DeadTells: laid · DeadFour: laid · LineTells: laid.
  DERIVED. THE GIVEN ROWS OF THIS SEAT. 11 by the template 'for every input the law returns true; each argument reads behind the call as it read before'; 0 by the template 'total and deterministic' (their statements: YtaiolioggjknfaaDoorTotals.lean).
  GIVEN WITH THE SEED: the statements are not yours to turn. If you find one false, say at which input.
  Laid BY PROGRAM, IN A SANDBOX (cutbox-rows.mjs): the forced cells as the released guide's own fill.sh prints them over the translation 6d81d5be021937f4… (all of the seat's roots in one cut). By AI agents, Wed Nov 11 2026. No macro, syntax, notation, axiom, sorry.
-/
import Derived.Test.YtaiolioggjknfaaDoorChecked
import GoSem.Claim
import GoSem.ClaimJoined
import GoSem.ClaimMapViews
import Derived.JoinedTies
import Derived.KernelRfl
namespace Go.Proofs.YtaiolioggjknfaaDoor
/- THE CELL 'sum', in the pinned program and in every row, IS THE sha256 OF THE DUMP (.gsa) THAT YtaiolioggjknfaaDoorProg.lean LOADS. Nothing in Lean hashes anything: it is a label: what it is worth is what the hold of that sum in a sandbox is worth. -/
noncomputable def Tryd.pinned : Pinned := { name := "ytaiolioggjknfaadoor", sum := "6d81d5be021937f4f8532363f337fa46122acc100152ff7c6cb73f883fa846d9", checked := Tryd.checked }
namespace Rows
def none {H : Type} : Left H := { results := [], args := [] }

/- WHAT THE LISTED PACKAGE-LEVEL VARIABLES READ AS WHEN THE CALL BEGINS. Each datum BY PROGRAM (the guide's laid-datum.mjs) off the statement by which the dump's own 'gosem.cut.vars' lays the variable. In a bare row this is a premise. The card (YtaiolioggjknfaaDoorCards.lean) ties it to the program's text. -/
def laid_errors_errorType {H : Type} : DataW H := .iface "internal/reflectlite.rtype" (.agg [.ptr (.lit (.string [101, 114, 114, 111, 114]))])

/-- 'leadlinelaw13.SoundSlants': WHATEVER THE INPUT: true; the input reads as it did. -/
def soundSlantsSpec : ChangeSpec := { name := "soundSlants", fn := fun _ => fun
  | [d1, d2] => { results := [.lit (.bool true)], args := [d1, d2] }
  | _ => none }
def soundSlantsRow : OpenClaim := { program := "ytaiolioggjknfaadoor", sum := "6d81d5be021937f4f8532363f337fa46122acc100152ff7c6cb73f883fa846d9", func := "leadline/leadlinelaw13.SoundSlants", spec := "soundSlants", inPlace := ["internal/reflectlite.ValueOf", "(internal/reflectlite.Value).Type", "(internal/reflectlite.Value).IsNil", "internal/reflectlite.TypeOf", "(internal/reflectlite.Value).Elem", "(internal/reflectlite.Value).Set"], unfollowed := true, recurses := true, named := ["math/bits.divideError", "math/bits.overflowError", "errors.errorType"], apart := false, laid := [("errors.errorType", laid_errors_errorType)] }
def SoundSlantsSaid : Prop := soundSlantsRow.holds Tryd.pinned (OpenSpec.ofChange soundSlantsSpec)

/-- ITS FALSE NEIGHBOUR: 'it returns false'. Refute it at one input. -/
def soundSlantsWrong : ChangeSpec := { name := "soundSlants", fn := fun _ => fun
  | [d1, d2] => { results := [.lit (.bool false)], args := [d1, d2] }
  | _ => none }
def SoundSlantsWrongFalsely : Prop := soundSlantsRow.holds Tryd.pinned (OpenSpec.ofChange soundSlantsWrong)

/-- 'leadlinelaw13.SoundLine': WHATEVER THE INPUT: true; the input reads as it did. -/
def soundLineSpec : ChangeSpec := { name := "soundLine", fn := fun _ => fun
  | [d1, d2, d3] => { results := [.lit (.bool true)], args := [d1, d2, d3] }
  | _ => none }
def soundLineRow : OpenClaim := { program := "ytaiolioggjknfaadoor", sum := "6d81d5be021937f4f8532363f337fa46122acc100152ff7c6cb73f883fa846d9", func := "leadline/leadlinelaw13.SoundLine", spec := "soundLine", inPlace := ["internal/reflectlite.ValueOf", "(internal/reflectlite.Value).Type", "(internal/reflectlite.Value).IsNil", "internal/reflectlite.TypeOf", "(internal/reflectlite.Value).Elem", "(internal/reflectlite.Value).Set"], unfollowed := true, recurses := true, named := ["math/bits.divideError", "math/bits.overflowError", "errors.errorType"], apart := false, laid := [("errors.errorType", laid_errors_errorType)] }
def SoundLineSaid : Prop := soundLineRow.holds Tryd.pinned (OpenSpec.ofChange soundLineSpec)

/-- ITS FALSE NEIGHBOUR: 'it returns false'. Refute it at one input. -/
def soundLineWrong : ChangeSpec := { name := "soundLine", fn := fun _ => fun
  | [d1, d2, d3] => { results := [.lit (.bool false)], args := [d1, d2, d3] }
  | _ => none }
def SoundLineWrongFalsely : Prop := soundLineRow.holds Tryd.pinned (OpenSpec.ofChange soundLineWrong)

/-- 'leadlinelaw13.SoundWater': WHATEVER THE INPUT: true; the input reads as it did. -/
def soundWaterSpec : ChangeSpec := { name := "soundWater", fn := fun _ => fun
  | [d1, d2, d3] => { results := [.lit (.bool true)], args := [d1, d2, d3] }
  | _ => none }
def soundWaterRow : OpenClaim := { program := "ytaiolioggjknfaadoor", sum := "6d81d5be021937f4f8532363f337fa46122acc100152ff7c6cb73f883fa846d9", func := "leadline/leadlinelaw13.SoundWater", spec := "soundWater", inPlace := ["internal/reflectlite.ValueOf", "(internal/reflectlite.Value).Type", "(internal/reflectlite.Value).IsNil", "internal/reflectlite.TypeOf", "(internal/reflectlite.Value).Elem", "(internal/reflectlite.Value).Set"], unfollowed := true, recurses := true, named := ["math/bits.divideError", "math/bits.overflowError", "errors.errorType"], apart := false, laid := [("errors.errorType", laid_errors_errorType)] }
def SoundWaterSaid : Prop := soundWaterRow.holds Tryd.pinned (OpenSpec.ofChange soundWaterSpec)

/-- ITS FALSE NEIGHBOUR: 'it returns false'. Refute it at one input. -/
def soundWaterWrong : ChangeSpec := { name := "soundWater", fn := fun _ => fun
  | [d1, d2, d3] => { results := [.lit (.bool false)], args := [d1, d2, d3] }
  | _ => none }
def SoundWaterWrongFalsely : Prop := soundWaterRow.holds Tryd.pinned (OpenSpec.ofChange soundWaterWrong)

/-- 'leadlinelaw15.DeadBack': WHATEVER THE INPUT: true; the input reads as it did. -/
def deadBackSpec : ChangeSpec := { name := "deadBack", fn := fun _ => fun
  | [d1, d2, d3, d4] => { results := [.lit (.bool true)], args := [d1, d2, d3, d4] }
  | _ => none }
def deadBackRow : OpenClaim := { program := "ytaiolioggjknfaadoor", sum := "6d81d5be021937f4f8532363f337fa46122acc100152ff7c6cb73f883fa846d9", func := "leadline/leadlinelaw15.DeadBack", spec := "deadBack", inPlace := ["internal/reflectlite.ValueOf", "(internal/reflectlite.Value).Type", "(internal/reflectlite.Value).IsNil", "internal/reflectlite.TypeOf", "(internal/reflectlite.Value).Elem", "(internal/reflectlite.Value).Set"], unfollowed := true, recurses := true, named := ["math/bits.divideError", "math/bits.overflowError", "errors.errorType"], apart := false, laid := [("errors.errorType", laid_errors_errorType)] }
def DeadBackSaid : Prop := deadBackRow.holds Tryd.pinned (OpenSpec.ofChange deadBackSpec)

/-- ITS FALSE NEIGHBOUR: 'it returns false'. Refute it at one input. -/
def deadBackWrong : ChangeSpec := { name := "deadBack", fn := fun _ => fun
  | [d1, d2, d3, d4] => { results := [.lit (.bool false)], args := [d1, d2, d3, d4] }
  | _ => none }
def DeadBackWrongFalsely : Prop := deadBackRow.holds Tryd.pinned (OpenSpec.ofChange deadBackWrong)

/-- 'leadlinelaw16.LineUnits': WHATEVER THE INPUT: true; the input reads as it did. -/
def lineUnitsSpec : ChangeSpec := { name := "lineUnits", fn := fun _ => fun
  | [d1, d2] => { results := [.lit (.bool true)], args := [d1, d2] }
  | _ => none }
def lineUnitsRow : OpenClaim := { program := "ytaiolioggjknfaadoor", sum := "6d81d5be021937f4f8532363f337fa46122acc100152ff7c6cb73f883fa846d9", func := "leadline/leadlinelaw16.LineUnits", spec := "lineUnits", inPlace := ["internal/reflectlite.ValueOf", "(internal/reflectlite.Value).Type", "(internal/reflectlite.Value).IsNil", "internal/reflectlite.TypeOf", "(internal/reflectlite.Value).Elem", "(internal/reflectlite.Value).Set"], unfollowed := true, recurses := true, named := ["math/bits.divideError", "math/bits.overflowError", "errors.errorType"], apart := false, laid := [("errors.errorType", laid_errors_errorType)] }
def LineUnitsSaid : Prop := lineUnitsRow.holds Tryd.pinned (OpenSpec.ofChange lineUnitsSpec)

/-- ITS FALSE NEIGHBOUR: 'it returns false'. Refute it at one input. -/
def lineUnitsWrong : ChangeSpec := { name := "lineUnits", fn := fun _ => fun
  | [d1, d2] => { results := [.lit (.bool false)], args := [d1, d2] }
  | _ => none }
def LineUnitsWrongFalsely : Prop := lineUnitsRow.holds Tryd.pinned (OpenSpec.ofChange lineUnitsWrong)

/-- 'leadlinelaw16.RowSums': WHATEVER THE INPUT: true; the input reads as it did. -/
def rowSumsSpec : ChangeSpec := { name := "rowSums", fn := fun _ => fun
  | [d1, d2, d3, d4] => { results := [.lit (.bool true)], args := [d1, d2, d3, d4] }
  | _ => none }
def rowSumsRow : OpenClaim := { program := "ytaiolioggjknfaadoor", sum := "6d81d5be021937f4f8532363f337fa46122acc100152ff7c6cb73f883fa846d9", func := "leadline/leadlinelaw16.RowSums", spec := "rowSums", inPlace := ["internal/reflectlite.ValueOf", "(internal/reflectlite.Value).Type", "(internal/reflectlite.Value).IsNil", "internal/reflectlite.TypeOf", "(internal/reflectlite.Value).Elem", "(internal/reflectlite.Value).Set"], unfollowed := true, recurses := true, named := ["math/bits.divideError", "math/bits.overflowError", "errors.errorType"], apart := false, laid := [("errors.errorType", laid_errors_errorType)] }
def RowSumsSaid : Prop := rowSumsRow.holds Tryd.pinned (OpenSpec.ofChange rowSumsSpec)

/-- ITS FALSE NEIGHBOUR: 'it returns false'. Refute it at one input. -/
def rowSumsWrong : ChangeSpec := { name := "rowSums", fn := fun _ => fun
  | [d1, d2, d3, d4] => { results := [.lit (.bool false)], args := [d1, d2, d3, d4] }
  | _ => none }
def RowSumsWrongFalsely : Prop := rowSumsRow.holds Tryd.pinned (OpenSpec.ofChange rowSumsWrong)

/-- 'leadlinelaw16.LineSame': WHATEVER THE INPUT: true; the input reads as it did. -/
def lineSameSpec : ChangeSpec := { name := "lineSame", fn := fun _ => fun
  | [d1, d2, d3, d4] => { results := [.lit (.bool true)], args := [d1, d2, d3, d4] }
  | _ => none }
def lineSameRow : OpenClaim := { program := "ytaiolioggjknfaadoor", sum := "6d81d5be021937f4f8532363f337fa46122acc100152ff7c6cb73f883fa846d9", func := "leadline/leadlinelaw16.LineSame", spec := "lineSame", inPlace := ["internal/reflectlite.ValueOf", "(internal/reflectlite.Value).Type", "(internal/reflectlite.Value).IsNil", "internal/reflectlite.TypeOf", "(internal/reflectlite.Value).Elem", "(internal/reflectlite.Value).Set"], unfollowed := true, recurses := true, named := ["math/bits.divideError", "math/bits.overflowError", "errors.errorType"], apart := false, laid := [("errors.errorType", laid_errors_errorType)] }
def LineSameSaid : Prop := lineSameRow.holds Tryd.pinned (OpenSpec.ofChange lineSameSpec)

/-- ITS FALSE NEIGHBOUR: 'it returns false'. Refute it at one input. -/
def lineSameWrong : ChangeSpec := { name := "lineSame", fn := fun _ => fun
  | [d1, d2, d3, d4] => { results := [.lit (.bool false)], args := [d1, d2, d3, d4] }
  | _ => none }
def LineSameWrongFalsely : Prop := lineSameRow.holds Tryd.pinned (OpenSpec.ofChange lineSameWrong)

/-- 'leadlinelaw13.SoundTells': WHATEVER THE INPUT: true; the input reads as it did. -/
def soundTellsSpec : ChangeSpec := { name := "soundTells", fn := fun _ => fun
  | [d1, d2, d3, d4, d5, d6, d7, d8] => { results := [.lit (.bool true)], args := [d1, d2, d3, d4, d5, d6, d7, d8] }
  | _ => none }
def soundTellsRow : OpenClaim := { program := "ytaiolioggjknfaadoor", sum := "6d81d5be021937f4f8532363f337fa46122acc100152ff7c6cb73f883fa846d9", func := "leadline/leadlinelaw13.SoundTells", spec := "soundTells", inPlace := ["internal/reflectlite.ValueOf", "(internal/reflectlite.Value).Type", "(internal/reflectlite.Value).IsNil", "internal/reflectlite.TypeOf", "(internal/reflectlite.Value).Elem", "(internal/reflectlite.Value).Set", "math/bits.Add64", "math/bits.Sub64"], unfollowed := true, recurses := true, named := ["math/bits.divideError", "math/bits.overflowError", "errors.errorType"], apart := false, laid := [("errors.errorType", laid_errors_errorType)] }
def SoundTellsSaid : Prop := soundTellsRow.holds Tryd.pinned (OpenSpec.ofChange soundTellsSpec)

/-- ITS FALSE NEIGHBOUR: 'it returns false'. Refute it at one input. -/
def soundTellsWrong : ChangeSpec := { name := "soundTells", fn := fun _ => fun
  | [d1, d2, d3, d4, d5, d6, d7, d8] => { results := [.lit (.bool false)], args := [d1, d2, d3, d4, d5, d6, d7, d8] }
  | _ => none }
def SoundTellsWrongFalsely : Prop := soundTellsRow.holds Tryd.pinned (OpenSpec.ofChange soundTellsWrong)

/-- 'leadlinelaw15.DeadTells': WHATEVER THE INPUT: true; the input reads as it did. -/
def deadTellsSpec : ChangeSpec := { name := "deadTells", fn := fun _ => fun
  | [d1, d2, d3, d4, d5, d6, d7] => { results := [.lit (.bool true)], args := [d1, d2, d3, d4, d5, d6, d7] }
  | _ => none }
def deadTellsRow : OpenClaim := { program := "ytaiolioggjknfaadoor", sum := "6d81d5be021937f4f8532363f337fa46122acc100152ff7c6cb73f883fa846d9", func := "leadline/leadlinelaw15.DeadTells", spec := "deadTells", inPlace := ["internal/reflectlite.ValueOf", "(internal/reflectlite.Value).Type", "(internal/reflectlite.Value).IsNil", "internal/reflectlite.TypeOf", "(internal/reflectlite.Value).Elem", "(internal/reflectlite.Value).Set", "math/bits.Add64", "math/bits.Sub64"], unfollowed := true, recurses := true, named := ["math/bits.divideError", "math/bits.overflowError", "errors.errorType"], apart := false, laid := [("errors.errorType", laid_errors_errorType)] }
def DeadTellsSaid : Prop := deadTellsRow.holds Tryd.pinned (OpenSpec.ofChange deadTellsSpec)

/-- ITS FALSE NEIGHBOUR: 'it returns false'. Refute it at one input. -/
def deadTellsWrong : ChangeSpec := { name := "deadTells", fn := fun _ => fun
  | [d1, d2, d3, d4, d5, d6, d7] => { results := [.lit (.bool false)], args := [d1, d2, d3, d4, d5, d6, d7] }
  | _ => none }
def DeadTellsWrongFalsely : Prop := deadTellsRow.holds Tryd.pinned (OpenSpec.ofChange deadTellsWrong)

/-- 'leadlinelaw15.DeadFour': WHATEVER THE INPUT: true; the input reads as it did. -/
def deadFourSpec : ChangeSpec := { name := "deadFour", fn := fun _ => fun
  | [d1, d2, d3, d4] => { results := [.lit (.bool true)], args := [d1, d2, d3, d4] }
  | _ => none }
def deadFourRow : OpenClaim := { program := "ytaiolioggjknfaadoor", sum := "6d81d5be021937f4f8532363f337fa46122acc100152ff7c6cb73f883fa846d9", func := "leadline/leadlinelaw15.DeadFour", spec := "deadFour", inPlace := ["internal/reflectlite.ValueOf", "(internal/reflectlite.Value).Type", "(internal/reflectlite.Value).IsNil", "internal/reflectlite.TypeOf", "(internal/reflectlite.Value).Elem", "(internal/reflectlite.Value).Set", "math/bits.Add64", "math/bits.Sub64"], unfollowed := true, recurses := true, named := ["math/bits.divideError", "math/bits.overflowError", "errors.errorType"], apart := false, laid := [("errors.errorType", laid_errors_errorType)] }
def DeadFourSaid : Prop := deadFourRow.holds Tryd.pinned (OpenSpec.ofChange deadFourSpec)

/-- ITS FALSE NEIGHBOUR: 'it returns false'. Refute it at one input. -/
def deadFourWrong : ChangeSpec := { name := "deadFour", fn := fun _ => fun
  | [d1, d2, d3, d4] => { results := [.lit (.bool false)], args := [d1, d2, d3, d4] }
  | _ => none }
def DeadFourWrongFalsely : Prop := deadFourRow.holds Tryd.pinned (OpenSpec.ofChange deadFourWrong)

/-- 'leadlinelaw16.LineTells': WHATEVER THE INPUT: true; the input reads as it did. -/
def lineTellsSpec : ChangeSpec := { name := "lineTells", fn := fun _ => fun
  | [d1, d2, d3, d4, d5, d6] => { results := [.lit (.bool true)], args := [d1, d2, d3, d4, d5, d6] }
  | _ => none }
def lineTellsRow : OpenClaim := { program := "ytaiolioggjknfaadoor", sum := "6d81d5be021937f4f8532363f337fa46122acc100152ff7c6cb73f883fa846d9", func := "leadline/leadlinelaw16.LineTells", spec := "lineTells", inPlace := ["internal/reflectlite.ValueOf", "(internal/reflectlite.Value).Type", "(internal/reflectlite.Value).IsNil", "internal/reflectlite.TypeOf", "(internal/reflectlite.Value).Elem", "(internal/reflectlite.Value).Set", "math/bits.Add64", "math/bits.Sub64"], unfollowed := true, recurses := true, named := ["math/bits.divideError", "math/bits.overflowError", "errors.errorType"], apart := false, laid := [("errors.errorType", laid_errors_errorType)] }
def LineTellsSaid : Prop := lineTellsRow.holds Tryd.pinned (OpenSpec.ofChange lineTellsSpec)

/-- ITS FALSE NEIGHBOUR: 'it returns false'. Refute it at one input. -/
def lineTellsWrong : ChangeSpec := { name := "lineTells", fn := fun _ => fun
  | [d1, d2, d3, d4, d5, d6] => { results := [.lit (.bool false)], args := [d1, d2, d3, d4, d5, d6] }
  | _ => none }
def LineTellsWrongFalsely : Prop := lineTellsRow.holds Tryd.pinned (OpenSpec.ofChange lineTellsWrong)

/- THE SECOND FORM. 'bulk': how many values and letters a reading holds, each counted each time it is reached (what is shared counts as often as it is met; a slice's spare places count too). A statement '..UptoSaid' is the law's where the arguments, and the package variables that the reading takes, are together of bulk at most 1048576: NARROWER than '..Said'. Prove '..Said' where nothing that the law and all that it calls make is longer than what came in: it says more and counts as full. Else prove '..UptoSaid'. A law counts once. -/
mutual
def uptoBulk {H : Type} : DataW H → Nat
  | .lit (.string bytes) => bytes.length + 1
  | .lit _ => 1
  | .nil => 1
  | .ptr d => uptoBulk d + 1
  | .slice elems spare => uptoBulkAll elems + uptoBulkAll spare + 1
  | .agg parts => uptoBulkAll parts + 1
  | .iface _ d => uptoBulk d + 1
  | .map entries => uptoBulkEntries entries + 1
  | .held _ => 1
def uptoBulkAll {H : Type} : List (DataW H) → Nat
  | [] => 0
  | d :: r => uptoBulk d + uptoBulkAll r
def uptoBulkEntries {H : Type} : List (Lit × DataW H) → Nat
  | [] => 0
  | x :: r => uptoBulkEntry x + uptoBulkEntries r
def uptoBulkEntry {H : Type} : Lit × DataW H → Nat
  | (.string bytes, d) => bytes.length + uptoBulk d + 1
  | (_, d) => uptoBulk d + 1
 end
def uptoSmall : (H : Type) → List (DataW H) → Bool := fun _ ds => decide (uptoBulkAll ds ≤ 1048576)
def OpenSpec.upto (s : _root_.Go.ChangeSpec) : _root_.Go.OpenSpec := { _root_.Go.OpenSpec.ofChange s with cond := some uptoSmall }

/-- 'leadlinelaw13.SoundSlants', WHERE WHAT IT READS IS OF BULK AT MOST 1048576: true; the input reads as it did. -/
def soundSlantsUptoRow : OpenClaim := { program := "ytaiolioggjknfaadoor", sum := "6d81d5be021937f4f8532363f337fa46122acc100152ff7c6cb73f883fa846d9", func := "leadline/leadlinelaw13.SoundSlants", spec := "soundSlants", inPlace := ["internal/reflectlite.ValueOf", "(internal/reflectlite.Value).Type", "(internal/reflectlite.Value).IsNil", "internal/reflectlite.TypeOf", "(internal/reflectlite.Value).Elem", "(internal/reflectlite.Value).Set"], unfollowed := true, recurses := true, named := ["math/bits.divideError", "math/bits.overflowError", "errors.errorType"], apart := false, laid := [("errors.errorType", laid_errors_errorType)], narrowed := true }
def SoundSlantsUptoSaid : Prop := soundSlantsUptoRow.holds Tryd.pinned (OpenSpec.upto soundSlantsSpec)

/-- 'leadlinelaw13.SoundLine', WHERE WHAT IT READS IS OF BULK AT MOST 1048576: true; the input reads as it did. -/
def soundLineUptoRow : OpenClaim := { program := "ytaiolioggjknfaadoor", sum := "6d81d5be021937f4f8532363f337fa46122acc100152ff7c6cb73f883fa846d9", func := "leadline/leadlinelaw13.SoundLine", spec := "soundLine", inPlace := ["internal/reflectlite.ValueOf", "(internal/reflectlite.Value).Type", "(internal/reflectlite.Value).IsNil", "internal/reflectlite.TypeOf", "(internal/reflectlite.Value).Elem", "(internal/reflectlite.Value).Set"], unfollowed := true, recurses := true, named := ["math/bits.divideError", "math/bits.overflowError", "errors.errorType"], apart := false, laid := [("errors.errorType", laid_errors_errorType)], narrowed := true }
def SoundLineUptoSaid : Prop := soundLineUptoRow.holds Tryd.pinned (OpenSpec.upto soundLineSpec)

/-- 'leadlinelaw13.SoundWater', WHERE WHAT IT READS IS OF BULK AT MOST 1048576: true; the input reads as it did. -/
def soundWaterUptoRow : OpenClaim := { program := "ytaiolioggjknfaadoor", sum := "6d81d5be021937f4f8532363f337fa46122acc100152ff7c6cb73f883fa846d9", func := "leadline/leadlinelaw13.SoundWater", spec := "soundWater", inPlace := ["internal/reflectlite.ValueOf", "(internal/reflectlite.Value).Type", "(internal/reflectlite.Value).IsNil", "internal/reflectlite.TypeOf", "(internal/reflectlite.Value).Elem", "(internal/reflectlite.Value).Set"], unfollowed := true, recurses := true, named := ["math/bits.divideError", "math/bits.overflowError", "errors.errorType"], apart := false, laid := [("errors.errorType", laid_errors_errorType)], narrowed := true }
def SoundWaterUptoSaid : Prop := soundWaterUptoRow.holds Tryd.pinned (OpenSpec.upto soundWaterSpec)

/-- 'leadlinelaw15.DeadBack', WHERE WHAT IT READS IS OF BULK AT MOST 1048576: true; the input reads as it did. -/
def deadBackUptoRow : OpenClaim := { program := "ytaiolioggjknfaadoor", sum := "6d81d5be021937f4f8532363f337fa46122acc100152ff7c6cb73f883fa846d9", func := "leadline/leadlinelaw15.DeadBack", spec := "deadBack", inPlace := ["internal/reflectlite.ValueOf", "(internal/reflectlite.Value).Type", "(internal/reflectlite.Value).IsNil", "internal/reflectlite.TypeOf", "(internal/reflectlite.Value).Elem", "(internal/reflectlite.Value).Set"], unfollowed := true, recurses := true, named := ["math/bits.divideError", "math/bits.overflowError", "errors.errorType"], apart := false, laid := [("errors.errorType", laid_errors_errorType)], narrowed := true }
def DeadBackUptoSaid : Prop := deadBackUptoRow.holds Tryd.pinned (OpenSpec.upto deadBackSpec)

/-- 'leadlinelaw16.LineUnits', WHERE WHAT IT READS IS OF BULK AT MOST 1048576: true; the input reads as it did. -/
def lineUnitsUptoRow : OpenClaim := { program := "ytaiolioggjknfaadoor", sum := "6d81d5be021937f4f8532363f337fa46122acc100152ff7c6cb73f883fa846d9", func := "leadline/leadlinelaw16.LineUnits", spec := "lineUnits", inPlace := ["internal/reflectlite.ValueOf", "(internal/reflectlite.Value).Type", "(internal/reflectlite.Value).IsNil", "internal/reflectlite.TypeOf", "(internal/reflectlite.Value).Elem", "(internal/reflectlite.Value).Set"], unfollowed := true, recurses := true, named := ["math/bits.divideError", "math/bits.overflowError", "errors.errorType"], apart := false, laid := [("errors.errorType", laid_errors_errorType)], narrowed := true }
def LineUnitsUptoSaid : Prop := lineUnitsUptoRow.holds Tryd.pinned (OpenSpec.upto lineUnitsSpec)

/-- 'leadlinelaw16.RowSums', WHERE WHAT IT READS IS OF BULK AT MOST 1048576: true; the input reads as it did. -/
def rowSumsUptoRow : OpenClaim := { program := "ytaiolioggjknfaadoor", sum := "6d81d5be021937f4f8532363f337fa46122acc100152ff7c6cb73f883fa846d9", func := "leadline/leadlinelaw16.RowSums", spec := "rowSums", inPlace := ["internal/reflectlite.ValueOf", "(internal/reflectlite.Value).Type", "(internal/reflectlite.Value).IsNil", "internal/reflectlite.TypeOf", "(internal/reflectlite.Value).Elem", "(internal/reflectlite.Value).Set"], unfollowed := true, recurses := true, named := ["math/bits.divideError", "math/bits.overflowError", "errors.errorType"], apart := false, laid := [("errors.errorType", laid_errors_errorType)], narrowed := true }
def RowSumsUptoSaid : Prop := rowSumsUptoRow.holds Tryd.pinned (OpenSpec.upto rowSumsSpec)

/-- 'leadlinelaw16.LineSame', WHERE WHAT IT READS IS OF BULK AT MOST 1048576: true; the input reads as it did. -/
def lineSameUptoRow : OpenClaim := { program := "ytaiolioggjknfaadoor", sum := "6d81d5be021937f4f8532363f337fa46122acc100152ff7c6cb73f883fa846d9", func := "leadline/leadlinelaw16.LineSame", spec := "lineSame", inPlace := ["internal/reflectlite.ValueOf", "(internal/reflectlite.Value).Type", "(internal/reflectlite.Value).IsNil", "internal/reflectlite.TypeOf", "(internal/reflectlite.Value).Elem", "(internal/reflectlite.Value).Set"], unfollowed := true, recurses := true, named := ["math/bits.divideError", "math/bits.overflowError", "errors.errorType"], apart := false, laid := [("errors.errorType", laid_errors_errorType)], narrowed := true }
def LineSameUptoSaid : Prop := lineSameUptoRow.holds Tryd.pinned (OpenSpec.upto lineSameSpec)

/-- 'leadlinelaw13.SoundTells', WHERE WHAT IT READS IS OF BULK AT MOST 1048576: true; the input reads as it did. -/
def soundTellsUptoRow : OpenClaim := { program := "ytaiolioggjknfaadoor", sum := "6d81d5be021937f4f8532363f337fa46122acc100152ff7c6cb73f883fa846d9", func := "leadline/leadlinelaw13.SoundTells", spec := "soundTells", inPlace := ["internal/reflectlite.ValueOf", "(internal/reflectlite.Value).Type", "(internal/reflectlite.Value).IsNil", "internal/reflectlite.TypeOf", "(internal/reflectlite.Value).Elem", "(internal/reflectlite.Value).Set", "math/bits.Add64", "math/bits.Sub64"], unfollowed := true, recurses := true, named := ["math/bits.divideError", "math/bits.overflowError", "errors.errorType"], apart := false, laid := [("errors.errorType", laid_errors_errorType)], narrowed := true }
def SoundTellsUptoSaid : Prop := soundTellsUptoRow.holds Tryd.pinned (OpenSpec.upto soundTellsSpec)

/-- 'leadlinelaw15.DeadTells', WHERE WHAT IT READS IS OF BULK AT MOST 1048576: true; the input reads as it did. -/
def deadTellsUptoRow : OpenClaim := { program := "ytaiolioggjknfaadoor", sum := "6d81d5be021937f4f8532363f337fa46122acc100152ff7c6cb73f883fa846d9", func := "leadline/leadlinelaw15.DeadTells", spec := "deadTells", inPlace := ["internal/reflectlite.ValueOf", "(internal/reflectlite.Value).Type", "(internal/reflectlite.Value).IsNil", "internal/reflectlite.TypeOf", "(internal/reflectlite.Value).Elem", "(internal/reflectlite.Value).Set", "math/bits.Add64", "math/bits.Sub64"], unfollowed := true, recurses := true, named := ["math/bits.divideError", "math/bits.overflowError", "errors.errorType"], apart := false, laid := [("errors.errorType", laid_errors_errorType)], narrowed := true }
def DeadTellsUptoSaid : Prop := deadTellsUptoRow.holds Tryd.pinned (OpenSpec.upto deadTellsSpec)

/-- 'leadlinelaw15.DeadFour', WHERE WHAT IT READS IS OF BULK AT MOST 1048576: true; the input reads as it did. -/
def deadFourUptoRow : OpenClaim := { program := "ytaiolioggjknfaadoor", sum := "6d81d5be021937f4f8532363f337fa46122acc100152ff7c6cb73f883fa846d9", func := "leadline/leadlinelaw15.DeadFour", spec := "deadFour", inPlace := ["internal/reflectlite.ValueOf", "(internal/reflectlite.Value).Type", "(internal/reflectlite.Value).IsNil", "internal/reflectlite.TypeOf", "(internal/reflectlite.Value).Elem", "(internal/reflectlite.Value).Set", "math/bits.Add64", "math/bits.Sub64"], unfollowed := true, recurses := true, named := ["math/bits.divideError", "math/bits.overflowError", "errors.errorType"], apart := false, laid := [("errors.errorType", laid_errors_errorType)], narrowed := true }
def DeadFourUptoSaid : Prop := deadFourUptoRow.holds Tryd.pinned (OpenSpec.upto deadFourSpec)

/-- 'leadlinelaw16.LineTells', WHERE WHAT IT READS IS OF BULK AT MOST 1048576: true; the input reads as it did. -/
def lineTellsUptoRow : OpenClaim := { program := "ytaiolioggjknfaadoor", sum := "6d81d5be021937f4f8532363f337fa46122acc100152ff7c6cb73f883fa846d9", func := "leadline/leadlinelaw16.LineTells", spec := "lineTells", inPlace := ["internal/reflectlite.ValueOf", "(internal/reflectlite.Value).Type", "(internal/reflectlite.Value).IsNil", "internal/reflectlite.TypeOf", "(internal/reflectlite.Value).Elem", "(internal/reflectlite.Value).Set", "math/bits.Add64", "math/bits.Sub64"], unfollowed := true, recurses := true, named := ["math/bits.divideError", "math/bits.overflowError", "errors.errorType"], apart := false, laid := [("errors.errorType", laid_errors_errorType)], narrowed := true }
def LineTellsUptoSaid : Prop := lineTellsUptoRow.holds Tryd.pinned (OpenSpec.upto lineTellsSpec)

end Rows
end Go.Proofs.YtaiolioggjknfaaDoor
