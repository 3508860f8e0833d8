/- Lean functions, contracts and lemmas that this claim needs. No condition. -/
import Derived.Test.YtfcandmhalhaeaaDoorProg
import Derived.Below
import Derived.Deep.Draws
import Derived.Deep.AppendLies
import Derived.Maps.AppendAt
import Derived.OwnWalk
import Derived.Laws.BytesArg
import Derived.Laws.MakeOwn
import Derived.Laws.OwnMore
import Derived.Deep.OwnRows
import Derived.Tactics
import Derived.Lib.ConvBytes
import Derived.Laws.Slices
import Derived.WalkKit
import Derived.KernelRfl
import Derived.RowKit3
import Derived.Deep.LoopGhost
import Derived.Deep.QuietTactic
import Derived.BigQuiet
import Derived.WideLaws
import Derived.Deep.DeepCutAuto
import Derived.Deep.CutBlock
import Derived.Deep.RegionHeld3
import Derived.Laws.Rows
import Derived.Lib.AppendStr
import Derived.ArgAppend
import Derived.Laws.IdiomCopy
import Derived.OrdersHeld
import Derived.Laws.BitsLemmas
import Derived.RowKit
import Derived.Laws.Externs
import Derived.Test.YtfcandmhalhaeaaDoorAXCarry
import Derived.Test.YtfcandmhalhaeaaDoorAWWords
import Derived.Test.YtfcandmhalhaeaaDoorAWLast
import Derived.Test.YtfcandmhalhaeaaDoorAWTab
import Derived.Test.YtfcandmhalhaeaaDoorAWApart
import Derived.Test.YtfcandmhalhaeaaDoorAWFoot
import Derived.Test.YtfcandmhalhaeaaDoorAWKept
import Derived.Test.YtfcandmhalhaeaaDoorAWShare
import Derived.Test.YtfcandmhalhaeaaDoorAWN
import Derived.Test.YtfcandmhalhaeaaDoorAWAt
import Derived.Laws.StructEq
import Derived.Test.YtfcandmhalhaeaaDoorAWRepsOne
import Derived.Test.YtfcandmhalhaeaaDoorAWInv
import Derived.Test.YtfcandmhalhaeaaDoorAWGuard
import Derived.Test.YtfcandmhalhaeaaDoorAWMore
namespace Go.Proofs.YtfcandmhalhaeaaDoor.QSy
open Go.Proofs.YtfcandmhalhaeaaDoor.XCarry Go.RowKit Go.Proofs.YtfcandmhalhaeaaDoorW.PrintWords Go.Proofs.YtfcandmhalhaeaaDoorW.PrintLast Go.Proofs.YtfcandmhalhaeaaDoorW.PrintMore
attribute [local go_sem] max2_int min2_int max_two min_two max_three min_three max_four min_four   -- for this text's walks alone
set_option linter.unusedVariables false
set_option linter.unusedSimpArgs false
def errW : Option Int → Value
  | none => .nilIface
  | some c => .iface 54 (.int .i64 c)
theorem errW_none : errW none = .nilIface := rfl
theorem errW_some (c : Int) : errW (some c) = .iface 54 (.int .i64 c) := rfl
theorem info2 : (Tryd.prog.info? 2).map (fun i => (i.zero, i.size, i.bytes)) = some (some (.int .i64 0), 1, 8) := by kernel_rfl
theorem info77 : (Tryd.prog.info? 77).map (fun i => (i.zero, i.size, i.bytes)) = some (some (.int .u64 0), 1, 8) := by kernel_rfl
structure S90 where
  f0 : Bool
  f1 : (List Int)
end Go.Proofs.YtfcandmhalhaeaaDoor.QSy
