/- Lean functions for Go functions that a statement reaches, and a proof that the calls come to them. Written by a program of this session. -/
import Derived.Test.YtaiolioggjknfaaDoorProg
import Derived.Below
import Derived.Deep.Draws
import Derived.Deep.AppendLies
import Derived.Maps.AppendAt
import Derived.OwnWalk
import Derived.Laws.BytesArg
import Derived.Laws.MakeOwn
import Derived.Laws.OwnMore
import Derived.Deep.OwnRows
import Derived.Tactics
import Derived.Lib.ConvBytes
import Derived.Laws.Slices
import Derived.WalkKit
import Derived.KernelRfl
import Derived.RowKit3
import Derived.Deep.LoopGhost
import Derived.Deep.QuietTactic
import Derived.BigQuiet
import Derived.WideLaws
import Derived.Deep.DeepCutAuto
import Derived.Deep.CutBlock
import Derived.Deep.RegionHeld3
import Derived.Laws.Rows
import Derived.Lib.AppendStr
import Derived.ArgAppend
import Derived.Laws.IdiomCopy
import Derived.OrdersHeld
import Derived.Laws.BitsLemmas
import Derived.RowKit
import Derived.Laws.Externs
import Derived.Test.YtaiolioggjknfaaDoorXCarry
import Derived.Test.YtaiolioggjknfaaDoorWWords
import Derived.Test.YtaiolioggjknfaaDoorWLast
import Derived.Test.YtaiolioggjknfaaDoorWTab
import Derived.Test.YtaiolioggjknfaaDoorWFour
import Derived.Test.YtaiolioggjknfaaDoorWQPut
import Derived.Test.YtaiolioggjknfaaDoorWApart
import Derived.Test.YtaiolioggjknfaaDoorWArr
import Derived.Test.YtaiolioggjknfaaDoorWZeros
import Derived.Test.YtaiolioggjknfaaDoorWFoot
import Derived.Test.YtaiolioggjknfaaDoorWKept
import Derived.Test.YtaiolioggjknfaaDoorWShare
import Derived.Test.YtaiolioggjknfaaDoorWN
import Derived.Test.YtaiolioggjknfaaDoorWFootNe
import Derived.Test.YtaiolioggjknfaaDoorWAt
import Derived.Test.YtaiolioggjknfaaDoorWEqStruct
import Derived.Test.YtaiolioggjknfaaDoorWRepsOne
import Derived.Test.YtaiolioggjknfaaDoorWInv
import Derived.Test.YtaiolioggjknfaaDoorWInvWords
import Derived.Test.YtaiolioggjknfaaDoorWGuard
import Derived.Test.YtaiolioggjknfaaDoorWNEv
import Derived.Test.YtaiolioggjknfaaDoorWMore
namespace Go.Proofs.YtaiolioggjknfaaDoor.QSn
open Go.Proofs.YtaiolioggjknfaaDoor.XCarry Go.RowKit Go.Proofs.YtaiolioggjknfaaDoorW.PrintWords Go.Proofs.YtaiolioggjknfaaDoorW.PrintLast Go.Proofs.YtaiolioggjknfaaDoorW.PrintMore
attribute [local go_sem] max2_int min2_int max_two min_two max_three min_three max_four min_four   -- for this text's walks alone
set_option linter.unusedVariables false
set_option linter.unusedSimpArgs false



def errW : Option Int → Value
  | none => .nilIface
  | some c => .iface 50 (.int .i64 c)
theorem errW_none : errW none = .nilIface := rfl
theorem errW_some (c : Int) : errW (some c) = .iface 50 (.int .i64 c) := rfl

theorem info2 : (Tryd.prog.info? 2).map (fun i => (i.zero, i.size, i.bytes)) = some (some (.int .i64 0), 1, 8) := by kernel_rfl
theorem info78 : (Tryd.prog.info? 78).map (fun i => (i.zero, i.size, i.bytes)) = some (some (.int .u64 0), 1, 8) := by kernel_rfl
-- the values' own types

end Go.Proofs.YtaiolioggjknfaaDoor.QSn
