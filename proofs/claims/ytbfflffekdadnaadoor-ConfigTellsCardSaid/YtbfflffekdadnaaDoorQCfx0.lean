/- Lean functions for Go functions that a statement reaches, and a proof that the calls come to them. Written by a program of this session. -/
import Derived.Test.YtbfflffekdadnaaDoorProg
import Derived.Below
import Derived.Deep.Draws
import Derived.Deep.AppendLies
import Derived.Maps.AppendAt
import Derived.OwnWalk
import Derived.Laws.BytesArg
import Derived.Laws.MakeOwn
import Derived.Laws.OwnMore
import Derived.Deep.OwnRows
import Derived.Tactics
import Derived.Lib.ConvBytes
import Derived.Laws.Slices
import Derived.WalkKit
import Derived.KernelRfl
import Derived.RowKit3
import Derived.Deep.LoopGhost
import Derived.Deep.QuietTactic
import Derived.BigQuiet
import Derived.WideLaws
import Derived.Deep.DeepCutAuto
import Derived.Deep.CutBlock
import Derived.Deep.RegionHeld3
import Derived.Laws.Rows
import Derived.Lib.AppendStr
import Derived.ArgAppend
import Derived.Laws.IdiomCopy
import Derived.OrdersHeld
import Derived.Laws.BitsLemmas
import Derived.RowKit
import Derived.Laws.Externs
import Derived.Test.YtbfflffekdadnaaDoorXCarry
import Derived.Test.YtbfflffekdadnaaDoorWWords
import Derived.Test.YtbfflffekdadnaaDoorWLast
import Derived.Test.YtbfflffekdadnaaDoorWTab
import Derived.Test.YtbfflffekdadnaaDoorWFour
import Derived.Test.YtbfflffekdadnaaDoorWQPut
import Derived.Test.YtbfflffekdadnaaDoorWApart
import Derived.Test.YtbfflffekdadnaaDoorWArr
import Derived.Test.YtbfflffekdadnaaDoorWZeros
import Derived.Test.YtbfflffekdadnaaDoorWFoot
import Derived.Test.YtbfflffekdadnaaDoorWKept
import Derived.Test.YtbfflffekdadnaaDoorWShare
import Derived.Test.YtbfflffekdadnaaDoorWN
import Derived.Test.YtbfflffekdadnaaDoorWFootNe
import Derived.Test.YtbfflffekdadnaaDoorWAt
import Derived.Test.YtbfflffekdadnaaDoorWEqStruct
import Derived.Test.YtbfflffekdadnaaDoorWRepsOne
import Derived.Test.YtbfflffekdadnaaDoorWInv
import Derived.Test.YtbfflffekdadnaaDoorWInvWords
import Derived.Test.YtbfflffekdadnaaDoorWGuard
import Derived.Test.YtbfflffekdadnaaDoorWNEv
import Derived.Test.YtbfflffekdadnaaDoorWMore
namespace Go.Proofs.YtbfflffekdadnaaDoor.QCf
open Go.Proofs.YtbfflffekdadnaaDoor.XCarry Go.RowKit Go.Proofs.YtbfflffekdadnaaDoorW.PrintWords Go.Proofs.YtbfflffekdadnaaDoorW.PrintLast Go.Proofs.YtbfflffekdadnaaDoorW.PrintMore
attribute [local go_sem] max2_int min2_int max_two min_two max_three min_three max_four min_four   -- for this text's walks alone
set_option linter.unusedVariables false
set_option linter.unusedSimpArgs false



def errW : Option Int → Value
  | none => .nilIface
  | some c => .iface 68 (.int .i64 c)
theorem errW_none : errW none = .nilIface := rfl
theorem errW_some (c : Int) : errW (some c) = .iface 68 (.int .i64 c) := rfl

theorem info2 : (Tryd.prog.info? 2).map (fun i => (i.zero, i.size, i.bytes)) = some (some (.int .i64 0), 1, 8) := by kernel_rfl
-- the values' own types

end Go.Proofs.YtbfflffekdadnaaDoor.QCf
