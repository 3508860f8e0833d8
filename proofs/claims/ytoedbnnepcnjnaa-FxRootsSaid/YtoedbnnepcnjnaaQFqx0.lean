/- Lean functions for Go functions that a statement reaches, and a proof that the calls come to them. Written by a program of this session. -/
import Derived.Test.YtoedbnnepcnjnaaProg
import Derived.Below
import Derived.Deep.Draws
import Derived.Deep.AppendLies
import Derived.Maps.AppendAt
import Derived.OwnWalk
import Derived.Laws.BytesArg
import Derived.Laws.MakeOwn
import Derived.Laws.OwnMore
import Derived.Deep.OwnRows
import Derived.Tactics
import Derived.Lib.ConvBytes
import Derived.Laws.Slices
import Derived.WalkKit
import Derived.KernelRfl
import Derived.RowKit3
import Derived.Deep.LoopGhost
import Derived.Deep.QuietTactic
import Derived.BigQuiet
import Derived.WideLaws
import Derived.Deep.DeepCutAuto
import Derived.Deep.CutBlock
import Derived.Deep.RegionHeld3
import Derived.Laws.Rows
import Derived.Lib.AppendStr
import Derived.ArgAppend
import Derived.Laws.IdiomCopy
import Derived.OrdersHeld
import Derived.Laws.BitsLemmas
import Derived.RowKit
import Derived.Laws.Externs
import Derived.Test.YtoedbnnepcnjnaaXCarry
import Derived.Test.YtoedbnnepcnjnaaWWords
import Derived.Test.YtoedbnnepcnjnaaWLast
import Derived.Test.YtoedbnnepcnjnaaWTab
import Derived.Test.YtoedbnnepcnjnaaWFour
import Derived.Test.YtoedbnnepcnjnaaWQPut
import Derived.Test.YtoedbnnepcnjnaaWApart
import Derived.Test.YtoedbnnepcnjnaaWArr
import Derived.Test.YtoedbnnepcnjnaaWZeros
import Derived.Test.YtoedbnnepcnjnaaWFoot
import Derived.Test.YtoedbnnepcnjnaaWKept
import Derived.Test.YtoedbnnepcnjnaaWShare
import Derived.Test.YtoedbnnepcnjnaaWN
import Derived.Test.YtoedbnnepcnjnaaWFootNe
import Derived.Test.YtoedbnnepcnjnaaWAt
import Derived.Test.YtoedbnnepcnjnaaWEqStruct
import Derived.Test.YtoedbnnepcnjnaaWRepsOne
import Derived.Test.YtoedbnnepcnjnaaWInv
import Derived.Test.YtoedbnnepcnjnaaWInvWords
import Derived.Test.YtoedbnnepcnjnaaWGuard
import Derived.Test.YtoedbnnepcnjnaaWNEv
import Derived.Test.YtoedbnnepcnjnaaWMore
namespace Go.Proofs.Ytoedbnnepcnjnaa.QFq
open Go.Proofs.Ytoedbnnepcnjnaa.XCarry Go.RowKit Go.Proofs.YtoedbnnepcnjnaaW.PrintWords Go.Proofs.YtoedbnnepcnjnaaW.PrintLast Go.Proofs.YtoedbnnepcnjnaaW.PrintMore
attribute [local go_sem] max2_int min2_int max_two min_two max_three min_three max_four min_four   -- for this text's walks alone
set_option linter.unusedVariables false
set_option linter.unusedSimpArgs false



def errW : Option Int → Value
  | none => .nilIface
  | some c => .iface 0 (.int .i64 c)
theorem errW_none : errW none = .nilIface := rfl
theorem errW_some (c : Int) : errW (some c) = .iface 0 (.int .i64 c) := rfl

theorem info42 : (Try.prog.info? 42).map (fun i => (i.zero, i.size, i.bytes)) = some (some (.int .u64 0), 1, 8) := by kernel_rfl
-- the values' own types

end Go.Proofs.Ytoedbnnepcnjnaa.QFq
