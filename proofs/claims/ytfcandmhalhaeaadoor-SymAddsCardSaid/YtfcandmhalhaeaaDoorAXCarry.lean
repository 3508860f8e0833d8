/- Lean functions, contracts and lemmas that this claim needs. No condition. -/
import Derived.Test.YtfcandmhalhaeaaDoorProg
import Derived.Laws.Externs
import Derived.Test.YtfcandmhalhaeaaDoorAWWords
import Derived.Test.YtfcandmhalhaeaaDoorAWLast
import Derived.Test.YtfcandmhalhaeaaDoorAWTab
import Derived.Test.YtfcandmhalhaeaaDoorAWApart
import Derived.Test.YtfcandmhalhaeaaDoorAWFoot
import Derived.Test.YtfcandmhalhaeaaDoorAWKept
import Derived.Test.YtfcandmhalhaeaaDoorAWShare
import Derived.Test.YtfcandmhalhaeaaDoorAWN
import Derived.Test.YtfcandmhalhaeaaDoorAWAt
import Derived.Laws.StructEq
import Derived.Test.YtfcandmhalhaeaaDoorAWRepsOne
import Derived.Test.YtfcandmhalhaeaaDoorAWInv
import Derived.Test.YtfcandmhalhaeaaDoorAWGuard
import Derived.Test.YtfcandmhalhaeaaDoorAWMore
import Derived.Test.YtfcandmhalhaeaaDoorAYSCopy
import Derived.RowKit
namespace Go.Proofs.YtfcandmhalhaeaaDoor.XCarry
open Go.RowKit Go.Proofs.YtfcandmhalhaeaaDoorW.PrintWords Go.Proofs.YtfcandmhalhaeaaDoorW.PrintLast Go.Proofs.YtfcandmhalhaeaaDoorW.PrintMore
set_option linter.unusedVariables false
/-- A call that the model runs in place. -/
def CallsX (P : Program) (f : FuncId) (args : Array Value) (w : World) (R : Ending → World → Prop) : Prop :=
  ∃ v w', (callFunc f args).run P w = .ok (.value v) w' ∧ R (.returned v) w'
theorem CallsX.mono {P : Program} {f : FuncId} {args : Array Value} {w : World} {R R' : Ending → World → Prop} (h : CallsX P f args w R) (hr : ∀ e w', R e w' → R' e w') : CallsX P f args w R' :=
  let ⟨v, w', hv, hR⟩ := h; ⟨v, w', hv, hr _ _ hR⟩
theorem goesX_ {P : Program} {ops : Array Oper} {Q : Exit → Act → World → Prop} {rest : List Oper} {oi : Oper} {a : Act} {w : World} (N : Option Tmp) (hd : oi.dst = N) (hg : oi.guard = none) {f : FuncId} {as_ : Array Operand} {ts : Array TypeId} (args : Array Value)
    (hop : oi.op = .call { callee := .value (.func f), args := as_, argTypes := ts }) (hargs : as_.map a.eval = args)
    (h : CallsX P f args w fun e w' => ∃ v, e = .returned v ∧ wpList P ops Q rest (a.put N v) w') : wpList P ops Q (oi :: rest) a w := by
  obtain ⟨v0, w', he, v, hv, hk⟩ := h
  injection hv with hv
  subst hv
  refine wpList_plain hg fun K hK => ?_
  have hrun : (execOp a.eval oi).run P w = .ok (.value v0) w' := by
    unfold execOp
    simp [hop, resolve, Deferred.ofValue, invoke, Act.eval, hargs, he]
  unfold Oper.wp
  rw [hrun, Oper.upon_value]
  subst hd
  exact hK _ _ hk
theorem nb1_ (a b : Bool) : ((!a) != b) = (a == b) := by cases a <;> cases b <;> rfl
theorem nb2_ (a b : Bool) : (!(a != b)) = (a == b) := by cases a <;> cases b <;> rfl
/-- The model's entry for math/bits.Sub64. -/
def subEntry_ : Array Value → Sem Value := fun args => do
  let (x, y, b) ← Extern.MathBitsCarry.three "Sub64" args
  pure (Extern.MathBitsCarry.pair ((x + Extern.MathBitsCarry.m64 - y - b) % Extern.MathBitsCarry.m64) (if x < y + b then 1 else 0))
theorem run_sub_ {P : Program} (x y c : Int) (hx : 0 ≤ x) (hy : 0 ≤ y) (hy1 : y ≤ 18446744073709551615) (hc0 : 0 ≤ c) (hc : c ≤ 1) (w : World) :
    (subEntry_ #[.int .u64 x, .int .u64 y, .int .u64 c]).run P w = .ok (.tuple #[.int .u64 ((x - y - c) % 18446744073709551616), .int .u64 (if x < y + c then 1 else 0)]) w := by
  have key : ∀ k : Nat, k ≤ 1 → (subEntry_ #[.int .u64 x, .int .u64 y, .int .u64 (k : Int)]).run P w =
      .ok (Extern.MathBitsCarry.pair ((x.toNat + Extern.MathBitsCarry.m64 - y.toNat - k) % Extern.MathBitsCarry.m64) (if x.toNat < y.toNat + k then 1 else 0)) w := by
    intro k hk
    have : k = 0 ∨ k = 1 := by omega
    rcases this with rfl | rfl <;> rfl
  obtain ⟨k, rfl⟩ := Int.eq_ofNat_of_zero_le hc0
  rw [key k (by omega)]
  obtain ⟨X, rfl⟩ := Int.eq_ofNat_of_zero_le hx
  obtain ⟨Y, rfl⟩ := Int.eq_ofNat_of_zero_le hy
  have e1 : (Int.ofNat ((X + 2 ^ 64 - Y - k) % 2 ^ 64) : Int) = ((X : Int) - (Y : Int) - (k : Int)) % 18446744073709551616 := by
    show (((X + 2 ^ 64 - Y - k) % 2 ^ 64 : Nat) : Int) = _
    omega
  have e2 : (Int.ofNat (if X < Y + k then 1 else 0) : Int) = (if (X : Int) < (Y : Int) + (k : Int) then 1 else 0) := by
    by_cases h : X < Y + k
    · rw [if_pos h, if_pos (by omega)]; rfl
    · rw [if_neg h, if_neg (by omega)]; rfl
  simp only [Extern.MathBitsCarry.pair, Extern.MathBitsCarry.m64, Int.toNat_natCast]
  rw [e1, e2]
end Go.Proofs.YtfcandmhalhaeaaDoor.XCarry
