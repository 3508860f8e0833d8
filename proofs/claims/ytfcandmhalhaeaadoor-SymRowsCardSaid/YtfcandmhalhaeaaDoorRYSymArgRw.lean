/- Lean functions, contracts and lemmas that this claim needs. No condition. -/
import Derived.Test.YtfcandmhalhaeaaDoorRYSymRw
import Derived.Test.YtfcandmhalhaeaaDoorRYOpen
import Derived.Deep.Slices
import Derived.ChangeArms
namespace Go.Proofs.YtfcandmhalhaeaaDoor.YSym
open Go.ChangeShapes Go.WideShapes Go.ChangeAt Go.RowKit Go.Deep
set_option linter.unusedVariables false
set_option linter.unusedSimpArgs false
section
variable {H : Type} {enc : TypeId × Value → H} {w : World} {fuel : Nat} {cs : List Value} {x : DataW H × List MemPlace}
end
theorem wfu8 {a : Int} (h : (Lit.int .u8 a).wf = true) : 0 ≤ a ∧ a ≤ 255 := by
  simp [Lit.wf, IntKind.min, IntKind.max, IntKind.bits, IntKind.signed] at h; omega
theorem wfu16 {a : Int} (h : (Lit.int .u16 a).wf = true) : 0 ≤ a ∧ a ≤ 65535 := by
  simp [Lit.wf, IntKind.min, IntKind.max, IntKind.bits, IntKind.signed] at h; omega
theorem wfi16 {a : Int} (h : (Lit.int .i16 a).wf = true) : -32768 ≤ a ∧ a ≤ 32767 := by
  simp [Lit.wf, IntKind.min, IntKind.max, IntKind.bits, IntKind.signed] at h; omega
theorem SymRows_law (a1 a2 : Int) (B : Option Addr) (d : Nat) (hs : List Int) (k : Int) (w : World) (hg : YErr.Laid w) (w1 : (Lit.int .u8 a1).wf = true) (w2 : (Lit.int .u16 a2).wf = true) (y : hs.length ≤ d) (z : d ≤ maxLen) (wh : ∀ x ∈ hs, (Lit.int .i16 x).wf = true) (RH : RdK .i16 w B hs) (w4 : (Lit.int .u8 k).wf = true) :
    Calls Tryd.prog 4 #[.int .u8 a1, .int .u16 a2, .slice B hs.length d, .int .u8 k] w fun e w' => e = .returned (.bool true) ∧ Below w.heap.size w w' :=
  SymRows_c hg (wfu8 w1).1 (wfu8 w1).2 (wfu16 w2).1 (wfu16 w2).2 (fun x hx => wfi16 (wh x hx)) RH (wfu8 w4).1 (wfu8 w4).2
end Go.Proofs.YtfcandmhalhaeaaDoor.YSym
