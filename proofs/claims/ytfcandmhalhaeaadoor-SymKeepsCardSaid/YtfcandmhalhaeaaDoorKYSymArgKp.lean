/- Lean functions, contracts and lemmas that this claim needs. No condition. -/
import Derived.Test.YtfcandmhalhaeaaDoorKYSymKp
import Derived.Test.YtfcandmhalhaeaaDoorKYOpen
import Derived.Deep.Slices
import Derived.ChangeArms
namespace Go.Proofs.YtfcandmhalhaeaaDoor.YSym
open Go.ChangeShapes Go.WideShapes Go.ChangeAt Go.RowKit Go.Deep
set_option linter.unusedVariables false
set_option linter.unusedSimpArgs false
section
variable {H : Type} {enc : TypeId × Value → H} {w : World} {fuel : Nat} {cs : List Value} {x : DataW H × List MemPlace}
end
theorem wfu8 {a : Int} (h : (Lit.int .u8 a).wf = true) : 0 ≤ a ∧ a ≤ 255 := by
  simp [Lit.wf, IntKind.min, IntKind.max, IntKind.bits, IntKind.signed] at h; omega
theorem wfu16 {a : Int} (h : (Lit.int .u16 a).wf = true) : 0 ≤ a ∧ a ≤ 65535 := by
  simp [Lit.wf, IntKind.min, IntKind.max, IntKind.bits, IntKind.signed] at h; omega
theorem wfi16 {a : Int} (h : (Lit.int .i16 a).wf = true) : -32768 ≤ a ∧ a ≤ 32767 := by
  simp [Lit.wf, IntKind.min, IntKind.max, IntKind.bits, IntKind.signed] at h; omega
theorem wfi8 {a : Int} (h : (Lit.int .i8 a).wf = true) : -128 ≤ a ∧ a ≤ 127 := by
  simp [Lit.wf, IntKind.min, IntKind.max, IntKind.bits, IntKind.signed] at h; omega
theorem wfi64 {a : Int} (h : (Lit.int .i64 a).wf = true) : W64 a := by
  simp [Lit.wf, IntKind.min, IntKind.max, IntKind.bits, IntKind.signed] at h; unfold W64; omega
theorem SymKeeps_law (a1 a2 : Int) (B : Option Addr) (d : Nat) (hs : List Int) (B2 : Option Addr) (d2 : Nat) (h : List Int) (q i j : Int) (w : World) (hg : YErr.Laid w) (w1 : (Lit.int .u8 a1).wf = true) (w2 : (Lit.int .u16 a2).wf = true) (y : hs.length ≤ d) (z : d ≤ maxLen) (wh : ∀ x ∈ hs, (Lit.int .i16 x).wf = true) (RH : RdK .i16 w B hs) (y2 : h.length ≤ d2) (z2 : d2 ≤ maxLen) (wh2 : ∀ x ∈ h, (Lit.int .i64 x).wf = true) (R2 : RdK .i64 w B2 h) (w5 : (Lit.int .i8 q).wf = true) (w6 : (Lit.int .u8 i).wf = true) (w7 : (Lit.int .u8 j).wf = true) :
    Calls Tryd.prog 5 #[.int .u8 a1, .int .u16 a2, .slice B hs.length d, .slice B2 h.length d2, .int .i8 q, .int .u8 i, .int .u8 j] w fun e w' => e = .returned (.bool true) ∧ Below w.heap.size w w' :=
  SymKeeps_c hg (wfu8 w1).1 (wfu8 w1).2 (wfu16 w2).1 (wfu16 w2).2 (fun x hx => wfi16 (wh x hx)) RH y2 (fun x hx => wfi64 (wh2 x hx)) R2 (wfi8 w5).1 (wfi8 w5).2 (wfu8 w6).1 (wfu8 w6).2 (wfu8 w7).1 (wfu8 w7).2
end Go.Proofs.YtfcandmhalhaeaaDoor.YSym
