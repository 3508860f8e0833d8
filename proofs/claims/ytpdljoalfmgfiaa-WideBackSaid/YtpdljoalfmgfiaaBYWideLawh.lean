/- Lean functions, contracts and lemmas that this claim needs. No condition. -/
import Derived.Test.YtpdljoalfmgfiaaBYWideMade
import Derived.Test.YtpdljoalfmgfiaaBYWideKnown
import Derived.BigFrame
namespace Go.Proofs.Ytpdljoalfmgfiaa.YWide
open Go.RowKit Go.Proofs.Ytpdljoalfmgfiaa.YInv Go.Proofs.Ytpdljoalfmgfiaa.YErr Go.Proofs.Ytpdljoalfmgfiaa.YRef Go.Proofs.Ytpdljoalfmgfiaa.YNum Go.Proofs.Ytpdljoalfmgfiaa.YBits Go.Proofs.Ytpdljoalfmgfiaa.XCarry Go.Proofs.Ytpdljoalfmgfiaa.QWd Go.Proofs.YtpdljoalfmgfiaaW.PrintWords Go.Proofs.YtpdljoalfmgfiaaW.PrintLast
set_option linter.unusedVariables false
set_option linter.unusedSimpArgs false
theorem ldWg {ops : Array Oper} {rest : List Oper} {o : Oper} {a : Act} {w : World} {b : Nat} {l : List Int} {Q : Exit → Act → World → Prop} (k : Blk w b (U l) 27) (hl : l.length = 16) (x : Operand) (ho : o.op = .load 27 x) (hx : a.eval x = .pointer (some ⟨b, 0, none⟩)) (hw : Region.wanted o (yielded ops a.tmps) = true)
    (h : wpList Try.prog ops Q rest (a.put o.dst (.agg (U l))) w) : wpList Try.prog ops Q (o :: rest) a w :=
  BigFrame.wpList_want hw fun K hK => wp_load_row 27 x ho b hx 27 (U l) (0, 0) _ k Try.underlying27 rfl (ofLen hl) (hK _ _ h)
/-- A number of at most so many bits. -/
def Bd (k : Nat) (x : Int) : Prop := x.natAbs < 2 ^ k
theorem Bd.of {k : Nat} {x : Int} (h0 : -(2 ^ k) < x) (h1 : x < 2 ^ k) : Bd k x := by
  have e : ((2 ^ k : Nat) : Int) = (2 : Int) ^ k := by simp
  unfold Bd
  omega
theorem Bd.mono {k l : Nat} {x : Int} (h : Bd k x) (hl : k ≤ l) : Bd l x := Nat.lt_of_lt_of_le h (Nat.pow_le_pow_right (by decide) hl)
theorem Bd.add {k : Nat} {x y : Int} (h : Bd k x) (g : Bd k y) : Bd (k + 1) (x + y) := by
  unfold Bd at *
  rw [Nat.pow_succ]
  omega
theorem inW_of {x : Int} {P : Nat} (hP : (18446744073709551616 : Int) ^ 16 = 4 * (P : Int)) (h : x.natAbs < P) : InW x := by
  unfold InW
  rw [hP]
  omega
theorem Bd.inW {k : Nat} {x : Int} (h : Bd k x) (hk : k ≤ 1022) : InW x := inW_of (P := 2 ^ 1022) (by decide +kernel) (h.mono hk)
theorem cl_in {z : Int} (h : InW z) : cl z = z := by unfold cl; rw [if_pos h]
section
variable {W w : World} {x y : List Int}
end
section
variable (w : World)
theorem add_w {x y z : Int} (hx : InW x) (hy : InW y) (hz : InW z) (e : x + y = z) : Calls Try.prog 13 #[.agg (U (lim x)), .agg (U (lim y))] w fun e w' => e = .returned (.tuple #[.agg (U (lim z)), .bool true]) ∧ Below w.heap.size w w' := by
  have h := Add_c hx hy w
  rwa [e, cl_in hz, decide_eq_true hz] at h
theorem mul_w {x y z : Int} (hx : InW x) (hy : InW y) (hz : InW z) (e : x * y = z) : Calls Try.prog 15 #[.agg (U (lim x)), .agg (U (lim y))] w fun e w' => e = .returned (.tuple #[.agg (U (lim z)), .bool true]) ∧ Below w.heap.size w w' := by
  have h := Mul_w hx hy w
  rwa [e, cl_in hz, decide_eq_true hz] at h
end
theorem wf_u16' {x : Int} (h : (Lit.int .u16 x).wf = true) : 0 ≤ x ∧ x ≤ 65535 := by
  simp [Lit.wf, IntKind.min, IntKind.max, IntKind.bits, IntKind.signed] at h; omega
theorem dig_wf {l : List Int} (h : ∀ n ∈ l, (Lit.int .u64 n).wf = true) : Dig l := fun x hx => by
  have := h x hx
  simp [Lit.wf, IntKind.min, IntKind.max, IntKind.bits, IntKind.signed] at this
  omega
end Go.Proofs.Ytpdljoalfmgfiaa.YWide
