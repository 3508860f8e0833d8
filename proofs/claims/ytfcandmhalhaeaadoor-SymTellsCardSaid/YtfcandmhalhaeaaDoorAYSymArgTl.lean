/- Lean functions, contracts and lemmas that this claim needs. No condition. -/
import Derived.Test.YtfcandmhalhaeaaDoorAYSymTl
import Derived.Test.YtfcandmhalhaeaaDoorAYOpen
import Derived.Deep.Slices
import Derived.ChangeArms
namespace Go.Proofs.YtfcandmhalhaeaaDoor.YSym
open Go.ChangeShapes Go.WideShapes Go.ChangeAt Go.RowKit Go.Deep
set_option linter.unusedVariables false
set_option linter.unusedSimpArgs false
section
variable {H : Type} {enc : TypeId × Value → H} {w : World} {fuel : Nat} {cs : List Value} {x : DataW H × List MemPlace}
set_option maxRecDepth 100000 in
theorem open_row (h : DataW.trod enc Tryd.prog w 0 (fun _ => true) true fuel 22 cs = some x) : ∃ (A : Option Addr) (c : Nat) (l : List Int), cs = [.slice A l.length c] ∧ l.length ≤ c ∧ c ≤ maxLen ∧ Rd w A l := by
  rcases open_ints Tryd.underlying22 Tryd.underlying2 (by kernel_rfl) h with ⟨h0, _⟩ | ⟨a, len, cap, zs, h0, _, hl, hm, hlen, _, hcell, hwf⟩
  · exact ⟨none, 0, [], h0, Nat.le_refl _, by unfold maxLen; omega, Rd.nil _ _⟩
  · have hlz : len ≤ zs.length := by simp at hlen; omega
    have e : (zs.take len).length = len := by simp; omega
    refine ⟨some a, cap, zs.take len, by rw [e]; exact h0, by rw [e]; exact hl, hm, rd_of fun hp => ⟨a, rfl, fun i hi => ?_⟩⟩
    rw [e] at hi
    rw [hcell i (by omega)]
    simp [List.getD_eq_getElem?_getD, List.getElem?_take, hi]
set_option maxRecDepth 100000 in
theorem open_sym (h : DataW.trod enc Tryd.prog w 0 (fun _ => true) true fuel 24 cs = some x) : ∃ (n : Int) (A : Option Addr) (c : Nat) (l : List Int), cs = [.int .i64 n, .slice A l.length c] ∧ l.length ≤ c ∧ c ≤ maxLen ∧ Rd w A l := by
  obtain ⟨xs, n, _, _, hl, hx, hf⟩ := DataW.trod_struct Tryd.underlying24 h
  have hl : cs.length = 2 := hl.trans (by kernel_rfl)
  match cs, hl with
  | [c0, c1], _ =>
    match xs, hx with
    | [y0, y1], _ =>
      have f0 : DataW.trod enc Tryd.prog w 0 (fun _ => true) true n 3 (([c0, c1].drop 0).take (Tryd.prog.cellsOf 3)) = _ := hf 0 _ rfl
      have f1 : DataW.trod enc Tryd.prog w 0 (fun _ => true) true n 22 (([c0, c1].drop 1).take (Tryd.prog.cellsOf 22)) = _ := hf 1 _ rfl
      rw [show Tryd.prog.cellsOf 3 = 1 by kernel_rfl] at f0
      rw [show Tryd.prog.cellsOf 22 = 1 by kernel_rfl] at f1
      obtain ⟨a, e0, _, _⟩ := DataW.trod_int Tryd.underlying3 f0
      obtain ⟨A, c, l, e1, h1, h2, h3⟩ := open_row f1
      simp at e0 e1
      exact ⟨a, A, c, l, by rw [e0, e1], h1, h2, h3⟩
end
set_option maxRecDepth 100000 in
theorem sym_arg {H : Type} {enc : TypeId × Value → H} {w : World} {r : Reach} {b0 : Nat} {v : Value} {d : DataW H} {ps : List MemPlace}
    (hv : Value.okWide Tryd.prog w r b0 24 v) (h : DataW.Trod enc Tryd.prog w 0 (fun _ => true) true 24 v d ps) :
    ∃ (n : Int) (A : Option Addr) (c : Nat) (l : List Int), v = .agg #[.int .i64 n, .slice A l.length c] ∧ l.length ≤ c ∧ c ≤ maxLen ∧ Rd w A l := by
  obtain ⟨cs, rfl, hsz, _⟩ := YOpen.agg_cells [3, 22] (by kernel_rfl) (by kernel_rfl) (by kernel_rfl) hv
  obtain ⟨fuel, hf⟩ := h
  have hf : DataW.trod enc Tryd.prog w 0 (fun _ => true) true fuel 24 cs.toList = some (d, ps) := hf
  obtain ⟨n, A, c, l, e, h1, h2, h3⟩ := open_sym hf
  refine ⟨n, A, c, l, ?_, h1, h2, h3⟩
  congr 1
  apply Array.ext'
  rw [e]
theorem wfu8 {a : Int} (h : (Lit.int .u8 a).wf = true) : 0 ≤ a ∧ a ≤ 255 := by
  simp [Lit.wf, IntKind.min, IntKind.max, IntKind.bits, IntKind.signed] at h; omega
theorem wfu16 {a : Int} (h : (Lit.int .u16 a).wf = true) : 0 ≤ a ∧ a ≤ 65535 := by
  simp [Lit.wf, IntKind.min, IntKind.max, IntKind.bits, IntKind.signed] at h; omega
theorem wfi16 {a : Int} (h : (Lit.int .i16 a).wf = true) : -32768 ≤ a ∧ a ≤ 32767 := by
  simp [Lit.wf, IntKind.min, IntKind.max, IntKind.bits, IntKind.signed] at h; omega
theorem SymTells_law (n : Int) (A : Option Addr) (c : Nat) (l : List Int) (a1 a2 : Int) (B : Option Addr) (d : Nat) (hs : List Int) (i j v : Int) (w : World) (hg : YErr.Laid w) (lc : l.length ≤ c) (cm : c ≤ maxLen) (RA : Rd w A l) (w1 : (Lit.int .u8 a1).wf = true) (w2 : (Lit.int .u16 a2).wf = true) (y : hs.length ≤ d) (z : d ≤ maxLen) (wh : ∀ x ∈ hs, (Lit.int .i16 x).wf = true) (RH : RdK .i16 w B hs) (w4 : (Lit.int .i64 i).wf = true) (w5 : (Lit.int .i64 j).wf = true) (w6 : (Lit.int .i64 v).wf = true) :
    Calls Tryd.prog 3 #[.agg #[.int .i64 n, .slice A l.length c], .int .u8 a1, .int .u16 a2, .slice B hs.length d, .int .i64 i, .int .i64 j, .int .i64 v] w fun e w' => e = .returned (.bool true) ∧ Below w.heap.size w w' :=
  SymTells_c i j v hg lc RA (wfu8 w1).1 (wfu8 w1).2 (wfu16 w2).1 (wfu16 w2).2 (fun x hx => wfi16 (wh x hx)) RH
end Go.Proofs.YtfcandmhalhaeaaDoor.YSym
