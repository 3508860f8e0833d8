/- An argument that is a script of acts: its cells. No condition. -/
import Derived.Test.YtekcemncmgingaaDoorYTablePlays
import Derived.Test.YtekcemncmgingaaDoorYOpen
import Derived.Deep.Slices
import Derived.ChangeArms
namespace Go.Proofs.YtekcemncmgingaaDoor.YErr
open Go.ChangeShapes Go.WideShapes Go.ChangeAt Go.RowKit Go.Deep
set_option linter.unusedVariables false
set_option linter.unusedSimpArgs false
def acs (x : Ac) : List Value := [.int .u8 x.what, .int .u8 x.id, .int .i64 x.slot, .int .i64 x.x, .int .i64 x.y, .int .i64 x.r, .bool x.on]
theorem wf64 {x : Int} (h : (Lit.int .i64 x).wf = true) : -9223372036854775808 ≤ x ∧ x ≤ 9223372036854775807 := by
  simp [Lit.wf, IntKind.min, IntKind.max, IntKind.bits, IntKind.signed] at h; omega
section
variable {H : Type} {enc : TypeId × Value → H} {w : World} {base : Nat} {spare : Nat → Bool} {held : Bool} {fuel : Nat} {cs : List Value} {x : DataW H × List MemPlace}
set_option maxRecDepth 100000 in
theorem open_pt (h : DataW.trod enc Tryd.prog w base spare held fuel 46 cs = some x) : ∃ a b : Int, cs = [.int .i64 a, .int .i64 b] := by
  obtain ⟨xs, n, _, _, hl, hx, hf⟩ := DataW.trod_struct Tryd.underlying46 h
  have hl : cs.length = 2 := hl.trans (by kernel_rfl)
  match cs, hl with
  | [c0, c1], _ =>
    match xs, hx with
    | [y0, y1], _ =>
      have f0 : DataW.trod enc Tryd.prog w base spare held n 2 (([c0, c1].drop 0).take (Tryd.prog.cellsOf 2)) = _ := hf 0 _ rfl
      have f1 : DataW.trod enc Tryd.prog w base spare held n 2 (([c0, c1].drop 1).take (Tryd.prog.cellsOf 2)) = _ := hf 1 _ rfl
      rw [show Tryd.prog.cellsOf 2 = 1 by kernel_rfl] at f0 f1
      obtain ⟨a, e0, _, _⟩ := DataW.trod_int Tryd.underlying2 f0
      obtain ⟨b, e1, _, _⟩ := DataW.trod_int Tryd.underlying2 f1
      simp at e0 e1
      exact ⟨a, b, by rw [e0, e1]⟩
set_option maxRecDepth 100000 in
theorem open_act (h : DataW.trod enc Tryd.prog w base spare held fuel 58 cs = some x) : ∃ a : Ac, cs = acs a ∧ AcWf a := by
  obtain ⟨xs, n, _, _, hl, hx, hf⟩ := DataW.trod_struct Tryd.underlying58 h
  have hl : cs.length = 7 := hl.trans (by kernel_rfl)
  match cs, hl with
  | [c0, c1, c2, c3, c4, c5, c6], _ =>
    match xs, hx with
    | [y0, y1, y2, y3, y4, y5], _ =>
      have f0 : DataW.trod enc Tryd.prog w base spare held n 5 (([c0, c1, c2, c3, c4, c5, c6].drop 0).take (Tryd.prog.cellsOf 5)) = _ := hf 0 _ rfl
      have f1 : DataW.trod enc Tryd.prog w base spare held n 5 (([c0, c1, c2, c3, c4, c5, c6].drop 1).take (Tryd.prog.cellsOf 5)) = _ := hf 1 _ rfl
      have f2 : DataW.trod enc Tryd.prog w base spare held n 3 (([c0, c1, c2, c3, c4, c5, c6].drop 2).take (Tryd.prog.cellsOf 3)) = _ := hf 2 _ rfl
      have f3 : DataW.trod enc Tryd.prog w base spare held n 46 (([c0, c1, c2, c3, c4, c5, c6].drop 3).take (Tryd.prog.cellsOf 46)) = _ := hf 3 _ rfl
      have f4 : DataW.trod enc Tryd.prog w base spare held n 2 (([c0, c1, c2, c3, c4, c5, c6].drop 5).take (Tryd.prog.cellsOf 2)) = _ := hf 4 _ rfl
      have f5 : DataW.trod enc Tryd.prog w base spare held n 4 (([c0, c1, c2, c3, c4, c5, c6].drop 6).take (Tryd.prog.cellsOf 4)) = _ := hf 5 _ rfl
      rw [show Tryd.prog.cellsOf 5 = 1 by kernel_rfl] at f0 f1
      rw [show Tryd.prog.cellsOf 3 = 1 by kernel_rfl] at f2
      rw [show Tryd.prog.cellsOf 46 = 2 by kernel_rfl] at f3
      rw [show Tryd.prog.cellsOf 2 = 1 by kernel_rfl] at f4
      rw [show Tryd.prog.cellsOf 4 = 1 by kernel_rfl] at f5
      obtain ⟨a0, e0, _, w0⟩ := DataW.trod_int Tryd.underlying5 f0
      obtain ⟨a1, e1, _, w1⟩ := DataW.trod_int Tryd.underlying5 f1
      obtain ⟨a2, e2, _, w2⟩ := DataW.trod_int Tryd.underlying3 f2
      obtain ⟨a3, a4, e3⟩ := open_pt f3
      obtain ⟨a5, e5, _, w5⟩ := DataW.trod_int Tryd.underlying2 f4
      obtain ⟨a6, e6, _⟩ := DataW.trod_bool Tryd.underlying4 f5
      simp at e0 e1 e2 e3 e5 e6
      exact ⟨⟨a0, a1, a2, a3, a4, a5, a6⟩, by simp [acs, e0, e1, e2, e3, e5, e6], wf8 w0, wf8 w1, wf64 w2⟩
end
set_option maxRecDepth 100000 in
theorem acts_arg {H : Type} {enc : TypeId × Value → H} {w : World} {r : Reach} {b0 : Nat} {v : Value} {d : DataW H} {ps : List MemPlace}
    (hv : Value.okWide Tryd.prog w r b0 51 v) (h : DataW.Trod enc Tryd.prog w 0 (fun _ => true) true 51 v d ps) :
    ∃ (A : Option Addr) (c : Nat) (l : List Ac), v = .slice A l.length c ∧ l.length ≤ c ∧ c ≤ maxLen ∧ (∀ x ∈ l, AcWf x) ∧ LiesA w A l := by
  obtain ⟨fuel, hf⟩ := h
  obtain ⟨A0, len0, cap0, rfl⟩ := okWide_slice Tryd.underlying51 hv
  have hf : DataW.trod enc Tryd.prog w 0 (fun _ => true) true fuel 51 [Value.slice A0 len0 cap0] = some (d, ps) := hf
  rcases open_slice Tryd.underlying51 hf with ⟨h0, _⟩ | ⟨a, len, cap, m, n, D, Pl, h0, _, hl, hm, hmm, _, hi⟩
  · obtain ⟨rfl, rfl, rfl⟩ : A0 = none ∧ len0 = 0 ∧ cap0 = 0 := by simpa using h0
    exact ⟨none, 0, [], rfl, Nat.le_refl _, by unfold maxLen; omega, fun n hn => (by cases hn), fun h => absurd h (by simp)⟩
  · obtain ⟨rfl, rfl, rfl⟩ : A0 = some a ∧ len0 = len ∧ cap0 = cap := by simpa using h0
    simp only [if_true] at hmm
    subst hmm
    have key : ∀ i, i < m → ∃ x : Ac, AcWf x ∧ ∀ j, j < 7 → w.cell? ((a.add (i * 7)).add j) = (acs x)[j]? := by
      intro i him
      obtain ⟨cs', hc, ht⟩ := hi i him
      rw [show Tryd.prog.cellsOf 58 = 7 by kernel_rfl] at hc
      obtain ⟨x, rfl, hw⟩ := open_act ht
      obtain ⟨_, _, hat⟩ := World.cells?_some hc
      exact ⟨x, hw, hat⟩
    obtain ⟨F, hF⟩ := choose_lt key
    have e : ((List.range len0).map F).length = len0 := by simp
    refine ⟨some a, m, (List.range len0).map F, by rw [e], by rw [e]; exact hl, hm, fun x hx => ?_, fun hpos => ?_⟩
    · obtain ⟨i, hi', rfl⟩ := List.mem_map.1 hx
      have := List.mem_range.1 hi'
      exact (hF i (by omega)).1
    · rw [e] at hpos
      have hs' : a.spot = none := by
        have h7 := (hF 0 (by omega)).2 0 (by decide)
        rw [show a.add (0 * 7) = a by unfold Addr.add; simp, show a.add 0 = a by unfold Addr.add; simp] at h7
        exact YErr.cell_spot' h7
      obtain ⟨ab, ao, asp⟩ := a
      obtain rfl : asp = none := hs'
      refine ⟨ab, ao, rfl, fun i hi' => ?_⟩
      rw [e] at hi'
      have hh := (hF i (by omega)).2
      rw [addr_add] at hh
      simp only [addr_add] at hh
      have ei : ((List.range len0).map F)[i]'(by rw [e]; exact hi') = F i := by simp
      rw [ei]
      exact ⟨hh 0 (by decide), hh 1 (by decide), hh 2 (by decide), hh 3 (by decide), hh 4 (by decide), hh 5 (by decide), hh 6 (by decide)⟩
end Go.Proofs.YtekcemncmgingaaDoor.YErr
