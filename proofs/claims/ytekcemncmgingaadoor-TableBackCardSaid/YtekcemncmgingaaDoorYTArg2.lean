/- An argument that is a list of beacons: its cells, and its ranges'. No condition. -/
import Derived.Test.YtekcemncmgingaaDoorYTArg
import Derived.Test.YtekcemncmgingaaDoorYTableBack
namespace Go.Proofs.YtekcemncmgingaaDoor.YErr
open Go.ChangeShapes Go.WideShapes Go.ChangeAt Go.RowKit Go.Deep
set_option linter.unusedVariables false
set_option linter.unusedSimpArgs false
instance : Inhabited Ms := ⟨Ms.zero⟩
section
variable {H : Type} {enc : TypeId × Value → H} {w : World} {held : Bool} {fuel : Nat} {cs : List Value} {x : DataW H × List MemPlace}
set_option maxRecDepth 100000 in
theorem open_seen {base : Nat} {spare : Nat → Bool} (h : DataW.trod enc Tryd.prog w base spare held fuel 49 cs = some x) : ∃ a b c : Int, cs = [.int .i64 a, .int .i64 b, .int .i64 c] := by
  obtain ⟨xs, n, _, _, hl, hx, hf⟩ := DataW.trod_struct Tryd.underlying49 h
  have hl : cs.length = 3 := hl.trans (by kernel_rfl)
  match cs, hl with
  | [c0, c1, c2], _ =>
    match xs, hx with
    | [y0, y1], _ =>
      have f0 : DataW.trod enc Tryd.prog w base spare held n 46 (([c0, c1, c2].drop 0).take (Tryd.prog.cellsOf 46)) = _ := hf 0 _ rfl
      have f1 : DataW.trod enc Tryd.prog w base spare held n 2 (([c0, c1, c2].drop 2).take (Tryd.prog.cellsOf 2)) = _ := hf 1 _ rfl
      rw [show Tryd.prog.cellsOf 46 = 2 by kernel_rfl] at f0
      rw [show Tryd.prog.cellsOf 2 = 1 by kernel_rfl] at f1
      obtain ⟨a, b, e0⟩ := open_pt f0
      obtain ⟨c, e1, _, _⟩ := DataW.trod_int Tryd.underlying2 f1
      simp at e0 e1
      exact ⟨a, b, c, by simp [e0, e1]⟩
theorem open_seens (h : DataW.trod enc Tryd.prog w 0 (fun _ => true) held fuel 32 cs = some x) : ∃ (A : Option Addr) (n c : Nat) (L : List Int), cs = [.slice A n c] ∧ Rng w A n c L := by
  rcases open_slice Tryd.underlying32 h with ⟨rfl, _⟩ | ⟨a, len, cap, m, n, D, Pl, rfl, _, hl, hm, hmm, _, hi⟩
  · exact ⟨none, 0, 0, [], rfl, rfl, Nat.le_refl _, fun h => absurd h (by omega)⟩
  · simp only [if_true] at hmm
    subst hmm
    have key : ∀ i, i < len → ∃ t : Int × Int × Int, w.cell? ((a.add (i * 3)).add 0) = some (.int .i64 t.1) ∧ w.cell? ((a.add (i * 3)).add 1) = some (.int .i64 t.2.1) ∧ w.cell? ((a.add (i * 3)).add 2) = some (.int .i64 t.2.2) := by
      intro i him
      obtain ⟨cs', hc, ht⟩ := hi i (by omega)
      rw [show Tryd.prog.cellsOf 49 = 3 by kernel_rfl] at hc
      obtain ⟨p, q, r, rfl⟩ := open_seen ht
      obtain ⟨_, _, hat⟩ := World.cells?_some hc
      exact ⟨(p, q, r), hat 0 (by decide), hat 1 (by decide), hat 2 (by decide)⟩
    obtain ⟨F, hF⟩ := choose_lt key
    refine ⟨some a, len, m, (List.range (len * 3)).map (fun j => if j % 3 = 0 then (F (j / 3)).1 else if j % 3 = 1 then (F (j / 3)).2.1 else (F (j / 3)).2.2), rfl, by simp, hl, fun hpos => ?_⟩
    have hs' : a.spot = none := by
      have h7 := (hF 0 hpos).1
      rw [show a.add (0 * 3) = a by unfold Addr.add; simp, show a.add 0 = a by unfold Addr.add; simp] at h7
      exact YErr.cell_spot' h7
    obtain ⟨ab, ao, asp⟩ := a
    obtain rfl : asp = none := hs'
    refine ⟨ab, ao, rfl, fun j hj => ?_⟩
    have hj : j < len * 3 := by simpa using hj
    have hh := hF (j / 3) (by omega)
    simp only [addr_add] at hh
    obtain ⟨h0, h1, h2⟩ := hh
    have hg : ((List.range (len * 3)).map (fun j => if j % 3 = 0 then (F (j / 3)).1 else if j % 3 = 1 then (F (j / 3)).2.1 else (F (j / 3)).2.2)).getD j 0 = if j % 3 = 0 then (F (j / 3)).1 else if j % 3 = 1 then (F (j / 3)).2.1 else (F (j / 3)).2.2 := by
      simp [List.getD, hj]
    rw [hg]
    rcases (show j % 3 = 0 ∨ j % 3 = 1 ∨ j % 3 = 2 by omega) with h | h | h
    · rw [if_pos h, show ao + j = ao + j / 3 * 3 + 0 by omega]; exact h0
    · rw [if_neg (by omega), if_pos h, show ao + j = ao + j / 3 * 3 + 1 by omega]; exact h1
    · rw [if_neg (by omega), if_neg (by omega), show ao + j = ao + j / 3 * 3 + 2 by omega]; exact h2
set_option maxRecDepth 100000 in
theorem open_beacon (h : DataW.trod enc Tryd.prog w 0 (fun _ => true) held fuel 34 cs = some x) : ∃ (m : Ms) (A : Option Addr) (c : Nat), cs = [.int .u8 m.id, .bool m.pl, .int .i64 m.sc, .slice A m.n c] ∧ Rng w A m.n c m.L := by
  obtain ⟨xs, n, _, _, hl, hx, hf⟩ := DataW.trod_struct Tryd.underlying34 h
  have hl : cs.length = 4 := hl.trans (by kernel_rfl)
  match cs, hl with
  | [c0, c1, c2, c3], _ =>
    match xs, hx with
    | [y0, y1, y2, y3], _ =>
      have f0 : DataW.trod enc Tryd.prog w 0 (fun _ => true) held n 5 (([c0, c1, c2, c3].drop 0).take (Tryd.prog.cellsOf 5)) = _ := hf 0 _ rfl
      have f1 : DataW.trod enc Tryd.prog w 0 (fun _ => true) held n 4 (([c0, c1, c2, c3].drop 1).take (Tryd.prog.cellsOf 4)) = _ := hf 1 _ rfl
      have f2 : DataW.trod enc Tryd.prog w 0 (fun _ => true) held n 3 (([c0, c1, c2, c3].drop 2).take (Tryd.prog.cellsOf 3)) = _ := hf 2 _ rfl
      have f3 : DataW.trod enc Tryd.prog w 0 (fun _ => true) held n 32 (([c0, c1, c2, c3].drop 3).take (Tryd.prog.cellsOf 32)) = _ := hf 3 _ rfl
      rw [show Tryd.prog.cellsOf 5 = 1 by kernel_rfl] at f0
      rw [show Tryd.prog.cellsOf 4 = 1 by kernel_rfl] at f1
      rw [show Tryd.prog.cellsOf 3 = 1 by kernel_rfl] at f2
      rw [show Tryd.prog.cellsOf 32 = 1 by kernel_rfl] at f3
      obtain ⟨a0, e0, _, w0⟩ := DataW.trod_int Tryd.underlying5 f0
      obtain ⟨a1, e1, _⟩ := DataW.trod_bool Tryd.underlying4 f1
      obtain ⟨a2, e2, _, w2⟩ := DataW.trod_int Tryd.underlying3 f2
      obtain ⟨A, k, c, L, e3, R⟩ := open_seens f3
      simp at e0 e1 e2 e3
      exact ⟨⟨false, a0, a1, a2, k, L⟩, A, c, by simp [e0, e1, e2, e3], R⟩
end
set_option maxRecDepth 100000 in
theorem raws_arg {H : Type} {enc : TypeId × Value → H} {w : World} {r : Reach} {b0 : Nat} {v : Value} {d : DataW H} {ps : List MemPlace}
    (hv : Value.okWide Tryd.prog w r b0 70 v) (h : DataW.Trod enc Tryd.prog w 0 (fun _ => true) true 70 v d ps) :
    ∃ (A : Option Addr) (c : Nat) (l : List Ms), v = .slice A l.length c ∧ l.length ≤ c ∧ c ≤ maxLen ∧ LiesR w A l := by
  obtain ⟨fuel, hf⟩ := h
  obtain ⟨A0, len0, cap0, rfl⟩ := okWide_slice Tryd.underlying70 hv
  have hf : DataW.trod enc Tryd.prog w 0 (fun _ => true) true fuel 70 [Value.slice A0 len0 cap0] = some (d, ps) := hf
  rcases open_slice Tryd.underlying70 hf with ⟨h0, _⟩ | ⟨a, len, cap, m, n, D, Pl, h0, _, hl, hm, hmm, _, hi⟩
  · obtain ⟨rfl, rfl, rfl⟩ : A0 = none ∧ len0 = 0 ∧ cap0 = 0 := by simpa using h0
    exact ⟨none, 0, [], rfl, Nat.le_refl _, by unfold maxLen; omega, fun h => absurd h (by simp)⟩
  · obtain ⟨rfl, rfl, rfl⟩ : A0 = some a ∧ len0 = len ∧ cap0 = cap := by simpa using h0
    simp only [if_true] at hmm
    subst hmm
    have key : ∀ i, i < len0 → ∃ x : Ms, ∃ (A : Option Addr) (c : Nat), (w.cell? ((a.add (i * 4)).add 0) = some (.int .u8 x.id) ∧ w.cell? ((a.add (i * 4)).add 1) = some (.bool x.pl) ∧ w.cell? ((a.add (i * 4)).add 2) = some (.int .i64 x.sc) ∧ w.cell? ((a.add (i * 4)).add 3) = some (.slice A x.n c)) ∧ Rng w A x.n c x.L := by
      intro i him
      obtain ⟨cs', hc, ht⟩ := hi i (by omega)
      rw [show Tryd.prog.cellsOf 34 = 4 by kernel_rfl] at hc
      obtain ⟨x, A, c, rfl, R⟩ := open_beacon ht
      obtain ⟨_, _, hat⟩ := World.cells?_some hc
      exact ⟨x, A, c, ⟨hat 0 (by decide), hat 1 (by decide), hat 2 (by decide), hat 3 (by decide)⟩, R⟩
    obtain ⟨F, hF⟩ := choose_lt key
    have e : ((List.range len0).map F).length = len0 := by simp
    refine ⟨some a, m, (List.range len0).map F, by rw [e], by rw [e]; exact hl, hm, fun hpos => ?_⟩
    rw [e] at hpos
    have hs' : a.spot = none := by
      obtain ⟨A, c, ⟨h7, _⟩, _⟩ := hF 0 hpos
      rw [show a.add (0 * 4) = a by unfold Addr.add; simp, show a.add 0 = a by unfold Addr.add; simp] at h7
      exact YErr.cell_spot' h7
    obtain ⟨ab, ao, asp⟩ := a
    obtain rfl : asp = none := hs'
    refine ⟨ab, ao, rfl, fun i hi' => ?_⟩
    rw [e] at hi'
    obtain ⟨A, c, hh, R⟩ := hF i hi'
    simp only [addr_add] at hh
    have ei : ((List.range len0).map F)[i]'(by rw [e]; exact hi') = F i := by simp
    rw [ei]
    exact ⟨A, c, hh.1, hh.2.1, hh.2.2.1, hh.2.2.2, R⟩
end Go.Proofs.YtekcemncmgingaaDoor.YErr
