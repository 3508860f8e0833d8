/- What the law function known of layer 4 tells, and what chain makes. Condition: errors.errorType holds its type's handle. -/
import Derived.Test.YtobcgomfbkcaeaaDoorYFaultText
namespace Go.Proofs.YtobcgomfbkcaeaaDoor.YErr
open Go.RowKit Go.Extern.Stop Go.Stop Go.Extern
set_option linter.unusedVariables false
set_option linter.unusedSimpArgs false

theorem wf8 {x : Int} (h : (Lit.int .u8 x).wf = true) : 0 ≤ x ∧ x ≤ 255 := by
  simp [Lit.wf, IntKind.min, IntKind.max, IntKind.bits, IntKind.signed] at h; omega
theorem bb4 {W w w' : World} (h : Below W.heap.size W w) (g : Below w.heap.size w w') : Below W.heap.size W w' := h.trans (g.mono h.size)
theorem keep4 {w w' : World} {p : Addr} {v : Value} (g : Below w.heap.size w w') (h : w.cell? p = some v) : w'.cell? p = some v := (g.cell (lt_cell h)).trans h
theorem Laid.keep {w w' : World} (h : Laid w) (g : Below w.heap.size w w') : Laid w' := h.below g
/-- fault.Wrap of a tree. -/
theorem Wrap_tree (op : ByteArray) {e : E} {v : Value} {w : World} (hat : At w v e) :
    Calls Tryd.prog 14 #[.string op, v] w fun r w' => ∃ v', r = .returned v' ∧ At w' v' (.wrap op e) ∧ Below w.heap.size w w' := by
  obtain ⟨t, u, rfl⟩ := hat.some
  refine (Wrap_one op t u w).mono ?_
  rintro r w' ⟨rfl, rfl⟩
  exact ⟨_, rfl, ⟨⟨w.heap.size, 0, none⟩, .iface t u, rfl, by simp, by simp, hat.alloc _⟩, (Below.refl _ _).alloc (Nat.le_refl _) _⟩
theorem Strs.form {w : World} {b : Nat} {o : Value} {l : List ByteArray} (h : Strs w b o l) :
    (l = [] ∧ o = .slice none 0 0) ∨ ∃ g cap, o = .slice (some ⟨g, 0, none⟩) l.length cap ∧ b ≤ g ∧ g < w.heap.size ∧ l.length ≤ cap ∧ cap ≤ maxLen ∧ ∀ i, i < l.length → w.cell? ⟨g, i, none⟩ = some (.string (l.getD i ByteArray.empty)) := by
  obtain ⟨hl, ⟨h0, h1⟩ | ⟨g, cap, cur, rfl, hb, hw, hc, hm, hs, ht⟩⟩ := id h
  · exact .inl ⟨List.eq_nil_of_length_eq_zero h1, h0⟩
  · refine .inr ⟨g, cap, rfl, hb, (World.ownsRow.lt h g rfl).2, hc, hm, fun i hi => ?_⟩
    have := World.ownsRow.cellAt h i (by omega)
    rw [this]
    simp [hi]

def kE : E := .wrap ⟨#[97]⟩ (.wrap ⟨#[98]⟩ (.num 32))
theorem kE_text : kE.text = ⟨#[97, 58, 32, 98, 58, 32, 101, 114, 114, 32, 51, 50]⟩ := by kernel_rfl
set_option maxRecDepth 100000 in
set_option maxHeartbeats 8000000 in
theorem known_calls (w : World) (hg : Laid w) : Calls Tryd.prog 7 #[] w fun r w' => r = .returned (.bool true) ∧ Below w.heap.size w w' := by
  have W1 := Wrap_tree ⟨#[98]⟩ (show At w (.iface 27 (.int .i64 32)) (.num 32) from rfl)
  go_enter Tryd.func7, Tryd.ntmps7
  go_wp2_with fail
  refine W1.mono ?_; rintro r w1 ⟨v1, rfl, a1, b1⟩
  have W2 := Wrap_tree ⟨#[97]⟩ a1
  go_wp2_with fail
  refine W2.mono ?_; rintro r w2 ⟨v2, rfl, a2, g2⟩
  have b2 := bb4 b1 g2
  have O := Ops_tree a2 (by simp [E.ops])
  go_wp2_with fail
  refine O.mono ?_; rintro r w3 ⟨o, rfl, s3, g3⟩
  have b3 := bb4 b2 g3
  have a3 := a2.below g3
  obtain ⟨h, _⟩ | ⟨g, cap, rfl, _, _, hc, hm, hs⟩ := s3.form
  · cases h
  have c0 := hs 0 (by simp [E.ops])
  have c1 := hs 1 (by simp [E.ops])
  simp [E.ops] at c0 c1
  clear hs s3
  have T := Text_tree (show kE.ok from ⟨by decide, by decide⟩) (by rw [kE_text]; decide) a3
  rw [kE_text] at T
  simp only [E.ops, List.length_cons, List.length_nil] at hc ⊢
  go_wp2_with fail
  refine T.mono ?_; rintro r w4 ⟨rfl, g4⟩
  have b4 := bb4 b3 g4
  have a4 := a3.below g4
  have c04 := keep4 g4 c0
  have c14 := keep4 g4 c1
  have C := Code_tree (hg.keep b4) a4
  go_wp2_with fail
  refine C.mono ?_; rintro r w5 ⟨rfl, g5⟩
  have b5 := bb4 b4 g5
  have a5 := a4.below g5
  have c05 := keep4 g5 c04
  have c15 := keep4 g5 c14
  have I1 := Is_tree 32 a5
  have I2 := Is_tree 33 a5
  have x1 : (E.wrap ⟨#[97]⟩ (.wrap ⟨#[98]⟩ (.num 32))).has 32 = true := by simp [E.has]
  have x2 : (E.wrap ⟨#[97]⟩ (.wrap ⟨#[98]⟩ (.num 32))).has 33 = false := by simp [E.has]
  rw [x1] at I1
  rw [x2] at I2
  have WN := Wrap_nil ⟨#[97]⟩ w5
  have CN := Code_nil w5
  clear c0 c1 c04 c14 a1 a2 a3 a4 W1 W2 O T C x1 x2
  simp only [E.lead]
  go_wp2_with fail
  refine I1.mono ?_; rintro r w' ⟨rfl, rfl⟩
  go_wp2_with fail
  refine I2.mono ?_; rintro r w' ⟨rfl, rfl⟩
  go_wp2_with fail
  refine WN.mono ?_; rintro r w' ⟨rfl, rfl⟩
  go_wp2_with fail
  refine CN.mono ?_; rintro r w6 ⟨rfl, g6⟩
  go_wp2_with fail
  go_ret
  exact ⟨rfl, bb4 b5 g6⟩
end Go.Proofs.YtobcgomfbkcaeaaDoor.YErr
