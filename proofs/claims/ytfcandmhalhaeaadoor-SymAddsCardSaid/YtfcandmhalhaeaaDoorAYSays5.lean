/- Lean functions, contracts and lemmas that this claim needs. No condition. -/
import Derived.Test.YtfcandmhalhaeaaDoorAYErr2
namespace Go.Proofs.YtfcandmhalhaeaaDoor.YErr
open Go.RowKit Go.Extern.Stop Go.Stop Go.Extern
set_option linter.unusedVariables false
set_option linter.unusedSimpArgs false
/-- The layer's name. -/
def op5 : ByteArray := { data := #[115,121,109] }
set_option maxRecDepth 100000 in
set_option maxHeartbeats 8000000 in
theorem says5 {v : Value} {c : Int} (n : Int) (w : World) (hg : Laid w) (h : ErrIs op5 w v c) :
    Calls Tryd.prog 15 #[v, .int .i64 n] w fun e w' => e = .returned (.bool (decide (c = n))) ∧ Below w.heap.size w w' := by
  rcases h with ⟨rfl, rfl⟩ | ⟨hc, a, rfl, h0, h1⟩
  · by_cases hn : n = 0
    · subst hn
      go_enter Tryd.func15, Tryd.ntmps15
      go_wp2
      go_ret
      exact ⟨rfl, Below.refl _ _⟩
    · have hO := Ops_nil w
      have hC := Code_nil w
      have e0 : (n == 0) = false := by simpa using hn
      have e1 : ((0 : Int) == n) = false := by simpa using Ne.symm hn
      go_enter Tryd.func15, Tryd.ntmps15
      go_wp2_with (first | (go_at_call 41; refine hO.mono ?_; rintro e w' ⟨rfl, rfl⟩) | (go_at_call 26; refine hC.mono ?_; rintro e w' ⟨rfl, hb⟩) | go_in)
      go_ret
      exact ⟨by simp [Ne.symm hn], hb⟩
  · have hO := Ops_one a op5 c w h0 h1
    have hC : ∀ w1, Below w.heap.size w w1 → Calls Tryd.prog 26 #[.iface 131 (.pointer (some a))] w1 fun e w' => e = .returned (.int .i64 c) ∧ Below w1.heap.size w1 w' :=
      fun w1 hb => Code_one a c w1 (hg.below hb) ((hb.cell (p := ⟨a.block, a.off + 1, none⟩) (lt_of_cell (a := ⟨a.block, a.off + 1, none⟩) h1)).trans h1)
    by_cases hn : n = 0
    · subst hn
      go_enter Tryd.func15, Tryd.ntmps15
      go_wp2
      go_ret
      exact ⟨by simp [hc], Below.refl _ _⟩
    · have e0 : (n == 0) = false := by simpa using hn
      by_cases hcn : c = n
      · subst hcn
        have e1 : (c == c) = true := by simp
        go_enter Tryd.func15, Tryd.ntmps15
        go_wp2_with (first | (go_at_call 41; refine hO.mono ?_; rintro e w1 ⟨g, cap, rfl, hb1, hcell⟩; have hC1 := hC w1 hb1) | (go_at_call 26; refine hC1.mono ?_; rintro e w2 ⟨rfl, hb2⟩; have hcell2 := (hb2.cell (lt_of_cell hcell)).trans hcell; unfold op5 at hcell2) | go_in)
        go_ret
        exact ⟨by simp, hb1.trans (hb2.mono hb1.size)⟩
      · have e1 : (c == n) = false := by simpa using hcn
        go_enter Tryd.func15, Tryd.ntmps15
        go_wp2_with (first | (go_at_call 41; refine hO.mono ?_; rintro e w1 ⟨g, cap, rfl, hb1, hcell⟩; have hC1 := hC w1 hb1) | (go_at_call 26; refine hC1.mono ?_; rintro e w2 ⟨rfl, hb2⟩) | go_in)
        go_ret
        exact ⟨by simp [hcn], hb1.trans (hb2.mono hb1.size)⟩
end Go.Proofs.YtfcandmhalhaeaaDoor.YErr
