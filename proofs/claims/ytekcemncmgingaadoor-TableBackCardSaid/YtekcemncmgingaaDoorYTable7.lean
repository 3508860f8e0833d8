/- Package buffer: Add to eight ranges. No condition. -/
import Derived.Test.YtekcemncmgingaaDoorYTable6
namespace Go.Proofs.YtekcemncmgingaaDoor.YErr
open Go.RowKit Go.Extern.Stop Go.Stop Go.Extern
set_option linter.unusedVariables false
set_option linter.unusedSimpArgs false
set_option maxRecDepth 100000 in
set_option maxHeartbeats 8000000 in
/-- Of eight the first one falls out. -/
theorem Add_8 {g o c : Nat} {l : List Int} {x y r : Int} {w : World} (hl : l.length = 24) (hc : SeenAt w g o l) (hnc : 8 ≤ c) : Calls Tryd.prog 39 #[.slice (some ⟨g, o, none⟩) 8 c, .agg #[.int .i64 x, .int .i64 y], .int .i64 r] w fun rr w' => ∃ v, rr = .returned v ∧ w'.ownsRow w.heap.size 49 3 v 8 ((l.drop 3).map (Value.int .i64) ++ [.int .i64 x, .int .i64 y, .int .i64 r]) ∧ Below w.heap.size w w' := by
  obtain ⟨i0, hi, hz0, hz1, hz2⟩ := info_parts infoSeen
  have nc : (8 : Int) ≤ c := by omega
  have v0 : IntKind.i64.wrap 0 = 0 := by decide
  have v1 : IntKind.i64.wrap 1 = 1 := by decide
  have v2 : IntKind.i64.wrap (0 + 1) = 1 := by decide
  have cn : ¬ c = 1 := by omega
  have hl7 : (l.drop 3).length = 7 * 3 := by simp [hl]
  have hc7 : SeenAt w g (o + 3) (l.drop 3) := by
    intro j hj
    have := hc (3 + j) (by simp at hj; omega)
    rw [show o + 3 + j = o + (3 + j) by omega, this]
    simp [List.getD, List.getElem?_drop]
  have hcA : ∀ W, Below w.heap.size w W → SeenAt W g (o + 3) (l.drop 3) := fun W b j hj => (b.cell (p := ⟨g, o + 3 + j, none⟩) (World.block_lt_of_cell? w ⟨g, o + 3 + j, none⟩ (hc7 j hj))).trans (hc7 j hj)
  go_enter Tryd.func39, Tryd.ntmps39
  go_wp2_with fail
  go_region_law (first
    | (go_simp; go_at_call 49; refine (Clone_row hl7 (hcA _ (by repeat (first | exact Below.refl _ _ | refine Below.drew ?_ | refine Below.alloc ?_ (by simp <;> omega) _))) (by omega)).mono ?_; rintro e w4 ⟨v, rfl, own, g4⟩
       have bx0 : w4.cell? ⟨w.heap.size, 0, none⟩ = some (.int .i64 x) := (g4.cell (p := ⟨w.heap.size, 0, none⟩) (by simp <;> omega)).trans (by simp)
       have bx1 : w4.cell? ⟨w.heap.size, 1, none⟩ = some (.int .i64 y) := (g4.cell (p := ⟨w.heap.size, 1, none⟩) (by simp <;> omega)).trans (by simp)
       have own' := World.ownsRow.mono own (show w.heap.size ≤ _ by simp <;> omega)
       have B4 : Below w.heap.size w w4 := Below.trans (by repeat (first | exact Below.refl _ _ | refine Below.drew ?_ | refine Below.alloc ?_ (by simp <;> omega) _)) (g4.mono (by simp <;> omega)))
    | (refine step_append_lies _ rfl (.tmp 14) (.tmp 18) 32 rfl w.heap.size 49 i0 (.agg #[.int .i64 0, .int .i64 0, .int .i64 0]) 3 24 Tryd.underlying32 hi hz0 hz1 hz2 rfl (by decide) v 7 ((l.drop 3).map (Value.int .i64)) rfl (by first | exact own' | exact World.ownsRow.alloc own' _) _ 1 1 [.int .i64 x, .int .i64 y, .int .i64 r] rfl rfl
         (World.news_of_block (cs := #[.int .i64 x, .int .i64 y, .int .i64 r]) (t := 49) (fr := (0, 0)) (by first | exact heap_alloc_new _ _ | exact (g4.block _ (by simp <;> omega)).trans (by have : ((w.alloc (.cells #[.int .i64 x, .int .i64 y] 46)).alloc (.cells #[.int .i64 x, .int .i64 y, .int .i64 r] 49)).drew.heap[(w.alloc (.cells #[.int .i64 x, .int .i64 y] 46)).heap.size]? = some _ := heap_alloc_new _ _; simpa using this)))
         (by intro u hu; simp at hu; rcases hu with rfl | rfl | rfl <;> rfl) (by omega) (by unfold maxLen; omega) (by omega) (by have := B4.size; simp; omega) _ rfl ?_
       intro gg cap w6 own6 gr6 _ _))
  all_goals go_wp2
  all_goals go_ret
  all_goals
    refine ⟨_, rfl, own6, ?_⟩
    first
      | exact Below.grown B4 gr6 B4.size (fun k h => (World.ownsRow.lt own' k h).1)
      | exact Below.grown (B4.alloc B4.size _) gr6 (by have := B4.size; simp; omega) (fun k h => (World.ownsRow.lt own' k h).1)
end Go.Proofs.YtekcemncmgingaaDoor.YErr
