/- Package buffer: Add to no range. No condition. -/
import Derived.Test.YtekcemncmgingaaDoorYTable6
namespace Go.Proofs.YtekcemncmgingaaDoor.YErr
open Go.RowKit Go.Extern.Stop Go.Stop Go.Extern
set_option linter.unusedVariables false
set_option linter.unusedSimpArgs false
theorem Clone_nil' (w : World) : Calls Tryd.prog 49 #[.slice none 0 0] w fun r w' => ∃ v, r = .returned v ∧ w'.ownsRow w.heap.size 49 3 v 0 [] ∧ Below w.heap.size w w' := by
  refine (Clone_nil w).mono ?_
  rintro r w' ⟨rfl, rfl⟩
  exact ⟨_, rfl, World.ownsRow_nil _ _ _ _, Below.refl _ _⟩
set_option maxRecDepth 100000 in
set_option maxHeartbeats 8000000 in
/-- Of none. -/
theorem Add_nil {x y r : Int} {w : World} : Calls Tryd.prog 39 #[.slice none 0 0, .agg #[.int .i64 x, .int .i64 y], .int .i64 r] w fun rr w' => ∃ v, rr = .returned v ∧ w'.ownsRow w.heap.size 49 3 v (0 + 1) ([] ++ [.int .i64 x, .int .i64 y, .int .i64 r]) ∧ Below w.heap.size w w' := by
  obtain ⟨i0, hi, hz0, hz1, hz2⟩ := info_parts infoSeen
  have v0 : IntKind.i64.wrap (-8) = -8 := by decide
  have v1 : IntKind.i64.wrap (-7) = -7 := by decide
  have v2 : IntKind.i64.wrap (-8 + 1) = -7 := by decide
  go_enter Tryd.func39, Tryd.ntmps39
  go_wp2_with fail
  go_region_law (first
    | (go_simp; go_at_call 49; refine (Clone_nil' _).mono ?_; rintro e w4 ⟨v, rfl, own, g4⟩
       have bx0 : w4.cell? ⟨w.heap.size, 0, none⟩ = some (.int .i64 x) := (g4.cell (p := ⟨w.heap.size, 0, none⟩) (by simp <;> omega)).trans (by simp)
       have bx1 : w4.cell? ⟨w.heap.size, 1, none⟩ = some (.int .i64 y) := (g4.cell (p := ⟨w.heap.size, 1, none⟩) (by simp <;> omega)).trans (by simp)
       have own' := World.ownsRow.mono own (show w.heap.size ≤ _ by simp <;> omega)
       have B4 : Below w.heap.size w w4 := Below.trans (by repeat (first | exact Below.refl _ _ | refine Below.drew ?_ | refine Below.alloc ?_ (by simp <;> omega) _)) (g4.mono (by simp <;> omega)))
    | (refine step_append_lies _ rfl (.tmp 14) (.tmp 18) 32 rfl w.heap.size 49 i0 (.agg #[.int .i64 0, .int .i64 0, .int .i64 0]) 3 24 Tryd.underlying32 hi hz0 hz1 hz2 rfl (by decide) v 0 [] rfl (by first | exact own' | exact World.ownsRow.alloc own' _) _ 1 1 [.int .i64 x, .int .i64 y, .int .i64 r] rfl rfl
         (World.news_of_block (cs := #[.int .i64 x, .int .i64 y, .int .i64 r]) (t := 49) (fr := (0, 0)) (by first | exact heap_alloc_new _ _ | exact (g4.block _ (by simp <;> omega)).trans (by have : ((w.alloc (.cells #[.int .i64 x, .int .i64 y] 46)).alloc (.cells #[.int .i64 x, .int .i64 y, .int .i64 r] 49)).drew.heap[(w.alloc (.cells #[.int .i64 x, .int .i64 y] 46)).heap.size]? = some _ := heap_alloc_new _ _; simpa using this)))
         (by intro u hu; simp at hu; rcases hu with rfl | rfl | rfl <;> rfl) (by omega) (by unfold maxLen; omega) (by omega) (by have := B4.size; simp; omega) _ rfl ?_
       intro gg cap w6 own6 gr6 _ _))
  all_goals go_wp2
  all_goals go_ret
  all_goals
    refine ⟨_, rfl, own6, ?_⟩
    first
      | exact Below.grown B4 gr6 B4.size (fun k h => (World.ownsRow.lt own' k h).1)
      | exact Below.grown (B4.alloc B4.size _) gr6 (by have := B4.size; simp; omega) (fun k h => (World.ownsRow.lt own' k h).1)
end Go.Proofs.YtekcemncmgingaaDoor.YErr
