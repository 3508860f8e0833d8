/- Package buffer: Add. Under way. -/
import Derived.Test.YtekcemncmgingaaDoorYTable5
import Derived.Deep.RegionLaw
import Derived.Deep.AppendLies
import Derived.Deep.Onto
namespace Go.Proofs.YtekcemncmgingaaDoor.YErr
open Go.RowKit Go.Extern.Stop Go.Stop Go.Extern
set_option linter.unusedVariables false
set_option linter.unusedSimpArgs false
set_option maxRecDepth 100000 in
set_option maxHeartbeats 8000000 in
/-- The last ranges and one more: of eight numbers at most seven are kept. -/
theorem Add_lo {g o n c : Nat} {l : List Int} {x y r : Int} {w : World} (hl : l.length = n * 3) (hc : SeenAt w g o l) (hn : n ≤ 7) (hnc : n ≤ c) : Calls Tryd.prog 39 #[.slice (some ⟨g, o, none⟩) n c, .agg #[.int .i64 x, .int .i64 y], .int .i64 r] w fun rr w' => ∃ v, rr = .returned v ∧ w'.ownsRow w.heap.size 49 3 v (n + 1) (l.map (Value.int .i64) ++ [.int .i64 x, .int .i64 y, .int .i64 r]) ∧ Below w.heap.size w w' := by
  obtain ⟨i0, hi, hz0, hz1, hz2⟩ := info_parts infoSeen
  have n0 : (0 : Int) ≤ n := by omega
  have n7 : (n : Int) ≤ 7 := by omega
  have nc : (n : Int) ≤ c := by omega
  have k1 : IntKind.i64.wrap ((n : Int) - 8) = (n : Int) - 8 := IntWalk.i64_in _ (by omega)
  have k2 : IntKind.i64.wrap ((n : Int) - 8 + 1) = (n : Int) - 8 + 1 := IntWalk.i64_in _ (by omega)
  have mx : (if (n : Int) - 8 + 1 < 0 then (0 : Int) else (n : Int) - 8 + 1) = 0 := by split <;> omega
  have hcA : ∀ W, Below w.heap.size w W → SeenAt W g o l := fun W b j hj => (b.cell (p := ⟨g, o + j, none⟩) (World.block_lt_of_cell? w ⟨g, o + j, none⟩ (hc j hj))).trans (hc j hj)
  go_enter Tryd.func39, Tryd.ntmps39
  go_wp2_with fail
  go_region_law (first
    | (go_simp; go_at_call 49; refine (Clone_row hl (hcA _ (by repeat (first | exact Below.refl _ _ | refine Below.drew ?_ | refine Below.alloc ?_ (by simp <;> omega) _))) (by omega)).mono ?_; rintro e w4 ⟨v, rfl, own, g4⟩
       have bx0 : w4.cell? ⟨w.heap.size, 0, none⟩ = some (.int .i64 x) := (g4.cell (p := ⟨w.heap.size, 0, none⟩) (by simp <;> omega)).trans (by simp)
       have bx1 : w4.cell? ⟨w.heap.size, 1, none⟩ = some (.int .i64 y) := (g4.cell (p := ⟨w.heap.size, 1, none⟩) (by simp <;> omega)).trans (by simp)
       have own' := World.ownsRow.mono own (show w.heap.size ≤ _ by simp <;> omega)
       have B4 : Below w.heap.size w w4 := Below.trans (by repeat (first | exact Below.refl _ _ | refine Below.drew ?_ | refine Below.alloc ?_ (by simp <;> omega) _)) (g4.mono (by simp <;> omega)))
    | (refine step_append_lies _ rfl (.tmp 14) (.tmp 18) 32 rfl w.heap.size 49 i0 (.agg #[.int .i64 0, .int .i64 0, .int .i64 0]) 3 24 Tryd.underlying32 hi hz0 hz1 hz2 rfl (by decide) v n (l.map (Value.int .i64)) rfl (by first | exact own' | exact World.ownsRow.alloc own' _) _ 1 1 [.int .i64 x, .int .i64 y, .int .i64 r] rfl rfl
         (World.news_of_block (cs := #[.int .i64 x, .int .i64 y, .int .i64 r]) (t := 49) (fr := (0, 0)) (by first | exact heap_alloc_new _ _ | exact (g4.block _ (by simp <;> omega)).trans (by have : ((w.alloc (.cells #[.int .i64 x, .int .i64 y] 46)).alloc (.cells #[.int .i64 x, .int .i64 y, .int .i64 r] 49)).drew.heap[(w.alloc (.cells #[.int .i64 x, .int .i64 y] 46)).heap.size]? = some _ := heap_alloc_new _ _; simpa using this)))
         (by intro u hu; simp at hu; rcases hu with rfl | rfl | rfl <;> rfl) (by omega) (by unfold maxLen; omega) (by omega) (by have := B4.size; simp; omega) _ rfl ?_
       intro gg cap w6 own6 gr6 _ _))
  all_goals go_wp2
  all_goals go_ret
  all_goals
    refine ⟨_, rfl, own6, ?_⟩
    first
      | exact Below.grown B4 gr6 B4.size (fun k h => (World.ownsRow.lt own' k h).1)
      | exact Below.grown (B4.alloc B4.size _) gr6 (by have := B4.size; simp; omega) (fun k h => (World.ownsRow.lt own' k h).1)
end Go.Proofs.YtekcemncmgingaaDoor.YErr
