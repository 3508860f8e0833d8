/- The document's Keep of ranges (leadlineref18.Keep): the last ones and one more. No condition. -/
import Derived.Test.YtekcemncmgingaaDoorYTAll
import Derived.Maps.AppendAt
import Derived.Deep.RegionLaw
import Derived.Deep.Onto
namespace Go.Proofs.YtekcemncmgingaaDoor.YErr
open Go.RowKit Go.Extern.Stop Go.Stop Go.Extern
set_option linter.unusedVariables false
set_option linter.unusedSimpArgs false
theorem addr_add (g o j : Nat) : (⟨g, o, none⟩ : Addr).add j = ⟨g, o + j, none⟩ := by
  unfold Addr.add
  split
  · rename_i h; subst h; rfl
  · rfl
/-- Ranges appended to a row of one's own, whatever their slice. -/
theorem run_append_rng {w : World} (ty : TypeId) (base : Nat) (v : Value) (n : Nat) (xs : List Value) (hown : w.ownsRow base 49 3 v n xs) {A : Option Addr} {m c : Nat} {L : List Int} (R : Rng w A m c L) (hA : A = none ∨ ∃ g o, A = some ⟨g, o, none⟩) (hm : n + m ≤ 100) (hb : base ≤ w.heap.size) :
    ∃ v' w', (Builtin.append_ #[32, 32] ty #[v, .slice A m c]).run Tryd.prog w = .ok v' w' ∧ w'.ownsRow base 49 3 v' (n + m) (xs ++ L.map (Value.int .i64)) ∧ w.grownBy w' v.ownBlock := by
  obtain ⟨i0, hi, hz0, hz1, hz2⟩ := info_parts infoSeen
  rcases hA with rfl | ⟨g, o, rfl⟩
  · have h0 : m = 0 := by
      rcases Nat.eq_zero_or_pos m with h | h
      · exact h
      · obtain ⟨_, _, e, _⟩ := R.2.2 h
        cases e
    subst h0
    have hL : L = [] := List.eq_nil_of_length_eq_zero (by simpa using R.1)
    subst hL
    refine ⟨v, w, ?_, by simpa using hown, gro_refl _ _⟩
    rcases hown.2 with ⟨rfl, rfl⟩ | ⟨g, cap, cur, rfl, _, _, hnc, _⟩
    · simp [Builtin.append_, run_underlying Tryd.underlying32, sizeOf, typeInfo, hi, Builtin.lenOf, Builtin.firstCells]
    · simp [Builtin.append_, run_underlying Tryd.underlying32, sizeOf, typeInfo, hi, Builtin.lenOf, Builtin.firstCells, hnc, storeCells]
  · have hc : ∀ j u, (L.map (Value.int .i64))[j]? = some u → w.cell? ((⟨g, o, none⟩ : Addr).add j) = some u := by
      intro j u hj
      have hjl : j < L.length := by
        have := (List.getElem?_eq_some_iff.1 hj).1
        simpa using this
      obtain ⟨g', o', e, S⟩ := R.2.2 (by have := R.1; omega)
      cases e
      rw [addr_add, S j hjl, ← hj]
      simp [List.getD, hjl]
    obtain ⟨v', w', hr, h2, h3, _, _⟩ := run_append_own_at (P := Tryd.prog) w base 32 ty 49 i0 (.agg #[.int .i64 0, .int .i64 0, .int .i64 0]) 3 24 Tryd.underlying32 hi hz0 hz1 hz2 rfl (by decide) v n xs hown ⟨g, o, none⟩ m c (L.map (Value.int .i64)) (by simpa using R.1) hc (fun u hu => by obtain ⟨x, _, rfl⟩ := List.mem_map.1 hu; rfl) (by unfold maxLen; omega) (by omega) hb
    exact ⟨v', w', hr, h2, h3⟩
theorem step_append_rng {w : World} {ops : Array Oper} {o : Oper} {a : Act} {K : Act → World → Prop} {Q : Exit → Act → World → Prop} {E : Prop} (hgd : o.guard = Option.none) (s x : Operand)
    (ho : o.op = .call { callee := .builtin .append, args := #[s, x], argTypes := #[32, 32] }) (base : Nat) (v : Value) (n : Nat) (xs : List Value) (hs : a.eval s = v) (hown : w.ownsRow base 49 3 v n xs) {A : Option Addr} {m c : Nat} {L : List Int} (hx : a.eval x = .slice A m c) (R : Rng w A m c L) (hA : A = none ∨ ∃ g o, A = some ⟨g, o, none⟩) (hm : n + m ≤ 100) (hb : base ≤ w.heap.size)
    (h : ∀ v' w', w'.ownsRow base 49 3 v' (n + m) (xs ++ L.map (Value.int .i64)) → w.grownBy w' v.ownBlock → K (a.put o.dst v') w') :
    if Region.wanted o (yielded ops a.tmps) = true then Oper.wp Tryd.prog o a w K Q else E := by
  have hw : Region.wanted o (yielded ops a.tmps) = true := by simp [Region.wanted, hgd]
  rw [if_pos hw]
  obtain ⟨v', w', hrun, h2, h3⟩ := run_append_rng (w := w) o.type base v n xs hown R hA hm hb
  unfold Oper.wp execOp
  simp only [ho, resolve, invoke, builtin, Sem.run_bind, Sem.run_pure, Result.andThen_ok, List.map_toArray, List.map_cons, List.map_nil, hs, hx, hrun]
  exact h v' w' h2 h3
--W
set_option maxRecDepth 100000 in
set_option maxHeartbeats 8000000 in
theorem RAdd_lo {g o n c : Nat} {l : List Int} {x y r : Int} {w : World} (R : Rng w (some ⟨g, o, none⟩) n c l) (hn : n ≤ 7) : Calls Tryd.prog 41 #[.slice (some ⟨g, o, none⟩) n c, .agg #[.int .i64 x, .int .i64 y], .int .i64 r] w fun rr w' => ∃ v, rr = .returned v ∧ w'.ownsRow w.heap.size 49 3 v (n + 1) ((l : List Int).map (Value.int .i64) ++ [.int .i64 x, .int .i64 y, .int .i64 r]) ∧ Below w.heap.size w w' := by
  obtain ⟨i0, hi, hz0, hz1, hz2⟩ := info_parts infoSeen
  have n0 : (0 : Int) ≤ n := by omega
  have n7 : (n : Int) ≤ 7 := by omega
  have nc : (n : Int) ≤ c := by have := R.2.1; omega
  have k1 : IntKind.i64.wrap ((n : Int) - 7) = (n : Int) - 7 := IntWalk.i64_in _ (by omega)
  have mx : (if (n : Int) - 7 < 0 then (0 : Int) else (n : Int) - 7) = 0 := by split <;> omega
  have R1 := R
  have RA : ∀ W, Below w.heap.size w W → Rng W _ _ _ _ := fun W b => R1.keep b
  go_enter Tryd.func41, Tryd.ntmps41
  go_wp2_with fail
  go_region_law (first
    | (refine step_append_rng rfl (.const (.slice none 0 0)) (.tmp 14) rfl w.heap.size (.slice none 0 0) 0 [] rfl (World.ownsRow_nil _ _ _ _) rfl (RA _ (by repeat (first | exact Below.refl _ _ | refine Below.drew ?_ | refine Below.alloc ?_ (by simp <;> omega) _))) (Or.inr ⟨_, _, rfl⟩) (by omega) (by simp <;> omega) ?_
       intro v w4 own4 g4
       have hv4 := Lib.hid (show (0 : Nat) ≤ 0 from Nat.le_refl _)
       have bx0 : w4.cell? ⟨w.heap.size, 0, none⟩ = some (.int .i64 x) := (gro_cell (p := ⟨w.heap.size, 0, none⟩) g4 (by simp <;> omega) (by simp [Value.ownBlock])).trans (by simp)
       have bx1 : w4.cell? ⟨w.heap.size, 1, none⟩ = some (.int .i64 y) := (gro_cell (p := ⟨w.heap.size, 1, none⟩) g4 (by simp <;> omega) (by simp [Value.ownBlock])).trans (by simp)
       have B4 : Below w.heap.size w w4 := Below.grown (by repeat (first | exact Below.refl _ _ | refine Below.drew ?_ | refine Below.alloc ?_ (by simp <;> omega) _)) g4 (by simp <;> omega) (fun k h => by simp [Value.ownBlock] at h))
    | (refine step_append_lies _ rfl (.tmp 15) (.tmp 19) 32 rfl w.heap.size 49 i0 (.agg #[.int .i64 0, .int .i64 0, .int .i64 0]) 3 24 Tryd.underlying32 hi hz0 hz1 hz2 rfl (by decide) v (0 + n) ([] ++ (l : List Int).map (Value.int .i64)) rfl (by first | exact own4 | exact World.ownsRow.alloc own4 _) _ 1 1 [.int .i64 x, .int .i64 y, .int .i64 r] rfl rfl
         (World.news_of_block (cs := #[.int .i64 x, .int .i64 y, .int .i64 r]) (t := 49) (fr := (0, 0)) (by first | exact heap_alloc_new _ _ | exact (g4.block _ (by simp <;> omega) (by simp [Value.ownBlock])).trans (by have : ((w.alloc (.cells #[.int .i64 x, .int .i64 y] 46)).alloc (.cells #[.int .i64 x, .int .i64 y, .int .i64 r] 49)).drew.heap[(w.alloc (.cells #[.int .i64 x, .int .i64 y] 46)).heap.size]? = some _ := heap_alloc_new _ _; simpa using this)))
         (by intro u hu; simp at hu; rcases hu with rfl | rfl | rfl <;> rfl) (by omega) (by unfold maxLen; omega) (by omega) (by have := B4.size; simp; omega) _ rfl ?_
       intro gg cap w6 own6 gr6 _ _))
  all_goals go_wp2
  all_goals go_ret
  all_goals
    have own7 : w6.ownsRow w.heap.size 49 3 (.slice (some ⟨gg, 0, none⟩) (n + 1) cap) (n + 1) ((l : List Int).map (Value.int .i64) ++ [.int .i64 x, .int .i64 y, .int .i64 r]) := by simpa using own6
    refine ⟨.slice (some ⟨gg, 0, none⟩) (n + 1) cap, by first | rfl | simp, own7, ?_⟩
    first
      | exact Below.grown B4 gr6 B4.size (fun k h => (World.ownsRow.lt own4 k h).1)
      | exact Below.grown (B4.alloc B4.size _) gr6 (by have := B4.size; simp; omega) (fun k h => (World.ownsRow.lt own4 k h).1)

set_option maxRecDepth 100000 in
set_option maxHeartbeats 8000000 in
theorem RAdd_8 {g o c : Nat} {l : List Int} {x y r : Int} {w : World} (R : Rng w (some ⟨g, o, none⟩) 8 c l) : Calls Tryd.prog 41 #[.slice (some ⟨g, o, none⟩) 8 c, .agg #[.int .i64 x, .int .i64 y], .int .i64 r] w fun rr w' => ∃ v, rr = .returned v ∧ w'.ownsRow w.heap.size 49 3 v 8 (((l.drop 3) : List Int).map (Value.int .i64) ++ [.int .i64 x, .int .i64 y, .int .i64 r]) ∧ Below w.heap.size w w' := by
  obtain ⟨i0, hi, hz0, hz1, hz2⟩ := info_parts infoSeen
  have nc : (8 : Int) ≤ c := by have := R.2.1; omega
  have v0 : IntKind.i64.wrap 0 = 0 := by decide
  have v1 : IntKind.i64.wrap 1 = 1 := by decide
  have v2 : IntKind.i64.wrap (0 + 1) = 1 := by decide
  have cn : ¬ c = 1 := by have := R.2.1; omega
  have R1 : Rng w (some ⟨g, o + 3, none⟩) 7 (c - 1) (l.drop 3) := by
    obtain ⟨hl, hc, hh⟩ := R
    obtain ⟨g', o', e, S⟩ := hh (by omega)
    cases e
    refine ⟨by simp; omega, by omega, fun _ => ⟨g, o + 3, rfl, fun j hj => ?_⟩⟩
    have := S (3 + j) (by simp at hj; omega)
    rw [show o + 3 + j = o + (3 + j) by omega, this]
    simp [List.getD, List.getElem?_drop]
  have RA : ∀ W, Below w.heap.size w W → Rng W _ _ _ _ := fun W b => R1.keep b
  go_enter Tryd.func41, Tryd.ntmps41
  go_wp2_with fail
  go_region_law (first
    | (refine step_append_rng rfl (.const (.slice none 0 0)) (.tmp 14) rfl w.heap.size (.slice none 0 0) 0 [] rfl (World.ownsRow_nil _ _ _ _) rfl (RA _ (by repeat (first | exact Below.refl _ _ | refine Below.drew ?_ | refine Below.alloc ?_ (by simp <;> omega) _))) (Or.inr ⟨_, _, rfl⟩) (by omega) (by simp <;> omega) ?_
       intro v w4 own4 g4
       have hv4 := Lib.hid (show (0 : Nat) ≤ 0 from Nat.le_refl _)
       have bx0 : w4.cell? ⟨w.heap.size, 0, none⟩ = some (.int .i64 x) := (gro_cell (p := ⟨w.heap.size, 0, none⟩) g4 (by simp <;> omega) (by simp [Value.ownBlock])).trans (by simp)
       have bx1 : w4.cell? ⟨w.heap.size, 1, none⟩ = some (.int .i64 y) := (gro_cell (p := ⟨w.heap.size, 1, none⟩) g4 (by simp <;> omega) (by simp [Value.ownBlock])).trans (by simp)
       have B4 : Below w.heap.size w w4 := Below.grown (by repeat (first | exact Below.refl _ _ | refine Below.drew ?_ | refine Below.alloc ?_ (by simp <;> omega) _)) g4 (by simp <;> omega) (fun k h => by simp [Value.ownBlock] at h))
    | (refine step_append_lies _ rfl (.tmp 15) (.tmp 19) 32 rfl w.heap.size 49 i0 (.agg #[.int .i64 0, .int .i64 0, .int .i64 0]) 3 24 Tryd.underlying32 hi hz0 hz1 hz2 rfl (by decide) v (0 + 7) ([] ++ ((l.drop 3) : List Int).map (Value.int .i64)) rfl (by first | exact own4 | exact World.ownsRow.alloc own4 _) _ 1 1 [.int .i64 x, .int .i64 y, .int .i64 r] rfl rfl
         (World.news_of_block (cs := #[.int .i64 x, .int .i64 y, .int .i64 r]) (t := 49) (fr := (0, 0)) (by first | exact heap_alloc_new _ _ | exact (g4.block _ (by simp <;> omega) (by simp [Value.ownBlock])).trans (by have : ((w.alloc (.cells #[.int .i64 x, .int .i64 y] 46)).alloc (.cells #[.int .i64 x, .int .i64 y, .int .i64 r] 49)).drew.heap[(w.alloc (.cells #[.int .i64 x, .int .i64 y] 46)).heap.size]? = some _ := heap_alloc_new _ _; simpa using this)))
         (by intro u hu; simp at hu; rcases hu with rfl | rfl | rfl <;> rfl) (by omega) (by unfold maxLen; omega) (by omega) (by have := B4.size; simp; omega) _ rfl ?_
       intro gg cap w6 own6 gr6 _ _))
  all_goals go_wp2
  all_goals go_ret
  all_goals
    have own7 : w6.ownsRow w.heap.size 49 3 (.slice (some ⟨gg, 0, none⟩) 8 cap) 8 (((l.drop 3) : List Int).map (Value.int .i64) ++ [.int .i64 x, .int .i64 y, .int .i64 r]) := by simpa using own6
    refine ⟨.slice (some ⟨gg, 0, none⟩) 8 cap, by first | rfl | simp, own7, ?_⟩
    first
      | exact Below.grown B4 gr6 B4.size (fun k h => (World.ownsRow.lt own4 k h).1)
      | exact Below.grown (B4.alloc B4.size _) gr6 (by have := B4.size; simp; omega) (fun k h => (World.ownsRow.lt own4 k h).1)

set_option maxRecDepth 100000 in
set_option maxHeartbeats 8000000 in
theorem RAdd_nil {x y r : Int} {w : World} : Calls Tryd.prog 41 #[.slice none 0 0, .agg #[.int .i64 x, .int .i64 y], .int .i64 r] w fun rr w' => ∃ v, rr = .returned v ∧ w'.ownsRow w.heap.size 49 3 v (0 + 1) (([] : List Int).map (Value.int .i64) ++ [.int .i64 x, .int .i64 y, .int .i64 r]) ∧ Below w.heap.size w w' := by
  obtain ⟨i0, hi, hz0, hz1, hz2⟩ := info_parts infoSeen
  have v0 : IntKind.i64.wrap (-7) = -7 := by decide
  have R1 : Rng w none 0 0 [] := ⟨rfl, Nat.le_refl _, fun h => absurd h (by omega)⟩
  have RA : ∀ W, Below w.heap.size w W → Rng W _ _ _ _ := fun W b => R1.keep b
  go_enter Tryd.func41, Tryd.ntmps41
  go_wp2_with fail
  go_region_law (first
    | (refine step_append_rng rfl (.const (.slice none 0 0)) (.tmp 14) rfl w.heap.size (.slice none 0 0) 0 [] rfl (World.ownsRow_nil _ _ _ _) rfl (RA _ (by repeat (first | exact Below.refl _ _ | refine Below.drew ?_ | refine Below.alloc ?_ (by simp <;> omega) _))) (Or.inl rfl) (by omega) (by simp <;> omega) ?_
       intro v w4 own4 g4
       have hv4 := Lib.hid (show (0 : Nat) ≤ 0 from Nat.le_refl _)
       have bx0 : w4.cell? ⟨w.heap.size, 0, none⟩ = some (.int .i64 x) := (gro_cell (p := ⟨w.heap.size, 0, none⟩) g4 (by simp <;> omega) (by simp [Value.ownBlock])).trans (by simp)
       have bx1 : w4.cell? ⟨w.heap.size, 1, none⟩ = some (.int .i64 y) := (gro_cell (p := ⟨w.heap.size, 1, none⟩) g4 (by simp <;> omega) (by simp [Value.ownBlock])).trans (by simp)
       have B4 : Below w.heap.size w w4 := Below.grown (by repeat (first | exact Below.refl _ _ | refine Below.drew ?_ | refine Below.alloc ?_ (by simp <;> omega) _)) g4 (by simp <;> omega) (fun k h => by simp [Value.ownBlock] at h))
    | (refine step_append_lies _ rfl (.tmp 15) (.tmp 19) 32 rfl w.heap.size 49 i0 (.agg #[.int .i64 0, .int .i64 0, .int .i64 0]) 3 24 Tryd.underlying32 hi hz0 hz1 hz2 rfl (by decide) v (0 + 0) ([] ++ ([] : List Int).map (Value.int .i64)) rfl (by first | exact own4 | exact World.ownsRow.alloc own4 _) _ 1 1 [.int .i64 x, .int .i64 y, .int .i64 r] rfl rfl
         (World.news_of_block (cs := #[.int .i64 x, .int .i64 y, .int .i64 r]) (t := 49) (fr := (0, 0)) (by first | exact heap_alloc_new _ _ | exact (g4.block _ (by simp <;> omega) (by simp [Value.ownBlock])).trans (by have : ((w.alloc (.cells #[.int .i64 x, .int .i64 y] 46)).alloc (.cells #[.int .i64 x, .int .i64 y, .int .i64 r] 49)).drew.heap[(w.alloc (.cells #[.int .i64 x, .int .i64 y] 46)).heap.size]? = some _ := heap_alloc_new _ _; simpa using this)))
         (by intro u hu; simp at hu; rcases hu with rfl | rfl | rfl <;> rfl) (by omega) (by unfold maxLen; omega) (by omega) (by have := B4.size; simp; omega) _ rfl ?_
       intro gg cap w6 own6 gr6 _ _))
  all_goals go_wp2
  all_goals go_ret
  all_goals
    have own7 : w6.ownsRow w.heap.size 49 3 (.slice (some ⟨gg, 0, none⟩) (0 + 1) cap) (0 + 1) (([] : List Int).map (Value.int .i64) ++ [.int .i64 x, .int .i64 y, .int .i64 r]) := by simpa using own6
    refine ⟨.slice (some ⟨gg, 0, none⟩) (0 + 1) cap, by first | rfl | simp, own7, ?_⟩
    first
      | exact Below.grown B4 gr6 B4.size (fun k h => (World.ownsRow.lt own4 k h).1)
      | exact Below.grown (B4.alloc B4.size _) gr6 (by have := B4.size; simp; omega) (fun k h => (World.ownsRow.lt own4 k h).1)

theorem RAdd_own {w : World} {B n c : Nat} {A : Option Addr} {L : List Int} (S : Own w B A n c L) (hn : n ≤ 8) (x y r : Int) : Calls Tryd.prog 41 #[.slice A n c, .agg #[.int .i64 x, .int .i64 y], .int .i64 r] w fun e w' => ∃ A' c', e = .returned (.slice A' (more n) c') ∧ Own w' w.heap.size A' (more n) c' (kept n L ++ [x, y, r]) ∧ Below w.heap.size w w' := by
  unfold more kept Own
  have R := S.rng
  rcases S.form with ⟨rfl, rfl, rfl, rfl⟩ | ⟨g, rfl, hb, hnc, hc⟩
  · refine RAdd_nil.mono ?_
    rintro r w' ⟨v, rfl, own, b⟩
    obtain ⟨A', c', rfl⟩ := own_sl own
    exact ⟨_, _, rfl, by simpa using own, b⟩
  · by_cases h8 : n = 8
    · subst h8
      refine (RAdd_8 R).mono ?_
      rintro r w' ⟨v, rfl, own, b⟩
      obtain ⟨A', c', rfl⟩ := own_sl own
      exact ⟨_, _, rfl, by simpa using own, b⟩
    · refine (RAdd_lo R (by omega)).mono ?_
      rintro r w' ⟨v, rfl, own, b⟩
      obtain ⟨A', c', rfl⟩ := own_sl own
      rw [if_neg h8, if_neg h8]
      exact ⟨_, _, rfl, by simpa using own, b⟩
end Go.Proofs.YtekcemncmgingaaDoor.YErr
