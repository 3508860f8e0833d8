/- Package table, buffer: ranges that are kept: slices.Clone of them. No condition. -/
import Derived.Test.YtekcemncmgingaaDoorYTable4
namespace Go.Proofs.YtekcemncmgingaaDoor.YErr
open Go.RowKit Go.Extern.Stop Go.Stop Go.Extern
set_option linter.unusedVariables false
set_option linter.unusedSimpArgs false
theorem infoSeen : (Tryd.prog.info? 49).map (fun i => (i.zero, i.size, i.bytes)) = some (some (.agg #[.int .i64 0, .int .i64 0, .int .i64 0]), 3, 24) := by kernel_rfl
theorem eqsome (a : Addr) (n c : Nat) (w : World) : (binOp .eql 32 (.slice (some a) n c) (.slice none 0 0)).run Tryd.prog w = .ok (.bool false) w := by kernel_rfl
/-- Ranges lie there, three numbers each. -/
def SeenAt (w : World) (g o : Nat) (l : List Int) : Prop := ∀ j, j < l.length → w.cell? ⟨g, o + j, none⟩ = some (.int .i64 (l.getD j 0))
set_option maxRecDepth 100000 in
set_option maxHeartbeats 8000000 in
theorem Clone_row {g o n c : Nat} {l : List Int} {w : World} (hl : l.length = n * 3) (hc : SeenAt w g o l) (hn : n ≤ 100) : Calls Tryd.prog 49 #[.slice (some ⟨g, o, none⟩) n c] w fun r w' => ∃ v, r = .returned v ∧ w'.ownsRow w.heap.size 49 3 v n (l.map (Value.int .i64)) ∧ Below w.heap.size w w' := by
  obtain ⟨i0, hi, hz0, hz1, hz2⟩ := info_parts infoSeen
  have e := eqsome
  have b1 : Below w.heap.size w (w.alloc (.cells #[] 49)) := (Below.refl _ _).alloc (Nat.le_refl _) _
  have own : (w.alloc (.cells #[] 49)).ownsRow w.heap.size 49 3 (.slice (some ⟨w.heap.size, 0, none⟩) 0 0) 0 [] :=
    ⟨rfl, .inr ⟨w.heap.size, 0, #[], rfl, Nat.le_refl _, heap_alloc_new w _, Nat.le_refl _, by unfold maxLen; omega, rfl, rfl⟩⟩
  have hc1 : ∀ j, j < l.length → (w.alloc (.cells #[] 49)).cell? ⟨g, o + j, none⟩ = some (.int .i64 (l.getD j 0)) := fun j hj => (b1.cell (p := ⟨g, o + j, none⟩) (World.block_lt_of_cell? w ⟨g, o + j, none⟩ (hc j hj))).trans (hc j hj)
  have hsz := b1.size
  generalize hW : w.alloc (.cells #[] 49) = W at *
  have HL := Lib.hid hl
  have HC := Lib.hid hc1
  clear hl hc hc1
  go_enter Tryd.func49, Tryd.ntmps49
  go_wp2_with (first
    | (at_builtin; refine wpList_append_own _ rfl (.tmp 5) (.tmp 6) 32 rfl w.heap.size 49 i0 (.agg #[.int .i64 0, .int .i64 0, .int .i64 0]) 3 24 Tryd.underlying32 hi hz0 hz1 hz2 rfl (by decide) (.slice (some ⟨w.heap.size, 0, none⟩) 0 0) 0 [] rfl own ⟨g, o, none⟩ n c (l.map (Value.int .i64)) rfl ?p1 ?p2 ?p3 ?p4 ?p5 ?p6 ?_)
    | go_in)
  case p1 => simpa using HL.out
  case p2 =>
    intro j u hj
    have hjn : j < l.length := by
      have := (List.getElem?_eq_some_iff.1 hj).1
      simpa using this
    have h := HC.out j hjn
    have ea : (⟨g, o, none⟩ : Addr).add j = ⟨g, o + j, none⟩ := by
      unfold Addr.add
      split
      · rename_i h; subst h; rfl
      · rfl
    rw [ea, h, ← hj]
    simp [List.getD, hjn]
  case p3 => intro u hu; obtain ⟨x, _, rfl⟩ := List.mem_map.1 hu; rfl
  case p4 => unfold maxLen; omega
  case p5 => omega
  case p6 => exact hsz
  intro v' w3 hown3 hgrow _
  have hb3 : Below w.heap.size w w3 := b1.grown hgrow hsz (fun k h => (World.ownsRow.lt own k h).1)
  go_wp2
  go_ret
  exact ⟨_, rfl, by simpa using hown3, hb3⟩
end Go.Proofs.YtekcemncmgingaaDoor.YErr
