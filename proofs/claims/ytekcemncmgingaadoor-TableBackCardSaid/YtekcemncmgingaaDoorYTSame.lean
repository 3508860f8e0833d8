/- Ranges, beacons held against one another (leadlinehelp.Seen, Beacons): where both are the same, the answer is yes. No condition. -/
import Derived.Test.YtekcemncmgingaaDoorYTable9
import Derived.Test.YtekcemncmgingaaDoorYTRef
import Derived.Laws.StructEq
namespace Go.Proofs.YtekcemncmgingaaDoor.YErr
open Go.RowKit Go.Extern.Stop Go.Stop Go.Extern
set_option linter.unusedVariables false
set_option linter.unusedSimpArgs false
/-- What is known of a slot: is there a beacon, its number, whether it is placed, its score, its ranges. -/
structure Ms where
  th : Bool
  id : Int
  pl : Bool
  sc : Int
  n : Nat
  L : List Int
def Ms.zero : Ms := ⟨false, 0, false, 0, 0, []⟩
def Ms.new (id : Int) : Ms := ⟨true, id, false, 0, 0, []⟩
/-- Ranges that may be read. -/
def Rng (w : World) (A : Option Addr) (n c : Nat) (L : List Int) : Prop := L.length = n * 3 ∧ n ≤ c ∧ (0 < n → ∃ g o, A = some ⟨g, o, none⟩ ∧ SeenAt w g o L)
theorem SeenAt.keep {w w' : World} {g o : Nat} {L : List Int} (h : SeenAt w g o L) (b : Below w.heap.size w w') : SeenAt w' g o L := fun j hj => (b.cell (p := ⟨g, o + j, none⟩) (World.block_lt_of_cell? w ⟨g, o + j, none⟩ (h j hj))).trans (h j hj)
theorem Rng.keep {w w' : World} {A : Option Addr} {n c : Nat} {L : List Int} (h : Rng w A n c L) (b : Below w.heap.size w w') : Rng w' A n c L :=
  ⟨h.1, h.2.1, fun hn => by obtain ⟨g, o, e, s⟩ := h.2.2 hn; exact ⟨g, o, e, s.keep b⟩⟩
theorem Own.rng {w : World} {B n c : Nat} {A : Option Addr} {L : List Int} (S : Own w B A n c L) : Rng w A n c L := by
  have hl := S.len
  rcases S.form with ⟨rfl, rfl, rfl, rfl⟩ | ⟨g, rfl, hb, hnc, hc⟩
  · exact ⟨rfl, Nat.le_refl _, fun h => absurd h (by omega)⟩
  · exact ⟨hl, hnc, fun _ => ⟨g, 0, rfl, hc⟩⟩
set_option maxRecDepth 100000 in
set_option maxHeartbeats 4000000 in
theorem Seen_c {w : World} {A A' : Option Addr} {n c c' : Nat} {L : List Int} (R : Rng w A n c L) (R' : Rng w A' n c' L) (hn : n ≤ 100) :
    Calls Tryd.prog 47 #[.slice A n c, .slice A' n c'] w fun r w' => r = .returned (.bool true) ∧ ∃ k, w' = w.drewN k := by
  rcases Nat.eq_zero_or_pos n with rfl | hp
  · clear R R'
    go_enter Tryd.func47, Tryd.ntmps47
    go_wp2
    refine wp_loop_rounds 1 ?_
    rw [rounds_succ]
    go_wp2
    go_ret
    exact ⟨rfl, 0, rfl⟩
  · obtain ⟨hl, hc, h⟩ := R
    obtain ⟨hl', hc', h'⟩ := R'
    obtain ⟨g, o, rfl, S⟩ := h hp
    obtain ⟨g', o', rfl, S'⟩ := h' hp
    clear h h'
    have HL := Lib.hid hl
    have HS := Lib.hid S
    have HS' := Lib.hid S'
    clear hl hl' S S'
    go_enter Tryd.func47, Tryd.ntmps47
    go_wp2
    go_loopw [5] (fun i wr => ∃ j : Nat, j ≤ n ∧ i = .int .i64 j ∧ ∃ k, wr = w.drewN k) (fun i _ => n - (intOf i).toNat)
    case atStart => exact ⟨0, Nat.zero_le _, rfl, 0, rfl⟩
    case round =>
      obtain ⟨j, hj, rfl, k, rfl⟩ := hrel
      by_cases hlt : j < n
      · have e0 := HS.out (j * 3) (by rw [HL.out]; omega)
        have e1 := HS.out (j * 3 + 1) (by rw [HL.out]; omega)
        have e2 := HS.out (j * 3 + 2) (by rw [HL.out]; omega)
        have d0 := HS'.out (j * 3) (by rw [HL.out]; omega)
        have d1 := HS'.out (j * 3 + 1) (by rw [HL.out]; omega)
        have d2 := HS'.out (j * 3 + 2) (by rw [HL.out]; omega)
        generalize L.getD (j * 3) 0 = x at *
        generalize L.getD (j * 3 + 1) 0 = y at *
        generalize L.getD (j * 3 + 2) 0 = r at *
        rw [← Nat.add_assoc] at e1 e2 d1 d2
        go_wp2
        go_quiet (fail)
        go_wp2
        go_roundw
        case rel => exact ⟨j + 1, by omega, by go_num, _, rfl⟩
        case measure => simp [intOf]; omega
      · obtain rfl : j = n := by omega
        go_wp2
        go_ret
        exact ⟨rfl, k, rfl⟩
/-- A beacon that may be read. -/
def BcAt (w : World) (g o : Nat) (m : Ms) : Prop := ∃ A c, w.cell? ⟨g, o, none⟩ = some (.int .u8 m.id) ∧ w.cell? ⟨g, o + 1, none⟩ = some (.bool m.pl) ∧ w.cell? ⟨g, o + 2, none⟩ = some (.int .i64 m.sc) ∧ w.cell? ⟨g, o + 3, none⟩ = some (.slice A m.n c) ∧ Rng w A m.n c m.L
theorem BcAt.keep {w w' : World} {g o : Nat} {m : Ms} (h : BcAt w g o m) (b : Below w.heap.size w w') : BcAt w' g o m := by
  obtain ⟨A, c, h0, h1, h2, h3, R⟩ := h
  exact ⟨A, c, (b.cell (World.block_lt_of_cell? w _ h0)).trans h0, (b.cell (World.block_lt_of_cell? w _ h1)).trans h1, (b.cell (World.block_lt_of_cell? w _ h2)).trans h2, (b.cell (World.block_lt_of_cell? w _ h3)).trans h3, R.keep b⟩
def BcsAt (w : World) (g o : Nat) (l : List Ms) : Prop := ∀ j (h : j < l.length), BcAt w g (o + j * 4) l[j]
theorem BcsAt.keep {w w' : World} {g o : Nat} {l : List Ms} (h : BcsAt w g o l) (b : Below w.heap.size w w') : BcsAt w' g o l := fun j hj => (h j hj).keep b
theorem quiet_two {P : Program} {f : FuncId} {args : Array Value} {w : World} {k n : Nat} {v : Value} (h : Calls P f args (w.drewN (k + n)) fun e w' => e = .returned v ∧ ∃ m, w' = (w.drewN (k + n)).drewN m) : Calls P f args (w.drewN (k + n)) fun e w'' => e = .returned v ∧ ∃ m, w'' = w.drewN (k + m) :=
  h.mono fun _ _ ⟨he, m, hm⟩ => ⟨he, n + m, by rw [hm, World.drewN_drewN, Nat.add_assoc]⟩
set_option maxRecDepth 100000 in
set_option maxHeartbeats 4000000 in
theorem Beacons_c {w : World} {g o c g' o' c' : Nat} {l : List Ms} (X : BcsAt w g o l) (X' : BcsAt w g' o' l) (hl : l.length ≤ 10) (hc : l.length ≤ c) (hc' : l.length ≤ c') (hn : ∀ m ∈ l, m.n ≤ 100) :
    Calls Tryd.prog 31 #[.slice (some ⟨g, o, none⟩) l.length c, .slice (some ⟨g', o', none⟩) l.length c'] w fun r w' => r = .returned (.bool true) ∧ ∃ k, w' = w.drewN k := by
  have HX := Lib.hid X
  have HX' := Lib.hid X'
  have HN := Lib.hid hn
  clear X X' hn
  go_enter Tryd.func31, Tryd.ntmps31
  go_wp2
  go_loopw [5] (fun i wr => ∃ j : Nat, j ≤ l.length ∧ i = .int .i64 j ∧ ∃ k, wr = w.drewN k) (fun i _ => l.length - (intOf i).toNat)
  case atStart => exact ⟨0, Nat.zero_le _, rfl, 0, rfl⟩
  case round =>
    obtain ⟨j, hj, rfl, k, rfl⟩ := hrel
    by_cases hlt : j < l.length
    · obtain ⟨A, d, e0, e1, e2, e3, R⟩ := HX.out j hlt
      obtain ⟨A', d', f0, f1, f2, f3, R'⟩ := HX'.out j hlt
      have hm := HN.out l[j] (List.getElem_mem hlt)
      generalize l[j] = m at *
      have SC := fun n => Seen_c (w := w.drewN (k + n)) (R.keep (below_drewN (Below.refl _ _) _)) (R'.keep (below_drewN (Below.refl _ _) _)) hm
      have hlt' : (j : Int) < (l.length : Int) := by omega
      clear R R'
      go_wp2
      go_quiet ((go_at_call 47; exact quiet_two (SC _)))
      go_wp2
      go_roundw
      case rel => exact ⟨j + 1, by omega, by go_num, _, rfl⟩
      case measure => simp [intOf]; omega
    · obtain rfl : j = l.length := by omega
      go_wp2
      go_ret
      exact ⟨rfl, k, rfl⟩
end Go.Proofs.YtekcemncmgingaaDoor.YErr
