/- Package store: what a store holds, and what each method does to it. No condition. -/
import Derived.Test.YtbfflffekdadnaaDoorYSays25
import Derived.Test.YtbfflffekdadnaaDoorYBlk
import Derived.Test.YtbfflffekdadnaaDoorYInv
import Derived.Laws.MakeOwn
import Derived.Laws.OwnMore
import Derived.Test.YtbfflffekdadnaaDoorWLast
import Derived.Test.YtbfflffekdadnaaDoorWMore
namespace Go.Proofs.YtbfflffekdadnaaDoor.YErr
open Go.RowKit Go.Extern.Stop Go.Stop Go.Extern Go.Proofs.YtbfflffekdadnaaDoorW.PrintWords Go.Proofs.YtbfflffekdadnaaDoorW.PrintLast
set_option linter.unusedVariables false
set_option linter.unusedSimpArgs false

/-- Bytes in memory. -/
def Byt (w : World) (b : Nat) (l : List Int) : Prop := Blk w b (l.map (Value.int .u8)).toArray 5
/-- A store: where it lies, its bytes, how many more may be written, whether the power is gone. -/
def Sto (w : World) (p b : Nat) (l : List Int) (left : Int) (down : Bool) : Prop :=
  Blk w p #[.slice (some ⟨b, 0, none⟩) l.length l.length, .int .i64 left, .bool down] 76 ∧ Byt w b l ∧ b ≠ p ∧ l.length ≤ 4096
theorem info_byte : (Tryd.prog.info? 5).map (fun i => (i.zero, i.size, i.bytes)) = some (some (.int .u8 0), 1, 1) := by kernel_rfl
theorem made_bytes (k : Int) (c : Nat) (hk : k = c) (hc : c ≤ 4096) (w : World) :
    (Instr.makeSlice 59 (.int .i64 k) (.int .i64 k)).run Tryd.prog w = .ok (.slice (some ⟨w.heap.size, 0, none⟩) c c) (w.alloc (.cells ((List.replicate c (0 : Int)).map (Value.int .u8)).toArray 5)) := by
  subst hk
  have e1 : madeCells #[.int .u8 0] c = ((List.replicate c (0 : Int)).map (Value.int .u8)).toArray := by
    apply Array.toList_inj.1
    have := toList_madeCells_one (Value.int .u8 0) c
    simpa using this
  have h := run_make_row' (P := Tryd.prog) 59 5 (.int .u8 0) 1 Tryd.underlying59 info_byte rfl .i64 .i64 c (by omega) (by omega) w
  rw [← e1]
  exact h
set_option maxRecDepth 100000 in
set_option maxHeartbeats 1000000 in
theorem New_calls (n : Int) (w : World) :
    Calls Tryd.prog 25 #[.int .i64 n] w fun e w' => e = .returned (.pointer (some ⟨w.heap.size + 1, 0, none⟩)) ∧ Sto w' (w.heap.size + 1) w.heap.size (List.replicate (mn (mx n 0) 4096).toNat 0) (-1) false ∧ Below w.heap.size w w' := by
  obtain ⟨c, hc, c1⟩ : ∃ c : Nat, mn (mx n 0) 4096 = c ∧ c ≤ 4096 := ⟨(mn (mx n 0) 4096).toNat, by unfold mn mx; repeat' split <;> omega, by unfold mn mx; repeat' split <;> omega⟩
  have hn : (n < 0 ∧ c = 0) ∨ (4096 < n ∧ c = 4096) ∨ (0 ≤ n ∧ n ≤ 4096 ∧ n = c) := by
    unfold mn mx at hc
    revert hc; repeat' split <;> omega
  rw [hc, Int.toNat_natCast]
  clear hc
  have hmk := fun (k : Int) (hk : k = c) => made_bytes k c hk c1
  have fin : ∀ W : World, W = (w.alloc (.cells ((List.replicate c (0 : Int)).map (Value.int .u8)).toArray 5)).alloc (.cells #[.slice (some ⟨w.heap.size, 0, none⟩) c c, .int .i64 (-1), .bool false] 76) → Sto W (w.heap.size + 1) w.heap.size (List.replicate c 0) (-1) false ∧ Below w.heap.size w W := by
    rintro W rfl
    have k0 := (Blk.new w ((List.replicate c (0 : Int)).map (Value.int .u8)).toArray 5).alloc (.cells #[.slice (some ⟨w.heap.size, 0, none⟩) c c, .int .i64 (-1), .bool false] 76)
    have k1 := Blk.new (w.alloc (.cells ((List.replicate c (0 : Int)).map (Value.int .u8)).toArray 5)) #[.slice (some ⟨w.heap.size, 0, none⟩) c c, .int .i64 (-1), .bool false] 76
    refine ⟨⟨?_, k0, by omega, by simpa using c1⟩, ((Below.refl _ _).alloc (Nat.le_refl _) _).alloc (by simp) _⟩
    simpa using k1
  rcases hn with ⟨h, rfl⟩ | ⟨h, rfl⟩ | ⟨h, h2, rfl⟩
  · have m0 := hmk 0 rfl
    clear hmk
    go_enter Tryd.func25, Tryd.ntmps25
    go_wp2
    go_ret
    exact ⟨rfl, fin _ rfl⟩
  · have m0 := hmk 4096 rfl
    clear hmk
    go_enter Tryd.func25, Tryd.ntmps25
    go_wp2
    go_ret
    exact ⟨rfl, fin _ rfl⟩
  · have m0 := hmk c rfl
    clear hmk
    go_enter Tryd.func25, Tryd.ntmps25
    go_wp2
    go_ret
    exact ⟨rfl, fin _ (by simp)⟩
section
variable {w : World} {p b : Nat} {l : List Int} {left : Int} {down : Bool}
set_option maxHeartbeats 1000000 in
theorem Len_calls (h : Sto w p b l left down) : Calls Tryd.prog 26 #[.pointer (some ⟨p, 0, none⟩)] w fun e w' => e = .returned (.int .i64 l.length) ∧ w' = w := by
  have c0 : w.cell? ⟨p, 0, none⟩ = some (.slice (some ⟨b, 0, none⟩) l.length l.length) := Blk.cell h.1 0
  clear h
  go_enter Tryd.func26, Tryd.ntmps26
  go_wp2
  go_ret
  exact ⟨rfl, rfl⟩
set_option maxHeartbeats 1000000 in
theorem Down_calls (h : Sto w p b l left down) : Calls Tryd.prog 30 #[.pointer (some ⟨p, 0, none⟩)] w fun e w' => e = .returned (.bool down) ∧ w' = w := by
  have c0 : w.cell? ⟨p, 2, none⟩ = some (.bool down) := Blk.cell h.1 2
  clear h
  go_enter Tryd.func30, Tryd.ntmps30
  go_wp2
  go_ret
  exact ⟨rfl, rfl⟩
set_option maxHeartbeats 2000000 in
theorem out_ok {a n : Int} (h : Sto w p b l left false) (a0 : 0 ≤ a) (n0 : 0 ≤ n) (an : a + n ≤ l.length) : Calls Tryd.prog 39 #[.pointer (some ⟨p, 0, none⟩), .int .i64 a, .int .i64 n] w fun e w' => e = .returned .nilIface ∧ w' = w := by
  have c0 : w.cell? ⟨p, 0, none⟩ = some (.slice (some ⟨b, 0, none⟩) l.length l.length) := Blk.cell h.1 0
  have c2 : w.cell? ⟨p, 2, none⟩ = some (.bool false) := Blk.cell h.1 2
  have l1 := h.2.2.2
  clear h
  go_enter Tryd.func39, Tryd.ntmps39
  go_wp2
  go_ret
  exact ⟨rfl, rfl⟩
set_option maxHeartbeats 2000000 in
theorem out_down {a n : Int} (h : Sto w p b l left true) : Calls Tryd.prog 39 #[.pointer (some ⟨p, 0, none⟩), .int .i64 a, .int .i64 n] w fun e w' => ∃ v, e = .returned v ∧ ErrFrom op25 w.heap.size w' v 40 ∧ Below w.heap.size w w' := by
  have c2 : w.cell? ⟨p, 2, none⟩ = some (.bool true) := Blk.cell h.1 2
  have B := fun W => Wrap_from op25 40 (by decide) W
  unfold op25 at B
  clear h
  go_enter Tryd.func39, Tryd.ntmps39
  go_wp2_with (first | (go_at_call 33; refine (B _).mono ?_; rintro e w3 ⟨v, rfl, hv, hb⟩) | go_in)
  go_ret
  exact ⟨_, rfl, hv, hb⟩
set_option maxHeartbeats 4000000 in
theorem out_range {a n : Int} (h : Sto w p b l left false) (hr : a < 0 ∨ n < 0 ∨ (l.length : Int) < a ∨ (l.length : Int) < a + n) : Calls Tryd.prog 39 #[.pointer (some ⟨p, 0, none⟩), .int .i64 a, .int .i64 n] w fun e w' => ∃ v, e = .returned v ∧ ErrFrom op25 w.heap.size w' v 20 ∧ Below w.heap.size w w' := by
  have c0 : w.cell? ⟨p, 0, none⟩ = some (.slice (some ⟨b, 0, none⟩) l.length l.length) := Blk.cell h.1 0
  have c2 : w.cell? ⟨p, 2, none⟩ = some (.bool false) := Blk.cell h.1 2
  have B := fun W => Wrap_from op25 20 (by decide) W
  unfold op25 at B
  have l1 := h.2.2.2
  clear h
  have hr' : a < 0 ∨ (0 ≤ a ∧ n < 0) ∨ (0 ≤ a ∧ 0 ≤ n ∧ (l.length : Int) < a) ∨ (0 ≤ a ∧ 0 ≤ n ∧ a ≤ l.length ∧ (l.length : Int) - a < n) := by omega
  clear hr
  rcases hr' with h | ⟨h, h2⟩ | ⟨h, h2, h3⟩ | ⟨h, h2, h3, h4⟩
  all_goals
    go_enter Tryd.func39, Tryd.ntmps39
    go_wp2_with (first | (go_at_call 33; refine (B _).mono ?_; rintro e w3 ⟨v, rfl, hv, hb⟩) | go_in)
    go_ret
    exact ⟨_, rfl, hv, hb⟩
theorem sto_left (h : Sto w p b l left down) (v : Int) : Sto (w.setCell ⟨p, 1, none⟩ (.int .i64 v)) p b l v down :=
  ⟨h.1.set 1 (.int .i64 v), Blk.setOther h.2.1 (Ne.symm h.2.2.1) _, h.2.2⟩
set_option maxHeartbeats 2000000 in
theorem Cut_calls (n : Int) (h : Sto w p b l left down) : Calls Tryd.prog 29 #[.pointer (some ⟨p, 0, none⟩), .int .i64 n] w fun e w' => e = .returned (.tuple #[]) ∧ Sto w' p b l (mx n 0) down ∧ w.grownBy w' (some p) := by
  have c1 : w.cell? ⟨p, 1, none⟩ = some (.int .i64 left) := Blk.cell h.1 1
  have f1 := Blk.free h.1 1
  by_cases hn : n < 0
  · go_enter Tryd.func29, Tryd.ntmps29
    go_wp2
    go_end0
    exact ⟨rfl, by rw [show mx n 0 = 0 by unfold mx; split <;> omega]; exact sto_left h 0, gro_set (gro_refl _ _) _ _⟩
  · have hn' : 0 ≤ n := by omega
    clear hn
    go_enter Tryd.func29, Tryd.ntmps29
    go_wp2
    go_end0
    exact ⟨rfl, by rw [show mx n 0 = n by unfold mx; split <;> omega]; exact sto_left h n, gro_set (gro_refl _ _) _ _⟩
set_option maxHeartbeats 2000000 in
theorem Reopen_calls (h : Sto w p b l left down) : Calls Tryd.prog 31 #[.pointer (some ⟨p, 0, none⟩)] w fun e w' => e = .returned (.tuple #[]) ∧ Sto w' p b l (-1) false ∧ w.grownBy w' (some p) := by
  have c1 : w.cell? ⟨p, 1, none⟩ = some (.int .i64 left) := Blk.cell h.1 1
  have f1 := Blk.free h.1 1
  have c2 : w.cell? ⟨p, 2, none⟩ = some (.bool down) := Blk.cell h.1 2
  have f2 := Blk.free h.1 2
  go_enter Tryd.func31, Tryd.ntmps31
  go_wp2
  go_end0
  exact ⟨rfl, ⟨(h.1.set 1 (.int .i64 (-1))).set 2 (.bool false), Blk.setOther (Blk.setOther h.2.1 (Ne.symm h.2.2.1) _) (Ne.symm h.2.2.1) _, h.2.2⟩, gro_set (gro_set (gro_refl _ _) _ _) _ _⟩
end
end Go.Proofs.YtbfflffekdadnaaDoor.YErr
