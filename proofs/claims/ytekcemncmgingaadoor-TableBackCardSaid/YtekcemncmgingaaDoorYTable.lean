/- Package table: its three slots in memory, and what New, Slot, See, is, Drop make of them. No condition. -/
import Derived.Test.YtekcemncmgingaaDoorYSays24
import Derived.Test.YtekcemncmgingaaDoorYBlk
import Derived.Laws.Rows
import Derived.Laws.Tables
import Derived.IntWalk
import Derived.Lib.Hide
import Derived.Deep.QuietTactic
import Derived.BigQuiet
namespace Go.Proofs.YtekcemncmgingaaDoor.YErr
open Go.RowKit Go.Extern.Stop Go.Stop Go.Extern
set_option linter.unusedVariables false
set_option linter.unusedSimpArgs false

/-- A slot: is there a beacon, its number, whether it is placed, its score, its ranges. -/
structure Sl where
  th : Bool
  id : Int
  pl : Bool
  sc : Int
  sa : Option Addr
  sn : Nat
  cp : Nat
def Sl.none : Sl := ⟨false, 0, false, 0, Option.none, 0, 0⟩
def Sl.new (id : Int) : Sl := ⟨true, id, false, 0, Option.none, 0, 0⟩
def scs (a : Sl) : Array Value := #[.bool a.th, .int .u8 a.id, .bool a.pl, .int .i64 a.sc, .slice a.sa a.sn a.cp]
def tcs (a b c : Sl) : Array Value := #[.bool a.th, .int .u8 a.id, .bool a.pl, .int .i64 a.sc, .slice a.sa a.sn a.cp, .bool b.th, .int .u8 b.id, .bool b.pl, .int .i64 b.sc, .slice b.sa b.sn b.cp, .bool c.th, .int .u8 c.id, .bool c.pl, .int .i64 c.sc, .slice c.sa c.sn c.cp]
/-- The table lies there. -/
def Tb (w : World) (p : Nat) (a b c : Sl) : Prop := Blk w p (tcs a b c) 82
theorem part0 (x0 x1 x2 x3 x4 x5 x6 x7 x8 x9 x10 x11 x12 x13 x14 : Value) (W : World) : (Instr.index 80 (.agg #[x0, x1, x2, x3, x4, x5, x6, x7, x8, x9, x10, x11, x12, x13, x14]) (.int .i64 0)).run Tryd.prog W = .ok (.agg #[x0, x1, x2, x3, x4]) W := by kernel_rfl
theorem part1 (x0 x1 x2 x3 x4 x5 x6 x7 x8 x9 x10 x11 x12 x13 x14 : Value) (W : World) : (Instr.index 80 (.agg #[x0, x1, x2, x3, x4, x5, x6, x7, x8, x9, x10, x11, x12, x13, x14]) (.int .i64 1)).run Tryd.prog W = .ok (.agg #[x5, x6, x7, x8, x9]) W := by kernel_rfl
theorem part2 (x0 x1 x2 x3 x4 x5 x6 x7 x8 x9 x10 x11 x12 x13 x14 : Value) (W : World) : (Instr.index 80 (.agg #[x0, x1, x2, x3, x4, x5, x6, x7, x8, x9, x10, x11, x12, x13, x14]) (.int .i64 2)).run Tryd.prog W = .ok (.agg #[x10, x11, x12, x13, x14]) W := by kernel_rfl
theorem at0 (a b c : Sl) (W : World) : (Instr.index 80 (.agg (tcs a b c)) (.int .i64 0)).run Tryd.prog W = .ok (.agg (scs a)) W := part0 _ _ _ _ _ _ _ _ _ _ _ _ _ _ _ W
theorem at1 (a b c : Sl) (W : World) : (Instr.index 80 (.agg (tcs a b c)) (.int .i64 1)).run Tryd.prog W = .ok (.agg (scs b)) W := part1 _ _ _ _ _ _ _ _ _ _ _ _ _ _ _ W
theorem at2 (a b c : Sl) (W : World) : (Instr.index 80 (.agg (tcs a b c)) (.int .i64 2)).run Tryd.prog W = .ok (.agg (scs c)) W := part2 _ _ _ _ _ _ _ _ _ _ _ _ _ _ _ W
theorem info_s : (Tryd.prog.info? 79).map (·.size) = some 5 := by kernel_rfl
theorem info_t : (Tryd.prog.info? 80).map (·.size) = some 15 := by kernel_rfl
theorem bbT {W w w' : World} (h : Below W.heap.size W w) (g : Below w.heap.size w w') : Below W.heap.size W w' := h.trans (g.mono h.size)
section
variable {ops : Array Oper} {rest : List Oper} {o : Oper} {act : Act} {w : World} {Q : Exit → Act → World → Prop} {p : Nat} {a b c : Sl}
/-- The slots are loaded. -/
theorem ldT (k : Tb w p a b c) (x : Operand) (hgd : o.guard = Option.none) (ho : o.op = .load 80 x) (hx : act.eval x = .pointer (some ⟨p, 0, Option.none⟩)) (h : wpList Tryd.prog ops Q rest (act.put o.dst (.agg (tcs a b c))) w) : wpList Tryd.prog ops Q (o :: rest) act w :=
  wpList_load_row hgd 80 x ho p hx 82 (tcs a b c) (0, 0) _ k Tryd.underlying80 rfl info_t h
/-- A slot is stored into its own place. -/
theorem stS {old : Array Value} {s : Sl} (k : Blk w p old 79) (h0 : old.size = 5) (x y : Operand) (hgd : o.guard = Option.none) (ho : o.op = .store 79 x y) (hx : act.eval x = .pointer (some ⟨p, 0, Option.none⟩)) (hy : act.eval y = .agg (scs s)) (h : wpList Tryd.prog ops Q rest (act.put o.dst undef) (w.setRow p (scs s))) : wpList Tryd.prog ops Q (o :: rest) act w :=
  wpList_store_row hgd 79 x y ho p (scs s) hx hy 79 old k info_s h0 (by simp [scs, Value.oneCell']) h
end
theorem setRow_heap5 {w : World} {b : Nat} {c cs : Array Value} {T : TypeId} (k : Blk w b c T) : Blk (w.setRow b cs) b cs T := setRow_heap _ _ _ _ _ _ k
/-- A new place, stored into at once. -/
theorem newS {W w : World} (b : Below W.heap.size W w) (s : Sl) (w' : World) (h : w' = (w.alloc (.cells #[.bool false, .int .u8 0, .bool false, .int .i64 0, .slice Option.none 0 0] 79)).setRow w.heap.size (scs s)) :
    Blk (w.alloc (.cells #[.bool false, .int .u8 0, .bool false, .int .i64 0, .slice Option.none 0 0] 79)) w.heap.size #[.bool false, .int .u8 0, .bool false, .int .i64 0, .slice Option.none 0 0] 79 ∧ Blk w' w.heap.size (scs s) 79 ∧ Below W.heap.size W w' ∧ ∀ g cs T, Blk w g cs T → Blk w' g cs T := by
  subst h
  have z := b.size
  have b1 := b.alloc z (.cells #[.bool false, .int .u8 0, .bool false, .int .i64 0, .slice Option.none 0 0] 79)
  refine ⟨Blk.new _ _ _, setRow_heap5 (Blk.new _ _ _), ?_, fun g cs T k => ?_⟩
  · exact ⟨b1.os, b1.tape, b1.output, by simp; have := b1.size; simp at this; omega, fun k hk => (setRow_other _ _ _ _ (by omega)).trans (b1.block k hk)⟩
  · exact (setRow_other _ _ _ _ (by have := Blk.lt k; omega)).trans (Blk.alloc k _)

set_option maxRecDepth 100000 in
set_option maxHeartbeats 8000000 in
theorem New_c (w : World) : Calls Tryd.prog 9 #[] w fun r w' => r = .returned (.pointer (some ⟨w.heap.size, 0, none⟩)) ∧ Tb w' w.heap.size Sl.none Sl.none Sl.none ∧ Below w.heap.size w w' := by
  go_enter Tryd.func9, Tryd.ntmps9
  go_wp2
  go_ret
  exact ⟨rfl, Blk.new _ _ _, (Below.refl _ _).alloc (Nat.le_refl _) _⟩

set_option maxRecDepth 100000 in
set_option maxHeartbeats 8000000 in
theorem Slot_Y {a b c : Sl} {p : Nat} {id : Int} {w : World} (T : Tb w p a b c) (ha : a.th = true) (ia : a.id = id) : Calls Tryd.prog 24 #[.pointer (some ⟨p, 0, none⟩), .int .u8 id] w fun r w' => r = .returned (.tuple #[.int .i64 0, .bool true]) ∧ Below w.heap.size w w' := by
  have P0 := at0 a b c
  have P1 := at1 a b c
  have P2 := at2 a b c
  have b0x := Below.refl w.heap.size w
  go_enter Tryd.func24, Tryd.ntmps24
  go_wp2_with (first | (refine ldT T _ rfl rfl rfl ?_))
  refine wp_loop_rounds 1 ?_
  rw [rounds_succ]
  obtain ⟨t0, k0, b0, up⟩ := newS b0x a _ rfl
  replace T := up _ _ _ T
  clear up
  have q0 := (k0.cell 0).trans (show (scs a)[0]? = some (.bool a.th) from rfl)
  have q1 := (k0.cell 1).trans (show (scs a)[1]? = some (.int .u8 a.id) from rfl)
  go_wp2_with (first | (refine stS (s := a) t0 rfl _ _ rfl rfl rfl rfl ?_))
  clear q0 q1 t0
  generalize (w.alloc (.cells #[.bool false, .int .u8 0, .bool false, .int .i64 0, .slice Option.none 0 0] 79)).setRow w.heap.size (scs a) = W1 at *
  go_ret2
  exact ⟨rfl, b0⟩

set_option maxRecDepth 100000 in
set_option maxHeartbeats 8000000 in
theorem Slot_FY {a b c : Sl} {p : Nat} {id : Int} {w : World} (T : Tb w p a b c) (ha : a.th = false) (hb : b.th = true) (ib : b.id = id) : Calls Tryd.prog 24 #[.pointer (some ⟨p, 0, none⟩), .int .u8 id] w fun r w' => r = .returned (.tuple #[.int .i64 1, .bool true]) ∧ Below w.heap.size w w' := by
  have P0 := at0 a b c
  have P1 := at1 a b c
  have P2 := at2 a b c
  have b0x := Below.refl w.heap.size w
  go_enter Tryd.func24, Tryd.ntmps24
  go_wp2_with (first | (refine ldT T _ rfl rfl rfl ?_))
  refine wp_loop_rounds 2 ?_
  rw [rounds_succ]
  obtain ⟨t0, k0, b0, up⟩ := newS b0x a _ rfl
  replace T := up _ _ _ T
  clear up
  have q0 := (k0.cell 0).trans (show (scs a)[0]? = some (.bool a.th) from rfl)
  have q1 := (k0.cell 1).trans (show (scs a)[1]? = some (.int .u8 a.id) from rfl)
  go_wp2_with (first | (refine stS (s := a) t0 rfl _ _ rfl rfl rfl rfl ?_))
  clear q0 q1 t0
  generalize (w.alloc (.cells #[.bool false, .int .u8 0, .bool false, .int .i64 0, .slice Option.none 0 0] 79)).setRow w.heap.size (scs a) = W1 at *
  rw [rounds_succ]
  obtain ⟨t1, k1, b1, up⟩ := newS b0 b _ rfl
  replace T := up _ _ _ T
  clear up
  have q0 := (k1.cell 0).trans (show (scs b)[0]? = some (.bool b.th) from rfl)
  have q1 := (k1.cell 1).trans (show (scs b)[1]? = some (.int .u8 b.id) from rfl)
  go_wp2_with (first | (refine stS (s := b) t1 rfl _ _ rfl rfl rfl rfl ?_))
  clear q0 q1 t1
  generalize (W1.alloc (.cells #[.bool false, .int .u8 0, .bool false, .int .i64 0, .slice Option.none 0 0] 79)).setRow W1.heap.size (scs b) = W2 at *
  go_ret2
  exact ⟨rfl, b1⟩

set_option maxRecDepth 100000 in
set_option maxHeartbeats 8000000 in
theorem Slot_FFY {a b c : Sl} {p : Nat} {id : Int} {w : World} (T : Tb w p a b c) (ha : a.th = false) (hb : b.th = false) (hc : c.th = true) (ic : c.id = id) : Calls Tryd.prog 24 #[.pointer (some ⟨p, 0, none⟩), .int .u8 id] w fun r w' => r = .returned (.tuple #[.int .i64 2, .bool true]) ∧ Below w.heap.size w w' := by
  have P0 := at0 a b c
  have P1 := at1 a b c
  have P2 := at2 a b c
  have b0x := Below.refl w.heap.size w
  go_enter Tryd.func24, Tryd.ntmps24
  go_wp2_with (first | (refine ldT T _ rfl rfl rfl ?_))
  refine wp_loop_rounds 3 ?_
  rw [rounds_succ]
  obtain ⟨t0, k0, b0, up⟩ := newS b0x a _ rfl
  replace T := up _ _ _ T
  clear up
  have q0 := (k0.cell 0).trans (show (scs a)[0]? = some (.bool a.th) from rfl)
  have q1 := (k0.cell 1).trans (show (scs a)[1]? = some (.int .u8 a.id) from rfl)
  go_wp2_with (first | (refine stS (s := a) t0 rfl _ _ rfl rfl rfl rfl ?_))
  clear q0 q1 t0
  generalize (w.alloc (.cells #[.bool false, .int .u8 0, .bool false, .int .i64 0, .slice Option.none 0 0] 79)).setRow w.heap.size (scs a) = W1 at *
  rw [rounds_succ]
  obtain ⟨t1, k1, b1, up⟩ := newS b0 b _ rfl
  replace T := up _ _ _ T
  clear up
  have q0 := (k1.cell 0).trans (show (scs b)[0]? = some (.bool b.th) from rfl)
  have q1 := (k1.cell 1).trans (show (scs b)[1]? = some (.int .u8 b.id) from rfl)
  go_wp2_with (first | (refine stS (s := b) t1 rfl _ _ rfl rfl rfl rfl ?_))
  clear q0 q1 t1
  generalize (W1.alloc (.cells #[.bool false, .int .u8 0, .bool false, .int .i64 0, .slice Option.none 0 0] 79)).setRow W1.heap.size (scs b) = W2 at *
  rw [rounds_succ]
  obtain ⟨t2, k2, b2, up⟩ := newS b1 c _ rfl
  replace T := up _ _ _ T
  clear up
  have q0 := (k2.cell 0).trans (show (scs c)[0]? = some (.bool c.th) from rfl)
  have q1 := (k2.cell 1).trans (show (scs c)[1]? = some (.int .u8 c.id) from rfl)
  go_wp2_with (first | (refine stS (s := c) t2 rfl _ _ rfl rfl rfl rfl ?_))
  clear q0 q1 t2
  generalize (W2.alloc (.cells #[.bool false, .int .u8 0, .bool false, .int .i64 0, .slice Option.none 0 0] 79)).setRow W2.heap.size (scs c) = W3 at *
  go_ret2
  exact ⟨rfl, b2⟩

set_option maxRecDepth 100000 in
set_option maxHeartbeats 8000000 in
theorem Slot_FFF {a b c : Sl} {p : Nat} {id : Int} {w : World} (T : Tb w p a b c) (ha : a.th = false) (hb : b.th = false) (hc : c.th = false) : Calls Tryd.prog 24 #[.pointer (some ⟨p, 0, none⟩), .int .u8 id] w fun r w' => r = .returned (.tuple #[.int .i64 0, .bool false]) ∧ Below w.heap.size w w' := by
  have P0 := at0 a b c
  have P1 := at1 a b c
  have P2 := at2 a b c
  have b0x := Below.refl w.heap.size w
  go_enter Tryd.func24, Tryd.ntmps24
  go_wp2_with (first | (refine ldT T _ rfl rfl rfl ?_))
  refine wp_loop_rounds 4 ?_
  rw [rounds_succ]
  obtain ⟨t0, k0, b0, up⟩ := newS b0x a _ rfl
  replace T := up _ _ _ T
  clear up
  have q0 := (k0.cell 0).trans (show (scs a)[0]? = some (.bool a.th) from rfl)
  have q1 := (k0.cell 1).trans (show (scs a)[1]? = some (.int .u8 a.id) from rfl)
  go_wp2_with (first | (refine stS (s := a) t0 rfl _ _ rfl rfl rfl rfl ?_))
  clear q0 q1 t0
  generalize (w.alloc (.cells #[.bool false, .int .u8 0, .bool false, .int .i64 0, .slice Option.none 0 0] 79)).setRow w.heap.size (scs a) = W1 at *
  rw [rounds_succ]
  obtain ⟨t1, k1, b1, up⟩ := newS b0 b _ rfl
  replace T := up _ _ _ T
  clear up
  have q0 := (k1.cell 0).trans (show (scs b)[0]? = some (.bool b.th) from rfl)
  have q1 := (k1.cell 1).trans (show (scs b)[1]? = some (.int .u8 b.id) from rfl)
  go_wp2_with (first | (refine stS (s := b) t1 rfl _ _ rfl rfl rfl rfl ?_))
  clear q0 q1 t1
  generalize (W1.alloc (.cells #[.bool false, .int .u8 0, .bool false, .int .i64 0, .slice Option.none 0 0] 79)).setRow W1.heap.size (scs b) = W2 at *
  rw [rounds_succ]
  obtain ⟨t2, k2, b2, up⟩ := newS b1 c _ rfl
  replace T := up _ _ _ T
  clear up
  have q0 := (k2.cell 0).trans (show (scs c)[0]? = some (.bool c.th) from rfl)
  have q1 := (k2.cell 1).trans (show (scs c)[1]? = some (.int .u8 c.id) from rfl)
  go_wp2_with (first | (refine stS (s := c) t2 rfl _ _ rfl rfl rfl rfl ?_))
  clear q0 q1 t2
  generalize (W2.alloc (.cells #[.bool false, .int .u8 0, .bool false, .int .i64 0, .slice Option.none 0 0] 79)).setRow W2.heap.size (scs c) = W3 at *
  rw [rounds_succ]
  go_wp2
  go_ret2
  exact ⟨rfl, b2⟩

set_option maxRecDepth 100000 in
set_option maxHeartbeats 8000000 in
theorem Slot_FFN {a b c : Sl} {p : Nat} {id : Int} {w : World} (T : Tb w p a b c) (ha : a.th = false) (hb : b.th = false) (hc : c.th = true) (ic : ¬ c.id = id) : Calls Tryd.prog 24 #[.pointer (some ⟨p, 0, none⟩), .int .u8 id] w fun r w' => r = .returned (.tuple #[.int .i64 0, .bool false]) ∧ Below w.heap.size w w' := by
  have P0 := at0 a b c
  have P1 := at1 a b c
  have P2 := at2 a b c
  have b0x := Below.refl w.heap.size w
  go_enter Tryd.func24, Tryd.ntmps24
  go_wp2_with (first | (refine ldT T _ rfl rfl rfl ?_))
  refine wp_loop_rounds 4 ?_
  rw [rounds_succ]
  obtain ⟨t0, k0, b0, up⟩ := newS b0x a _ rfl
  replace T := up _ _ _ T
  clear up
  have q0 := (k0.cell 0).trans (show (scs a)[0]? = some (.bool a.th) from rfl)
  have q1 := (k0.cell 1).trans (show (scs a)[1]? = some (.int .u8 a.id) from rfl)
  go_wp2_with (first | (refine stS (s := a) t0 rfl _ _ rfl rfl rfl rfl ?_))
  clear q0 q1 t0
  generalize (w.alloc (.cells #[.bool false, .int .u8 0, .bool false, .int .i64 0, .slice Option.none 0 0] 79)).setRow w.heap.size (scs a) = W1 at *
  rw [rounds_succ]
  obtain ⟨t1, k1, b1, up⟩ := newS b0 b _ rfl
  replace T := up _ _ _ T
  clear up
  have q0 := (k1.cell 0).trans (show (scs b)[0]? = some (.bool b.th) from rfl)
  have q1 := (k1.cell 1).trans (show (scs b)[1]? = some (.int .u8 b.id) from rfl)
  go_wp2_with (first | (refine stS (s := b) t1 rfl _ _ rfl rfl rfl rfl ?_))
  clear q0 q1 t1
  generalize (W1.alloc (.cells #[.bool false, .int .u8 0, .bool false, .int .i64 0, .slice Option.none 0 0] 79)).setRow W1.heap.size (scs b) = W2 at *
  rw [rounds_succ]
  obtain ⟨t2, k2, b2, up⟩ := newS b1 c _ rfl
  replace T := up _ _ _ T
  clear up
  have q0 := (k2.cell 0).trans (show (scs c)[0]? = some (.bool c.th) from rfl)
  have q1 := (k2.cell 1).trans (show (scs c)[1]? = some (.int .u8 c.id) from rfl)
  go_wp2_with (first | (refine stS (s := c) t2 rfl _ _ rfl rfl rfl rfl ?_))
  clear q0 q1 t2
  generalize (W2.alloc (.cells #[.bool false, .int .u8 0, .bool false, .int .i64 0, .slice Option.none 0 0] 79)).setRow W2.heap.size (scs c) = W3 at *
  rw [rounds_succ]
  go_wp2
  go_ret2
  exact ⟨rfl, b2⟩

set_option maxRecDepth 100000 in
set_option maxHeartbeats 8000000 in
theorem Slot_FNY {a b c : Sl} {p : Nat} {id : Int} {w : World} (T : Tb w p a b c) (ha : a.th = false) (hb : b.th = true) (ib : ¬ b.id = id) (hc : c.th = true) (ic : c.id = id) : Calls Tryd.prog 24 #[.pointer (some ⟨p, 0, none⟩), .int .u8 id] w fun r w' => r = .returned (.tuple #[.int .i64 2, .bool true]) ∧ Below w.heap.size w w' := by
  have P0 := at0 a b c
  have P1 := at1 a b c
  have P2 := at2 a b c
  have b0x := Below.refl w.heap.size w
  go_enter Tryd.func24, Tryd.ntmps24
  go_wp2_with (first | (refine ldT T _ rfl rfl rfl ?_))
  refine wp_loop_rounds 3 ?_
  rw [rounds_succ]
  obtain ⟨t0, k0, b0, up⟩ := newS b0x a _ rfl
  replace T := up _ _ _ T
  clear up
  have q0 := (k0.cell 0).trans (show (scs a)[0]? = some (.bool a.th) from rfl)
  have q1 := (k0.cell 1).trans (show (scs a)[1]? = some (.int .u8 a.id) from rfl)
  go_wp2_with (first | (refine stS (s := a) t0 rfl _ _ rfl rfl rfl rfl ?_))
  clear q0 q1 t0
  generalize (w.alloc (.cells #[.bool false, .int .u8 0, .bool false, .int .i64 0, .slice Option.none 0 0] 79)).setRow w.heap.size (scs a) = W1 at *
  rw [rounds_succ]
  obtain ⟨t1, k1, b1, up⟩ := newS b0 b _ rfl
  replace T := up _ _ _ T
  clear up
  have q0 := (k1.cell 0).trans (show (scs b)[0]? = some (.bool b.th) from rfl)
  have q1 := (k1.cell 1).trans (show (scs b)[1]? = some (.int .u8 b.id) from rfl)
  go_wp2_with (first | (refine stS (s := b) t1 rfl _ _ rfl rfl rfl rfl ?_))
  clear q0 q1 t1
  generalize (W1.alloc (.cells #[.bool false, .int .u8 0, .bool false, .int .i64 0, .slice Option.none 0 0] 79)).setRow W1.heap.size (scs b) = W2 at *
  rw [rounds_succ]
  obtain ⟨t2, k2, b2, up⟩ := newS b1 c _ rfl
  replace T := up _ _ _ T
  clear up
  have q0 := (k2.cell 0).trans (show (scs c)[0]? = some (.bool c.th) from rfl)
  have q1 := (k2.cell 1).trans (show (scs c)[1]? = some (.int .u8 c.id) from rfl)
  go_wp2_with (first | (refine stS (s := c) t2 rfl _ _ rfl rfl rfl rfl ?_))
  clear q0 q1 t2
  generalize (W2.alloc (.cells #[.bool false, .int .u8 0, .bool false, .int .i64 0, .slice Option.none 0 0] 79)).setRow W2.heap.size (scs c) = W3 at *
  go_ret2
  exact ⟨rfl, b2⟩

set_option maxRecDepth 100000 in
set_option maxHeartbeats 8000000 in
theorem Slot_FNF {a b c : Sl} {p : Nat} {id : Int} {w : World} (T : Tb w p a b c) (ha : a.th = false) (hb : b.th = true) (ib : ¬ b.id = id) (hc : c.th = false) : Calls Tryd.prog 24 #[.pointer (some ⟨p, 0, none⟩), .int .u8 id] w fun r w' => r = .returned (.tuple #[.int .i64 0, .bool false]) ∧ Below w.heap.size w w' := by
  have P0 := at0 a b c
  have P1 := at1 a b c
  have P2 := at2 a b c
  have b0x := Below.refl w.heap.size w
  go_enter Tryd.func24, Tryd.ntmps24
  go_wp2_with (first | (refine ldT T _ rfl rfl rfl ?_))
  refine wp_loop_rounds 4 ?_
  rw [rounds_succ]
  obtain ⟨t0, k0, b0, up⟩ := newS b0x a _ rfl
  replace T := up _ _ _ T
  clear up
  have q0 := (k0.cell 0).trans (show (scs a)[0]? = some (.bool a.th) from rfl)
  have q1 := (k0.cell 1).trans (show (scs a)[1]? = some (.int .u8 a.id) from rfl)
  go_wp2_with (first | (refine stS (s := a) t0 rfl _ _ rfl rfl rfl rfl ?_))
  clear q0 q1 t0
  generalize (w.alloc (.cells #[.bool false, .int .u8 0, .bool false, .int .i64 0, .slice Option.none 0 0] 79)).setRow w.heap.size (scs a) = W1 at *
  rw [rounds_succ]
  obtain ⟨t1, k1, b1, up⟩ := newS b0 b _ rfl
  replace T := up _ _ _ T
  clear up
  have q0 := (k1.cell 0).trans (show (scs b)[0]? = some (.bool b.th) from rfl)
  have q1 := (k1.cell 1).trans (show (scs b)[1]? = some (.int .u8 b.id) from rfl)
  go_wp2_with (first | (refine stS (s := b) t1 rfl _ _ rfl rfl rfl rfl ?_))
  clear q0 q1 t1
  generalize (W1.alloc (.cells #[.bool false, .int .u8 0, .bool false, .int .i64 0, .slice Option.none 0 0] 79)).setRow W1.heap.size (scs b) = W2 at *
  rw [rounds_succ]
  obtain ⟨t2, k2, b2, up⟩ := newS b1 c _ rfl
  replace T := up _ _ _ T
  clear up
  have q0 := (k2.cell 0).trans (show (scs c)[0]? = some (.bool c.th) from rfl)
  have q1 := (k2.cell 1).trans (show (scs c)[1]? = some (.int .u8 c.id) from rfl)
  go_wp2_with (first | (refine stS (s := c) t2 rfl _ _ rfl rfl rfl rfl ?_))
  clear q0 q1 t2
  generalize (W2.alloc (.cells #[.bool false, .int .u8 0, .bool false, .int .i64 0, .slice Option.none 0 0] 79)).setRow W2.heap.size (scs c) = W3 at *
  rw [rounds_succ]
  go_wp2
  go_ret2
  exact ⟨rfl, b2⟩

set_option maxRecDepth 100000 in
set_option maxHeartbeats 8000000 in
theorem Slot_FNN {a b c : Sl} {p : Nat} {id : Int} {w : World} (T : Tb w p a b c) (ha : a.th = false) (hb : b.th = true) (ib : ¬ b.id = id) (hc : c.th = true) (ic : ¬ c.id = id) : Calls Tryd.prog 24 #[.pointer (some ⟨p, 0, none⟩), .int .u8 id] w fun r w' => r = .returned (.tuple #[.int .i64 0, .bool false]) ∧ Below w.heap.size w w' := by
  have P0 := at0 a b c
  have P1 := at1 a b c
  have P2 := at2 a b c
  have b0x := Below.refl w.heap.size w
  go_enter Tryd.func24, Tryd.ntmps24
  go_wp2_with (first | (refine ldT T _ rfl rfl rfl ?_))
  refine wp_loop_rounds 4 ?_
  rw [rounds_succ]
  obtain ⟨t0, k0, b0, up⟩ := newS b0x a _ rfl
  replace T := up _ _ _ T
  clear up
  have q0 := (k0.cell 0).trans (show (scs a)[0]? = some (.bool a.th) from rfl)
  have q1 := (k0.cell 1).trans (show (scs a)[1]? = some (.int .u8 a.id) from rfl)
  go_wp2_with (first | (refine stS (s := a) t0 rfl _ _ rfl rfl rfl rfl ?_))
  clear q0 q1 t0
  generalize (w.alloc (.cells #[.bool false, .int .u8 0, .bool false, .int .i64 0, .slice Option.none 0 0] 79)).setRow w.heap.size (scs a) = W1 at *
  rw [rounds_succ]
  obtain ⟨t1, k1, b1, up⟩ := newS b0 b _ rfl
  replace T := up _ _ _ T
  clear up
  have q0 := (k1.cell 0).trans (show (scs b)[0]? = some (.bool b.th) from rfl)
  have q1 := (k1.cell 1).trans (show (scs b)[1]? = some (.int .u8 b.id) from rfl)
  go_wp2_with (first | (refine stS (s := b) t1 rfl _ _ rfl rfl rfl rfl ?_))
  clear q0 q1 t1
  generalize (W1.alloc (.cells #[.bool false, .int .u8 0, .bool false, .int .i64 0, .slice Option.none 0 0] 79)).setRow W1.heap.size (scs b) = W2 at *
  rw [rounds_succ]
  obtain ⟨t2, k2, b2, up⟩ := newS b1 c _ rfl
  replace T := up _ _ _ T
  clear up
  have q0 := (k2.cell 0).trans (show (scs c)[0]? = some (.bool c.th) from rfl)
  have q1 := (k2.cell 1).trans (show (scs c)[1]? = some (.int .u8 c.id) from rfl)
  go_wp2_with (first | (refine stS (s := c) t2 rfl _ _ rfl rfl rfl rfl ?_))
  clear q0 q1 t2
  generalize (W2.alloc (.cells #[.bool false, .int .u8 0, .bool false, .int .i64 0, .slice Option.none 0 0] 79)).setRow W2.heap.size (scs c) = W3 at *
  rw [rounds_succ]
  go_wp2
  go_ret2
  exact ⟨rfl, b2⟩

set_option maxRecDepth 100000 in
set_option maxHeartbeats 8000000 in
theorem Slot_NY {a b c : Sl} {p : Nat} {id : Int} {w : World} (T : Tb w p a b c) (ha : a.th = true) (ia : ¬ a.id = id) (hb : b.th = true) (ib : b.id = id) : Calls Tryd.prog 24 #[.pointer (some ⟨p, 0, none⟩), .int .u8 id] w fun r w' => r = .returned (.tuple #[.int .i64 1, .bool true]) ∧ Below w.heap.size w w' := by
  have P0 := at0 a b c
  have P1 := at1 a b c
  have P2 := at2 a b c
  have b0x := Below.refl w.heap.size w
  go_enter Tryd.func24, Tryd.ntmps24
  go_wp2_with (first | (refine ldT T _ rfl rfl rfl ?_))
  refine wp_loop_rounds 2 ?_
  rw [rounds_succ]
  obtain ⟨t0, k0, b0, up⟩ := newS b0x a _ rfl
  replace T := up _ _ _ T
  clear up
  have q0 := (k0.cell 0).trans (show (scs a)[0]? = some (.bool a.th) from rfl)
  have q1 := (k0.cell 1).trans (show (scs a)[1]? = some (.int .u8 a.id) from rfl)
  go_wp2_with (first | (refine stS (s := a) t0 rfl _ _ rfl rfl rfl rfl ?_))
  clear q0 q1 t0
  generalize (w.alloc (.cells #[.bool false, .int .u8 0, .bool false, .int .i64 0, .slice Option.none 0 0] 79)).setRow w.heap.size (scs a) = W1 at *
  rw [rounds_succ]
  obtain ⟨t1, k1, b1, up⟩ := newS b0 b _ rfl
  replace T := up _ _ _ T
  clear up
  have q0 := (k1.cell 0).trans (show (scs b)[0]? = some (.bool b.th) from rfl)
  have q1 := (k1.cell 1).trans (show (scs b)[1]? = some (.int .u8 b.id) from rfl)
  go_wp2_with (first | (refine stS (s := b) t1 rfl _ _ rfl rfl rfl rfl ?_))
  clear q0 q1 t1
  generalize (W1.alloc (.cells #[.bool false, .int .u8 0, .bool false, .int .i64 0, .slice Option.none 0 0] 79)).setRow W1.heap.size (scs b) = W2 at *
  go_ret2
  exact ⟨rfl, b1⟩

set_option maxRecDepth 100000 in
set_option maxHeartbeats 8000000 in
theorem Slot_NFY {a b c : Sl} {p : Nat} {id : Int} {w : World} (T : Tb w p a b c) (ha : a.th = true) (ia : ¬ a.id = id) (hb : b.th = false) (hc : c.th = true) (ic : c.id = id) : Calls Tryd.prog 24 #[.pointer (some ⟨p, 0, none⟩), .int .u8 id] w fun r w' => r = .returned (.tuple #[.int .i64 2, .bool true]) ∧ Below w.heap.size w w' := by
  have P0 := at0 a b c
  have P1 := at1 a b c
  have P2 := at2 a b c
  have b0x := Below.refl w.heap.size w
  go_enter Tryd.func24, Tryd.ntmps24
  go_wp2_with (first | (refine ldT T _ rfl rfl rfl ?_))
  refine wp_loop_rounds 3 ?_
  rw [rounds_succ]
  obtain ⟨t0, k0, b0, up⟩ := newS b0x a _ rfl
  replace T := up _ _ _ T
  clear up
  have q0 := (k0.cell 0).trans (show (scs a)[0]? = some (.bool a.th) from rfl)
  have q1 := (k0.cell 1).trans (show (scs a)[1]? = some (.int .u8 a.id) from rfl)
  go_wp2_with (first | (refine stS (s := a) t0 rfl _ _ rfl rfl rfl rfl ?_))
  clear q0 q1 t0
  generalize (w.alloc (.cells #[.bool false, .int .u8 0, .bool false, .int .i64 0, .slice Option.none 0 0] 79)).setRow w.heap.size (scs a) = W1 at *
  rw [rounds_succ]
  obtain ⟨t1, k1, b1, up⟩ := newS b0 b _ rfl
  replace T := up _ _ _ T
  clear up
  have q0 := (k1.cell 0).trans (show (scs b)[0]? = some (.bool b.th) from rfl)
  have q1 := (k1.cell 1).trans (show (scs b)[1]? = some (.int .u8 b.id) from rfl)
  go_wp2_with (first | (refine stS (s := b) t1 rfl _ _ rfl rfl rfl rfl ?_))
  clear q0 q1 t1
  generalize (W1.alloc (.cells #[.bool false, .int .u8 0, .bool false, .int .i64 0, .slice Option.none 0 0] 79)).setRow W1.heap.size (scs b) = W2 at *
  rw [rounds_succ]
  obtain ⟨t2, k2, b2, up⟩ := newS b1 c _ rfl
  replace T := up _ _ _ T
  clear up
  have q0 := (k2.cell 0).trans (show (scs c)[0]? = some (.bool c.th) from rfl)
  have q1 := (k2.cell 1).trans (show (scs c)[1]? = some (.int .u8 c.id) from rfl)
  go_wp2_with (first | (refine stS (s := c) t2 rfl _ _ rfl rfl rfl rfl ?_))
  clear q0 q1 t2
  generalize (W2.alloc (.cells #[.bool false, .int .u8 0, .bool false, .int .i64 0, .slice Option.none 0 0] 79)).setRow W2.heap.size (scs c) = W3 at *
  go_ret2
  exact ⟨rfl, b2⟩

set_option maxRecDepth 100000 in
set_option maxHeartbeats 8000000 in
theorem Slot_NFF {a b c : Sl} {p : Nat} {id : Int} {w : World} (T : Tb w p a b c) (ha : a.th = true) (ia : ¬ a.id = id) (hb : b.th = false) (hc : c.th = false) : Calls Tryd.prog 24 #[.pointer (some ⟨p, 0, none⟩), .int .u8 id] w fun r w' => r = .returned (.tuple #[.int .i64 0, .bool false]) ∧ Below w.heap.size w w' := by
  have P0 := at0 a b c
  have P1 := at1 a b c
  have P2 := at2 a b c
  have b0x := Below.refl w.heap.size w
  go_enter Tryd.func24, Tryd.ntmps24
  go_wp2_with (first | (refine ldT T _ rfl rfl rfl ?_))
  refine wp_loop_rounds 4 ?_
  rw [rounds_succ]
  obtain ⟨t0, k0, b0, up⟩ := newS b0x a _ rfl
  replace T := up _ _ _ T
  clear up
  have q0 := (k0.cell 0).trans (show (scs a)[0]? = some (.bool a.th) from rfl)
  have q1 := (k0.cell 1).trans (show (scs a)[1]? = some (.int .u8 a.id) from rfl)
  go_wp2_with (first | (refine stS (s := a) t0 rfl _ _ rfl rfl rfl rfl ?_))
  clear q0 q1 t0
  generalize (w.alloc (.cells #[.bool false, .int .u8 0, .bool false, .int .i64 0, .slice Option.none 0 0] 79)).setRow w.heap.size (scs a) = W1 at *
  rw [rounds_succ]
  obtain ⟨t1, k1, b1, up⟩ := newS b0 b _ rfl
  replace T := up _ _ _ T
  clear up
  have q0 := (k1.cell 0).trans (show (scs b)[0]? = some (.bool b.th) from rfl)
  have q1 := (k1.cell 1).trans (show (scs b)[1]? = some (.int .u8 b.id) from rfl)
  go_wp2_with (first | (refine stS (s := b) t1 rfl _ _ rfl rfl rfl rfl ?_))
  clear q0 q1 t1
  generalize (W1.alloc (.cells #[.bool false, .int .u8 0, .bool false, .int .i64 0, .slice Option.none 0 0] 79)).setRow W1.heap.size (scs b) = W2 at *
  rw [rounds_succ]
  obtain ⟨t2, k2, b2, up⟩ := newS b1 c _ rfl
  replace T := up _ _ _ T
  clear up
  have q0 := (k2.cell 0).trans (show (scs c)[0]? = some (.bool c.th) from rfl)
  have q1 := (k2.cell 1).trans (show (scs c)[1]? = some (.int .u8 c.id) from rfl)
  go_wp2_with (first | (refine stS (s := c) t2 rfl _ _ rfl rfl rfl rfl ?_))
  clear q0 q1 t2
  generalize (W2.alloc (.cells #[.bool false, .int .u8 0, .bool false, .int .i64 0, .slice Option.none 0 0] 79)).setRow W2.heap.size (scs c) = W3 at *
  rw [rounds_succ]
  go_wp2
  go_ret2
  exact ⟨rfl, b2⟩

set_option maxRecDepth 100000 in
set_option maxHeartbeats 8000000 in
theorem Slot_NFN {a b c : Sl} {p : Nat} {id : Int} {w : World} (T : Tb w p a b c) (ha : a.th = true) (ia : ¬ a.id = id) (hb : b.th = false) (hc : c.th = true) (ic : ¬ c.id = id) : Calls Tryd.prog 24 #[.pointer (some ⟨p, 0, none⟩), .int .u8 id] w fun r w' => r = .returned (.tuple #[.int .i64 0, .bool false]) ∧ Below w.heap.size w w' := by
  have P0 := at0 a b c
  have P1 := at1 a b c
  have P2 := at2 a b c
  have b0x := Below.refl w.heap.size w
  go_enter Tryd.func24, Tryd.ntmps24
  go_wp2_with (first | (refine ldT T _ rfl rfl rfl ?_))
  refine wp_loop_rounds 4 ?_
  rw [rounds_succ]
  obtain ⟨t0, k0, b0, up⟩ := newS b0x a _ rfl
  replace T := up _ _ _ T
  clear up
  have q0 := (k0.cell 0).trans (show (scs a)[0]? = some (.bool a.th) from rfl)
  have q1 := (k0.cell 1).trans (show (scs a)[1]? = some (.int .u8 a.id) from rfl)
  go_wp2_with (first | (refine stS (s := a) t0 rfl _ _ rfl rfl rfl rfl ?_))
  clear q0 q1 t0
  generalize (w.alloc (.cells #[.bool false, .int .u8 0, .bool false, .int .i64 0, .slice Option.none 0 0] 79)).setRow w.heap.size (scs a) = W1 at *
  rw [rounds_succ]
  obtain ⟨t1, k1, b1, up⟩ := newS b0 b _ rfl
  replace T := up _ _ _ T
  clear up
  have q0 := (k1.cell 0).trans (show (scs b)[0]? = some (.bool b.th) from rfl)
  have q1 := (k1.cell 1).trans (show (scs b)[1]? = some (.int .u8 b.id) from rfl)
  go_wp2_with (first | (refine stS (s := b) t1 rfl _ _ rfl rfl rfl rfl ?_))
  clear q0 q1 t1
  generalize (W1.alloc (.cells #[.bool false, .int .u8 0, .bool false, .int .i64 0, .slice Option.none 0 0] 79)).setRow W1.heap.size (scs b) = W2 at *
  rw [rounds_succ]
  obtain ⟨t2, k2, b2, up⟩ := newS b1 c _ rfl
  replace T := up _ _ _ T
  clear up
  have q0 := (k2.cell 0).trans (show (scs c)[0]? = some (.bool c.th) from rfl)
  have q1 := (k2.cell 1).trans (show (scs c)[1]? = some (.int .u8 c.id) from rfl)
  go_wp2_with (first | (refine stS (s := c) t2 rfl _ _ rfl rfl rfl rfl ?_))
  clear q0 q1 t2
  generalize (W2.alloc (.cells #[.bool false, .int .u8 0, .bool false, .int .i64 0, .slice Option.none 0 0] 79)).setRow W2.heap.size (scs c) = W3 at *
  rw [rounds_succ]
  go_wp2
  go_ret2
  exact ⟨rfl, b2⟩

set_option maxRecDepth 100000 in
set_option maxHeartbeats 8000000 in
theorem Slot_NNY {a b c : Sl} {p : Nat} {id : Int} {w : World} (T : Tb w p a b c) (ha : a.th = true) (ia : ¬ a.id = id) (hb : b.th = true) (ib : ¬ b.id = id) (hc : c.th = true) (ic : c.id = id) : Calls Tryd.prog 24 #[.pointer (some ⟨p, 0, none⟩), .int .u8 id] w fun r w' => r = .returned (.tuple #[.int .i64 2, .bool true]) ∧ Below w.heap.size w w' := by
  have P0 := at0 a b c
  have P1 := at1 a b c
  have P2 := at2 a b c
  have b0x := Below.refl w.heap.size w
  go_enter Tryd.func24, Tryd.ntmps24
  go_wp2_with (first | (refine ldT T _ rfl rfl rfl ?_))
  refine wp_loop_rounds 3 ?_
  rw [rounds_succ]
  obtain ⟨t0, k0, b0, up⟩ := newS b0x a _ rfl
  replace T := up _ _ _ T
  clear up
  have q0 := (k0.cell 0).trans (show (scs a)[0]? = some (.bool a.th) from rfl)
  have q1 := (k0.cell 1).trans (show (scs a)[1]? = some (.int .u8 a.id) from rfl)
  go_wp2_with (first | (refine stS (s := a) t0 rfl _ _ rfl rfl rfl rfl ?_))
  clear q0 q1 t0
  generalize (w.alloc (.cells #[.bool false, .int .u8 0, .bool false, .int .i64 0, .slice Option.none 0 0] 79)).setRow w.heap.size (scs a) = W1 at *
  rw [rounds_succ]
  obtain ⟨t1, k1, b1, up⟩ := newS b0 b _ rfl
  replace T := up _ _ _ T
  clear up
  have q0 := (k1.cell 0).trans (show (scs b)[0]? = some (.bool b.th) from rfl)
  have q1 := (k1.cell 1).trans (show (scs b)[1]? = some (.int .u8 b.id) from rfl)
  go_wp2_with (first | (refine stS (s := b) t1 rfl _ _ rfl rfl rfl rfl ?_))
  clear q0 q1 t1
  generalize (W1.alloc (.cells #[.bool false, .int .u8 0, .bool false, .int .i64 0, .slice Option.none 0 0] 79)).setRow W1.heap.size (scs b) = W2 at *
  rw [rounds_succ]
  obtain ⟨t2, k2, b2, up⟩ := newS b1 c _ rfl
  replace T := up _ _ _ T
  clear up
  have q0 := (k2.cell 0).trans (show (scs c)[0]? = some (.bool c.th) from rfl)
  have q1 := (k2.cell 1).trans (show (scs c)[1]? = some (.int .u8 c.id) from rfl)
  go_wp2_with (first | (refine stS (s := c) t2 rfl _ _ rfl rfl rfl rfl ?_))
  clear q0 q1 t2
  generalize (W2.alloc (.cells #[.bool false, .int .u8 0, .bool false, .int .i64 0, .slice Option.none 0 0] 79)).setRow W2.heap.size (scs c) = W3 at *
  go_ret2
  exact ⟨rfl, b2⟩

set_option maxRecDepth 100000 in
set_option maxHeartbeats 8000000 in
theorem Slot_NNF {a b c : Sl} {p : Nat} {id : Int} {w : World} (T : Tb w p a b c) (ha : a.th = true) (ia : ¬ a.id = id) (hb : b.th = true) (ib : ¬ b.id = id) (hc : c.th = false) : Calls Tryd.prog 24 #[.pointer (some ⟨p, 0, none⟩), .int .u8 id] w fun r w' => r = .returned (.tuple #[.int .i64 0, .bool false]) ∧ Below w.heap.size w w' := by
  have P0 := at0 a b c
  have P1 := at1 a b c
  have P2 := at2 a b c
  have b0x := Below.refl w.heap.size w
  go_enter Tryd.func24, Tryd.ntmps24
  go_wp2_with (first | (refine ldT T _ rfl rfl rfl ?_))
  refine wp_loop_rounds 4 ?_
  rw [rounds_succ]
  obtain ⟨t0, k0, b0, up⟩ := newS b0x a _ rfl
  replace T := up _ _ _ T
  clear up
  have q0 := (k0.cell 0).trans (show (scs a)[0]? = some (.bool a.th) from rfl)
  have q1 := (k0.cell 1).trans (show (scs a)[1]? = some (.int .u8 a.id) from rfl)
  go_wp2_with (first | (refine stS (s := a) t0 rfl _ _ rfl rfl rfl rfl ?_))
  clear q0 q1 t0
  generalize (w.alloc (.cells #[.bool false, .int .u8 0, .bool false, .int .i64 0, .slice Option.none 0 0] 79)).setRow w.heap.size (scs a) = W1 at *
  rw [rounds_succ]
  obtain ⟨t1, k1, b1, up⟩ := newS b0 b _ rfl
  replace T := up _ _ _ T
  clear up
  have q0 := (k1.cell 0).trans (show (scs b)[0]? = some (.bool b.th) from rfl)
  have q1 := (k1.cell 1).trans (show (scs b)[1]? = some (.int .u8 b.id) from rfl)
  go_wp2_with (first | (refine stS (s := b) t1 rfl _ _ rfl rfl rfl rfl ?_))
  clear q0 q1 t1
  generalize (W1.alloc (.cells #[.bool false, .int .u8 0, .bool false, .int .i64 0, .slice Option.none 0 0] 79)).setRow W1.heap.size (scs b) = W2 at *
  rw [rounds_succ]
  obtain ⟨t2, k2, b2, up⟩ := newS b1 c _ rfl
  replace T := up _ _ _ T
  clear up
  have q0 := (k2.cell 0).trans (show (scs c)[0]? = some (.bool c.th) from rfl)
  have q1 := (k2.cell 1).trans (show (scs c)[1]? = some (.int .u8 c.id) from rfl)
  go_wp2_with (first | (refine stS (s := c) t2 rfl _ _ rfl rfl rfl rfl ?_))
  clear q0 q1 t2
  generalize (W2.alloc (.cells #[.bool false, .int .u8 0, .bool false, .int .i64 0, .slice Option.none 0 0] 79)).setRow W2.heap.size (scs c) = W3 at *
  rw [rounds_succ]
  go_wp2
  go_ret2
  exact ⟨rfl, b2⟩

set_option maxRecDepth 100000 in
set_option maxHeartbeats 8000000 in
theorem Slot_NNN {a b c : Sl} {p : Nat} {id : Int} {w : World} (T : Tb w p a b c) (ha : a.th = true) (ia : ¬ a.id = id) (hb : b.th = true) (ib : ¬ b.id = id) (hc : c.th = true) (ic : ¬ c.id = id) : Calls Tryd.prog 24 #[.pointer (some ⟨p, 0, none⟩), .int .u8 id] w fun r w' => r = .returned (.tuple #[.int .i64 0, .bool false]) ∧ Below w.heap.size w w' := by
  have P0 := at0 a b c
  have P1 := at1 a b c
  have P2 := at2 a b c
  have b0x := Below.refl w.heap.size w
  go_enter Tryd.func24, Tryd.ntmps24
  go_wp2_with (first | (refine ldT T _ rfl rfl rfl ?_))
  refine wp_loop_rounds 4 ?_
  rw [rounds_succ]
  obtain ⟨t0, k0, b0, up⟩ := newS b0x a _ rfl
  replace T := up _ _ _ T
  clear up
  have q0 := (k0.cell 0).trans (show (scs a)[0]? = some (.bool a.th) from rfl)
  have q1 := (k0.cell 1).trans (show (scs a)[1]? = some (.int .u8 a.id) from rfl)
  go_wp2_with (first | (refine stS (s := a) t0 rfl _ _ rfl rfl rfl rfl ?_))
  clear q0 q1 t0
  generalize (w.alloc (.cells #[.bool false, .int .u8 0, .bool false, .int .i64 0, .slice Option.none 0 0] 79)).setRow w.heap.size (scs a) = W1 at *
  rw [rounds_succ]
  obtain ⟨t1, k1, b1, up⟩ := newS b0 b _ rfl
  replace T := up _ _ _ T
  clear up
  have q0 := (k1.cell 0).trans (show (scs b)[0]? = some (.bool b.th) from rfl)
  have q1 := (k1.cell 1).trans (show (scs b)[1]? = some (.int .u8 b.id) from rfl)
  go_wp2_with (first | (refine stS (s := b) t1 rfl _ _ rfl rfl rfl rfl ?_))
  clear q0 q1 t1
  generalize (W1.alloc (.cells #[.bool false, .int .u8 0, .bool false, .int .i64 0, .slice Option.none 0 0] 79)).setRow W1.heap.size (scs b) = W2 at *
  rw [rounds_succ]
  obtain ⟨t2, k2, b2, up⟩ := newS b1 c _ rfl
  replace T := up _ _ _ T
  clear up
  have q0 := (k2.cell 0).trans (show (scs c)[0]? = some (.bool c.th) from rfl)
  have q1 := (k2.cell 1).trans (show (scs c)[1]? = some (.int .u8 c.id) from rfl)
  go_wp2_with (first | (refine stS (s := c) t2 rfl _ _ rfl rfl rfl rfl ?_))
  clear q0 q1 t2
  generalize (W2.alloc (.cells #[.bool false, .int .u8 0, .bool false, .int .i64 0, .slice Option.none 0 0] 79)).setRow W2.heap.size (scs c) = W3 at *
  rw [rounds_succ]
  go_wp2
  go_ret2
  exact ⟨rfl, b2⟩

end Go.Proofs.YtekcemncmgingaaDoor.YErr
