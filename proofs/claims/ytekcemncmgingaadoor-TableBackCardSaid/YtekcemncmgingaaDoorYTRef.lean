/- The document's table (leadlineref18.Table): its cells, and what Slot, See, Has, Set, Score, Drop make of them. No condition. -/
import Derived.Test.YtekcemncmgingaaDoorYTable4
namespace Go.Proofs.YtekcemncmgingaaDoor.YErr
open Go.RowKit Go.Extern.Stop Go.Stop Go.Extern
set_option linter.unusedVariables false
set_option linter.unusedSimpArgs false
def rcs (a b c : Sl) : Array Value := #[.int .u8 a.id, .bool a.pl, .int .i64 a.sc, .slice a.sa a.sn a.cp, .int .u8 b.id, .bool b.pl, .int .i64 b.sc, .slice b.sa b.sn b.cp, .int .u8 c.id, .bool c.pl, .int .i64 c.sc, .slice c.sa c.sn c.cp, .bool a.th, .bool b.th, .bool c.th]
/-- The document's table lies there. -/
def Rt (w : World) (p : Nat) (a b c : Sl) : Prop := Blk w p (rcs a b c) 56
theorem Rt.keep {w w' : World} {p : Nat} {a b c : Sl} (T : Rt w p a b c) (g : Below w.heap.size w w') : Rt w' p a b c := Blk.keep T g

set_option maxRecDepth 100000 in
set_option maxHeartbeats 8000000 in
theorem RSlot_Y {a b c : Sl} {p : Nat} {id : Int} {w : World} (T : Rt w p a b c) (ha : a.th = true) (ia : a.id = id) : Calls Tryd.prog 25 #[.pointer (some ⟨p, 0, none⟩), .int .u8 id] w fun r w' => r = .returned (.tuple #[.int .i64 0, .bool true]) ∧ w' = w := by
  have u0 := (Blk.cell T 12).trans (show (rcs a b c)[12]? = some (.bool a.th) from rfl)
  have v0 := (Blk.cell T 0).trans (show (rcs a b c)[0]? = some (.int .u8 a.id) from rfl)
  go_enter Tryd.func25, Tryd.ntmps25
  go_wp2
  refine wp_loop_rounds 1 ?_
  rw [rounds_succ]
  go_wp2
  go_ret2
  exact ⟨rfl, rfl⟩

set_option maxRecDepth 100000 in
set_option maxHeartbeats 8000000 in
theorem RSlot_FY {a b c : Sl} {p : Nat} {id : Int} {w : World} (T : Rt w p a b c) (ha : a.th = false) (hb : b.th = true) (ib : b.id = id) : Calls Tryd.prog 25 #[.pointer (some ⟨p, 0, none⟩), .int .u8 id] w fun r w' => r = .returned (.tuple #[.int .i64 1, .bool true]) ∧ w' = w := by
  have u0 := (Blk.cell T 12).trans (show (rcs a b c)[12]? = some (.bool a.th) from rfl)
  have v0 := (Blk.cell T 0).trans (show (rcs a b c)[0]? = some (.int .u8 a.id) from rfl)
  have u1 := (Blk.cell T 13).trans (show (rcs a b c)[13]? = some (.bool b.th) from rfl)
  have v1 := (Blk.cell T 4).trans (show (rcs a b c)[4]? = some (.int .u8 b.id) from rfl)
  go_enter Tryd.func25, Tryd.ntmps25
  go_wp2
  refine wp_loop_rounds 2 ?_
  rw [rounds_succ]
  go_wp2
  rw [rounds_succ]
  go_wp2
  go_ret2
  exact ⟨rfl, rfl⟩

set_option maxRecDepth 100000 in
set_option maxHeartbeats 8000000 in
theorem RSlot_FFY {a b c : Sl} {p : Nat} {id : Int} {w : World} (T : Rt w p a b c) (ha : a.th = false) (hb : b.th = false) (hc : c.th = true) (ic : c.id = id) : Calls Tryd.prog 25 #[.pointer (some ⟨p, 0, none⟩), .int .u8 id] w fun r w' => r = .returned (.tuple #[.int .i64 2, .bool true]) ∧ w' = w := by
  have u0 := (Blk.cell T 12).trans (show (rcs a b c)[12]? = some (.bool a.th) from rfl)
  have v0 := (Blk.cell T 0).trans (show (rcs a b c)[0]? = some (.int .u8 a.id) from rfl)
  have u1 := (Blk.cell T 13).trans (show (rcs a b c)[13]? = some (.bool b.th) from rfl)
  have v1 := (Blk.cell T 4).trans (show (rcs a b c)[4]? = some (.int .u8 b.id) from rfl)
  have u2 := (Blk.cell T 14).trans (show (rcs a b c)[14]? = some (.bool c.th) from rfl)
  have v2 := (Blk.cell T 8).trans (show (rcs a b c)[8]? = some (.int .u8 c.id) from rfl)
  go_enter Tryd.func25, Tryd.ntmps25
  go_wp2
  refine wp_loop_rounds 3 ?_
  rw [rounds_succ]
  go_wp2
  rw [rounds_succ]
  go_wp2
  rw [rounds_succ]
  go_wp2
  go_ret2
  exact ⟨rfl, rfl⟩

set_option maxRecDepth 100000 in
set_option maxHeartbeats 8000000 in
theorem RSlot_FFF {a b c : Sl} {p : Nat} {id : Int} {w : World} (T : Rt w p a b c) (ha : a.th = false) (hb : b.th = false) (hc : c.th = false) : Calls Tryd.prog 25 #[.pointer (some ⟨p, 0, none⟩), .int .u8 id] w fun r w' => r = .returned (.tuple #[.int .i64 0, .bool false]) ∧ w' = w := by
  have u0 := (Blk.cell T 12).trans (show (rcs a b c)[12]? = some (.bool a.th) from rfl)
  have v0 := (Blk.cell T 0).trans (show (rcs a b c)[0]? = some (.int .u8 a.id) from rfl)
  have u1 := (Blk.cell T 13).trans (show (rcs a b c)[13]? = some (.bool b.th) from rfl)
  have v1 := (Blk.cell T 4).trans (show (rcs a b c)[4]? = some (.int .u8 b.id) from rfl)
  have u2 := (Blk.cell T 14).trans (show (rcs a b c)[14]? = some (.bool c.th) from rfl)
  have v2 := (Blk.cell T 8).trans (show (rcs a b c)[8]? = some (.int .u8 c.id) from rfl)
  go_enter Tryd.func25, Tryd.ntmps25
  go_wp2
  refine wp_loop_rounds 4 ?_
  rw [rounds_succ]
  go_wp2
  rw [rounds_succ]
  go_wp2
  rw [rounds_succ]
  go_wp2
  rw [rounds_succ]
  go_wp2
  go_ret2
  exact ⟨rfl, rfl⟩

set_option maxRecDepth 100000 in
set_option maxHeartbeats 8000000 in
theorem RSlot_FFN {a b c : Sl} {p : Nat} {id : Int} {w : World} (T : Rt w p a b c) (ha : a.th = false) (hb : b.th = false) (hc : c.th = true) (ic : ¬ c.id = id) : Calls Tryd.prog 25 #[.pointer (some ⟨p, 0, none⟩), .int .u8 id] w fun r w' => r = .returned (.tuple #[.int .i64 0, .bool false]) ∧ w' = w := by
  have u0 := (Blk.cell T 12).trans (show (rcs a b c)[12]? = some (.bool a.th) from rfl)
  have v0 := (Blk.cell T 0).trans (show (rcs a b c)[0]? = some (.int .u8 a.id) from rfl)
  have u1 := (Blk.cell T 13).trans (show (rcs a b c)[13]? = some (.bool b.th) from rfl)
  have v1 := (Blk.cell T 4).trans (show (rcs a b c)[4]? = some (.int .u8 b.id) from rfl)
  have u2 := (Blk.cell T 14).trans (show (rcs a b c)[14]? = some (.bool c.th) from rfl)
  have v2 := (Blk.cell T 8).trans (show (rcs a b c)[8]? = some (.int .u8 c.id) from rfl)
  go_enter Tryd.func25, Tryd.ntmps25
  go_wp2
  refine wp_loop_rounds 4 ?_
  rw [rounds_succ]
  go_wp2
  rw [rounds_succ]
  go_wp2
  rw [rounds_succ]
  go_wp2
  rw [rounds_succ]
  go_wp2
  go_ret2
  exact ⟨rfl, rfl⟩

set_option maxRecDepth 100000 in
set_option maxHeartbeats 8000000 in
theorem RSlot_FNY {a b c : Sl} {p : Nat} {id : Int} {w : World} (T : Rt w p a b c) (ha : a.th = false) (hb : b.th = true) (ib : ¬ b.id = id) (hc : c.th = true) (ic : c.id = id) : Calls Tryd.prog 25 #[.pointer (some ⟨p, 0, none⟩), .int .u8 id] w fun r w' => r = .returned (.tuple #[.int .i64 2, .bool true]) ∧ w' = w := by
  have u0 := (Blk.cell T 12).trans (show (rcs a b c)[12]? = some (.bool a.th) from rfl)
  have v0 := (Blk.cell T 0).trans (show (rcs a b c)[0]? = some (.int .u8 a.id) from rfl)
  have u1 := (Blk.cell T 13).trans (show (rcs a b c)[13]? = some (.bool b.th) from rfl)
  have v1 := (Blk.cell T 4).trans (show (rcs a b c)[4]? = some (.int .u8 b.id) from rfl)
  have u2 := (Blk.cell T 14).trans (show (rcs a b c)[14]? = some (.bool c.th) from rfl)
  have v2 := (Blk.cell T 8).trans (show (rcs a b c)[8]? = some (.int .u8 c.id) from rfl)
  go_enter Tryd.func25, Tryd.ntmps25
  go_wp2
  refine wp_loop_rounds 3 ?_
  rw [rounds_succ]
  go_wp2
  rw [rounds_succ]
  go_wp2
  rw [rounds_succ]
  go_wp2
  go_ret2
  exact ⟨rfl, rfl⟩

set_option maxRecDepth 100000 in
set_option maxHeartbeats 8000000 in
theorem RSlot_FNF {a b c : Sl} {p : Nat} {id : Int} {w : World} (T : Rt w p a b c) (ha : a.th = false) (hb : b.th = true) (ib : ¬ b.id = id) (hc : c.th = false) : Calls Tryd.prog 25 #[.pointer (some ⟨p, 0, none⟩), .int .u8 id] w fun r w' => r = .returned (.tuple #[.int .i64 0, .bool false]) ∧ w' = w := by
  have u0 := (Blk.cell T 12).trans (show (rcs a b c)[12]? = some (.bool a.th) from rfl)
  have v0 := (Blk.cell T 0).trans (show (rcs a b c)[0]? = some (.int .u8 a.id) from rfl)
  have u1 := (Blk.cell T 13).trans (show (rcs a b c)[13]? = some (.bool b.th) from rfl)
  have v1 := (Blk.cell T 4).trans (show (rcs a b c)[4]? = some (.int .u8 b.id) from rfl)
  have u2 := (Blk.cell T 14).trans (show (rcs a b c)[14]? = some (.bool c.th) from rfl)
  have v2 := (Blk.cell T 8).trans (show (rcs a b c)[8]? = some (.int .u8 c.id) from rfl)
  go_enter Tryd.func25, Tryd.ntmps25
  go_wp2
  refine wp_loop_rounds 4 ?_
  rw [rounds_succ]
  go_wp2
  rw [rounds_succ]
  go_wp2
  rw [rounds_succ]
  go_wp2
  rw [rounds_succ]
  go_wp2
  go_ret2
  exact ⟨rfl, rfl⟩

set_option maxRecDepth 100000 in
set_option maxHeartbeats 8000000 in
theorem RSlot_FNN {a b c : Sl} {p : Nat} {id : Int} {w : World} (T : Rt w p a b c) (ha : a.th = false) (hb : b.th = true) (ib : ¬ b.id = id) (hc : c.th = true) (ic : ¬ c.id = id) : Calls Tryd.prog 25 #[.pointer (some ⟨p, 0, none⟩), .int .u8 id] w fun r w' => r = .returned (.tuple #[.int .i64 0, .bool false]) ∧ w' = w := by
  have u0 := (Blk.cell T 12).trans (show (rcs a b c)[12]? = some (.bool a.th) from rfl)
  have v0 := (Blk.cell T 0).trans (show (rcs a b c)[0]? = some (.int .u8 a.id) from rfl)
  have u1 := (Blk.cell T 13).trans (show (rcs a b c)[13]? = some (.bool b.th) from rfl)
  have v1 := (Blk.cell T 4).trans (show (rcs a b c)[4]? = some (.int .u8 b.id) from rfl)
  have u2 := (Blk.cell T 14).trans (show (rcs a b c)[14]? = some (.bool c.th) from rfl)
  have v2 := (Blk.cell T 8).trans (show (rcs a b c)[8]? = some (.int .u8 c.id) from rfl)
  go_enter Tryd.func25, Tryd.ntmps25
  go_wp2
  refine wp_loop_rounds 4 ?_
  rw [rounds_succ]
  go_wp2
  rw [rounds_succ]
  go_wp2
  rw [rounds_succ]
  go_wp2
  rw [rounds_succ]
  go_wp2
  go_ret2
  exact ⟨rfl, rfl⟩

set_option maxRecDepth 100000 in
set_option maxHeartbeats 8000000 in
theorem RSlot_NY {a b c : Sl} {p : Nat} {id : Int} {w : World} (T : Rt w p a b c) (ha : a.th = true) (ia : ¬ a.id = id) (hb : b.th = true) (ib : b.id = id) : Calls Tryd.prog 25 #[.pointer (some ⟨p, 0, none⟩), .int .u8 id] w fun r w' => r = .returned (.tuple #[.int .i64 1, .bool true]) ∧ w' = w := by
  have u0 := (Blk.cell T 12).trans (show (rcs a b c)[12]? = some (.bool a.th) from rfl)
  have v0 := (Blk.cell T 0).trans (show (rcs a b c)[0]? = some (.int .u8 a.id) from rfl)
  have u1 := (Blk.cell T 13).trans (show (rcs a b c)[13]? = some (.bool b.th) from rfl)
  have v1 := (Blk.cell T 4).trans (show (rcs a b c)[4]? = some (.int .u8 b.id) from rfl)
  go_enter Tryd.func25, Tryd.ntmps25
  go_wp2
  refine wp_loop_rounds 2 ?_
  rw [rounds_succ]
  go_wp2
  rw [rounds_succ]
  go_wp2
  go_ret2
  exact ⟨rfl, rfl⟩

set_option maxRecDepth 100000 in
set_option maxHeartbeats 8000000 in
theorem RSlot_NFY {a b c : Sl} {p : Nat} {id : Int} {w : World} (T : Rt w p a b c) (ha : a.th = true) (ia : ¬ a.id = id) (hb : b.th = false) (hc : c.th = true) (ic : c.id = id) : Calls Tryd.prog 25 #[.pointer (some ⟨p, 0, none⟩), .int .u8 id] w fun r w' => r = .returned (.tuple #[.int .i64 2, .bool true]) ∧ w' = w := by
  have u0 := (Blk.cell T 12).trans (show (rcs a b c)[12]? = some (.bool a.th) from rfl)
  have v0 := (Blk.cell T 0).trans (show (rcs a b c)[0]? = some (.int .u8 a.id) from rfl)
  have u1 := (Blk.cell T 13).trans (show (rcs a b c)[13]? = some (.bool b.th) from rfl)
  have v1 := (Blk.cell T 4).trans (show (rcs a b c)[4]? = some (.int .u8 b.id) from rfl)
  have u2 := (Blk.cell T 14).trans (show (rcs a b c)[14]? = some (.bool c.th) from rfl)
  have v2 := (Blk.cell T 8).trans (show (rcs a b c)[8]? = some (.int .u8 c.id) from rfl)
  go_enter Tryd.func25, Tryd.ntmps25
  go_wp2
  refine wp_loop_rounds 3 ?_
  rw [rounds_succ]
  go_wp2
  rw [rounds_succ]
  go_wp2
  rw [rounds_succ]
  go_wp2
  go_ret2
  exact ⟨rfl, rfl⟩

set_option maxRecDepth 100000 in
set_option maxHeartbeats 8000000 in
theorem RSlot_NFF {a b c : Sl} {p : Nat} {id : Int} {w : World} (T : Rt w p a b c) (ha : a.th = true) (ia : ¬ a.id = id) (hb : b.th = false) (hc : c.th = false) : Calls Tryd.prog 25 #[.pointer (some ⟨p, 0, none⟩), .int .u8 id] w fun r w' => r = .returned (.tuple #[.int .i64 0, .bool false]) ∧ w' = w := by
  have u0 := (Blk.cell T 12).trans (show (rcs a b c)[12]? = some (.bool a.th) from rfl)
  have v0 := (Blk.cell T 0).trans (show (rcs a b c)[0]? = some (.int .u8 a.id) from rfl)
  have u1 := (Blk.cell T 13).trans (show (rcs a b c)[13]? = some (.bool b.th) from rfl)
  have v1 := (Blk.cell T 4).trans (show (rcs a b c)[4]? = some (.int .u8 b.id) from rfl)
  have u2 := (Blk.cell T 14).trans (show (rcs a b c)[14]? = some (.bool c.th) from rfl)
  have v2 := (Blk.cell T 8).trans (show (rcs a b c)[8]? = some (.int .u8 c.id) from rfl)
  go_enter Tryd.func25, Tryd.ntmps25
  go_wp2
  refine wp_loop_rounds 4 ?_
  rw [rounds_succ]
  go_wp2
  rw [rounds_succ]
  go_wp2
  rw [rounds_succ]
  go_wp2
  rw [rounds_succ]
  go_wp2
  go_ret2
  exact ⟨rfl, rfl⟩

set_option maxRecDepth 100000 in
set_option maxHeartbeats 8000000 in
theorem RSlot_NFN {a b c : Sl} {p : Nat} {id : Int} {w : World} (T : Rt w p a b c) (ha : a.th = true) (ia : ¬ a.id = id) (hb : b.th = false) (hc : c.th = true) (ic : ¬ c.id = id) : Calls Tryd.prog 25 #[.pointer (some ⟨p, 0, none⟩), .int .u8 id] w fun r w' => r = .returned (.tuple #[.int .i64 0, .bool false]) ∧ w' = w := by
  have u0 := (Blk.cell T 12).trans (show (rcs a b c)[12]? = some (.bool a.th) from rfl)
  have v0 := (Blk.cell T 0).trans (show (rcs a b c)[0]? = some (.int .u8 a.id) from rfl)
  have u1 := (Blk.cell T 13).trans (show (rcs a b c)[13]? = some (.bool b.th) from rfl)
  have v1 := (Blk.cell T 4).trans (show (rcs a b c)[4]? = some (.int .u8 b.id) from rfl)
  have u2 := (Blk.cell T 14).trans (show (rcs a b c)[14]? = some (.bool c.th) from rfl)
  have v2 := (Blk.cell T 8).trans (show (rcs a b c)[8]? = some (.int .u8 c.id) from rfl)
  go_enter Tryd.func25, Tryd.ntmps25
  go_wp2
  refine wp_loop_rounds 4 ?_
  rw [rounds_succ]
  go_wp2
  rw [rounds_succ]
  go_wp2
  rw [rounds_succ]
  go_wp2
  rw [rounds_succ]
  go_wp2
  go_ret2
  exact ⟨rfl, rfl⟩

set_option maxRecDepth 100000 in
set_option maxHeartbeats 8000000 in
theorem RSlot_NNY {a b c : Sl} {p : Nat} {id : Int} {w : World} (T : Rt w p a b c) (ha : a.th = true) (ia : ¬ a.id = id) (hb : b.th = true) (ib : ¬ b.id = id) (hc : c.th = true) (ic : c.id = id) : Calls Tryd.prog 25 #[.pointer (some ⟨p, 0, none⟩), .int .u8 id] w fun r w' => r = .returned (.tuple #[.int .i64 2, .bool true]) ∧ w' = w := by
  have u0 := (Blk.cell T 12).trans (show (rcs a b c)[12]? = some (.bool a.th) from rfl)
  have v0 := (Blk.cell T 0).trans (show (rcs a b c)[0]? = some (.int .u8 a.id) from rfl)
  have u1 := (Blk.cell T 13).trans (show (rcs a b c)[13]? = some (.bool b.th) from rfl)
  have v1 := (Blk.cell T 4).trans (show (rcs a b c)[4]? = some (.int .u8 b.id) from rfl)
  have u2 := (Blk.cell T 14).trans (show (rcs a b c)[14]? = some (.bool c.th) from rfl)
  have v2 := (Blk.cell T 8).trans (show (rcs a b c)[8]? = some (.int .u8 c.id) from rfl)
  go_enter Tryd.func25, Tryd.ntmps25
  go_wp2
  refine wp_loop_rounds 3 ?_
  rw [rounds_succ]
  go_wp2
  rw [rounds_succ]
  go_wp2
  rw [rounds_succ]
  go_wp2
  go_ret2
  exact ⟨rfl, rfl⟩

set_option maxRecDepth 100000 in
set_option maxHeartbeats 8000000 in
theorem RSlot_NNF {a b c : Sl} {p : Nat} {id : Int} {w : World} (T : Rt w p a b c) (ha : a.th = true) (ia : ¬ a.id = id) (hb : b.th = true) (ib : ¬ b.id = id) (hc : c.th = false) : Calls Tryd.prog 25 #[.pointer (some ⟨p, 0, none⟩), .int .u8 id] w fun r w' => r = .returned (.tuple #[.int .i64 0, .bool false]) ∧ w' = w := by
  have u0 := (Blk.cell T 12).trans (show (rcs a b c)[12]? = some (.bool a.th) from rfl)
  have v0 := (Blk.cell T 0).trans (show (rcs a b c)[0]? = some (.int .u8 a.id) from rfl)
  have u1 := (Blk.cell T 13).trans (show (rcs a b c)[13]? = some (.bool b.th) from rfl)
  have v1 := (Blk.cell T 4).trans (show (rcs a b c)[4]? = some (.int .u8 b.id) from rfl)
  have u2 := (Blk.cell T 14).trans (show (rcs a b c)[14]? = some (.bool c.th) from rfl)
  have v2 := (Blk.cell T 8).trans (show (rcs a b c)[8]? = some (.int .u8 c.id) from rfl)
  go_enter Tryd.func25, Tryd.ntmps25
  go_wp2
  refine wp_loop_rounds 4 ?_
  rw [rounds_succ]
  go_wp2
  rw [rounds_succ]
  go_wp2
  rw [rounds_succ]
  go_wp2
  rw [rounds_succ]
  go_wp2
  go_ret2
  exact ⟨rfl, rfl⟩

set_option maxRecDepth 100000 in
set_option maxHeartbeats 8000000 in
theorem RSlot_NNN {a b c : Sl} {p : Nat} {id : Int} {w : World} (T : Rt w p a b c) (ha : a.th = true) (ia : ¬ a.id = id) (hb : b.th = true) (ib : ¬ b.id = id) (hc : c.th = true) (ic : ¬ c.id = id) : Calls Tryd.prog 25 #[.pointer (some ⟨p, 0, none⟩), .int .u8 id] w fun r w' => r = .returned (.tuple #[.int .i64 0, .bool false]) ∧ w' = w := by
  have u0 := (Blk.cell T 12).trans (show (rcs a b c)[12]? = some (.bool a.th) from rfl)
  have v0 := (Blk.cell T 0).trans (show (rcs a b c)[0]? = some (.int .u8 a.id) from rfl)
  have u1 := (Blk.cell T 13).trans (show (rcs a b c)[13]? = some (.bool b.th) from rfl)
  have v1 := (Blk.cell T 4).trans (show (rcs a b c)[4]? = some (.int .u8 b.id) from rfl)
  have u2 := (Blk.cell T 14).trans (show (rcs a b c)[14]? = some (.bool c.th) from rfl)
  have v2 := (Blk.cell T 8).trans (show (rcs a b c)[8]? = some (.int .u8 c.id) from rfl)
  go_enter Tryd.func25, Tryd.ntmps25
  go_wp2
  refine wp_loop_rounds 4 ?_
  rw [rounds_succ]
  go_wp2
  rw [rounds_succ]
  go_wp2
  rw [rounds_succ]
  go_wp2
  rw [rounds_succ]
  go_wp2
  go_ret2
  exact ⟨rfl, rfl⟩

set_option maxRecDepth 100000 in
set_option maxHeartbeats 8000000 in
theorem RSee_found {p k : Nat} {id : Int} {w : World} (hS : Calls Tryd.prog 25 #[.pointer (some ⟨p, 0, none⟩), .int .u8 id] w fun r w' => r = .returned (.tuple #[.int .i64 k, .bool true]) ∧ w' = w) : Calls Tryd.prog 23 #[.pointer (some ⟨p, 0, none⟩), .int .u8 id] w fun r w' => r = .returned (.tuple #[.int .i64 k, .int .i64 0]) ∧ w' = w := by
  go_enter Tryd.func23, Tryd.ntmps23
  go_wp2_with fail
  refine hS.mono ?_; rintro r w1 ⟨rfl, rfl⟩
  go_wp2_with fail
  go_ret2
  exact ⟨rfl, rfl⟩

set_option maxRecDepth 100000 in
set_option maxHeartbeats 8000000 in
theorem RSee_free0 {a b c : Sl} {p : Nat} {id : Int} {w : World} (T : Rt w p a b c) (ha : a.th = false) (hS : Calls Tryd.prog 25 #[.pointer (some ⟨p, 0, none⟩), .int .u8 id] w fun r w' => r = .returned (.tuple #[.int .i64 0, .bool false]) ∧ w' = w) : Calls Tryd.prog 23 #[.pointer (some ⟨p, 0, none⟩), .int .u8 id] w fun r w' => r = .returned (.tuple #[.int .i64 0, .int .i64 0]) ∧ Rt w' p (Sl.new id) b c ∧ One w w' p := by
  have u0 := (Blk.cell T 12).trans (show (rcs a b c)[12]? = some (.bool a.th) from rfl)
  have f12 := Blk.free T 12
  have e0 : _ = some _ := (Blk.cell T 0).trans (show (rcs a b c)[0]? = some _ from rfl)
  have f0 := Blk.free T 0
  have e1 : _ = some _ := (Blk.cell T 1).trans (show (rcs a b c)[1]? = some _ from rfl)
  have f1 := Blk.free T 1
  have e2 : _ = some _ := (Blk.cell T 2).trans (show (rcs a b c)[2]? = some _ from rfl)
  have f2 := Blk.free T 2
  have e3 : _ = some _ := (Blk.cell T 3).trans (show (rcs a b c)[3]? = some _ from rfl)
  have f3 := Blk.free T 3
  go_enter Tryd.func23, Tryd.ntmps23
  go_wp2_with fail
  refine hS.mono ?_; rintro r w1 ⟨rfl, rfl⟩
  clear hS
  go_wp2_with fail
  refine wp_loop_rounds 1 ?_
  rw [rounds_succ]
  go_wp2_with fail
  go_region
  all_goals go_wp2
  all_goals go_ret2
  all_goals first
    | exact ⟨rfl, Blk.set (Blk.set (Blk.set (Blk.set (Blk.set (Blk.drew T) 0 (.int .u8 id)) 1 (.bool false)) 2 (.int .i64 0)) 3 (.slice Option.none 0 0)) 12 (.bool true), One.set (One.set (One.set (One.set (One.set (One.of (Below.refl _ _).drew) 0 (.int .u8 id)) 1 (.bool false)) 2 (.int .i64 0)) 3 (.slice Option.none 0 0)) 12 (.bool true)⟩
    | exact ⟨rfl, Blk.set (Blk.set (Blk.set (Blk.set (Blk.set (Blk.drew T) 12 (.bool true)) 0 (.int .u8 id)) 1 (.bool false)) 2 (.int .i64 0)) 3 (.slice Option.none 0 0), One.set (One.set (One.set (One.set (One.set (One.of (Below.refl _ _).drew) 12 (.bool true)) 0 (.int .u8 id)) 1 (.bool false)) 2 (.int .i64 0)) 3 (.slice Option.none 0 0)⟩

set_option maxRecDepth 100000 in
set_option maxHeartbeats 8000000 in
theorem RSee_free1 {a b c : Sl} {p : Nat} {id : Int} {w : World} (T : Rt w p a b c) (ha : a.th = true) (hb : b.th = false) (hS : Calls Tryd.prog 25 #[.pointer (some ⟨p, 0, none⟩), .int .u8 id] w fun r w' => r = .returned (.tuple #[.int .i64 0, .bool false]) ∧ w' = w) : Calls Tryd.prog 23 #[.pointer (some ⟨p, 0, none⟩), .int .u8 id] w fun r w' => r = .returned (.tuple #[.int .i64 1, .int .i64 0]) ∧ Rt w' p a (Sl.new id) c ∧ One w w' p := by
  have u0 := (Blk.cell T 12).trans (show (rcs a b c)[12]? = some (.bool a.th) from rfl)
  have u1 := (Blk.cell T 13).trans (show (rcs a b c)[13]? = some (.bool b.th) from rfl)
  have f12 := Blk.free T 13
  have e0 : _ = some _ := (Blk.cell T 4).trans (show (rcs a b c)[4]? = some _ from rfl)
  have f0 := Blk.free T 4
  have e1 : _ = some _ := (Blk.cell T 5).trans (show (rcs a b c)[5]? = some _ from rfl)
  have f1 := Blk.free T 5
  have e2 : _ = some _ := (Blk.cell T 6).trans (show (rcs a b c)[6]? = some _ from rfl)
  have f2 := Blk.free T 6
  have e3 : _ = some _ := (Blk.cell T 7).trans (show (rcs a b c)[7]? = some _ from rfl)
  have f3 := Blk.free T 7
  go_enter Tryd.func23, Tryd.ntmps23
  go_wp2_with fail
  refine hS.mono ?_; rintro r w1 ⟨rfl, rfl⟩
  clear hS
  go_wp2_with fail
  refine wp_loop_rounds 2 ?_
  rw [rounds_succ]
  go_wp2_with fail
  rw [rounds_succ]
  go_wp2_with fail
  go_region
  all_goals go_wp2
  all_goals go_ret2
  all_goals first
    | exact ⟨rfl, Blk.set (Blk.set (Blk.set (Blk.set (Blk.set (Blk.drew T) 4 (.int .u8 id)) 5 (.bool false)) 6 (.int .i64 0)) 7 (.slice Option.none 0 0)) 13 (.bool true), One.set (One.set (One.set (One.set (One.set (One.of (Below.refl _ _).drew) 4 (.int .u8 id)) 5 (.bool false)) 6 (.int .i64 0)) 7 (.slice Option.none 0 0)) 13 (.bool true)⟩
    | exact ⟨rfl, Blk.set (Blk.set (Blk.set (Blk.set (Blk.set (Blk.drew T) 13 (.bool true)) 4 (.int .u8 id)) 5 (.bool false)) 6 (.int .i64 0)) 7 (.slice Option.none 0 0), One.set (One.set (One.set (One.set (One.set (One.of (Below.refl _ _).drew) 13 (.bool true)) 4 (.int .u8 id)) 5 (.bool false)) 6 (.int .i64 0)) 7 (.slice Option.none 0 0)⟩

set_option maxRecDepth 100000 in
set_option maxHeartbeats 8000000 in
theorem RSee_free2 {a b c : Sl} {p : Nat} {id : Int} {w : World} (T : Rt w p a b c) (ha : a.th = true) (hb : b.th = true) (hc : c.th = false) (hS : Calls Tryd.prog 25 #[.pointer (some ⟨p, 0, none⟩), .int .u8 id] w fun r w' => r = .returned (.tuple #[.int .i64 0, .bool false]) ∧ w' = w) : Calls Tryd.prog 23 #[.pointer (some ⟨p, 0, none⟩), .int .u8 id] w fun r w' => r = .returned (.tuple #[.int .i64 2, .int .i64 0]) ∧ Rt w' p a b (Sl.new id) ∧ One w w' p := by
  have u0 := (Blk.cell T 12).trans (show (rcs a b c)[12]? = some (.bool a.th) from rfl)
  have u1 := (Blk.cell T 13).trans (show (rcs a b c)[13]? = some (.bool b.th) from rfl)
  have u2 := (Blk.cell T 14).trans (show (rcs a b c)[14]? = some (.bool c.th) from rfl)
  have f12 := Blk.free T 14
  have e0 : _ = some _ := (Blk.cell T 8).trans (show (rcs a b c)[8]? = some _ from rfl)
  have f0 := Blk.free T 8
  have e1 : _ = some _ := (Blk.cell T 9).trans (show (rcs a b c)[9]? = some _ from rfl)
  have f1 := Blk.free T 9
  have e2 : _ = some _ := (Blk.cell T 10).trans (show (rcs a b c)[10]? = some _ from rfl)
  have f2 := Blk.free T 10
  have e3 : _ = some _ := (Blk.cell T 11).trans (show (rcs a b c)[11]? = some _ from rfl)
  have f3 := Blk.free T 11
  go_enter Tryd.func23, Tryd.ntmps23
  go_wp2_with fail
  refine hS.mono ?_; rintro r w1 ⟨rfl, rfl⟩
  clear hS
  go_wp2_with fail
  refine wp_loop_rounds 3 ?_
  rw [rounds_succ]
  go_wp2_with fail
  rw [rounds_succ]
  go_wp2_with fail
  rw [rounds_succ]
  go_wp2_with fail
  go_region
  all_goals go_wp2
  all_goals go_ret2
  all_goals first
    | exact ⟨rfl, Blk.set (Blk.set (Blk.set (Blk.set (Blk.set (Blk.drew T) 8 (.int .u8 id)) 9 (.bool false)) 10 (.int .i64 0)) 11 (.slice Option.none 0 0)) 14 (.bool true), One.set (One.set (One.set (One.set (One.set (One.of (Below.refl _ _).drew) 8 (.int .u8 id)) 9 (.bool false)) 10 (.int .i64 0)) 11 (.slice Option.none 0 0)) 14 (.bool true)⟩
    | exact ⟨rfl, Blk.set (Blk.set (Blk.set (Blk.set (Blk.set (Blk.drew T) 14 (.bool true)) 8 (.int .u8 id)) 9 (.bool false)) 10 (.int .i64 0)) 11 (.slice Option.none 0 0), One.set (One.set (One.set (One.set (One.set (One.of (Below.refl _ _).drew) 14 (.bool true)) 8 (.int .u8 id)) 9 (.bool false)) 10 (.int .i64 0)) 11 (.slice Option.none 0 0)⟩

set_option maxRecDepth 100000 in
set_option maxHeartbeats 8000000 in
theorem RSee_full {a b c : Sl} {p : Nat} {id : Int} {w : World} (T : Rt w p a b c) (ha : a.th = true) (hb : b.th = true) (hc : c.th = true) (hS : Calls Tryd.prog 25 #[.pointer (some ⟨p, 0, none⟩), .int .u8 id] w fun r w' => r = .returned (.tuple #[.int .i64 0, .bool false]) ∧ w' = w) : Calls Tryd.prog 23 #[.pointer (some ⟨p, 0, none⟩), .int .u8 id] w fun r w' => r = .returned (.tuple #[.int .i64 0, .int .i64 35]) ∧ w' = w := by
  have u0 := (Blk.cell T 12).trans (show (rcs a b c)[12]? = some (.bool a.th) from rfl)
  have u1 := (Blk.cell T 13).trans (show (rcs a b c)[13]? = some (.bool b.th) from rfl)
  have u2 := (Blk.cell T 14).trans (show (rcs a b c)[14]? = some (.bool c.th) from rfl)
  go_enter Tryd.func23, Tryd.ntmps23
  go_wp2_with fail
  refine hS.mono ?_; rintro r w1 ⟨rfl, rfl⟩
  clear hS
  go_wp2_with fail
  refine wp_loop_rounds 4 ?_
  rw [rounds_succ]
  go_wp2_with fail
  rw [rounds_succ]
  go_wp2_with fail
  rw [rounds_succ]
  go_wp2_with fail
  rw [rounds_succ]
  go_wp2_with fail
  go_ret2
  exact ⟨rfl, rfl⟩

set_option maxRecDepth 100000 in
set_option maxHeartbeats 8000000 in
theorem RHas_0 {a b c : Sl} {p : Nat} {w : World} (T : Rt w p a b c) : Calls Tryd.prog 40 #[.pointer (some ⟨p, 0, none⟩), .int .i64 0] w fun r w' => r = .returned (.bool a.th) ∧ w' = w := by
  have q := (Blk.cell T 12).trans (show (rcs a b c)[12]? = some (.bool a.th) from rfl)
  go_enter Tryd.func40, Tryd.ntmps40
  go_wp2
  go_ret
  exact ⟨rfl, rfl⟩

set_option maxRecDepth 100000 in
set_option maxHeartbeats 8000000 in
theorem RHas_1 {a b c : Sl} {p : Nat} {w : World} (T : Rt w p a b c) : Calls Tryd.prog 40 #[.pointer (some ⟨p, 0, none⟩), .int .i64 1] w fun r w' => r = .returned (.bool b.th) ∧ w' = w := by
  have q := (Blk.cell T 13).trans (show (rcs a b c)[13]? = some (.bool b.th) from rfl)
  go_enter Tryd.func40, Tryd.ntmps40
  go_wp2
  go_ret
  exact ⟨rfl, rfl⟩

set_option maxRecDepth 100000 in
set_option maxHeartbeats 8000000 in
theorem RHas_2 {a b c : Sl} {p : Nat} {w : World} (T : Rt w p a b c) : Calls Tryd.prog 40 #[.pointer (some ⟨p, 0, none⟩), .int .i64 2] w fun r w' => r = .returned (.bool c.th) ∧ w' = w := by
  have q := (Blk.cell T 14).trans (show (rcs a b c)[14]? = some (.bool c.th) from rfl)
  go_enter Tryd.func40, Tryd.ntmps40
  go_wp2
  go_ret
  exact ⟨rfl, rfl⟩

set_option maxRecDepth 100000 in
set_option maxHeartbeats 8000000 in
theorem RHas_out {a b c : Sl} {p : Nat} {k : Int} {w : World} (h : k < 0 ∨ 3 ≤ k) : Calls Tryd.prog 40 #[.pointer (some ⟨p, 0, none⟩), .int .i64 k] w fun r w' => r = .returned (.bool false) ∧ w' = w := by
  rcases h with h | h
  · have e : decide (0 ≤ k) = false := by simpa using h
    go_enter Tryd.func40, Tryd.ntmps40
    go_wp2
    go_ret
    exact ⟨rfl, rfl⟩
  · have e0 : decide (0 ≤ k) = true := by simp; omega
    have e : decide (k < 3) = false := by simpa using h
    go_enter Tryd.func40, Tryd.ntmps40
    go_wp2
    go_ret
    exact ⟨rfl, rfl⟩

set_option maxRecDepth 100000 in
set_option maxHeartbeats 8000000 in
theorem RSet_none {p : Nat} {k : Int} {w : World} (hH : Calls Tryd.prog 40 #[.pointer (some ⟨p, 0, none⟩), .int .i64 k] w fun r w' => r = .returned (.bool false) ∧ w' = w) : Calls Tryd.prog 20 #[.pointer (some ⟨p, 0, none⟩), .int .i64 k] w fun r w' => r = .returned (.int .i64 36) ∧ w' = w := by
  go_enter Tryd.func20, Tryd.ntmps20
  go_wp2_with fail
  refine hH.mono ?_; rintro r w1 ⟨rfl, rfl⟩
  go_wp2_with fail
  go_ret
  exact ⟨rfl, rfl⟩

set_option maxRecDepth 100000 in
set_option maxHeartbeats 8000000 in
theorem RScore_none {p : Nat} {k : Int} {w : World} (x : Bool) (hH : Calls Tryd.prog 40 #[.pointer (some ⟨p, 0, none⟩), .int .i64 k] w fun r w' => r = .returned (.bool false) ∧ w' = w) : Calls Tryd.prog 21 #[.pointer (some ⟨p, 0, none⟩), .int .i64 k, .bool x] w fun r w' => r = .returned (.tuple #[.int .i64 0, .int .i64 36]) ∧ w' = w := by
  go_enter Tryd.func21, Tryd.ntmps21
  go_wp2_with fail
  refine hH.mono ?_; rintro r w1 ⟨rfl, rfl⟩
  go_wp2_with fail
  go_ret2
  exact ⟨rfl, rfl⟩

set_option maxRecDepth 100000 in
set_option maxHeartbeats 8000000 in
theorem RKeep_none {p : Nat} {k : Int} {x y r : Int} {w : World} (hH : ∀ W, Below w.heap.size w W → Calls Tryd.prog 40 #[.pointer (some ⟨p, 0, none⟩), .int .i64 k] W fun r w' => r = .returned (.bool false) ∧ w' = W) : Calls Tryd.prog 19 #[.pointer (some ⟨p, 0, none⟩), .int .i64 k, .agg #[.int .i64 x, .int .i64 y], .int .i64 r] w fun e w' => e = .returned (.int .i64 36) ∧ Below w.heap.size w w' := by
  have B1 : Below w.heap.size w (w.alloc (.cells #[.int .i64 x, .int .i64 y] 46)) := (Below.refl _ _).alloc (Nat.le_refl _) _
  replace hH := hH _ B1
  go_enter Tryd.func19, Tryd.ntmps19
  go_wp2_with fail
  refine hH.mono ?_; rintro r w1 ⟨rfl, e1⟩
  subst e1
  go_wp2_with fail
  go_ret
  exact ⟨rfl, B1⟩

set_option maxRecDepth 100000 in
set_option maxHeartbeats 8000000 in
theorem RSet_there0 {a b c : Sl} {p : Nat} {w : World} (T : Rt w p a b c) (h : a.th = true) (hp : a.pl = true) : Calls Tryd.prog 20 #[.pointer (some ⟨p, 0, none⟩), .int .i64 0] w fun r w' => r = .returned (.int .i64 37) ∧ w' = w := by
  have I := RHas_0 T
  rw [h] at I
  have q := (Blk.cell T 1).trans (show (rcs a b c)[1]? = some (.bool a.pl) from rfl)
  go_enter Tryd.func20, Tryd.ntmps20
  go_wp2_with fail
  refine I.mono ?_; rintro r w1 ⟨rfl, rfl⟩
  go_wp2_with fail
  go_ret
  exact ⟨rfl, rfl⟩

set_option maxRecDepth 100000 in
set_option maxHeartbeats 8000000 in
theorem RSet_ok0 {a b c : Sl} {p : Nat} {w : World} (T : Rt w p a b c) (h : a.th = true) (hp : a.pl = false) : Calls Tryd.prog 20 #[.pointer (some ⟨p, 0, none⟩), .int .i64 0] w fun r w' => r = .returned (.int .i64 0) ∧ Rt w' p ⟨a.th, a.id, true, a.sc, none, 0, 0⟩ b c ∧ One w w' p := by
  have I := RHas_0 T
  rw [h] at I
  have q := (Blk.cell T 1).trans (show (rcs a b c)[1]? = some (.bool a.pl) from rfl)
  have q3 : _ = some _ := (Blk.cell T 3).trans (show (rcs a b c)[3]? = some _ from rfl)
  have f1 := Blk.free T 1
  have f3 := Blk.free T 3
  go_enter Tryd.func20, Tryd.ntmps20
  go_wp2_with fail
  refine I.mono ?_; rintro r w1 ⟨rfl, rfl⟩
  go_wp2_with fail
  go_region
  all_goals go_wp2
  all_goals go_ret
  all_goals first | exact ⟨rfl, Blk.set (Blk.set (Blk.drew T) 1 (.bool true)) 3 (.slice Option.none 0 0), One.set (One.set (One.of (Below.refl _ _).drew) 1 _) 3 _⟩ | exact ⟨rfl, Blk.set (Blk.set (Blk.drew T) 3 (.slice Option.none 0 0)) 1 (.bool true), One.set (One.set (One.of (Below.refl _ _).drew) 3 _) 1 _⟩

set_option maxRecDepth 100000 in
set_option maxHeartbeats 8000000 in
theorem RScore_ok0 {a b c : Sl} {p : Nat} {w : World} (T : Rt w p a b c) (h : a.th = true) (h0 : -8 ≤ a.sc) (h1 : a.sc ≤ 8) (x : Bool) : Calls Tryd.prog 21 #[.pointer (some ⟨p, 0, none⟩), .int .i64 0, .bool x] w fun r w' => r = .returned (.tuple #[.int .i64 (qual a.sc x), .int .i64 0]) ∧ Rt w' p ⟨a.th, a.id, a.pl, qual a.sc x, a.sa, a.sn, a.cp⟩ b c ∧ One w w' p := by
  have I := RHas_0 T
  rw [h] at I
  have Q := fun W => rquality a.sc x h0 h1 W
  have q := (Blk.cell T 2).trans (show (rcs a b c)[2]? = some (.int .i64 a.sc) from rfl)
  have f := Blk.free T 2
  go_enter Tryd.func21, Tryd.ntmps21
  go_wp2_with fail
  refine I.mono ?_; rintro r w1 ⟨rfl, rfl⟩
  go_wp2_with fail
  have T1 := Blk.drew (Blk.set T 2 (.int .i64 (qual a.sc x)))
  have O1 := (One.set (One.refl w1 p) 2 (.int .i64 (qual a.sc x))).trans (One.of (p := p) (Below.refl _ _).drew)
  go_region_law (first | (go_simp; go_at_call 12; refine (Q _).mono ?_; rintro e w4 ⟨rfl, rfl⟩))
  all_goals go_wp2
  all_goals go_ret2
  all_goals exact ⟨rfl, T1, O1⟩

set_option maxRecDepth 100000 in
set_option maxHeartbeats 8000000 in
theorem RDrop_0 {a b c : Sl} {p : Nat} {id : Int} {w : World} (T : Rt w p a b c) (hS : Calls Tryd.prog 25 #[.pointer (some ⟨p, 0, none⟩), .int .u8 id] w fun r w' => r = .returned (.tuple #[.int .i64 0, .bool true]) ∧ w' = w) : Calls Tryd.prog 22 #[.pointer (some ⟨p, 0, none⟩), .int .u8 id] w fun r w' => r = .returned (.int .i64 0) ∧ Rt w' p Sl.none b c ∧ One w w' p := by
  have u : _ = some _ := (Blk.cell T 12).trans (show (rcs a b c)[12]? = some _ from rfl)
  have f12 := Blk.free T 12
  have e0 : _ = some _ := (Blk.cell T 0).trans (show (rcs a b c)[0]? = some _ from rfl)
  have f0 := Blk.free T 0
  have e1 : _ = some _ := (Blk.cell T 1).trans (show (rcs a b c)[1]? = some _ from rfl)
  have f1 := Blk.free T 1
  have e2 : _ = some _ := (Blk.cell T 2).trans (show (rcs a b c)[2]? = some _ from rfl)
  have f2 := Blk.free T 2
  have e3 : _ = some _ := (Blk.cell T 3).trans (show (rcs a b c)[3]? = some _ from rfl)
  have f3 := Blk.free T 3
  go_enter Tryd.func22, Tryd.ntmps22
  go_wp2_with fail
  refine hS.mono ?_; rintro r w1 ⟨rfl, rfl⟩
  clear hS
  go_wp2_with fail
  go_region
  all_goals go_wp2
  all_goals go_ret
  all_goals first
    | exact ⟨rfl, Blk.set (Blk.set (Blk.set (Blk.set (Blk.set (Blk.drew T) 0 (.int .u8 0)) 1 (.bool false)) 2 (.int .i64 0)) 3 (.slice Option.none 0 0)) 12 (.bool false), One.set (One.set (One.set (One.set (One.set (One.of (Below.refl _ _).drew) 0 (.int .u8 0)) 1 (.bool false)) 2 (.int .i64 0)) 3 (.slice Option.none 0 0)) 12 (.bool false)⟩
    | exact ⟨rfl, Blk.set (Blk.set (Blk.set (Blk.set (Blk.set (Blk.drew T) 12 (.bool false)) 0 (.int .u8 0)) 1 (.bool false)) 2 (.int .i64 0)) 3 (.slice Option.none 0 0), One.set (One.set (One.set (One.set (One.set (One.of (Below.refl _ _).drew) 12 (.bool false)) 0 (.int .u8 0)) 1 (.bool false)) 2 (.int .i64 0)) 3 (.slice Option.none 0 0)⟩

set_option maxRecDepth 100000 in
set_option maxHeartbeats 8000000 in
theorem RSet_there1 {a b c : Sl} {p : Nat} {w : World} (T : Rt w p a b c) (h : b.th = true) (hp : b.pl = true) : Calls Tryd.prog 20 #[.pointer (some ⟨p, 0, none⟩), .int .i64 1] w fun r w' => r = .returned (.int .i64 37) ∧ w' = w := by
  have I := RHas_1 T
  rw [h] at I
  have q := (Blk.cell T 5).trans (show (rcs a b c)[5]? = some (.bool b.pl) from rfl)
  go_enter Tryd.func20, Tryd.ntmps20
  go_wp2_with fail
  refine I.mono ?_; rintro r w1 ⟨rfl, rfl⟩
  go_wp2_with fail
  go_ret
  exact ⟨rfl, rfl⟩

set_option maxRecDepth 100000 in
set_option maxHeartbeats 8000000 in
theorem RSet_ok1 {a b c : Sl} {p : Nat} {w : World} (T : Rt w p a b c) (h : b.th = true) (hp : b.pl = false) : Calls Tryd.prog 20 #[.pointer (some ⟨p, 0, none⟩), .int .i64 1] w fun r w' => r = .returned (.int .i64 0) ∧ Rt w' p a ⟨b.th, b.id, true, b.sc, none, 0, 0⟩ c ∧ One w w' p := by
  have I := RHas_1 T
  rw [h] at I
  have q := (Blk.cell T 5).trans (show (rcs a b c)[5]? = some (.bool b.pl) from rfl)
  have q3 : _ = some _ := (Blk.cell T 7).trans (show (rcs a b c)[7]? = some _ from rfl)
  have f1 := Blk.free T 5
  have f3 := Blk.free T 7
  go_enter Tryd.func20, Tryd.ntmps20
  go_wp2_with fail
  refine I.mono ?_; rintro r w1 ⟨rfl, rfl⟩
  go_wp2_with fail
  go_region
  all_goals go_wp2
  all_goals go_ret
  all_goals first | exact ⟨rfl, Blk.set (Blk.set (Blk.drew T) 5 (.bool true)) 7 (.slice Option.none 0 0), One.set (One.set (One.of (Below.refl _ _).drew) 5 _) 7 _⟩ | exact ⟨rfl, Blk.set (Blk.set (Blk.drew T) 7 (.slice Option.none 0 0)) 5 (.bool true), One.set (One.set (One.of (Below.refl _ _).drew) 7 _) 5 _⟩

set_option maxRecDepth 100000 in
set_option maxHeartbeats 8000000 in
theorem RScore_ok1 {a b c : Sl} {p : Nat} {w : World} (T : Rt w p a b c) (h : b.th = true) (h0 : -8 ≤ b.sc) (h1 : b.sc ≤ 8) (x : Bool) : Calls Tryd.prog 21 #[.pointer (some ⟨p, 0, none⟩), .int .i64 1, .bool x] w fun r w' => r = .returned (.tuple #[.int .i64 (qual b.sc x), .int .i64 0]) ∧ Rt w' p a ⟨b.th, b.id, b.pl, qual b.sc x, b.sa, b.sn, b.cp⟩ c ∧ One w w' p := by
  have I := RHas_1 T
  rw [h] at I
  have Q := fun W => rquality b.sc x h0 h1 W
  have q := (Blk.cell T 6).trans (show (rcs a b c)[6]? = some (.int .i64 b.sc) from rfl)
  have f := Blk.free T 6
  go_enter Tryd.func21, Tryd.ntmps21
  go_wp2_with fail
  refine I.mono ?_; rintro r w1 ⟨rfl, rfl⟩
  go_wp2_with fail
  have T1 := Blk.drew (Blk.set T 6 (.int .i64 (qual b.sc x)))
  have O1 := (One.set (One.refl w1 p) 6 (.int .i64 (qual b.sc x))).trans (One.of (p := p) (Below.refl _ _).drew)
  go_region_law (first | (go_simp; go_at_call 12; refine (Q _).mono ?_; rintro e w4 ⟨rfl, rfl⟩))
  all_goals go_wp2
  all_goals go_ret2
  all_goals exact ⟨rfl, T1, O1⟩

set_option maxRecDepth 100000 in
set_option maxHeartbeats 8000000 in
theorem RDrop_1 {a b c : Sl} {p : Nat} {id : Int} {w : World} (T : Rt w p a b c) (hS : Calls Tryd.prog 25 #[.pointer (some ⟨p, 0, none⟩), .int .u8 id] w fun r w' => r = .returned (.tuple #[.int .i64 1, .bool true]) ∧ w' = w) : Calls Tryd.prog 22 #[.pointer (some ⟨p, 0, none⟩), .int .u8 id] w fun r w' => r = .returned (.int .i64 0) ∧ Rt w' p a Sl.none c ∧ One w w' p := by
  have u : _ = some _ := (Blk.cell T 13).trans (show (rcs a b c)[13]? = some _ from rfl)
  have f12 := Blk.free T 13
  have e0 : _ = some _ := (Blk.cell T 4).trans (show (rcs a b c)[4]? = some _ from rfl)
  have f0 := Blk.free T 4
  have e1 : _ = some _ := (Blk.cell T 5).trans (show (rcs a b c)[5]? = some _ from rfl)
  have f1 := Blk.free T 5
  have e2 : _ = some _ := (Blk.cell T 6).trans (show (rcs a b c)[6]? = some _ from rfl)
  have f2 := Blk.free T 6
  have e3 : _ = some _ := (Blk.cell T 7).trans (show (rcs a b c)[7]? = some _ from rfl)
  have f3 := Blk.free T 7
  go_enter Tryd.func22, Tryd.ntmps22
  go_wp2_with fail
  refine hS.mono ?_; rintro r w1 ⟨rfl, rfl⟩
  clear hS
  go_wp2_with fail
  go_region
  all_goals go_wp2
  all_goals go_ret
  all_goals first
    | exact ⟨rfl, Blk.set (Blk.set (Blk.set (Blk.set (Blk.set (Blk.drew T) 4 (.int .u8 0)) 5 (.bool false)) 6 (.int .i64 0)) 7 (.slice Option.none 0 0)) 13 (.bool false), One.set (One.set (One.set (One.set (One.set (One.of (Below.refl _ _).drew) 4 (.int .u8 0)) 5 (.bool false)) 6 (.int .i64 0)) 7 (.slice Option.none 0 0)) 13 (.bool false)⟩
    | exact ⟨rfl, Blk.set (Blk.set (Blk.set (Blk.set (Blk.set (Blk.drew T) 13 (.bool false)) 4 (.int .u8 0)) 5 (.bool false)) 6 (.int .i64 0)) 7 (.slice Option.none 0 0), One.set (One.set (One.set (One.set (One.set (One.of (Below.refl _ _).drew) 13 (.bool false)) 4 (.int .u8 0)) 5 (.bool false)) 6 (.int .i64 0)) 7 (.slice Option.none 0 0)⟩

set_option maxRecDepth 100000 in
set_option maxHeartbeats 8000000 in
theorem RSet_there2 {a b c : Sl} {p : Nat} {w : World} (T : Rt w p a b c) (h : c.th = true) (hp : c.pl = true) : Calls Tryd.prog 20 #[.pointer (some ⟨p, 0, none⟩), .int .i64 2] w fun r w' => r = .returned (.int .i64 37) ∧ w' = w := by
  have I := RHas_2 T
  rw [h] at I
  have q := (Blk.cell T 9).trans (show (rcs a b c)[9]? = some (.bool c.pl) from rfl)
  go_enter Tryd.func20, Tryd.ntmps20
  go_wp2_with fail
  refine I.mono ?_; rintro r w1 ⟨rfl, rfl⟩
  go_wp2_with fail
  go_ret
  exact ⟨rfl, rfl⟩

set_option maxRecDepth 100000 in
set_option maxHeartbeats 8000000 in
theorem RSet_ok2 {a b c : Sl} {p : Nat} {w : World} (T : Rt w p a b c) (h : c.th = true) (hp : c.pl = false) : Calls Tryd.prog 20 #[.pointer (some ⟨p, 0, none⟩), .int .i64 2] w fun r w' => r = .returned (.int .i64 0) ∧ Rt w' p a b ⟨c.th, c.id, true, c.sc, none, 0, 0⟩ ∧ One w w' p := by
  have I := RHas_2 T
  rw [h] at I
  have q := (Blk.cell T 9).trans (show (rcs a b c)[9]? = some (.bool c.pl) from rfl)
  have q3 : _ = some _ := (Blk.cell T 11).trans (show (rcs a b c)[11]? = some _ from rfl)
  have f1 := Blk.free T 9
  have f3 := Blk.free T 11
  go_enter Tryd.func20, Tryd.ntmps20
  go_wp2_with fail
  refine I.mono ?_; rintro r w1 ⟨rfl, rfl⟩
  go_wp2_with fail
  go_region
  all_goals go_wp2
  all_goals go_ret
  all_goals first | exact ⟨rfl, Blk.set (Blk.set (Blk.drew T) 9 (.bool true)) 11 (.slice Option.none 0 0), One.set (One.set (One.of (Below.refl _ _).drew) 9 _) 11 _⟩ | exact ⟨rfl, Blk.set (Blk.set (Blk.drew T) 11 (.slice Option.none 0 0)) 9 (.bool true), One.set (One.set (One.of (Below.refl _ _).drew) 11 _) 9 _⟩

set_option maxRecDepth 100000 in
set_option maxHeartbeats 8000000 in
theorem RScore_ok2 {a b c : Sl} {p : Nat} {w : World} (T : Rt w p a b c) (h : c.th = true) (h0 : -8 ≤ c.sc) (h1 : c.sc ≤ 8) (x : Bool) : Calls Tryd.prog 21 #[.pointer (some ⟨p, 0, none⟩), .int .i64 2, .bool x] w fun r w' => r = .returned (.tuple #[.int .i64 (qual c.sc x), .int .i64 0]) ∧ Rt w' p a b ⟨c.th, c.id, c.pl, qual c.sc x, c.sa, c.sn, c.cp⟩ ∧ One w w' p := by
  have I := RHas_2 T
  rw [h] at I
  have Q := fun W => rquality c.sc x h0 h1 W
  have q := (Blk.cell T 10).trans (show (rcs a b c)[10]? = some (.int .i64 c.sc) from rfl)
  have f := Blk.free T 10
  go_enter Tryd.func21, Tryd.ntmps21
  go_wp2_with fail
  refine I.mono ?_; rintro r w1 ⟨rfl, rfl⟩
  go_wp2_with fail
  have T1 := Blk.drew (Blk.set T 10 (.int .i64 (qual c.sc x)))
  have O1 := (One.set (One.refl w1 p) 10 (.int .i64 (qual c.sc x))).trans (One.of (p := p) (Below.refl _ _).drew)
  go_region_law (first | (go_simp; go_at_call 12; refine (Q _).mono ?_; rintro e w4 ⟨rfl, rfl⟩))
  all_goals go_wp2
  all_goals go_ret2
  all_goals exact ⟨rfl, T1, O1⟩

set_option maxRecDepth 100000 in
set_option maxHeartbeats 8000000 in
theorem RDrop_2 {a b c : Sl} {p : Nat} {id : Int} {w : World} (T : Rt w p a b c) (hS : Calls Tryd.prog 25 #[.pointer (some ⟨p, 0, none⟩), .int .u8 id] w fun r w' => r = .returned (.tuple #[.int .i64 2, .bool true]) ∧ w' = w) : Calls Tryd.prog 22 #[.pointer (some ⟨p, 0, none⟩), .int .u8 id] w fun r w' => r = .returned (.int .i64 0) ∧ Rt w' p a b Sl.none ∧ One w w' p := by
  have u : _ = some _ := (Blk.cell T 14).trans (show (rcs a b c)[14]? = some _ from rfl)
  have f12 := Blk.free T 14
  have e0 : _ = some _ := (Blk.cell T 8).trans (show (rcs a b c)[8]? = some _ from rfl)
  have f0 := Blk.free T 8
  have e1 : _ = some _ := (Blk.cell T 9).trans (show (rcs a b c)[9]? = some _ from rfl)
  have f1 := Blk.free T 9
  have e2 : _ = some _ := (Blk.cell T 10).trans (show (rcs a b c)[10]? = some _ from rfl)
  have f2 := Blk.free T 10
  have e3 : _ = some _ := (Blk.cell T 11).trans (show (rcs a b c)[11]? = some _ from rfl)
  have f3 := Blk.free T 11
  go_enter Tryd.func22, Tryd.ntmps22
  go_wp2_with fail
  refine hS.mono ?_; rintro r w1 ⟨rfl, rfl⟩
  clear hS
  go_wp2_with fail
  go_region
  all_goals go_wp2
  all_goals go_ret
  all_goals first
    | exact ⟨rfl, Blk.set (Blk.set (Blk.set (Blk.set (Blk.set (Blk.drew T) 8 (.int .u8 0)) 9 (.bool false)) 10 (.int .i64 0)) 11 (.slice Option.none 0 0)) 14 (.bool false), One.set (One.set (One.set (One.set (One.set (One.of (Below.refl _ _).drew) 8 (.int .u8 0)) 9 (.bool false)) 10 (.int .i64 0)) 11 (.slice Option.none 0 0)) 14 (.bool false)⟩
    | exact ⟨rfl, Blk.set (Blk.set (Blk.set (Blk.set (Blk.set (Blk.drew T) 14 (.bool false)) 8 (.int .u8 0)) 9 (.bool false)) 10 (.int .i64 0)) 11 (.slice Option.none 0 0), One.set (One.set (One.set (One.set (One.set (One.of (Below.refl _ _).drew) 14 (.bool false)) 8 (.int .u8 0)) 9 (.bool false)) 10 (.int .i64 0)) 11 (.slice Option.none 0 0)⟩

set_option maxRecDepth 100000 in
set_option maxHeartbeats 8000000 in
theorem RDrop_none {p : Nat} {id : Int} {w : World} (hS : Calls Tryd.prog 25 #[.pointer (some ⟨p, 0, none⟩), .int .u8 id] w fun r w' => r = .returned (.tuple #[.int .i64 0, .bool false]) ∧ w' = w) : Calls Tryd.prog 22 #[.pointer (some ⟨p, 0, none⟩), .int .u8 id] w fun r w' => r = .returned (.int .i64 36) ∧ w' = w := by
  go_enter Tryd.func22, Tryd.ntmps22
  go_wp2_with fail
  refine hS.mono ?_; rintro r w1 ⟨rfl, rfl⟩
  go_wp2_with fail
  go_ret
  exact ⟨rfl, rfl⟩

end Go.Proofs.YtekcemncmgingaaDoor.YErr
