/- Package table: See, is, bad, Drop. No condition. -/
import Derived.Test.YtekcemncmgingaaDoorYTable
import Derived.BigRegion
namespace Go.Proofs.YtekcemncmgingaaDoor.YErr
open Go.RowKit Go.Extern.Stop Go.Stop Go.Extern
set_option linter.unusedVariables false
set_option linter.unusedSimpArgs false

/-- Nothing is touched but one block. -/
def One (w w' : World) (p : Nat) : Prop := w'.os = w.os ∧ w'.tape = w.tape ∧ w'.output = w.output ∧ w.heap.size ≤ w'.heap.size ∧ ∀ k, k < w.heap.size → k ≠ p → w'.heap[k]? = w.heap[k]?
theorem One.refl (w : World) (p : Nat) : One w w p := ⟨rfl, rfl, rfl, Nat.le_refl _, fun _ _ _ => rfl⟩
theorem One.trans {w w' w2 : World} {p : Nat} (h : One w w' p) (g : One w' w2 p) : One w w2 p :=
  ⟨g.1.trans h.1, g.2.1.trans h.2.1, g.2.2.1.trans h.2.2.1, Nat.le_trans h.2.2.2.1 g.2.2.2.1, fun k hk hp => (g.2.2.2.2 k (Nat.lt_of_lt_of_le hk h.2.2.2.1) hp).trans (h.2.2.2.2 k hk hp)⟩
theorem One.of {w w' : World} {p : Nat} (h : Below w.heap.size w w') : One w w' p := ⟨h.os, h.tape, h.output, h.size, fun k hk _ => h.block k hk⟩
theorem One.set {w w' : World} {p : Nat} (h : One w w' p) (j : Nat) (v : Value) : One w (w'.setCell ⟨p, j, none⟩ v) p :=
  ⟨h.1, h.2.1, h.2.2.1, by simp; exact h.2.2.2.1, fun k hk hp => (Below.heap_setCell w' ⟨p, j, none⟩ v k hp).trans (h.2.2.2.2 k hk hp)⟩
theorem One.below {W w w' : World} {p : Nat} (h : One w w' p) (b : Below W.heap.size W w) (hp : W.heap.size ≤ p) : Below W.heap.size W w' :=
  ⟨h.1.trans b.os, h.2.1.trans b.tape, h.2.2.1.trans b.output, Nat.le_trans b.size h.2.2.2.1, fun k hk => (h.2.2.2.2 k (Nat.lt_of_lt_of_le hk b.size) (by omega)).trans (b.block k hk)⟩
theorem Tb.keep {w w' : World} {p : Nat} {a b c : Sl} (T : Tb w p a b c) (g : Below w.heap.size w w') : Tb w' p a b c := Blk.keep T g

set_option maxRecDepth 100000 in
set_option maxHeartbeats 8000000 in
theorem bad_c (c : Int) (hc : c ≠ 0) (w : World) : Calls Tryd.prog 32 #[.int .i64 c] w fun e w' => ∃ v, e = .returned v ∧ ErrIs op24 w' v c ∧ Below w.heap.size w w' := by
  have B := Wrap_is op24 c hc w
  have e : op24 = { data := #[116, 97, 98, 108, 101] } := rfl
  rw [e] at B ⊢
  clear e
  go_enter Tryd.func32, Tryd.ntmps32
  go_wp2_with (go_at_call 48; refine B.mono ?_; rintro e w3 ⟨v, rfl, hv, hb⟩)
  go_ret
  exact ⟨_, rfl, hv, hb⟩

set_option maxRecDepth 100000 in
set_option maxHeartbeats 8000000 in
theorem See_found {p k : Nat} {id : Int} {w : World} (hS : Calls Tryd.prog 24 #[.pointer (some ⟨p, 0, none⟩), .int .u8 id] w fun r w' => r = .returned (.tuple #[.int .i64 k, .bool true]) ∧ Below w.heap.size w w') : Calls Tryd.prog 10 #[.pointer (some ⟨p, 0, none⟩), .int .u8 id] w fun r w' => r = .returned (.tuple #[.int .i64 k, .nilIface]) ∧ Below w.heap.size w w' := by
  go_enter Tryd.func10, Tryd.ntmps10
  go_wp2_with fail
  refine hS.mono ?_; rintro r w1 ⟨rfl, g⟩
  go_wp2_with fail
  go_ret2
  exact ⟨rfl, g⟩

set_option maxRecDepth 100000 in
set_option maxHeartbeats 8000000 in
theorem See_free0 {a b c : Sl} {p : Nat} {id : Int} {w : World} (T : Tb w p a b c) (ha : a.th = false) (hS : Calls Tryd.prog 24 #[.pointer (some ⟨p, 0, none⟩), .int .u8 id] w fun r w' => r = .returned (.tuple #[.int .i64 0, .bool false]) ∧ Below w.heap.size w w') : Calls Tryd.prog 10 #[.pointer (some ⟨p, 0, none⟩), .int .u8 id] w fun r w' => r = .returned (.tuple #[.int .i64 0, .nilIface]) ∧ Tb w' p (Sl.new id) b c ∧ One w w' p := by
  have P0 := at0 a b c
  have P1 := at1 a b c
  have P2 := at2 a b c
  go_enter Tryd.func10, Tryd.ntmps10
  go_wp2_with fail
  refine hS.mono ?_; rintro r w1 ⟨rfl, g⟩
  replace T := Tb.keep T g
  clear hS
  go_wp2_with (first | (refine ldT T _ rfl rfl rfl ?_))
  refine wp_loop_rounds 1 ?_
  rw [rounds_succ]
  obtain ⟨t0, k0, c0, up⟩ := newS g a _ rfl
  replace T := up _ _ _ T
  clear up
  have q0 := (k0.cell 0).trans (show (scs a)[0]? = some (.bool a.th) from rfl)
  have e0 : _ = some _ := (Blk.cell T 0).trans (show (tcs a b c)[0]? = some _ from rfl)
  have f0 := Blk.free T 0
  have e1 : _ = some _ := (Blk.cell T 1).trans (show (tcs a b c)[1]? = some _ from rfl)
  have f1 := Blk.free T 1
  have e2 : _ = some _ := (Blk.cell T 2).trans (show (tcs a b c)[2]? = some _ from rfl)
  have f2 := Blk.free T 2
  have e3 : _ = some _ := (Blk.cell T 3).trans (show (tcs a b c)[3]? = some _ from rfl)
  have f3 := Blk.free T 3
  have e4 : _ = some _ := (Blk.cell T 4).trans (show (tcs a b c)[4]? = some _ from rfl)
  have f4 := Blk.free T 4
  go_wp2_with (first | (refine stS (s := a) t0 rfl _ _ rfl rfl rfl rfl ?_))
  go_ret2
  exact ⟨rfl, (Blk.set (Blk.set (Blk.set (Blk.set (Blk.set T 0 (.bool true)) 1 (.int .u8 id)) 2 (.bool false)) 3 (.int .i64 0)) 4 (.slice Option.none 0 0)), One.set (One.set (One.set (One.set (One.set (One.of c0) 0 (.bool true)) 1 (.int .u8 id)) 2 (.bool false)) 3 (.int .i64 0)) 4 (.slice Option.none 0 0)⟩

set_option maxRecDepth 100000 in
set_option maxHeartbeats 8000000 in
theorem See_free1 {a b c : Sl} {p : Nat} {id : Int} {w : World} (T : Tb w p a b c) (ha : a.th = true) (hb : b.th = false) (hS : Calls Tryd.prog 24 #[.pointer (some ⟨p, 0, none⟩), .int .u8 id] w fun r w' => r = .returned (.tuple #[.int .i64 0, .bool false]) ∧ Below w.heap.size w w') : Calls Tryd.prog 10 #[.pointer (some ⟨p, 0, none⟩), .int .u8 id] w fun r w' => r = .returned (.tuple #[.int .i64 1, .nilIface]) ∧ Tb w' p a (Sl.new id) c ∧ One w w' p := by
  have P0 := at0 a b c
  have P1 := at1 a b c
  have P2 := at2 a b c
  go_enter Tryd.func10, Tryd.ntmps10
  go_wp2_with fail
  refine hS.mono ?_; rintro r w1 ⟨rfl, g⟩
  replace T := Tb.keep T g
  clear hS
  go_wp2_with (first | (refine ldT T _ rfl rfl rfl ?_))
  refine wp_loop_rounds 2 ?_
  rw [rounds_succ]
  obtain ⟨t0, k0, c0, up⟩ := newS g a _ rfl
  replace T := up _ _ _ T
  clear up
  have q0 := (k0.cell 0).trans (show (scs a)[0]? = some (.bool a.th) from rfl)
  go_wp2_with (first | (refine stS (s := a) t0 rfl _ _ rfl rfl rfl rfl ?_))
  clear q0 t0 k0
  generalize (w1.alloc (.cells #[.bool false, .int .u8 0, .bool false, .int .i64 0, .slice Option.none 0 0] 79)).setRow w1.heap.size (scs a) = V1 at *
  rw [rounds_succ]
  obtain ⟨t1, k1, c1, up⟩ := newS c0 b _ rfl
  replace T := up _ _ _ T
  clear up
  have q0 := (k1.cell 0).trans (show (scs b)[0]? = some (.bool b.th) from rfl)
  have e0 : _ = some _ := (Blk.cell T 5).trans (show (tcs a b c)[5]? = some _ from rfl)
  have f0 := Blk.free T 5
  have e1 : _ = some _ := (Blk.cell T 6).trans (show (tcs a b c)[6]? = some _ from rfl)
  have f1 := Blk.free T 6
  have e2 : _ = some _ := (Blk.cell T 7).trans (show (tcs a b c)[7]? = some _ from rfl)
  have f2 := Blk.free T 7
  have e3 : _ = some _ := (Blk.cell T 8).trans (show (tcs a b c)[8]? = some _ from rfl)
  have f3 := Blk.free T 8
  have e4 : _ = some _ := (Blk.cell T 9).trans (show (tcs a b c)[9]? = some _ from rfl)
  have f4 := Blk.free T 9
  go_wp2_with (first | (refine stS (s := b) t1 rfl _ _ rfl rfl rfl rfl ?_))
  go_ret2
  exact ⟨rfl, (Blk.set (Blk.set (Blk.set (Blk.set (Blk.set T 5 (.bool true)) 6 (.int .u8 id)) 7 (.bool false)) 8 (.int .i64 0)) 9 (.slice Option.none 0 0)), One.set (One.set (One.set (One.set (One.set (One.of c1) 5 (.bool true)) 6 (.int .u8 id)) 7 (.bool false)) 8 (.int .i64 0)) 9 (.slice Option.none 0 0)⟩

set_option maxRecDepth 100000 in
set_option maxHeartbeats 8000000 in
theorem See_free2 {a b c : Sl} {p : Nat} {id : Int} {w : World} (T : Tb w p a b c) (ha : a.th = true) (hb : b.th = true) (hc : c.th = false) (hS : Calls Tryd.prog 24 #[.pointer (some ⟨p, 0, none⟩), .int .u8 id] w fun r w' => r = .returned (.tuple #[.int .i64 0, .bool false]) ∧ Below w.heap.size w w') : Calls Tryd.prog 10 #[.pointer (some ⟨p, 0, none⟩), .int .u8 id] w fun r w' => r = .returned (.tuple #[.int .i64 2, .nilIface]) ∧ Tb w' p a b (Sl.new id) ∧ One w w' p := by
  have P0 := at0 a b c
  have P1 := at1 a b c
  have P2 := at2 a b c
  go_enter Tryd.func10, Tryd.ntmps10
  go_wp2_with fail
  refine hS.mono ?_; rintro r w1 ⟨rfl, g⟩
  replace T := Tb.keep T g
  clear hS
  go_wp2_with (first | (refine ldT T _ rfl rfl rfl ?_))
  refine wp_loop_rounds 3 ?_
  rw [rounds_succ]
  obtain ⟨t0, k0, c0, up⟩ := newS g a _ rfl
  replace T := up _ _ _ T
  clear up
  have q0 := (k0.cell 0).trans (show (scs a)[0]? = some (.bool a.th) from rfl)
  go_wp2_with (first | (refine stS (s := a) t0 rfl _ _ rfl rfl rfl rfl ?_))
  clear q0 t0 k0
  generalize (w1.alloc (.cells #[.bool false, .int .u8 0, .bool false, .int .i64 0, .slice Option.none 0 0] 79)).setRow w1.heap.size (scs a) = V1 at *
  rw [rounds_succ]
  obtain ⟨t1, k1, c1, up⟩ := newS c0 b _ rfl
  replace T := up _ _ _ T
  clear up
  have q0 := (k1.cell 0).trans (show (scs b)[0]? = some (.bool b.th) from rfl)
  go_wp2_with (first | (refine stS (s := b) t1 rfl _ _ rfl rfl rfl rfl ?_))
  clear q0 t1 k1
  generalize (V1.alloc (.cells #[.bool false, .int .u8 0, .bool false, .int .i64 0, .slice Option.none 0 0] 79)).setRow V1.heap.size (scs b) = V2 at *
  rw [rounds_succ]
  obtain ⟨t2, k2, c2, up⟩ := newS c1 c _ rfl
  replace T := up _ _ _ T
  clear up
  have q0 := (k2.cell 0).trans (show (scs c)[0]? = some (.bool c.th) from rfl)
  have e0 : _ = some _ := (Blk.cell T 10).trans (show (tcs a b c)[10]? = some _ from rfl)
  have f0 := Blk.free T 10
  have e1 : _ = some _ := (Blk.cell T 11).trans (show (tcs a b c)[11]? = some _ from rfl)
  have f1 := Blk.free T 11
  have e2 : _ = some _ := (Blk.cell T 12).trans (show (tcs a b c)[12]? = some _ from rfl)
  have f2 := Blk.free T 12
  have e3 : _ = some _ := (Blk.cell T 13).trans (show (tcs a b c)[13]? = some _ from rfl)
  have f3 := Blk.free T 13
  have e4 : _ = some _ := (Blk.cell T 14).trans (show (tcs a b c)[14]? = some _ from rfl)
  have f4 := Blk.free T 14
  go_wp2_with (first | (refine stS (s := c) t2 rfl _ _ rfl rfl rfl rfl ?_))
  go_ret2
  exact ⟨rfl, (Blk.set (Blk.set (Blk.set (Blk.set (Blk.set T 10 (.bool true)) 11 (.int .u8 id)) 12 (.bool false)) 13 (.int .i64 0)) 14 (.slice Option.none 0 0)), One.set (One.set (One.set (One.set (One.set (One.of c2) 10 (.bool true)) 11 (.int .u8 id)) 12 (.bool false)) 13 (.int .i64 0)) 14 (.slice Option.none 0 0)⟩

set_option maxRecDepth 100000 in
set_option maxHeartbeats 8000000 in
theorem See_full {a b c : Sl} {p : Nat} {id : Int} {w : World} (T : Tb w p a b c) (ha : a.th = true) (hb : b.th = true) (hc : c.th = true) (hS : Calls Tryd.prog 24 #[.pointer (some ⟨p, 0, none⟩), .int .u8 id] w fun r w' => r = .returned (.tuple #[.int .i64 0, .bool false]) ∧ Below w.heap.size w w') : Calls Tryd.prog 10 #[.pointer (some ⟨p, 0, none⟩), .int .u8 id] w fun r w' => ∃ v, r = .returned (.tuple #[.int .i64 0, v]) ∧ ErrIs op24 w' v 35 ∧ Below w.heap.size w w' := by
  have P0 := at0 a b c
  have P1 := at1 a b c
  have P2 := at2 a b c
  go_enter Tryd.func10, Tryd.ntmps10
  go_wp2_with fail
  refine hS.mono ?_; rintro r w1 ⟨rfl, g⟩
  replace T := Tb.keep T g
  clear hS
  go_wp2_with (first | (refine ldT T _ rfl rfl rfl ?_))
  refine wp_loop_rounds 4 ?_
  rw [rounds_succ]
  obtain ⟨t0, k0, c0, up⟩ := newS g a _ rfl
  replace T := up _ _ _ T
  clear up
  have q0 := (k0.cell 0).trans (show (scs a)[0]? = some (.bool a.th) from rfl)
  go_wp2_with (first | (refine stS (s := a) t0 rfl _ _ rfl rfl rfl rfl ?_))
  clear q0 t0 k0
  generalize (w1.alloc (.cells #[.bool false, .int .u8 0, .bool false, .int .i64 0, .slice Option.none 0 0] 79)).setRow w1.heap.size (scs a) = V1 at *
  rw [rounds_succ]
  obtain ⟨t1, k1, c1, up⟩ := newS c0 b _ rfl
  replace T := up _ _ _ T
  clear up
  have q0 := (k1.cell 0).trans (show (scs b)[0]? = some (.bool b.th) from rfl)
  go_wp2_with (first | (refine stS (s := b) t1 rfl _ _ rfl rfl rfl rfl ?_))
  clear q0 t1 k1
  generalize (V1.alloc (.cells #[.bool false, .int .u8 0, .bool false, .int .i64 0, .slice Option.none 0 0] 79)).setRow V1.heap.size (scs b) = V2 at *
  rw [rounds_succ]
  obtain ⟨t2, k2, c2, up⟩ := newS c1 c _ rfl
  replace T := up _ _ _ T
  clear up
  have q0 := (k2.cell 0).trans (show (scs c)[0]? = some (.bool c.th) from rfl)
  go_wp2_with (first | (refine stS (s := c) t2 rfl _ _ rfl rfl rfl rfl ?_))
  clear q0 t2 k2
  generalize (V2.alloc (.cells #[.bool false, .int .u8 0, .bool false, .int .i64 0, .slice Option.none 0 0] 79)).setRow V2.heap.size (scs c) = V3 at *
  rw [rounds_succ]
  go_wp2_with fail
  refine (bad_c 35 (by decide) _).mono ?_; rintro r w2 ⟨v, rfl, hv, g2⟩
  go_wp2_with fail
  go_ret2
  exact ⟨v, rfl, hv, bbT c2 g2⟩

set_option maxRecDepth 100000 in
set_option maxHeartbeats 8000000 in
theorem is_0 {a b c : Sl} {p : Nat} {w : World} (T : Tb w p a b c) : Calls Tryd.prog 33 #[.pointer (some ⟨p, 0, none⟩), .int .i64 0] w fun r w' => r = .returned (.bool a.th) ∧ w' = w := by
  have q : _ = some _ := (Blk.cell T 0).trans (show (tcs a b c)[0]? = some _ from rfl)
  go_enter Tryd.func33, Tryd.ntmps33
  go_wp2
  go_ret
  exact ⟨rfl, rfl⟩

set_option maxRecDepth 100000 in
set_option maxHeartbeats 8000000 in
theorem is_1 {a b c : Sl} {p : Nat} {w : World} (T : Tb w p a b c) : Calls Tryd.prog 33 #[.pointer (some ⟨p, 0, none⟩), .int .i64 1] w fun r w' => r = .returned (.bool b.th) ∧ w' = w := by
  have q : _ = some _ := (Blk.cell T 5).trans (show (tcs a b c)[5]? = some _ from rfl)
  go_enter Tryd.func33, Tryd.ntmps33
  go_wp2
  go_ret
  exact ⟨rfl, rfl⟩

set_option maxRecDepth 100000 in
set_option maxHeartbeats 8000000 in
theorem is_2 {a b c : Sl} {p : Nat} {w : World} (T : Tb w p a b c) : Calls Tryd.prog 33 #[.pointer (some ⟨p, 0, none⟩), .int .i64 2] w fun r w' => r = .returned (.bool c.th) ∧ w' = w := by
  have q : _ = some _ := (Blk.cell T 10).trans (show (tcs a b c)[10]? = some _ from rfl)
  go_enter Tryd.func33, Tryd.ntmps33
  go_wp2
  go_ret
  exact ⟨rfl, rfl⟩

set_option maxRecDepth 100000 in
set_option maxHeartbeats 8000000 in
theorem Drop_0 {a b c : Sl} {p : Nat} {id : Int} {w : World} (T : Tb w p a b c) (hS : Calls Tryd.prog 24 #[.pointer (some ⟨p, 0, none⟩), .int .u8 id] w fun r w' => r = .returned (.tuple #[.int .i64 0, .bool true]) ∧ Below w.heap.size w w') : Calls Tryd.prog 15 #[.pointer (some ⟨p, 0, none⟩), .int .u8 id] w fun r w' => r = .returned .nilIface ∧ Tb w' p Sl.none b c ∧ One w w' p := by
  go_enter Tryd.func15, Tryd.ntmps15
  go_wp2_with fail
  refine hS.mono ?_; rintro r w1 ⟨rfl, g⟩
  replace T := Tb.keep T g
  clear hS
  have e0 : _ = some _ := (Blk.cell T 0).trans (show (tcs a b c)[0]? = some _ from rfl)
  have f0 := Blk.free T 0
  have e1 : _ = some _ := (Blk.cell T 1).trans (show (tcs a b c)[1]? = some _ from rfl)
  have f1 := Blk.free T 1
  have e2 : _ = some _ := (Blk.cell T 2).trans (show (tcs a b c)[2]? = some _ from rfl)
  have f2 := Blk.free T 2
  have e3 : _ = some _ := (Blk.cell T 3).trans (show (tcs a b c)[3]? = some _ from rfl)
  have f3 := Blk.free T 3
  have e4 : _ = some _ := (Blk.cell T 4).trans (show (tcs a b c)[4]? = some _ from rfl)
  have f4 := Blk.free T 4
  go_wp2
  go_ret
  exact ⟨rfl, Blk.set (Blk.set (Blk.set (Blk.set (Blk.set (T) 0 (.bool false)) 1 (.int .u8 0)) 2 (.bool false)) 3 (.int .i64 0)) 4 (.slice Option.none 0 0), One.set (One.set (One.set (One.set (One.set (One.of g) 0 (.bool false)) 1 (.int .u8 0)) 2 (.bool false)) 3 (.int .i64 0)) 4 (.slice Option.none 0 0)⟩

set_option maxRecDepth 100000 in
set_option maxHeartbeats 8000000 in
theorem Drop_1 {a b c : Sl} {p : Nat} {id : Int} {w : World} (T : Tb w p a b c) (hS : Calls Tryd.prog 24 #[.pointer (some ⟨p, 0, none⟩), .int .u8 id] w fun r w' => r = .returned (.tuple #[.int .i64 1, .bool true]) ∧ Below w.heap.size w w') : Calls Tryd.prog 15 #[.pointer (some ⟨p, 0, none⟩), .int .u8 id] w fun r w' => r = .returned .nilIface ∧ Tb w' p a Sl.none c ∧ One w w' p := by
  go_enter Tryd.func15, Tryd.ntmps15
  go_wp2_with fail
  refine hS.mono ?_; rintro r w1 ⟨rfl, g⟩
  replace T := Tb.keep T g
  clear hS
  have e0 : _ = some _ := (Blk.cell T 5).trans (show (tcs a b c)[5]? = some _ from rfl)
  have f0 := Blk.free T 5
  have e1 : _ = some _ := (Blk.cell T 6).trans (show (tcs a b c)[6]? = some _ from rfl)
  have f1 := Blk.free T 6
  have e2 : _ = some _ := (Blk.cell T 7).trans (show (tcs a b c)[7]? = some _ from rfl)
  have f2 := Blk.free T 7
  have e3 : _ = some _ := (Blk.cell T 8).trans (show (tcs a b c)[8]? = some _ from rfl)
  have f3 := Blk.free T 8
  have e4 : _ = some _ := (Blk.cell T 9).trans (show (tcs a b c)[9]? = some _ from rfl)
  have f4 := Blk.free T 9
  go_wp2
  go_ret
  exact ⟨rfl, Blk.set (Blk.set (Blk.set (Blk.set (Blk.set (T) 5 (.bool false)) 6 (.int .u8 0)) 7 (.bool false)) 8 (.int .i64 0)) 9 (.slice Option.none 0 0), One.set (One.set (One.set (One.set (One.set (One.of g) 5 (.bool false)) 6 (.int .u8 0)) 7 (.bool false)) 8 (.int .i64 0)) 9 (.slice Option.none 0 0)⟩

set_option maxRecDepth 100000 in
set_option maxHeartbeats 8000000 in
theorem Drop_2 {a b c : Sl} {p : Nat} {id : Int} {w : World} (T : Tb w p a b c) (hS : Calls Tryd.prog 24 #[.pointer (some ⟨p, 0, none⟩), .int .u8 id] w fun r w' => r = .returned (.tuple #[.int .i64 2, .bool true]) ∧ Below w.heap.size w w') : Calls Tryd.prog 15 #[.pointer (some ⟨p, 0, none⟩), .int .u8 id] w fun r w' => r = .returned .nilIface ∧ Tb w' p a b Sl.none ∧ One w w' p := by
  go_enter Tryd.func15, Tryd.ntmps15
  go_wp2_with fail
  refine hS.mono ?_; rintro r w1 ⟨rfl, g⟩
  replace T := Tb.keep T g
  clear hS
  have e0 : _ = some _ := (Blk.cell T 10).trans (show (tcs a b c)[10]? = some _ from rfl)
  have f0 := Blk.free T 10
  have e1 : _ = some _ := (Blk.cell T 11).trans (show (tcs a b c)[11]? = some _ from rfl)
  have f1 := Blk.free T 11
  have e2 : _ = some _ := (Blk.cell T 12).trans (show (tcs a b c)[12]? = some _ from rfl)
  have f2 := Blk.free T 12
  have e3 : _ = some _ := (Blk.cell T 13).trans (show (tcs a b c)[13]? = some _ from rfl)
  have f3 := Blk.free T 13
  have e4 : _ = some _ := (Blk.cell T 14).trans (show (tcs a b c)[14]? = some _ from rfl)
  have f4 := Blk.free T 14
  go_wp2
  go_ret
  exact ⟨rfl, Blk.set (Blk.set (Blk.set (Blk.set (Blk.set (T) 10 (.bool false)) 11 (.int .u8 0)) 12 (.bool false)) 13 (.int .i64 0)) 14 (.slice Option.none 0 0), One.set (One.set (One.set (One.set (One.set (One.of g) 10 (.bool false)) 11 (.int .u8 0)) 12 (.bool false)) 13 (.int .i64 0)) 14 (.slice Option.none 0 0)⟩

set_option maxRecDepth 100000 in
set_option maxHeartbeats 8000000 in
theorem Drop_none {p : Nat} {id : Int} {w : World} (hS : Calls Tryd.prog 24 #[.pointer (some ⟨p, 0, none⟩), .int .u8 id] w fun r w' => r = .returned (.tuple #[.int .i64 0, .bool false]) ∧ Below w.heap.size w w') : Calls Tryd.prog 15 #[.pointer (some ⟨p, 0, none⟩), .int .u8 id] w fun r w' => ∃ v, r = .returned v ∧ ErrIs op24 w' v 36 ∧ Below w.heap.size w w' := by
  go_enter Tryd.func15, Tryd.ntmps15
  go_wp2_with fail
  refine hS.mono ?_; rintro r w1 ⟨rfl, g⟩
  go_wp2_with fail
  refine (bad_c 36 (by decide) _).mono ?_; rintro r w2 ⟨v, rfl, hv, g2⟩
  go_wp2_with fail
  go_ret
  exact ⟨v, rfl, hv, bbT g g2⟩

end Go.Proofs.YtekcemncmgingaaDoor.YErr
