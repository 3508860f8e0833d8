/- Package table: Score's error, Set, All of beacons without ranges, and what the law function known tells. Condition: errors.errorType holds its type's handle. -/
import Derived.Test.YtekcemncmgingaaDoorYTable2
import Derived.ArgAppend
import Derived.Laws.OwnMore
import Derived.Laws.ResultCell
namespace Go.Proofs.YtekcemncmgingaaDoor.YErr
open Go.RowKit Go.Extern.Stop Go.Stop Go.Extern
set_option linter.unusedVariables false
set_option linter.unusedSimpArgs false

set_option maxRecDepth 100000 in
set_option maxHeartbeats 8000000 in
theorem Score_none0 {a b c : Sl} {p : Nat} {w : World} (T : Tb w p a b c) (h : a.th = false) (x : Bool) : Calls Tryd.prog 11 #[.pointer (some ⟨p, 0, none⟩), .int .i64 0, .bool x] w fun r w' => ∃ v, r = .returned (.tuple #[.int .i64 0, v]) ∧ ErrIs op24 w' v 36 ∧ Below w.heap.size w w' := by
  have I := is_0 T
  rw [h] at I
  go_enter Tryd.func11, Tryd.ntmps11
  go_wp2_with fail
  refine I.mono ?_; rintro r w1 ⟨rfl, rfl⟩
  go_wp2_with fail
  refine (bad_c 36 (by decide) _).mono ?_; rintro r w2 ⟨v, rfl, hv, g2⟩
  go_wp2_with fail
  go_ret2
  exact ⟨v, rfl, hv, g2⟩

set_option maxRecDepth 100000 in
set_option maxHeartbeats 8000000 in
theorem open_ok0 {a b c : Sl} {p : Nat} {w : World} (T : Tb w p a b c) (h : a.th = true) (hp : a.pl = false) : Calls Tryd.prog 38 #[.pointer (some ⟨p, 0, none⟩), .int .i64 0] w fun r w' => r = .returned .nilIface ∧ w' = w := by
  have I := is_0 T
  rw [h] at I
  have q := (Blk.cell T 2).trans (show (tcs a b c)[2]? = some (.bool a.pl) from rfl)
  rw [hp] at q
  go_enter Tryd.func38, Tryd.ntmps38
  go_wp2_with fail
  refine I.mono ?_; rintro r w1 ⟨rfl, rfl⟩
  go_wp2_with fail
  go_ret
  exact ⟨rfl, rfl⟩

set_option maxRecDepth 100000 in
set_option maxHeartbeats 8000000 in
theorem open_there0 {a b c : Sl} {p : Nat} {w : World} (T : Tb w p a b c) (h : a.th = true) (hp : a.pl = true) : Calls Tryd.prog 38 #[.pointer (some ⟨p, 0, none⟩), .int .i64 0] w fun r w' => ∃ v, r = .returned v ∧ ErrIs op24 w' v 37 ∧ Below w.heap.size w w' := by
  have I := is_0 T
  rw [h] at I
  have q := (Blk.cell T 2).trans (show (tcs a b c)[2]? = some (.bool a.pl) from rfl)
  rw [hp] at q
  go_enter Tryd.func38, Tryd.ntmps38
  go_wp2_with fail
  refine I.mono ?_; rintro r w1 ⟨rfl, rfl⟩
  go_wp2_with fail
  refine (bad_c 37 (by decide) _).mono ?_; rintro r w2 ⟨v, rfl, hv, g2⟩
  go_wp2_with fail
  go_ret
  exact ⟨v, rfl, hv, g2⟩

set_option maxRecDepth 100000 in
set_option maxHeartbeats 8000000 in
theorem Set_ok0 {a b c : Sl} {p : Nat} {w : World} (T : Tb w p a b c) (h : a.th = true) (hp : a.pl = false) : Calls Tryd.prog 16 #[.pointer (some ⟨p, 0, none⟩), .int .i64 0] w fun r w' => r = .returned .nilIface ∧ Tb w' p ⟨a.th, a.id, true, a.sc, none, 0, 0⟩ b c ∧ One w w' p := by
  have O := open_ok0 T h hp
  have q2 : _ = some _ := (Blk.cell T 2).trans (show (tcs a b c)[2]? = some _ from rfl)
  have q4 : _ = some _ := (Blk.cell T 4).trans (show (tcs a b c)[4]? = some _ from rfl)
  have f2 := Blk.free T 2
  have f4 := Blk.free T 4
  go_enter Tryd.func16, Tryd.ntmps16
  go_wp2_with fail
  refine O.mono ?_; rintro r w1 ⟨rfl, rfl⟩
  go_wp2_with fail
  go_region
  all_goals go_wp2
  all_goals go_ret
  all_goals first | exact ⟨rfl, Blk.set (Blk.set (Blk.drew T) 2 (.bool true)) 4 (.slice Option.none 0 0), One.set (One.set (One.of (Below.refl _ _).drew) 2 _) 4 _⟩ | exact ⟨rfl, Blk.set (Blk.set (Blk.drew T) 4 (.slice Option.none 0 0)) 2 (.bool true), One.set (One.set (One.of (Below.refl _ _).drew) 4 _) 2 _⟩

set_option maxRecDepth 100000 in
set_option maxHeartbeats 8000000 in
theorem Set_there0 {a b c : Sl} {p : Nat} {w : World} (T : Tb w p a b c) (h : a.th = true) (hp : a.pl = true) : Calls Tryd.prog 16 #[.pointer (some ⟨p, 0, none⟩), .int .i64 0] w fun r w' => ∃ v, r = .returned v ∧ ErrIs op24 w' v 37 ∧ Below w.heap.size w w' := by
  have O := open_there0 T h hp
  go_enter Tryd.func16, Tryd.ntmps16
  go_wp2_with fail
  refine O.mono ?_; rintro r w1 ⟨v, rfl, hv, g⟩
  obtain ⟨u, rfl⟩ := hv.some (by decide)
  go_wp2_with fail
  go_ret
  exact ⟨_, rfl, hv, g⟩

set_option maxRecDepth 100000 in
set_option maxHeartbeats 8000000 in
theorem Score_none1 {a b c : Sl} {p : Nat} {w : World} (T : Tb w p a b c) (h : b.th = false) (x : Bool) : Calls Tryd.prog 11 #[.pointer (some ⟨p, 0, none⟩), .int .i64 1, .bool x] w fun r w' => ∃ v, r = .returned (.tuple #[.int .i64 0, v]) ∧ ErrIs op24 w' v 36 ∧ Below w.heap.size w w' := by
  have I := is_1 T
  rw [h] at I
  go_enter Tryd.func11, Tryd.ntmps11
  go_wp2_with fail
  refine I.mono ?_; rintro r w1 ⟨rfl, rfl⟩
  go_wp2_with fail
  refine (bad_c 36 (by decide) _).mono ?_; rintro r w2 ⟨v, rfl, hv, g2⟩
  go_wp2_with fail
  go_ret2
  exact ⟨v, rfl, hv, g2⟩

set_option maxRecDepth 100000 in
set_option maxHeartbeats 8000000 in
theorem open_ok1 {a b c : Sl} {p : Nat} {w : World} (T : Tb w p a b c) (h : b.th = true) (hp : b.pl = false) : Calls Tryd.prog 38 #[.pointer (some ⟨p, 0, none⟩), .int .i64 1] w fun r w' => r = .returned .nilIface ∧ w' = w := by
  have I := is_1 T
  rw [h] at I
  have q := (Blk.cell T 7).trans (show (tcs a b c)[7]? = some (.bool b.pl) from rfl)
  rw [hp] at q
  go_enter Tryd.func38, Tryd.ntmps38
  go_wp2_with fail
  refine I.mono ?_; rintro r w1 ⟨rfl, rfl⟩
  go_wp2_with fail
  go_ret
  exact ⟨rfl, rfl⟩

set_option maxRecDepth 100000 in
set_option maxHeartbeats 8000000 in
theorem open_there1 {a b c : Sl} {p : Nat} {w : World} (T : Tb w p a b c) (h : b.th = true) (hp : b.pl = true) : Calls Tryd.prog 38 #[.pointer (some ⟨p, 0, none⟩), .int .i64 1] w fun r w' => ∃ v, r = .returned v ∧ ErrIs op24 w' v 37 ∧ Below w.heap.size w w' := by
  have I := is_1 T
  rw [h] at I
  have q := (Blk.cell T 7).trans (show (tcs a b c)[7]? = some (.bool b.pl) from rfl)
  rw [hp] at q
  go_enter Tryd.func38, Tryd.ntmps38
  go_wp2_with fail
  refine I.mono ?_; rintro r w1 ⟨rfl, rfl⟩
  go_wp2_with fail
  refine (bad_c 37 (by decide) _).mono ?_; rintro r w2 ⟨v, rfl, hv, g2⟩
  go_wp2_with fail
  go_ret
  exact ⟨v, rfl, hv, g2⟩

set_option maxRecDepth 100000 in
set_option maxHeartbeats 8000000 in
theorem Set_ok1 {a b c : Sl} {p : Nat} {w : World} (T : Tb w p a b c) (h : b.th = true) (hp : b.pl = false) : Calls Tryd.prog 16 #[.pointer (some ⟨p, 0, none⟩), .int .i64 1] w fun r w' => r = .returned .nilIface ∧ Tb w' p a ⟨b.th, b.id, true, b.sc, none, 0, 0⟩ c ∧ One w w' p := by
  have O := open_ok1 T h hp
  have q2 : _ = some _ := (Blk.cell T 7).trans (show (tcs a b c)[7]? = some _ from rfl)
  have q4 : _ = some _ := (Blk.cell T 9).trans (show (tcs a b c)[9]? = some _ from rfl)
  have f2 := Blk.free T 7
  have f4 := Blk.free T 9
  go_enter Tryd.func16, Tryd.ntmps16
  go_wp2_with fail
  refine O.mono ?_; rintro r w1 ⟨rfl, rfl⟩
  go_wp2_with fail
  go_region
  all_goals go_wp2
  all_goals go_ret
  all_goals first | exact ⟨rfl, Blk.set (Blk.set (Blk.drew T) 7 (.bool true)) 9 (.slice Option.none 0 0), One.set (One.set (One.of (Below.refl _ _).drew) 7 _) 9 _⟩ | exact ⟨rfl, Blk.set (Blk.set (Blk.drew T) 9 (.slice Option.none 0 0)) 7 (.bool true), One.set (One.set (One.of (Below.refl _ _).drew) 9 _) 7 _⟩

set_option maxRecDepth 100000 in
set_option maxHeartbeats 8000000 in
theorem Set_there1 {a b c : Sl} {p : Nat} {w : World} (T : Tb w p a b c) (h : b.th = true) (hp : b.pl = true) : Calls Tryd.prog 16 #[.pointer (some ⟨p, 0, none⟩), .int .i64 1] w fun r w' => ∃ v, r = .returned v ∧ ErrIs op24 w' v 37 ∧ Below w.heap.size w w' := by
  have O := open_there1 T h hp
  go_enter Tryd.func16, Tryd.ntmps16
  go_wp2_with fail
  refine O.mono ?_; rintro r w1 ⟨v, rfl, hv, g⟩
  obtain ⟨u, rfl⟩ := hv.some (by decide)
  go_wp2_with fail
  go_ret
  exact ⟨_, rfl, hv, g⟩

set_option maxRecDepth 100000 in
set_option maxHeartbeats 8000000 in
theorem Score_none2 {a b c : Sl} {p : Nat} {w : World} (T : Tb w p a b c) (h : c.th = false) (x : Bool) : Calls Tryd.prog 11 #[.pointer (some ⟨p, 0, none⟩), .int .i64 2, .bool x] w fun r w' => ∃ v, r = .returned (.tuple #[.int .i64 0, v]) ∧ ErrIs op24 w' v 36 ∧ Below w.heap.size w w' := by
  have I := is_2 T
  rw [h] at I
  go_enter Tryd.func11, Tryd.ntmps11
  go_wp2_with fail
  refine I.mono ?_; rintro r w1 ⟨rfl, rfl⟩
  go_wp2_with fail
  refine (bad_c 36 (by decide) _).mono ?_; rintro r w2 ⟨v, rfl, hv, g2⟩
  go_wp2_with fail
  go_ret2
  exact ⟨v, rfl, hv, g2⟩

set_option maxRecDepth 100000 in
set_option maxHeartbeats 8000000 in
theorem open_ok2 {a b c : Sl} {p : Nat} {w : World} (T : Tb w p a b c) (h : c.th = true) (hp : c.pl = false) : Calls Tryd.prog 38 #[.pointer (some ⟨p, 0, none⟩), .int .i64 2] w fun r w' => r = .returned .nilIface ∧ w' = w := by
  have I := is_2 T
  rw [h] at I
  have q := (Blk.cell T 12).trans (show (tcs a b c)[12]? = some (.bool c.pl) from rfl)
  rw [hp] at q
  go_enter Tryd.func38, Tryd.ntmps38
  go_wp2_with fail
  refine I.mono ?_; rintro r w1 ⟨rfl, rfl⟩
  go_wp2_with fail
  go_ret
  exact ⟨rfl, rfl⟩

set_option maxRecDepth 100000 in
set_option maxHeartbeats 8000000 in
theorem open_there2 {a b c : Sl} {p : Nat} {w : World} (T : Tb w p a b c) (h : c.th = true) (hp : c.pl = true) : Calls Tryd.prog 38 #[.pointer (some ⟨p, 0, none⟩), .int .i64 2] w fun r w' => ∃ v, r = .returned v ∧ ErrIs op24 w' v 37 ∧ Below w.heap.size w w' := by
  have I := is_2 T
  rw [h] at I
  have q := (Blk.cell T 12).trans (show (tcs a b c)[12]? = some (.bool c.pl) from rfl)
  rw [hp] at q
  go_enter Tryd.func38, Tryd.ntmps38
  go_wp2_with fail
  refine I.mono ?_; rintro r w1 ⟨rfl, rfl⟩
  go_wp2_with fail
  refine (bad_c 37 (by decide) _).mono ?_; rintro r w2 ⟨v, rfl, hv, g2⟩
  go_wp2_with fail
  go_ret
  exact ⟨v, rfl, hv, g2⟩

set_option maxRecDepth 100000 in
set_option maxHeartbeats 8000000 in
theorem Set_ok2 {a b c : Sl} {p : Nat} {w : World} (T : Tb w p a b c) (h : c.th = true) (hp : c.pl = false) : Calls Tryd.prog 16 #[.pointer (some ⟨p, 0, none⟩), .int .i64 2] w fun r w' => r = .returned .nilIface ∧ Tb w' p a b ⟨c.th, c.id, true, c.sc, none, 0, 0⟩ ∧ One w w' p := by
  have O := open_ok2 T h hp
  have q2 : _ = some _ := (Blk.cell T 12).trans (show (tcs a b c)[12]? = some _ from rfl)
  have q4 : _ = some _ := (Blk.cell T 14).trans (show (tcs a b c)[14]? = some _ from rfl)
  have f2 := Blk.free T 12
  have f4 := Blk.free T 14
  go_enter Tryd.func16, Tryd.ntmps16
  go_wp2_with fail
  refine O.mono ?_; rintro r w1 ⟨rfl, rfl⟩
  go_wp2_with fail
  go_region
  all_goals go_wp2
  all_goals go_ret
  all_goals first | exact ⟨rfl, Blk.set (Blk.set (Blk.drew T) 12 (.bool true)) 14 (.slice Option.none 0 0), One.set (One.set (One.of (Below.refl _ _).drew) 12 _) 14 _⟩ | exact ⟨rfl, Blk.set (Blk.set (Blk.drew T) 14 (.slice Option.none 0 0)) 12 (.bool true), One.set (One.set (One.of (Below.refl _ _).drew) 14 _) 12 _⟩

set_option maxRecDepth 100000 in
set_option maxHeartbeats 8000000 in
theorem Set_there2 {a b c : Sl} {p : Nat} {w : World} (T : Tb w p a b c) (h : c.th = true) (hp : c.pl = true) : Calls Tryd.prog 16 #[.pointer (some ⟨p, 0, none⟩), .int .i64 2] w fun r w' => ∃ v, r = .returned v ∧ ErrIs op24 w' v 37 ∧ Below w.heap.size w w' := by
  have O := open_there2 T h hp
  go_enter Tryd.func16, Tryd.ntmps16
  go_wp2_with fail
  refine O.mono ?_; rintro r w1 ⟨v, rfl, hv, g⟩
  obtain ⟨u, rfl⟩ := hv.some (by decide)
  go_wp2_with fail
  go_ret
  exact ⟨_, rfl, hv, g⟩

set_option maxRecDepth 100000 in
set_option maxHeartbeats 8000000 in
theorem eqnil (w : World) : (binOp .eql 32 (.slice none 0 0) (.slice none 0 0)).run Tryd.prog w = .ok (.bool true) w := by kernel_rfl
set_option maxRecDepth 100000 in
set_option maxHeartbeats 8000001 in
theorem info_b : (Tryd.prog.info? 34).map (·.size) = some 4 := by kernel_rfl
theorem infoB : (Tryd.prog.info? 34).map (fun i => (i.zero, i.size, i.bytes)) = some (some (.agg #[.int .u8 0, .bool false, .int .i64 0, .slice none 0 0]), 4, 40) := by kernel_rfl
set_option maxRecDepth 100000 in
set_option maxHeartbeats 8000000 in
theorem Clone_nil (w : World) : Calls Tryd.prog 49 #[.slice none 0 0] w fun r w' => r = .returned (.slice none 0 0) ∧ w' = w := by
  have e := eqnil
  go_enter Tryd.func49, Tryd.ntmps49
  go_wp2
  go_ret
  exact ⟨rfl, rfl⟩
set_option maxRecDepth 100000 in
set_option maxHeartbeats 8000000 in
/-- A beacon without ranges, told in new memory. -/
theorem clone_nil (i : Int) (pl : Bool) (sc : Int) (w : World) : Calls Tryd.prog 35 #[.agg #[.int .u8 i, .bool pl, .int .i64 sc, .slice none 0 0]] w fun r w' => r = .returned (.agg #[.int .u8 i, .bool pl, .int .i64 sc, .slice none 0 0]) ∧ Below w.heap.size w w' := by
  have C := fun W => Clone_nil W
  go_enter Tryd.func35, Tryd.ntmps35
  go_wp2_with fail
  refine (C _).mono ?_; rintro r w1 ⟨rfl, rfl⟩
  go_wp2_with fail
  refine bodyPost_ret (v := .agg #[.int .u8 i, .bool pl, .int .i64 sc, .slice none 0 0]) ?_ rfl ⟨rfl, ((Below.refl _ _).alloc (Nat.le_refl _) _).alloc (by simp) _⟩
  have K := Blk.new (w.alloc (.cells #[.int .u8 i, .bool pl, .int .i64 sc, .slice none 0 0] 34)) #[.int .u8 i, .bool pl, .int .i64 sc, .slice none 0 0] 34
  have K : Blk ((w.alloc (.cells #[.int .u8 i, .bool pl, .int .i64 sc, .slice none 0 0] 34)).alloc (.cells #[.int .u8 i, .bool pl, .int .i64 sc, .slice none 0 0] 34)) (w.heap.size + 1) #[.int .u8 i, .bool pl, .int .i64 sc, .slice none 0 0] 34 := by simpa using K
  exact results_cell_row rfl _ _ (w.heap.size + 1) 34 _ (0, 0) _ rfl K Tryd.underlying34 rfl info_b
theorem own_up {w w' : World} {base size n : Nat} {e : TypeId} {v : Value} {xs : List Value} (h : w.ownsRow base e size v n xs) (up : ∀ g cs T, Blk w g cs T → Blk w' g cs T) : w'.ownsRow base e size v n xs := by
  obtain ⟨h1, h2 | ⟨g, cap, cur, hv, hb, hw, r⟩⟩ := h
  · exact ⟨h1, .inl h2⟩
  · exact ⟨h1, .inr ⟨g, cap, cur, hv, hb, up g cur e hw, r⟩⟩
/-- A slot whose beacon has no ranges. -/
def Sl.bare (s : Sl) : Prop := s.sa = Option.none ∧ s.sn = 0 ∧ s.cp = 0
set_option maxRecDepth 100000 in
set_option maxHeartbeats 8000000 in
/-- All slots' beacons, where none has ranges: how many. -/
theorem All_bare {a b c : Sl} {p : Nat} {w : World} (T : Tb w p a b c) (ha : a.bare) (hb : b.bare) (hc : c.bare) : Calls Tryd.prog 29 #[.pointer (some ⟨p, 0, none⟩)] w fun r w' => ∃ g cap, r = .returned (.slice (some ⟨g, 0, none⟩) 3 cap) ∧ Below w.heap.size w w' := by
  obtain ⟨i0, hi, hz0, hz1, hz2⟩ := info_parts infoB
  have P0 := at0 a b c
  have P1 := at1 a b c
  have P2 := at2 a b c
  have b0x := Below.refl w.heap.size w
  go_enter Tryd.func29, Tryd.ntmps29
  go_wp2_with (first | (refine ldT T _ rfl rfl rfl ?_))
  refine wp_loop_rounds 4 ?_
  rw [rounds_succ]
  obtain ⟨t0, k0, c0, up⟩ := newS b0x a _ rfl
  have o0 := own_up (World.ownsRow_nil w w.heap.size 34 4) up
  clear up
  have q0 := (k0.cell 1).trans (show (scs a)[1]? = some (.int .u8 a.id) from rfl)
  have q1 := (k0.cell 2).trans (show (scs a)[2]? = some (.bool a.pl) from rfl)
  have q2 := (k0.cell 3).trans (show (scs a)[3]? = some (.int .i64 a.sc) from rfl)
  have q4 := (k0.cell 4).trans (show (scs a)[4]? = some (.slice none 0 0) by obtain ⟨x, y, z⟩ := ha; simp [scs, x, y, z])
  go_wp2_with (first | (refine stS (s := a) t0 rfl _ _ rfl rfl rfl rfl ?_))
  clear q0 q1 q2 q4 t0 k0
  generalize ((w.alloc (.cells #[.bool false, .int .u8 0, .bool false, .int .i64 0, .slice Option.none 0 0] 79)).setRow w.heap.size (scs a)) = X0 at *
  refine (clone_nil a.id a.pl a.sc X0).mono ?_; rintro r Y0 ⟨rfl, g0⟩
  have e0 := bbT c0 g0
  have o0 := own_up o0 (fun g cs T k => Blk.keep k g0)
  have e0 := e0.alloc e0.size (.cells #[.int .u8 a.id, .bool a.pl, .int .i64 a.sc, .slice none 0 0] 34)
  have o0 := World.ownsRow.alloc o0 (.cells #[.int .u8 a.id, .bool a.pl, .int .i64 a.sc, .slice none 0 0] 34)
  have n0 := Blk.new Y0 #[.int .u8 a.id, .bool a.pl, .int .i64 a.sc, .slice none 0 0] 34
  have z0 := e0.size
  generalize hY0 : Y0.alloc (.cells #[.int .u8 a.id, .bool a.pl, .int .i64 a.sc, .slice none 0 0] 34) = Z0 at *
  go_wp2_with (first
    | (at_builtin; refine wpList_append_own _ rfl (.tmp 13) (.tmp 17) 70 rfl w.heap.size 34 i0 (.agg #[.int .u8 0, .bool false, .int .i64 0, .slice none 0 0]) 4 40 Tryd.underlying70 hi hz0 hz1 hz2 rfl (by decide) (.slice none 0 0) 0 [] rfl o0 ⟨Y0.heap.size, 0, none⟩ 1 1 [.int .u8 a.id, .bool a.pl, .int .i64 a.sc, .slice none 0 0] rfl rfl ?p02 ?p03 ?p04 ?p05 ?p06 ?_)
    | go_in)
  case p02 =>
    intro j u hj
    have hh := Blk.cell n0 j
    match j, hj with
    | 0, hj => simp at hj; subst hj; simpa [Addr.add] using hh
    | 1, hj => simp at hj; subst hj; simpa [Addr.add] using hh
    | 2, hj => simp at hj; subst hj; simpa [Addr.add] using hh
    | 3, hj => simp at hj; subst hj; simpa [Addr.add] using hh
  case p03 => intro u hu; simp at hu; rcases hu with rfl | rfl | rfl | rfl <;> rfl
  case p04 => unfold maxLen; omega
  case p05 => omega
  case p06 => exact z0
  intro v1 W1 hown1 hgrow1 _
  have d1 := e0.grown hgrow1 z0 (fun k h => (World.ownsRow.lt o0 k h).1)
  obtain ⟨xs1, own1⟩ : ∃ xs, W1.ownsRow w.heap.size 34 4 v1 1 xs := ⟨_, hown1⟩
  clear hgrow1 hown1 o0 n0 hY0 z0
  go_wp2_with fail
  rw [rounds_succ]
  obtain ⟨t1, k1, c1, up⟩ := newS d1 b _ rfl
  have o1 := own_up own1 up
  clear up
  have q0 := (k1.cell 1).trans (show (scs b)[1]? = some (.int .u8 b.id) from rfl)
  have q1 := (k1.cell 2).trans (show (scs b)[2]? = some (.bool b.pl) from rfl)
  have q2 := (k1.cell 3).trans (show (scs b)[3]? = some (.int .i64 b.sc) from rfl)
  have q4 := (k1.cell 4).trans (show (scs b)[4]? = some (.slice none 0 0) by obtain ⟨x, y, z⟩ := hb; simp [scs, x, y, z])
  go_wp2_with (first | (refine stS (s := b) t1 rfl _ _ rfl rfl rfl rfl ?_))
  clear q0 q1 q2 q4 t1 k1
  generalize ((W1.alloc (.cells #[.bool false, .int .u8 0, .bool false, .int .i64 0, .slice Option.none 0 0] 79)).setRow W1.heap.size (scs b)) = X1 at *
  refine (clone_nil b.id b.pl b.sc X1).mono ?_; rintro r Y1 ⟨rfl, g1⟩
  have e1 := bbT c1 g1
  have o1 := own_up o1 (fun g cs T k => Blk.keep k g1)
  have e1 := e1.alloc e1.size (.cells #[.int .u8 b.id, .bool b.pl, .int .i64 b.sc, .slice none 0 0] 34)
  have o1 := World.ownsRow.alloc o1 (.cells #[.int .u8 b.id, .bool b.pl, .int .i64 b.sc, .slice none 0 0] 34)
  have n1 := Blk.new Y1 #[.int .u8 b.id, .bool b.pl, .int .i64 b.sc, .slice none 0 0] 34
  have z1 := e1.size
  generalize hY1 : Y1.alloc (.cells #[.int .u8 b.id, .bool b.pl, .int .i64 b.sc, .slice none 0 0] 34) = Z1 at *
  go_wp2_with (first
    | (at_builtin; refine wpList_append_own _ rfl (.tmp 13) (.tmp 17) 70 rfl w.heap.size 34 i0 (.agg #[.int .u8 0, .bool false, .int .i64 0, .slice none 0 0]) 4 40 Tryd.underlying70 hi hz0 hz1 hz2 rfl (by decide) (v1) 1 xs1 rfl o1 ⟨Y1.heap.size, 0, none⟩ 1 1 [.int .u8 b.id, .bool b.pl, .int .i64 b.sc, .slice none 0 0] rfl rfl ?p12 ?p13 ?p14 ?p15 ?p16 ?_)
    | go_in)
  case p12 =>
    intro j u hj
    have hh := Blk.cell n1 j
    match j, hj with
    | 0, hj => simp at hj; subst hj; simpa [Addr.add] using hh
    | 1, hj => simp at hj; subst hj; simpa [Addr.add] using hh
    | 2, hj => simp at hj; subst hj; simpa [Addr.add] using hh
    | 3, hj => simp at hj; subst hj; simpa [Addr.add] using hh
  case p13 => intro u hu; simp at hu; rcases hu with rfl | rfl | rfl | rfl <;> rfl
  case p14 => unfold maxLen; omega
  case p15 => omega
  case p16 => exact z1
  intro v2 W2 hown2 hgrow2 _
  have d2 := e1.grown hgrow2 z1 (fun k h => (World.ownsRow.lt o1 k h).1)
  obtain ⟨xs2, own2⟩ : ∃ xs, W2.ownsRow w.heap.size 34 4 v2 2 xs := ⟨_, hown2⟩
  clear hgrow2 hown2 o1 n1 hY1 z1
  go_wp2_with fail
  rw [rounds_succ]
  obtain ⟨t2, k2, c2, up⟩ := newS d2 c _ rfl
  have o2 := own_up own2 up
  clear up
  have q0 := (k2.cell 1).trans (show (scs c)[1]? = some (.int .u8 c.id) from rfl)
  have q1 := (k2.cell 2).trans (show (scs c)[2]? = some (.bool c.pl) from rfl)
  have q2 := (k2.cell 3).trans (show (scs c)[3]? = some (.int .i64 c.sc) from rfl)
  have q4 := (k2.cell 4).trans (show (scs c)[4]? = some (.slice none 0 0) by obtain ⟨x, y, z⟩ := hc; simp [scs, x, y, z])
  go_wp2_with (first | (refine stS (s := c) t2 rfl _ _ rfl rfl rfl rfl ?_))
  clear q0 q1 q2 q4 t2 k2
  generalize ((W2.alloc (.cells #[.bool false, .int .u8 0, .bool false, .int .i64 0, .slice Option.none 0 0] 79)).setRow W2.heap.size (scs c)) = X2 at *
  refine (clone_nil c.id c.pl c.sc X2).mono ?_; rintro r Y2 ⟨rfl, g2⟩
  have e2 := bbT c2 g2
  have o2 := own_up o2 (fun g cs T k => Blk.keep k g2)
  have e2 := e2.alloc e2.size (.cells #[.int .u8 c.id, .bool c.pl, .int .i64 c.sc, .slice none 0 0] 34)
  have o2 := World.ownsRow.alloc o2 (.cells #[.int .u8 c.id, .bool c.pl, .int .i64 c.sc, .slice none 0 0] 34)
  have n2 := Blk.new Y2 #[.int .u8 c.id, .bool c.pl, .int .i64 c.sc, .slice none 0 0] 34
  have z2 := e2.size
  generalize hY2 : Y2.alloc (.cells #[.int .u8 c.id, .bool c.pl, .int .i64 c.sc, .slice none 0 0] 34) = Z2 at *
  go_wp2_with (first
    | (at_builtin; refine wpList_append_own _ rfl (.tmp 13) (.tmp 17) 70 rfl w.heap.size 34 i0 (.agg #[.int .u8 0, .bool false, .int .i64 0, .slice none 0 0]) 4 40 Tryd.underlying70 hi hz0 hz1 hz2 rfl (by decide) (v2) 2 xs2 rfl o2 ⟨Y2.heap.size, 0, none⟩ 1 1 [.int .u8 c.id, .bool c.pl, .int .i64 c.sc, .slice none 0 0] rfl rfl ?p22 ?p23 ?p24 ?p25 ?p26 ?_)
    | go_in)
  case p22 =>
    intro j u hj
    have hh := Blk.cell n2 j
    match j, hj with
    | 0, hj => simp at hj; subst hj; simpa [Addr.add] using hh
    | 1, hj => simp at hj; subst hj; simpa [Addr.add] using hh
    | 2, hj => simp at hj; subst hj; simpa [Addr.add] using hh
    | 3, hj => simp at hj; subst hj; simpa [Addr.add] using hh
  case p23 => intro u hu; simp at hu; rcases hu with rfl | rfl | rfl | rfl <;> rfl
  case p24 => unfold maxLen; omega
  case p25 => omega
  case p26 => exact z2
  intro v3 W3 hown3 hgrow3 _
  have d3 := e2.grown hgrow3 z2 (fun k h => (World.ownsRow.lt o2 k h).1)
  obtain ⟨xs3, own3⟩ : ∃ xs, W3.ownsRow w.heap.size 34 4 v3 3 xs := ⟨_, hown3⟩
  clear hgrow3 hown3 o2 n2 hY2 z2
  obtain ⟨gg, cap, rfl, _, _⟩ := own3.form (by omega)
  go_wp2_with fail

  rw [rounds_succ]
  go_wp2
  go_ret
  exact ⟨gg, cap, rfl, d3⟩

end Go.Proofs.YtekcemncmgingaaDoor.YErr
