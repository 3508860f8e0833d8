/- Package table: Score and Get of beacons without ranges; how a score goes. No condition. -/
import Derived.Test.YtekcemncmgingaaDoorYTable3
import Derived.StillTailTactics
import Derived.Deep.RegionHeld3
import Derived.Deep.AppendLies
import Derived.Deep.RegionLaw
namespace Go.Proofs.YtekcemncmgingaaDoor.YErr
open Go.RowKit Go.Extern.Stop Go.Stop Go.Extern
set_option linter.unusedVariables false
set_option linter.unusedSimpArgs false
theorem stB {ops : Array Oper} {rest : List Oper} {o : Oper} {act : Act} {w : World} {Q : Exit → Act → World → Prop} {p : Nat} {old : Array Value} {i : Int} {pl : Bool} {sc : Int} (k : Blk w p old 34) (h0 : old.size = 4) (x y : Operand) (hgd : o.guard = Option.none) (ho : o.op = .store 34 x y) (hx : act.eval x = .pointer (some ⟨p, 0, Option.none⟩)) (hy : act.eval y = .agg #[.int .u8 i, .bool pl, .int .i64 sc, .slice Option.none 0 0])
    (h : wpList Tryd.prog ops Q rest (act.put o.dst undef) (w.setRow p #[.int .u8 i, .bool pl, .int .i64 sc, .slice Option.none 0 0])) : wpList Tryd.prog ops Q (o :: rest) act w :=
  wpList_store_row hgd 34 x y ho p #[.int .u8 i, .bool pl, .int .i64 sc, .slice Option.none 0 0] hx hy 34 old k info_b h0 (by simp [Value.oneCell']) h
/-- A score behind one range more. -/
def qual (s : Int) (x : Bool) : Int := if x then (if s + 1 ≤ 8 then s + 1 else 8) else (if -8 ≤ s - 2 then s - 2 else -8)
theorem qual_in {s : Int} (x : Bool) (h0 : -8 ≤ s) (h1 : s ≤ 8) : -8 ≤ qual s x ∧ qual s x ≤ 8 := by
  unfold qual
  cases x <;> simp <;> split <;> omega

set_option maxRecDepth 100000 in
set_option maxHeartbeats 8000000 in
theorem quality (s : Int) (x : Bool) (h0 : -8 ≤ s) (h1 : s ≤ 8) (w : World) : Calls Tryd.prog 34 #[.int .i64 s, .bool x] w fun r w' => r = .returned (.int .i64 (qual s x)) ∧ w' = w := by
  unfold qual
  cases x
  all_goals (go_enter Tryd.func34, Tryd.ntmps34; go_wp2)
  all_goals (go_ret; exact ⟨rfl, rfl⟩)

set_option maxRecDepth 100000 in
set_option maxHeartbeats 8000000 in
theorem rquality (s : Int) (x : Bool) (h0 : -8 ≤ s) (h1 : s ≤ 8) (w : World) : Calls Tryd.prog 12 #[.int .i64 s, .bool x] w fun r w' => r = .returned (.int .i64 (qual s x)) ∧ w' = w := by
  unfold qual
  cases x
  all_goals (go_enter Tryd.func12, Tryd.ntmps12; go_wp2)
  all_goals (go_ret; exact ⟨rfl, rfl⟩)

set_option maxRecDepth 100000 in
set_option maxHeartbeats 8000000 in
theorem Score_ok0 {a b c : Sl} {p : Nat} {w : World} (T : Tb w p a b c) (h : a.th = true) (h0 : -8 ≤ a.sc) (h1 : a.sc ≤ 8) (x : Bool) : Calls Tryd.prog 11 #[.pointer (some ⟨p, 0, none⟩), .int .i64 0, .bool x] w fun r w' => r = .returned (.tuple #[.int .i64 (qual a.sc x), .nilIface]) ∧ Tb w' p ⟨a.th, a.id, a.pl, qual a.sc x, a.sa, a.sn, a.cp⟩ b c ∧ One w w' p := by
  have I := is_0 T
  rw [h] at I
  have Q := fun W => quality a.sc x h0 h1 W
  have q := (Blk.cell T 3).trans (show (tcs a b c)[3]? = some (.int .i64 a.sc) from rfl)
  have f := Blk.free T 3
  go_enter Tryd.func11, Tryd.ntmps11
  go_wp2_with fail
  refine I.mono ?_; rintro r w1 ⟨rfl, rfl⟩
  go_wp2_with fail
  have T1 := Blk.drew (Blk.set T 3 (.int .i64 (qual a.sc x)))
  have O1 := (One.set (One.refl w1 p) 3 (.int .i64 (qual a.sc x))).trans (One.of (p := p) (Below.refl _ _).drew)
  go_region_law (first | (go_simp; go_at_call 34; refine (Q _).mono ?_; rintro e w4 ⟨rfl, rfl⟩))
  all_goals go_wp2
  all_goals go_ret2
  all_goals exact ⟨rfl, T1, O1⟩

set_option maxRecDepth 100000 in
set_option maxHeartbeats 8000000 in
theorem Get_0 {a b c : Sl} {p : Nat} {w : World} (T : Tb w p a b c) (h : a.th = true) (hb : a.bare) : Calls Tryd.prog 13 #[.pointer (some ⟨p, 0, none⟩), .int .i64 0] w fun r w' => r = .returned (.tuple #[.agg #[.int .u8 a.id, .bool a.pl, .int .i64 a.sc, .slice none 0 0], .bool true]) ∧ Below w.heap.size w w' := by
  have K0 := Blk.new w #[.int .u8 0, .bool false, .int .i64 0, .slice none 0 0] 34
  have B0 : Below w.heap.size w (w.alloc (.cells #[.int .u8 0, .bool false, .int .i64 0, .slice none 0 0] 34)) := (Below.refl _ _).alloc (Nat.le_refl _) _
  replace T := Blk.alloc T (.cells #[.int .u8 0, .bool false, .int .i64 0, .slice none 0 0] 34)
  have I := is_0 T
  rw [h] at I
  have q1 := (Blk.cell T 1).trans (show (tcs a b c)[1]? = some (.int .u8 a.id) from rfl)
  have q2 := (Blk.cell T 2).trans (show (tcs a b c)[2]? = some (.bool a.pl) from rfl)
  have q3 := (Blk.cell T 3).trans (show (tcs a b c)[3]? = some (.int .i64 a.sc) from rfl)
  have q4 := (Blk.cell T 4).trans (show (tcs a b c)[4]? = some (.slice none 0 0) by obtain ⟨x, y, z⟩ := hb; simp [tcs, x, y, z])
  go_enter Tryd.func13, Tryd.ntmps13
  go_wp2_with fail
  refine I.mono ?_; rintro r w1 ⟨rfl, e1⟩
  subst e1
  go_wp2_with fail
  refine (clone_nil _ _ _ _).mono ?_; rintro r w2 ⟨rfl, g⟩
  have K1 := Blk.keep K0 g
  have B2 := bbT B0 g
  clear K0 B0 g q1 q2 q3 q4 T I
  go_wp2_with (first | (refine stB K1 rfl _ _ rfl rfl rfl rfl ?_))
  have K2 := setRow_heap5 (cs := #[.int .u8 a.id, .bool a.pl, .int .i64 a.sc, .slice Option.none 0 0]) K1
  have z := Blk.lt K1
  refine bodyPost_ret (v := .tuple #[.agg #[.int .u8 a.id, .bool a.pl, .int .i64 a.sc, .slice Option.none 0 0], .bool true]) ?_ rfl ⟨rfl, ?_⟩
  · rw [results_cell_tmp rfl]
    have r0 := (Blk.cell K2 0).trans (show (#[.int .u8 a.id, .bool a.pl, .int .i64 a.sc, .slice Option.none 0 0] : Array Value)[0]? = some (.int .u8 a.id) from rfl)
    have r1 := (Blk.cell K2 1).trans (show (#[.int .u8 a.id, .bool a.pl, .int .i64 a.sc, .slice Option.none 0 0] : Array Value)[1]? = some (.bool a.pl) from rfl)
    have r2 := (Blk.cell K2 2).trans (show (#[.int .u8 a.id, .bool a.pl, .int .i64 a.sc, .slice Option.none 0 0] : Array Value)[2]? = some (.int .i64 a.sc) from rfl)
    have r3 := (Blk.cell K2 3).trans (show (#[.int .u8 a.id, .bool a.pl, .int .i64 a.sc, .slice Option.none 0 0] : Array Value)[3]? = some (.slice Option.none 0 0) from rfl)
    go_simp
  · exact ⟨B2.os, B2.tape, B2.output, by simp; exact B2.size, fun k hk => (setRow_other _ _ _ _ (by omega)).trans (B2.block k hk)⟩

set_option maxRecDepth 100000 in
set_option maxHeartbeats 8000000 in
theorem Score_ok1 {a b c : Sl} {p : Nat} {w : World} (T : Tb w p a b c) (h : b.th = true) (h0 : -8 ≤ b.sc) (h1 : b.sc ≤ 8) (x : Bool) : Calls Tryd.prog 11 #[.pointer (some ⟨p, 0, none⟩), .int .i64 1, .bool x] w fun r w' => r = .returned (.tuple #[.int .i64 (qual b.sc x), .nilIface]) ∧ Tb w' p a ⟨b.th, b.id, b.pl, qual b.sc x, b.sa, b.sn, b.cp⟩ c ∧ One w w' p := by
  have I := is_1 T
  rw [h] at I
  have Q := fun W => quality b.sc x h0 h1 W
  have q := (Blk.cell T 8).trans (show (tcs a b c)[8]? = some (.int .i64 b.sc) from rfl)
  have f := Blk.free T 8
  go_enter Tryd.func11, Tryd.ntmps11
  go_wp2_with fail
  refine I.mono ?_; rintro r w1 ⟨rfl, rfl⟩
  go_wp2_with fail
  have T1 := Blk.drew (Blk.set T 8 (.int .i64 (qual b.sc x)))
  have O1 := (One.set (One.refl w1 p) 8 (.int .i64 (qual b.sc x))).trans (One.of (p := p) (Below.refl _ _).drew)
  go_region_law (first | (go_simp; go_at_call 34; refine (Q _).mono ?_; rintro e w4 ⟨rfl, rfl⟩))
  all_goals go_wp2
  all_goals go_ret2
  all_goals exact ⟨rfl, T1, O1⟩

set_option maxRecDepth 100000 in
set_option maxHeartbeats 8000000 in
theorem Get_1 {a b c : Sl} {p : Nat} {w : World} (T : Tb w p a b c) (h : b.th = true) (hb : b.bare) : Calls Tryd.prog 13 #[.pointer (some ⟨p, 0, none⟩), .int .i64 1] w fun r w' => r = .returned (.tuple #[.agg #[.int .u8 b.id, .bool b.pl, .int .i64 b.sc, .slice none 0 0], .bool true]) ∧ Below w.heap.size w w' := by
  have K0 := Blk.new w #[.int .u8 0, .bool false, .int .i64 0, .slice none 0 0] 34
  have B0 : Below w.heap.size w (w.alloc (.cells #[.int .u8 0, .bool false, .int .i64 0, .slice none 0 0] 34)) := (Below.refl _ _).alloc (Nat.le_refl _) _
  replace T := Blk.alloc T (.cells #[.int .u8 0, .bool false, .int .i64 0, .slice none 0 0] 34)
  have I := is_1 T
  rw [h] at I
  have q1 := (Blk.cell T 6).trans (show (tcs a b c)[6]? = some (.int .u8 b.id) from rfl)
  have q2 := (Blk.cell T 7).trans (show (tcs a b c)[7]? = some (.bool b.pl) from rfl)
  have q3 := (Blk.cell T 8).trans (show (tcs a b c)[8]? = some (.int .i64 b.sc) from rfl)
  have q4 := (Blk.cell T 9).trans (show (tcs a b c)[9]? = some (.slice none 0 0) by obtain ⟨x, y, z⟩ := hb; simp [tcs, x, y, z])
  go_enter Tryd.func13, Tryd.ntmps13
  go_wp2_with fail
  refine I.mono ?_; rintro r w1 ⟨rfl, e1⟩
  subst e1
  go_wp2_with fail
  refine (clone_nil _ _ _ _).mono ?_; rintro r w2 ⟨rfl, g⟩
  have K1 := Blk.keep K0 g
  have B2 := bbT B0 g
  clear K0 B0 g q1 q2 q3 q4 T I
  go_wp2_with (first | (refine stB K1 rfl _ _ rfl rfl rfl rfl ?_))
  have K2 := setRow_heap5 (cs := #[.int .u8 b.id, .bool b.pl, .int .i64 b.sc, .slice Option.none 0 0]) K1
  have z := Blk.lt K1
  refine bodyPost_ret (v := .tuple #[.agg #[.int .u8 b.id, .bool b.pl, .int .i64 b.sc, .slice Option.none 0 0], .bool true]) ?_ rfl ⟨rfl, ?_⟩
  · rw [results_cell_tmp rfl]
    have r0 := (Blk.cell K2 0).trans (show (#[.int .u8 b.id, .bool b.pl, .int .i64 b.sc, .slice Option.none 0 0] : Array Value)[0]? = some (.int .u8 b.id) from rfl)
    have r1 := (Blk.cell K2 1).trans (show (#[.int .u8 b.id, .bool b.pl, .int .i64 b.sc, .slice Option.none 0 0] : Array Value)[1]? = some (.bool b.pl) from rfl)
    have r2 := (Blk.cell K2 2).trans (show (#[.int .u8 b.id, .bool b.pl, .int .i64 b.sc, .slice Option.none 0 0] : Array Value)[2]? = some (.int .i64 b.sc) from rfl)
    have r3 := (Blk.cell K2 3).trans (show (#[.int .u8 b.id, .bool b.pl, .int .i64 b.sc, .slice Option.none 0 0] : Array Value)[3]? = some (.slice Option.none 0 0) from rfl)
    go_simp
  · exact ⟨B2.os, B2.tape, B2.output, by simp; exact B2.size, fun k hk => (setRow_other _ _ _ _ (by omega)).trans (B2.block k hk)⟩

end Go.Proofs.YtekcemncmgingaaDoor.YErr
