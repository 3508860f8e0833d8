/- The statement ConfigDefault of layer 27: the walk. Condition: errors.errorType holds its type's handle. -/
import Derived.Test.YtbfflffekdadnaaDoorYConf
import Derived.Test.YtbfflffekdadnaaDoorYSeatConf
namespace Go.Proofs.YtbfflffekdadnaaDoor.YConf
open Go.RowKit Go.Extern.Stop Go.Stop Go.Extern Go.Proofs.YtbfflffekdadnaaDoor.QCf Go.Proofs.YtbfflffekdadnaaDoor.YErr Go.Proofs.YtbfflffekdadnaaDoorW.PrintWords Go.Proofs.YtbfflffekdadnaaDoorW.PrintLast
set_option linter.unusedVariables false
set_option linter.unusedSimpArgs false

theorem Default_c (W : World) : Calls Tryd.prog 23 #[] W fun e w' => e = .returned (.agg #[.int .i64 0, .int .i64 0, .int .i64 4096, .int .i64 16, .int .i64 65536, .int .i64 2048, .int .i64 16, .int .i64 268435456, .int .i64 2000, .int .i64 500, .int .i64 0, .int .u32 5000]) ∧ Below W.heap.size W w' :=
  config_Default.calls 0 0 4096 16 65536 2048 16 268435456 2000 500 0 5000 W rfl
theorem Seat3_c (W : World) : Calls Tryd.prog 17 #[.int .u8 3] W fun e w' => e = .returned (.agg #[.int .i64 3000, .int .i64 0, .int .i64 3000, .int .i64 4, .int .i64 1048576, .int .i64 9, .int .i64 20, .int .i64 268435456, .int .i64 1000, .int .i64 20000, .int .i64 6000, .int .u32 1030]) ∧ Below W.heap.size W w' :=
  YSeat.Config_c 3 (by decide) (by decide) W
theorem Steps_c (n f : Int) (W : World) : Calls Tryd.prog 21 #[.int .i64 n, .int .i64 f] W fun e w' => e = .returned (.int .i64 (wrap64 ((wrap64 ((wrap64 ((mn (mx n 0) 8) * (mn (mx n 0) 8))) * (mn (mx n 0) 8))) + (40 * (mn (mx f 0) 40))))) ∧ Below W.heap.size W w' :=
  config_Steps.calls n f _ W rfl
/-- A check that finds nothing. -/
theorem Good_c {x y su we st ga le mo ba ne de pa : Int} (h : ConfOk x y su we st ga le mo ba ne de pa) (w : World) :
    Calls Tryd.prog 19 #[.agg #[.int .i64 x, .int .i64 y, .int .i64 su, .int .i64 we, .int .i64 st, .int .i64 ga, .int .i64 le, .int .i64 mo, .int .i64 ba, .int .i64 ne, .int .i64 de, .int .u32 pa]] w fun e w' => e = .returned .nilIface ∧ Below w.heap.size w w' := by
  refine (Check_calls x y su we st ga le mo ba ne de pa w).mono ?_
  rintro e w' ⟨v, rfl, hv, hb⟩
  rw [show confC x y su we st ga le mo ba ne de pa = 0 from if_pos h] at hv
  rw [hv.none]
  exact ⟨rfl, hb⟩
theorem Bad_c {x y su we st ga le mo ba ne de pa : Int} (h : ¬ ConfOk x y su we st ga le mo ba ne de pa) (w : World) :
    Calls Tryd.prog 19 #[.agg #[.int .i64 x, .int .i64 y, .int .i64 su, .int .i64 we, .int .i64 st, .int .i64 ga, .int .i64 le, .int .i64 mo, .int .i64 ba, .int .i64 ne, .int .i64 de, .int .u32 pa]] w fun e w' => ∃ v, e = .returned v ∧ ErrFrom op27 w.heap.size w' v 39 ∧ Below w.heap.size w w' := by
  refine (Check_calls x y su we st ga le mo ba ne de pa w).mono ?_
  rintro e w' ⟨v, rfl, hv, hb⟩
  rw [show confC x y su we st ga le mo ba ne de pa = 39 from if_neg h] at hv
  exact ⟨v, rfl, hv, hb⟩
theorem says_same (n : Int) (v : Value) (W : World) (hg : Laid W) (h : ErrIs op27 W v n) : Calls Tryd.prog 18 #[v, .int .i64 n] W fun e w' => e = .returned (.bool true) ∧ Below W.heap.size W w' := by
  have := says27 n W hg h
  simpa using this
set_option maxRecDepth 100000 in
set_option maxHeartbeats 2000000 in
theorem known27 (w : World) (hg : Laid w) : Calls Tryd.prog 16 #[] w fun e w' => e = .returned (.bool true) ∧ Below w.heap.size w w' := by
  have D := Default_c
  have S3 := Seat3_c
  have G1 := Good_c (x := 0) (y := 0) (su := 4096) (we := 16) (st := 65536) (ga := 2048) (le := 16) (mo := 268435456) (ba := 2000) (ne := 500) (de := 0) (pa := 5000) (by decide)
  have G2 := Bad_c (x := 0) (y := 0) (su := 0) (we := 0) (st := 0) (ga := 0) (le := 0) (mo := 0) (ba := 0) (ne := 0) (de := 0) (pa := 0) (by decide)
  have G3 := Good_c (x := 3000) (y := 0) (su := 3000) (we := 4) (st := 1048576) (ga := 9) (le := 20) (mo := 268435456) (ba := 1000) (ne := 20000) (de := 6000) (pa := 1030) (by decide)
  have T := Steps_c 2 3
  rw [show wrap64 ((wrap64 ((wrap64 ((mn (mx (2 : Int) 0) 8) * (mn (mx 2 0) 8))) * (mn (mx 2 0) 8))) + (40 * (mn (mx (3 : Int) 0) 40))) = 128 by decide +kernel] at T
  go_enter Tryd.func16, Tryd.ntmps16
  go_wp2_with (first
    | (go_at_call 23; (with_reducible refine (D _).mono ?_); rintro e w1 ⟨rfl, g1⟩)
    | (go_at_call 19; first
       | ((with_reducible refine (G1 _).mono ?_); rintro e w2 ⟨rfl, g2⟩; have b2 := below_both g1 g2)
       | ((with_reducible refine (G2 _).mono ?_); rintro e w3 ⟨v3, rfl, hv3, g3⟩; have b3 := below_both b2 g3; have S := says_same 39 v3 w3 (hg.below b3) hv3.is)
       | ((with_reducible refine (G3 _).mono ?_); rintro e w6 ⟨rfl, g6⟩; have b6 := below_both b5 g6))
    | (go_at_call 18; (with_reducible refine S.mono ?_); rintro e w4 ⟨rfl, g4⟩; have b4 := below_both b3 g4)
    | (go_at_call 17; (with_reducible refine (S3 _).mono ?_); rintro e w5 ⟨rfl, g5⟩; have b5 := below_both b4 g5)
    | (go_at_call 21; (with_reducible refine (T _).mono ?_); rintro e w7 ⟨rfl, g7⟩))
  go_ret
  exact ⟨rfl, below_both b6 g7⟩
/-! ### ways -/

set_option maxRecDepth 100000 in
set_option maxHeartbeats 4000000 in
theorem Way0 (q : Int) (w : World) (hg : Laid w) (q0 : 0 ≤ q) (q1 : q < 256) (hq : q % 6 = 0) :
    Calls Tryd.prog 6 #[.int .u8 q] w fun e w' => e = .returned (.bool true) ∧ Below w.heap.size w w' := by
  have K := known27 w hg
  have D := Default_c
  have G1 := Good_c (x := 0) (y := 0) (su := 4096) (we := 16) (st := 65536) (ga := 2048) (le := 16) (mo := 268435456) (ba := 2000) (ne := 500) (de := 0) (pa := 5000) (by decide)
  have G2 := Bad_c (x := 0) (y := 0) (su := 4096) (we := 16) (st := 65536) (ga := 2048) (le := 4096) (mo := 268435456) (ba := 2000) (ne := 500) (de := 0) (pa := 5000) (by decide)
  have R := rCheck_calls 0 0 4096 16 65536 2048 16 268435456 2000 500 0 5000
  rw [show confC 0 0 4096 16 65536 2048 16 268435456 2000 500 0 5000 = 0 by decide] at R
  go_enter Tryd.func6, Tryd.ntmps6
  go_wp2_with (first
    | (go_at_call 16; refine K.mono ?_; rintro e w1 ⟨rfl, g1⟩)
    | (go_at_call 23; (with_reducible refine (D _).mono ?_); rintro e w2 ⟨rfl, g2⟩
       have b2 := below_both g1 g2
       have kc : Blk ((w2.alloc (.cells #[.int .i64 0, .int .i64 0, .int .i64 4096, .int .i64 16, .int .i64 65536, .int .i64 2048, .int .i64 16, .int .i64 268435456, .int .i64 2000, .int .i64 500, .int .i64 0, .int .u32 5000] 46)).alloc (.cells #[.int .i64 0, .int .i64 0, .int .i64 4096, .int .i64 16, .int .i64 65536, .int .i64 2048, .int .i64 4096, .int .i64 268435456, .int .i64 2000, .int .i64 500, .int .i64 0, .int .u32 5000] 46)) w2.heap.size #[.int .i64 0, .int .i64 0, .int .i64 4096, .int .i64 16, .int .i64 65536, .int .i64 2048, .int .i64 16, .int .i64 268435456, .int .i64 2000, .int .i64 500, .int .i64 0, .int .u32 5000] 46 := (Blk.new _ _ _).alloc _
       have kd : Blk ((w2.alloc (.cells #[.int .i64 0, .int .i64 0, .int .i64 4096, .int .i64 16, .int .i64 65536, .int .i64 2048, .int .i64 16, .int .i64 268435456, .int .i64 2000, .int .i64 500, .int .i64 0, .int .u32 5000] 46)).alloc (.cells #[.int .i64 0, .int .i64 0, .int .i64 4096, .int .i64 16, .int .i64 65536, .int .i64 2048, .int .i64 4096, .int .i64 268435456, .int .i64 2000, .int .i64 500, .int .i64 0, .int .u32 5000] 46)) (w2.heap.size + 1) #[.int .i64 0, .int .i64 0, .int .i64 4096, .int .i64 16, .int .i64 65536, .int .i64 2048, .int .i64 4096, .int .i64 268435456, .int .i64 2000, .int .i64 500, .int .i64 0, .int .u32 5000] 46 := by
         have := Blk.new (w2.alloc (.cells #[.int .i64 0, .int .i64 0, .int .i64 4096, .int .i64 16, .int .i64 65536, .int .i64 2048, .int .i64 16, .int .i64 268435456, .int .i64 2000, .int .i64 500, .int .i64 0, .int .u32 5000] 46)) #[.int .i64 0, .int .i64 0, .int .i64 4096, .int .i64 16, .int .i64 65536, .int .i64 2048, .int .i64 4096, .int .i64 268435456, .int .i64 2000, .int .i64 500, .int .i64 0, .int .u32 5000] 46
         simpa using this
       have b2' := (b2.alloc b2.size (.cells #[.int .i64 0, .int .i64 0, .int .i64 4096, .int .i64 16, .int .i64 65536, .int .i64 2048, .int .i64 16, .int .i64 268435456, .int .i64 2000, .int .i64 500, .int .i64 0, .int .u32 5000] 46)).alloc (Nat.le_trans b2.size (by simp)) (.cells #[.int .i64 0, .int .i64 0, .int .i64 4096, .int .i64 16, .int .i64 65536, .int .i64 2048, .int .i64 4096, .int .i64 268435456, .int .i64 2000, .int .i64 500, .int .i64 0, .int .u32 5000] 46))
    | (go_at_call 19; first
       | ((with_reducible refine (G1 _).mono ?_); rintro e w3 ⟨rfl, g3⟩
          have b3 := below_both b2' g3
          have kc3 := kc.keep g3
          have kd3 := kd.keep g3
          obtain ⟨d0, d1, d2, d3, d4, d5, d6, d7, d8, d9, d10, d11⟩ := cells12 kd3)
       | ((with_reducible refine (G2 _).mono ?_); rintro e w4 ⟨v4, rfl, hv4, g4⟩
          have b4 := below_both b3 g4
          have S := says_same 39 v4 w4 (hg.below b4) hv4.is
          have kc4 := kc3.keep g4))
    | (go_at_call 18; (with_reducible refine S.mono ?_); rintro e w5 ⟨rfl, g5⟩
       have b5 := below_both b4 g5
       obtain ⟨c0, c1, c2, c3, c4, c5, c6, c7, c8, c9, c10, c11⟩ := cells12 (kc4.keep g5))
    | (go_at_call 20; (with_reducible refine (R _).mono ?_); rintro e w6 ⟨rfl, g6⟩))
  go_ret
  exact ⟨rfl, below_both b5 g6⟩


set_option maxRecDepth 100000 in
set_option maxHeartbeats 4000000 in
theorem Way1 (q : Int) (w : World) (hg : Laid w) (q0 : 0 ≤ q) (q1 : q < 256) (hq : q % 6 = 1) :
    Calls Tryd.prog 6 #[.int .u8 q] w fun e w' => e = .returned (.bool true) ∧ Below w.heap.size w w' := by
  have K := known27 w hg
  have D := Default_c
  have G1 := Good_c (x := 0) (y := 0) (su := 4096) (we := 16) (st := 65536) (ga := 2048) (le := 16) (mo := 268435456) (ba := 2000) (ne := 500) (de := 0) (pa := 5000) (by decide)
  have G2 := Bad_c (x := 0) (y := 0) (su := 4096) (we := 16) (st := 65536) (ga := 2048) (le := 16) (mo := 4096) (ba := 2000) (ne := 500) (de := 0) (pa := 5000) (by decide)
  have R := rCheck_calls 0 0 4096 16 65536 2048 16 268435456 2000 500 0 5000
  rw [show confC 0 0 4096 16 65536 2048 16 268435456 2000 500 0 5000 = 0 by decide] at R
  go_enter Tryd.func6, Tryd.ntmps6
  go_wp2_with (first
    | (go_at_call 16; refine K.mono ?_; rintro e w1 ⟨rfl, g1⟩)
    | (go_at_call 23; (with_reducible refine (D _).mono ?_); rintro e w2 ⟨rfl, g2⟩
       have b2 := below_both g1 g2
       have kc : Blk ((w2.alloc (.cells #[.int .i64 0, .int .i64 0, .int .i64 4096, .int .i64 16, .int .i64 65536, .int .i64 2048, .int .i64 16, .int .i64 268435456, .int .i64 2000, .int .i64 500, .int .i64 0, .int .u32 5000] 46)).alloc (.cells #[.int .i64 0, .int .i64 0, .int .i64 4096, .int .i64 16, .int .i64 65536, .int .i64 2048, .int .i64 16, .int .i64 4096, .int .i64 2000, .int .i64 500, .int .i64 0, .int .u32 5000] 46)) w2.heap.size #[.int .i64 0, .int .i64 0, .int .i64 4096, .int .i64 16, .int .i64 65536, .int .i64 2048, .int .i64 16, .int .i64 268435456, .int .i64 2000, .int .i64 500, .int .i64 0, .int .u32 5000] 46 := (Blk.new _ _ _).alloc _
       have kd : Blk ((w2.alloc (.cells #[.int .i64 0, .int .i64 0, .int .i64 4096, .int .i64 16, .int .i64 65536, .int .i64 2048, .int .i64 16, .int .i64 268435456, .int .i64 2000, .int .i64 500, .int .i64 0, .int .u32 5000] 46)).alloc (.cells #[.int .i64 0, .int .i64 0, .int .i64 4096, .int .i64 16, .int .i64 65536, .int .i64 2048, .int .i64 16, .int .i64 4096, .int .i64 2000, .int .i64 500, .int .i64 0, .int .u32 5000] 46)) (w2.heap.size + 1) #[.int .i64 0, .int .i64 0, .int .i64 4096, .int .i64 16, .int .i64 65536, .int .i64 2048, .int .i64 16, .int .i64 4096, .int .i64 2000, .int .i64 500, .int .i64 0, .int .u32 5000] 46 := by
         have := Blk.new (w2.alloc (.cells #[.int .i64 0, .int .i64 0, .int .i64 4096, .int .i64 16, .int .i64 65536, .int .i64 2048, .int .i64 16, .int .i64 268435456, .int .i64 2000, .int .i64 500, .int .i64 0, .int .u32 5000] 46)) #[.int .i64 0, .int .i64 0, .int .i64 4096, .int .i64 16, .int .i64 65536, .int .i64 2048, .int .i64 16, .int .i64 4096, .int .i64 2000, .int .i64 500, .int .i64 0, .int .u32 5000] 46
         simpa using this
       have b2' := (b2.alloc b2.size (.cells #[.int .i64 0, .int .i64 0, .int .i64 4096, .int .i64 16, .int .i64 65536, .int .i64 2048, .int .i64 16, .int .i64 268435456, .int .i64 2000, .int .i64 500, .int .i64 0, .int .u32 5000] 46)).alloc (Nat.le_trans b2.size (by simp)) (.cells #[.int .i64 0, .int .i64 0, .int .i64 4096, .int .i64 16, .int .i64 65536, .int .i64 2048, .int .i64 16, .int .i64 4096, .int .i64 2000, .int .i64 500, .int .i64 0, .int .u32 5000] 46))
    | (go_at_call 19; first
       | ((with_reducible refine (G1 _).mono ?_); rintro e w3 ⟨rfl, g3⟩
          have b3 := below_both b2' g3
          have kc3 := kc.keep g3
          have kd3 := kd.keep g3
          obtain ⟨d0, d1, d2, d3, d4, d5, d6, d7, d8, d9, d10, d11⟩ := cells12 kd3)
       | ((with_reducible refine (G2 _).mono ?_); rintro e w4 ⟨v4, rfl, hv4, g4⟩
          have b4 := below_both b3 g4
          have S := says_same 39 v4 w4 (hg.below b4) hv4.is
          have kc4 := kc3.keep g4))
    | (go_at_call 18; (with_reducible refine S.mono ?_); rintro e w5 ⟨rfl, g5⟩
       have b5 := below_both b4 g5
       obtain ⟨c0, c1, c2, c3, c4, c5, c6, c7, c8, c9, c10, c11⟩ := cells12 (kc4.keep g5))
    | (go_at_call 20; (with_reducible refine (R _).mono ?_); rintro e w6 ⟨rfl, g6⟩))
  go_ret
  exact ⟨rfl, below_both b5 g6⟩


set_option maxRecDepth 100000 in
set_option maxHeartbeats 4000000 in
theorem Way2 (q : Int) (w : World) (hg : Laid w) (q0 : 0 ≤ q) (q1 : q < 256) (hq : q % 6 = 2) :
    Calls Tryd.prog 6 #[.int .u8 q] w fun e w' => e = .returned (.bool true) ∧ Below w.heap.size w w' := by
  have K := known27 w hg
  have D := Default_c
  have G1 := Good_c (x := 0) (y := 0) (su := 4096) (we := 16) (st := 65536) (ga := 2048) (le := 16) (mo := 268435456) (ba := 2000) (ne := 500) (de := 0) (pa := 5000) (by decide)
  have G2 := Bad_c (x := 0) (y := 0) (su := 4096) (we := 0) (st := 65536) (ga := 2048) (le := 16) (mo := 268435456) (ba := 2000) (ne := 500) (de := 0) (pa := 5000) (by decide)
  have R := rCheck_calls 0 0 4096 16 65536 2048 16 268435456 2000 500 0 5000
  rw [show confC 0 0 4096 16 65536 2048 16 268435456 2000 500 0 5000 = 0 by decide] at R
  go_enter Tryd.func6, Tryd.ntmps6
  go_wp2_with (first
    | (go_at_call 16; refine K.mono ?_; rintro e w1 ⟨rfl, g1⟩)
    | (go_at_call 23; (with_reducible refine (D _).mono ?_); rintro e w2 ⟨rfl, g2⟩
       have b2 := below_both g1 g2
       have kc : Blk ((w2.alloc (.cells #[.int .i64 0, .int .i64 0, .int .i64 4096, .int .i64 16, .int .i64 65536, .int .i64 2048, .int .i64 16, .int .i64 268435456, .int .i64 2000, .int .i64 500, .int .i64 0, .int .u32 5000] 46)).alloc (.cells #[.int .i64 0, .int .i64 0, .int .i64 4096, .int .i64 0, .int .i64 65536, .int .i64 2048, .int .i64 16, .int .i64 268435456, .int .i64 2000, .int .i64 500, .int .i64 0, .int .u32 5000] 46)) w2.heap.size #[.int .i64 0, .int .i64 0, .int .i64 4096, .int .i64 16, .int .i64 65536, .int .i64 2048, .int .i64 16, .int .i64 268435456, .int .i64 2000, .int .i64 500, .int .i64 0, .int .u32 5000] 46 := (Blk.new _ _ _).alloc _
       have kd : Blk ((w2.alloc (.cells #[.int .i64 0, .int .i64 0, .int .i64 4096, .int .i64 16, .int .i64 65536, .int .i64 2048, .int .i64 16, .int .i64 268435456, .int .i64 2000, .int .i64 500, .int .i64 0, .int .u32 5000] 46)).alloc (.cells #[.int .i64 0, .int .i64 0, .int .i64 4096, .int .i64 0, .int .i64 65536, .int .i64 2048, .int .i64 16, .int .i64 268435456, .int .i64 2000, .int .i64 500, .int .i64 0, .int .u32 5000] 46)) (w2.heap.size + 1) #[.int .i64 0, .int .i64 0, .int .i64 4096, .int .i64 0, .int .i64 65536, .int .i64 2048, .int .i64 16, .int .i64 268435456, .int .i64 2000, .int .i64 500, .int .i64 0, .int .u32 5000] 46 := by
         have := Blk.new (w2.alloc (.cells #[.int .i64 0, .int .i64 0, .int .i64 4096, .int .i64 16, .int .i64 65536, .int .i64 2048, .int .i64 16, .int .i64 268435456, .int .i64 2000, .int .i64 500, .int .i64 0, .int .u32 5000] 46)) #[.int .i64 0, .int .i64 0, .int .i64 4096, .int .i64 0, .int .i64 65536, .int .i64 2048, .int .i64 16, .int .i64 268435456, .int .i64 2000, .int .i64 500, .int .i64 0, .int .u32 5000] 46
         simpa using this
       have b2' := (b2.alloc b2.size (.cells #[.int .i64 0, .int .i64 0, .int .i64 4096, .int .i64 16, .int .i64 65536, .int .i64 2048, .int .i64 16, .int .i64 268435456, .int .i64 2000, .int .i64 500, .int .i64 0, .int .u32 5000] 46)).alloc (Nat.le_trans b2.size (by simp)) (.cells #[.int .i64 0, .int .i64 0, .int .i64 4096, .int .i64 0, .int .i64 65536, .int .i64 2048, .int .i64 16, .int .i64 268435456, .int .i64 2000, .int .i64 500, .int .i64 0, .int .u32 5000] 46))
    | (go_at_call 19; first
       | ((with_reducible refine (G1 _).mono ?_); rintro e w3 ⟨rfl, g3⟩
          have b3 := below_both b2' g3
          have kc3 := kc.keep g3
          have kd3 := kd.keep g3
          obtain ⟨d0, d1, d2, d3, d4, d5, d6, d7, d8, d9, d10, d11⟩ := cells12 kd3)
       | ((with_reducible refine (G2 _).mono ?_); rintro e w4 ⟨v4, rfl, hv4, g4⟩
          have b4 := below_both b3 g4
          have S := says_same 39 v4 w4 (hg.below b4) hv4.is
          have kc4 := kc3.keep g4))
    | (go_at_call 18; (with_reducible refine S.mono ?_); rintro e w5 ⟨rfl, g5⟩
       have b5 := below_both b4 g5
       obtain ⟨c0, c1, c2, c3, c4, c5, c6, c7, c8, c9, c10, c11⟩ := cells12 (kc4.keep g5))
    | (go_at_call 20; (with_reducible refine (R _).mono ?_); rintro e w6 ⟨rfl, g6⟩))
  go_ret
  exact ⟨rfl, below_both b5 g6⟩


set_option maxRecDepth 100000 in
set_option maxHeartbeats 4000000 in
theorem Way3 (q : Int) (w : World) (hg : Laid w) (q0 : 0 ≤ q) (q1 : q < 256) (hq : q % 6 = 3) :
    Calls Tryd.prog 6 #[.int .u8 q] w fun e w' => e = .returned (.bool true) ∧ Below w.heap.size w w' := by
  have K := known27 w hg
  have D := Default_c
  have G1 := Good_c (x := 0) (y := 0) (su := 4096) (we := 16) (st := 65536) (ga := 2048) (le := 16) (mo := 268435456) (ba := 2000) (ne := 500) (de := 0) (pa := 5000) (by decide)
  have G2 := Bad_c (x := 0) (y := 0) (su := 4096) (we := 16) (st := 65536) (ga := 2048) (le := 16) (mo := 268435456) (ba := 999) (ne := 500) (de := 0) (pa := 5000) (by decide)
  have R := rCheck_calls 0 0 4096 16 65536 2048 16 268435456 2000 500 0 5000
  rw [show confC 0 0 4096 16 65536 2048 16 268435456 2000 500 0 5000 = 0 by decide] at R
  go_enter Tryd.func6, Tryd.ntmps6
  go_wp2_with (first
    | (go_at_call 16; refine K.mono ?_; rintro e w1 ⟨rfl, g1⟩)
    | (go_at_call 23; (with_reducible refine (D _).mono ?_); rintro e w2 ⟨rfl, g2⟩
       have b2 := below_both g1 g2
       have kc : Blk ((w2.alloc (.cells #[.int .i64 0, .int .i64 0, .int .i64 4096, .int .i64 16, .int .i64 65536, .int .i64 2048, .int .i64 16, .int .i64 268435456, .int .i64 2000, .int .i64 500, .int .i64 0, .int .u32 5000] 46)).alloc (.cells #[.int .i64 0, .int .i64 0, .int .i64 4096, .int .i64 16, .int .i64 65536, .int .i64 2048, .int .i64 16, .int .i64 268435456, .int .i64 999, .int .i64 500, .int .i64 0, .int .u32 5000] 46)) w2.heap.size #[.int .i64 0, .int .i64 0, .int .i64 4096, .int .i64 16, .int .i64 65536, .int .i64 2048, .int .i64 16, .int .i64 268435456, .int .i64 2000, .int .i64 500, .int .i64 0, .int .u32 5000] 46 := (Blk.new _ _ _).alloc _
       have kd : Blk ((w2.alloc (.cells #[.int .i64 0, .int .i64 0, .int .i64 4096, .int .i64 16, .int .i64 65536, .int .i64 2048, .int .i64 16, .int .i64 268435456, .int .i64 2000, .int .i64 500, .int .i64 0, .int .u32 5000] 46)).alloc (.cells #[.int .i64 0, .int .i64 0, .int .i64 4096, .int .i64 16, .int .i64 65536, .int .i64 2048, .int .i64 16, .int .i64 268435456, .int .i64 999, .int .i64 500, .int .i64 0, .int .u32 5000] 46)) (w2.heap.size + 1) #[.int .i64 0, .int .i64 0, .int .i64 4096, .int .i64 16, .int .i64 65536, .int .i64 2048, .int .i64 16, .int .i64 268435456, .int .i64 999, .int .i64 500, .int .i64 0, .int .u32 5000] 46 := by
         have := Blk.new (w2.alloc (.cells #[.int .i64 0, .int .i64 0, .int .i64 4096, .int .i64 16, .int .i64 65536, .int .i64 2048, .int .i64 16, .int .i64 268435456, .int .i64 2000, .int .i64 500, .int .i64 0, .int .u32 5000] 46)) #[.int .i64 0, .int .i64 0, .int .i64 4096, .int .i64 16, .int .i64 65536, .int .i64 2048, .int .i64 16, .int .i64 268435456, .int .i64 999, .int .i64 500, .int .i64 0, .int .u32 5000] 46
         simpa using this
       have b2' := (b2.alloc b2.size (.cells #[.int .i64 0, .int .i64 0, .int .i64 4096, .int .i64 16, .int .i64 65536, .int .i64 2048, .int .i64 16, .int .i64 268435456, .int .i64 2000, .int .i64 500, .int .i64 0, .int .u32 5000] 46)).alloc (Nat.le_trans b2.size (by simp)) (.cells #[.int .i64 0, .int .i64 0, .int .i64 4096, .int .i64 16, .int .i64 65536, .int .i64 2048, .int .i64 16, .int .i64 268435456, .int .i64 999, .int .i64 500, .int .i64 0, .int .u32 5000] 46))
    | (go_at_call 19; first
       | ((with_reducible refine (G1 _).mono ?_); rintro e w3 ⟨rfl, g3⟩
          have b3 := below_both b2' g3
          have kc3 := kc.keep g3
          have kd3 := kd.keep g3
          obtain ⟨d0, d1, d2, d3, d4, d5, d6, d7, d8, d9, d10, d11⟩ := cells12 kd3)
       | ((with_reducible refine (G2 _).mono ?_); rintro e w4 ⟨v4, rfl, hv4, g4⟩
          have b4 := below_both b3 g4
          have S := says_same 39 v4 w4 (hg.below b4) hv4.is
          have kc4 := kc3.keep g4))
    | (go_at_call 18; (with_reducible refine S.mono ?_); rintro e w5 ⟨rfl, g5⟩
       have b5 := below_both b4 g5
       obtain ⟨c0, c1, c2, c3, c4, c5, c6, c7, c8, c9, c10, c11⟩ := cells12 (kc4.keep g5))
    | (go_at_call 20; (with_reducible refine (R _).mono ?_); rintro e w6 ⟨rfl, g6⟩))
  go_ret
  exact ⟨rfl, below_both b5 g6⟩


set_option maxRecDepth 100000 in
set_option maxHeartbeats 4000000 in
theorem Way4 (q : Int) (w : World) (hg : Laid w) (q0 : 0 ≤ q) (q1 : q < 256) (hq : q % 6 = 4) :
    Calls Tryd.prog 6 #[.int .u8 q] w fun e w' => e = .returned (.bool true) ∧ Below w.heap.size w w' := by
  have K := known27 w hg
  have D := Default_c
  have G1 := Good_c (x := 0) (y := 0) (su := 4096) (we := 16) (st := 65536) (ga := 2048) (le := 16) (mo := 268435456) (ba := 2000) (ne := 500) (de := 0) (pa := 5000) (by decide)
  have G2 := Bad_c (x := 0) (y := 0) (su := 4096) (we := 16) (st := 65536) (ga := 2048) (le := 16) (mo := 268435456) (ba := 2000) (ne := 500) (de := 0) (pa := 0) (by decide)
  have R := rCheck_calls 0 0 4096 16 65536 2048 16 268435456 2000 500 0 5000
  rw [show confC 0 0 4096 16 65536 2048 16 268435456 2000 500 0 5000 = 0 by decide] at R
  go_enter Tryd.func6, Tryd.ntmps6
  go_wp2_with (first
    | (go_at_call 16; refine K.mono ?_; rintro e w1 ⟨rfl, g1⟩)
    | (go_at_call 23; (with_reducible refine (D _).mono ?_); rintro e w2 ⟨rfl, g2⟩
       have b2 := below_both g1 g2
       have kc : Blk ((w2.alloc (.cells #[.int .i64 0, .int .i64 0, .int .i64 4096, .int .i64 16, .int .i64 65536, .int .i64 2048, .int .i64 16, .int .i64 268435456, .int .i64 2000, .int .i64 500, .int .i64 0, .int .u32 5000] 46)).alloc (.cells #[.int .i64 0, .int .i64 0, .int .i64 4096, .int .i64 16, .int .i64 65536, .int .i64 2048, .int .i64 16, .int .i64 268435456, .int .i64 2000, .int .i64 500, .int .i64 0, .int .u32 0] 46)) w2.heap.size #[.int .i64 0, .int .i64 0, .int .i64 4096, .int .i64 16, .int .i64 65536, .int .i64 2048, .int .i64 16, .int .i64 268435456, .int .i64 2000, .int .i64 500, .int .i64 0, .int .u32 5000] 46 := (Blk.new _ _ _).alloc _
       have kd : Blk ((w2.alloc (.cells #[.int .i64 0, .int .i64 0, .int .i64 4096, .int .i64 16, .int .i64 65536, .int .i64 2048, .int .i64 16, .int .i64 268435456, .int .i64 2000, .int .i64 500, .int .i64 0, .int .u32 5000] 46)).alloc (.cells #[.int .i64 0, .int .i64 0, .int .i64 4096, .int .i64 16, .int .i64 65536, .int .i64 2048, .int .i64 16, .int .i64 268435456, .int .i64 2000, .int .i64 500, .int .i64 0, .int .u32 0] 46)) (w2.heap.size + 1) #[.int .i64 0, .int .i64 0, .int .i64 4096, .int .i64 16, .int .i64 65536, .int .i64 2048, .int .i64 16, .int .i64 268435456, .int .i64 2000, .int .i64 500, .int .i64 0, .int .u32 0] 46 := by
         have := Blk.new (w2.alloc (.cells #[.int .i64 0, .int .i64 0, .int .i64 4096, .int .i64 16, .int .i64 65536, .int .i64 2048, .int .i64 16, .int .i64 268435456, .int .i64 2000, .int .i64 500, .int .i64 0, .int .u32 5000] 46)) #[.int .i64 0, .int .i64 0, .int .i64 4096, .int .i64 16, .int .i64 65536, .int .i64 2048, .int .i64 16, .int .i64 268435456, .int .i64 2000, .int .i64 500, .int .i64 0, .int .u32 0] 46
         simpa using this
       have b2' := (b2.alloc b2.size (.cells #[.int .i64 0, .int .i64 0, .int .i64 4096, .int .i64 16, .int .i64 65536, .int .i64 2048, .int .i64 16, .int .i64 268435456, .int .i64 2000, .int .i64 500, .int .i64 0, .int .u32 5000] 46)).alloc (Nat.le_trans b2.size (by simp)) (.cells #[.int .i64 0, .int .i64 0, .int .i64 4096, .int .i64 16, .int .i64 65536, .int .i64 2048, .int .i64 16, .int .i64 268435456, .int .i64 2000, .int .i64 500, .int .i64 0, .int .u32 0] 46))
    | (go_at_call 19; first
       | ((with_reducible refine (G1 _).mono ?_); rintro e w3 ⟨rfl, g3⟩
          have b3 := below_both b2' g3
          have kc3 := kc.keep g3
          have kd3 := kd.keep g3
          obtain ⟨d0, d1, d2, d3, d4, d5, d6, d7, d8, d9, d10, d11⟩ := cells12 kd3)
       | ((with_reducible refine (G2 _).mono ?_); rintro e w4 ⟨v4, rfl, hv4, g4⟩
          have b4 := below_both b3 g4
          have S := says_same 39 v4 w4 (hg.below b4) hv4.is
          have kc4 := kc3.keep g4))
    | (go_at_call 18; (with_reducible refine S.mono ?_); rintro e w5 ⟨rfl, g5⟩
       have b5 := below_both b4 g5
       obtain ⟨c0, c1, c2, c3, c4, c5, c6, c7, c8, c9, c10, c11⟩ := cells12 (kc4.keep g5))
    | (go_at_call 20; (with_reducible refine (R _).mono ?_); rintro e w6 ⟨rfl, g6⟩))
  go_ret
  exact ⟨rfl, below_both b5 g6⟩


set_option maxRecDepth 100000 in
set_option maxHeartbeats 4000000 in
theorem Way5 (q : Int) (w : World) (hg : Laid w) (q0 : 0 ≤ q) (q1 : q < 256) (hq : q % 6 = 5) :
    Calls Tryd.prog 6 #[.int .u8 q] w fun e w' => e = .returned (.bool true) ∧ Below w.heap.size w w' := by
  have K := known27 w hg
  have D := Default_c
  have G1 := Good_c (x := 0) (y := 0) (su := 4096) (we := 16) (st := 65536) (ga := 2048) (le := 16) (mo := 268435456) (ba := 2000) (ne := 500) (de := 0) (pa := 5000) (by decide)
  have G2 := Bad_c (x := 0) (y := 0) (su := 4096) (we := 16) (st := 65536) (ga := 2048) (le := 16) (mo := 65536) (ba := 2000) (ne := 500) (de := 0) (pa := 5000) (by decide)
  have R := rCheck_calls 0 0 4096 16 65536 2048 16 268435456 2000 500 0 5000
  rw [show confC 0 0 4096 16 65536 2048 16 268435456 2000 500 0 5000 = 0 by decide] at R
  go_enter Tryd.func6, Tryd.ntmps6
  go_wp2_with (first
    | (go_at_call 16; refine K.mono ?_; rintro e w1 ⟨rfl, g1⟩)
    | (go_at_call 23; (with_reducible refine (D _).mono ?_); rintro e w2 ⟨rfl, g2⟩
       have b2 := below_both g1 g2
       have kc : Blk ((w2.alloc (.cells #[.int .i64 0, .int .i64 0, .int .i64 4096, .int .i64 16, .int .i64 65536, .int .i64 2048, .int .i64 16, .int .i64 268435456, .int .i64 2000, .int .i64 500, .int .i64 0, .int .u32 5000] 46)).alloc (.cells #[.int .i64 0, .int .i64 0, .int .i64 4096, .int .i64 16, .int .i64 65536, .int .i64 2048, .int .i64 16, .int .i64 65536, .int .i64 2000, .int .i64 500, .int .i64 0, .int .u32 5000] 46)) w2.heap.size #[.int .i64 0, .int .i64 0, .int .i64 4096, .int .i64 16, .int .i64 65536, .int .i64 2048, .int .i64 16, .int .i64 268435456, .int .i64 2000, .int .i64 500, .int .i64 0, .int .u32 5000] 46 := (Blk.new _ _ _).alloc _
       have kd : Blk ((w2.alloc (.cells #[.int .i64 0, .int .i64 0, .int .i64 4096, .int .i64 16, .int .i64 65536, .int .i64 2048, .int .i64 16, .int .i64 268435456, .int .i64 2000, .int .i64 500, .int .i64 0, .int .u32 5000] 46)).alloc (.cells #[.int .i64 0, .int .i64 0, .int .i64 4096, .int .i64 16, .int .i64 65536, .int .i64 2048, .int .i64 16, .int .i64 65536, .int .i64 2000, .int .i64 500, .int .i64 0, .int .u32 5000] 46)) (w2.heap.size + 1) #[.int .i64 0, .int .i64 0, .int .i64 4096, .int .i64 16, .int .i64 65536, .int .i64 2048, .int .i64 16, .int .i64 65536, .int .i64 2000, .int .i64 500, .int .i64 0, .int .u32 5000] 46 := by
         have := Blk.new (w2.alloc (.cells #[.int .i64 0, .int .i64 0, .int .i64 4096, .int .i64 16, .int .i64 65536, .int .i64 2048, .int .i64 16, .int .i64 268435456, .int .i64 2000, .int .i64 500, .int .i64 0, .int .u32 5000] 46)) #[.int .i64 0, .int .i64 0, .int .i64 4096, .int .i64 16, .int .i64 65536, .int .i64 2048, .int .i64 16, .int .i64 65536, .int .i64 2000, .int .i64 500, .int .i64 0, .int .u32 5000] 46
         simpa using this
       have b2' := (b2.alloc b2.size (.cells #[.int .i64 0, .int .i64 0, .int .i64 4096, .int .i64 16, .int .i64 65536, .int .i64 2048, .int .i64 16, .int .i64 268435456, .int .i64 2000, .int .i64 500, .int .i64 0, .int .u32 5000] 46)).alloc (Nat.le_trans b2.size (by simp)) (.cells #[.int .i64 0, .int .i64 0, .int .i64 4096, .int .i64 16, .int .i64 65536, .int .i64 2048, .int .i64 16, .int .i64 65536, .int .i64 2000, .int .i64 500, .int .i64 0, .int .u32 5000] 46))
    | (go_at_call 19; first
       | ((with_reducible refine (G1 _).mono ?_); rintro e w3 ⟨rfl, g3⟩
          have b3 := below_both b2' g3
          have kc3 := kc.keep g3
          have kd3 := kd.keep g3
          obtain ⟨d0, d1, d2, d3, d4, d5, d6, d7, d8, d9, d10, d11⟩ := cells12 kd3)
       | ((with_reducible refine (G2 _).mono ?_); rintro e w4 ⟨v4, rfl, hv4, g4⟩
          have b4 := below_both b3 g4
          have S := says_same 39 v4 w4 (hg.below b4) hv4.is
          have kc4 := kc3.keep g4))
    | (go_at_call 18; (with_reducible refine S.mono ?_); rintro e w5 ⟨rfl, g5⟩
       have b5 := below_both b4 g5
       obtain ⟨c0, c1, c2, c3, c4, c5, c6, c7, c8, c9, c10, c11⟩ := cells12 (kc4.keep g5))
    | (go_at_call 20; (with_reducible refine (R _).mono ?_); rintro e w6 ⟨rfl, g6⟩))
  go_ret
  exact ⟨rfl, below_both b5 g6⟩

theorem ConfigDefault_calls (q : Int) (w : World) (hg : Laid w) (w0 : (Lit.int .u8 q).wf = true) :
    Calls Tryd.prog 6 #[.int .u8 q] w fun e w' => e = .returned (.bool true) ∧ Below w.heap.size w w' := by
  have q0 : 0 ≤ q ∧ q < 256 := by simp [Lit.wf, IntKind.min, IntKind.max, IntKind.bits, IntKind.signed] at w0; omega
  rcases (by omega : q % 6 = 0 ∨ q % 6 = 1 ∨ q % 6 = 2 ∨ q % 6 = 3 ∨ q % 6 = 4 ∨ q % 6 = 5) with h | h | h | h | h | h
  · exact Way0 q w hg q0.1 q0.2 h
  · exact Way1 q w hg q0.1 q0.2 h
  · exact Way2 q w hg q0.1 q0.2 h
  · exact Way3 q w hg q0.1 q0.2 h
  · exact Way4 q w hg q0.1 q0.2 h
  · exact Way5 q w hg q0.1 q0.2 h
end Go.Proofs.YtbfflffekdadnaaDoor.YConf
