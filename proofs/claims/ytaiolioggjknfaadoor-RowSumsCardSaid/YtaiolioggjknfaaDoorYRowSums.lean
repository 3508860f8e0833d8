/- The statement RowSums of layer 16: the walk, at each size and place. Condition: errors.errorType holds its type's handle. Printed by a program of this session. -/
import Derived.Test.YtaiolioggjknfaaDoorYLineLaws
namespace Go.Proofs.YtaiolioggjknfaaDoor.YLine
open Go.RowKit Go.Extern.Stop Go.Stop Go.Extern Go.Proofs.YtaiolioggjknfaaDoor.QSn Go.Proofs.YtaiolioggjknfaaDoor.YBits Go.Proofs.YtaiolioggjknfaaDoor.YFx Go.Proofs.YtaiolioggjknfaaDoor.YErr Go.Proofs.YtaiolioggjknfaaDoorW.PrintWords Go.Proofs.YtaiolioggjknfaaDoorW.PrintLast
set_option linter.unusedVariables false
set_option linter.unusedSimpArgs false

set_option maxRecDepth 100000 in
set_option maxHeartbeats 8000000 in
theorem RowSums_4_2 (n m a b : Int) (w : World) (hg : Laid w) (n0 : 0 ≤ n) (n1 : n ≤ 255) (m0 : 0 ≤ m) (m1 : m ≤ 255) (a0 : -2147483648 ≤ a) (a1 : a ≤ 2147483647) (b0 : -2147483648 ≤ b) (b1 : b ≤ 2147483647) (hn : n % 5 = 0) (hm : m % 1 = 0) :
    Calls Tryd.prog 8 #[.int .u8 n, .int .u8 m, .int .i32 a, .int .i32 b] w fun e w' => e = .returned (.bool true) ∧ Below w.heap.size w w' := by
  have K := known_calls w hg
  have R := fun W => Row_4_2 a b (by omega) (by omega) (by omega) (by omega) W
  go_enter Tryd.func8, Tryd.ntmps8
  go_wp2_with (first
    | (go_at_call 20; refine K.mono ?_; rintro e w1 ⟨rfl, k1⟩)
    | (go_at_call 23; (with_reducible refine (R _).mono ?_); rintro e w2 ⟨g, rfl, g2, r0, r1, r2, r3, _⟩)
    | go_in)
  refine wp_loop_rounds 5 ?_
  rw [rounds_succ]
  go_wp2
  rw [rounds_succ]
  go_wp2
  rw [rounds_succ]
  go_wp2
  rw [rounds_succ]
  go_wp2
  rw [rounds_succ]
  go_wp2
  go_ret
  exact ⟨rfl, k1.trans (g2.mono k1.size)⟩
set_option maxRecDepth 100000 in
set_option maxHeartbeats 8000000 in
theorem RowSums_5_2 (n m a b : Int) (w : World) (hg : Laid w) (n0 : 0 ≤ n) (n1 : n ≤ 255) (m0 : 0 ≤ m) (m1 : m ≤ 255) (a0 : -2147483648 ≤ a) (a1 : a ≤ 2147483647) (b0 : -2147483648 ≤ b) (b1 : b ≤ 2147483647) (hn : n % 5 = 1) (hm : m % 2 = 0) :
    Calls Tryd.prog 8 #[.int .u8 n, .int .u8 m, .int .i32 a, .int .i32 b] w fun e w' => e = .returned (.bool true) ∧ Below w.heap.size w w' := by
  have K := known_calls w hg
  have R := fun W => Row_5_2 a b (by omega) (by omega) (by omega) (by omega) W
  go_enter Tryd.func8, Tryd.ntmps8
  go_wp2_with (first
    | (go_at_call 20; refine K.mono ?_; rintro e w1 ⟨rfl, k1⟩)
    | (go_at_call 23; (with_reducible refine (R _).mono ?_); rintro e w2 ⟨g, rfl, g2, r0, r1, r2, r3, r4, _⟩)
    | go_in)
  refine wp_loop_rounds 6 ?_
  rw [rounds_succ]
  go_wp2
  rw [rounds_succ]
  go_wp2
  rw [rounds_succ]
  go_wp2
  rw [rounds_succ]
  go_wp2
  rw [rounds_succ]
  go_wp2
  rw [rounds_succ]
  go_wp2
  go_ret
  exact ⟨rfl, k1.trans (g2.mono k1.size)⟩
set_option maxRecDepth 100000 in
set_option maxHeartbeats 8000000 in
theorem RowSums_5_3 (n m a b : Int) (w : World) (hg : Laid w) (n0 : 0 ≤ n) (n1 : n ≤ 255) (m0 : 0 ≤ m) (m1 : m ≤ 255) (a0 : -2147483648 ≤ a) (a1 : a ≤ 2147483647) (b0 : -2147483648 ≤ b) (b1 : b ≤ 2147483647) (hn : n % 5 = 1) (hm : m % 2 = 1) :
    Calls Tryd.prog 8 #[.int .u8 n, .int .u8 m, .int .i32 a, .int .i32 b] w fun e w' => e = .returned (.bool true) ∧ Below w.heap.size w w' := by
  have K := known_calls w hg
  have R := fun W => Row_5_3 a b (by omega) (by omega) (by omega) (by omega) W
  go_enter Tryd.func8, Tryd.ntmps8
  go_wp2_with (first
    | (go_at_call 20; refine K.mono ?_; rintro e w1 ⟨rfl, k1⟩)
    | (go_at_call 23; (with_reducible refine (R _).mono ?_); rintro e w2 ⟨g, rfl, g2, r0, r1, r2, r3, r4, _⟩)
    | go_in)
  refine wp_loop_rounds 6 ?_
  rw [rounds_succ]
  go_wp2
  rw [rounds_succ]
  go_wp2
  rw [rounds_succ]
  go_wp2
  rw [rounds_succ]
  go_wp2
  rw [rounds_succ]
  go_wp2
  rw [rounds_succ]
  go_wp2
  go_ret
  exact ⟨rfl, k1.trans (g2.mono k1.size)⟩
set_option maxRecDepth 100000 in
set_option maxHeartbeats 8000000 in
theorem RowSums_6_2 (n m a b : Int) (w : World) (hg : Laid w) (n0 : 0 ≤ n) (n1 : n ≤ 255) (m0 : 0 ≤ m) (m1 : m ≤ 255) (a0 : -2147483648 ≤ a) (a1 : a ≤ 2147483647) (b0 : -2147483648 ≤ b) (b1 : b ≤ 2147483647) (hn : n % 5 = 2) (hm : m % 3 = 0) :
    Calls Tryd.prog 8 #[.int .u8 n, .int .u8 m, .int .i32 a, .int .i32 b] w fun e w' => e = .returned (.bool true) ∧ Below w.heap.size w w' := by
  have K := known_calls w hg
  have R := fun W => Row_6_2 a b (by omega) (by omega) (by omega) (by omega) W
  go_enter Tryd.func8, Tryd.ntmps8
  go_wp2_with (first
    | (go_at_call 20; refine K.mono ?_; rintro e w1 ⟨rfl, k1⟩)
    | (go_at_call 23; (with_reducible refine (R _).mono ?_); rintro e w2 ⟨g, rfl, g2, r0, r1, r2, r3, r4, r5, _⟩)
    | go_in)
  refine wp_loop_rounds 7 ?_
  rw [rounds_succ]
  go_wp2
  rw [rounds_succ]
  go_wp2
  rw [rounds_succ]
  go_wp2
  rw [rounds_succ]
  go_wp2
  rw [rounds_succ]
  go_wp2
  rw [rounds_succ]
  go_wp2
  rw [rounds_succ]
  go_wp2
  go_ret
  exact ⟨rfl, k1.trans (g2.mono k1.size)⟩
set_option maxRecDepth 100000 in
set_option maxHeartbeats 8000000 in
theorem RowSums_6_3 (n m a b : Int) (w : World) (hg : Laid w) (n0 : 0 ≤ n) (n1 : n ≤ 255) (m0 : 0 ≤ m) (m1 : m ≤ 255) (a0 : -2147483648 ≤ a) (a1 : a ≤ 2147483647) (b0 : -2147483648 ≤ b) (b1 : b ≤ 2147483647) (hn : n % 5 = 2) (hm : m % 3 = 1) :
    Calls Tryd.prog 8 #[.int .u8 n, .int .u8 m, .int .i32 a, .int .i32 b] w fun e w' => e = .returned (.bool true) ∧ Below w.heap.size w w' := by
  have K := known_calls w hg
  have R := fun W => Row_6_3 a b (by omega) (by omega) (by omega) (by omega) W
  go_enter Tryd.func8, Tryd.ntmps8
  go_wp2_with (first
    | (go_at_call 20; refine K.mono ?_; rintro e w1 ⟨rfl, k1⟩)
    | (go_at_call 23; (with_reducible refine (R _).mono ?_); rintro e w2 ⟨g, rfl, g2, r0, r1, r2, r3, r4, r5, _⟩)
    | go_in)
  refine wp_loop_rounds 7 ?_
  rw [rounds_succ]
  go_wp2
  rw [rounds_succ]
  go_wp2
  rw [rounds_succ]
  go_wp2
  rw [rounds_succ]
  go_wp2
  rw [rounds_succ]
  go_wp2
  rw [rounds_succ]
  go_wp2
  rw [rounds_succ]
  go_wp2
  go_ret
  exact ⟨rfl, k1.trans (g2.mono k1.size)⟩
set_option maxRecDepth 100000 in
set_option maxHeartbeats 8000000 in
theorem RowSums_6_4 (n m a b : Int) (w : World) (hg : Laid w) (n0 : 0 ≤ n) (n1 : n ≤ 255) (m0 : 0 ≤ m) (m1 : m ≤ 255) (a0 : -2147483648 ≤ a) (a1 : a ≤ 2147483647) (b0 : -2147483648 ≤ b) (b1 : b ≤ 2147483647) (hn : n % 5 = 2) (hm : m % 3 = 2) :
    Calls Tryd.prog 8 #[.int .u8 n, .int .u8 m, .int .i32 a, .int .i32 b] w fun e w' => e = .returned (.bool true) ∧ Below w.heap.size w w' := by
  have K := known_calls w hg
  have R := fun W => Row_6_4 a b (by omega) (by omega) (by omega) (by omega) W
  go_enter Tryd.func8, Tryd.ntmps8
  go_wp2_with (first
    | (go_at_call 20; refine K.mono ?_; rintro e w1 ⟨rfl, k1⟩)
    | (go_at_call 23; (with_reducible refine (R _).mono ?_); rintro e w2 ⟨g, rfl, g2, r0, r1, r2, r3, r4, r5, _⟩)
    | go_in)
  refine wp_loop_rounds 7 ?_
  rw [rounds_succ]
  go_wp2
  rw [rounds_succ]
  go_wp2
  rw [rounds_succ]
  go_wp2
  rw [rounds_succ]
  go_wp2
  rw [rounds_succ]
  go_wp2
  rw [rounds_succ]
  go_wp2
  rw [rounds_succ]
  go_wp2
  go_ret
  exact ⟨rfl, k1.trans (g2.mono k1.size)⟩
set_option maxRecDepth 100000 in
set_option maxHeartbeats 8000000 in
theorem RowSums_7_2 (n m a b : Int) (w : World) (hg : Laid w) (n0 : 0 ≤ n) (n1 : n ≤ 255) (m0 : 0 ≤ m) (m1 : m ≤ 255) (a0 : -2147483648 ≤ a) (a1 : a ≤ 2147483647) (b0 : -2147483648 ≤ b) (b1 : b ≤ 2147483647) (hn : n % 5 = 3) (hm : m % 4 = 0) :
    Calls Tryd.prog 8 #[.int .u8 n, .int .u8 m, .int .i32 a, .int .i32 b] w fun e w' => e = .returned (.bool true) ∧ Below w.heap.size w w' := by
  have K := known_calls w hg
  have R := fun W => Row_7_2 a b (by omega) (by omega) (by omega) (by omega) W
  go_enter Tryd.func8, Tryd.ntmps8
  go_wp2_with (first
    | (go_at_call 20; refine K.mono ?_; rintro e w1 ⟨rfl, k1⟩)
    | (go_at_call 23; (with_reducible refine (R _).mono ?_); rintro e w2 ⟨g, rfl, g2, r0, r1, r2, r3, r4, r5, r6, _⟩)
    | go_in)
  refine wp_loop_rounds 8 ?_
  rw [rounds_succ]
  go_wp2
  rw [rounds_succ]
  go_wp2
  rw [rounds_succ]
  go_wp2
  rw [rounds_succ]
  go_wp2
  rw [rounds_succ]
  go_wp2
  rw [rounds_succ]
  go_wp2
  rw [rounds_succ]
  go_wp2
  rw [rounds_succ]
  go_wp2
  go_ret
  exact ⟨rfl, k1.trans (g2.mono k1.size)⟩
set_option maxRecDepth 100000 in
set_option maxHeartbeats 8000000 in
theorem RowSums_7_3 (n m a b : Int) (w : World) (hg : Laid w) (n0 : 0 ≤ n) (n1 : n ≤ 255) (m0 : 0 ≤ m) (m1 : m ≤ 255) (a0 : -2147483648 ≤ a) (a1 : a ≤ 2147483647) (b0 : -2147483648 ≤ b) (b1 : b ≤ 2147483647) (hn : n % 5 = 3) (hm : m % 4 = 1) :
    Calls Tryd.prog 8 #[.int .u8 n, .int .u8 m, .int .i32 a, .int .i32 b] w fun e w' => e = .returned (.bool true) ∧ Below w.heap.size w w' := by
  have K := known_calls w hg
  have R := fun W => Row_7_3 a b (by omega) (by omega) (by omega) (by omega) W
  go_enter Tryd.func8, Tryd.ntmps8
  go_wp2_with (first
    | (go_at_call 20; refine K.mono ?_; rintro e w1 ⟨rfl, k1⟩)
    | (go_at_call 23; (with_reducible refine (R _).mono ?_); rintro e w2 ⟨g, rfl, g2, r0, r1, r2, r3, r4, r5, r6, _⟩)
    | go_in)
  refine wp_loop_rounds 8 ?_
  rw [rounds_succ]
  go_wp2
  rw [rounds_succ]
  go_wp2
  rw [rounds_succ]
  go_wp2
  rw [rounds_succ]
  go_wp2
  rw [rounds_succ]
  go_wp2
  rw [rounds_succ]
  go_wp2
  rw [rounds_succ]
  go_wp2
  rw [rounds_succ]
  go_wp2
  go_ret
  exact ⟨rfl, k1.trans (g2.mono k1.size)⟩
set_option maxRecDepth 100000 in
set_option maxHeartbeats 8000000 in
theorem RowSums_7_4 (n m a b : Int) (w : World) (hg : Laid w) (n0 : 0 ≤ n) (n1 : n ≤ 255) (m0 : 0 ≤ m) (m1 : m ≤ 255) (a0 : -2147483648 ≤ a) (a1 : a ≤ 2147483647) (b0 : -2147483648 ≤ b) (b1 : b ≤ 2147483647) (hn : n % 5 = 3) (hm : m % 4 = 2) :
    Calls Tryd.prog 8 #[.int .u8 n, .int .u8 m, .int .i32 a, .int .i32 b] w fun e w' => e = .returned (.bool true) ∧ Below w.heap.size w w' := by
  have K := known_calls w hg
  have R := fun W => Row_7_4 a b (by omega) (by omega) (by omega) (by omega) W
  go_enter Tryd.func8, Tryd.ntmps8
  go_wp2_with (first
    | (go_at_call 20; refine K.mono ?_; rintro e w1 ⟨rfl, k1⟩)
    | (go_at_call 23; (with_reducible refine (R _).mono ?_); rintro e w2 ⟨g, rfl, g2, r0, r1, r2, r3, r4, r5, r6, _⟩)
    | go_in)
  refine wp_loop_rounds 8 ?_
  rw [rounds_succ]
  go_wp2
  rw [rounds_succ]
  go_wp2
  rw [rounds_succ]
  go_wp2
  rw [rounds_succ]
  go_wp2
  rw [rounds_succ]
  go_wp2
  rw [rounds_succ]
  go_wp2
  rw [rounds_succ]
  go_wp2
  rw [rounds_succ]
  go_wp2
  go_ret
  exact ⟨rfl, k1.trans (g2.mono k1.size)⟩
set_option maxRecDepth 100000 in
set_option maxHeartbeats 8000000 in
theorem RowSums_7_5 (n m a b : Int) (w : World) (hg : Laid w) (n0 : 0 ≤ n) (n1 : n ≤ 255) (m0 : 0 ≤ m) (m1 : m ≤ 255) (a0 : -2147483648 ≤ a) (a1 : a ≤ 2147483647) (b0 : -2147483648 ≤ b) (b1 : b ≤ 2147483647) (hn : n % 5 = 3) (hm : m % 4 = 3) :
    Calls Tryd.prog 8 #[.int .u8 n, .int .u8 m, .int .i32 a, .int .i32 b] w fun e w' => e = .returned (.bool true) ∧ Below w.heap.size w w' := by
  have K := known_calls w hg
  have R := fun W => Row_7_5 a b (by omega) (by omega) (by omega) (by omega) W
  go_enter Tryd.func8, Tryd.ntmps8
  go_wp2_with (first
    | (go_at_call 20; refine K.mono ?_; rintro e w1 ⟨rfl, k1⟩)
    | (go_at_call 23; (with_reducible refine (R _).mono ?_); rintro e w2 ⟨g, rfl, g2, r0, r1, r2, r3, r4, r5, r6, _⟩)
    | go_in)
  refine wp_loop_rounds 8 ?_
  rw [rounds_succ]
  go_wp2
  rw [rounds_succ]
  go_wp2
  rw [rounds_succ]
  go_wp2
  rw [rounds_succ]
  go_wp2
  rw [rounds_succ]
  go_wp2
  rw [rounds_succ]
  go_wp2
  rw [rounds_succ]
  go_wp2
  rw [rounds_succ]
  go_wp2
  go_ret
  exact ⟨rfl, k1.trans (g2.mono k1.size)⟩
set_option maxRecDepth 100000 in
set_option maxHeartbeats 8000000 in
theorem RowSums_8_2 (n m a b : Int) (w : World) (hg : Laid w) (n0 : 0 ≤ n) (n1 : n ≤ 255) (m0 : 0 ≤ m) (m1 : m ≤ 255) (a0 : -2147483648 ≤ a) (a1 : a ≤ 2147483647) (b0 : -2147483648 ≤ b) (b1 : b ≤ 2147483647) (hn : n % 5 = 4) (hm : m % 5 = 0) :
    Calls Tryd.prog 8 #[.int .u8 n, .int .u8 m, .int .i32 a, .int .i32 b] w fun e w' => e = .returned (.bool true) ∧ Below w.heap.size w w' := by
  have K := known_calls w hg
  have R := fun W => Row_8_2 a b (by omega) (by omega) (by omega) (by omega) W
  go_enter Tryd.func8, Tryd.ntmps8
  go_wp2_with (first
    | (go_at_call 20; refine K.mono ?_; rintro e w1 ⟨rfl, k1⟩)
    | (go_at_call 23; (with_reducible refine (R _).mono ?_); rintro e w2 ⟨g, rfl, g2, r0, r1, r2, r3, r4, r5, r6, r7, _⟩)
    | go_in)
  refine wp_loop_rounds 9 ?_
  rw [rounds_succ]
  go_wp2
  rw [rounds_succ]
  go_wp2
  rw [rounds_succ]
  go_wp2
  rw [rounds_succ]
  go_wp2
  rw [rounds_succ]
  go_wp2
  rw [rounds_succ]
  go_wp2
  rw [rounds_succ]
  go_wp2
  rw [rounds_succ]
  go_wp2
  rw [rounds_succ]
  go_wp2
  go_ret
  exact ⟨rfl, k1.trans (g2.mono k1.size)⟩
set_option maxRecDepth 100000 in
set_option maxHeartbeats 8000000 in
theorem RowSums_8_3 (n m a b : Int) (w : World) (hg : Laid w) (n0 : 0 ≤ n) (n1 : n ≤ 255) (m0 : 0 ≤ m) (m1 : m ≤ 255) (a0 : -2147483648 ≤ a) (a1 : a ≤ 2147483647) (b0 : -2147483648 ≤ b) (b1 : b ≤ 2147483647) (hn : n % 5 = 4) (hm : m % 5 = 1) :
    Calls Tryd.prog 8 #[.int .u8 n, .int .u8 m, .int .i32 a, .int .i32 b] w fun e w' => e = .returned (.bool true) ∧ Below w.heap.size w w' := by
  have K := known_calls w hg
  have R := fun W => Row_8_3 a b (by omega) (by omega) (by omega) (by omega) W
  go_enter Tryd.func8, Tryd.ntmps8
  go_wp2_with (first
    | (go_at_call 20; refine K.mono ?_; rintro e w1 ⟨rfl, k1⟩)
    | (go_at_call 23; (with_reducible refine (R _).mono ?_); rintro e w2 ⟨g, rfl, g2, r0, r1, r2, r3, r4, r5, r6, r7, _⟩)
    | go_in)
  refine wp_loop_rounds 9 ?_
  rw [rounds_succ]
  go_wp2
  rw [rounds_succ]
  go_wp2
  rw [rounds_succ]
  go_wp2
  rw [rounds_succ]
  go_wp2
  rw [rounds_succ]
  go_wp2
  rw [rounds_succ]
  go_wp2
  rw [rounds_succ]
  go_wp2
  rw [rounds_succ]
  go_wp2
  rw [rounds_succ]
  go_wp2
  go_ret
  exact ⟨rfl, k1.trans (g2.mono k1.size)⟩
set_option maxRecDepth 100000 in
set_option maxHeartbeats 8000000 in
theorem RowSums_8_4 (n m a b : Int) (w : World) (hg : Laid w) (n0 : 0 ≤ n) (n1 : n ≤ 255) (m0 : 0 ≤ m) (m1 : m ≤ 255) (a0 : -2147483648 ≤ a) (a1 : a ≤ 2147483647) (b0 : -2147483648 ≤ b) (b1 : b ≤ 2147483647) (hn : n % 5 = 4) (hm : m % 5 = 2) :
    Calls Tryd.prog 8 #[.int .u8 n, .int .u8 m, .int .i32 a, .int .i32 b] w fun e w' => e = .returned (.bool true) ∧ Below w.heap.size w w' := by
  have K := known_calls w hg
  have R := fun W => Row_8_4 a b (by omega) (by omega) (by omega) (by omega) W
  go_enter Tryd.func8, Tryd.ntmps8
  go_wp2_with (first
    | (go_at_call 20; refine K.mono ?_; rintro e w1 ⟨rfl, k1⟩)
    | (go_at_call 23; (with_reducible refine (R _).mono ?_); rintro e w2 ⟨g, rfl, g2, r0, r1, r2, r3, r4, r5, r6, r7, _⟩)
    | go_in)
  refine wp_loop_rounds 9 ?_
  rw [rounds_succ]
  go_wp2
  rw [rounds_succ]
  go_wp2
  rw [rounds_succ]
  go_wp2
  rw [rounds_succ]
  go_wp2
  rw [rounds_succ]
  go_wp2
  rw [rounds_succ]
  go_wp2
  rw [rounds_succ]
  go_wp2
  rw [rounds_succ]
  go_wp2
  rw [rounds_succ]
  go_wp2
  go_ret
  exact ⟨rfl, k1.trans (g2.mono k1.size)⟩
set_option maxRecDepth 100000 in
set_option maxHeartbeats 8000000 in
theorem RowSums_8_5 (n m a b : Int) (w : World) (hg : Laid w) (n0 : 0 ≤ n) (n1 : n ≤ 255) (m0 : 0 ≤ m) (m1 : m ≤ 255) (a0 : -2147483648 ≤ a) (a1 : a ≤ 2147483647) (b0 : -2147483648 ≤ b) (b1 : b ≤ 2147483647) (hn : n % 5 = 4) (hm : m % 5 = 3) :
    Calls Tryd.prog 8 #[.int .u8 n, .int .u8 m, .int .i32 a, .int .i32 b] w fun e w' => e = .returned (.bool true) ∧ Below w.heap.size w w' := by
  have K := known_calls w hg
  have R := fun W => Row_8_5 a b (by omega) (by omega) (by omega) (by omega) W
  go_enter Tryd.func8, Tryd.ntmps8
  go_wp2_with (first
    | (go_at_call 20; refine K.mono ?_; rintro e w1 ⟨rfl, k1⟩)
    | (go_at_call 23; (with_reducible refine (R _).mono ?_); rintro e w2 ⟨g, rfl, g2, r0, r1, r2, r3, r4, r5, r6, r7, _⟩)
    | go_in)
  refine wp_loop_rounds 9 ?_
  rw [rounds_succ]
  go_wp2
  rw [rounds_succ]
  go_wp2
  rw [rounds_succ]
  go_wp2
  rw [rounds_succ]
  go_wp2
  rw [rounds_succ]
  go_wp2
  rw [rounds_succ]
  go_wp2
  rw [rounds_succ]
  go_wp2
  rw [rounds_succ]
  go_wp2
  rw [rounds_succ]
  go_wp2
  go_ret
  exact ⟨rfl, k1.trans (g2.mono k1.size)⟩
set_option maxRecDepth 100000 in
set_option maxHeartbeats 8000000 in
theorem RowSums_8_6 (n m a b : Int) (w : World) (hg : Laid w) (n0 : 0 ≤ n) (n1 : n ≤ 255) (m0 : 0 ≤ m) (m1 : m ≤ 255) (a0 : -2147483648 ≤ a) (a1 : a ≤ 2147483647) (b0 : -2147483648 ≤ b) (b1 : b ≤ 2147483647) (hn : n % 5 = 4) (hm : m % 5 = 4) :
    Calls Tryd.prog 8 #[.int .u8 n, .int .u8 m, .int .i32 a, .int .i32 b] w fun e w' => e = .returned (.bool true) ∧ Below w.heap.size w w' := by
  have K := known_calls w hg
  have R := fun W => Row_8_6 a b (by omega) (by omega) (by omega) (by omega) W
  go_enter Tryd.func8, Tryd.ntmps8
  go_wp2_with (first
    | (go_at_call 20; refine K.mono ?_; rintro e w1 ⟨rfl, k1⟩)
    | (go_at_call 23; (with_reducible refine (R _).mono ?_); rintro e w2 ⟨g, rfl, g2, r0, r1, r2, r3, r4, r5, r6, r7, _⟩)
    | go_in)
  refine wp_loop_rounds 9 ?_
  rw [rounds_succ]
  go_wp2
  rw [rounds_succ]
  go_wp2
  rw [rounds_succ]
  go_wp2
  rw [rounds_succ]
  go_wp2
  rw [rounds_succ]
  go_wp2
  rw [rounds_succ]
  go_wp2
  rw [rounds_succ]
  go_wp2
  rw [rounds_succ]
  go_wp2
  rw [rounds_succ]
  go_wp2
  go_ret
  exact ⟨rfl, k1.trans (g2.mono k1.size)⟩
theorem i32_ {v : Int} (h : (Lit.int .i32 v).wf = true) : -2147483648 ≤ v ∧ v ≤ 2147483647 := by simp [Lit.wf, IntKind.min, IntKind.max, IntKind.bits, IntKind.signed] at h; omega
theorem RowSums_calls (n m a b : Int) (w : World) (hg : Laid w) (w0 : (Lit.int .u8 n).wf = true) (w1 : (Lit.int .u8 m).wf = true) (w2 : (Lit.int .i32 a).wf = true) (w3 : (Lit.int .i32 b).wf = true) :
    Calls Tryd.prog 8 #[.int .u8 n, .int .u8 m, .int .i32 a, .int .i32 b] w fun e w' => e = .returned (.bool true) ∧ Below w.heap.size w w' := by
  obtain ⟨n0, n1⟩ := wf_u8 w0
  obtain ⟨m0, m1⟩ := wf_u8 w1
  obtain ⟨a0, a1⟩ := i32_ w2
  obtain ⟨b0, b1⟩ := i32_ w3
  have hc : n % 5 = 0 ∨ n % 5 = 1 ∨ n % 5 = 2 ∨ n % 5 = 3 ∨ n % 5 = 4 := by omega
  rcases hc with hn | hn | hn | hn | hn
  · exact RowSums_4_2 n m a b w hg n0 n1 m0 m1 a0 a1 b0 b1 hn (by omega)
  · have hd : m % 2 = 0 ∨ m % 2 = 1 := by omega
    rcases hd with hm | hm
    · exact RowSums_5_2 n m a b w hg n0 n1 m0 m1 a0 a1 b0 b1 hn hm
    · exact RowSums_5_3 n m a b w hg n0 n1 m0 m1 a0 a1 b0 b1 hn hm
  · have hd : m % 3 = 0 ∨ m % 3 = 1 ∨ m % 3 = 2 := by omega
    rcases hd with hm | hm | hm
    · exact RowSums_6_2 n m a b w hg n0 n1 m0 m1 a0 a1 b0 b1 hn hm
    · exact RowSums_6_3 n m a b w hg n0 n1 m0 m1 a0 a1 b0 b1 hn hm
    · exact RowSums_6_4 n m a b w hg n0 n1 m0 m1 a0 a1 b0 b1 hn hm
  · have hd : m % 4 = 0 ∨ m % 4 = 1 ∨ m % 4 = 2 ∨ m % 4 = 3 := by omega
    rcases hd with hm | hm | hm | hm
    · exact RowSums_7_2 n m a b w hg n0 n1 m0 m1 a0 a1 b0 b1 hn hm
    · exact RowSums_7_3 n m a b w hg n0 n1 m0 m1 a0 a1 b0 b1 hn hm
    · exact RowSums_7_4 n m a b w hg n0 n1 m0 m1 a0 a1 b0 b1 hn hm
    · exact RowSums_7_5 n m a b w hg n0 n1 m0 m1 a0 a1 b0 b1 hn hm
  · have hd : m % 5 = 0 ∨ m % 5 = 1 ∨ m % 5 = 2 ∨ m % 5 = 3 ∨ m % 5 = 4 := by omega
    rcases hd with hm | hm | hm | hm | hm
    · exact RowSums_8_2 n m a b w hg n0 n1 m0 m1 a0 a1 b0 b1 hn hm
    · exact RowSums_8_3 n m a b w hg n0 n1 m0 m1 a0 a1 b0 b1 hn hm
    · exact RowSums_8_4 n m a b w hg n0 n1 m0 m1 a0 a1 b0 b1 hn hm
    · exact RowSums_8_5 n m a b w hg n0 n1 m0 m1 a0 a1 b0 b1 hn hm
    · exact RowSums_8_6 n m a b w hg n0 n1 m0 m1 a0 a1 b0 b1 hn hm
end Go.Proofs.YtaiolioggjknfaaDoor.YLine
