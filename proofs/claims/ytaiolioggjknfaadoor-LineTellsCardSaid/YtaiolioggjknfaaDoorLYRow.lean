/- Lean functions, contracts and lemmas that this claim needs. No condition. -/
import Derived.Test.YtaiolioggjknfaaDoorLYLine
namespace Go.Proofs.YtaiolioggjknfaaDoor.YLine
open Go.RowKit Go.Extern.Stop Go.Stop Go.Extern Go.Proofs.YtaiolioggjknfaaDoor.QSn Go.Proofs.YtaiolioggjknfaaDoor.YBits Go.Proofs.YtaiolioggjknfaaDoor.YFx Go.Proofs.YtaiolioggjknfaaDoor.YErr Go.Proofs.YtaiolioggjknfaaDoorW.PrintWords Go.Proofs.YtaiolioggjknfaaDoorW.PrintLast
set_option linter.unusedVariables false
set_option linter.unusedSimpArgs false
theorem part0 (x y : Value) (W : World) : (Instr.index 39 (.agg #[x, y]) (.int .i64 0)).run Tryd.prog W = .ok x W := by kernel_rfl
theorem part1 (x y : Value) (W : World) : (Instr.index 39 (.agg #[x, y]) (.int .i64 1)).run Tryd.prog W = .ok y W := by kernel_rfl
/-- The numbers of a row lie there. -/
def RowAt (w : World) (g : Nat) : Nat → List Int → Prop
  | _, [] => True
  | j, x :: l => w.cell? ⟨g, j, none⟩ = some (.int .i64 x) ∧ RowAt w g (j + 1) l
theorem make4 (W : World) : (Instr.makeSlice 46 (.int .i64 4) (.int .i64 4)).run Tryd.prog W = .ok (.slice (some ⟨W.heap.size, 0, none⟩) 4 4) (W.alloc (.cells #[.int .i64 0, .int .i64 0, .int .i64 0, .int .i64 0] 2)) := by kernel_rfl
set_option maxRecDepth 100000 in
set_option maxHeartbeats 4000000 in
theorem Row_4_2 (a b : Int) (a0 : -9223372036854775807 ≤ a) (a1 : a ≤ 9223372036854775807) (b0 : -9223372036854775807 ≤ b) (b1 : b ≤ 9223372036854775807) (w : World) :
    Calls Tryd.prog 23 #[.int .i64 4, .int .i64 2, .agg #[.int .i64 a, .int .i64 b]] w fun e w' =>
      ∃ g, e = .returned (.tuple #[.slice (some ⟨g, 0, none⟩) 4 4, .nilIface]) ∧ Below w.heap.size w w' ∧ RowAt w' g 0 [a, b, -a, -b] := by
  have e1 : IntKind.i64.wrap (-a) = -a := i64id (by omega) (by omega)
  have e2 : IntKind.i64.wrap (-b) = -b := i64id (by omega) (by omega)
  have mk := make4
  have q0 := part0
  have q1 := part1
  have n0 : (a == -9223372036854775808) = false := by simp; omega
  have n1 : (b == -9223372036854775808) = false := by simp; omega
  go_enter Tryd.func23, Tryd.ntmps23
  go_wp2
  refine wp_loop_rounds 3 ?_
  rw [rounds_succ]
  go_wp2
  rw [rounds_succ]
  go_wp2
  rw [rounds_succ]
  go_wp2
  go_ret2
  refine ⟨w.heap.size + 1, rfl, ?_, ?_⟩
  · repeat (first | exact Below.refl _ _ | refine Below.setCell ?_ (by simp) _ | refine Below.alloc ?_ (by simp) _)
  · refine ⟨?_, ?_, ?_, ?_, trivial⟩ <;> go_simp
theorem make5 (W : World) : (Instr.makeSlice 46 (.int .i64 5) (.int .i64 5)).run Tryd.prog W = .ok (.slice (some ⟨W.heap.size, 0, none⟩) 5 5) (W.alloc (.cells #[.int .i64 0, .int .i64 0, .int .i64 0, .int .i64 0, .int .i64 0] 2)) := by kernel_rfl
set_option maxRecDepth 100000 in
set_option maxHeartbeats 4000000 in
theorem Row_5_2 (a b : Int) (a0 : -9223372036854775807 ≤ a) (a1 : a ≤ 9223372036854775807) (b0 : -9223372036854775807 ≤ b) (b1 : b ≤ 9223372036854775807) (w : World) :
    Calls Tryd.prog 23 #[.int .i64 5, .int .i64 2, .agg #[.int .i64 a, .int .i64 b]] w fun e w' =>
      ∃ g, e = .returned (.tuple #[.slice (some ⟨g, 0, none⟩) 5 5, .nilIface]) ∧ Below w.heap.size w w' ∧ RowAt w' g 0 [a, b, -a, -b, 0] := by
  have e1 : IntKind.i64.wrap (-a) = -a := i64id (by omega) (by omega)
  have e2 : IntKind.i64.wrap (-b) = -b := i64id (by omega) (by omega)
  have mk := make5
  have q0 := part0
  have q1 := part1
  have n0 : (a == -9223372036854775808) = false := by simp; omega
  have n1 : (b == -9223372036854775808) = false := by simp; omega
  go_enter Tryd.func23, Tryd.ntmps23
  go_wp2
  refine wp_loop_rounds 3 ?_
  rw [rounds_succ]
  go_wp2
  rw [rounds_succ]
  go_wp2
  rw [rounds_succ]
  go_wp2
  go_ret2
  refine ⟨w.heap.size + 1, rfl, ?_, ?_⟩
  · repeat (first | exact Below.refl _ _ | refine Below.setCell ?_ (by simp) _ | refine Below.alloc ?_ (by simp) _)
  · refine ⟨?_, ?_, ?_, ?_, ?_, trivial⟩ <;> go_simp
set_option maxRecDepth 100000 in
set_option maxHeartbeats 4000000 in
theorem Row_5_3 (a b : Int) (a0 : -9223372036854775807 ≤ a) (a1 : a ≤ 9223372036854775807) (b0 : -9223372036854775807 ≤ b) (b1 : b ≤ 9223372036854775807) (w : World) :
    Calls Tryd.prog 23 #[.int .i64 5, .int .i64 3, .agg #[.int .i64 a, .int .i64 b]] w fun e w' =>
      ∃ g, e = .returned (.tuple #[.slice (some ⟨g, 0, none⟩) 5 5, .nilIface]) ∧ Below w.heap.size w w' ∧ RowAt w' g 0 [a, b, 0, -a, -b] := by
  have e1 : IntKind.i64.wrap (-a) = -a := i64id (by omega) (by omega)
  have e2 : IntKind.i64.wrap (-b) = -b := i64id (by omega) (by omega)
  have mk := make5
  have q0 := part0
  have q1 := part1
  have n0 : (a == -9223372036854775808) = false := by simp; omega
  have n1 : (b == -9223372036854775808) = false := by simp; omega
  go_enter Tryd.func23, Tryd.ntmps23
  go_wp2
  refine wp_loop_rounds 3 ?_
  rw [rounds_succ]
  go_wp2
  rw [rounds_succ]
  go_wp2
  rw [rounds_succ]
  go_wp2
  go_ret2
  refine ⟨w.heap.size + 1, rfl, ?_, ?_⟩
  · repeat (first | exact Below.refl _ _ | refine Below.setCell ?_ (by simp) _ | refine Below.alloc ?_ (by simp) _)
  · refine ⟨?_, ?_, ?_, ?_, ?_, trivial⟩ <;> go_simp
theorem make6 (W : World) : (Instr.makeSlice 46 (.int .i64 6) (.int .i64 6)).run Tryd.prog W = .ok (.slice (some ⟨W.heap.size, 0, none⟩) 6 6) (W.alloc (.cells #[.int .i64 0, .int .i64 0, .int .i64 0, .int .i64 0, .int .i64 0, .int .i64 0] 2)) := by kernel_rfl
set_option maxRecDepth 100000 in
set_option maxHeartbeats 4000000 in
theorem Row_6_2 (a b : Int) (a0 : -9223372036854775807 ≤ a) (a1 : a ≤ 9223372036854775807) (b0 : -9223372036854775807 ≤ b) (b1 : b ≤ 9223372036854775807) (w : World) :
    Calls Tryd.prog 23 #[.int .i64 6, .int .i64 2, .agg #[.int .i64 a, .int .i64 b]] w fun e w' =>
      ∃ g, e = .returned (.tuple #[.slice (some ⟨g, 0, none⟩) 6 6, .nilIface]) ∧ Below w.heap.size w w' ∧ RowAt w' g 0 [a, b, -a, -b, 0, 0] := by
  have e1 : IntKind.i64.wrap (-a) = -a := i64id (by omega) (by omega)
  have e2 : IntKind.i64.wrap (-b) = -b := i64id (by omega) (by omega)
  have mk := make6
  have q0 := part0
  have q1 := part1
  have n0 : (a == -9223372036854775808) = false := by simp; omega
  have n1 : (b == -9223372036854775808) = false := by simp; omega
  go_enter Tryd.func23, Tryd.ntmps23
  go_wp2
  refine wp_loop_rounds 3 ?_
  rw [rounds_succ]
  go_wp2
  rw [rounds_succ]
  go_wp2
  rw [rounds_succ]
  go_wp2
  go_ret2
  refine ⟨w.heap.size + 1, rfl, ?_, ?_⟩
  · repeat (first | exact Below.refl _ _ | refine Below.setCell ?_ (by simp) _ | refine Below.alloc ?_ (by simp) _)
  · refine ⟨?_, ?_, ?_, ?_, ?_, ?_, trivial⟩ <;> go_simp
set_option maxRecDepth 100000 in
set_option maxHeartbeats 4000000 in
theorem Row_6_3 (a b : Int) (a0 : -9223372036854775807 ≤ a) (a1 : a ≤ 9223372036854775807) (b0 : -9223372036854775807 ≤ b) (b1 : b ≤ 9223372036854775807) (w : World) :
    Calls Tryd.prog 23 #[.int .i64 6, .int .i64 3, .agg #[.int .i64 a, .int .i64 b]] w fun e w' =>
      ∃ g, e = .returned (.tuple #[.slice (some ⟨g, 0, none⟩) 6 6, .nilIface]) ∧ Below w.heap.size w w' ∧ RowAt w' g 0 [a, b, 0, -a, -b, 0] := by
  have e1 : IntKind.i64.wrap (-a) = -a := i64id (by omega) (by omega)
  have e2 : IntKind.i64.wrap (-b) = -b := i64id (by omega) (by omega)
  have mk := make6
  have q0 := part0
  have q1 := part1
  have n0 : (a == -9223372036854775808) = false := by simp; omega
  have n1 : (b == -9223372036854775808) = false := by simp; omega
  go_enter Tryd.func23, Tryd.ntmps23
  go_wp2
  refine wp_loop_rounds 3 ?_
  rw [rounds_succ]
  go_wp2
  rw [rounds_succ]
  go_wp2
  rw [rounds_succ]
  go_wp2
  go_ret2
  refine ⟨w.heap.size + 1, rfl, ?_, ?_⟩
  · repeat (first | exact Below.refl _ _ | refine Below.setCell ?_ (by simp) _ | refine Below.alloc ?_ (by simp) _)
  · refine ⟨?_, ?_, ?_, ?_, ?_, ?_, trivial⟩ <;> go_simp
set_option maxRecDepth 100000 in
set_option maxHeartbeats 4000000 in
theorem Row_6_4 (a b : Int) (a0 : -9223372036854775807 ≤ a) (a1 : a ≤ 9223372036854775807) (b0 : -9223372036854775807 ≤ b) (b1 : b ≤ 9223372036854775807) (w : World) :
    Calls Tryd.prog 23 #[.int .i64 6, .int .i64 4, .agg #[.int .i64 a, .int .i64 b]] w fun e w' =>
      ∃ g, e = .returned (.tuple #[.slice (some ⟨g, 0, none⟩) 6 6, .nilIface]) ∧ Below w.heap.size w w' ∧ RowAt w' g 0 [a, b, 0, 0, -a, -b] := by
  have e1 : IntKind.i64.wrap (-a) = -a := i64id (by omega) (by omega)
  have e2 : IntKind.i64.wrap (-b) = -b := i64id (by omega) (by omega)
  have mk := make6
  have q0 := part0
  have q1 := part1
  have n0 : (a == -9223372036854775808) = false := by simp; omega
  have n1 : (b == -9223372036854775808) = false := by simp; omega
  go_enter Tryd.func23, Tryd.ntmps23
  go_wp2
  refine wp_loop_rounds 3 ?_
  rw [rounds_succ]
  go_wp2
  rw [rounds_succ]
  go_wp2
  rw [rounds_succ]
  go_wp2
  go_ret2
  refine ⟨w.heap.size + 1, rfl, ?_, ?_⟩
  · repeat (first | exact Below.refl _ _ | refine Below.setCell ?_ (by simp) _ | refine Below.alloc ?_ (by simp) _)
  · refine ⟨?_, ?_, ?_, ?_, ?_, ?_, trivial⟩ <;> go_simp
theorem make7 (W : World) : (Instr.makeSlice 46 (.int .i64 7) (.int .i64 7)).run Tryd.prog W = .ok (.slice (some ⟨W.heap.size, 0, none⟩) 7 7) (W.alloc (.cells #[.int .i64 0, .int .i64 0, .int .i64 0, .int .i64 0, .int .i64 0, .int .i64 0, .int .i64 0] 2)) := by kernel_rfl
set_option maxRecDepth 100000 in
set_option maxHeartbeats 4000000 in
theorem Row_7_2 (a b : Int) (a0 : -9223372036854775807 ≤ a) (a1 : a ≤ 9223372036854775807) (b0 : -9223372036854775807 ≤ b) (b1 : b ≤ 9223372036854775807) (w : World) :
    Calls Tryd.prog 23 #[.int .i64 7, .int .i64 2, .agg #[.int .i64 a, .int .i64 b]] w fun e w' =>
      ∃ g, e = .returned (.tuple #[.slice (some ⟨g, 0, none⟩) 7 7, .nilIface]) ∧ Below w.heap.size w w' ∧ RowAt w' g 0 [a, b, -a, -b, 0, 0, 0] := by
  have e1 : IntKind.i64.wrap (-a) = -a := i64id (by omega) (by omega)
  have e2 : IntKind.i64.wrap (-b) = -b := i64id (by omega) (by omega)
  have mk := make7
  have q0 := part0
  have q1 := part1
  have n0 : (a == -9223372036854775808) = false := by simp; omega
  have n1 : (b == -9223372036854775808) = false := by simp; omega
  go_enter Tryd.func23, Tryd.ntmps23
  go_wp2
  refine wp_loop_rounds 3 ?_
  rw [rounds_succ]
  go_wp2
  rw [rounds_succ]
  go_wp2
  rw [rounds_succ]
  go_wp2
  go_ret2
  refine ⟨w.heap.size + 1, rfl, ?_, ?_⟩
  · repeat (first | exact Below.refl _ _ | refine Below.setCell ?_ (by simp) _ | refine Below.alloc ?_ (by simp) _)
  · refine ⟨?_, ?_, ?_, ?_, ?_, ?_, ?_, trivial⟩ <;> go_simp
set_option maxRecDepth 100000 in
set_option maxHeartbeats 4000000 in
theorem Row_7_3 (a b : Int) (a0 : -9223372036854775807 ≤ a) (a1 : a ≤ 9223372036854775807) (b0 : -9223372036854775807 ≤ b) (b1 : b ≤ 9223372036854775807) (w : World) :
    Calls Tryd.prog 23 #[.int .i64 7, .int .i64 3, .agg #[.int .i64 a, .int .i64 b]] w fun e w' =>
      ∃ g, e = .returned (.tuple #[.slice (some ⟨g, 0, none⟩) 7 7, .nilIface]) ∧ Below w.heap.size w w' ∧ RowAt w' g 0 [a, b, 0, -a, -b, 0, 0] := by
  have e1 : IntKind.i64.wrap (-a) = -a := i64id (by omega) (by omega)
  have e2 : IntKind.i64.wrap (-b) = -b := i64id (by omega) (by omega)
  have mk := make7
  have q0 := part0
  have q1 := part1
  have n0 : (a == -9223372036854775808) = false := by simp; omega
  have n1 : (b == -9223372036854775808) = false := by simp; omega
  go_enter Tryd.func23, Tryd.ntmps23
  go_wp2
  refine wp_loop_rounds 3 ?_
  rw [rounds_succ]
  go_wp2
  rw [rounds_succ]
  go_wp2
  rw [rounds_succ]
  go_wp2
  go_ret2
  refine ⟨w.heap.size + 1, rfl, ?_, ?_⟩
  · repeat (first | exact Below.refl _ _ | refine Below.setCell ?_ (by simp) _ | refine Below.alloc ?_ (by simp) _)
  · refine ⟨?_, ?_, ?_, ?_, ?_, ?_, ?_, trivial⟩ <;> go_simp
set_option maxRecDepth 100000 in
set_option maxHeartbeats 4000000 in
theorem Row_7_4 (a b : Int) (a0 : -9223372036854775807 ≤ a) (a1 : a ≤ 9223372036854775807) (b0 : -9223372036854775807 ≤ b) (b1 : b ≤ 9223372036854775807) (w : World) :
    Calls Tryd.prog 23 #[.int .i64 7, .int .i64 4, .agg #[.int .i64 a, .int .i64 b]] w fun e w' =>
      ∃ g, e = .returned (.tuple #[.slice (some ⟨g, 0, none⟩) 7 7, .nilIface]) ∧ Below w.heap.size w w' ∧ RowAt w' g 0 [a, b, 0, 0, -a, -b, 0] := by
  have e1 : IntKind.i64.wrap (-a) = -a := i64id (by omega) (by omega)
  have e2 : IntKind.i64.wrap (-b) = -b := i64id (by omega) (by omega)
  have mk := make7
  have q0 := part0
  have q1 := part1
  have n0 : (a == -9223372036854775808) = false := by simp; omega
  have n1 : (b == -9223372036854775808) = false := by simp; omega
  go_enter Tryd.func23, Tryd.ntmps23
  go_wp2
  refine wp_loop_rounds 3 ?_
  rw [rounds_succ]
  go_wp2
  rw [rounds_succ]
  go_wp2
  rw [rounds_succ]
  go_wp2
  go_ret2
  refine ⟨w.heap.size + 1, rfl, ?_, ?_⟩
  · repeat (first | exact Below.refl _ _ | refine Below.setCell ?_ (by simp) _ | refine Below.alloc ?_ (by simp) _)
  · refine ⟨?_, ?_, ?_, ?_, ?_, ?_, ?_, trivial⟩ <;> go_simp
set_option maxRecDepth 100000 in
set_option maxHeartbeats 4000000 in
theorem Row_7_5 (a b : Int) (a0 : -9223372036854775807 ≤ a) (a1 : a ≤ 9223372036854775807) (b0 : -9223372036854775807 ≤ b) (b1 : b ≤ 9223372036854775807) (w : World) :
    Calls Tryd.prog 23 #[.int .i64 7, .int .i64 5, .agg #[.int .i64 a, .int .i64 b]] w fun e w' =>
      ∃ g, e = .returned (.tuple #[.slice (some ⟨g, 0, none⟩) 7 7, .nilIface]) ∧ Below w.heap.size w w' ∧ RowAt w' g 0 [a, b, 0, 0, 0, -a, -b] := by
  have e1 : IntKind.i64.wrap (-a) = -a := i64id (by omega) (by omega)
  have e2 : IntKind.i64.wrap (-b) = -b := i64id (by omega) (by omega)
  have mk := make7
  have q0 := part0
  have q1 := part1
  have n0 : (a == -9223372036854775808) = false := by simp; omega
  have n1 : (b == -9223372036854775808) = false := by simp; omega
  go_enter Tryd.func23, Tryd.ntmps23
  go_wp2
  refine wp_loop_rounds 3 ?_
  rw [rounds_succ]
  go_wp2
  rw [rounds_succ]
  go_wp2
  rw [rounds_succ]
  go_wp2
  go_ret2
  refine ⟨w.heap.size + 1, rfl, ?_, ?_⟩
  · repeat (first | exact Below.refl _ _ | refine Below.setCell ?_ (by simp) _ | refine Below.alloc ?_ (by simp) _)
  · refine ⟨?_, ?_, ?_, ?_, ?_, ?_, ?_, trivial⟩ <;> go_simp
theorem make8 (W : World) : (Instr.makeSlice 46 (.int .i64 8) (.int .i64 8)).run Tryd.prog W = .ok (.slice (some ⟨W.heap.size, 0, none⟩) 8 8) (W.alloc (.cells #[.int .i64 0, .int .i64 0, .int .i64 0, .int .i64 0, .int .i64 0, .int .i64 0, .int .i64 0, .int .i64 0] 2)) := by kernel_rfl
set_option maxRecDepth 100000 in
set_option maxHeartbeats 4000000 in
theorem Row_8_2 (a b : Int) (a0 : -9223372036854775807 ≤ a) (a1 : a ≤ 9223372036854775807) (b0 : -9223372036854775807 ≤ b) (b1 : b ≤ 9223372036854775807) (w : World) :
    Calls Tryd.prog 23 #[.int .i64 8, .int .i64 2, .agg #[.int .i64 a, .int .i64 b]] w fun e w' =>
      ∃ g, e = .returned (.tuple #[.slice (some ⟨g, 0, none⟩) 8 8, .nilIface]) ∧ Below w.heap.size w w' ∧ RowAt w' g 0 [a, b, -a, -b, 0, 0, 0, 0] := by
  have e1 : IntKind.i64.wrap (-a) = -a := i64id (by omega) (by omega)
  have e2 : IntKind.i64.wrap (-b) = -b := i64id (by omega) (by omega)
  have mk := make8
  have q0 := part0
  have q1 := part1
  have n0 : (a == -9223372036854775808) = false := by simp; omega
  have n1 : (b == -9223372036854775808) = false := by simp; omega
  go_enter Tryd.func23, Tryd.ntmps23
  go_wp2
  refine wp_loop_rounds 3 ?_
  rw [rounds_succ]
  go_wp2
  rw [rounds_succ]
  go_wp2
  rw [rounds_succ]
  go_wp2
  go_ret2
  refine ⟨w.heap.size + 1, rfl, ?_, ?_⟩
  · repeat (first | exact Below.refl _ _ | refine Below.setCell ?_ (by simp) _ | refine Below.alloc ?_ (by simp) _)
  · refine ⟨?_, ?_, ?_, ?_, ?_, ?_, ?_, ?_, trivial⟩ <;> go_simp
set_option maxRecDepth 100000 in
set_option maxHeartbeats 4000000 in
theorem Row_8_3 (a b : Int) (a0 : -9223372036854775807 ≤ a) (a1 : a ≤ 9223372036854775807) (b0 : -9223372036854775807 ≤ b) (b1 : b ≤ 9223372036854775807) (w : World) :
    Calls Tryd.prog 23 #[.int .i64 8, .int .i64 3, .agg #[.int .i64 a, .int .i64 b]] w fun e w' =>
      ∃ g, e = .returned (.tuple #[.slice (some ⟨g, 0, none⟩) 8 8, .nilIface]) ∧ Below w.heap.size w w' ∧ RowAt w' g 0 [a, b, 0, -a, -b, 0, 0, 0] := by
  have e1 : IntKind.i64.wrap (-a) = -a := i64id (by omega) (by omega)
  have e2 : IntKind.i64.wrap (-b) = -b := i64id (by omega) (by omega)
  have mk := make8
  have q0 := part0
  have q1 := part1
  have n0 : (a == -9223372036854775808) = false := by simp; omega
  have n1 : (b == -9223372036854775808) = false := by simp; omega
  go_enter Tryd.func23, Tryd.ntmps23
  go_wp2
  refine wp_loop_rounds 3 ?_
  rw [rounds_succ]
  go_wp2
  rw [rounds_succ]
  go_wp2
  rw [rounds_succ]
  go_wp2
  go_ret2
  refine ⟨w.heap.size + 1, rfl, ?_, ?_⟩
  · repeat (first | exact Below.refl _ _ | refine Below.setCell ?_ (by simp) _ | refine Below.alloc ?_ (by simp) _)
  · refine ⟨?_, ?_, ?_, ?_, ?_, ?_, ?_, ?_, trivial⟩ <;> go_simp
set_option maxRecDepth 100000 in
set_option maxHeartbeats 4000000 in
theorem Row_8_4 (a b : Int) (a0 : -9223372036854775807 ≤ a) (a1 : a ≤ 9223372036854775807) (b0 : -9223372036854775807 ≤ b) (b1 : b ≤ 9223372036854775807) (w : World) :
    Calls Tryd.prog 23 #[.int .i64 8, .int .i64 4, .agg #[.int .i64 a, .int .i64 b]] w fun e w' =>
      ∃ g, e = .returned (.tuple #[.slice (some ⟨g, 0, none⟩) 8 8, .nilIface]) ∧ Below w.heap.size w w' ∧ RowAt w' g 0 [a, b, 0, 0, -a, -b, 0, 0] := by
  have e1 : IntKind.i64.wrap (-a) = -a := i64id (by omega) (by omega)
  have e2 : IntKind.i64.wrap (-b) = -b := i64id (by omega) (by omega)
  have mk := make8
  have q0 := part0
  have q1 := part1
  have n0 : (a == -9223372036854775808) = false := by simp; omega
  have n1 : (b == -9223372036854775808) = false := by simp; omega
  go_enter Tryd.func23, Tryd.ntmps23
  go_wp2
  refine wp_loop_rounds 3 ?_
  rw [rounds_succ]
  go_wp2
  rw [rounds_succ]
  go_wp2
  rw [rounds_succ]
  go_wp2
  go_ret2
  refine ⟨w.heap.size + 1, rfl, ?_, ?_⟩
  · repeat (first | exact Below.refl _ _ | refine Below.setCell ?_ (by simp) _ | refine Below.alloc ?_ (by simp) _)
  · refine ⟨?_, ?_, ?_, ?_, ?_, ?_, ?_, ?_, trivial⟩ <;> go_simp
set_option maxRecDepth 100000 in
set_option maxHeartbeats 4000000 in
theorem Row_8_5 (a b : Int) (a0 : -9223372036854775807 ≤ a) (a1 : a ≤ 9223372036854775807) (b0 : -9223372036854775807 ≤ b) (b1 : b ≤ 9223372036854775807) (w : World) :
    Calls Tryd.prog 23 #[.int .i64 8, .int .i64 5, .agg #[.int .i64 a, .int .i64 b]] w fun e w' =>
      ∃ g, e = .returned (.tuple #[.slice (some ⟨g, 0, none⟩) 8 8, .nilIface]) ∧ Below w.heap.size w w' ∧ RowAt w' g 0 [a, b, 0, 0, 0, -a, -b, 0] := by
  have e1 : IntKind.i64.wrap (-a) = -a := i64id (by omega) (by omega)
  have e2 : IntKind.i64.wrap (-b) = -b := i64id (by omega) (by omega)
  have mk := make8
  have q0 := part0
  have q1 := part1
  have n0 : (a == -9223372036854775808) = false := by simp; omega
  have n1 : (b == -9223372036854775808) = false := by simp; omega
  go_enter Tryd.func23, Tryd.ntmps23
  go_wp2
  refine wp_loop_rounds 3 ?_
  rw [rounds_succ]
  go_wp2
  rw [rounds_succ]
  go_wp2
  rw [rounds_succ]
  go_wp2
  go_ret2
  refine ⟨w.heap.size + 1, rfl, ?_, ?_⟩
  · repeat (first | exact Below.refl _ _ | refine Below.setCell ?_ (by simp) _ | refine Below.alloc ?_ (by simp) _)
  · refine ⟨?_, ?_, ?_, ?_, ?_, ?_, ?_, ?_, trivial⟩ <;> go_simp
set_option maxRecDepth 100000 in
set_option maxHeartbeats 4000000 in
theorem Row_8_6 (a b : Int) (a0 : -9223372036854775807 ≤ a) (a1 : a ≤ 9223372036854775807) (b0 : -9223372036854775807 ≤ b) (b1 : b ≤ 9223372036854775807) (w : World) :
    Calls Tryd.prog 23 #[.int .i64 8, .int .i64 6, .agg #[.int .i64 a, .int .i64 b]] w fun e w' =>
      ∃ g, e = .returned (.tuple #[.slice (some ⟨g, 0, none⟩) 8 8, .nilIface]) ∧ Below w.heap.size w w' ∧ RowAt w' g 0 [a, b, 0, 0, 0, 0, -a, -b] := by
  have e1 : IntKind.i64.wrap (-a) = -a := i64id (by omega) (by omega)
  have e2 : IntKind.i64.wrap (-b) = -b := i64id (by omega) (by omega)
  have mk := make8
  have q0 := part0
  have q1 := part1
  have n0 : (a == -9223372036854775808) = false := by simp; omega
  have n1 : (b == -9223372036854775808) = false := by simp; omega
  go_enter Tryd.func23, Tryd.ntmps23
  go_wp2
  refine wp_loop_rounds 3 ?_
  rw [rounds_succ]
  go_wp2
  rw [rounds_succ]
  go_wp2
  rw [rounds_succ]
  go_wp2
  go_ret2
  refine ⟨w.heap.size + 1, rfl, ?_, ?_⟩
  · repeat (first | exact Below.refl _ _ | refine Below.setCell ?_ (by simp) _ | refine Below.alloc ?_ (by simp) _)
  · refine ⟨?_, ?_, ?_, ?_, ?_, ?_, ?_, ?_, trivial⟩ <;> go_simp
end Go.Proofs.YtaiolioggjknfaaDoor.YLine
