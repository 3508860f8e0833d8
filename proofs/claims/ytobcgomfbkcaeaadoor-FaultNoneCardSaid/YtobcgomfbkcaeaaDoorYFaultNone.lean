/- The law FaultNone of layer 4: the walk. Conditions: errors.errorType holds its type's handle; the op has at most 2^47 bytes. -/
import Derived.Test.YtobcgomfbkcaeaaDoorYFaultKnown
namespace Go.Proofs.YtobcgomfbkcaeaaDoor.YErr
open Go.RowKit Go.Extern.Stop Go.Stop Go.Extern
set_option linter.unusedVariables false
set_option linter.unusedSimpArgs false

set_option maxRecDepth 100000 in
set_option maxHeartbeats 8000000 in
theorem as_none (a : Addr) (w : World) (a0 t : Addr) (hu : w.cell? ⟨a.block, a.off + 1, none⟩ = some .nilIface) :
    Calls Tryd.prog 25 #[.iface 34 (.pointer (some a)), .iface 44 (.pointer (some t)), .agg #[.pointer (some ⟨4, 44, none⟩), .pointer (some a0), .int .u64 150], .iface 73 (.agg #[.pointer (some ⟨4, 27, none⟩)])] w fun r w' =>
      r = .returned (.bool false) ∧ w' = w.alloc (.cells #[.pointer (some ⟨4, 44, none⟩), .pointer (some a0), .int .u64 150] 53) := by
  have hTO := @run_callFunc_extern Tryd.prog 27 _ ReflectliteType.typeOf Tryd.func27 (by kernel_rfl) (by kernel_rfl) (by kernel_rfl) (by kernel_rfl)
  have hAT := @run_callFunc_extern Tryd.prog 68 _ (ReflectliteType.relation "AssignableTo" ReflectliteType.assignableTo) Tryd.func68 (by kernel_rfl) (by kernel_rfl) (by kernel_rfl) (by kernel_rfl)
  have lu : a.block < w.heap.size := lt_cell (a := ⟨a.block, a.off + 1, none⟩) hu
  have tF := typeOfF
  have mA := methodAssignableTo
  have aF := assignableF
  have nA := noAsF
  have uF := unwrapF
  have mU := methodUnwrap
  have hU := unwrap_calls a .nilIface (w.alloc (.cells #[.pointer (some ⟨4, 44, none⟩), .pointer (some a0), .int .u64 150] 53)) (by rw [World.cell?_alloc_lt _ _ ⟨a.block, a.off + 1, none⟩ lu]; exact hu)
  go_enter Tryd.func25, Tryd.ntmps25
  go_wp2
  refine wp_loop_rounds 1 ?_
  rw [rounds_succ]
  go_wp2_with (first | (go_at_call 15; refine hU.mono ?_; rintro e w' ⟨rfl, rfl⟩) | go_in)
  go_ret
  exact ⟨rfl, rfl⟩

set_option maxRecDepth 100000 in
set_option maxHeartbeats 8000000 in
theorem As_none (a : Addr) (t : Addr) (old : Value) (w : World) (hg : Laid w) (hu : w.cell? ⟨a.block, a.off + 1, none⟩ = some .nilIface) (ht : w.cell? t = some old) (hf : w.frozen? t = false) :
    Calls Tryd.prog 17 #[.iface 34 (.pointer (some a)), .iface 44 (.pointer (some t))] w fun r w' =>
      r = .returned (.bool false) ∧ Below t.block w w' := by
  have hVO := @run_callFunc_extern Tryd.prog 22 _ (fun args => ReflectliteValue.unpack (args.getD 0 (.tuple #[]))) Tryd.func22 (by kernel_rfl) (by kernel_rfl) (by kernel_rfl) (by kernel_rfl)
  have hTy := @run_callFunc_extern Tryd.prog 23 _ (ReflectliteValue.methodAny (ReflectliteValue.valueError "reflectlite.Value.Type" 0) (fun t _ _ _ => ReflectliteType.toType t)) Tryd.func23 (by kernel_rfl) (by kernel_rfl) (by kernel_rfl) (by kernel_rfl)
  have hNi := @run_callFunc_extern Tryd.prog 24 _ (ReflectliteValue.method (ReflectliteValue.valueError "reflectlite.Value.IsNil" 0) ReflectliteValue.isNil) Tryd.func24 (by kernel_rfl) (by kernel_rfl) (by kernel_rfl) (by kernel_rfl)
  have hKi := @run_callFunc_extern Tryd.prog 58 _ (ReflectliteType.abiMethod fun t => do pure (.int .u8 (← Rtype.kind t))) Tryd.func58 (by kernel_rfl) (by kernel_rfl) (by kernel_rfl) (by kernel_rfl)
  have hTE := @run_callFunc_extern Tryd.prog 70 _ (ReflectliteType.method ReflectliteType.elem) Tryd.func70 (by kernel_rfl) (by kernel_rfl) (by kernel_rfl) (by kernel_rfl)
  have hIm := @run_callFunc_extern Tryd.prog 71 _ (ReflectliteType.relation "Implements" ReflectliteType.implements_) Tryd.func71 (by kernel_rfl) (by kernel_rfl) (by kernel_rfl) (by kernel_rfl)
  have lt := lt_cell ht
  have lu : a.block < w.heap.size := lt_cell (a := ⟨a.block, a.off + 1, none⟩) hu
  have lg := lt_cell hg
  have fV := valueOfP
  have fT := typeP
  have mK := methodKind
  have mE := methodElem
  have mI := methodImplements
  have kP := kindP
  have kE := kindE
  have eP := elemP
  have iE := implementsE
  have n8 := isNilP ⟨w.heap.size, 0, none⟩ t ((w.alloc (.cells #[.pointer (some t)] 44)).alloc (.cells #[.pointer (some ⟨4, 44, none⟩), .pointer (some ⟨w.heap.size, 0, none⟩), .int .u64 150] 53)) (by simp)
  have hg2 : ((w.alloc (.cells #[.pointer (some t)] 44)).alloc (.cells #[.pointer (some ⟨4, 44, none⟩), .pointer (some ⟨w.heap.size, 0, none⟩), .int .u64 150] 53)).cell? ⟨0, 0, none⟩ = some (.iface 73 (.agg #[.pointer (some ⟨4, 25, none⟩)])) := by
    rw [World.cell?_alloc_lt _ _ ⟨0, 0, none⟩ (by simp), World.cell?_alloc_lt _ _ ⟨0, 0, none⟩ lg]; exact hg
  have hA := as_none a ((w.alloc (.cells #[.pointer (some t)] 44)).alloc (.cells #[.pointer (some ⟨4, 44, none⟩), .pointer (some ⟨w.heap.size, 0, none⟩), .int .u64 150] 53)) ⟨w.heap.size, 0, none⟩ t
    (by rw [World.cell?_alloc_lt _ _ ⟨a.block, a.off + 1, none⟩ (by simp; omega), World.cell?_alloc_lt _ _ ⟨a.block, a.off + 1, none⟩ lu]; exact hu)
  have bx : Below t.block w ((w.alloc (.cells #[.pointer (some t)] 44)).alloc (.cells #[.pointer (some ⟨4, 44, none⟩), .pointer (some ⟨w.heap.size, 0, none⟩), .int .u64 150] 53)) :=
    ((Below.refl _ _).alloc (Nat.le_of_lt lt) _).alloc (by simp; omega) _
  go_enter Tryd.func17, Tryd.ntmps17
  go_wp2_with (first | (go_at_call 25; refine hA.mono ?_; rintro r w' ⟨rfl, rfl⟩) | go_in)
  go_ret
  exact ⟨rfl, bx.alloc (by simp; omega) _⟩


set_option maxRecDepth 100000 in
set_option maxHeartbeats 8000000 in
theorem Code_none (a : Addr) (w : World) (hg : Laid w) (hu : w.cell? ⟨a.block, a.off + 1, none⟩ = some .nilIface) :
    Calls Tryd.prog 9 #[.iface 34 (.pointer (some a))] w fun r w' => r = .returned (.int .i64 36) ∧ Below w.heap.size w w' := by
  have lg := lt_cell hg
  have lu : a.block < w.heap.size := lt_cell (a := ⟨a.block, a.off + 1, none⟩) hu
  have hA := As_none a ⟨w.heap.size, 0, none⟩ (.int .i64 0) (w.alloc (.cells #[.int .i64 0] 27)) ((World.cell?_alloc_lt _ _ ⟨0, 0, none⟩ lg).trans hg) (by rw [World.cell?_alloc_lt _ _ ⟨a.block, a.off + 1, none⟩ lu]; exact hu) (by simp) (by simp)
  have b0 : Below w.heap.size w (w.alloc (.cells #[.int .i64 0] 27)) := (Below.refl _ _).alloc (Nat.le_refl _) _
  go_enter Tryd.func9, Tryd.ntmps9
  go_wp2_with (first | (go_at_call 17; refine hA.mono ?_; rintro r w' ⟨rfl, q2⟩) | go_in)
  go_ret
  exact ⟨rfl, b0.trans q2⟩
set_option maxRecDepth 100000 in
set_option maxHeartbeats 8000000 in
theorem Text_none (a : Addr) (op : ByteArray) (w : World) (hs : op.size ≤ 140737488355328) (h0 : w.cell? a = some (.string op)) (hu : w.cell? ⟨a.block, a.off + 1, none⟩ = some .nilIface) :
    Calls Tryd.prog 10 #[.iface 34 (.pointer (some a))] w fun r w' => r = .returned (.string (op ++ ⟨#[58, 32, 110, 105, 108]⟩)) ∧ w' = w := by
  have mF := methodErrF
  have n1 : ¬ 9223372036854775807 < op.size + 5 := by omega
  have hE : Calls Tryd.prog 61 #[.pointer (some a)] w fun r w' => r = .returned (.string (op ++ ⟨#[58, 32, 110, 105, 108]⟩)) ∧ w' = w := by
    go_enter Tryd.func61, Tryd.ntmps61
    go_wp2
    go_ret
    exact ⟨rfl, rfl⟩
  go_enter Tryd.func10, Tryd.ntmps10
  go_wp2_with (first | (go_at_call 61; refine hE.mono ?_; rintro e w4 ⟨rfl, rfl⟩) | go_in)
  go_ret
  exact ⟨rfl, rfl⟩
set_option maxRecDepth 100000 in
set_option maxHeartbeats 8000000 in
theorem Ops_none (a : Addr) (op : ByteArray) (w : World) (h0 : w.cell? a = some (.string op)) (h1 : w.cell? ⟨a.block, a.off + 1, none⟩ = some .nilIface) :
    Calls Tryd.prog 13 #[.iface 34 (.pointer (some a))] w fun e w' => ∃ g cap, e = .returned (.slice (some ⟨g, 0, none⟩) 1 cap) ∧ Below w.heap.size w w' := by
  obtain ⟨i0, hi, hz0, hz1, hz2⟩ := info_parts infoStr
  have hW := within_one a op _ w h0 h1
  go_enter Tryd.func13, Tryd.ntmps13
  go_wp2
  refine wp_loop_rounds 2 ?_
  rw [rounds_succ]
  go_wp2_with (first | (go_at_call 20; refine hW.mono ?_; rintro e w' ⟨rfl, rfl⟩) | (at_builtin; refine wpList_append_grows _ rfl (.tmp 13) (.tmp 14) 22 rfl 9 i0 (.string (ByteArray.mk #[])) 1 16 Tryd.underlying22 hi hz0 hz1 hz2 rfl (by decide) none 0 0 [] rfl (fun _ => ⟨rfl, rfl⟩) rfl (by intro _ hb; cases hb) ⟨w.heap.size, 0, none⟩ 1 1 [.string op] rfl rfl ?c1 ?c2 (by omega) (by unfold maxLen; omega) (by omega) ?grow) | go_in)
  case c1 => intro j u hj; match j, hj with | 0, hj => simp at hj; subst hj; simp [Addr.add]
  case c2 => intro u hu; simp at hu; subst hu; rfl
  case grow =>
    intro v' w2 hown hgrow
    obtain ⟨g, cap, rfl, hg0, hg1⟩ := hown.form (by omega)
    have hb : Below w.heap.size w w2 := (((Below.refl _ _).alloc (Nat.le_refl _) _).drew).grown hgrow (by simp) (fun k h => by cases h)
    go_wp2
    rw [rounds_succ]
    go_wp2
    go_ret
    exact ⟨g, cap, rfl, hb⟩
set_option maxRecDepth 100000 in
set_option maxHeartbeats 8000000 in
theorem FaultNone_calls (op : ByteArray) (w : World) (hg : Laid w) (hs : op.size ≤ 140737488355328) :
    Calls Tryd.prog 4 #[.string op] w fun r w' => r = .returned (.bool true) ∧ Below w.heap.size w w' := by
  have K := known_calls w hg
  have n1 : ¬ 9223372036854775807 < op.size + 5 := by omega
  go_enter Tryd.func4, Tryd.ntmps4
  go_wp2_with fail
  refine K.mono ?_; rintro r w1 ⟨rfl, g1⟩
  have b2 : Below w.heap.size w (w1.alloc (.cells #[.string op, .nilIface] 36)) := g1.alloc g1.size _
  have h0 : (w1.alloc (.cells #[.string op, .nilIface] 36)).cell? ⟨w1.heap.size, 0, none⟩ = some (.string op) := by go_simp
  have h1 : (w1.alloc (.cells #[.string op, .nilIface] 36)).cell? ⟨w1.heap.size, 1, none⟩ = some .nilIface := by go_simp
  go_wp2_with fail
  generalize w1.alloc (.cells #[.string op, .nilIface] 36) = w2 at *
  generalize w1.heap.size = p at *
  have WN := Wrap_nil op w2
  have TN := Text_nil w2
  have ON := Ops_nil w2
  have IN := Is_nil 32 w2
  have C := Code_none ⟨p, 0, none⟩ w2 (hg.keep b2) h1
  refine WN.mono ?_; rintro r w' ⟨rfl, rfl⟩
  go_wp2_with fail
  refine TN.mono ?_; rintro r w' ⟨rfl, rfl⟩
  go_wp2_with fail
  refine ON.mono ?_; rintro r w' ⟨rfl, rfl⟩
  go_wp2_with fail
  refine IN.mono ?_; rintro r w' ⟨rfl, rfl⟩
  go_wp2_with fail
  refine C.mono ?_; rintro r w3 ⟨rfl, g3⟩
  have b3 := bb4 b2 g3
  have h03 := keep4 g3 h0
  have h13 := keep4 g3 h1
  have T := Text_none ⟨p, 0, none⟩ op w3 hs h03 h13
  go_wp2_with fail
  refine T.mono ?_; rintro r w' ⟨rfl, rfl⟩
  have U := unwrap_calls ⟨p, 0, none⟩ .nilIface w' h13
  have O := Ops_none ⟨p, 0, none⟩ op w' h03 h13
  go_wp2_with fail
  refine U.mono ?_; rintro r w' ⟨rfl, rfl⟩
  go_wp2_with fail
  refine O.mono ?_; rintro r w4 ⟨g, cap, rfl, g4⟩
  go_wp2_with fail
  go_ret
  exact ⟨rfl, bb4 b3 g4⟩
theorem FaultNone_law (op : ByteArray) (w : World) (hg : Laid w) (hs : op.size ≤ reachBytes) : Calls Tryd.prog 4 #[.string op] w fun r w' => r = .returned (.bool true) ∧ Below w.heap.size w w' :=
  FaultNone_calls op w hg (Nat.le_trans hs (by decide))
end Go.Proofs.YtobcgomfbkcaeaaDoor.YErr
