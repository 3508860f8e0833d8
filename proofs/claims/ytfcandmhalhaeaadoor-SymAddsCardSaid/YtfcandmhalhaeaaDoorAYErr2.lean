/- Lean functions, contracts and lemmas that this claim needs. No condition. -/
import Derived.Test.YtfcandmhalhaeaaDoorAYErr
import Derived.BigRegion
import Derived.ArgAppend
import Derived.Deep.AppendLies
import Derived.Laws.OwnMore
namespace Go.Proofs.YtfcandmhalhaeaaDoor.YErr
open Go.RowKit Go.Extern.Stop Go.Stop Go.Extern
set_option linter.unusedVariables false
set_option linter.unusedSimpArgs false
set_option maxRecDepth 100000 in
set_option maxHeartbeats 8000000 in
theorem As_one (a t : Addr) (c : Int) (old : Value) (w : World) (hg : Laid w) (hu : w.cell? ⟨a.block, a.off + 1, none⟩ = some (.iface 54 (.int .i64 c)))
    (ht : w.cell? t = some old) (hf : w.frozen? t = false) :
    Calls Tryd.prog 46 #[.iface 131 (.pointer (some a)), .iface 87 (.pointer (some t))] w fun e w' =>
      e = .returned (.bool true) ∧ w' = ((((w.alloc (.cells #[.pointer (some t)] 87)).alloc (.cells #[.pointer (some ⟨1, 87, none⟩), .pointer (some ⟨w.heap.size, 0, none⟩), .int .u64 150] 108)).alloc (.cells #[.pointer (some ⟨1, 87, none⟩), .pointer (some ⟨w.heap.size, 0, none⟩), .int .u64 150] 108)).alloc (.cells #[.int .i64 c] 54)).setCell t (.int .i64 c) := by
  have hVO := @run_callFunc_extern Tryd.prog 59 _ (fun args => ReflectliteValue.unpack (args.getD 0 (.tuple #[]))) Tryd.func59 (by kernel_rfl) (by kernel_rfl) (by kernel_rfl) (by kernel_rfl)
  have hTy := @run_callFunc_extern Tryd.prog 60 _ (ReflectliteValue.methodAny (ReflectliteValue.valueError "reflectlite.Value.Type" 0) (fun t _ _ _ => ReflectliteType.toType t)) Tryd.func60 (by kernel_rfl) (by kernel_rfl) (by kernel_rfl) (by kernel_rfl)
  have hNi := @run_callFunc_extern Tryd.prog 61 _ (ReflectliteValue.method (ReflectliteValue.valueError "reflectlite.Value.IsNil" 0) ReflectliteValue.isNil) Tryd.func61 (by kernel_rfl) (by kernel_rfl) (by kernel_rfl) (by kernel_rfl)
  have hKi := @run_callFunc_extern Tryd.prog 104 _ (ReflectliteType.abiMethod fun t => do pure (.int .u8 (← Rtype.kind t))) Tryd.func104 (by kernel_rfl) (by kernel_rfl) (by kernel_rfl) (by kernel_rfl)
  have hTE := @run_callFunc_extern Tryd.prog 116 _ (ReflectliteType.method ReflectliteType.elem) Tryd.func116 (by kernel_rfl) (by kernel_rfl) (by kernel_rfl) (by kernel_rfl)
  have hIm := @run_callFunc_extern Tryd.prog 117 _ (ReflectliteType.relation "Implements" ReflectliteType.implements_) Tryd.func117 (by kernel_rfl) (by kernel_rfl) (by kernel_rfl) (by kernel_rfl)
  have lt := lt_of_cell ht
  have lu : a.block < w.heap.size := lt_of_cell (a := ⟨a.block, a.off + 1, none⟩) hu
  have lg := lt_of_cell hg
  have fV := valueOfP
  have fT := typeP
  have mK := methodKind
  have mE := methodElem
  have mI := methodImplements
  have kP := kindP
  have kE := kindE
  have eP := elemP
  have iE := implementsE
  have n8 := isNilP ⟨w.heap.size, 0, none⟩ t ((w.alloc (.cells #[.pointer (some t)] 87)).alloc (.cells #[.pointer (some ⟨1, 87, none⟩), .pointer (some ⟨w.heap.size, 0, none⟩), .int .u64 150] 108)) (by simp)
  have hg2 : ((w.alloc (.cells #[.pointer (some t)] 87)).alloc (.cells #[.pointer (some ⟨1, 87, none⟩), .pointer (some ⟨w.heap.size, 0, none⟩), .int .u64 150] 108)).cell? ⟨0, 0, none⟩ = some (.iface 141 (.agg #[.pointer (some ⟨1, 34, none⟩)])) := by
    rw [World.cell?_alloc_lt _ _ ⟨0, 0, none⟩ (by simp), World.cell?_alloc_lt _ _ ⟨0, 0, none⟩ lg]; exact hg
  have hA := as_one a ⟨w.heap.size, 0, none⟩ t c old ((w.alloc (.cells #[.pointer (some t)] 87)).alloc (.cells #[.pointer (some ⟨1, 87, none⟩), .pointer (some ⟨w.heap.size, 0, none⟩), .int .u64 150] 108))
    (by rw [World.cell?_alloc_lt _ _ ⟨a.block, a.off + 1, none⟩ (by simp; omega), World.cell?_alloc_lt _ _ ⟨a.block, a.off + 1, none⟩ lu]; exact hu)
    (by simp)
    (by rw [World.cell?_alloc_lt _ _ t (by simp; omega), World.cell?_alloc_lt _ _ t lt]; exact ht)
    (by rw [World.frozen?_alloc_old _ _ t (by simp; omega), World.frozen?_alloc_old _ _ t (Nat.ne_of_lt lt)]; exact hf)
  go_enter Tryd.func46, Tryd.ntmps46
  go_wp2_with (first | (go_at_call 62; refine hA.mono ?_; rintro e w' ⟨rfl, rfl⟩) | go_in)
  go_ret
  exact ⟨rfl, rfl⟩
set_option maxRecDepth 100000 in
set_option maxHeartbeats 8000000 in
theorem Code_one (a : Addr) (c : Int) (w : World) (hg : Laid w) (hu : w.cell? ⟨a.block, a.off + 1, none⟩ = some (.iface 54 (.int .i64 c))) :
    Calls Tryd.prog 26 #[.iface 131 (.pointer (some a))] w fun e w' => e = .returned (.int .i64 c) ∧ Below w.heap.size w w' := by
  have lg := lt_of_cell hg
  have lu : a.block < w.heap.size := lt_of_cell (a := ⟨a.block, a.off + 1, none⟩) hu
  have hA := As_one a ⟨w.heap.size, 0, none⟩ c (.int .i64 0) (w.alloc (.cells #[.int .i64 0] 54)) ((World.cell?_alloc_lt _ _ ⟨0, 0, none⟩ lg).trans hg) (by rw [World.cell?_alloc_lt _ _ ⟨a.block, a.off + 1, none⟩ lu]; exact hu) (by simp) (by simp)
  go_enter Tryd.func26, Tryd.ntmps26
  go_wp2_with (first | (go_at_call 46; refine hA.mono ?_; rintro e w' ⟨rfl, rfl⟩) | go_in)
  go_ret
  refine ⟨rfl, ?_⟩
  repeat (first | exact Below.refl _ _ | refine Below.setCell ?_ (Nat.le_refl _) _ | refine Below.alloc ?_ (by simp; try omega) _)
set_option maxHeartbeats 8000000 in
theorem Code_nil (w : World) : Calls Tryd.prog 26 #[.nilIface] w fun e w' => e = .returned (.int .i64 0) ∧ Below w.heap.size w w' := by
  go_enter Tryd.func26, Tryd.ntmps26
  go_wp2
  go_ret
  exact ⟨rfl, (Below.refl _ _).alloc (Nat.le_refl _) _⟩
set_option maxHeartbeats 8000000 in
theorem Wrap_one (op : ByteArray) (t : TypeId) (v : Value) (w : World) :
    Calls Tryd.prog 54 #[.string op, .iface t v] w fun e w' => e = .returned (.iface 131 (.pointer (some ⟨w.heap.size, 0, none⟩))) ∧ w' = w.alloc (.cells #[.string op, .iface t v] 133) := by
  go_enter Tryd.func54, Tryd.ntmps54
  go_wp2
  go_ret
  exact ⟨rfl, rfl⟩
theorem isFault (p : Option Addr) (w : World) : (Instr.typeAssert (.iface 131 (.pointer p)) 34 131 true).run Tryd.prog w = .ok (.tuple #[.pointer p, .bool true]) w := by kernel_rfl
theorem noFault (n : Int) (w : World) : (Instr.typeAssert (.iface 54 (.int .i64 n)) 34 131 true).run Tryd.prog w = .ok (.tuple #[.pointer none, .bool false]) w := by kernel_rfl
set_option maxRecDepth 100000 in
set_option maxHeartbeats 8000000 in
theorem within_one (a : Addr) (op : ByteArray) (u : Value) (w : World) (h0 : w.cell? a = some (.string op)) (h1 : w.cell? ⟨a.block, a.off + 1, none⟩ = some u) :
    Calls Tryd.prog 56 #[.iface 131 (.pointer (some a))] w fun e w' => e = .returned (.tuple #[.slice (some ⟨w.heap.size, 0, none⟩) 1 1, u]) ∧ w' = (w.alloc (.cells #[.string op] 9)).drew := by
  have nU := noUnwrapsF
  have iF := isFault
  have l1 : a.block < w.heap.size := lt_of_cell (a := ⟨a.block, a.off + 1, none⟩) h1
  have hq : (w.alloc (.cells #[.string op] 9)).cell? ⟨a.block, a.off + 1, none⟩ = some u := (World.cell?_alloc_lt _ _ ⟨a.block, a.off + 1, none⟩ l1).trans h1
  have hq0 : (w.alloc (.cells #[.string op] 9)).cell? a = some (.string op) := (World.cell?_alloc_lt _ _ a l1).trans h0
  go_enter Tryd.func56, Tryd.ntmps56
  go_wp2
  go_region
  all_goals go_wp2
  all_goals go_ret2
  all_goals exact ⟨rfl, rfl⟩
set_option maxRecDepth 100000 in
set_option maxHeartbeats 8000000 in
theorem within_num (n : Int) (w : World) :
    Calls Tryd.prog 56 #[.iface 54 (.int .i64 n)] w fun e w' => e = .returned (.tuple #[.slice none 0 0, .nilIface]) ∧ w' = w := by
  have nU := noUnwrapsE
  have iF := noFault
  go_enter Tryd.func56, Tryd.ntmps56
  go_wp2
  go_ret2
  exact ⟨rfl, rfl⟩
theorem infoStr : (Tryd.prog.info? 9).map (fun i => (i.zero, i.size, i.bytes)) = some (some (.string (ByteArray.mk #[])), 1, 16) := by kernel_rfl
set_option maxRecDepth 100000 in
set_option maxHeartbeats 8000000 in
theorem Ops_one (a : Addr) (op : ByteArray) (c : Int) (w : World) (h0 : w.cell? a = some (.string op)) (h1 : w.cell? ⟨a.block, a.off + 1, none⟩ = some (.iface 54 (.int .i64 c))) :
    Calls Tryd.prog 41 #[.iface 131 (.pointer (some a))] w fun e w' => ∃ g cap, e = .returned (.slice (some ⟨g, 0, none⟩) 1 cap) ∧ Below w.heap.size w w' ∧ w'.cell? ⟨g, 0, none⟩ = some (.string op) := by
  obtain ⟨i0, hi, hz0, hz1, hz2⟩ := info_parts infoStr
  have hW := within_one a op _ w h0 h1
  have hV := within_num c
  have hN : ∀ (g cap : Nat) (W : World), 1 ≤ cap → (Builtin.append_ #[75, 75] 75 #[.slice (some ⟨g, 0, none⟩) 1 cap, .slice none 0 0]).run Tryd.prog W = .ok (.slice (some ⟨g, 0, none⟩) 1 cap) W := by
    intro g cap W hc
    simp [Builtin.append_, run_underlying Tryd.underlying75, sizeOf, typeInfo, hi, Builtin.lenOf, Builtin.firstCells, hc, storeCells]
  go_enter Tryd.func41, Tryd.ntmps41
  go_wp2
  refine wp_loop_rounds 3 ?_
  rw [rounds_succ]
  go_wp2_with (first | (go_at_call 56; refine hW.mono ?_; rintro e w' ⟨rfl, rfl⟩) | (at_builtin; refine wpList_append_grows _ rfl (.tmp 13) (.tmp 14) 75 rfl 9 i0 (.string (ByteArray.mk #[])) 1 16 Tryd.underlying75 hi hz0 hz1 hz2 rfl (by decide) none 0 0 [] rfl (fun _ => ⟨rfl, rfl⟩) rfl (by intro _ hb; cases hb) ⟨w.heap.size, 0, none⟩ 1 1 [.string op] rfl rfl ?c1 ?c2 (by omega) (by unfold maxLen; omega) (by omega) ?grow) | go_in)
  case c1 => intro j u hj; match j, hj with | 0, hj => simp at hj; subst hj; simp [Addr.add]
  case c2 => intro u hu; simp at hu; subst hu; rfl
  case grow =>
    intro v' w2 hown hgrow
    obtain ⟨g, cap, rfl, hg0, hg1⟩ := hown.form (by omega)
    have hcell := hown.cellAt 0 (by omega)
    have hcap : 1 ≤ cap := by
      obtain ⟨_, h | ⟨g', cap', cur, hv, _, _, hc, _⟩⟩ := hown
      · cases h.1
      · cases hv; exact hc
    have hb : Below w.heap.size w w2 := (((Below.refl _ _).alloc (Nat.le_refl _) _).drew).grown hgrow (by simp) (fun k h => by cases h)
    have hN' := hN g cap w2 hcap
    have hV' := hV w2
    go_wp2
    rw [rounds_succ]
    go_wp2_with (first | (go_at_call 56; refine hV'.mono ?_; rintro e w' ⟨rfl, rfl⟩) | go_in)
    rw [rounds_succ]
    go_wp2
    go_ret
    exact ⟨g, cap, rfl, hb, by simpa using hcell⟩
def ErrIs (op : ByteArray) (w : World) (v : Value) (c : Int) : Prop :=
  (c = 0 ∧ v = .nilIface) ∨ (c ≠ 0 ∧ ∃ a : Addr, v = .iface 131 (.pointer (some a)) ∧ w.cell? a = some (.string op) ∧ w.cell? ⟨a.block, a.off + 1, none⟩ = some (.iface 54 (.int .i64 c)))
theorem ErrIs.below {op : ByteArray} {w w' : World} {v : Value} {c : Int} (h : ErrIs op w v c) (hb : Below w.heap.size w w') : ErrIs op w' v c := by
  rcases h with h | ⟨hc, a, hv, h0, h1⟩
  · exact .inl h
  · exact .inr ⟨hc, a, hv, (hb.cell (lt_of_cell h0)).trans h0, (hb.cell (p := ⟨a.block, a.off + 1, none⟩) (lt_of_cell (a := ⟨a.block, a.off + 1, none⟩) h1)).trans h1⟩
theorem ErrIs.nil (op : ByteArray) (w : World) : ErrIs op w .nilIface 0 := .inl ⟨rfl, rfl⟩
theorem ErrIs.none {op : ByteArray} {w : World} {v : Value} (h : ErrIs op w v 0) : v = .nilIface := by
  rcases h with h | ⟨hc, _⟩
  · exact h.2
  · exact absurd rfl hc
theorem ErrIs.some {op : ByteArray} {w : World} {v : Value} {c : Int} (h : ErrIs op w v c) (hc : c ≠ 0) : ∃ a : Addr, v = .iface 131 (.pointer (some a)) := by
  rcases h with h | ⟨_, a, hv, _⟩
  · exact absurd h.1 hc
  · exact ⟨a, hv⟩
theorem Laid.below {w w' : World} (h : Laid w) (hb : Below w.heap.size w w') : Laid w' := (hb.cell (lt_of_cell h)).trans h
theorem Ops_nil (w : World) : Calls Tryd.prog 41 #[.nilIface] w fun e w' => e = .returned (.slice none 0 0) ∧ w' = w := by
  go_enter Tryd.func41, Tryd.ntmps41
  go_wp2
  refine wp_loop_rounds 1 ?_
  rw [rounds_succ]
  go_wp2
  go_ret
  exact ⟨rfl, rfl⟩
end Go.Proofs.YtfcandmhalhaeaaDoor.YErr
