/- Lean functions, contracts and lemmas that this claim needs. No condition. -/
import Derived.Test.YtfcandmhalhaeaaDoorProg
import Derived.WalkKit
import Derived.LaidEql
import Derived.Stop.Asserts
import Derived.RowKitTokens
import Derived.Below
import Derived.Lib.Hide
namespace Go.Proofs.YtfcandmhalhaeaaDoor.YErr
open Go.RowKit Go.Extern.Stop Go.Stop Go.Extern
set_option linter.unusedVariables false
set_option linter.unusedSimpArgs false
/-- The variable errors.errorType holds the handle of 'error'. -/
def Laid (w : World) : Prop := w.cell? ⟨0, 0, none⟩ = some (.iface 141 (.agg #[.pointer (some ⟨1, 34, none⟩)]))
/-- An error that faults wrap: their ops, outermost first, and the number. -/
def IsErr (w : World) : Value → List ByteArray → Int → Prop
  | v, [], c => v = .iface 54 (.int .i64 c)
  | v, op :: ops, c => ∃ (a : Addr) (u : Value), v = .iface 131 (.pointer (some a)) ∧ w.cell? a = some (.string op) ∧ w.cell? ⟨a.block, a.off + 1, none⟩ = some u ∧ IsErr w u ops c
theorem IsErr.below {w w' : World} {c : Int} (hb : Below w.heap.size w w') : ∀ {ops : List ByteArray} {v : Value}, IsErr w v ops c → IsErr w' v ops c
  | [], _, h => h
  | op :: ops, v, ⟨a, u, hv, h0, h1, h⟩ => ⟨a, u, hv, (hb.cell (World.block_lt_of_cell? w a h0)).trans h0, (hb.cell (World.block_lt_of_cell? w _ h1)).trans h1, IsErr.below hb h⟩
theorem valueOfP (t : Addr) (w : World) : (ReflectliteValue.unpack (.iface 87 (.pointer (some t)))).run Tryd.prog w
    = .ok (.agg #[.pointer (some ⟨1, 87, none⟩), .pointer (some ⟨w.heap.size, 0, none⟩), .int .u64 150]) (w.alloc (.cells #[.pointer (some t)] 87)) := by kernel_rfl
theorem typeP (a : Addr) (w : World) : (ReflectliteValue.methodAny (ReflectliteValue.valueError "reflectlite.Value.Type" 0) (fun t _ _ _ => ReflectliteType.toType t) #[.agg #[.pointer (some ⟨1, 87, none⟩), .pointer (some a), .int .u64 150]]).run Tryd.prog w
    = .ok (.iface 141 (.agg #[.pointer (some ⟨1, 87, none⟩)])) w := by kernel_rfl
theorem methodKind (h : Value) (w : World) : (Go.method 283 141 (.agg #[h]) "Kind").run Tryd.prog w = .ok (104, h) w := by kernel_rfl
theorem kindP (w : World) : ((ReflectliteType.abiMethod fun t => (fun a : Nat => Value.int IntKind.u8 (a : Int)) <$> Rtype.kind t) #[.pointer (some ⟨1, 87, none⟩)]).run Tryd.prog w = .ok (.int .u8 22) w := by kernel_rfl
theorem kindE (w : World) : ((ReflectliteType.abiMethod fun t => (fun a : Nat => Value.int IntKind.u8 (a : Int)) <$> Rtype.kind t) #[.pointer (some ⟨1, 54, none⟩)]).run Tryd.prog w = .ok (.int .u8 2) w := by kernel_rfl
theorem rlm (z : Sem Value) (f : TypeId → Addr → Nat → Nat → Sem Value) (v : Value) :
    ReflectliteValue.method z f #[v] = (do match ← ReflectliteValue.parts v with | none => z | some (t, a, fl) => f t a fl (fl % 32)) := rfl
theorem partsP (a : Addr) (w : World) : (ReflectliteValue.parts (.agg #[.pointer (some ⟨1, 87, none⟩), .pointer (some a), .int .u64 150])).run Tryd.prog w = .ok (some (87, a, 150)) w := by kernel_rfl
theorem isNilP (a p : Addr) (W : World) (ha : W.cell? a = some (.pointer (some p))) :
    (ReflectliteValue.method (ReflectliteValue.valueError "reflectlite.Value.IsNil" 0) ReflectliteValue.isNil #[.agg #[.pointer (some ⟨1, 87, none⟩), .pointer (some a), .int .u64 150]]).run Tryd.prog W = .ok (.bool false) W := by
  rw [rlm]
  simp only [Sem.run_bind, partsP, Result.andThen]
  simp [ReflectliteValue.isNil, loadVar, isAgg, underlying, Tryd.underlying87, ha, Result.andThen]
theorem methodElem (h : Value) (w : World) : (Go.method 283 141 (.agg #[h]) "Elem").run Tryd.prog w = .ok (116, .agg #[h]) w := by kernel_rfl
theorem methodImplements (h : Value) (w : World) : (Go.method 283 141 (.agg #[h]) "Implements").run Tryd.prog w = .ok (117, .agg #[h]) w := by kernel_rfl
theorem methodAssignableTo (h : Value) (w : World) : (Go.method 283 141 (.agg #[h]) "AssignableTo").run Tryd.prog w = .ok (114, .agg #[h]) w := by kernel_rfl
theorem elemP (w : World) : (ReflectliteType.method ReflectliteType.elem #[.agg #[.pointer (some ⟨1, 87, none⟩)]]).run Tryd.prog w = .ok (.iface 141 (.agg #[.pointer (some ⟨1, 54, none⟩)])) w := by kernel_rfl
theorem implementsE (w : World) : (ReflectliteType.relation "Implements" ReflectliteType.implements_ #[.agg #[.pointer (some ⟨1, 54, none⟩)], .iface 141 (.agg #[.pointer (some ⟨1, 34, none⟩)])]).run Tryd.prog w = .ok (.bool true) w := by kernel_rfl
theorem typeOfE (v : Value) (w : World) : (ReflectliteType.typeOf #[.iface 54 v]).run Tryd.prog w = .ok (.iface 141 (.agg #[.pointer (some ⟨1, 54, none⟩)])) w := by kernel_rfl
theorem typeOfF (v : Value) (w : World) : (ReflectliteType.typeOf #[.iface 131 v]).run Tryd.prog w = .ok (.iface 141 (.agg #[.pointer (some ⟨1, 131, none⟩)])) w := by kernel_rfl
theorem assignableE (w : World) : (ReflectliteType.relation "AssignableTo" ReflectliteType.assignableTo #[.agg #[.pointer (some ⟨1, 54, none⟩)], .iface 141 (.agg #[.pointer (some ⟨1, 54, none⟩)])]).run Tryd.prog w = .ok (.bool true) w := by kernel_rfl
theorem assignableF (w : World) : (ReflectliteType.relation "AssignableTo" ReflectliteType.assignableTo #[.agg #[.pointer (some ⟨1, 131, none⟩)], .iface 141 (.agg #[.pointer (some ⟨1, 54, none⟩)])]).run Tryd.prog w = .ok (.bool false) w := by kernel_rfl
theorem valueOfE (n : Int) (w : World) : (ReflectliteValue.unpack (.iface 54 (.int .i64 n))).run Tryd.prog w
    = .ok (.agg #[.pointer (some ⟨1, 54, none⟩), .pointer (some ⟨w.heap.size, 0, none⟩), .int .u64 130]) (w.alloc (.cells #[.int .i64 n] 54)) := by kernel_rfl
theorem elemOfP (w : World) : (Rtype.elem? 87).run Tryd.prog w = .ok (some 54) w := by kernel_rfl
theorem mkE (p : Addr) (w : World) : (ReflectliteValue.mk 54 p ReflectliteValue.flagAddr).run Tryd.prog w = .ok (.agg #[.pointer (some ⟨1, 54, none⟩), .pointer (some p), .int .u64 386]) w := by kernel_rfl
theorem elemVP (a p : Addr) (W : World) (ha : W.cell? a = some (.pointer (some p))) :
    (ReflectliteValue.method (ReflectliteValue.valueError "reflectlite.Value.Elem" 0) ReflectliteValue.elem #[.agg #[.pointer (some ⟨1, 87, none⟩), .pointer (some a), .int .u64 150]]).run Tryd.prog W
      = .ok (.agg #[.pointer (some ⟨1, 54, none⟩), .pointer (some p), .int .u64 386]) W := by
  rw [rlm]
  simp only [Sem.run_bind, partsP, Result.andThen]
  simp [ReflectliteValue.elem, loadVar, isAgg, underlying, Tryd.underlying87, ha, Result.andThen, elemOfP, mkE]
theorem rls (v x : Value) : ReflectliteValue.set #[v, x] = (do
    let (some (dst, a, fl), some (src, b, _)) := (← ReflectliteValue.parts v, ← ReflectliteValue.parts x)
      | unsupported (.noEntry "extern/(internal/reflectlite.Value).Set.zeroValue")
    if fl / ReflectliteValue.flagAddr % 2 == 0 then unsupported (.noEntry "extern/(internal/reflectlite.Value).Set.unaddressable")
    let val ← loadVar src b
    if ← Rtype.directlyAssignable dst src then storeVar dst a val
    else if ← Rtype.implements dst src then
      if (← Rtype.kind src) == 20 then
        match val with
        | .nilIface => unsupported (.noEntry "extern/reflectlite: a nil value of one interface type handed on as a value of another")
        | _ => storeVar dst a val
      else storeVar dst a (.iface src val)
    else panicString ("reflectlite.Set: value of type " ++ (← Rtype.spelt src) ++ " is not assignable to type " ++ (← Rtype.spelt dst))
    pure (.tuple #[])) := rfl
theorem partsEa (a : Addr) (w : World) : (ReflectliteValue.parts (.agg #[.pointer (some ⟨1, 54, none⟩), .pointer (some a), .int .u64 386])).run Tryd.prog w = .ok (some (54, a, 386)) w := by kernel_rfl
theorem partsE (a : Addr) (w : World) : (ReflectliteValue.parts (.agg #[.pointer (some ⟨1, 54, none⟩), .pointer (some a), .int .u64 130])).run Tryd.prog w = .ok (some (54, a, 130)) w := by kernel_rfl
theorem directE (w : World) : (Rtype.directlyAssignable 54 54).run Tryd.prog w = .ok true w := by kernel_rfl
theorem setE (ta b : Addr) (n : Int) (old : Value) (W : World) (hb : W.cell? b = some (.int .i64 n)) (ht : W.cell? ta = some old) (hf : W.frozen? ta = false) :
    (ReflectliteValue.set #[.agg #[.pointer (some ⟨1, 54, none⟩), .pointer (some ta), .int .u64 386], .agg #[.pointer (some ⟨1, 54, none⟩), .pointer (some b), .int .u64 130]]).run Tryd.prog W
      = .ok (.tuple #[]) (W.setCell ta (.int .i64 n)) := by
  rw [rls]
  simp only [Sem.run_bind, partsEa, partsE, Result.andThen]
  simp [ReflectliteValue.flagAddr, loadVar, isAgg, underlying, Tryd.underlying54, hb, Result.andThen, directE, storeVar, Value.cells, storeCells, Addr.add]
  rw [run_store Tryd.prog W ta _ _ (by rfl)]
  simp [ht, hf]
theorem noAsF (v : Value) (w : World) : (Instr.typeAssert (.iface 131 v) 34 146 true).run Tryd.prog w = .ok (.tuple #[.nilIface, .bool false]) w := run_typeAssert_lacksB Tryd.underlying146 (by kernel_rfl) (by kernel_rfl) v 34 w
theorem unwrapF (v : Value) (w : World) : (Instr.typeAssert (.iface 131 v) 34 149 true).run Tryd.prog w = .ok (.tuple #[.iface 131 v, .bool true]) w := run_typeAssert_hasB Tryd.underlying149 (by kernel_rfl) v 34 w
theorem noUnwrapsF (v : Value) (w : World) : (Instr.typeAssert (.iface 131 v) 34 134 true).run Tryd.prog w = .ok (.tuple #[.nilIface, .bool false]) w := run_typeAssert_lacksB Tryd.underlying134 (by kernel_rfl) (by kernel_rfl) v 34 w
theorem noUnwrapsE (v : Value) (w : World) : (Instr.typeAssert (.iface 54 v) 34 134 true).run Tryd.prog w = .ok (.tuple #[.nilIface, .bool false]) w := run_typeAssert_lacksB Tryd.underlying134 (by kernel_rfl) (by kernel_rfl) v 34 w
theorem methodUnwrap (a : Addr) (w : World) : (Go.method 283 131 (.pointer (some a)) "Unwrap").run Tryd.prog w = .ok (112, .pointer (some a)) w := by kernel_rfl
/-- (*Fault).Unwrap: what the fault wraps. -/
theorem unwrap_calls (a : Addr) (u : Value) (w : World) (h0 : w.cell? ⟨a.block, a.off + 1, none⟩ = some u) :
    Calls Tryd.prog 112 #[.pointer (some a)] w fun e w' => e = .returned u ∧ w' = w := by
  go_enter Tryd.func112, Tryd.ntmps112
  go_wp2
  go_ret
  exact ⟨rfl, rfl⟩
theorem lt_of_cell {w : World} {a : Addr} {v : Value} (h : w.cell? a = some v) : a.block < w.heap.size := World.block_lt_of_cell? w a h
set_option maxRecDepth 100000 in
set_option maxHeartbeats 8000000 in
theorem as_one (a a0 t : Addr) (c : Int) (old : Value) (w : World) (hu : w.cell? ⟨a.block, a.off + 1, none⟩ = some (.iface 54 (.int .i64 c)))
    (h0 : w.cell? a0 = some (.pointer (some t))) (ht : w.cell? t = some old) (hf : w.frozen? t = false) :
    Calls Tryd.prog 62 #[.iface 131 (.pointer (some a)), .iface 87 (.pointer (some t)), .agg #[.pointer (some ⟨1, 87, none⟩), .pointer (some a0), .int .u64 150], .iface 141 (.agg #[.pointer (some ⟨1, 54, none⟩)])] w fun e w' =>
      e = .returned (.bool true) ∧ w' = ((w.alloc (.cells #[.pointer (some ⟨1, 87, none⟩), .pointer (some a0), .int .u64 150] 108)).alloc (.cells #[.int .i64 c] 54)).setCell t (.int .i64 c) := by
  have hTO := @run_callFunc_extern Tryd.prog 78 _ ReflectliteType.typeOf Tryd.func78 (by kernel_rfl) (by kernel_rfl) (by kernel_rfl) (by kernel_rfl)
  have hAT := @run_callFunc_extern Tryd.prog 114 _ (ReflectliteType.relation "AssignableTo" ReflectliteType.assignableTo) Tryd.func114 (by kernel_rfl) (by kernel_rfl) (by kernel_rfl) (by kernel_rfl)
  have hVO := @run_callFunc_extern Tryd.prog 59 _ (fun args => ReflectliteValue.unpack (args.getD 0 (.tuple #[]))) Tryd.func59 (by kernel_rfl) (by kernel_rfl) (by kernel_rfl) (by kernel_rfl)
  have hEl := @run_callFunc_extern Tryd.prog 79 _ (ReflectliteValue.method (ReflectliteValue.valueError "reflectlite.Value.Elem" 0) ReflectliteValue.elem) Tryd.func79 (by kernel_rfl) (by kernel_rfl) (by kernel_rfl) (by kernel_rfl)
  have hSe := @run_callFunc_extern Tryd.prog 80 _ ReflectliteValue.set Tryd.func80 (by kernel_rfl) (by kernel_rfl) (by kernel_rfl) (by kernel_rfl)
  have l0 := lt_of_cell h0
  have lt := lt_of_cell ht
  have lu := lt_of_cell hu
  have tE := typeOfE
  have tF := typeOfF
  have mA := methodAssignableTo
  have aE := assignableE
  have aF := assignableF
  have vE := valueOfE
  have nA := noAsF
  have uF := unwrapF
  have mU := methodUnwrap
  have el := elemVP a0 t (w.alloc (.cells #[.pointer (some ⟨1, 87, none⟩), .pointer (some a0), .int .u64 150] 108)) (by rw [World.cell?_alloc_lt _ _ a0 l0]; exact h0)
  have st := setE t ⟨w.heap.size + 1, 0, none⟩ c old ((w.alloc (.cells #[.pointer (some ⟨1, 87, none⟩), .pointer (some a0), .int .u64 150] 108)).alloc (.cells #[.int .i64 c] 54))
    (by rw [World.cell?_alloc_at _ _ _ _ (by simp)]; rfl)
    (by rw [World.cell?_alloc_lt _ _ t (by simp; omega), World.cell?_alloc_lt _ _ t lt]; exact ht)
    (by rw [World.frozen?_alloc_old _ _ t (by simp; omega), World.frozen?_alloc_old _ _ t (Nat.ne_of_lt lt)]; exact hf)
  have hU := unwrap_calls a (.iface 54 (.int .i64 c)) (w.alloc (.cells #[.pointer (some ⟨1, 87, none⟩), .pointer (some a0), .int .u64 150] 108)) (by rw [World.cell?_alloc_lt _ _ _ lu]; exact hu)
  go_enter Tryd.func62, Tryd.ntmps62
  go_wp2
  refine wp_loop_rounds 2 ?_
  rw [rounds_succ]
  go_wp2_with (first | (go_at_call 112; refine hU.mono ?_; rintro e w' ⟨rfl, rfl⟩) | go_in)
  rw [rounds_succ]
  go_wp2
  go_ret
  exact ⟨rfl, rfl⟩
end Go.Proofs.YtfcandmhalhaeaaDoor.YErr
