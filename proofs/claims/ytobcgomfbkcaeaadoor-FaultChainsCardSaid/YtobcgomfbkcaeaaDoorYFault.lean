/- Errors that faults wrap and that errors.Join joins by twos, as trees: errors.as, errors.As, errors.is, errors.Is, fault.Code, fault.Is on any such tree. Conditions: the error reads as the tree, and errors.errorType holds its type's handle. -/
import Derived.Test.YtobcgomfbkcaeaaDoorYErr2
import Derived.Test.YtobcgomfbkcaeaaDoorYBlk
import Derived.Deep.LoopGhost
namespace Go.Proofs.YtobcgomfbkcaeaaDoor.YErr
open Go.RowKit Go.Extern.Stop Go.Stop Go.Extern
set_option linter.unusedVariables false
set_option linter.unusedSimpArgs false

/-- An error: a number, a fault that wraps one, two that are joined. -/
inductive E where
  | num (c : Int)
  | wrap (op : ByteArray) (e : E)
  | two (x y : E)
namespace E
def size : E → Nat
  | num _ => 1
  | wrap _ e => size e + 1
  | two x y => size x + size y + 1
def lead : E → Int
  | num c => c
  | wrap _ e => lead e
  | two x _ => lead x
def ops : E → List ByteArray
  | num _ => []
  | wrap op e => op :: ops e
  | two x _ => ops x
def has (m : Int) : E → Bool
  | num c => decide (c = m)
  | wrap _ e => has m e
  | two x y => has m x || has m y
theorem size_pos (e : E) : 0 < e.size := by cases e <;> simp [size]
end E

/-- The error reads as the tree. -/
def At (w : World) : Value → E → Prop
  | v, .num c => v = .iface 27 (.int .i64 c)
  | v, .wrap op e => ∃ (a : Addr) (u : Value), v = .iface 34 (.pointer (some a)) ∧ w.cell? a = some (.string op) ∧ w.cell? ⟨a.block, a.off + 1, none⟩ = some u ∧ At w u e
  | v, .two x y => ∃ (a : Addr) (b c : Nat) (u1 u2 : Value), v = .iface 69 (.pointer (some a)) ∧ w.cell? a = some (.slice (some ⟨b, 0, none⟩) 2 c) ∧ w.cell? ⟨b, 0, none⟩ = some u1 ∧ w.cell? ⟨b, 1, none⟩ = some u2 ∧ At w u1 x ∧ At w u2 y
theorem lt_cell {w : World} {a : Addr} {v : Value} (h : w.cell? a = some v) : a.block < w.heap.size := World.block_lt_of_cell? w a h
theorem At.below {w w' : World} (hb : Below w.heap.size w w') : ∀ {e : E} {v : Value}, At w v e → At w' v e
  | .num _, _, h => h
  | .wrap _ e, _, ⟨a, u, hv, h0, h1, h⟩ => ⟨a, u, hv, (hb.cell (lt_cell h0)).trans h0, (hb.cell (lt_cell h1)).trans h1, At.below hb h⟩
  | .two _ _, _, ⟨a, b, c, u1, u2, hv, h0, h1, h2, hx, hy⟩ => ⟨a, b, c, u1, u2, hv, (hb.cell (lt_cell h0)).trans h0, (hb.cell (lt_cell h1)).trans h1, (hb.cell (lt_cell h2)).trans h2, At.below hb hx, At.below hb hy⟩
theorem At.alloc {w : World} {e : E} {v : Value} (h : At w v e) (o : Obj) : At (w.alloc o) v e := h.below ((Below.refl _ _).alloc (Nat.le_refl _) o)
theorem At.some {w : World} : ∀ {e : E} {v : Value}, At w v e → ∃ t u, v = .iface t u
  | .num _, _, h => ⟨_, _, h⟩
  | .wrap _ _, _, ⟨_, _, h, _⟩ => ⟨_, _, h⟩
  | .two _ _, _, ⟨_, _, _, _, _, h, _⟩ => ⟨_, _, h⟩

/-! ### closed facts -/
theorem typeOfJ (v : Value) (w : World) : (ReflectliteType.typeOf #[.iface 69 v]).run Tryd.prog w = .ok (.iface 73 (.agg #[.pointer (some ⟨4, 69, none⟩)])) w := by kernel_rfl
theorem assignableJ (w : World) : (ReflectliteType.relation "AssignableTo" ReflectliteType.assignableTo #[.agg #[.pointer (some ⟨4, 69, none⟩)], .iface 73 (.agg #[.pointer (some ⟨4, 27, none⟩)])]).run Tryd.prog w = .ok (.bool false) w := by kernel_rfl
theorem noAsJ (v : Value) (w : World) : (Instr.typeAssert (.iface 69 v) 25 77 true).run Tryd.prog w = .ok (.tuple #[.nilIface, .bool false]) w := run_typeAssert_lacksB Tryd.underlying77 (by kernel_rfl) (by kernel_rfl) v 25 w
theorem noUnwrapJ (v : Value) (w : World) : (Instr.typeAssert (.iface 69 v) 25 80 true).run Tryd.prog w = .ok (.tuple #[.nilIface, .bool false]) w := run_typeAssert_lacksB Tryd.underlying80 (by kernel_rfl) (by kernel_rfl) v 25 w
theorem unwrapsJ (v : Value) (w : World) : (Instr.typeAssert (.iface 69 v) 25 64 true).run Tryd.prog w = .ok (.tuple #[.iface 69 v, .bool true]) w := run_typeAssert_hasB Tryd.underlying64 (by kernel_rfl) v 25 w
theorem methodUnwraps (a : Addr) (w : World) : (Go.method 231 69 (.pointer (some a)) "Unwrap").run Tryd.prog w = .ok (66, .pointer (some a)) w := by kernel_rfl
theorem noIsF (v : Value) (w : World) : (Instr.typeAssert (.iface 34 v) 25 82 true).run Tryd.prog w = .ok (.tuple #[.nilIface, .bool false]) w := run_typeAssert_lacksB Tryd.underlying82 (by kernel_rfl) (by kernel_rfl) v 25 w
theorem noIsE (v : Value) (w : World) : (Instr.typeAssert (.iface 27 v) 25 82 true).run Tryd.prog w = .ok (.tuple #[.nilIface, .bool false]) w := run_typeAssert_lacksB Tryd.underlying82 (by kernel_rfl) (by kernel_rfl) v 25 w
theorem noIsJ (v : Value) (w : World) : (Instr.typeAssert (.iface 69 v) 25 82 true).run Tryd.prog w = .ok (.tuple #[.nilIface, .bool false]) w := run_typeAssert_lacksB Tryd.underlying82 (by kernel_rfl) (by kernel_rfl) v 25 w
theorem noUnwrapE (v : Value) (w : World) : (Instr.typeAssert (.iface 27 v) 25 80 true).run Tryd.prog w = .ok (.tuple #[.nilIface, .bool false]) w := run_typeAssert_lacksB Tryd.underlying80 (by kernel_rfl) (by kernel_rfl) v 25 w

/-- (*joinError).Unwrap: the list. -/
theorem unwraps_calls (a : Addr) (u : Value) (w : World) (h0 : w.cell? a = some u) :
    Calls Tryd.prog 66 #[.pointer (some a)] w fun e w' => e = .returned u ∧ w' = w := by
  go_enter Tryd.func66, Tryd.ntmps66
  go_wp2
  go_ret
  exact ⟨rfl, rfl⟩

set_option maxRecDepth 100000 in
set_option maxHeartbeats 8000000 in
theorem as_tree (n : Nat) : ∀ (e : E) (v : Value) (w : World) (a0 t : Addr) (old : Value), e.size ≤ n → At w v e → w.cell? a0 = some (.pointer (some t)) → w.cell? t = some old → w.frozen? t = false →
    Calls Tryd.prog 25 #[v, .iface 44 (.pointer (some t)), .agg #[.pointer (some ⟨4, 44, none⟩), .pointer (some a0), .int .u64 150], .iface 73 (.agg #[.pointer (some ⟨4, 27, none⟩)])] w fun r w' =>
      r = .returned (.bool true) ∧ w'.cell? t = some (.int .i64 e.lead) ∧ Below t.block w w' := by
  induction n with
  | zero => intro e _ _ _ _ _ h; have := e.size_pos; omega
  | succ n ih =>
    intro e v w a0 t old hsz hat h0 ht hf
    have hTO := @run_callFunc_extern Tryd.prog 27 _ ReflectliteType.typeOf Tryd.func27 (by kernel_rfl) (by kernel_rfl) (by kernel_rfl) (by kernel_rfl)
    have hAT := @run_callFunc_extern Tryd.prog 68 _ (ReflectliteType.relation "AssignableTo" ReflectliteType.assignableTo) Tryd.func68 (by kernel_rfl) (by kernel_rfl) (by kernel_rfl) (by kernel_rfl)
    have hVO := @run_callFunc_extern Tryd.prog 22 _ (fun args => ReflectliteValue.unpack (args.getD 0 (.tuple #[]))) Tryd.func22 (by kernel_rfl) (by kernel_rfl) (by kernel_rfl) (by kernel_rfl)
    have hEl := @run_callFunc_extern Tryd.prog 30 _ (ReflectliteValue.method (ReflectliteValue.valueError "reflectlite.Value.Elem" 0) ReflectliteValue.elem) Tryd.func30 (by kernel_rfl) (by kernel_rfl) (by kernel_rfl) (by kernel_rfl)
    have hSe := @run_callFunc_extern Tryd.prog 31 _ ReflectliteValue.set Tryd.func31 (by kernel_rfl) (by kernel_rfl) (by kernel_rfl) (by kernel_rfl)
    have l0 := lt_cell h0
    have lt := lt_cell ht
    have tE := typeOfE
    have tF := typeOfF
    have tJ := typeOfJ
    have mA := methodAssignableTo
    have aE := assignableE
    have aF := assignableF
    have aJ := assignableJ
    have vE := valueOfE
    have nA := noAsF
    have nJ := noAsJ
    have uF := unwrapF
    have uJ := noUnwrapJ
    have uJ2 := unwrapsJ
    have mU := methodUnwrap
    have mJ := methodUnwraps
    have bx : Below t.block w (w.alloc (.cells #[.pointer (some ⟨4, 44, none⟩), .pointer (some a0), .int .u64 150] 53)) := (Below.refl _ _).alloc (Nat.le_of_lt lt) _
    have el := elemVP a0 t (w.alloc (.cells #[.pointer (some ⟨4, 44, none⟩), .pointer (some a0), .int .u64 150] 53)) (by rw [World.cell?_alloc_lt _ _ a0 l0]; exact h0)
    have st := fun c => setE t ⟨w.heap.size + 1, 0, none⟩ c old ((w.alloc (.cells #[.pointer (some ⟨4, 44, none⟩), .pointer (some a0), .int .u64 150] 53)).alloc (.cells #[.int .i64 c] 27))
      (by rw [World.cell?_alloc_at _ _ _ _ (by simp)]; rfl)
      (by rw [World.cell?_alloc_lt _ _ t (by simp; omega), World.cell?_alloc_lt _ _ t lt]; exact ht)
      (by rw [World.frozen?_alloc_old _ _ t (by simp; omega), World.frozen?_alloc_old _ _ t (Nat.ne_of_lt lt)]; exact hf)
    have cb : (w.alloc (.cells #[.pointer (some ⟨4, 44, none⟩), .pointer (some a0), .int .u64 150] 53)).cell? ⟨w.heap.size, 0, none⟩ = some (.pointer (some ⟨4, 44, none⟩)) := by go_simp
    have hat1 := hat.alloc (.cells #[.pointer (some ⟨4, 44, none⟩), .pointer (some a0), .int .u64 150] 53)
    have h01 := (World.cell?_alloc_lt w (.cells #[.pointer (some ⟨4, 44, none⟩), .pointer (some a0), .int .u64 150] 53) a0 l0).trans h0
    have ht1 := (World.cell?_alloc_lt w (.cells #[.pointer (some ⟨4, 44, none⟩), .pointer (some a0), .int .u64 150] 53) t lt).trans ht
    have hf1 := (World.frozen?_alloc_old w (.cells #[.pointer (some ⟨4, 44, none⟩), .pointer (some a0), .int .u64 150] 53) t (Nat.ne_of_lt lt)).trans hf
    obtain ⟨ty, pv, rfl⟩ := hat.some
    go_enter Tryd.func25, Tryd.ntmps25
    go_wp2
    go_loopg [0] (n + 1) (fun k p wr => wr = w.alloc (.cells #[.pointer (some ⟨4, 44, none⟩), .pointer (some a0), .int .u64 150] 53) ∧ ∃ e', At wr p e' ∧ e'.size ≤ k ∧ k ≤ n + 1 ∧ e'.lead = e.lead)
    case atStart => exact ⟨rfl, e, hat1, hsz, Nat.le_refl _, rfl⟩
    case round =>
      obtain ⟨rfl, e', he, hk, hkn, hl⟩ := hrel
      cases e' with
      | num c =>
        obtain rfl := he
        have stc := st c
        go_wp2
        go_ret
        refine ⟨rfl, ?_, ?_⟩
        · have q : ((w.alloc (.cells #[.pointer (some ⟨4, 44, none⟩), .pointer (some a0), .int .u64 150] 53)).alloc (.cells #[.int .i64 c] 27)).cell? t = some old := by
            rw [World.cell?_alloc_lt _ _ t (by simp; omega)]; exact ht1
          rw [← hl]
          exact World.cell?_setCell_same _ _ _ q
        · exact Below.setCell (bx.alloc (by simp; omega) _) (Nat.le_refl _) _
      | wrap op e2 =>
        obtain ⟨a, u, rfl, c0, c1, hu⟩ := he
        have hU := unwrap_calls a u _ c1
        obtain ⟨ty2, pv2, rfl⟩ := hu.some
        go_wp2_with (first | (go_at_call 15; refine hU.mono ?_; rintro e w' ⟨rfl, rfl⟩) | go_in)
        go_roundg (gk - 1)
        case measure => have := e2.size_pos; simp [E.size] at hk; omega
        case rel => exact ⟨rfl, e2, hu, by simp [E.size] at hk; omega, by omega, hl⟩
      | two x y =>
        obtain ⟨a, b, c, u1, u2, rfl, c0, c1, c2, hx, hy⟩ := he
        have hU := unwraps_calls a _ _ c0
        have hR := ih x u1 _ a0 t old (by simp [E.size] at hk; omega) hx h01 ht1 hf1
        obtain ⟨ty2, pv2, rfl⟩ := hx.some
        go_wp2_with (first | (go_at_call 66; refine hU.mono ?_; rintro e w' ⟨rfl, rfl⟩) | go_in)
        refine wp_loop_rounds 1 ?_
        rw [rounds_succ]
        go_wp2_with (first | (go_at_call 25; refine hR.mono ?_; rintro e w' ⟨rfl, q1, q2⟩) | go_in)
        go_ret
        exact ⟨rfl, by rw [q1]; exact congrArg (fun z => some (Value.int .i64 z)) hl, bx.trans q2⟩

set_option maxRecDepth 100000 in
set_option maxHeartbeats 8000000 in
theorem As_tree (e : E) (v : Value) (t : Addr) (old : Value) (w : World) (hg : Laid w) (hat : At w v e) (ht : w.cell? t = some old) (hf : w.frozen? t = false) :
    Calls Tryd.prog 17 #[v, .iface 44 (.pointer (some t))] w fun r w' =>
      r = .returned (.bool true) ∧ w'.cell? t = some (.int .i64 e.lead) ∧ Below t.block w w' := by
  have hVO := @run_callFunc_extern Tryd.prog 22 _ (fun args => ReflectliteValue.unpack (args.getD 0 (.tuple #[]))) Tryd.func22 (by kernel_rfl) (by kernel_rfl) (by kernel_rfl) (by kernel_rfl)
  have hTy := @run_callFunc_extern Tryd.prog 23 _ (ReflectliteValue.methodAny (ReflectliteValue.valueError "reflectlite.Value.Type" 0) (fun t _ _ _ => ReflectliteType.toType t)) Tryd.func23 (by kernel_rfl) (by kernel_rfl) (by kernel_rfl) (by kernel_rfl)
  have hNi := @run_callFunc_extern Tryd.prog 24 _ (ReflectliteValue.method (ReflectliteValue.valueError "reflectlite.Value.IsNil" 0) ReflectliteValue.isNil) Tryd.func24 (by kernel_rfl) (by kernel_rfl) (by kernel_rfl) (by kernel_rfl)
  have hKi := @run_callFunc_extern Tryd.prog 58 _ (ReflectliteType.abiMethod fun t => do pure (.int .u8 (← Rtype.kind t))) Tryd.func58 (by kernel_rfl) (by kernel_rfl) (by kernel_rfl) (by kernel_rfl)
  have hTE := @run_callFunc_extern Tryd.prog 70 _ (ReflectliteType.method ReflectliteType.elem) Tryd.func70 (by kernel_rfl) (by kernel_rfl) (by kernel_rfl) (by kernel_rfl)
  have hIm := @run_callFunc_extern Tryd.prog 71 _ (ReflectliteType.relation "Implements" ReflectliteType.implements_) Tryd.func71 (by kernel_rfl) (by kernel_rfl) (by kernel_rfl) (by kernel_rfl)
  have lt := lt_cell ht
  have lg := lt_cell hg
  have fV := valueOfP
  have fT := typeP
  have mK := methodKind
  have mE := methodElem
  have mI := methodImplements
  have kP := kindP
  have kE := kindE
  have eP := elemP
  have iE := implementsE
  have n8 := isNilP ⟨w.heap.size, 0, none⟩ t ((w.alloc (.cells #[.pointer (some t)] 44)).alloc (.cells #[.pointer (some ⟨4, 44, none⟩), .pointer (some ⟨w.heap.size, 0, none⟩), .int .u64 150] 53)) (by simp)
  have hg2 : ((w.alloc (.cells #[.pointer (some t)] 44)).alloc (.cells #[.pointer (some ⟨4, 44, none⟩), .pointer (some ⟨w.heap.size, 0, none⟩), .int .u64 150] 53)).cell? ⟨0, 0, none⟩ = some (.iface 73 (.agg #[.pointer (some ⟨4, 25, none⟩)])) := by
    rw [World.cell?_alloc_lt _ _ ⟨0, 0, none⟩ (by simp), World.cell?_alloc_lt _ _ ⟨0, 0, none⟩ lg]; exact hg
  have hA := as_tree e.size e v ((w.alloc (.cells #[.pointer (some t)] 44)).alloc (.cells #[.pointer (some ⟨4, 44, none⟩), .pointer (some ⟨w.heap.size, 0, none⟩), .int .u64 150] 53)) ⟨w.heap.size, 0, none⟩ t old (Nat.le_refl _) ((hat.alloc _).alloc _)
    (by simp)
    (by rw [World.cell?_alloc_lt _ _ t (by simp; omega), World.cell?_alloc_lt _ _ t lt]; exact ht)
    (by rw [World.frozen?_alloc_old _ _ t (by simp; omega), World.frozen?_alloc_old _ _ t (Nat.ne_of_lt lt)]; exact hf)
  have bx : Below t.block w ((w.alloc (.cells #[.pointer (some t)] 44)).alloc (.cells #[.pointer (some ⟨4, 44, none⟩), .pointer (some ⟨w.heap.size, 0, none⟩), .int .u64 150] 53)) :=
    ((Below.refl _ _).alloc (Nat.le_of_lt lt) _).alloc (by simp; omega) _
  obtain ⟨ty, pv, rfl⟩ := hat.some
  go_enter Tryd.func17, Tryd.ntmps17
  go_wp2_with (first | (go_at_call 25; refine hA.mono ?_; rintro r w' ⟨rfl, q1, q2⟩) | go_in)
  go_ret
  exact ⟨rfl, q1, bx.trans q2⟩

set_option maxRecDepth 100000 in
set_option maxHeartbeats 8000000 in
/-- fault.Code of a tree: its first number. -/
theorem Code_tree {e : E} {v : Value} {w : World} (hg : Laid w) (hat : At w v e) :
    Calls Tryd.prog 9 #[v] w fun r w' => r = .returned (.int .i64 e.lead) ∧ Below w.heap.size w w' := by
  have lg := lt_cell hg
  have hA := As_tree e v ⟨w.heap.size, 0, none⟩ (.int .i64 0) (w.alloc (.cells #[.int .i64 0] 27)) ((World.cell?_alloc_lt _ _ ⟨0, 0, none⟩ lg).trans hg) (hat.alloc _) (by simp) (by simp)
  have b0 : Below w.heap.size w (w.alloc (.cells #[.int .i64 0] 27)) := (Below.refl _ _).alloc (Nat.le_refl _) _
  obtain ⟨ty, pv, rfl⟩ := hat.some
  go_enter Tryd.func9, Tryd.ntmps9
  go_wp2_with (first | (go_at_call 17; refine hA.mono ?_; rintro r w' ⟨rfl, q1, q2⟩) | go_in)
  go_ret
  exact ⟨rfl, b0.trans q2⟩

theorem ne_FE (p : Value) (m : Int) (w : World) : (binOp .eql 25 (.iface 34 p) (.iface 27 (.int .i64 m))).run Tryd.prog w = .ok (.bool false) w := by kernel_rfl
theorem ne_JE (p : Value) (m : Int) (w : World) : (binOp .eql 25 (.iface 69 p) (.iface 27 (.int .i64 m))).run Tryd.prog w = .ok (.bool false) w := by kernel_rfl
theorem ne_nE (m : Int) (w : World) : (binOp .eql 25 .nilIface (.iface 27 (.int .i64 m))).run Tryd.prog w = .ok (.bool false) w := by kernel_rfl
theorem eq_EE (c m : Int) (w : World) : (binOp .eql 25 (.iface 27 (.int .i64 c)) (.iface 27 (.int .i64 m))).run Tryd.prog w = .ok (.bool (decide (c = m))) w := by
  have h : (binOp .eql 25 (.iface 27 (.int .i64 c)) (.iface 27 (.int .i64 m))).run Tryd.prog w = .ok (.bool (c == m)) w := by kernel_rfl
  rw [h]; rfl

set_option maxRecDepth 100000 in
set_option maxHeartbeats 8000000 in
theorem is_tree (m : Int) (n : Nat) : ∀ (e : E) (v : Value) (w : World), e.size ≤ n → At w v e →
    Calls Tryd.prog 28 #[v, .iface 27 (.int .i64 m), .bool true] w fun r w' => r = .returned (.bool (e.has m)) ∧ w' = w := by
  induction n with
  | zero => intro e _ _ h; have := e.size_pos; omega
  | succ n ih =>
    intro e v w hsz hat
    have nF := noIsF
    have nE := noIsE
    have nJ := noIsJ
    have uF := unwrapF
    have uE := noUnwrapE
    have uE2 := noUnwrapsE
    have uJ := noUnwrapJ
    have uJ2 := unwrapsJ
    have mU := methodUnwrap
    have mJ := methodUnwraps
    have q1 := ne_FE
    have q2 := ne_JE
    have q3 := eq_EE
    obtain ⟨ty, pv, rfl⟩ := hat.some
    go_enter Tryd.func28, Tryd.ntmps28
    go_wp2
    go_loopg [0] (n + 1) (fun k p wr => wr = w ∧ ∃ e', At wr p e' ∧ e'.size ≤ k ∧ k ≤ n + 1 ∧ e'.has m = e.has m)
    case atStart => exact ⟨rfl, e, hat, hsz, Nat.le_refl _, rfl⟩
    case round =>
      obtain ⟨rfl, e', he, hk, hkn, hl⟩ := hrel
      cases e' with
      | num c =>
        obtain rfl := he
        by_cases hc : c = m
        · subst hc
          go_wp2
          go_ret
          exact ⟨by rw [← hl]; simp [E.has], rfl⟩
        · go_wp2
          go_ret
          exact ⟨by rw [← hl]; simp [E.has, hc], rfl⟩
      | wrap op e2 =>
        obtain ⟨a, u, rfl, c0, c1, hu⟩ := he
        have hU := unwrap_calls a u _ c1
        obtain ⟨ty2, pv2, rfl⟩ := hu.some
        go_wp2_with (first | (go_at_call 15; refine hU.mono ?_; rintro e w' ⟨rfl, rfl⟩) | go_in)
        go_roundg (gk - 1)
        case measure => have := e2.size_pos; simp [E.size] at hk; omega
        case rel => exact ⟨rfl, e2, hu, by simp [E.size] at hk; omega, by omega, hl⟩
      | two x y =>
        obtain ⟨a, b, c, u1, u2, rfl, c0, c1, c2, hx, hy⟩ := he
        have hU := unwraps_calls a _ _ c0
        have hX := ih x u1 _ (by simp [E.size] at hk; omega) hx
        have hY := ih y u2 _ (by simp [E.size] at hk; omega) hy
        have eh : (x.has m || y.has m) = e.has m := hl
        clear hl
        generalize x.has m = bx at *
        generalize y.has m = b_y at *
        obtain ⟨ty2, pv2, rfl⟩ := hx.some
        obtain ⟨ty3, pv3, rfl⟩ := hy.some
        cases bx
        · cases b_y
          all_goals
            go_wp2_with (first | (go_at_call 66; refine hU.mono ?_; rintro e w' ⟨rfl, rfl⟩) | go_in)
            refine wp_loop_rounds 3 ?_
            rw [rounds_succ]
            go_wp2_with (first | (go_at_call 28; refine hX.mono ?_; rintro e w' ⟨rfl, rfl⟩) | go_in)
            rw [rounds_succ]
            go_wp2_with (first | (go_at_call 28; refine hY.mono ?_; rintro e w' ⟨rfl, rfl⟩) | go_in)
          · rw [rounds_succ]
            go_wp2
            go_ret
            exact ⟨by rw [← eh]; rfl, rfl⟩
          · go_ret
            exact ⟨by rw [← eh]; rfl, rfl⟩
        · go_wp2_with (first | (go_at_call 66; refine hU.mono ?_; rintro e w' ⟨rfl, rfl⟩) | go_in)
          refine wp_loop_rounds 1 ?_
          rw [rounds_succ]
          go_wp2_with (first | (go_at_call 28; refine hX.mono ?_; rintro e w' ⟨rfl, rfl⟩) | go_in)
          go_ret
          exact ⟨by rw [← eh]; rfl, rfl⟩

theorem methodComparable (h : Value) (w : World) : (Go.method 231 73 (.agg #[h]) "Comparable").run Tryd.prog w = .ok (69, .agg #[h]) w := by kernel_rfl
theorem comparableE (w : World) : (ReflectliteType.method (fun t => do Rtype.noPackHeld "Comparable" t; (fun a => Value.bool a.comparable) <$> typeInfo t) #[.agg #[.pointer (some ⟨4, 27, none⟩)]]).run Tryd.prog w = .ok (.bool true) w := by kernel_rfl
set_option maxRecDepth 100000 in
set_option maxHeartbeats 8000000 in
theorem Is_tree {e : E} {v : Value} {w : World} (m : Int) (hat : At w v e) :
    Calls Tryd.prog 12 #[v, .int .i64 m] w fun r w' => r = .returned (.bool (e.has m)) ∧ w' = w := by
  have hTO := @run_callFunc_extern Tryd.prog 27 _ ReflectliteType.typeOf Tryd.func27 (by kernel_rfl) (by kernel_rfl) (by kernel_rfl) (by kernel_rfl)
  have hCo := @run_callFunc_extern Tryd.prog 69 _ (ReflectliteType.method (fun t => do Rtype.noPackHeld "Comparable" t; pure (.bool (← typeInfo t).comparable))) Tryd.func69 (by kernel_rfl) (by kernel_rfl) (by kernel_rfl) (by kernel_rfl)
  have tE := typeOfE
  have mC := methodComparable
  have cE := comparableE
  have e1 := ne_nE
  have hI := is_tree m e.size e v w (Nat.le_refl _) hat
  obtain ⟨ty, pv, rfl⟩ := hat.some
  have hIs : Calls Tryd.prog 19 #[.iface ty pv, .iface 27 (.int .i64 m)] w fun r w' => r = .returned (.bool (e.has m)) ∧ w' = w := by
    go_enter Tryd.func19, Tryd.ntmps19
    go_wp2_with (first | (go_at_call 28; refine hI.mono ?_; rintro r w' ⟨rfl, rfl⟩) | go_in)
    go_ret
    exact ⟨rfl, rfl⟩
  go_enter Tryd.func12, Tryd.ntmps12
  go_wp2_with (first | (go_at_call 19; refine hIs.mono ?_; rintro r w' ⟨rfl, rfl⟩) | go_in)
  go_ret
  exact ⟨rfl, rfl⟩
set_option maxRecDepth 100000 in
set_option maxHeartbeats 8000000 in
theorem Is_nil (m : Int) (w : World) : Calls Tryd.prog 12 #[.nilIface, .int .i64 m] w fun r w' => r = .returned (.bool false) ∧ w' = w := by
  have e1 := ne_nE
  have hIs : Calls Tryd.prog 19 #[.nilIface, .iface 27 (.int .i64 m)] w fun r w' => r = .returned (.bool false) ∧ w' = w := by
    go_enter Tryd.func19, Tryd.ntmps19
    go_wp2
    go_ret
    exact ⟨rfl, rfl⟩
  go_enter Tryd.func12, Tryd.ntmps12
  go_wp2_with (first | (go_at_call 19; refine hIs.mono ?_; rintro r w' ⟨rfl, rfl⟩) | go_in)
  go_ret
  exact ⟨rfl, rfl⟩
end Go.Proofs.YtobcgomfbkcaeaaDoor.YErr
