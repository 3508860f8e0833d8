/- Lean functions, contracts and lemmas that this claim needs. No condition. -/
import Derived.Test.YtfcandmhalhaeaaDoorAYInv
import Derived.Lib.Hide
namespace Go.Proofs.YtfcandmhalhaeaaDoor.YInv
open Go.RowKit
set_option linter.unusedVariables false
set_option linter.unusedSimpArgs false
/-- Which operation writes a slot. -/
def wr (D : List (Option Tmp)) (t : Nat) : Option Nat := (List.range D.length).find? fun i => D[i]? == some (some t)
theorem wr_some {D : List (Option Tmp)} {t i : Nat} (h : wr D t = some i) : D[i]? = some (some t) := by
  have := List.find?_some h
  simpa using this
/-- No slot is written twice, every slot is there. -/
def apart (D : List (Option Tmp)) (n : Nat) : Bool := (List.range D.length).all fun i => match D[i]? with | some (some t) => decide (t < n) && decide (wr D t = some i) | _ => true
theorem apart_at {D : List (Option Tmp)} {n i t : Nat} (h : apart D n = true) (hi : D[i]? = some (some t)) : t < n ∧ wr D t = some i := by
  have hl : i < D.length := (List.getElem?_eq_some_iff.1 hi).1
  have := List.all_eq_true.1 h i (List.mem_range.2 hl)
  rw [hi] at this
  simpa using this
/-- The slots: what was there, but for what has come up. -/
def X (D : List (Option Tmp)) (V : Nat → Value) (x0 : List Value) (L : Nat → Bool) : List Value :=
  x0.mapIdx fun t old => match wr D t with | some i => if L i then V i else old | none => old
section
variable {D : List (Option Tmp)} {V V' : Nat → Value} {x0 : List Value} {L L' : Nat → Bool} {i t : Nat}
theorem X_len : (X D V x0 L).length = x0.length := by simp [X]
theorem X_get : (X D V x0 L)[t]? = (x0[t]?).map fun old => match wr D t with | some i => if L i then V i else old | none => old := by simp [X, List.getElem?_mapIdx]
theorem X_none : X D V x0 (fun _ => false) = x0 := by
  apply List.ext_getElem?
  intro t
  rw [X_get]
  cases x0[t]? with
  | none => rfl
  | some v => cases wr D t <;> simp
theorem X_in (ha : apart D x0.length = true) (hi : D[i]? = some (some t)) (hL : L i = true) : (X D V x0 L)[t]? = some (V i) := by
  obtain ⟨h1, h2⟩ := apart_at ha hi
  rw [X_get, h2, List.getElem?_eq_getElem h1]
  simp [hL]
theorem X_out (hi : wr D t = none) : (X D V x0 L)[t]? = x0[t]? := by
  rw [X_get, hi]
  simp
theorem X_put (ha : apart D x0.length = true) (hi : D[i]? = some (some t)) : (X D V x0 L).set t (V i) = X D V x0 (up L i) := by
  obtain ⟨h1, h2⟩ := apart_at ha hi
  apply List.ext_getElem?
  intro u
  rw [List.getElem?_set, X_len]
  by_cases e : t = u
  · subst e
    rw [if_pos rfl, if_pos h1, X_get, h2, List.getElem?_eq_getElem h1]
    simp [up_self]
  · rw [if_neg e, X_get, X_get]
    cases hx : x0[u]? with
    | none => rfl
    | some v =>
      cases hw : wr D u with
      | none => rfl
      | some j =>
        have hj : j ≠ i := by
          rintro rfl
          have := wr_some hw
          rw [hi] at this
          injection this with this
          injection this with this
          exact e this
        simp [up_ne _ hj]
theorem X_skip (hi : D[i]? = some none) : X D V x0 (up L i) = X D V x0 L := by
  apply List.ext_getElem?
  intro u
  rw [X_get, X_get]
  cases hx : x0[u]? with
  | none => rfl
  | some v =>
    cases hw : wr D u with
    | none => rfl
    | some j =>
      have hj : j ≠ i := by
        rintro rfl
        have := wr_some hw
        rw [hi] at this
        injection this with this
        cases this
      simp [up_ne _ hj]
theorem X_congr (h : ∀ j, L j = true → V' j = V j) : X D V' x0 L = X D V x0 L := by
  apply List.ext_getElem?
  intro u
  rw [X_get, X_get]
  cases hx : x0[u]? with
  | none => rfl
  | some v =>
    cases hw : wr D u with
    | none => rfl
    | some j =>
      by_cases hj : L j = true
      · simp [hj, h j hj]
      · simp [hj]
theorem X_all (h : ∀ j, j < D.length → L j = L' j) : X D V x0 L = X D V x0 L' := by
  apply List.ext_getElem?
  intro u
  rw [X_get, X_get]
  cases hx : x0[u]? with
  | none => rfl
  | some v =>
    cases hw : wr D u with
    | none => rfl
    | some j =>
      have := (List.getElem?_eq_some_iff.1 (wr_some hw)).1
      simp [h j this]
end
/-- Slot after slot is written. -/
def puts : List (Option Tmp) → (Nat → Value) → Nat → List Value → List Value
  | [], _, _, x => x
  | some t :: r, V, k, x => puts r V (k + 1) (x.set t (V k))
  | none :: r, V, k, x => puts r V (k + 1) x
theorem puts_X {D : List (Option Tmp)} {V : Nat → Value} {x0 : List Value} (ha : apart D x0.length = true) : ∀ (r : List (Option Tmp)) (k : Nat), D.drop k = r → ∀ L, (∀ j, L j = decide (j < k)) → puts r V k (X D V x0 L) = X D V x0 (fun _ => true) := by
  intro r
  induction r with
  | nil =>
    intro k hk L hL
    have : D.length ≤ k := by simpa using hk
    exact X_all fun j hj => by rw [hL, decide_eq_true (by omega)]
  | cons d r ih =>
    intro k hk L hL
    have hd : D[k]? = some d := by
      have := congrArg (fun z => z[0]?) hk
      simpa using this
    have hr : D.drop (k + 1) = r := by
      have := congrArg List.tail hk
      simpa using this
    have hU : ∀ j, up L k j = decide (j < k + 1) := by
      intro j
      by_cases e : j = k
      · subst e; rw [up_self, decide_eq_true (by omega)]
      · rw [up_ne _ e, hL, decide_eq_decide]; omega
    cases d with
    | none => rw [puts, ← X_skip hd]; exact ih (k + 1) hr _ hU
    | some t => rw [puts, X_put ha hd]; exact ih (k + 1) hr _ hU
section
variable {P : Program} {ops : Array Oper} {Q : Exit → Act → World → Prop} {σ : Type} {D : List (Option Tmp)} {V : σ → Nat → Value} {x0 : List Value} {ds : List Deferred} {H : (Nat → Bool) → σ → World → Prop}
/-- The frame's slots are known: those that have come up, those that were there. -/
structure Known (D : List (Option Tmp)) (V : Nat → Value) (x0 x : List Value) (L : Nat → Bool) : Prop where
  got : ∀ i t, L i = true → D[i]? = some (some t) → x[t]? = some (V i)
  old : ∀ t, wr D t = none → x[t]? = x0[t]?
/-- One operation's step. -/
def VStep (P : Program) (ops : Array Oper) (Q : Exit → Act → World → Prop) (x0 : List Value) (ds : List Deferred) (D : List (Option Tmp)) (V : σ → Nat → Value) (H : (Nat → Bool) → σ → World → Prop) (i : Nat) (o : Oper) : Prop :=
  ∀ (x : List Value) (L : Nat → Bool) (s : σ) (w : World) (K : Act → World → Prop), Known D (V s) x0 x L → L i = false → (∀ e ∈ o.after, Region.binds .any e = true → L e.on = true) → H L s w →
    Hid (∀ s' w', (∀ j, L j = true → V s' j = V s j) → H (up L i) s' w' → K (Act.put { tmps := x.toArray, defers := ds } o.dst (V s' i)) w') →
    if Region.wanted o (yielded ops x.toArray) = true then Oper.wp P o { tmps := x.toArray, defers := ds } w K Q else K (Act.put { tmps := x.toArray, defers := ds } o.dst undef) w
def VSteps (P : Program) (ops : Array Oper) (Q : Exit → Act → World → Prop) (x0 : List Value) (ds : List Deferred) (D : List (Option Tmp)) (V : σ → Nat → Value) (H : (Nat → Bool) → σ → World → Prop) (rs : List Nat) : Prop :=
  ∀ i ∈ rs, ∀ o, ops[i]? = some o → VStep P ops Q x0 ds D V H i o
theorem VSteps.nil : VSteps P ops Q x0 ds D V H [] := fun _ h => by cases h
theorem VSteps.cons {i : Nat} {o : Oper} {rs : List Nat} (ho : ops[i]? = some o) (h : VStep P ops Q x0 ds D V H i o) (hs : VSteps P ops Q x0 ds D V H rs) : VSteps P ops Q x0 ds D V H (i :: rs) := by
  intro j hj o' ho'
  rcases List.mem_cons.1 hj with rfl | hj
  · obtain rfl : o = o' := Option.some.inj (ho.symm.trans ho')
    exact h
  · exact hs j hj o' ho'
/-- The region. -/
theorem region_vals {id : Nat} {a : Act} {w : World} (D : List (Option Tmp)) (V : σ → Nat → Value) (H : (Nat → Bool) → σ → World → Prop) (s0 : σ) (rs : List Nat) (x0 : List Value) (ds : List Deferred) (ha : a = { tmps := x0.toArray, defers := ds })
    (hm : P.follows .mixedOrders = true) (hac : acyc ops = true) (hrs : List.range ops.size = rs) (hD : ops.toList.map (·.dst) = D) (hap : apart D x0.length = true)
    (start : H (fun _ => false) s0 w.drew) (steps : VSteps P ops Q x0 ds D V H rs)
    (fin : ∀ s w, H (fun _ => true) s w → Q .normal { tmps := (puts D (V s) 0 x0).toArray, defers := ds } w)
    (hH : ∀ L L' s w, (∀ j, j < D.length → L j = L' j) → H L s w → H L' s w) : (Code.region id ops true).wp P Q a w := by
  subst ha
  refine region_steps (fun L a w => ∃ s, a = { tmps := (X D (V s) x0 L).toArray, defers := ds } ∧ H L s w) rs hm hac hrs ⟨s0, by rw [X_none], start⟩ ?_ ?_
  · intro i hi L a w o ho hL hp ⟨s, he, hs⟩
    subst he
    refine wpOp_step ho (fun K hK => ?_)
    have hd : D[i]? = some o.dst := by rw [← hD]; simp [ho]
    refine steps i hi o ho (X D (V s) x0 L) L s w K ⟨fun j t hj hjt => X_in hap hjt hj, fun t ht => X_out ht⟩ hL hp hs (Lib.hid fun s' w' hV hs' => hK _ _ ⟨s', ?_, hs'⟩)
    rw [← X_congr hV]
    cases hdst : o.dst with
    | none => rw [hdst] at hd; rw [X_skip hd]; rfl
    | some t => rw [hdst] at hd; rw [← X_put hap hd]; simp [Act.put]
  · intro L a w hall ⟨s, he, hs⟩
    subst he
    have e : X D (V s) x0 L = puts D (V s) 0 x0 := by
      have h1 := puts_X (V := V s) hap D 0 rfl (fun _ => false) (fun j => by simp)
      rw [X_none] at h1
      rw [h1]
      exact X_all fun j hj => hall j (by have := congrArg List.length hD; simp at this; omega)
    rw [e]
    exact fin s w (hH L _ s w (fun j hj => hall j (by have := congrArg List.length hD; simp at this; omega)) hs)
variable {o : Oper} {x : List Value} {w : World} {K : Act → World → Prop}
theorem want_ {c : Bool} {A B : Prop} (h : c = true) (hx : A) : if c = true then A else B := by rw [if_pos h]; exact hx
theorem ev_ {t : Nat} {v : Value} (h : x[t]? = some v) : Act.eval { tmps := x.toArray, defers := ds } (.tmp t) = v := by
  simp [Act.eval, h]
/-- A plain operation. -/
theorem val_ {a : Act} {v : Value} (h : (execOp a.eval o).run P w = .ok (.value v) w) (hK : K (a.put o.dst v) w) : Oper.wp P o a w K Q := by
  unfold Oper.wp
  rw [h]
  exact hK
end
end Go.Proofs.YtfcandmhalhaeaaDoor.YInv
