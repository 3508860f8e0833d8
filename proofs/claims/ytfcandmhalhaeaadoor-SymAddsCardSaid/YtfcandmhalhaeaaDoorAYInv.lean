/- Lean functions, contracts and lemmas that this claim needs. No condition. -/
import Derived.Test.YtfcandmhalhaeaaDoorProg
import Derived.WalkKit
import Derived.RegionTactic
import Derived.Orders
import Derived.Below
namespace Go.Proofs.YtfcandmhalhaeaaDoor.YInv
open Go.RowKit
/-- Number i has come up, too. -/
def up (L : Nat → Bool) (i : Nat) : Nat → Bool := fun j => if j = i then true else L j
theorem up_self (L : Nat → Bool) (i : Nat) : up L i i = true := if_pos rfl
theorem up_ne (L : Nat → Bool) {i j : Nat} (h : j ≠ i) : up L i j = L j := if_neg h
section
variable {P : Program} {ops : Array Oper} {Q : Exit → Act → World → Prop} {md : Region.Mode}
theorem count_set (l : List Bool) (i : Nat) (h : l.getD i true = false) : (l.set i true).count false + 1 = l.count false := by
  induction l generalizing i with
  | nil => simp at h
  | cons b l ih =>
    cases i with
    | zero => simp at h; subst h; simp
    | succ i =>
      simp at h
      have := ih i (by simpa using h)
      simp [List.count_cons]
      omega
theorem ready_all (hacyc : ∀ (i : Nat) (o : Oper), ops[i]? = some o → ∀ e ∈ o.after, Region.binds md e = true → e.on < i) (listed : Array Bool) (hs : listed.size = ops.size) (hr : Region.ready md ops listed = []) : ∀ i, i < ops.size → listed.getD i false = true := by
  intro i
  induction i using Nat.strongRecOn with
  | ind i ih =>
    intro hi
    cases hl : listed.getD i false with
    | true => rfl
    | false =>
      have : i ∈ Region.ready md ops listed := mem_ready.2 ⟨by rw [← hl]; simp [hs, hi], ops[i], by simp [hi], fun e he hb => ih e.on (hacyc i ops[i] (by simp [hi]) e he hb) (Nat.lt_trans (hacyc i ops[i] (by simp [hi]) e he hb) hi)⟩
      rw [hr] at this
      cases this
theorem wpAny_inv {Inv : (Nat → Bool) → Act → World → Prop} (hacyc : ∀ (i : Nat) (o : Oper), ops[i]? = some o → ∀ e ∈ o.after, Region.binds md e = true → e.on < i)
    (step : ∀ (L : Nat → Bool) (a : Act) (w : World) (i : Nat) (o : Oper), ops[i]? = some o → L i = false → (∀ e ∈ o.after, Region.binds md e = true → L e.on = true) → Inv L a w → wpOp P ops Q i (Inv (up L i)) a w)
    (fin : ∀ (L : Nat → Bool) (a : Act) (w : World), (∀ i, i < ops.size → L i = true) → Inv L a w → Q .normal a w) :
    ∀ (fuel : Nat) (listed : Array Bool) (a : Act) (w : World), listed.size = ops.size → listed.toList.count false ≤ fuel → Inv (fun j => listed.getD j false) a w → wpAny P md ops Q fuel listed a w := by
  intro fuel
  induction fuel with
  | zero =>
    intro listed a w hs hc h
    have hr : Region.ready md ops listed = [] := by
      refine List.eq_nil_iff_forall_not_mem.2 fun j hj => ?_
      have h1 := (mem_ready.1 hj).1
      have h2 := count_set listed.toList j (by simpa [List.getD_eq_getElem?_getD, Array.getD_eq_getD_getElem?] using h1)
      omega
    exact ⟨hr, fin _ _ _ (ready_all hacyc listed hs hr) h⟩
  | succ fuel ih =>
    intro listed a w hs hc h
    refine ⟨fun hr => fin _ _ _ (ready_all hacyc listed hs hr) h, fun i hi => ?_⟩
    obtain ⟨h1, o, ho, hp⟩ := mem_ready.1 hi
    have hlt : i < ops.size := (Array.getElem?_eq_some_iff.1 ho).1
    have h2 := count_set listed.toList i (by simpa [List.getD_eq_getElem?_getD, Array.getD_eq_getD_getElem?] using h1)
    refine wpOp_mono (fun a' w' h' => ih (listed.setIfInBounds i true) a' w' (by simpa using hs) (by rw [Array.toList_setIfInBounds]; omega) ?_) (step _ a w i o ho (by simpa [hs, hlt] using h1) hp h)
    have e : (fun j => (listed.setIfInBounds i true).getD j false) = up (fun j => listed.getD j false) i := by
      funext j
      unfold up
      by_cases hj : j = i
      · subst hj
        simp [hs, hlt, Array.getD_eq_getD_getElem?]
      · rw [if_neg hj]
        simp [Array.getD_eq_getD_getElem?, Array.getElem?_setIfInBounds_ne (Ne.symm hj)]
    rw [e]
    exact h'
/-- The region, by an invariant. -/
theorem region_inv {id : Nat} {a : Act} {w : World} {Inv : (Nat → Bool) → Act → World → Prop} (hm : P.follows .mixedOrders = true)
    (hacyc : ∀ (i : Nat) (o : Oper), ops[i]? = some o → ∀ e ∈ o.after, Region.binds .any e = true → e.on < i)
    (start : Inv (fun _ => false) a w.drew)
    (step : ∀ (L : Nat → Bool) (a : Act) (w : World) (i : Nat) (o : Oper), ops[i]? = some o → L i = false → (∀ e ∈ o.after, Region.binds .any e = true → L e.on = true) → Inv L a w → wpOp P ops Q i (Inv (up L i)) a w)
    (fin : ∀ (L : Nat → Bool) (a : Act) (w : World), (∀ i, i < ops.size → L i = true) → Inv L a w → Q .normal a w) : (Code.region id ops true).wp P Q a w := by
  refine wp_region_any hm (wpAny_inv hacyc step fin ops.size _ a _ (by simp) (by simp) ?_)
  have e : (fun j => (Array.replicate ops.size false).getD j false) = fun _ => false := by
    funext j
    simp [Array.getD_eq_getD_getElem?, Array.getElem?_replicate]
    split <;> rfl
  rw [e]
  exact start
def acyc (ops : Array Oper) : Bool := (List.range ops.size).all fun i => match ops[i]? with | some o => o.after.all fun e => !Region.binds .any e || decide (e.on < i) | none => true
theorem acyc_of (h : acyc ops = true) (i : Nat) (o : Oper) (ho : ops[i]? = some o) : ∀ e ∈ o.after, Region.binds .any e = true → e.on < i := by
  intro e he hb
  have hi : i < ops.size := (Array.getElem?_eq_some_iff.1 ho).1
  have := List.all_eq_true.1 h i (List.mem_range.2 hi)
  rw [ho] at this
  simp only [Array.all_eq_true_iff_forall_mem] at this
  have := this e he
  rw [hb] at this
  simpa using this
/-- The steps of the operations 'rs', whichever comes up. -/
def Steps (P : Program) (ops : Array Oper) (Q : Exit → Act → World → Prop) (Inv : (Nat → Bool) → Act → World → Prop) (rs : List Nat) : Prop :=
  ∀ i ∈ rs, ∀ (L : Nat → Bool) (a : Act) (w : World) (o : Oper), ops[i]? = some o → L i = false → (∀ e ∈ o.after, Region.binds .any e = true → L e.on = true) → Inv L a w → wpOp P ops Q i (Inv (up L i)) a w
theorem Steps.nil {Inv : (Nat → Bool) → Act → World → Prop} : Steps P ops Q Inv [] := fun _ h => by cases h
theorem Steps.cons {Inv : (Nat → Bool) → Act → World → Prop} {i : Nat} {o : Oper} {rs : List Nat} (ho : ops[i]? = some o)
    (h : ∀ (L : Nat → Bool) (a : Act) (w : World) (K : Act → World → Prop), Hid (∀ a w, Inv (up L i) a w → K a w) → L i = false → (∀ e ∈ o.after, Region.binds .any e = true → L e.on = true) → Inv L a w →
      if Region.wanted o (yielded ops a.tmps) = true then Oper.wp P o a w K Q else K (a.put o.dst undef) w)
    (hs : Steps P ops Q Inv rs) : Steps P ops Q Inv (i :: rs) := by
  intro j hj L a w o' ho' hL hp hI
  rcases List.mem_cons.1 hj with rfl | hj
  · obtain rfl : o = o' := Option.some.inj (ho.symm.trans ho')
    exact wpOp_step ho (fun K hK => h L a w K hK hL hp hI)
  · exact hs j hj L a w o' ho' hL hp hI
theorem region_steps {id : Nat} {a : Act} {w : World} (Inv : (Nat → Bool) → Act → World → Prop) (rs : List Nat) (hm : P.follows .mixedOrders = true)
    (hac : acyc ops = true) (hrs : List.range ops.size = rs) (start : Inv (fun _ => false) a w.drew) (steps : Steps P ops Q Inv rs)
    (fin : ∀ (L : Nat → Bool) (a : Act) (w : World), (∀ i, i < ops.size → L i = true) → Inv L a w → Q .normal a w) : (Code.region id ops true).wp P Q a w :=
  region_inv (Inv := Inv) hm (acyc_of hac) start (fun L a w i o ho hL hp hI => steps i (by rw [← hrs]; exact List.mem_range.2 (Array.getElem?_eq_some_iff.1 ho).1) L a w o ho hL hp hI) fin
end
end Go.Proofs.YtfcandmhalhaeaaDoor.YInv
