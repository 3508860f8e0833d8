/- Lean functions, contracts and lemmas that this claim needs. No condition. -/
import Derived.Test.YtfcandmhalhaeaaDoorAYWideW
import Derived.Laws.StructEq
namespace Go.Proofs.YtfcandmhalhaeaaDoor.YWide
open Go.RowKit Go.Proofs.YtfcandmhalhaeaaDoor.YErr Go.Proofs.YtfcandmhalhaeaaDoor.YRef Go.Proofs.YtfcandmhalhaeaaDoor.YNum
set_option linter.unusedVariables false
set_option linter.unusedSimpArgs false
theorem run_part (l : List Int) (k : Nat) (hk : k < l.length) (w : World) : (part 77 (U l) k).run Tryd.prog w = .ok (.int .u64 (dg l k)) w := by
  have e : (U l)[k]? = some (.int .u64 (dg l k)) := U_at hk
  have ha : ∀ w, (isAgg 77).run Tryd.prog w = .ok false w := fun w => by kernel_rfl
  simp [part, ha, e]
theorem eq_loop (a b : List Int) (ha : a.length = 16) (hb : b.length = 16) (d : Nat) : ∀ (is : List Nat) (w : World), (∀ i ∈ is, i < 16) →
    ((forIn is ((none, ()) : Option Bool × Unit) fun i r => do
      if !(← Op.equalIn (d + 1) 77 (← part 77 (U a) (i * 1)) (← part 77 (U b) (i * 1))) then pure (ForInStep.done (some false, ())) else pure (ForInStep.yield (none, ()))) : Sem (Option Bool × Unit)).run Tryd.prog w =
      .ok (if (is.all fun i => dg a i == dg b i) then (none, ()) else (some false, ())) w := by
  intro is
  induction is with
  | nil => intro w _; simp [Sem.run_pure]
  | cons i is ih =>
    intro w h
    have hi := h i (by simp)
    have e := run_equalIn_int (P := Tryd.prog) w d 77 .u64 .u64 (dg a i) (dg b i) Tryd.underlying77
    simp only [List.forIn_cons, Sem.run_bind, Nat.mul_one, run_part a i (by omega), run_part b i (by omega), Result.andThen_ok, e, List.all_cons]
    by_cases hab : dg a i = dg b i
    · simp only [hab, beq_self_eq_true, Bool.not_true, Bool.false_eq_true, if_false, Sem.run_pure, Result.andThen_ok, Bool.true_and]
      have := ih w (fun j hj => h j (by simp [hj]))
      simpa only [Nat.mul_one] using this
    · simp [hab, Sem.run_pure]
theorem eq_all (a b : List Int) (ha : a.length = 16) (hb : b.length = 16) (d : Nat) (w : World) : (Op.equalIn (d + 1 + 1) 79 (.agg (U a)) (.agg (U b))).run Tryd.prog w = .ok ((List.range' 0 16).all fun i => dg a i == dg b i) w := by
  have hz : ∀ w, (Go.sizeOf 77).run Tryd.prog w = .ok 1 w := fun w => by kernel_rfl
  rw [Op.equalIn]
  simp only [Sem.run_bind, run_underlying Tryd.underlying79, Result.andThen_ok, hz]
  rw [Std.Legacy.Range.forIn_eq_forIn_range']
  have L := eq_loop a b ha hb d (List.range' 0 16) w (by decide)
  have e : (List.range' [:16].start [:16].size [:16].step) = List.range' 0 16 := rfl
  rw [e, L, Result.andThen_ok]
  by_cases h : ((List.range' 0 16).all fun i => dg a i == dg b i) = true
  · rw [if_pos h, h]; rfl
  · rw [if_neg h]
    have : ((List.range' 0 16).all fun i => dg a i == dg b i) = false := by simpa using h
    rw [this]; rfl
theorem run_eqW (a b : List Int) (ha : a.length = 16) (hb : b.length = 16) (w : World) : (Op.equalIn 10000 79 (.agg (U a)) (.agg (U b))).run Tryd.prog w = .ok (decide (a = b)) w := by
  have hz : ∀ w, (Go.sizeOf 77).run Tryd.prog w = .ok 1 w := fun w => by kernel_rfl
  have key : ∀ (n k : Nat), k + n = 16 → (∀ i, i < k → dg a i = dg b i) → decide (a = b) = (List.range' k n).all fun i => dg a i == dg b i := by
    intro n
    induction n with
    | zero =>
      intro k hk h
      have : a = b := by
        apply List.ext_getElem (by omega)
        intro i h1 h2
        have := h i (by omega)
        simpa [dg, h1, h2] using this
      simp [this]
    | succ n ih =>
      intro k hk h
      rw [List.range'_succ, List.all_cons]
      by_cases e : dg a k = dg b k
      · rw [ih (k + 1) (by omega) (fun i hi => by
          by_cases h' : i < k
          · exact h i h'
          · have : i = k := by omega
            rw [this]; exact e)]
        simp [e]
      · have : ¬ a = b := fun h => e (by rw [h])
        simp [e, this]
  rw [key 16 0 (by omega) (fun i hi => by omega)]
  exact eq_all a b ha hb 9998 w
/-- Equal, unequal. -/
theorem run_eqlW (x y : Int) (w : World) : (binOp .eql 79 (.agg (U (lim x))) (.agg (U (lim y)))).run Tryd.prog w = .ok (.bool (decide (lim x = lim y))) w := by
  rw [run_eql_struct, run_eqW _ _ (lim_len x) (lim_len y), Result.andThen_ok]
theorem run_neqW (x y : Int) (w : World) : (binOp .neq 79 (.agg (U (lim x))) (.agg (U (lim y)))).run Tryd.prog w = .ok (.bool (!decide (lim x = lim y))) w := by
  rw [run_neq_struct, run_eqW _ _ (lim_len x) (lim_len y), Result.andThen_ok]
theorem run_eqlZ (x : Int) (w : World) : (binOp .eql 79 (.agg (U (lim x))) (.agg #[.int .u64 0, .int .u64 0, .int .u64 0, .int .u64 0, .int .u64 0, .int .u64 0, .int .u64 0, .int .u64 0, .int .u64 0, .int .u64 0, .int .u64 0, .int .u64 0, .int .u64 0, .int .u64 0, .int .u64 0, .int .u64 0])).run Tryd.prog w = .ok (.bool (decide (lim x = zeros))) w := by
  have := run_eqlW x 0 w
  rw [← zeros_lim] at this
  exact this
end Go.Proofs.YtfcandmhalhaeaaDoor.YWide
