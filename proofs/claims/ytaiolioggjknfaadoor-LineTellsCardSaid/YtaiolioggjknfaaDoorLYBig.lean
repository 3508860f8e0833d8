/- Lean functions, contracts and lemmas that this claim needs. No condition. -/
import Derived.Test.YtaiolioggjknfaaDoorLYRefDiv
import Derived.Test.YtaiolioggjknfaaDoorLQSnx10
namespace Go.Proofs.YtaiolioggjknfaaDoor.YBig
open Go.RowKit Go.Proofs.YtaiolioggjknfaaDoor.QSn Go.Proofs.YtaiolioggjknfaaDoor.YBits Go.Proofs.YtaiolioggjknfaaDoor.YRef Go.Proofs.YtaiolioggjknfaaDoorW.PrintWords Go.Proofs.YtaiolioggjknfaaDoorW.PrintLast
set_option linter.unusedVariables false
set_option linter.unusedSimpArgs false
/-- A value that reads as a number: its sign, its limbs. -/
def IsBig (w : World) (v : Value) (x : Int) : Prop := ∃ A c, v = .agg #[.bool (sg x), .slice A (mag x).length c] ∧ (mag x).length ≤ c ∧ Kd.V (Kd.int .u64) 78 w 0 (fun _ => True) (.slice A (mag x).length c) (mag x)
theorem IsBig.below {w w' : World} {v : Value} {x : Int} (h : IsBig w v x) (hb : Below w.heap.size w w') : IsBig w' v x := by
  obtain ⟨A, c, hv, hc, h⟩ := h
  exact ⟨A, c, hv, hc, Kd.V_below h hb⟩
theorem big_of {w w1 : World} {v : Value} {x : Int} {base : Nat} {ok : Nat → Prop} (h : Kd.V (Kd.int .u64) 78 w base ok v (mag x)) : IsBig w (.agg #[.bool (sg x), v]) x := by
  obtain ⟨A, c, rfl⟩ := Kd.V_slice h
  exact ⟨A, c, rfl, (Kd.V_at h).2.1, Kd.V_mono (Kd.V_lower (base' := 0) h (Nat.zero_le _)) (fun _ _ => trivial)⟩
theorem IsBig.C {w : World} {A : Option Addr} {c : Nat} {x : Int} (h : Kd.V (Kd.int .u64) 78 w 0 (fun _ => True) (.slice A (mag x).length c) (mag x)) : Kd.C (Kd.int .u64) w A (mag x).length (mag x) := (Kd.V_reads' h).2.2
theorem Of_c (a : Int) (h0 : -9223372036854775808 ≤ a) (h1 : a ≤ 9223372036854775807) (W : World) :
    Calls Tryd.prog 52 #[.int .i64 a] W fun e w' => ∃ v, e = .returned v ∧ IsBig w' v a ∧ Below W.heap.size W w' := by
  refine (leadlineref1_Of.calls 2000 a _ _ W (Of_tells 0 h0 h1)).mono ?_
  rintro e w' ⟨v, rfl, hv, hb⟩
  exact ⟨_, rfl, big_of (w1 := w') hv, hb⟩
theorem Mul_c {v u : Value} {x y : Int} {W : World} (hv : IsBig W v x) (hu : IsBig W u y) (sx : Small x) (sy : Small y) :
    Calls Tryd.prog 77 #[v, u] W fun e w' => ∃ r, e = .returned r ∧ IsBig w' r (x * y) ∧ Below W.heap.size W w' := by
  obtain ⟨A, c, rfl, hc, hv⟩ := hv
  obtain ⟨A', c', rfl, hc', hu⟩ := hu
  refine (leadlineref1_Mul.calls 2000 (sg x) A c (mag x) (sg y) A' c' (mag y) _ _ W (IsBig.C hv) hc (IsBig.C hu) hc' (Mul_tells 0 sx sy)).mono ?_
  rintro e w' ⟨v, rfl, hv, hb⟩
  exact ⟨_, rfl, big_of (w1 := w') hv, hb⟩
theorem Int64_c {v : Value} {x : Int} {W : World} (hv : IsBig W v x) :
    Calls Tryd.prog 75 #[v] W fun e w' => e = .returned (.tuple #[.int .i64 (fit64 x).1, .bool (fit64 x).2]) ∧ Below W.heap.size W w' := by
  obtain ⟨A, c, rfl, hc, hv⟩ := hv
  exact leadlineref1_Int64.calls 2000 (sg x) A c (mag x) _ _ W (IsBig.C hv) hc (Int64_tells 0 x)
theorem sign_tells (x : Int) : leadlineref1_Sign.f (sg x) (mag x) = some (if x = 0 then 0 else if x < 0 then -1 else 1) := by
  unfold leadlineref1_Sign.f
  have hl : 0 < (mag x).length ↔ 0 < ab x := limbs_len_pos
  unfold ab at hl
  by_cases h : x = 0
  · rw [if_pos h, if_pos]
    subst h; simp at hl; simp [hl]
  · rw [if_neg h, if_neg (by split at hl <;> omega)]
    unfold sg
    by_cases hx : x < 0 <;> simp [hx]
theorem Sign_c {v : Value} {x : Int} {W : World} (hv : IsBig W v x) :
    Calls Tryd.prog 87 #[v] W fun e w' => e = .returned (.int .i64 (if x = 0 then 0 else if x < 0 then -1 else 1)) ∧ Below W.heap.size W w' := by
  obtain ⟨A, c, rfl, hc, hv⟩ := hv
  exact leadlineref1_Sign.calls (sg x) A c (mag x) _ W (IsBig.C hv) hc (sign_tells x)
end Go.Proofs.YtaiolioggjknfaaDoor.YBig
