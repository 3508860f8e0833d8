/- The long side of any two is told, no shorter than either and no longer than both together. No condition. -/
import Derived.Test.YtoedbnnepcnjnaaQFxx3
import Derived.Test.YtoedbnnepcnjnaaYFx
namespace Go.Proofs.Ytoedbnnepcnjnaa.Pure
open Go.RowKit Go.Proofs.Ytoedbnnepcnjnaa.QFx Go.Proofs.Ytoedbnnepcnjnaa.YBits Go.Proofs.Ytoedbnnepcnjnaa.YFx Go.Proofs.YtoedbnnepcnjnaaW.PrintWords Go.Proofs.YtoedbnnepcnjnaaW.PrintLast

theorem FxSides : leadlinelaw2_FxSides.Pure := by
  intro x y hx hy
  obtain ⟨x0, x1⟩ := wf_i32 hx
  obtain ⟨y0, y1⟩ := wf_i32 hy
  refine ⟨90, ?_⟩
  unfold leadlinelaw2_FxSides.f
  rw [wid (x := x) (by omega) (by omega), wid (x := y) (by omega) (by omega), wid (x := -x) (by omega) (by omega), wid (x := -y) (by omega) (by omega)]
  obtain ⟨h, hh, h0, h1, s0, s1⟩ := hypot_tells 25 x y (by omega) (by omega) (by omega) (by omega)
  obtain ⟨g, hg, g0, g1, t0, t1⟩ := hypot_tells 25 (-y) x (by omega) (by omega) (by omega) (by omega)
  have e : -y * -y + x * x = x * x + y * y := by rw [Int.neg_mul_neg]; omega
  rw [e] at t0 t1
  obtain rfl := root_one h0 g0 s0 s1 t0 t1
  rw [known_holds, hh, hg]
  simp only [Option.bind_some, if_true]
  have px : mx x (-x) * mx x (-x) = x * x ∧ 0 ≤ mx x (-x) ∧ mx x (-x) ≤ 2147483648 := by
    unfold mx; split
    · exact ⟨Int.neg_mul_neg x x, by omega, by omega⟩
    · exact ⟨rfl, by omega, by omega⟩
  have py : mx y (-y) * mx y (-y) = y * y ∧ 0 ≤ mx y (-y) ∧ mx y (-y) ≤ 2147483648 := by
    unfold mx; split
    · exact ⟨Int.neg_mul_neg y y, by omega, by omega⟩
    · exact ⟨rfl, by omega, by omega⟩
  obtain ⟨ex, ax, bx⟩ := px
  obtain ⟨ey, ay, by_⟩ := py
  rw [← ex, ← ey] at s0 s1
  clear hh hg e t0 t1 ex ey
  generalize mx x (-x) = p at *
  generalize mx y (-y) = q at *
  have ge : ∀ a b : Int, 0 ≤ a → 0 ≤ b → a * a + b * b < (h + 1) * (h + 1) → h ≥ a := by
    intro a b a0 b0 hab
    rcases Int.lt_or_le h a with hl | hl
    · exfalso
      have := Int.mul_le_mul (show h + 1 ≤ a by omega) (show h + 1 ≤ a by omega) (by omega) a0
      have := Int.mul_nonneg b0 b0
      omega
    · exact hl
  have gp := ge p q ax ay s1
  have gq := ge q p ay ax (by omega)
  have le : h ≤ p + q := by
    rcases Int.lt_or_le (p + q) h with hl | hl
    · exfalso
      have h2 := Int.mul_le_mul (show p + q + 1 ≤ h by omega) (show p + q + 1 ≤ h by omega) (by omega) h0
      have h3 : (p + q + 1) * (p + q + 1) = p * p + q * q + 2 * (p * q) + 2 * (p + q) + 1 := by
        rw [Int.add_mul, Int.add_mul, Int.mul_add, Int.mul_add, Int.mul_add, Int.mul_add, Int.mul_comm q p]; omega
      have h4 := Int.mul_nonneg ax ay
      omega
    · exact hl
  rw [if_pos gp, if_pos gq, wid (by omega) (by omega)]
  simp; exact le

end Go.Proofs.Ytoedbnnepcnjnaa.Pure
