/- What is added is taken off again, and a product over one of its numbers is the other. No condition. -/
import Derived.Test.YtoedbnnepcnjnaaQFxx3
import Derived.Test.YtoedbnnepcnjnaaYFx
namespace Go.Proofs.Ytoedbnnepcnjnaa.Pure
open Go.RowKit Go.Proofs.Ytoedbnnepcnjnaa.QFx Go.Proofs.Ytoedbnnepcnjnaa.YBits Go.Proofs.Ytoedbnnepcnjnaa.YFx Go.Proofs.YtoedbnnepcnjnaaW.PrintWords Go.Proofs.YtoedbnnepcnjnaaW.PrintLast

theorem FxBack : leadlinelaw2_FxBack.Pure := by
  intro a b k m ha hb hk hm
  obtain ⟨a0, a1⟩ := wf_i64 ha
  obtain ⟨b0, b1⟩ := wf_i64 hb
  obtain ⟨x, hx, x0, x1⟩ := near_tells a k a0 a1
  obtain ⟨y, hy, y0, y1⟩ := near_tells b m b0 b1
  refine ⟨90, ?_⟩
  unfold leadlinelaw2_FxBack.f
  rw [known_holds, hx, hy]
  simp only [Option.bind_some, if_true]
  rw [add_tells x y x0 x1 y0 y1]
  simp only [Option.bind_some]
  have one : rnd (x * y * 1) 1 = x * y := rnd_whole (x * y) 1 (by decide)
  rw [Int.mul_one] at one
  have last : leadlinelaw2_FxBack.j0 90 x y = some true := by
    rw [leadlinelaw2_FxBack.j0]
    by_cases h : y > 0
    · rw [if_pos h, muldiv_tells 73 x y y x0 x1 y0 y1 h y1, rnd_whole x y h, fit_in x0 x1]
      simp only [Option.bind_some, if_true, bne_self_eq_false]
      rw [leadlinelaw2_FxBack.j1]
      simp only [Bool.false_eq_true, if_false]
      rw [mul_tells 87 x y x0 x1 y0 y1, muldiv_tells 72 x y 1 x0 x1 y0 y1 (by decide) (by decide), one]
      simp
    · rw [if_neg h, mul_tells 88 x y x0 x1 y0 y1, muldiv_tells 73 x y 1 x0 x1 y0 y1 (by decide) (by decide), one]
      simp
  by_cases h : -9223372036854775808 ≤ x + y ∧ x + y ≤ 9223372036854775807
  · rw [fit_in h.1 h.2]
    simp only [if_true]
    rw [sub_tells (x + y) y h.1 h.2 y0 y1, show x + y - y = x by omega, fit_in x0 x1]
    simp only [Option.bind_some, if_true]
    exact last
  · rw [fit_out (by omega)]
    simp only [Bool.false_eq_true, if_false]
    exact last

end Go.Proofs.Ytoedbnnepcnjnaa.Pure
