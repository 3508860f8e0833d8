/- Of two whole numbers that are as near the greater one is told, also below nought. No condition. -/
import Derived.Test.YtoedbnnepcnjnaaQFxx3
import Derived.Test.YtoedbnnepcnjnaaYFx
namespace Go.Proofs.Ytoedbnnepcnjnaa.Pure
open Go.RowKit Go.Proofs.Ytoedbnnepcnjnaa.QFx Go.Proofs.Ytoedbnnepcnjnaa.YBits Go.Proofs.Ytoedbnnepcnjnaa.YFx Go.Proofs.YtoedbnnepcnjnaaW.PrintWords Go.Proofs.YtoedbnnepcnjnaaW.PrintLast

theorem FxHalves : leadlinelaw2_FxHalves.Pure := by
  intro v c hv hc
  obtain ⟨v0, v1⟩ := wf_i32 hv
  obtain ⟨c0, c1⟩ := wf_u16 hc
  refine ⟨90, ?_⟩
  unfold leadlinelaw2_FxHalves.f
  rw [wid (x := v) (by omega) (by omega), wid (x := c) (by omega) (by omega), wid (x := c + 1) (by omega) (by omega), wid (x := 2 * v) (by omega) (by omega), wid (x := 2 * v + 1) (by omega) (by omega), wid (x := 2 * (c + 1)) (by omega) (by omega)]
  obtain ⟨d, hd⟩ : ∃ d, d = c + 1 := ⟨_, rfl⟩
  rw [← hd]
  have d0 : 0 < d := by omega
  have d1 : d ≤ 65536 := by omega
  rw [known_holds, muldiv_tells 74 (2 * v + 1) d (2 * d) (by omega) (by omega) (by omega) (by omega) (by omega) (by omega), muldiv_tells 74 v 1 d (by omega) (by omega) (by omega) (by omega) (by omega) (by omega), rnd_half v d d0, Int.mul_one]
  obtain ⟨n0, n1⟩ := rnd_near v d d0
  have q0 : -(2147483648 * 65536) ≤ rnd v d * d := by omega
  have q1 : rnd v d * d ≤ 2147483648 * 65536 := by omega
  have b0 : -4294967296 ≤ rnd v d := by
    rcases Int.lt_or_le (rnd v d) (-4294967296) with h | h
    · exfalso
      have := Int.mul_le_mul_of_nonneg_right (show rnd v d ≤ -4294967297 by omega) (show 0 ≤ d by omega)
      omega
    · exact h
  have b1 : rnd v d ≤ 4294967296 := by
    rcases Int.lt_or_le 4294967296 (rnd v d) with h | h
    · exfalso
      have := Int.mul_le_mul_of_nonneg_right (show 4294967297 ≤ rnd v d by omega) (show 0 ≤ d by omega)
      omega
    · exact h
  rw [fit_in (v := v + 1) (by omega) (by omega), fit_in (v := rnd v d) (by omega) (by omega)]
  simp only [Option.bind_some, if_true]
  generalize rnd v d * d = q at *
  rw [wid (x := v + 1) (by omega) (by omega), if_pos rfl, wid (x := q) (by omega) (by omega), wid (x := v - q) (by omega) (by omega), wid (x := 2 * (v - q)) (by omega) (by omega), wid (x := -d) (by omega) (by omega), if_pos (by omega)]
  simp; omega

end Go.Proofs.Ytoedbnnepcnjnaa.Pure
