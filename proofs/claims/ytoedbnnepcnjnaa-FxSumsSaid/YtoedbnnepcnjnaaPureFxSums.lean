/- Each sum, difference, product, amount of any two numbers is the reference's, or there is none. No condition. -/
import Derived.Test.YtoedbnnepcnjnaaQFxx7
import Derived.Test.YtoedbnnepcnjnaaYFx
import Derived.Test.YtoedbnnepcnjnaaYRef
namespace Go.Proofs.Ytoedbnnepcnjnaa.Pure
open Go.RowKit Go.Proofs.Ytoedbnnepcnjnaa.QFx Go.Proofs.Ytoedbnnepcnjnaa.YBits Go.Proofs.Ytoedbnnepcnjnaa.YFx Go.Proofs.YtoedbnnepcnjnaaW.PrintWords Go.Proofs.YtoedbnnepcnjnaaW.PrintLast

open Go.Proofs.Ytoedbnnepcnjnaa.YRef in
theorem told_tells (x : Int) : leadlinelaw2_told.f 2000 (fit x).1 (fit x).2 (sg x) (mag x) = some true := by
  unfold leadlinelaw2_told.f
  rw [Int64_tells 0 x]
  show (if (fit x).1 = (fit x).1 then some ((fit x).2 == (fit x).2) else some false) = some true
  simp
open Go.Proofs.Ytoedbnnepcnjnaa.YRef in
theorem FxSums : leadlinelaw2_FxSums.Pure := by
  intro a b k m ha hb hk hm
  obtain ⟨a0, a1⟩ := wf_i64 ha
  obtain ⟨b0, b1⟩ := wf_i64 hb
  obtain ⟨x, hx, x0, x1⟩ := near_tells a k a0 a1
  obtain ⟨y, hy, y0, y1⟩ := near_tells b m b0 b1
  refine ⟨2000, ?_⟩
  have hk : leadlinelaw2_known.f 2000 = some true := by decide +kernel
  have sx := small_i64 x0 x1
  have sy := small_i64 y0 y1
  unfold leadlinelaw2_FxSums.f
  rw [hk, hx, hy]
  simp only [Option.bind_some, if_true]
  rw [Of_tells 0 x0 x1, Of_tells 0 y0 y1, add_tells x y x0 x1 y0 y1, sub_tells x y x0 x1 y0 y1, mul_tells 1999 x y x0 x1 y0 y1]
  simp only [Option.bind_some]
  have hA : fx_Amount.f 2000 x = some (fit (ab x)) := by
    unfold fx_Amount.f
    obtain ⟨p0, p1⟩ := amount_bound x x0 x1
    rw [size_tells x x0 x1, Option.bind_some, signed_tells 1999 _ false p0 (by omega)]
    rfl
  rw [hA, Add_tells 0 sx sy, Sub_tells 0 sx sy, Mul_tells 0 sx sy, Amount_tells]
  simp only [Option.bind_some]
  rw [told_tells, told_tells, told_tells, told_tells]
  simp

end Go.Proofs.Ytoedbnnepcnjnaa.Pure
