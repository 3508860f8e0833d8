/- The statement ClockRound of layer 14: the walk. Condition: errors.errorType holds its type's handle. -/
import Derived.Test.YtbfflffekdadnaaDoorYClock
namespace Go.Proofs.YtbfflffekdadnaaDoor.YErr
open Go.RowKit Go.Extern.Stop Go.Stop Go.Extern
set_option linter.unusedVariables false
set_option linter.unusedSimpArgs false

set_option maxRecDepth 100000 in
set_option maxHeartbeats 2000000 in
theorem known14 (w : World) (hg : Laid w) : Calls Tryd.prog 9 #[] w fun e w' => e = .returned (.bool true) ∧ Below w.heap.size w w' := by
  have hgl := lt_of_cell hg
  go_enter Tryd.func9, Tryd.ntmps9
  go_wp2_with (first
    | (go_at_call 10; refine (New_calls _).mono ?_; rintro e w1 ⟨rfl, h1, b1⟩
       have T1 := Take_first 5 h1)
    | (go_at_call 11; first
       | ((with_reducible refine T1.mono ?_); rintro e w2 ⟨rfl, h2, g2⟩
          have T2 := Take_old 4 h2 (by decide)
          have b2 := b1.grown g2 b1.size (by intro k hk; cases hk; exact Nat.le_refl _))
       | ((with_reducible refine T2.mono ?_); rintro e w3 ⟨v3, rfl, hv3, h3, b3⟩
          have T3 := Take_new 9 h3 (by decide)
          have b3' := b2.trans (b3.mono b2.size))
       | ((with_reducible refine T3.mono ?_); rintro e w4 ⟨rfl, h4, g4⟩
          have hv4 := hv3.grown g4 (Nat.lt_of_lt_of_le (Blk.lt h1) g2.size)
          have b4 := b3'.grown g4 b3'.size (by intro k hk; cases hk; exact Nat.le_refl _)
          have L4 := Last_calls h4))
    | (go_at_call 12; (with_reducible refine L4.mono ?_); rintro e w5 ⟨rfl, n5, rfl⟩
       have S := fun n => says14 28 (w4.drewN n) (hg.below (below_drewN b4 _)) hv4.is)
    | (go_at_call 13; (with_reducible refine (S _).mono ?_); rintro e w6 ⟨rfl, b6⟩)
    | go_in)
  go_ret
  exact ⟨rfl, (below_drewN b4 n5).trans (b6.mono b4.size)⟩

set_option maxRecDepth 100000 in
set_option maxHeartbeats 2000000 in
theorem ClockRound_calls (t d : Int) (w : World) (hg : Laid w) (w0 : (Lit.int .u32 t).wf = true) (w1 : (Lit.int .u32 d).wf = true) :
    Calls Tryd.prog 3 #[.int .u32 t, .int .u32 d] w fun e w' => e = .returned (.bool true) ∧ Below w.heap.size w w' := by
  have t0 : 0 ≤ t ∧ t < 4294967296 := by simp [Lit.wf, IntKind.min, IntKind.max, IntKind.bits, IntKind.signed] at w0; omega
  have d0 : 0 ≤ d ∧ d < 4294967296 := by simp [Lit.wf, IntKind.min, IntKind.max, IntKind.bits, IntKind.signed] at w1; omega
  clear w0 w1
  have K := known14 w hg
  obtain ⟨u, hu⟩ : ∃ u, u = (t + d) % 4294967296 := ⟨_, rfl⟩
  have ew : IntKind.u32.wrap (t + d) = u := by rw [hu]; exact u32w _
  have ed : (u - t) % 4294967296 = d := by omega
  clear hu
  have ED := Lib.hid ed
  clear ed
  by_cases h : d < 2147483648
  · go_enter Tryd.func3, Tryd.ntmps3
    go_wp2_with (first
      | (go_at_call 9; refine K.mono ?_; rintro e w1 ⟨rfl, k1⟩)
      | (go_at_call 10; refine (New_calls _).mono ?_; rintro e w2 ⟨rfl, h2, b2⟩
         have T1 := Take_first t h2
         have b2' := k1.trans (b2.mono k1.size))
      | (go_at_call 11; first
         | ((with_reducible refine T1.mono ?_); rintro e w3 ⟨rfl, h3, g3⟩
            have T2 := Take_new u h3 (by rw [ED.out]; exact h)
            rw [ED.out] at T2
            have b3 := b2'.grown g3 b2'.size (by intro k hk; cases hk; exact k1.size))
         | ((with_reducible refine T2.mono ?_); rintro e w4 ⟨rfl, h4, g4⟩
            have b4 := b3.grown g4 b3.size (by intro k hk; cases hk; exact k1.size)
            have L4 := Last_calls h4))
      | (go_at_call 12; (with_reducible refine L4.mono ?_); rintro e w5 ⟨rfl, n5, rfl⟩)
      | go_in)
    go_ret
    exact ⟨rfl, below_drewN b4 n5⟩
  · go_enter Tryd.func3, Tryd.ntmps3
    go_wp2_with (first
      | (go_at_call 9; refine K.mono ?_; rintro e w1 ⟨rfl, k1⟩)
      | (go_at_call 10; refine (New_calls _).mono ?_; rintro e w2 ⟨rfl, h2, b2⟩
         have T1 := Take_first t h2
         have b2' := k1.trans (b2.mono k1.size))
      | (go_at_call 11; first
         | ((with_reducible refine T1.mono ?_); rintro e w3 ⟨rfl, h3, g3⟩
            have T2 := Take_old u h3 (by rw [ED.out]; omega)
            have b3 := b2'.grown g3 b2'.size (by intro k hk; cases hk; exact k1.size))
         | ((with_reducible refine T2.mono ?_); rintro e w4 ⟨v4, rfl, hv4, h4, g4⟩
            have b4 := b3.trans (g4.mono b3.size)
            have L4 := Last_calls h4))
      | (go_at_call 12; (with_reducible refine L4.mono ?_); rintro e w5 ⟨rfl, n5, rfl⟩
         have S := fun n => says14 28 (w4.drewN n) (hg.below (below_drewN b4 _)) hv4.is)
      | (go_at_call 13; (with_reducible refine (S _).mono ?_); rintro e w6 ⟨rfl, b6⟩)
      | go_in)
    go_ret
    exact ⟨rfl, (below_drewN b4 n5).trans (b6.mono b4.size)⟩
end Go.Proofs.YtbfflffekdadnaaDoor.YErr
