/- The statement FxSquares of layer 2: the walk. No condition but the numbers' kinds. -/
import Derived.Test.YtoedbnnepcnjnaaYRefRoot
import Derived.Test.YtoedbnnepcnjnaaYWideTo
namespace Go.Proofs.Ytoedbnnepcnjnaa.YWide
open Go.RowKit Go.Proofs.Ytoedbnnepcnjnaa.YInv Go.Proofs.Ytoedbnnepcnjnaa.YErr Go.Proofs.Ytoedbnnepcnjnaa.YRef Go.Proofs.Ytoedbnnepcnjnaa.YBig Go.Proofs.Ytoedbnnepcnjnaa.YNum Go.Proofs.Ytoedbnnepcnjnaa.YBits Go.Proofs.Ytoedbnnepcnjnaa.YFx Go.Proofs.Ytoedbnnepcnjnaa.XCarry Go.Proofs.Ytoedbnnepcnjnaa.QFq Go.Proofs.YtoedbnnepcnjnaaW.PrintWords Go.Proofs.YtoedbnnepcnjnaaW.PrintLast
set_option linter.unusedVariables false
set_option linter.unusedSimpArgs false
theorem known_law : leadlinelaw2_known.f 90 = some true := by decide +kernel
theorem lim_one {x : Int} (h0 : 0 ≤ x) (h1 : x < 18446744073709551616) : U (lim x) = #[.int .u64 x, .int .u64 0, .int .u64 0, .int .u64 0, .int .u64 0, .int .u64 0, .int .u64 0, .int .u64 0, .int .u64 0, .int .u64 0, .int .u64 0, .int .u64 0, .int .u64 0, .int .u64 0, .int .u64 0, .int .u64 0] := by
  have e : x :: List.replicate 15 0 = lim x := by
    refine lim_eq rfl (fun y hy => ?_) (by rw [val_cons, val_nones]; simp)
    rcases List.mem_cons.1 hy with h | h
    · omega
    · rw [List.eq_of_mem_replicate h]; omega
  rw [← e]; rfl
theorem lim_two {x y : Int} (h0 : 0 ≤ x) (h1 : x < 18446744073709551616) (h2 : 0 ≤ y) (h3 : y < 18446744073709551616) : U (lim (y * 18446744073709551616 + x)) = #[.int .u64 x, .int .u64 y, .int .u64 0, .int .u64 0, .int .u64 0, .int .u64 0, .int .u64 0, .int .u64 0, .int .u64 0, .int .u64 0, .int .u64 0, .int .u64 0, .int .u64 0, .int .u64 0, .int .u64 0, .int .u64 0] := by
  have e : x :: y :: List.replicate 14 0 = lim (y * 18446744073709551616 + x) := by
    refine lim_eq rfl (fun z hz => ?_) (by rw [val_cons, val_cons, val_nones, show x + 18446744073709551616 * (y + 18446744073709551616 * 0) = y * 18446744073709551616 + x by omega])
    rcases List.mem_cons.1 hz with h | h
    · omega
    · rcases List.mem_cons.1 h with h | h
      · omega
      · rw [List.eq_of_mem_replicate h]; omega
  rw [← e]; rfl
theorem inW_small {x : Int} (h0 : 0 ≤ x) (h1 : x < 340282366920938463463374607431768211456) : InW x := by unfold InW; omega
theorem sq_lt {x B : Int} (h0 : 0 ≤ x) (h1 : x ≤ B) : 0 ≤ x * x ∧ x * x ≤ B * B := ⟨Int.mul_nonneg h0 h0, Int.mul_le_mul h1 h1 h0 (by omega)⟩
theorem drawn_below {B : Nat} {a w w' : World} (h : Below B a w) (hd : Drawn0 w w') : Below B a w' := by
  obtain ⟨n, rfl⟩ := hd
  induction n with
  | zero => exact h
  | succ n ih => rw [← World.drew_drewN]; exact ih.drew
theorem To_pos {v : Value} {x : Int} {W : World} (h : IsBig W v x) (h0 : 0 ≤ x) (h1 : x < 340282366920938463463374607431768211456) : Calls Try.prog 30 #[v] W fun e w' => e = .returned (.tuple #[.agg (U (lim x)), .bool true]) ∧ Below W.heap.size W w' := by
  obtain ⟨A, c, rfl, hc, hV⟩ := h
  rw [mag_pos h0] at hV hc ⊢
  exact To_n (sg x) hV hc h0 (Int.lt_trans h1 (by decide +kernel)) |>.mono (by
    rintro e w' ⟨rfl, g⟩
    have : (if sg x = true then -x else x) = x := by unfold sg; rw [decide_eq_false (by omega)]; simp
    rw [this]
    exact ⟨rfl, g⟩)
theorem sqrt_sq {v : Int} (h0 : 0 ≤ v) (h1 : v < 4294967296) : fx_Sqrt.f 65 (v * v) = some v := by
  have b := sq_lt h0 (show v ≤ 4294967295 by omega)
  obtain ⟨r, hr, r0, _, s0, s1⟩ := sqrt_tells 0 (v * v) b.1 (by omega)
  rw [hr, root_one r0 h0 s0 s1 (Int.le_refl _) (by rw [Int.add_mul, Int.mul_add]; omega)]
theorem sqrt_less {v : Int} (h0 : 0 < v) (h1 : v < 4294967296) : fx_Sqrt.f 65 (v * v - 1) = some (v - 1) := by
  have b := sq_lt (show 0 ≤ v by omega) (show v ≤ 4294967295 by omega)
  have b2 : 1 * 1 ≤ v * v := Int.mul_le_mul (by omega) (by omega) (by omega) (by omega)
  obtain ⟨r, hr, r0, _, s0, s1⟩ := sqrt_tells 0 (v * v - 1) (by omega) (by omega)
  have e : (v - 1) * (v - 1) = v * v - v - v + 1 := by rw [Int.sub_mul, Int.mul_sub]; omega
  rw [hr, root_one r0 (show 0 ≤ v - 1 by omega) s0 s1 (by omega) (by rw [show v - 1 + 1 = v by omega]; omega)]
theorem root_sq {x h o : Int} (h0 : 0 ≤ x) (h1 : x < 18446744073709551616) (a0 : 0 ≤ h) (a1 : h < 18446744073709551616) (b0 : 0 ≤ o) (b1 : o < 18446744073709551616) (e : h * 18446744073709551616 + o = x * x) : fx_Root.f 65 h o = some x := by
  obtain ⟨r, hr, r0, _, s0, s1⟩ := root_tells 0 h o a0 a1 b0 b1
  rw [e] at s0 s1
  rw [hr, root_one r0 h0 s0 s1 (Int.le_refl _) (by rw [Int.add_mul, Int.mul_add]; omega)]
theorem wfu32 {a : Int} (h : (Lit.int .u32 a).wf = true) : 0 ≤ a ∧ a < 4294967296 := by
  simp [Lit.wf, IntKind.min, IntKind.max, IntKind.bits, IntKind.signed] at h; omega
theorem wfu64 {a : Int} (h : (Lit.int .u64 a).wf = true) : 0 ≤ a ∧ a < 18446744073709551616 := by
  simp [Lit.wf, IntKind.min, IntKind.max, IntKind.bits, IntKind.signed] at h; omega
set_option maxRecDepth 100000 in
set_option maxHeartbeats 4000000 in
theorem FxSquares_calls (v x : Int) (w : World) (w0 : (Lit.int .u32 v).wf = true) (w1 : (Lit.int .u64 x).wf = true) :
    Calls Try.prog 10 #[.int .u32 v, .int .u64 x] w fun e w' => e = .returned (.bool true) ∧ Below w.heap.size w w' := by
  obtain ⟨v0, v1⟩ := wfu32 w0
  obtain ⟨x0, x1⟩ := wfu64 w1
  have K := leadlinelaw2_known.calls 90 true w known_law
  have bv := sq_lt v0 (show v ≤ 4294967295 by omega)
  have bx := sq_lt x0 (show x ≤ 18446744073709551615 by omega)
  have S1 : ∀ W, Calls Try.prog 27 #[.int .u64 (v * v)] W fun e w' => e = .returned (.int .u32 v) ∧ Drawn0 W w' := fun W => fx_Sqrt.calls 65 _ _ W (sqrt_sq v0 v1)
  have S2 : 0 < v → ∀ W, Calls Try.prog 27 #[.int .u64 (v * v - 1)] W fun e w' => e = .returned (.int .u32 (v - 1)) ∧ Drawn0 W w' := fun h W => fx_Sqrt.calls 65 _ _ W (sqrt_less h v1)
  have p1 : 0 < v → 1 ≤ v * v := fun h => by
    have b2 : 1 * 1 ≤ v * v := Int.mul_le_mul (by omega) (by omega) (by omega) (by omega)
    omega
  have F : ∀ W, Calls Try.prog 29 #[.agg (U (lim x))] W fun e w' => ∃ v, e = .returned v ∧ IsBig w' v x ∧ Below W.heap.size W w' := fun W => From_c (inW_small x0 (by omega)) W
  rw [lim_one x0 x1] at F
  obtain ⟨h, hh⟩ : ∃ h, x * x / 18446744073709551616 = h := ⟨_, rfl⟩
  obtain ⟨o, ho⟩ : ∃ o, x * x % 18446744073709551616 = o := ⟨_, rfl⟩
  have a0 : 0 ≤ h := by omega
  have a1 : h < 18446744073709551616 := by omega
  have b0 : 0 ≤ o := by omega
  have b1 : o < 18446744073709551616 := by omega
  have R : ∀ W, Calls Try.prog 31 #[.int .u64 h, .int .u64 o] W fun e w' => e = .returned (.int .u64 x) ∧ Drawn0 W w' := fun W => fx_Root.calls 65 _ _ _ W (root_sq x0 x1 a0 a1 b0 b1 (by omega))
  have sx : Small x := by unfold Small; omega
  have HP : ∀ W : World, ∀ u, IsBig W u (x * x) → Calls Try.prog 30 #[u] W fun e w' => e = .returned (.tuple #[.agg (U (lim (x * x))), .bool true]) ∧ Below W.heap.size W w' := fun W u h => To_pos h bx.1 (by omega)
  rw [show x * x = h * 18446744073709551616 + o by omega, lim_two b0 b1 a0 a1, ← show x * x = h * 18446744073709551616 + o by omega] at HP
  clear bx hh ho
  generalize hs : v * v = s at *
  go_enter Try.func10, Try.ntmps10
  go_wp2_with fail
  refine K.mono ?_; rintro e w1 ⟨rfl, g1⟩
  have B1 := drawn_below (Below.refl w.heap.size w) g1
  clear K g1
  have key : ∀ (T : Array Value) (w2 : World), Below w.heap.size w w2 → True := fun _ _ _ => trivial
  clear key
  go_wp2_with fail
  refine (S1 _).mono ?_; rintro e w2 ⟨rfl, g2⟩
  have B2 := drawn_below B1 g2
  clear g2 B1
  by_cases hv : 0 < v
  · have s1 : 1 ≤ s := p1 hv
    go_wp2_with fail
    refine (S2 hv _).mono ?_; rintro e w3 ⟨rfl, g3⟩
    have B3 := drawn_below B2 g3
    clear g3 B2 S1 S2
    go_wp2_with fail
    refine (F _).mono ?_; rintro e w4 ⟨u4, rfl, i4, g4⟩
    have B4 := bb B3 g4
    clear B3 g4
    go_wp2_with fail
    refine (F _).mono ?_; rintro e w5 ⟨u5, rfl, i5, g5⟩
    have B5 := bb B4 g5
    have i4 := i4.below g5
    clear B4 g5
    go_wp2_with fail
    refine (Mul_c i4 i5 sx sx).mono ?_; rintro e w6 ⟨u6, rfl, i6, g6⟩
    have B6 := bb B5 g6
    clear B5 g6 i4 i5
    obtain ⟨A6, c6, rfl, hc6, hV6⟩ := i6
    have B7 := B6.alloc B6.size (.cells #[.bool (sg (x * x)), .slice A6 (mag (x * x)).length c6] 46)
    have i7 : IsBig (w6.alloc (.cells #[.bool (sg (x * x)), .slice A6 (mag (x * x)).length c6] 46)) (.agg #[.bool (sg (x * x)), .slice A6 (mag (x * x)).length c6]) (x * x) :=
      IsBig.below (w := w6) ⟨A6, c6, rfl, hc6, hV6⟩ ((Below.refl _ _).alloc (Nat.le_refl _) _)
    go_wp2_with fail
    refine (HP _ _ i7).mono ?_; rintro e w8 ⟨rfl, g8⟩
    have B8 := bb B7 g8
    clear B7 B6 i7 hV6 g8
    go_wp2_with fail
    refine (R _).mono ?_; rintro e w9 ⟨rfl, g9⟩
    have B9 := drawn_below (B8.alloc B8.size _) g9
    go_wp2_with fail
    go_ret
    exact ⟨rfl, B9⟩
  · have hz : v = 0 := by omega
    subst hz
    subst hs
    clear S2 p1
    have B3 := B2
    clear B2
    go_wp2_with fail
    refine (F _).mono ?_; rintro e w4 ⟨u4, rfl, i4, g4⟩
    have B4 := bb B3 g4
    clear B3 g4
    go_wp2_with fail
    refine (F _).mono ?_; rintro e w5 ⟨u5, rfl, i5, g5⟩
    have B5 := bb B4 g5
    have i4 := i4.below g5
    clear B4 g5
    go_wp2_with fail
    refine (Mul_c i4 i5 sx sx).mono ?_; rintro e w6 ⟨u6, rfl, i6, g6⟩
    have B6 := bb B5 g6
    clear B5 g6 i4 i5
    obtain ⟨A6, c6, rfl, hc6, hV6⟩ := i6
    have B7 := B6.alloc B6.size (.cells #[.bool (sg (x * x)), .slice A6 (mag (x * x)).length c6] 46)
    have i7 : IsBig (w6.alloc (.cells #[.bool (sg (x * x)), .slice A6 (mag (x * x)).length c6] 46)) (.agg #[.bool (sg (x * x)), .slice A6 (mag (x * x)).length c6]) (x * x) :=
      IsBig.below (w := w6) ⟨A6, c6, rfl, hc6, hV6⟩ ((Below.refl _ _).alloc (Nat.le_refl _) _)
    go_wp2_with fail
    refine (HP _ _ i7).mono ?_; rintro e w8 ⟨rfl, g8⟩
    have B8 := bb B7 g8
    clear B7 B6 i7 hV6 g8
    go_wp2_with fail
    refine (R _).mono ?_; rintro e w9 ⟨rfl, g9⟩
    have B9 := drawn_below (B8.alloc B8.size _) g9
    go_wp2_with fail
    go_ret
    exact ⟨rfl, B9⟩
end Go.Proofs.Ytoedbnnepcnjnaa.YWide
