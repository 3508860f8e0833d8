/- Lean functions, contracts and lemmas that this claim needs. No condition. -/
import Derived.Test.YtpdljoalfmgfiaaBYWideW9
namespace Go.Proofs.Ytpdljoalfmgfiaa.YWide
open Go.RowKit Go.Proofs.Ytpdljoalfmgfiaa.YInv Go.Proofs.Ytpdljoalfmgfiaa.YErr Go.Proofs.Ytpdljoalfmgfiaa.YRef Go.Proofs.Ytpdljoalfmgfiaa.YNum Go.Proofs.Ytpdljoalfmgfiaa.YBits Go.Proofs.Ytpdljoalfmgfiaa.XCarry Go.Proofs.Ytpdljoalfmgfiaa.QWd Go.Proofs.YtpdljoalfmgfiaaW.PrintWords Go.Proofs.YtpdljoalfmgfiaaW.PrintLast
set_option linter.unusedVariables false
set_option linter.unusedSimpArgs false
section
variable {W w : World} {x y : List Int}
/-- A number is laid into a new place. -/
theorem new1 (b : Below W.heap.size W w) (x : List Int) : ∀ w0 w', w0 = w.alloc (.cells #[.int .u64 0, .int .u64 0, .int .u64 0, .int .u64 0, .int .u64 0, .int .u64 0, .int .u64 0, .int .u64 0, .int .u64 0, .int .u64 0, .int .u64 0, .int .u64 0, .int .u64 0, .int .u64 0, .int .u64 0, .int .u64 0] 27) → w' = w0.setRow w.heap.size (U x) →
    Blk w0 w.heap.size (U zeros) 27 ∧ Blk w' w.heap.size (U x) 27 ∧ Below W.heap.size W w' ∧ ∀ g c, Blk w g c 27 → Blk w' g c 27 := by
  rintro w0 w' rfl rfl
  have k : Blk (w.alloc (.cells #[.int .u64 0, .int .u64 0, .int .u64 0, .int .u64 0, .int .u64 0, .int .u64 0, .int .u64 0, .int .u64 0, .int .u64 0, .int .u64 0, .int .u64 0, .int .u64 0, .int .u64 0, .int .u64 0, .int .u64 0, .int .u64 0] 27)) w.heap.size (U zeros) 27 := Blk.new w (U zeros) 27
  exact ⟨k, put_ k, below_row (b.alloc b.size _) b.size _, fun g c h => far_ (h.alloc _) (Nat.ne_of_lt h.lt)⟩
/-- Two numbers are laid into new places. -/
theorem new2 (b : Below W.heap.size W w) (x y : List Int) : ∀ w0 w1 w', w0 = (w.alloc (.cells #[.int .u64 0, .int .u64 0, .int .u64 0, .int .u64 0, .int .u64 0, .int .u64 0, .int .u64 0, .int .u64 0, .int .u64 0, .int .u64 0, .int .u64 0, .int .u64 0, .int .u64 0, .int .u64 0, .int .u64 0, .int .u64 0] 27)).alloc (.cells #[.int .u64 0, .int .u64 0, .int .u64 0, .int .u64 0, .int .u64 0, .int .u64 0, .int .u64 0, .int .u64 0, .int .u64 0, .int .u64 0, .int .u64 0, .int .u64 0, .int .u64 0, .int .u64 0, .int .u64 0, .int .u64 0] 27) → w1 = w0.setRow w.heap.size (U x) → w' = w1.setRow (w.heap.size + 1) (U y) →
    Blk w0 w.heap.size (U zeros) 27 ∧ Blk w1 (w.heap.size + 1) (U zeros) 27 ∧ Blk w' w.heap.size (U x) 27 ∧ Blk w' (w.heap.size + 1) (U y) 27 ∧ Below W.heap.size W w' ∧ ∀ g c, Blk w g c 27 → Blk w' g c 27 := by
  rintro w0 w1 w' rfl rfl rfl
  have k : Blk ((w.alloc (.cells #[.int .u64 0, .int .u64 0, .int .u64 0, .int .u64 0, .int .u64 0, .int .u64 0, .int .u64 0, .int .u64 0, .int .u64 0, .int .u64 0, .int .u64 0, .int .u64 0, .int .u64 0, .int .u64 0, .int .u64 0, .int .u64 0] 27)).alloc (.cells #[.int .u64 0, .int .u64 0, .int .u64 0, .int .u64 0, .int .u64 0, .int .u64 0, .int .u64 0, .int .u64 0, .int .u64 0, .int .u64 0, .int .u64 0, .int .u64 0, .int .u64 0, .int .u64 0, .int .u64 0, .int .u64 0] 27)) w.heap.size (U zeros) 27 := (Blk.new w (U zeros) 27).alloc _
  have k2 : Blk ((w.alloc (.cells #[.int .u64 0, .int .u64 0, .int .u64 0, .int .u64 0, .int .u64 0, .int .u64 0, .int .u64 0, .int .u64 0, .int .u64 0, .int .u64 0, .int .u64 0, .int .u64 0, .int .u64 0, .int .u64 0, .int .u64 0, .int .u64 0] 27)).alloc (.cells #[.int .u64 0, .int .u64 0, .int .u64 0, .int .u64 0, .int .u64 0, .int .u64 0, .int .u64 0, .int .u64 0, .int .u64 0, .int .u64 0, .int .u64 0, .int .u64 0, .int .u64 0, .int .u64 0, .int .u64 0, .int .u64 0] 27)) (w.heap.size + 1) (U zeros) 27 := by
    have t : Blk ((w.alloc (.cells (U zeros) 27)).alloc (.cells (U zeros) 27)) (w.heap.size + 1) (U zeros) 27 := by
      have := Blk.new (w.alloc (.cells (U zeros) 27)) (U zeros) 27
      simpa using this
    exact t
  have z := b.size
  refine ⟨k, far_ k2 (by omega), far_ (put_ k) (by omega), put_ (far_ k2 (by omega)), below_row (below_row ((b.alloc z _).alloc (by simp; omega) _) z _) (by omega) _, fun g c h => far_ (far_ ((h.alloc _).alloc _) (Nat.ne_of_lt h.lt)) (by have := h.lt; omega)⟩
end
section
variable (w : World)
theorem of_ (v : Int) (h : -9223372036854775808 ≤ v ∧ v ≤ 9223372036854775807) : Calls Try.prog 33 #[.int .i64 v] w fun e w' => e = .returned (.agg (U (lim v))) ∧ Below w.heap.size w w' := Of_c v h.1 h.2 w
theorem small {v : Int} (h : -9223372036854775808 ≤ v ∧ v ≤ 9223372036854775807) : InW v := by
  have e : (9223372036854775808 : Int) * 18446744073709551616 ^ 15 = 9223372036854775808 * 18446744073709551616 ^ 15 := rfl
  have p : (1 : Int) ≤ 18446744073709551616 ^ 15 := by decide
  unfold InW
  constructor <;> omega
theorem add_ (x y z : Int) (hx : -9223372036854775808 ≤ x ∧ x ≤ 9223372036854775807) (hy : -9223372036854775808 ≤ y ∧ y ≤ 9223372036854775807) (hz : -9223372036854775808 ≤ z ∧ z ≤ 9223372036854775807) (e : x + y = z) : Calls Try.prog 13 #[.agg (U (lim x)), .agg (U (lim y))] w fun e w' => e = .returned (.tuple #[.agg (U (lim z)), .bool true]) ∧ Below w.heap.size w w' := by
  have := Add_c (small hx) (small hy) w
  rw [e, decide_eq_true (small hz), show cl z = z from if_pos (small hz)] at this
  exact this
theorem mul_ (x y z : Int) (hx : -9223372036854775808 ≤ x ∧ x ≤ 9223372036854775807) (hy : -9223372036854775808 ≤ y ∧ y ≤ 9223372036854775807) (hz : -9223372036854775808 ≤ z ∧ z ≤ 9223372036854775807) (e : x * y = z) : Calls Try.prog 15 #[.agg (U (lim x)), .agg (U (lim y))] w fun e w' => e = .returned (.tuple #[.agg (U (lim z)), .bool true]) ∧ Below w.heap.size w w' := by
  have := Mul_w (small hx) (small hy) w
  rw [e, decide_eq_true (small hz), show cl z = z from if_pos (small hz)] at this
  exact this
theorem div_ (x y q r : Int) (hx : -9223372036854775808 ≤ x ∧ x ≤ 9223372036854775807) (x0 : x ≠ 0) (hy : 0 < y ∧ y ≤ 9223372036854775807) (hq : -9223372036854775808 ≤ q ∧ q ≤ 9223372036854775807) (e : Int.tdiv x y = q) (er : Int.tmod x y = r) : Calls Try.prog 26 #[.agg (U (lim x)), .agg (U (lim y))] w fun e w' => e = .returned (.tuple #[.agg (U (lim q)), .agg (U (lim r)), .bool true]) ∧ Below w.heap.size w w' := by
  have hp : (1 : Int) ≤ 18446744073709551616 ^ 15 := by decide
  have hX : 0 < ab x ∧ ab x < 18446744073709551616 ^ 16 := by unfold ab; split <;> omega
  have hY : ab y = y := by unfold ab; rw [if_neg (by omega)]
  have hY1 : y < 18446744073709551616 := by omega
  have D := Div_of (small hx) (small ⟨by omega, hy.2⟩) (by omega) (by rw [hY]; exact fun W => divide_s hX.1 hX.2 hy.1 hY1 W) w
  rw [e, er] at D
  simp only [small hq, if_true] at D
  exact D
theorem sign_2 : Calls Try.prog 22 #[.agg (U (lim 2))] w fun e w' => e = .returned (.int .i64 1) ∧ Below w.heap.size w w' := by
  have := Sign_c (small (v := 2) (by omega)) w
  exact this
theorem below_0 : Calls Try.prog 41 #[.agg (U (lim 0))] w fun e w' => e = .returned (.bool false) ∧ Below w.heap.size w w' := by
  have := below_c (small (v := 0) (by omega)) w
  exact this
end
set_option maxRecDepth 100000 in
set_option maxHeartbeats 32000000 in
theorem Round_52 (w : World) : Calls Try.prog 27 #[.agg (U (lim 5)), .agg (U (lim 2))] w fun e w' => e = .returned (.tuple #[.agg (U (lim 3)), .bool true]) ∧ Below w.heap.size w w' := by
  have la := lim_len 5
  have lb := lim_len 2
  have lc := lim_len 10
  have ld := lim_len 4
  have le := lim_len 12
  have lf := lim_len 3
  have lg := lim_len 0
  have SG := fun W => sign_2 W
  have A55 := fun W => add_ W 5 5 10 (by omega) (by omega) (by omega) rfl
  have A22 := fun W => add_ W 2 2 4 (by omega) (by omega) (by omega) rfl
  have A12 := fun W => add_ W 10 2 12 (by omega) (by omega) (by omega) rfl
  have DV := fun W => div_ W 12 4 3 0 (by omega) (by omega) (by omega) (by omega) rfl rfl
  have BL := fun W => below_0 W
  obtain ⟨k0, k1, k2, b0⟩ := start3 w (lim 5) (lim 2) _ rfl
  go_enter Try.func27, Try.ntmps27
  go_wp2_with (first | (refine ldW k0 la _ rfl rfl rfl ?_) | (refine ldW k1 lb _ rfl rfl rfl ?_) | (refine ldW k2 zeros_len _ rfl rfl rfl ?_))
  have N2 := k2.lt
  have ex : (((w.alloc (.cells (U (lim 5)) 27)).alloc (.cells (U (lim 2)) 27)).alloc (.cells #[.int .u64 0, .int .u64 0, .int .u64 0, .int .u64 0, .int .u64 0, .int .u64 0, .int .u64 0, .int .u64 0, .int .u64 0, .int .u64 0, .int .u64 0, .int .u64 0, .int .u64 0, .int .u64 0, .int .u64 0, .int .u64 0] 27)) = (((w.alloc (.cells (U (lim 5)) 27)).alloc (.cells (U (lim 2)) 27)).alloc (.cells (U zeros) 27)) := rfl
  (try rw [ex])
  clear ex
  generalize (((w.alloc (.cells (U (lim 5)) 27)).alloc (.cells (U (lim 2)) 27)).alloc (.cells (U zeros) 27)) = w1 at *
  refine (SG _).mono ?_; rintro e w2 ⟨rfl, g⟩
  replace k0 := k0.keep g
  replace k1 := k1.keep g
  replace k2 := k2.keep g
  have b2 := bb b0 g
  clear g b0
  go_wp2_with (first | (refine ldW k0 la _ rfl rfl rfl ?_) | (refine ldW k1 lb _ rfl rfl rfl ?_) | (refine ldW k2 zeros_len _ rfl rfl rfl ?_))
  refine (A55 _).mono ?_; rintro e w3 ⟨rfl, g⟩
  replace k0 := k0.keep g
  replace k1 := k1.keep g
  replace k2 := k2.keep g
  have b3 := bb b2 g
  clear g b2
  obtain ⟨t0, k4_0, b4, up⟩ := new1 b3 (lim 10) _ _ rfl rfl
  replace k0 := up _ _ k0
  replace k1 := up _ _ k1
  replace k2 := up _ _ k2
  have z4 := b3.size
  go_wp2_with (first | (refine ldW k0 la _ rfl rfl rfl ?_) | (refine ldW k1 lb _ rfl rfl rfl ?_) | (refine ldW k2 zeros_len _ rfl rfl rfl ?_) | (refine ldW k4_0 lc _ rfl rfl rfl ?_) | (refine stW t0 zeros_len lc _ _ rfl rfl rfl rfl ?_))
  clear up t0 b3
  generalize (w3.alloc (.cells #[.int .u64 0, .int .u64 0, .int .u64 0, .int .u64 0, .int .u64 0, .int .u64 0, .int .u64 0, .int .u64 0, .int .u64 0, .int .u64 0, .int .u64 0, .int .u64 0, .int .u64 0, .int .u64 0, .int .u64 0, .int .u64 0] 27)).setRow w3.heap.size (U (lim 10)) = w4 at *
  refine (A22 _).mono ?_; rintro e w5 ⟨rfl, g⟩
  replace k0 := k0.keep g
  replace k1 := k1.keep g
  replace k2 := k2.keep g
  replace k4_0 := k4_0.keep g
  have b5 := bb b4 g
  clear g b4
  obtain ⟨t0, k6_0, b6, up⟩ := new1 b5 (lim 4) _ _ rfl rfl
  replace k0 := up _ _ k0
  replace k1 := up _ _ k1
  replace k2 := up _ _ k2
  replace k4_0 := up _ _ k4_0
  have z6 := b5.size
  go_wp2_with (first | (refine ldW k0 la _ rfl rfl rfl ?_) | (refine ldW k1 lb _ rfl rfl rfl ?_) | (refine ldW k2 zeros_len _ rfl rfl rfl ?_) | (refine ldW k4_0 lc _ rfl rfl rfl ?_) | (refine ldW k6_0 ld _ rfl rfl rfl ?_) | (refine stW t0 zeros_len ld _ _ rfl rfl rfl rfl ?_))
  clear up t0 b5
  generalize (w5.alloc (.cells #[.int .u64 0, .int .u64 0, .int .u64 0, .int .u64 0, .int .u64 0, .int .u64 0, .int .u64 0, .int .u64 0, .int .u64 0, .int .u64 0, .int .u64 0, .int .u64 0, .int .u64 0, .int .u64 0, .int .u64 0, .int .u64 0] 27)).setRow w5.heap.size (U (lim 4)) = w6 at *
  refine (A12 _).mono ?_; rintro e w7 ⟨rfl, g⟩
  replace k0 := k0.keep g
  replace k1 := k1.keep g
  replace k2 := k2.keep g
  replace k4_0 := k4_0.keep g
  replace k6_0 := k6_0.keep g
  have b7 := bb b6 g
  clear g b6
  obtain ⟨t0, k8_0, b8, up⟩ := new1 b7 (lim 12) _ _ rfl rfl
  replace k0 := up _ _ k0
  replace k1 := up _ _ k1
  replace k2 := up _ _ k2
  replace k4_0 := up _ _ k4_0
  replace k6_0 := up _ _ k6_0
  have z8 := b7.size
  go_wp2_with (first | (refine ldW k0 la _ rfl rfl rfl ?_) | (refine ldW k1 lb _ rfl rfl rfl ?_) | (refine ldW k2 zeros_len _ rfl rfl rfl ?_) | (refine ldW k4_0 lc _ rfl rfl rfl ?_) | (refine ldW k6_0 ld _ rfl rfl rfl ?_) | (refine ldW k8_0 le _ rfl rfl rfl ?_) | (refine stW t0 zeros_len le _ _ rfl rfl rfl rfl ?_))
  clear up t0 b7
  generalize (w7.alloc (.cells #[.int .u64 0, .int .u64 0, .int .u64 0, .int .u64 0, .int .u64 0, .int .u64 0, .int .u64 0, .int .u64 0, .int .u64 0, .int .u64 0, .int .u64 0, .int .u64 0, .int .u64 0, .int .u64 0, .int .u64 0, .int .u64 0] 27)).setRow w7.heap.size (U (lim 12)) = w8 at *
  refine (DV _).mono ?_; rintro e w9 ⟨rfl, g⟩
  replace k0 := k0.keep g
  replace k1 := k1.keep g
  replace k2 := k2.keep g
  replace k4_0 := k4_0.keep g
  replace k6_0 := k6_0.keep g
  replace k8_0 := k8_0.keep g
  have b9 := bb b8 g
  clear g b8
  obtain ⟨t0, t1, k10_0, k10_1, b10, up⟩ := new2 b9 (lim 3) (lim 0) _ _ _ rfl rfl rfl
  replace k0 := up _ _ k0
  replace k1 := up _ _ k1
  replace k2 := up _ _ k2
  replace k4_0 := up _ _ k4_0
  replace k6_0 := up _ _ k6_0
  replace k8_0 := up _ _ k8_0
  have z10 := b9.size
  go_wp2_with (first | (refine ldW k0 la _ rfl rfl rfl ?_) | (refine ldW k1 lb _ rfl rfl rfl ?_) | (refine ldW k2 zeros_len _ rfl rfl rfl ?_) | (refine ldW k4_0 lc _ rfl rfl rfl ?_) | (refine ldW k6_0 ld _ rfl rfl rfl ?_) | (refine ldW k8_0 le _ rfl rfl rfl ?_) | (refine ldW k10_0 lf _ rfl rfl rfl ?_) | (refine ldW k10_1 lg _ rfl rfl rfl ?_) | (refine stW t0 zeros_len lf _ _ rfl rfl rfl rfl ?_) | (refine stW t1 zeros_len lg _ _ rfl rfl rfl rfl ?_))
  clear up t0 t1 b9
  generalize (((w9.alloc (.cells #[.int .u64 0, .int .u64 0, .int .u64 0, .int .u64 0, .int .u64 0, .int .u64 0, .int .u64 0, .int .u64 0, .int .u64 0, .int .u64 0, .int .u64 0, .int .u64 0, .int .u64 0, .int .u64 0, .int .u64 0, .int .u64 0] 27)).alloc (.cells #[.int .u64 0, .int .u64 0, .int .u64 0, .int .u64 0, .int .u64 0, .int .u64 0, .int .u64 0, .int .u64 0, .int .u64 0, .int .u64 0, .int .u64 0, .int .u64 0, .int .u64 0, .int .u64 0, .int .u64 0, .int .u64 0] 27)).setRow w9.heap.size (U (lim 3))).setRow (w9.heap.size + 1) (U (lim 0)) = w10 at *
  refine (BL _).mono ?_; rintro e w11 ⟨rfl, g⟩
  replace k0 := k0.keep g
  replace k1 := k1.keep g
  replace k2 := k2.keep g
  replace k4_0 := k4_0.keep g
  replace k6_0 := k6_0.keep g
  replace k8_0 := k8_0.keep g
  replace k10_0 := k10_0.keep g
  replace k10_1 := k10_1.keep g
  have b11 := bb b10 g
  clear g b10
  go_wp2_with (first | (refine ldW k0 la _ rfl rfl rfl ?_) | (refine ldW k1 lb _ rfl rfl rfl ?_) | (refine ldW k2 zeros_len _ rfl rfl rfl ?_) | (refine ldW k4_0 lc _ rfl rfl rfl ?_) | (refine ldW k6_0 ld _ rfl rfl rfl ?_) | (refine ldW k8_0 le _ rfl rfl rfl ?_) | (refine ldW k10_0 lf _ rfl rfl rfl ?_) | (refine ldW k10_1 lg _ rfl rfl rfl ?_) | (refine stW k2 zeros_len lf _ _ rfl rfl rfl rfl ?_))
  exact bodyPost_ret (res2 Try.results27 _ rfl (put_ k2) lf) rfl ⟨rfl, below_row b11 (by omega) _⟩
end Go.Proofs.Ytpdljoalfmgfiaa.YWide
