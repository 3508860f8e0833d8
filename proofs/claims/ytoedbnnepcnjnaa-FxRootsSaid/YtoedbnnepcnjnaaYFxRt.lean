/- The statement FxRoots of layer 2: the walk. No condition but the numbers' kinds. -/
import Derived.Test.YtoedbnnepcnjnaaYRefCmp
import Derived.Test.YtoedbnnepcnjnaaYFxSq
namespace Go.Proofs.Ytoedbnnepcnjnaa.YWide
open Go.RowKit Go.Proofs.Ytoedbnnepcnjnaa.YInv Go.Proofs.Ytoedbnnepcnjnaa.YErr Go.Proofs.Ytoedbnnepcnjnaa.YRef Go.Proofs.Ytoedbnnepcnjnaa.YBig Go.Proofs.Ytoedbnnepcnjnaa.YNum Go.Proofs.Ytoedbnnepcnjnaa.YBits Go.Proofs.Ytoedbnnepcnjnaa.YFx Go.Proofs.Ytoedbnnepcnjnaa.XCarry Go.Proofs.Ytoedbnnepcnjnaa.QFq Go.Proofs.YtoedbnnepcnjnaaW.PrintWords Go.Proofs.YtoedbnnepcnjnaaW.PrintLast
set_option linter.unusedVariables false
set_option linter.unusedSimpArgs false
theorem wide_ {r : Int} (h0 : 0 ≤ r) (h1 : r < 4294967296) : wrap64 r = r := by unfold wrap64; omega
theorem ab_le {x : Int} : ab x ≤ 2147483648 ↔ -2147483648 ≤ x ∧ x ≤ 2147483648 := by unfold ab; split <;> omega
/-- The root of two numbers' squares: package fx's and the reference's are one. -/
theorem Hypot_tells (K : Nat) {x y : Int} (x0 : -9223372036854775808 ≤ x) (x1 : x ≤ 9223372036854775807) (y0 : -9223372036854775808 ≤ y) (y1 : y ≤ 9223372036854775807) :
    ∃ r b, fx_Hypot.f (0 + 65) x y = some (r, b) ∧ leadlineref1_Hypot.f (K + 2065 + 1) x y = some (r, b) := by
  have e6 : K + 2065 + 1 = (K + 66) + 2000 := by omega
  have e5 : K + 2065 = (K + 65) + 2000 := by omega
  have o1 : leadlineref1_Of.f (K + 2065 + 1) x = some (sg x, mag x) := by rw [e6]; exact Of_tells (K + 66) x0 x1
  have o2 : leadlineref1_Of.f (K + 2065 + 1) y = some (sg y, mag y) := by rw [e6]; exact Of_tells (K + 66) y0 y1
  have o3 : leadlineref1_Of.f (K + 2065) x = some (sg x, mag x) := by rw [e5]; exact Of_tells (K + 65) x0 x1
  have o4 : leadlineref1_Of.f (K + 2065) y = some (sg y, mag y) := by rw [e5]; exact Of_tells (K + 65) y0 y1
  have fx : leadlineref1_Fits.f (K + 2065 + 1) (sg x) (mag x) 2147483648 = some (decide (ab x ≤ 2147483648)) := by rw [e6]; exact Fits_tells (K + 66) (small_i64 x0 x1) (by omega) (by omega)
  have fy : leadlineref1_Fits.f (K + 2065 + 1) (sg y) (mag y) 2147483648 = some (decide (ab y ≤ 2147483648)) := by rw [e6]; exact Fits_tells (K + 66) (small_i64 y0 y1) (by omega) (by omega)
  have j1 : leadlineref1_Hypot.j0 (K + 2065 + 1) x y true = some (0, false) := by
    rw [leadlineref1_Hypot.j0, if_pos rfl]
  by_cases hx : -2147483648 ≤ x ∧ x ≤ 2147483648
  · have ex : decide (ab x ≤ 2147483648) = true := decide_eq_true (ab_le.2 hx)
    rw [ex] at fx
    by_cases hy : -2147483648 ≤ y ∧ y ≤ 2147483648
    · obtain ⟨r, hr, r0, r1, s0, s1⟩ := hypot_tells 0 x y hx.1 hx.2 hy.1 hy.2
      obtain ⟨a0, a1⟩ := sq_bound (by decide) hx.1 hx.2
      obtain ⟨b0, b1⟩ := sq_bound (by decide) hy.1 hy.2
      refine ⟨r, true, hr, ?_⟩
      have ey : decide (ab y ≤ 2147483648) = true := decide_eq_true (ab_le.2 hy)
      rw [ey] at fy
      have m1 : leadlineref1_Mul.f (K + 2065) (sg x) (mag x) (sg x) (mag x) = some (sg (x * x), mag (x * x)) := by rw [e5]; exact Mul_tells (K + 65) (small_i64 x0 x1) (small_i64 x0 x1)
      have m2 : leadlineref1_Mul.f (K + 2065) (sg y) (mag y) (sg y) (mag y) = some (sg (y * y), mag (y * y)) := by rw [e5]; exact Mul_tells (K + 65) (small_i64 y0 y1) (small_i64 y0 y1)
      have ad : leadlineref1_Add.f (K + 2065) (sg (x * x)) (mag (x * x)) (sg (y * y)) (mag (y * y)) = some (sg (x * x + y * y), mag (x * x + y * y)) := by rw [e5]; exact Add_tells (K + 65) (by unfold Small; omega) (by unfold Small; omega)
      have rt : leadlineref1_Rooted.f (K + 2065) (sg (x * x + y * y)) (mag (x * x + y * y)) = some r := Rooted_tells K _ r (by omega) (by omega) r0 s0 s1
      have j0 : leadlineref1_Hypot.j0 (K + 2065 + 1) x y false = some (r, true) := by
        rw [leadlineref1_Hypot.j0, if_neg (by decide), o3, Option.bind_some, Option.bind_some]
        dsimp only
        rw [m1, Option.bind_some, o4, Option.bind_some, Option.bind_some]
        dsimp only
        rw [m2, Option.bind_some]
        dsimp only
        rw [ad, Option.bind_some]
        dsimp only
        rw [rt, Option.bind_some, wide_ r0 r1]
      unfold leadlineref1_Hypot.f
      rw [o1, Option.bind_some]
      dsimp only
      rw [fx, Option.bind_some, if_pos rfl, o2, Option.bind_some]
      dsimp only
      rw [fy, Option.bind_some, Bool.not_true, j0]
    · refine ⟨0, false, hypot_none _ x y (by omega), ?_⟩
      have ey : decide (ab y ≤ 2147483648) = false := decide_eq_false (fun h => hy (ab_le.1 h))
      rw [ey] at fy
      unfold leadlineref1_Hypot.f
      rw [o1, Option.bind_some]
      dsimp only
      rw [fx, Option.bind_some, if_pos rfl, o2, Option.bind_some]
      dsimp only
      rw [fy, Option.bind_some, Bool.not_false, j1]
  · refine ⟨0, false, hypot_none _ x y (by omega), ?_⟩
    have ex : decide (ab x ≤ 2147483648) = false := decide_eq_false (fun h => hx (ab_le.1 h))
    rw [ex] at fx
    unfold leadlineref1_Hypot.f
    rw [o1, Option.bind_some]
    dsimp only
    rw [fx, Option.bind_some, if_neg (by decide), j1]
/-- The reference's root of a number. -/
theorem Rooted_c {v : Value} {x r : Int} {W : World} (h : IsBig W v x) (h0 : 0 ≤ x) (h1 : x < 340282366920938463463374607431768211456) (r0 : 0 ≤ r) (r1 : r * r ≤ x) (r2 : x < (r + 1) * (r + 1)) :
    Calls Try.prog 34 #[v] W fun e w' => e = .returned (.int .u64 r) ∧ Below W.heap.size W w' := by
  obtain ⟨A, c, rfl, hc, hV⟩ := h
  exact leadlineref1_Rooted.calls (0 + 2065) (sg x) A c (mag x) r W (IsBig.C hV) hc (Rooted_tells 0 x r h0 h1 r0 r1 r2)
theorem and_little (a m : Int) (m0 : 0 ≤ m) (m1 : m ≤ 1000) : 0 ≤ Go.bits .and .i64 a m ∧ Go.bits .and .i64 a m ≤ m := by
  obtain ⟨b, rfl⟩ := Int.eq_ofNat_of_zero_le m0
  have h2 : (BitVec.ofInt 64 (b : Int)).toNat = b := by
    rw [BitVec.ofInt_natCast, BitVec.toNat_ofNat]; exact Nat.mod_eq_of_lt (by omega)
  have h3 : Go.bits .and .i64 a (b : Int) = IntKind.i64.wrap (((BitVec.ofInt 64 a &&& BitVec.ofInt 64 (b : Int)).toNat : Nat) : Int) := rfl
  have h4 : (BitVec.ofInt 64 a &&& BitVec.ofInt 64 (b : Int)).toNat ≤ b := by
    rw [BitVec.toNat_and, h2]; exact Nat.and_le_right
  rw [h3]
  generalize (BitVec.ofInt 64 a &&& BitVec.ofInt 64 (b : Int)).toNat = c at *
  have h5 : IntKind.i64.wrap (c : Int) = (c : Int) := by rw [i64_w]; exact wid (by omega) (by omega)
  rw [h5]; omega
theorem wfi64 {a : Int} (h : (Lit.int .i64 a).wf = true) : -9223372036854775808 ≤ a ∧ a ≤ 9223372036854775807 := by
  simp [Lit.wf, IntKind.min, IntKind.max, IntKind.bits, IntKind.signed] at h; omega
theorem wfu8 {a : Int} (h : (Lit.int .u8 a).wf = true) : 0 ≤ a ∧ a < 256 := by
  simp [Lit.wf, IntKind.min, IntKind.max, IntKind.bits, IntKind.signed] at h; omega
set_option maxRecDepth 100000 in
set_option maxHeartbeats 4000000 in
theorem FxRoots_calls (hi lo x y k : Int) (w : World) (w0 : (Lit.int .u64 hi).wf = true) (w1 : (Lit.int .u64 lo).wf = true) (w2 : (Lit.int .i64 x).wf = true) (w3 : (Lit.int .i64 y).wf = true) (w4 : (Lit.int .u8 k).wf = true) :
    Calls Try.prog 12 #[.int .u64 hi, .int .u64 lo, .int .i64 x, .int .i64 y, .int .u8 k] w fun e w' => e = .returned (.bool true) ∧ Below w.heap.size w w' := by
  obtain ⟨h0, h1⟩ := wfu64 w0
  obtain ⟨l0, l1⟩ := wfu64 w1
  obtain ⟨x0, x1⟩ := wfi64 w2
  obtain ⟨y0, y1⟩ := wfi64 w3
  obtain ⟨k0, k1⟩ := wfu8 w4
  have K := leadlinelaw2_known.calls 90 true w known_law
  obtain ⟨s, es, s0, s1, s2, s3⟩ := sqrt_tells 0 lo l0 l1
  have S : ∀ W, Calls Try.prog 27 #[.int .u64 lo] W fun e w' => e = .returned (.int .u32 s) ∧ Drawn0 W w' := fun W => fx_Sqrt.calls (0 + 65) _ _ W es
  obtain ⟨h, hh⟩ : ∃ h, hi / 2 ^ (k % 65).toNat = h := ⟨_, rfl⟩
  have hb : 0 ≤ h ∧ h < 18446744073709551616 := by
    have p : (0 : Int) < 2 ^ (k % 65).toNat := Int.pow_pos (by decide)
    rw [← hh]
    exact ⟨Int.ediv_nonneg h0 (by omega), Int.lt_of_le_of_lt (Int.ediv_le_self _ h0) h1⟩
  obtain ⟨b0, b1⟩ := hb
  obtain ⟨r, er, r0, r1, r2, r3⟩ := root_tells 0 h lo b0 b1 l0 l1
  have R : ∀ W, Calls Try.prog 31 #[.int .u64 h, .int .u64 lo] W fun e w' => e = .returned (.int .u64 r) ∧ Drawn0 W w' := fun W => fx_Root.calls (0 + 65) _ _ _ W er
  have F1 : ∀ W, Calls Try.prog 29 #[.agg (U (lim lo))] W fun e w' => ∃ v, e = .returned v ∧ IsBig w' v lo ∧ Below W.heap.size W w' := fun W => From_c (inW_small l0 (by omega)) W
  have F2 : ∀ W, Calls Try.prog 29 #[.agg (U (lim (h * 18446744073709551616 + lo)))] W fun e w' => ∃ v, e = .returned v ∧ IsBig w' v (h * 18446744073709551616 + lo) ∧ Below W.heap.size W w' := fun W => From_c (inW_small (by omega) (by omega)) W
  rw [lim_one l0 l1] at F1
  rw [lim_two l0 l1 b0 b1] at F2
  have T1 : ∀ W u, IsBig W u lo → Calls Try.prog 34 #[u] W fun e w' => e = .returned (.int .u64 s) ∧ Below W.heap.size W w' := fun W u i => Rooted_c i l0 (by omega) s0 s2 s3
  have T2 : ∀ W u, IsBig W u (h * 18446744073709551616 + lo) → Calls Try.prog 34 #[u] W fun e w' => e = .returned (.int .u64 r) ∧ Below W.heap.size W w' := fun W u i => Rooted_c i (by omega) (by omega) r0 r2 r3
  clear r2 r3 s2 s3 es er
  go_enter Try.func12, Try.ntmps12
  go_wp2_with fail
  refine K.mono ?_; rintro e w1 ⟨rfl, g1⟩
  have B1 := drawn_below (Below.refl w.heap.size w) g1
  clear K g1
  go_wp2_with fail

  refine (S _).mono ?_; rintro e w2 ⟨rfl, g2⟩
  have B2 := drawn_below B1 g2
  clear g2 B1
  go_wp2_with fail
  refine (R _).mono ?_; rintro e w3 ⟨rfl, g3⟩
  have B3 := drawn_below B2 g3
  clear g3 B2
  go_wp2_with fail
  refine (F2 _).mono ?_; rintro e w4 ⟨u4, rfl, i4, g4⟩
  have B4 := bb B3 g4
  clear g4 B3
  go_wp2_with fail
  refine (T2 _ _ i4).mono ?_; rintro e w5 ⟨rfl, g5⟩
  have B5 := bb B4 g5
  clear g5 B4 i4
  go_wp2_with fail
  refine (F1 _).mono ?_; rintro e w6 ⟨u6, rfl, i6, g6⟩
  have B6 := bb B5 g6
  clear g6 B5
  go_wp2_with fail
  refine (T1 _ _ i6).mono ?_; rintro e w7 ⟨rfl, g7⟩
  have B7 := bb B6 g7
  clear g7 B6 i6
  go_wp2_with fail
  have q0 := and_little y 255 (by omega) (by omega)
  have H : ∀ a b : Int, -9223372036854775808 ≤ a → a ≤ 9223372036854775807 → -9223372036854775808 ≤ b → b ≤ 9223372036854775807 → ∃ r c, (∀ W, Calls Try.prog 26 #[.int .i64 a, .int .i64 b] W fun e w' => e = .returned (.tuple #[.int .i64 r, .bool c]) ∧ Drawn0 W w') ∧ (∀ W, Calls Try.prog 35 #[.int .i64 a, .int .i64 b] W fun e w' => e = .returned (.tuple #[.int .i64 r, .bool c]) ∧ Below W.heap.size W w') := by
    intro a b a0 a1 b0 b1
    obtain ⟨r, c, h1, h2⟩ := Hypot_tells 0 a0 a1 b0 b1
    exact ⟨r, c, fun W => fx_Hypot.calls (0 + 65) _ _ _ _ W h1, fun W => leadlineref1_Hypot.calls (0 + 2065 + 1) _ _ _ _ W h2⟩
  obtain ⟨rA, bA, fA, gA⟩ := H x y x0 x1 y0 y1
  obtain ⟨rB, bB, fB, gB⟩ := H (x / 2147483648) (y / 2147483648) (by omega) (by omega) (by omega) (by omega)
  obtain ⟨rC, bC, fC, gC⟩ := H (x / 1099511627776) (bits BinOp.and IntKind.i64 y 255) (by omega) (by omega) (by omega) (by omega)
  clear H S R F1 F2 T1 T2 q0
  generalize x / 2147483648 = x2 at *
  generalize y / 2147483648 = y2 at *
  generalize x / 1099511627776 = x3 at *
  generalize bits BinOp.and IntKind.i64 y 255 = y3 at *
  have k8 := Blk.new w7 #[.int .i64 x, .int .i64 y, .int .i64 x2, .int .i64 y2, .int .i64 x3, .int .i64 y3] 33
  have B8 := B7.alloc B7.size (.cells #[.int .i64 x, .int .i64 y, .int .i64 x2, .int .i64 y2, .int .i64 x3, .int .i64 y3] 33)
  go_loopw [64] (fun s64 wx => ∃ i : Nat, i ≤ 3 ∧ s64 = .int .i64 i ∧ Blk wx w7.heap.size #[.int .i64 x, .int .i64 y, .int .i64 x2, .int .i64 y2, .int .i64 x3, .int .i64 y3] 33 ∧ Below w.heap.size w wx) (fun s64 _ => 3 - (intOf s64).toNat)
  case atStart => exact ⟨0, by omega, rfl, k8, B8⟩
  case round =>
    clear k8 B8 B7
    obtain ⟨i, hi3, rfl, kc, B⟩ := hrel
    by_cases hlt : i < 3
    · rcases (show i = 0 ∨ i = 1 ∨ i = 2 by omega) with rfl | rfl | rfl
      · have c0 := (kc.cell 0).trans (show _ = some (.int .i64 x) from rfl)
        have c1 := (kc.cell 1).trans (show _ = some (.int .i64 y) from rfl)
        go_wp2_with fail
        refine (fA _).mono ?_; rintro e v1 ⟨rfl, ⟨m, rfl⟩⟩
        have d := Blk.drewN (Blk.new wr #[.int .i64 x, .int .i64 y] 33) m
        have d0 := (d.cell 0).trans (show _ = some (.int .i64 x) from rfl)
        have d1 := (d.cell 1).trans (show _ = some (.int .i64 y) from rfl)
        have B1 := below_drewN (B.alloc B.size (.cells #[.int .i64 x, .int .i64 y] 33)) m
        have k1 := Blk.drewN (kc.alloc (.cells #[.int .i64 x, .int .i64 y] 33)) m
        generalize ((wr.alloc (.cells #[.int .i64 x, .int .i64 y] 33)).drewN m) = v1 at *
        clear c0 c1
        go_wp2_with fail
        refine (gA _).mono ?_; rintro e v2 ⟨rfl, g⟩
        have k2 := k1.keep g
        have B2 := bb B1 g
        clear d d0 d1
        go_wp2_with fail
        exact ⟨⟨1, by omega, rfl, k2, B2⟩, by simp [intOf]⟩
      · have c0 := (kc.cell 2).trans (show _ = some (.int .i64 x2) from rfl)
        have c1 := (kc.cell 3).trans (show _ = some (.int .i64 y2) from rfl)
        go_wp2_with fail
        refine (fB _).mono ?_; rintro e v1 ⟨rfl, ⟨m, rfl⟩⟩
        have d := Blk.drewN (Blk.new wr #[.int .i64 x2, .int .i64 y2] 33) m
        have d0 := (d.cell 0).trans (show _ = some (.int .i64 x2) from rfl)
        have d1 := (d.cell 1).trans (show _ = some (.int .i64 y2) from rfl)
        have B1 := below_drewN (B.alloc B.size (.cells #[.int .i64 x2, .int .i64 y2] 33)) m
        have k1 := Blk.drewN (kc.alloc (.cells #[.int .i64 x2, .int .i64 y2] 33)) m
        generalize ((wr.alloc (.cells #[.int .i64 x2, .int .i64 y2] 33)).drewN m) = v1 at *
        clear c0 c1
        go_wp2_with fail
        refine (gB _).mono ?_; rintro e v2 ⟨rfl, g⟩
        have k2 := k1.keep g
        have B2 := bb B1 g
        clear d d0 d1
        go_wp2_with fail
        exact ⟨⟨2, by omega, rfl, k2, B2⟩, by simp [intOf]⟩
      · have c0 := (kc.cell 4).trans (show _ = some (.int .i64 x3) from rfl)
        have c1 := (kc.cell 5).trans (show _ = some (.int .i64 y3) from rfl)
        go_wp2_with fail
        refine (fC _).mono ?_; rintro e v1 ⟨rfl, ⟨m, rfl⟩⟩
        have d := Blk.drewN (Blk.new wr #[.int .i64 x3, .int .i64 y3] 33) m
        have d0 := (d.cell 0).trans (show _ = some (.int .i64 x3) from rfl)
        have d1 := (d.cell 1).trans (show _ = some (.int .i64 y3) from rfl)
        have B1 := below_drewN (B.alloc B.size (.cells #[.int .i64 x3, .int .i64 y3] 33)) m
        have k1 := Blk.drewN (kc.alloc (.cells #[.int .i64 x3, .int .i64 y3] 33)) m
        generalize ((wr.alloc (.cells #[.int .i64 x3, .int .i64 y3] 33)).drewN m) = v1 at *
        clear c0 c1
        go_wp2_with fail
        refine (gC _).mono ?_; rintro e v2 ⟨rfl, g⟩
        have k2 := k1.keep g
        have B2 := bb B1 g
        clear d d0 d1
        go_wp2_with fail
        exact ⟨⟨3, by omega, rfl, k2, B2⟩, by simp [intOf]⟩
    · have h3 : i = 3 := by omega
      subst h3
      go_wp2_with fail
      go_ret
      exact ⟨rfl, B⟩
end Go.Proofs.Ytoedbnnepcnjnaa.YWide
