/- Lean functions, contracts and lemmas that this claim needs. No condition. -/
import Derived.Test.YtpdljoalfmgfiaaBYWideDivA
import Derived.Test.YtpdljoalfmgfiaaBYWideLawh
namespace Go.Proofs.Ytpdljoalfmgfiaa.YWide
open Go.RowKit Go.Proofs.Ytpdljoalfmgfiaa.YInv Go.Proofs.Ytpdljoalfmgfiaa.YErr Go.Proofs.Ytpdljoalfmgfiaa.YRef Go.Proofs.Ytpdljoalfmgfiaa.YNum Go.Proofs.Ytpdljoalfmgfiaa.YBits Go.Proofs.Ytpdljoalfmgfiaa.XCarry Go.Proofs.Ytpdljoalfmgfiaa.QWd Go.Proofs.YtpdljoalfmgfiaaW.PrintWords Go.Proofs.YtpdljoalfmgfiaaW.PrintLast
set_option linter.unusedVariables false
set_option linter.unusedSimpArgs false
theorem t_sum (a b : Int) : Int.tdiv a b * b + Int.tmod a b = a := by rw [Int.mul_comm]; exact Int.mul_tdiv_add_tmod a b
theorem Bd.tdiv {k : Nat} {a : Int} (h : Bd k a) (b : Int) : Bd k (Int.tdiv a b) := by
  unfold Bd at *
  rw [Int.natAbs_tdiv]
  exact Nat.lt_of_le_of_lt (Nat.div_le_self _ _) h
theorem Bd.tmod {k : Nat} {a : Int} (h : Bd k a) (b : Int) : Bd k (Int.tmod a b) := by
  unfold Bd at *
  rw [Int.natAbs_tmod]
  exact Nat.lt_of_le_of_lt (Nat.mod_le _ _) h
theorem Bd.back {k : Nat} {a : Int} (h : Bd k a) (b : Int) : Bd k (Int.tdiv a b * b) := by
  unfold Bd at *
  rw [Int.natAbs_mul, Int.natAbs_tdiv]
  exact Nat.lt_of_le_of_lt (Nat.div_mul_le_self _ _) h
def sg (x : Int) : Int := if x = 0 then 0 else if x < 0 then -1 else 1
theorem t_sign (a b : Int) : sg (Int.tmod a b) = 0 ∨ sg (Int.tmod a b) = sg a := by
  have h1 : 0 ≤ a → 0 ≤ Int.tmod a b := fun h => Int.tmod_nonneg b h
  have h2 : a < 0 → Int.tmod a b ≤ 0 := fun h => by
    have := Int.tmod_nonneg (a := -a) b (by omega)
    rw [Int.neg_tmod] at this
    omega
  have h3 : a = 0 → Int.tmod a b = 0 := fun h => by rw [h]; exact Int.zero_tmod b
  generalize Int.tmod a b = r at *
  unfold sg
  split
  · exact .inl rfl
  · right
    split
    · rw [if_neg (by omega), if_pos (by omega)]
    · rw [if_neg (by omega), if_neg (by omega)]
theorem t_bits {a b : Int} {s t : Nat} (b0 : b ≠ 0) (hs : BitsIs (ab (Int.tmod a b)) s) (ht : BitsIs (ab b) t) : s ≤ t := by
  rcases Nat.lt_or_ge t s with h | h
  · exfalso
    have e : ∀ z : Int, ab z = (z.natAbs : Int) := fun z => by unfold ab; split <;> omega
    have l : (Int.tmod a b).natAbs < b.natAbs := by rw [Int.natAbs_tmod]; exact Nat.mod_lt _ (by omega)
    obtain ⟨_, _, h3⟩ := hs
    obtain ⟨_, g2, _⟩ := ht
    have h4 := h3 (by omega)
    rw [e] at h4 g2
    have p : (2 : Int) ^ t ≤ 2 ^ (s - 1) := by
      have := Nat.pow_le_pow_right (n := 2) (by decide) (show t ≤ s - 1 by omega)
      have e1 : ((2 ^ t : Nat) : Int) = (2 : Int) ^ t := by simp
      have e2 : ((2 ^ (s - 1) : Nat) : Int) = (2 : Int) ^ (s - 1) := by simp
      omega
    omega
  · exact h
set_option maxRecDepth 100000 in
set_option maxHeartbeats 16000000 in
theorem Div_zero {x : Int} (hx : InW x) (w : World) : Calls Try.prog 26 #[.agg (U (lim x)), .agg (U (lim 0))] w fun e w' => e = .returned (.tuple #[.agg (U (lim 0)), .agg (U (lim 0)), .bool false]) ∧ Below w.heap.size w w' := by
  have la := lim_len x
  have lb := lim_len 0
  have EQ := fun W => run_eqlZ 0 W
  rw [show decide (lim 0 = zeros) = true from decide_eq_true zeros_lim.symm] at EQ
  obtain ⟨k0, k1, k2, k3, b0⟩ := start4 w (lim x) (lim 0) _ rfl
  go_enter Try.func26, Try.ntmps26
  go_wp2_with (refine ldW k1 lb _ rfl rfl rfl ?_)
  have ex : ((((w.alloc (.cells (U (lim x)) 27)).alloc (.cells (U (lim 0)) 27)).alloc (.cells #[.int .u64 0, .int .u64 0, .int .u64 0, .int .u64 0, .int .u64 0, .int .u64 0, .int .u64 0, .int .u64 0, .int .u64 0, .int .u64 0, .int .u64 0, .int .u64 0, .int .u64 0, .int .u64 0, .int .u64 0, .int .u64 0] 27)).alloc (.cells #[.int .u64 0, .int .u64 0, .int .u64 0, .int .u64 0, .int .u64 0, .int .u64 0, .int .u64 0, .int .u64 0, .int .u64 0, .int .u64 0, .int .u64 0, .int .u64 0, .int .u64 0, .int .u64 0, .int .u64 0, .int .u64 0] 27)) = ((((w.alloc (.cells (U (lim x)) 27)).alloc (.cells (U (lim 0)) 27)).alloc (.cells (U zeros) 27)).alloc (.cells (U zeros) 27)) := rfl
  rw [ex]
  clear ex
  generalize ((((w.alloc (.cells (U (lim x)) 27)).alloc (.cells (U (lim 0)) 27)).alloc (.cells (U zeros) 27)).alloc (.cells (U zeros) 27)) = w1 at *
  rw [zeros_lim] at k2 k3
  exact bodyPost_ret (res221 Try.results26 _ rfl rfl k2 lb k3 lb) rfl ⟨rfl, b0⟩
end Go.Proofs.Ytpdljoalfmgfiaa.YWide
namespace Go.Proofs.Ytpdljoalfmgfiaa.YWide
open Go.RowKit Go.Proofs.Ytpdljoalfmgfiaa.YInv Go.Proofs.Ytpdljoalfmgfiaa.YErr Go.Proofs.Ytpdljoalfmgfiaa.YRef Go.Proofs.Ytpdljoalfmgfiaa.YNum Go.Proofs.Ytpdljoalfmgfiaa.YBits Go.Proofs.Ytpdljoalfmgfiaa.XCarry Go.Proofs.Ytpdljoalfmgfiaa.QWd Go.Proofs.YtpdljoalfmgfiaaW.PrintWords Go.Proofs.YtpdljoalfmgfiaaW.PrintLast
set_option linter.unusedVariables false
set_option linter.unusedSimpArgs false
theorem BitsWB {x : Int} {W : World} {t : Nat} (hx : InW x) (ht : BitsIs (ab x) t) : Calls Try.prog 24 #[.agg (U (lim x))] W fun e w' => e = .returned (.int .i64 (t : Int)) ∧ Below W.heap.size W w' := by
  refine (Bits_c hx W).mono ?_
  rintro e w' ⟨s, hs, rfl, g⟩
  obtain rfl := bits_one hs ht
  exact ⟨rfl, g⟩
theorem bits_exB {x : Int} (hx : InW x) : ∃ t : Nat, BitsIs (ab x) t := by
  have h0 : 0 ≤ ab x := by unfold YRef.ab; split <;> omega
  have h1 : ab x < 18446744073709551616 ^ 16 := by unfold InW at hx; unfold YRef.ab; split <;> omega
  have l16 := limbs_lt16 h1
  obtain ⟨s, e, hs, _⟩ := size_tells 100 h0 (by omega)
  exact ⟨s, hs⟩
set_option maxRecDepth 100000 in
set_option maxHeartbeats 32000000 in
theorem WideBack_calls (A0 : Option Addr) (c0 : Nat) (l0 : List Int) (A1 : Option Addr) (c1 : Nat) (l1 : List Int) (n p : Int) (ng mg : Bool) (w : World) (y0 : l0.length ≤ c0) (z0 : c0 ≤ maxLen) (wl0 : ∀ n ∈ l0, (Lit.int .u64 n).wf = true) (hl0 : LiesK .u64 w A0 l0) (y1 : l1.length ≤ c1) (z1 : c1 ≤ maxLen) (wl1 : ∀ n ∈ l1, (Lit.int .u64 n).wf = true) (hl1 : LiesK .u64 w A1 l1) (wn0 : (Lit.int .u16 n).wf = true) (wp0 : (Lit.int .u16 p).wf = true) : Calls Try.prog 6 #[.slice A0 l0.length c0, .slice A1 l1.length c1, .int .u16 n, .int .u16 p, .bool ng, .bool mg] w fun e w' => e = .returned (.bool true) ∧ Below w.heap.size w w' := by
  have d0 := dig_wf wl0
  have m0 : l0.length ≤ 9223372036854775807 := by unfold maxLen at z0; omega
  have d1 := dig_wf wl1
  have m1 : l1.length ≤ 9223372036854775807 := by unfold maxLen at z1; omega
  obtain ⟨n0, n1⟩ := wf_u16' wn0
  obtain ⟨p0, p1⟩ := wf_u16' wp0
  obtain ⟨ma, ha⟩ : ∃ k : Nat, n % 1000 = (k : Int) := ⟨(n % 1000).toNat, by omega⟩
  obtain ⟨mb, hb⟩ : ∃ k : Nat, p % 1000 = (k : Int) := ⟨(p % 1000).toNat, by omega⟩
  have HA := fun (W : World) (h : LiesK .u64 W A0 l0) => made_7 (c := c0) h d0 m0 ma (by omega) ng
  have HB := fun (W : World) (h : LiesK .u64 W A1 l1) => made_7 (c := c1) h d1 m1 mb (by omega) mg
  have KN := fun W => known_c W
  have b0 := Below.refl w.heap.size w
  clear wl0 wl1 wn0 wp0 d0 d1
  go_enter Try.func6, Try.ntmps6
  go_wp2_with fail
  refine (KN _).mono ?_; rintro e w1 ⟨rfl, g⟩
  have b1 := bb b0 g
  clear g b0
  go_wp2_with fail
  refine (HA _ (hl0.keep b1)).mono ?_; rintro e w2 ⟨a, a0x, a1x, rfl, g⟩
  have b2 := bb b1 g
  clear g b1
  go_wp2_with fail
  refine (HB _ (hl1.keep b2)).mono ?_; rintro e w3 ⟨b, b0x, b1x, rfl, g⟩
  have b3 := bb b2 g
  clear g b2
  have Ba := Bd.mono (Bd.of a0x a1x) (show ma ≤ 1000 by omega)
  have Bb := Bd.mono (Bd.of b0x b1x) (show mb ≤ 1000 by omega)
  have ia := Ba.inW (by decide)
  have ib := Bb.inW (by decide)
  have la := lim_len a
  have lb := lim_len b
  clear a0x a1x b0x b1x HA HB
  by_cases hb : b = 0
  · subst hb
    have DV := fun W => Div_zero ia W
    have SB : ∀ W, Calls Try.prog 22 #[.agg (U (lim 0))] W fun e w' => e = .returned (.int .i64 0) ∧ Below W.heap.size W w' := fun W => by simpa using Sign_c ib W
    clear Ba Bb ia ib
    generalize lim a = La at *
    generalize lim 0 = Lb at *
    obtain ⟨t0, t1, k4_0, k4_1, b4, up⟩ := new2 b3 (La) (Lb) _ _ _ rfl rfl rfl
    have z4 := b3.size
    go_wp2_with (first | (with_reducible refine ldW k4_0 la _ (by with_unfolding_all rfl) (by with_unfolding_all rfl) (by with_unfolding_all rfl) ?_) | (with_reducible refine ldW k4_1 lb _ (by with_unfolding_all rfl) (by with_unfolding_all rfl) (by with_unfolding_all rfl) ?_) | go_skip | (with_reducible refine ldWg k4_0 la _ (by with_unfolding_all rfl) (by with_unfolding_all rfl) (by kernel_rfl) ?_) | (with_reducible refine ldWg k4_1 lb _ (by with_unfolding_all rfl) (by with_unfolding_all rfl) (by kernel_rfl) ?_) | (with_reducible refine stW t0 zeros_len la _ _ (by with_unfolding_all rfl) (by with_unfolding_all rfl) (by with_unfolding_all rfl) (by with_unfolding_all rfl) ?_) | (with_reducible refine stW t1 zeros_len lb _ _ (by with_unfolding_all rfl) (by with_unfolding_all rfl) (by with_unfolding_all rfl) (by with_unfolding_all rfl) ?_))
    clear up t0 t1 b3
    generalize (((w3.alloc (.cells #[.int .u64 0, .int .u64 0, .int .u64 0, .int .u64 0, .int .u64 0, .int .u64 0, .int .u64 0, .int .u64 0, .int .u64 0, .int .u64 0, .int .u64 0, .int .u64 0, .int .u64 0, .int .u64 0, .int .u64 0, .int .u64 0] 27)).alloc (.cells #[.int .u64 0, .int .u64 0, .int .u64 0, .int .u64 0, .int .u64 0, .int .u64 0, .int .u64 0, .int .u64 0, .int .u64 0, .int .u64 0, .int .u64 0, .int .u64 0, .int .u64 0, .int .u64 0, .int .u64 0, .int .u64 0] 27)).setRow w3.heap.size (U (La))).setRow (w3.heap.size + 1) (U (Lb)) = w4 at *
    refine (DV _).mono ?_; rintro e w5 ⟨rfl, g⟩
    replace k4_0 := k4_0.keep g
    replace k4_1 := k4_1.keep g
    have b5 := bb b4 g
    clear g b4
    obtain ⟨t0, t1, k6_0, k6_1, b6, up⟩ := new2 b5 (Lb) (Lb) _ _ _ rfl rfl rfl
    replace k4_0 := up _ _ k4_0
    replace k4_1 := up _ _ k4_1
    have z6 := b5.size
    go_wp2_with (first | (with_reducible refine ldW k4_0 la _ (by with_unfolding_all rfl) (by with_unfolding_all rfl) (by with_unfolding_all rfl) ?_) | (with_reducible refine ldW k4_1 lb _ (by with_unfolding_all rfl) (by with_unfolding_all rfl) (by with_unfolding_all rfl) ?_) | (with_reducible refine ldW k6_0 lb _ (by with_unfolding_all rfl) (by with_unfolding_all rfl) (by with_unfolding_all rfl) ?_) | (with_reducible refine ldW k6_1 lb _ (by with_unfolding_all rfl) (by with_unfolding_all rfl) (by with_unfolding_all rfl) ?_) | go_skip | (with_reducible refine ldWg k4_0 la _ (by with_unfolding_all rfl) (by with_unfolding_all rfl) (by kernel_rfl) ?_) | (with_reducible refine ldWg k4_1 lb _ (by with_unfolding_all rfl) (by with_unfolding_all rfl) (by kernel_rfl) ?_) | (with_reducible refine ldWg k6_0 lb _ (by with_unfolding_all rfl) (by with_unfolding_all rfl) (by kernel_rfl) ?_) | (with_reducible refine ldWg k6_1 lb _ (by with_unfolding_all rfl) (by with_unfolding_all rfl) (by kernel_rfl) ?_) | (with_reducible refine stW t0 zeros_len lb _ _ (by with_unfolding_all rfl) (by with_unfolding_all rfl) (by with_unfolding_all rfl) (by with_unfolding_all rfl) ?_) | (with_reducible refine stW t1 zeros_len lb _ _ (by with_unfolding_all rfl) (by with_unfolding_all rfl) (by with_unfolding_all rfl) (by with_unfolding_all rfl) ?_))
    clear up t0 t1 b5
    generalize (((w5.alloc (.cells #[.int .u64 0, .int .u64 0, .int .u64 0, .int .u64 0, .int .u64 0, .int .u64 0, .int .u64 0, .int .u64 0, .int .u64 0, .int .u64 0, .int .u64 0, .int .u64 0, .int .u64 0, .int .u64 0, .int .u64 0, .int .u64 0] 27)).alloc (.cells #[.int .u64 0, .int .u64 0, .int .u64 0, .int .u64 0, .int .u64 0, .int .u64 0, .int .u64 0, .int .u64 0, .int .u64 0, .int .u64 0, .int .u64 0, .int .u64 0, .int .u64 0, .int .u64 0, .int .u64 0, .int .u64 0] 27)).setRow w5.heap.size (U (Lb))).setRow (w5.heap.size + 1) (U (Lb)) = w6 at *
    refine (SB _).mono ?_; rintro e w7 ⟨rfl, g⟩
    replace k4_0 := k4_0.keep g
    replace k4_1 := k4_1.keep g
    replace k6_0 := k6_0.keep g
    replace k6_1 := k6_1.keep g
    have b7 := bb b6 g
    clear g b6
    go_wp2_with (first | (with_reducible refine ldW k4_0 la _ (by with_unfolding_all rfl) (by with_unfolding_all rfl) (by with_unfolding_all rfl) ?_) | (with_reducible refine ldW k4_1 lb _ (by with_unfolding_all rfl) (by with_unfolding_all rfl) (by with_unfolding_all rfl) ?_) | (with_reducible refine ldW k6_0 lb _ (by with_unfolding_all rfl) (by with_unfolding_all rfl) (by with_unfolding_all rfl) ?_) | (with_reducible refine ldW k6_1 lb _ (by with_unfolding_all rfl) (by with_unfolding_all rfl) (by with_unfolding_all rfl) ?_) | go_skip | (with_reducible refine ldWg k4_0 la _ (by with_unfolding_all rfl) (by with_unfolding_all rfl) (by kernel_rfl) ?_) | (with_reducible refine ldWg k4_1 lb _ (by with_unfolding_all rfl) (by with_unfolding_all rfl) (by kernel_rfl) ?_) | (with_reducible refine ldWg k6_0 lb _ (by with_unfolding_all rfl) (by with_unfolding_all rfl) (by kernel_rfl) ?_) | (with_reducible refine ldWg k6_1 lb _ (by with_unfolding_all rfl) (by with_unfolding_all rfl) (by kernel_rfl) ?_))
    go_ret
    exact ⟨rfl, b7⟩
  · have iq := (Ba.tdiv b).inW (by decide)
    have ir := (Ba.tmod b).inW (by decide)
    have it := (Ba.back b).inW (by decide)
    have DV := fun W => Div_c ia ib hb W
    simp only [if_pos iq] at DV
    have SB : ∀ W, Calls Try.prog 22 #[.agg (U (lim b))] W fun e w' => e = .returned (.int .i64 (sg b)) ∧ Below W.heap.size W w' := fun W => Sign_c ib W
    have SR : ∀ W, Calls Try.prog 22 #[.agg (U (lim (Int.tmod a b)))] W fun e w' => e = .returned (.int .i64 (sg (Int.tmod a b))) ∧ Below W.heap.size W w' := fun W => Sign_c ir W
    have SA : ∀ W, Calls Try.prog 22 #[.agg (U (lim a))] W fun e w' => e = .returned (.int .i64 (sg a)) ∧ Below W.heap.size W w' := fun W => Sign_c ia W
    have MU := fun W => mul_w (w := W) iq ib it rfl
    have AD := fun W => add_w (w := W) it ir ia (t_sum a b)
    have EQ := fun W => eql_same (w := W) a
    obtain ⟨tr, htr⟩ := bits_exB ir
    obtain ⟨tb, htb⟩ := bits_exB ib
    have BR := fun W => BitsWB (W := W) ir htr
    have BB := fun W => BitsWB (W := W) ib htb
    have hle := t_bits hb htr htb
    have hli : (tr : Int) ≤ (tb : Int) := by omega
    clear htr htb hle
    have sb0 : sg b ≠ 0 := by unfold sg; rw [if_neg hb]; split <;> decide
    have TS := t_sign a b
    have lq := lim_len (Int.tdiv a b)
    have lr := lim_len (Int.tmod a b)
    have lt := lim_len (Int.tdiv a b * b)
    have E1 := Lib.hid EQ
    have HS := Lib.hid TS
    clear Ba Bb ia ib iq ir it hb EQ TS
    generalize sg b = sb at *
    generalize sg a = sa at *
    generalize sg (Int.tmod a b) = sr at *
    generalize lim (Int.tdiv a b * b) = Lt at *
    generalize lim (Int.tdiv a b) = Lq at *
    generalize lim (Int.tmod a b) = Lr at *
    generalize lim a = La at *
    generalize lim b = Lb at *
    obtain ⟨t0, t1, k4_0, k4_1, b4, up⟩ := new2 b3 (La) (Lb) _ _ _ rfl rfl rfl
    have z4 := b3.size
    go_wp2_with (first | (with_reducible refine ldW k4_0 la _ (by with_unfolding_all rfl) (by with_unfolding_all rfl) (by with_unfolding_all rfl) ?_) | (with_reducible refine ldW k4_1 lb _ (by with_unfolding_all rfl) (by with_unfolding_all rfl) (by with_unfolding_all rfl) ?_) | go_skip | (with_reducible refine ldWg k4_0 la _ (by with_unfolding_all rfl) (by with_unfolding_all rfl) (by kernel_rfl) ?_) | (with_reducible refine ldWg k4_1 lb _ (by with_unfolding_all rfl) (by with_unfolding_all rfl) (by kernel_rfl) ?_) | (with_reducible refine stW t0 zeros_len la _ _ (by with_unfolding_all rfl) (by with_unfolding_all rfl) (by with_unfolding_all rfl) (by with_unfolding_all rfl) ?_) | (with_reducible refine stW t1 zeros_len lb _ _ (by with_unfolding_all rfl) (by with_unfolding_all rfl) (by with_unfolding_all rfl) (by with_unfolding_all rfl) ?_))
    clear up t0 t1 b3
    generalize (((w3.alloc (.cells #[.int .u64 0, .int .u64 0, .int .u64 0, .int .u64 0, .int .u64 0, .int .u64 0, .int .u64 0, .int .u64 0, .int .u64 0, .int .u64 0, .int .u64 0, .int .u64 0, .int .u64 0, .int .u64 0, .int .u64 0, .int .u64 0] 27)).alloc (.cells #[.int .u64 0, .int .u64 0, .int .u64 0, .int .u64 0, .int .u64 0, .int .u64 0, .int .u64 0, .int .u64 0, .int .u64 0, .int .u64 0, .int .u64 0, .int .u64 0, .int .u64 0, .int .u64 0, .int .u64 0, .int .u64 0] 27)).setRow w3.heap.size (U (La))).setRow (w3.heap.size + 1) (U (Lb)) = w4 at *
    refine (DV _).mono ?_; rintro e w5 ⟨rfl, g⟩
    replace k4_0 := k4_0.keep g
    replace k4_1 := k4_1.keep g
    have b5 := bb b4 g
    clear g b4
    obtain ⟨t0, t1, k6_0, k6_1, b6, up⟩ := new2 b5 (Lq) (Lr) _ _ _ rfl rfl rfl
    replace k4_0 := up _ _ k4_0
    replace k4_1 := up _ _ k4_1
    have z6 := b5.size
    go_wp2_with (first | (with_reducible refine ldW k4_0 la _ (by with_unfolding_all rfl) (by with_unfolding_all rfl) (by with_unfolding_all rfl) ?_) | (with_reducible refine ldW k4_1 lb _ (by with_unfolding_all rfl) (by with_unfolding_all rfl) (by with_unfolding_all rfl) ?_) | (with_reducible refine ldW k6_0 lq _ (by with_unfolding_all rfl) (by with_unfolding_all rfl) (by with_unfolding_all rfl) ?_) | (with_reducible refine ldW k6_1 lr _ (by with_unfolding_all rfl) (by with_unfolding_all rfl) (by with_unfolding_all rfl) ?_) | go_skip | (with_reducible refine ldWg k4_0 la _ (by with_unfolding_all rfl) (by with_unfolding_all rfl) (by kernel_rfl) ?_) | (with_reducible refine ldWg k4_1 lb _ (by with_unfolding_all rfl) (by with_unfolding_all rfl) (by kernel_rfl) ?_) | (with_reducible refine ldWg k6_0 lq _ (by with_unfolding_all rfl) (by with_unfolding_all rfl) (by kernel_rfl) ?_) | (with_reducible refine ldWg k6_1 lr _ (by with_unfolding_all rfl) (by with_unfolding_all rfl) (by kernel_rfl) ?_) | (with_reducible refine stW t0 zeros_len lq _ _ (by with_unfolding_all rfl) (by with_unfolding_all rfl) (by with_unfolding_all rfl) (by with_unfolding_all rfl) ?_) | (with_reducible refine stW t1 zeros_len lr _ _ (by with_unfolding_all rfl) (by with_unfolding_all rfl) (by with_unfolding_all rfl) (by with_unfolding_all rfl) ?_))
    clear up t0 t1 b5
    generalize (((w5.alloc (.cells #[.int .u64 0, .int .u64 0, .int .u64 0, .int .u64 0, .int .u64 0, .int .u64 0, .int .u64 0, .int .u64 0, .int .u64 0, .int .u64 0, .int .u64 0, .int .u64 0, .int .u64 0, .int .u64 0, .int .u64 0, .int .u64 0] 27)).alloc (.cells #[.int .u64 0, .int .u64 0, .int .u64 0, .int .u64 0, .int .u64 0, .int .u64 0, .int .u64 0, .int .u64 0, .int .u64 0, .int .u64 0, .int .u64 0, .int .u64 0, .int .u64 0, .int .u64 0, .int .u64 0, .int .u64 0] 27)).setRow w5.heap.size (U (Lq))).setRow (w5.heap.size + 1) (U (Lr)) = w6 at *
    refine (SB _).mono ?_; rintro e w7 ⟨rfl, g⟩
    replace k4_0 := k4_0.keep g
    replace k4_1 := k4_1.keep g
    replace k6_0 := k6_0.keep g
    replace k6_1 := k6_1.keep g
    have b7 := bb b6 g
    clear g b6
    go_wp2_with (first | (with_reducible refine ldW k4_0 la _ (by with_unfolding_all rfl) (by with_unfolding_all rfl) (by with_unfolding_all rfl) ?_) | (with_reducible refine ldW k4_1 lb _ (by with_unfolding_all rfl) (by with_unfolding_all rfl) (by with_unfolding_all rfl) ?_) | (with_reducible refine ldW k6_0 lq _ (by with_unfolding_all rfl) (by with_unfolding_all rfl) (by with_unfolding_all rfl) ?_) | (with_reducible refine ldW k6_1 lr _ (by with_unfolding_all rfl) (by with_unfolding_all rfl) (by with_unfolding_all rfl) ?_) | go_skip | (with_reducible refine ldWg k4_0 la _ (by with_unfolding_all rfl) (by with_unfolding_all rfl) (by kernel_rfl) ?_) | (with_reducible refine ldWg k4_1 lb _ (by with_unfolding_all rfl) (by with_unfolding_all rfl) (by kernel_rfl) ?_) | (with_reducible refine ldWg k6_0 lq _ (by with_unfolding_all rfl) (by with_unfolding_all rfl) (by kernel_rfl) ?_) | (with_reducible refine ldWg k6_1 lr _ (by with_unfolding_all rfl) (by with_unfolding_all rfl) (by kernel_rfl) ?_))
    refine (MU _).mono ?_; rintro e w8 ⟨rfl, g⟩
    replace k4_0 := k4_0.keep g
    replace k4_1 := k4_1.keep g
    replace k6_0 := k6_0.keep g
    replace k6_1 := k6_1.keep g
    have b8 := bb b7 g
    clear g b7
    obtain ⟨t0, k9_0, b9, up⟩ := new1 b8 (Lt) _ _ rfl rfl
    replace k4_0 := up _ _ k4_0
    replace k4_1 := up _ _ k4_1
    replace k6_0 := up _ _ k6_0
    replace k6_1 := up _ _ k6_1
    have z9 := b8.size
    go_wp2_with (first | (with_reducible refine ldW k4_0 la _ (by with_unfolding_all rfl) (by with_unfolding_all rfl) (by with_unfolding_all rfl) ?_) | (with_reducible refine ldW k4_1 lb _ (by with_unfolding_all rfl) (by with_unfolding_all rfl) (by with_unfolding_all rfl) ?_) | (with_reducible refine ldW k6_0 lq _ (by with_unfolding_all rfl) (by with_unfolding_all rfl) (by with_unfolding_all rfl) ?_) | (with_reducible refine ldW k6_1 lr _ (by with_unfolding_all rfl) (by with_unfolding_all rfl) (by with_unfolding_all rfl) ?_) | (with_reducible refine ldW k9_0 lt _ (by with_unfolding_all rfl) (by with_unfolding_all rfl) (by with_unfolding_all rfl) ?_) | go_skip | (with_reducible refine ldWg k4_0 la _ (by with_unfolding_all rfl) (by with_unfolding_all rfl) (by kernel_rfl) ?_) | (with_reducible refine ldWg k4_1 lb _ (by with_unfolding_all rfl) (by with_unfolding_all rfl) (by kernel_rfl) ?_) | (with_reducible refine ldWg k6_0 lq _ (by with_unfolding_all rfl) (by with_unfolding_all rfl) (by kernel_rfl) ?_) | (with_reducible refine ldWg k6_1 lr _ (by with_unfolding_all rfl) (by with_unfolding_all rfl) (by kernel_rfl) ?_) | (with_reducible refine ldWg k9_0 lt _ (by with_unfolding_all rfl) (by with_unfolding_all rfl) (by kernel_rfl) ?_) | (with_reducible refine stW t0 zeros_len lt _ _ (by with_unfolding_all rfl) (by with_unfolding_all rfl) (by with_unfolding_all rfl) (by with_unfolding_all rfl) ?_))
    clear up t0 b8
    generalize (w8.alloc (.cells #[.int .u64 0, .int .u64 0, .int .u64 0, .int .u64 0, .int .u64 0, .int .u64 0, .int .u64 0, .int .u64 0, .int .u64 0, .int .u64 0, .int .u64 0, .int .u64 0, .int .u64 0, .int .u64 0, .int .u64 0, .int .u64 0] 27)).setRow w8.heap.size (U (Lt)) = w9 at *
    refine (AD _).mono ?_; rintro e w10 ⟨rfl, g⟩
    replace k4_0 := k4_0.keep g
    replace k4_1 := k4_1.keep g
    replace k6_0 := k6_0.keep g
    replace k6_1 := k6_1.keep g
    replace k9_0 := k9_0.keep g
    have b10 := bb b9 g
    clear g b9
    have EQ := E1.out
    obtain ⟨t0, k11_0, b11, up⟩ := new1 b10 (La) _ _ rfl rfl
    replace k4_0 := up _ _ k4_0
    replace k4_1 := up _ _ k4_1
    replace k6_0 := up _ _ k6_0
    replace k6_1 := up _ _ k6_1
    replace k9_0 := up _ _ k9_0
    have z11 := b10.size
    go_wp2_with (first | (with_reducible refine ldW k4_0 la _ (by with_unfolding_all rfl) (by with_unfolding_all rfl) (by with_unfolding_all rfl) ?_) | (with_reducible refine ldW k4_1 lb _ (by with_unfolding_all rfl) (by with_unfolding_all rfl) (by with_unfolding_all rfl) ?_) | (with_reducible refine ldW k6_0 lq _ (by with_unfolding_all rfl) (by with_unfolding_all rfl) (by with_unfolding_all rfl) ?_) | (with_reducible refine ldW k6_1 lr _ (by with_unfolding_all rfl) (by with_unfolding_all rfl) (by with_unfolding_all rfl) ?_) | (with_reducible refine ldW k9_0 lt _ (by with_unfolding_all rfl) (by with_unfolding_all rfl) (by with_unfolding_all rfl) ?_) | (with_reducible refine ldW k11_0 la _ (by with_unfolding_all rfl) (by with_unfolding_all rfl) (by with_unfolding_all rfl) ?_) | go_skip | (with_reducible refine ldWg k4_0 la _ (by with_unfolding_all rfl) (by with_unfolding_all rfl) (by kernel_rfl) ?_) | (with_reducible refine ldWg k4_1 lb _ (by with_unfolding_all rfl) (by with_unfolding_all rfl) (by kernel_rfl) ?_) | (with_reducible refine ldWg k6_0 lq _ (by with_unfolding_all rfl) (by with_unfolding_all rfl) (by kernel_rfl) ?_) | (with_reducible refine ldWg k6_1 lr _ (by with_unfolding_all rfl) (by with_unfolding_all rfl) (by kernel_rfl) ?_) | (with_reducible refine ldWg k9_0 lt _ (by with_unfolding_all rfl) (by with_unfolding_all rfl) (by kernel_rfl) ?_) | (with_reducible refine ldWg k11_0 la _ (by with_unfolding_all rfl) (by with_unfolding_all rfl) (by kernel_rfl) ?_) | (with_reducible refine stW t0 zeros_len la _ _ (by with_unfolding_all rfl) (by with_unfolding_all rfl) (by with_unfolding_all rfl) (by with_unfolding_all rfl) ?_))
    clear up t0 b10
    generalize (w10.alloc (.cells #[.int .u64 0, .int .u64 0, .int .u64 0, .int .u64 0, .int .u64 0, .int .u64 0, .int .u64 0, .int .u64 0, .int .u64 0, .int .u64 0, .int .u64 0, .int .u64 0, .int .u64 0, .int .u64 0, .int .u64 0, .int .u64 0] 27)).setRow w10.heap.size (U (La)) = w11 at *
    have DL := run_eqW La La la la
    by_cases h0 : sr = 0
    · subst h0
      refine region_vals (σ := Unit) [some 58, some 59, some 60, some 61, some 62, some 63, some 64, some 65, some 66, some 67, some 68, some 69, some 70, some 71, some 72, some 73, some 74, some 75, some 76, some 77, some 78, some 79, some 80, some 81, some 82, some 83, some 84, some 85, some 86, some 87, some 88, some 12] (fun _ i => ([.bool true, .bool true, .bool true, .bool true, .bool true, .bool true, .bool true, .bool true, .agg (U (La)), .agg (U (La)), .bool true, .bool true, .bool true, .agg (U (Lr)), .int .i64 (0), .bool true, .bool true, undef, undef, undef, undef, undef, .bool true, .bool true, .bool true, .agg (U (Lr)), .int .i64 ((tr : Int)), .agg (U (Lb)), .int .i64 ((tb : Int)), .bool true, .bool true, .bool true] : List Value).getD i undef) (fun _ _ wx => Blk wx w3.heap.size (U (La)) 27 ∧ Blk wx (w3.heap.size + 1) (U (Lb)) 27 ∧ Blk wx w5.heap.size (U (Lq)) 27 ∧ Blk wx (w5.heap.size + 1) (U (Lr)) 27 ∧ Blk wx w8.heap.size (U (Lt)) 27 ∧ Blk wx w10.heap.size (U (La)) 27 ∧ Below w.heap.size w wx) () [0, 1, 2, 3, 4, 5, 6, 7, 8, 9, 10, 11, 12, 13, 14, 15, 16, 17, 18, 19, 20, 21, 22, 23, 24, 25, 26, 27, 28, 29, 30, 31] _ _ rfl (by kernel_rfl) (by kernel_rfl) (by kernel_rfl) (by kernel_rfl) (by kernel_rfl) ⟨k4_0.drew, k4_1.drew, k6_0.drew, k6_1.drew, k9_0.drew, k11_0.drew, b11.drew⟩ ?steps ?fin (fun _ _ _ _ _ h => h)
      case steps =>
        refine VSteps.cons rfl (fun x L s wx K kn hL hp hI hK => ?_) ?_
        · have e17 : x[17]? = some (.bool true) := (kn.old 17 (by kernel_rfl)).trans rfl
          refine want_ rfl ?_
          exact val_ (by simp [go_sem, execOp, evc_, e17]) (hK.out s _ (fun _ _ => rfl) hI)
        refine VSteps.cons rfl (fun x L s wx K kn hL hp hI hK => ?_) ?_
        · have e58 : x[58]? = some (.bool true) := kn.got 0 58 (hp ⟨0, .data⟩ (by simp) rfl) rfl
          refine want_ rfl ?_
          exact val_ (by simp [go_sem, execOp, evc_, e58]) (hK.out s _ (fun _ _ => rfl) hI)
        refine VSteps.cons rfl (fun x L s wx K kn hL hp hI hK => ?_) ?_
        · have e19 : x[19]? = some (.bool true) := (kn.old 19 (by kernel_rfl)).trans rfl
          refine want_ ((guard_ rfl rfl true (show x[59]? = some (.bool true) from kn.got 1 59 (hp ⟨1, .guard⟩ (by simp) rfl) rfl)).trans rfl) ?_
          exact val_ (by simp [go_sem, execOp, evc_, e19]) (hK.out s _ (fun _ _ => rfl) hI)
        refine VSteps.cons rfl (fun x L s wx K kn hL hp hI hK => ?_) ?_
        · have e59 : x[59]? = some (.bool true) := kn.got 1 59 (hp ⟨1, .data⟩ (by simp) rfl) rfl
          have e60 : x[60]? = some (.bool true) := kn.got 2 60 (hp ⟨2, .data⟩ (by simp) rfl) rfl
          refine want_ rfl ?_
          exact val_ (by simp [go_sem, execOp, evc_, e59, e60]) (hK.out s _ (fun _ _ => rfl) hI)
        refine VSteps.cons rfl (fun x L s wx K kn hL hp hI hK => ?_) ?_
        · have e61 : x[61]? = some (.bool true) := kn.got 3 61 (hp ⟨3, .data⟩ (by simp) rfl) rfl
          refine want_ rfl ?_
          exact val_ (by simp [go_sem, execOp, evc_, e61]) (hK.out s _ (fun _ _ => rfl) hI)
        refine VSteps.cons rfl (fun x L s wx K kn hL hp hI hK => ?_) ?_
        · have e21 : x[21]? = some (.bool true) := (kn.old 21 (by kernel_rfl)).trans rfl
          refine want_ ((guard_ rfl rfl true (show x[62]? = some (.bool true) from kn.got 4 62 (hp ⟨4, .guard⟩ (by simp) rfl) rfl)).trans rfl) ?_
          exact val_ (by simp [go_sem, execOp, evc_, e21]) (hK.out s _ (fun _ _ => rfl) hI)
        refine VSteps.cons rfl (fun x L s wx K kn hL hp hI hK => ?_) ?_
        · have e62 : x[62]? = some (.bool true) := kn.got 4 62 (hp ⟨4, .data⟩ (by simp) rfl) rfl
          have e63 : x[63]? = some (.bool true) := kn.got 5 63 (hp ⟨5, .data⟩ (by simp) rfl) rfl
          refine want_ rfl ?_
          exact val_ (by simp [go_sem, execOp, evc_, e62, e63]) (hK.out s _ (fun _ _ => rfl) hI)
        refine VSteps.cons rfl (fun x L s wx K kn hL hp hI hK => ?_) ?_
        · have e64 : x[64]? = some (.bool true) := kn.got 6 64 (hp ⟨6, .data⟩ (by simp) rfl) rfl
          refine want_ rfl ?_
          exact val_ (by simp [go_sem, execOp, evc_, e64]) (hK.out s _ (fun _ _ => rfl) hI)
        refine VSteps.cons rfl (fun x L s wx K kn hL hp hI hK => ?_) ?_
        · have e20 : x[20]? = some (.pointer (some ⟨w10.heap.size, 0, none⟩)) := (kn.old 20 (by kernel_rfl)).trans rfl
          refine want_ ((guard_ rfl rfl true (show x[65]? = some (.bool true) from kn.got 7 65 (hp ⟨7, .guard⟩ (by simp) rfl) rfl)).trans rfl) ?_
          exact wp_load_row 27 _ rfl w10.heap.size (ev_ e20) 27 (U (La)) (0, 0) _ hI.2.2.2.2.2.1 Try.underlying27 rfl (ofLen la) (hK.out s _ (fun _ _ => rfl) hI)
        refine VSteps.cons rfl (fun x L s wx K kn hL hp hI hK => ?_) ?_
        · have e13 : x[13]? = some (.pointer (some ⟨w3.heap.size, 0, none⟩)) := (kn.old 13 (by kernel_rfl)).trans rfl
          refine want_ ((guard_ rfl rfl true (show x[65]? = some (.bool true) from kn.got 7 65 (hp ⟨7, .guard⟩ (by simp) rfl) rfl)).trans rfl) ?_
          exact wp_load_row 27 _ rfl w3.heap.size (ev_ e13) 27 (U (La)) (0, 0) _ hI.1 Try.underlying27 rfl (ofLen la) (hK.out s _ (fun _ _ => rfl) hI)
        refine VSteps.cons rfl (fun x L s wx K kn hL hp hI hK => ?_) ?_
        · have e66 : x[66]? = some (.agg (U (La))) := kn.got 8 66 (hp ⟨8, .data⟩ (by simp) rfl) rfl
          have e67 : x[67]? = some (.agg (U (La))) := kn.got 9 67 (hp ⟨9, .data⟩ (by simp) rfl) rfl
          refine want_ ((guard_ rfl rfl true (show x[65]? = some (.bool true) from kn.got 7 65 (hp ⟨7, .guard⟩ (by simp) rfl) rfl)).trans rfl) ?_
          exact val_ (by simp [go_sem, execOp, evc_, e66, e67, EQ, DL]) (hK.out s _ (fun _ _ => rfl) hI)
        refine VSteps.cons rfl (fun x L s wx K kn hL hp hI hK => ?_) ?_
        · have e65 : x[65]? = some (.bool true) := kn.got 7 65 (hp ⟨7, .data⟩ (by simp) rfl) rfl
          have e68 : x[68]? = some (.bool true) := kn.got 10 68 (hp ⟨10, .data⟩ (by simp) rfl) rfl
          refine want_ rfl ?_
          exact val_ (by simp [go_sem, execOp, evc_, e65, e68]) (hK.out s _ (fun _ _ => rfl) hI)
        refine VSteps.cons rfl (fun x L s wx K kn hL hp hI hK => ?_) ?_
        · have e69 : x[69]? = some (.bool true) := kn.got 11 69 (hp ⟨11, .data⟩ (by simp) rfl) rfl
          refine want_ rfl ?_
          exact val_ (by simp [go_sem, execOp, evc_, e69]) (hK.out s _ (fun _ _ => rfl) hI)
        refine VSteps.cons rfl (fun x L s wx K kn hL hp hI hK => ?_) ?_
        · have e16 : x[16]? = some (.pointer (some ⟨(w5.heap.size + 1), 0, none⟩)) := (kn.old 16 (by kernel_rfl)).trans rfl
          refine want_ ((guard_ rfl rfl true (show x[70]? = some (.bool true) from kn.got 12 70 (hp ⟨12, .guard⟩ (by simp) rfl) rfl)).trans rfl) ?_
          exact wp_load_row 27 _ rfl (w5.heap.size + 1) (ev_ e16) 27 (U (Lr)) (0, 0) _ hI.2.2.2.1 Try.underlying27 rfl (ofLen lr) (hK.out s _ (fun _ _ => rfl) hI)
        refine VSteps.cons rfl (fun x L s wx K kn hL hp hI hK => ?_) ?_
        · have e71 : x[71]? = some (.agg (U (Lr))) := kn.got 13 71 (hp ⟨13, .data⟩ (by simp) rfl) rfl
          refine want_ ((guard_ rfl rfl true (show x[70]? = some (.bool true) from kn.got 12 70 (hp ⟨12, .chain⟩ (by simp) rfl) rfl)).trans rfl) ?_
          refine goesK_ Try.func22 (by kernel_rfl) rfl #[.agg (U (Lr))] rfl (by simp only [List.map_toArray, List.map_cons, List.map_nil, evc_, ev_ e71]) ((SR _).mono ?_)
          rintro e w' ⟨rfl, g⟩
          obtain ⟨K0, K1, K2, K3, K4, K5, BW⟩ := hI
          exact ⟨_, rfl, hK.out s _ (fun _ _ => rfl) ⟨K0.keep g, K1.keep g, K2.keep g, K3.keep g, K4.keep g, K5.keep g, bb BW g⟩⟩
        refine VSteps.cons rfl (fun x L s wx K kn hL hp hI hK => ?_) ?_
        · have e72 : x[72]? = some (.int .i64 (0)) := kn.got 14 72 (hp ⟨14, .data⟩ (by simp) rfl) rfl
          refine want_ ((guard_ rfl rfl true (show x[70]? = some (.bool true) from kn.got 12 70 (hp ⟨12, .guard⟩ (by simp) rfl) rfl)).trans rfl) ?_
          exact val_ (by simp [go_sem, execOp, evc_, e72]) (hK.out s _ (fun _ _ => rfl) hI)
        refine VSteps.cons rfl (fun x L s wx K kn hL hp hI hK => ?_) ?_
        · have e73 : x[73]? = some (.bool true) := kn.got 15 73 (hp ⟨15, .data⟩ (by simp) rfl) rfl
          refine want_ ((guard_ rfl rfl true (show x[70]? = some (.bool true) from kn.got 12 70 (hp ⟨12, .guard⟩ (by simp) rfl) rfl)).trans rfl) ?_
          exact val_ (by simp [go_sem, execOp, evc_, e73]) (hK.out s _ (fun _ _ => rfl) hI)
        refine VSteps.cons rfl (fun x L s wx K kn hL hp hI hK => ?_) ?_
        · refine wantnot_ ((guard_ rfl rfl true (show x[74]? = some (.bool true) from kn.got 16 74 (hp ⟨16, .guard⟩ (by simp) rfl) rfl)).trans rfl) ?_
          exact hK.out s _ (fun _ _ => rfl) hI
        refine VSteps.cons rfl (fun x L s wx K kn hL hp hI hK => ?_) ?_
        · refine wantnot_ ((guard_ rfl rfl true (show x[74]? = some (.bool true) from kn.got 16 74 (hp ⟨16, .chain⟩ (by simp) rfl) rfl)).trans rfl) ?_
          exact hK.out s _ (fun _ _ => rfl) hI
        refine VSteps.cons rfl (fun x L s wx K kn hL hp hI hK => ?_) ?_
        · refine wantnot_ ((guard_ rfl rfl true (show x[74]? = some (.bool true) from kn.got 16 74 (hp ⟨16, .guard⟩ (by simp) rfl) rfl)).trans rfl) ?_
          exact hK.out s _ (fun _ _ => rfl) hI
        refine VSteps.cons rfl (fun x L s wx K kn hL hp hI hK => ?_) ?_
        · refine wantnot_ ((guard_ rfl rfl true (show x[74]? = some (.bool true) from kn.got 16 74 (hp ⟨16, .guard⟩ (by simp) rfl) rfl)).trans rfl) ?_
          exact hK.out s _ (fun _ _ => rfl) hI
        refine VSteps.cons rfl (fun x L s wx K kn hL hp hI hK => ?_) ?_
        · refine wantnot_ ((guard_ rfl rfl true (show x[74]? = some (.bool true) from kn.got 16 74 (hp ⟨16, .guard⟩ (by simp) rfl) rfl)).trans rfl) ?_
          exact hK.out s _ (fun _ _ => rfl) hI
        refine VSteps.cons rfl (fun x L s wx K kn hL hp hI hK => ?_) ?_
        · have e74 : x[74]? = some (.bool true) := kn.got 16 74 (hp ⟨16, .data⟩ (by simp) rfl) rfl
          have e79 : x[79]? = some (undef) := kn.got 21 79 (hp ⟨21, .data⟩ (by simp) rfl) rfl
          refine want_ ((guard_ rfl rfl true (show x[70]? = some (.bool true) from kn.got 12 70 (hp ⟨12, .guard⟩ (by simp) rfl) rfl)).trans rfl) ?_
          exact val_ (by simp [go_sem, execOp, evc_, e74, e79]) (hK.out s _ (fun _ _ => rfl) hI)
        refine VSteps.cons rfl (fun x L s wx K kn hL hp hI hK => ?_) ?_
        · have e70 : x[70]? = some (.bool true) := kn.got 12 70 (hp ⟨12, .data⟩ (by simp) rfl) rfl
          have e80 : x[80]? = some (.bool true) := kn.got 22 80 (hp ⟨22, .data⟩ (by simp) rfl) rfl
          refine want_ rfl ?_
          exact val_ (by simp [go_sem, execOp, evc_, e70, e80]) (hK.out s _ (fun _ _ => rfl) hI)
        refine VSteps.cons rfl (fun x L s wx K kn hL hp hI hK => ?_) ?_
        · have e81 : x[81]? = some (.bool true) := kn.got 23 81 (hp ⟨23, .data⟩ (by simp) rfl) rfl
          refine want_ rfl ?_
          exact val_ (by simp [go_sem, execOp, evc_, e81]) (hK.out s _ (fun _ _ => rfl) hI)
        refine VSteps.cons rfl (fun x L s wx K kn hL hp hI hK => ?_) ?_
        · have e16 : x[16]? = some (.pointer (some ⟨(w5.heap.size + 1), 0, none⟩)) := (kn.old 16 (by kernel_rfl)).trans rfl
          refine want_ ((guard_ rfl rfl true (show x[82]? = some (.bool true) from kn.got 24 82 (hp ⟨24, .guard⟩ (by simp) rfl) rfl)).trans rfl) ?_
          exact wp_load_row 27 _ rfl (w5.heap.size + 1) (ev_ e16) 27 (U (Lr)) (0, 0) _ hI.2.2.2.1 Try.underlying27 rfl (ofLen lr) (hK.out s _ (fun _ _ => rfl) hI)
        refine VSteps.cons rfl (fun x L s wx K kn hL hp hI hK => ?_) ?_
        · have e83 : x[83]? = some (.agg (U (Lr))) := kn.got 25 83 (hp ⟨25, .data⟩ (by simp) rfl) rfl
          refine want_ ((guard_ rfl rfl true (show x[82]? = some (.bool true) from kn.got 24 82 (hp ⟨24, .chain⟩ (by simp) rfl) rfl)).trans rfl) ?_
          refine goesK_ Try.func24 (by kernel_rfl) rfl #[.agg (U (Lr))] rfl (by simp only [List.map_toArray, List.map_cons, List.map_nil, evc_, ev_ e83]) ((BR _).mono ?_)
          rintro e w' ⟨rfl, g⟩
          obtain ⟨K0, K1, K2, K3, K4, K5, BW⟩ := hI
          exact ⟨_, rfl, hK.out s _ (fun _ _ => rfl) ⟨K0.keep g, K1.keep g, K2.keep g, K3.keep g, K4.keep g, K5.keep g, bb BW g⟩⟩
        refine VSteps.cons rfl (fun x L s wx K kn hL hp hI hK => ?_) ?_
        · have e14 : x[14]? = some (.pointer (some ⟨(w3.heap.size + 1), 0, none⟩)) := (kn.old 14 (by kernel_rfl)).trans rfl
          refine want_ ((guard_ rfl rfl true (show x[82]? = some (.bool true) from kn.got 24 82 (hp ⟨24, .guard⟩ (by simp) rfl) rfl)).trans rfl) ?_
          exact wp_load_row 27 _ rfl (w3.heap.size + 1) (ev_ e14) 27 (U (Lb)) (0, 0) _ hI.2.1 Try.underlying27 rfl (ofLen lb) (hK.out s _ (fun _ _ => rfl) hI)
        refine VSteps.cons rfl (fun x L s wx K kn hL hp hI hK => ?_) ?_
        · have e85 : x[85]? = some (.agg (U (Lb))) := kn.got 27 85 (hp ⟨27, .data⟩ (by simp) rfl) rfl
          refine want_ ((guard_ rfl rfl true (show x[82]? = some (.bool true) from kn.got 24 82 (hp ⟨24, .guard⟩ (by simp) rfl) rfl)).trans rfl) ?_
          refine goesK_ Try.func24 (by kernel_rfl) rfl #[.agg (U (Lb))] rfl (by simp only [List.map_toArray, List.map_cons, List.map_nil, evc_, ev_ e85]) ((BB _).mono ?_)
          rintro e w' ⟨rfl, g⟩
          obtain ⟨K0, K1, K2, K3, K4, K5, BW⟩ := hI
          exact ⟨_, rfl, hK.out s _ (fun _ _ => rfl) ⟨K0.keep g, K1.keep g, K2.keep g, K3.keep g, K4.keep g, K5.keep g, bb BW g⟩⟩
        refine VSteps.cons rfl (fun x L s wx K kn hL hp hI hK => ?_) ?_
        · have e84 : x[84]? = some (.int .i64 ((tr : Int))) := kn.got 26 84 (hp ⟨26, .data⟩ (by simp) rfl) rfl
          have e86 : x[86]? = some (.int .i64 ((tb : Int))) := kn.got 28 86 (hp ⟨28, .data⟩ (by simp) rfl) rfl
          refine want_ ((guard_ rfl rfl true (show x[82]? = some (.bool true) from kn.got 24 82 (hp ⟨24, .guard⟩ (by simp) rfl) rfl)).trans rfl) ?_
          exact val_ (by simp [go_sem, execOp, evc_, e84, e86, hli]) (hK.out s _ (fun _ _ => rfl) hI)
        refine VSteps.cons rfl (fun x L s wx K kn hL hp hI hK => ?_) ?_
        · have e82 : x[82]? = some (.bool true) := kn.got 24 82 (hp ⟨24, .data⟩ (by simp) rfl) rfl
          have e87 : x[87]? = some (.bool true) := kn.got 29 87 (hp ⟨29, .data⟩ (by simp) rfl) rfl
          refine want_ rfl ?_
          exact val_ (by simp [go_sem, execOp, evc_, e82, e87]) (hK.out s _ (fun _ _ => rfl) hI)
        refine VSteps.cons rfl (fun x L s wx K kn hL hp hI hK => ?_) ?_
        · have e88 : x[88]? = some (.bool true) := kn.got 30 88 (hp ⟨30, .data⟩ (by simp) rfl) rfl
          refine want_ rfl ?_
          exact val_ (by simp [go_sem, execOp, evc_, e88]) (hK.out s _ (fun _ _ => rfl) hI)
        exact VSteps.nil
      case fin =>
        intro s wx hI
        simp only [puts, List.getD_cons_zero, List.getD_cons_succ, List.set_cons_zero, List.set_cons_succ]
        obtain ⟨K0, K1, K2, K3, K4, K5, BW⟩ := hI
        go_wp2_with fail
        go_ret
        exact ⟨rfl, BW⟩
    · have h1 : sr = sa := HS.out.resolve_left h0
      subst h1
      refine region_vals (σ := Unit) [some 58, some 59, some 60, some 61, some 62, some 63, some 64, some 65, some 66, some 67, some 68, some 69, some 70, some 71, some 72, some 73, some 74, some 75, some 76, some 77, some 78, some 79, some 80, some 81, some 82, some 83, some 84, some 85, some 86, some 87, some 88, some 12] (fun _ i => ([.bool true, .bool true, .bool true, .bool true, .bool true, .bool true, .bool true, .bool true, .agg (U (La)), .agg (U (La)), .bool true, .bool true, .bool true, .agg (U (Lr)), .int .i64 (sr), .bool false, .bool false, .agg (U (Lr)), .int .i64 (sr), .agg (U (La)), .int .i64 (sr), .bool true, .bool true, .bool true, .bool true, .agg (U (Lr)), .int .i64 ((tr : Int)), .agg (U (Lb)), .int .i64 ((tb : Int)), .bool true, .bool true, .bool true] : List Value).getD i undef) (fun _ _ wx => Blk wx w3.heap.size (U (La)) 27 ∧ Blk wx (w3.heap.size + 1) (U (Lb)) 27 ∧ Blk wx w5.heap.size (U (Lq)) 27 ∧ Blk wx (w5.heap.size + 1) (U (Lr)) 27 ∧ Blk wx w8.heap.size (U (Lt)) 27 ∧ Blk wx w10.heap.size (U (La)) 27 ∧ Below w.heap.size w wx) () [0, 1, 2, 3, 4, 5, 6, 7, 8, 9, 10, 11, 12, 13, 14, 15, 16, 17, 18, 19, 20, 21, 22, 23, 24, 25, 26, 27, 28, 29, 30, 31] _ _ rfl (by kernel_rfl) (by kernel_rfl) (by kernel_rfl) (by kernel_rfl) (by kernel_rfl) ⟨k4_0.drew, k4_1.drew, k6_0.drew, k6_1.drew, k9_0.drew, k11_0.drew, b11.drew⟩ ?steps ?fin (fun _ _ _ _ _ h => h)
      case steps =>
        refine VSteps.cons rfl (fun x L s wx K kn hL hp hI hK => ?_) ?_
        · have e17 : x[17]? = some (.bool true) := (kn.old 17 (by kernel_rfl)).trans rfl
          refine want_ rfl ?_
          exact val_ (by simp [go_sem, execOp, evc_, e17]) (hK.out s _ (fun _ _ => rfl) hI)
        refine VSteps.cons rfl (fun x L s wx K kn hL hp hI hK => ?_) ?_
        · have e58 : x[58]? = some (.bool true) := kn.got 0 58 (hp ⟨0, .data⟩ (by simp) rfl) rfl
          refine want_ rfl ?_
          exact val_ (by simp [go_sem, execOp, evc_, e58]) (hK.out s _ (fun _ _ => rfl) hI)
        refine VSteps.cons rfl (fun x L s wx K kn hL hp hI hK => ?_) ?_
        · have e19 : x[19]? = some (.bool true) := (kn.old 19 (by kernel_rfl)).trans rfl
          refine want_ ((guard_ rfl rfl true (show x[59]? = some (.bool true) from kn.got 1 59 (hp ⟨1, .guard⟩ (by simp) rfl) rfl)).trans rfl) ?_
          exact val_ (by simp [go_sem, execOp, evc_, e19]) (hK.out s _ (fun _ _ => rfl) hI)
        refine VSteps.cons rfl (fun x L s wx K kn hL hp hI hK => ?_) ?_
        · have e59 : x[59]? = some (.bool true) := kn.got 1 59 (hp ⟨1, .data⟩ (by simp) rfl) rfl
          have e60 : x[60]? = some (.bool true) := kn.got 2 60 (hp ⟨2, .data⟩ (by simp) rfl) rfl
          refine want_ rfl ?_
          exact val_ (by simp [go_sem, execOp, evc_, e59, e60]) (hK.out s _ (fun _ _ => rfl) hI)
        refine VSteps.cons rfl (fun x L s wx K kn hL hp hI hK => ?_) ?_
        · have e61 : x[61]? = some (.bool true) := kn.got 3 61 (hp ⟨3, .data⟩ (by simp) rfl) rfl
          refine want_ rfl ?_
          exact val_ (by simp [go_sem, execOp, evc_, e61]) (hK.out s _ (fun _ _ => rfl) hI)
        refine VSteps.cons rfl (fun x L s wx K kn hL hp hI hK => ?_) ?_
        · have e21 : x[21]? = some (.bool true) := (kn.old 21 (by kernel_rfl)).trans rfl
          refine want_ ((guard_ rfl rfl true (show x[62]? = some (.bool true) from kn.got 4 62 (hp ⟨4, .guard⟩ (by simp) rfl) rfl)).trans rfl) ?_
          exact val_ (by simp [go_sem, execOp, evc_, e21]) (hK.out s _ (fun _ _ => rfl) hI)
        refine VSteps.cons rfl (fun x L s wx K kn hL hp hI hK => ?_) ?_
        · have e62 : x[62]? = some (.bool true) := kn.got 4 62 (hp ⟨4, .data⟩ (by simp) rfl) rfl
          have e63 : x[63]? = some (.bool true) := kn.got 5 63 (hp ⟨5, .data⟩ (by simp) rfl) rfl
          refine want_ rfl ?_
          exact val_ (by simp [go_sem, execOp, evc_, e62, e63]) (hK.out s _ (fun _ _ => rfl) hI)
        refine VSteps.cons rfl (fun x L s wx K kn hL hp hI hK => ?_) ?_
        · have e64 : x[64]? = some (.bool true) := kn.got 6 64 (hp ⟨6, .data⟩ (by simp) rfl) rfl
          refine want_ rfl ?_
          exact val_ (by simp [go_sem, execOp, evc_, e64]) (hK.out s _ (fun _ _ => rfl) hI)
        refine VSteps.cons rfl (fun x L s wx K kn hL hp hI hK => ?_) ?_
        · have e20 : x[20]? = some (.pointer (some ⟨w10.heap.size, 0, none⟩)) := (kn.old 20 (by kernel_rfl)).trans rfl
          refine want_ ((guard_ rfl rfl true (show x[65]? = some (.bool true) from kn.got 7 65 (hp ⟨7, .guard⟩ (by simp) rfl) rfl)).trans rfl) ?_
          exact wp_load_row 27 _ rfl w10.heap.size (ev_ e20) 27 (U (La)) (0, 0) _ hI.2.2.2.2.2.1 Try.underlying27 rfl (ofLen la) (hK.out s _ (fun _ _ => rfl) hI)
        refine VSteps.cons rfl (fun x L s wx K kn hL hp hI hK => ?_) ?_
        · have e13 : x[13]? = some (.pointer (some ⟨w3.heap.size, 0, none⟩)) := (kn.old 13 (by kernel_rfl)).trans rfl
          refine want_ ((guard_ rfl rfl true (show x[65]? = some (.bool true) from kn.got 7 65 (hp ⟨7, .guard⟩ (by simp) rfl) rfl)).trans rfl) ?_
          exact wp_load_row 27 _ rfl w3.heap.size (ev_ e13) 27 (U (La)) (0, 0) _ hI.1 Try.underlying27 rfl (ofLen la) (hK.out s _ (fun _ _ => rfl) hI)
        refine VSteps.cons rfl (fun x L s wx K kn hL hp hI hK => ?_) ?_
        · have e66 : x[66]? = some (.agg (U (La))) := kn.got 8 66 (hp ⟨8, .data⟩ (by simp) rfl) rfl
          have e67 : x[67]? = some (.agg (U (La))) := kn.got 9 67 (hp ⟨9, .data⟩ (by simp) rfl) rfl
          refine want_ ((guard_ rfl rfl true (show x[65]? = some (.bool true) from kn.got 7 65 (hp ⟨7, .guard⟩ (by simp) rfl) rfl)).trans rfl) ?_
          exact val_ (by simp [go_sem, execOp, evc_, e66, e67, EQ, DL]) (hK.out s _ (fun _ _ => rfl) hI)
        refine VSteps.cons rfl (fun x L s wx K kn hL hp hI hK => ?_) ?_
        · have e65 : x[65]? = some (.bool true) := kn.got 7 65 (hp ⟨7, .data⟩ (by simp) rfl) rfl
          have e68 : x[68]? = some (.bool true) := kn.got 10 68 (hp ⟨10, .data⟩ (by simp) rfl) rfl
          refine want_ rfl ?_
          exact val_ (by simp [go_sem, execOp, evc_, e65, e68]) (hK.out s _ (fun _ _ => rfl) hI)
        refine VSteps.cons rfl (fun x L s wx K kn hL hp hI hK => ?_) ?_
        · have e69 : x[69]? = some (.bool true) := kn.got 11 69 (hp ⟨11, .data⟩ (by simp) rfl) rfl
          refine want_ rfl ?_
          exact val_ (by simp [go_sem, execOp, evc_, e69]) (hK.out s _ (fun _ _ => rfl) hI)
        refine VSteps.cons rfl (fun x L s wx K kn hL hp hI hK => ?_) ?_
        · have e16 : x[16]? = some (.pointer (some ⟨(w5.heap.size + 1), 0, none⟩)) := (kn.old 16 (by kernel_rfl)).trans rfl
          refine want_ ((guard_ rfl rfl true (show x[70]? = some (.bool true) from kn.got 12 70 (hp ⟨12, .guard⟩ (by simp) rfl) rfl)).trans rfl) ?_
          exact wp_load_row 27 _ rfl (w5.heap.size + 1) (ev_ e16) 27 (U (Lr)) (0, 0) _ hI.2.2.2.1 Try.underlying27 rfl (ofLen lr) (hK.out s _ (fun _ _ => rfl) hI)
        refine VSteps.cons rfl (fun x L s wx K kn hL hp hI hK => ?_) ?_
        · have e71 : x[71]? = some (.agg (U (Lr))) := kn.got 13 71 (hp ⟨13, .data⟩ (by simp) rfl) rfl
          refine want_ ((guard_ rfl rfl true (show x[70]? = some (.bool true) from kn.got 12 70 (hp ⟨12, .chain⟩ (by simp) rfl) rfl)).trans rfl) ?_
          refine goesK_ Try.func22 (by kernel_rfl) rfl #[.agg (U (Lr))] rfl (by simp only [List.map_toArray, List.map_cons, List.map_nil, evc_, ev_ e71]) ((SR _).mono ?_)
          rintro e w' ⟨rfl, g⟩
          obtain ⟨K0, K1, K2, K3, K4, K5, BW⟩ := hI
          exact ⟨_, rfl, hK.out s _ (fun _ _ => rfl) ⟨K0.keep g, K1.keep g, K2.keep g, K3.keep g, K4.keep g, K5.keep g, bb BW g⟩⟩
        refine VSteps.cons rfl (fun x L s wx K kn hL hp hI hK => ?_) ?_
        · have e72 : x[72]? = some (.int .i64 (sr)) := kn.got 14 72 (hp ⟨14, .data⟩ (by simp) rfl) rfl
          refine want_ ((guard_ rfl rfl true (show x[70]? = some (.bool true) from kn.got 12 70 (hp ⟨12, .guard⟩ (by simp) rfl) rfl)).trans rfl) ?_
          exact val_ (by simp [go_sem, execOp, evc_, e72, h0]) (hK.out s _ (fun _ _ => rfl) hI)
        refine VSteps.cons rfl (fun x L s wx K kn hL hp hI hK => ?_) ?_
        · have e73 : x[73]? = some (.bool false) := kn.got 15 73 (hp ⟨15, .data⟩ (by simp) rfl) rfl
          refine want_ ((guard_ rfl rfl true (show x[70]? = some (.bool true) from kn.got 12 70 (hp ⟨12, .guard⟩ (by simp) rfl) rfl)).trans rfl) ?_
          exact val_ (by simp [go_sem, execOp, evc_, e73]) (hK.out s _ (fun _ _ => rfl) hI)
        refine VSteps.cons rfl (fun x L s wx K kn hL hp hI hK => ?_) ?_
        · have e16 : x[16]? = some (.pointer (some ⟨(w5.heap.size + 1), 0, none⟩)) := (kn.old 16 (by kernel_rfl)).trans rfl
          refine want_ ((guard_ rfl rfl false (show x[74]? = some (.bool false) from kn.got 16 74 (hp ⟨16, .guard⟩ (by simp) rfl) rfl)).trans rfl) ?_
          exact wp_load_row 27 _ rfl (w5.heap.size + 1) (ev_ e16) 27 (U (Lr)) (0, 0) _ hI.2.2.2.1 Try.underlying27 rfl (ofLen lr) (hK.out s _ (fun _ _ => rfl) hI)
        refine VSteps.cons rfl (fun x L s wx K kn hL hp hI hK => ?_) ?_
        · have e75 : x[75]? = some (.agg (U (Lr))) := kn.got 17 75 (hp ⟨17, .data⟩ (by simp) rfl) rfl
          refine want_ ((guard_ rfl rfl false (show x[74]? = some (.bool false) from kn.got 16 74 (hp ⟨16, .chain⟩ (by simp) rfl) rfl)).trans rfl) ?_
          refine goesK_ Try.func22 (by kernel_rfl) rfl #[.agg (U (Lr))] rfl (by simp only [List.map_toArray, List.map_cons, List.map_nil, evc_, ev_ e75]) ((SR _).mono ?_)
          rintro e w' ⟨rfl, g⟩
          obtain ⟨K0, K1, K2, K3, K4, K5, BW⟩ := hI
          exact ⟨_, rfl, hK.out s _ (fun _ _ => rfl) ⟨K0.keep g, K1.keep g, K2.keep g, K3.keep g, K4.keep g, K5.keep g, bb BW g⟩⟩
        refine VSteps.cons rfl (fun x L s wx K kn hL hp hI hK => ?_) ?_
        · have e13 : x[13]? = some (.pointer (some ⟨w3.heap.size, 0, none⟩)) := (kn.old 13 (by kernel_rfl)).trans rfl
          refine want_ ((guard_ rfl rfl false (show x[74]? = some (.bool false) from kn.got 16 74 (hp ⟨16, .guard⟩ (by simp) rfl) rfl)).trans rfl) ?_
          exact wp_load_row 27 _ rfl w3.heap.size (ev_ e13) 27 (U (La)) (0, 0) _ hI.1 Try.underlying27 rfl (ofLen la) (hK.out s _ (fun _ _ => rfl) hI)
        refine VSteps.cons rfl (fun x L s wx K kn hL hp hI hK => ?_) ?_
        · have e77 : x[77]? = some (.agg (U (La))) := kn.got 19 77 (hp ⟨19, .data⟩ (by simp) rfl) rfl
          refine want_ ((guard_ rfl rfl false (show x[74]? = some (.bool false) from kn.got 16 74 (hp ⟨16, .guard⟩ (by simp) rfl) rfl)).trans rfl) ?_
          refine goesK_ Try.func22 (by kernel_rfl) rfl #[.agg (U (La))] rfl (by simp only [List.map_toArray, List.map_cons, List.map_nil, evc_, ev_ e77]) ((SA _).mono ?_)
          rintro e w' ⟨rfl, g⟩
          obtain ⟨K0, K1, K2, K3, K4, K5, BW⟩ := hI
          exact ⟨_, rfl, hK.out s _ (fun _ _ => rfl) ⟨K0.keep g, K1.keep g, K2.keep g, K3.keep g, K4.keep g, K5.keep g, bb BW g⟩⟩
        refine VSteps.cons rfl (fun x L s wx K kn hL hp hI hK => ?_) ?_
        · have e76 : x[76]? = some (.int .i64 (sr)) := kn.got 18 76 (hp ⟨18, .data⟩ (by simp) rfl) rfl
          have e78 : x[78]? = some (.int .i64 (sr)) := kn.got 20 78 (hp ⟨20, .data⟩ (by simp) rfl) rfl
          refine want_ ((guard_ rfl rfl false (show x[74]? = some (.bool false) from kn.got 16 74 (hp ⟨16, .guard⟩ (by simp) rfl) rfl)).trans rfl) ?_
          exact val_ (by simp [go_sem, execOp, evc_, e76, e78]) (hK.out s _ (fun _ _ => rfl) hI)
        refine VSteps.cons rfl (fun x L s wx K kn hL hp hI hK => ?_) ?_
        · have e74 : x[74]? = some (.bool false) := kn.got 16 74 (hp ⟨16, .data⟩ (by simp) rfl) rfl
          have e79 : x[79]? = some (.bool true) := kn.got 21 79 (hp ⟨21, .data⟩ (by simp) rfl) rfl
          refine want_ ((guard_ rfl rfl true (show x[70]? = some (.bool true) from kn.got 12 70 (hp ⟨12, .guard⟩ (by simp) rfl) rfl)).trans rfl) ?_
          exact val_ (by simp [go_sem, execOp, evc_, e74, e79]) (hK.out s _ (fun _ _ => rfl) hI)
        refine VSteps.cons rfl (fun x L s wx K kn hL hp hI hK => ?_) ?_
        · have e70 : x[70]? = some (.bool true) := kn.got 12 70 (hp ⟨12, .data⟩ (by simp) rfl) rfl
          have e80 : x[80]? = some (.bool true) := kn.got 22 80 (hp ⟨22, .data⟩ (by simp) rfl) rfl
          refine want_ rfl ?_
          exact val_ (by simp [go_sem, execOp, evc_, e70, e80]) (hK.out s _ (fun _ _ => rfl) hI)
        refine VSteps.cons rfl (fun x L s wx K kn hL hp hI hK => ?_) ?_
        · have e81 : x[81]? = some (.bool true) := kn.got 23 81 (hp ⟨23, .data⟩ (by simp) rfl) rfl
          refine want_ rfl ?_
          exact val_ (by simp [go_sem, execOp, evc_, e81]) (hK.out s _ (fun _ _ => rfl) hI)
        refine VSteps.cons rfl (fun x L s wx K kn hL hp hI hK => ?_) ?_
        · have e16 : x[16]? = some (.pointer (some ⟨(w5.heap.size + 1), 0, none⟩)) := (kn.old 16 (by kernel_rfl)).trans rfl
          refine want_ ((guard_ rfl rfl true (show x[82]? = some (.bool true) from kn.got 24 82 (hp ⟨24, .guard⟩ (by simp) rfl) rfl)).trans rfl) ?_
          exact wp_load_row 27 _ rfl (w5.heap.size + 1) (ev_ e16) 27 (U (Lr)) (0, 0) _ hI.2.2.2.1 Try.underlying27 rfl (ofLen lr) (hK.out s _ (fun _ _ => rfl) hI)
        refine VSteps.cons rfl (fun x L s wx K kn hL hp hI hK => ?_) ?_
        · have e83 : x[83]? = some (.agg (U (Lr))) := kn.got 25 83 (hp ⟨25, .data⟩ (by simp) rfl) rfl
          refine want_ ((guard_ rfl rfl true (show x[82]? = some (.bool true) from kn.got 24 82 (hp ⟨24, .chain⟩ (by simp) rfl) rfl)).trans rfl) ?_
          refine goesK_ Try.func24 (by kernel_rfl) rfl #[.agg (U (Lr))] rfl (by simp only [List.map_toArray, List.map_cons, List.map_nil, evc_, ev_ e83]) ((BR _).mono ?_)
          rintro e w' ⟨rfl, g⟩
          obtain ⟨K0, K1, K2, K3, K4, K5, BW⟩ := hI
          exact ⟨_, rfl, hK.out s _ (fun _ _ => rfl) ⟨K0.keep g, K1.keep g, K2.keep g, K3.keep g, K4.keep g, K5.keep g, bb BW g⟩⟩
        refine VSteps.cons rfl (fun x L s wx K kn hL hp hI hK => ?_) ?_
        · have e14 : x[14]? = some (.pointer (some ⟨(w3.heap.size + 1), 0, none⟩)) := (kn.old 14 (by kernel_rfl)).trans rfl
          refine want_ ((guard_ rfl rfl true (show x[82]? = some (.bool true) from kn.got 24 82 (hp ⟨24, .guard⟩ (by simp) rfl) rfl)).trans rfl) ?_
          exact wp_load_row 27 _ rfl (w3.heap.size + 1) (ev_ e14) 27 (U (Lb)) (0, 0) _ hI.2.1 Try.underlying27 rfl (ofLen lb) (hK.out s _ (fun _ _ => rfl) hI)
        refine VSteps.cons rfl (fun x L s wx K kn hL hp hI hK => ?_) ?_
        · have e85 : x[85]? = some (.agg (U (Lb))) := kn.got 27 85 (hp ⟨27, .data⟩ (by simp) rfl) rfl
          refine want_ ((guard_ rfl rfl true (show x[82]? = some (.bool true) from kn.got 24 82 (hp ⟨24, .guard⟩ (by simp) rfl) rfl)).trans rfl) ?_
          refine goesK_ Try.func24 (by kernel_rfl) rfl #[.agg (U (Lb))] rfl (by simp only [List.map_toArray, List.map_cons, List.map_nil, evc_, ev_ e85]) ((BB _).mono ?_)
          rintro e w' ⟨rfl, g⟩
          obtain ⟨K0, K1, K2, K3, K4, K5, BW⟩ := hI
          exact ⟨_, rfl, hK.out s _ (fun _ _ => rfl) ⟨K0.keep g, K1.keep g, K2.keep g, K3.keep g, K4.keep g, K5.keep g, bb BW g⟩⟩
        refine VSteps.cons rfl (fun x L s wx K kn hL hp hI hK => ?_) ?_
        · have e84 : x[84]? = some (.int .i64 ((tr : Int))) := kn.got 26 84 (hp ⟨26, .data⟩ (by simp) rfl) rfl
          have e86 : x[86]? = some (.int .i64 ((tb : Int))) := kn.got 28 86 (hp ⟨28, .data⟩ (by simp) rfl) rfl
          refine want_ ((guard_ rfl rfl true (show x[82]? = some (.bool true) from kn.got 24 82 (hp ⟨24, .guard⟩ (by simp) rfl) rfl)).trans rfl) ?_
          exact val_ (by simp [go_sem, execOp, evc_, e84, e86, hli]) (hK.out s _ (fun _ _ => rfl) hI)
        refine VSteps.cons rfl (fun x L s wx K kn hL hp hI hK => ?_) ?_
        · have e82 : x[82]? = some (.bool true) := kn.got 24 82 (hp ⟨24, .data⟩ (by simp) rfl) rfl
          have e87 : x[87]? = some (.bool true) := kn.got 29 87 (hp ⟨29, .data⟩ (by simp) rfl) rfl
          refine want_ rfl ?_
          exact val_ (by simp [go_sem, execOp, evc_, e82, e87]) (hK.out s _ (fun _ _ => rfl) hI)
        refine VSteps.cons rfl (fun x L s wx K kn hL hp hI hK => ?_) ?_
        · have e88 : x[88]? = some (.bool true) := kn.got 30 88 (hp ⟨30, .data⟩ (by simp) rfl) rfl
          refine want_ rfl ?_
          exact val_ (by simp [go_sem, execOp, evc_, e88]) (hK.out s _ (fun _ _ => rfl) hI)
        exact VSteps.nil
      case fin =>
        intro s wx hI
        simp only [puts, List.getD_cons_zero, List.getD_cons_succ, List.set_cons_zero, List.set_cons_succ]
        obtain ⟨K0, K1, K2, K3, K4, K5, BW⟩ := hI
        go_wp2_with fail
        go_ret
        exact ⟨rfl, BW⟩
end Go.Proofs.Ytpdljoalfmgfiaa.YWide
