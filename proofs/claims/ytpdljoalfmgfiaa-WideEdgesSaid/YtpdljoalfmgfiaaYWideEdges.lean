/- Package wide: the law of the edges: what the law function tells. No condition. -/
import Derived.Test.YtpdljoalfmgfiaaYWideKnown
import Derived.Test.YtpdljoalfmgfiaaYWideReg
import Derived.BigFrame
namespace Go.Proofs.Ytpdljoalfmgfiaa.YWide
open Go.RowKit Go.Proofs.Ytpdljoalfmgfiaa.YInv Go.Proofs.Ytpdljoalfmgfiaa.YErr Go.Proofs.Ytpdljoalfmgfiaa.YRef Go.Proofs.Ytpdljoalfmgfiaa.YNum Go.Proofs.Ytpdljoalfmgfiaa.YBits Go.Proofs.Ytpdljoalfmgfiaa.XCarry Go.Proofs.Ytpdljoalfmgfiaa.QWd Go.Proofs.YtpdljoalfmgfiaaW.PrintWords Go.Proofs.YtpdljoalfmgfiaaW.PrintLast
set_option linter.unusedVariables false
set_option linter.unusedSimpArgs false
/-- A guarded load that is wanted. -/
theorem ldWg {ops : Array Oper} {rest : List Oper} {o : Oper} {a : Act} {w : World} {b : Nat} {l : List Int} {Q : Exit → Act → World → Prop} (k : Blk w b (U l) 27) (hl : l.length = 16) (x : Operand) (ho : o.op = .load 27 x) (hx : a.eval x = .pointer (some ⟨b, 0, none⟩)) (hw : Region.wanted o (yielded ops a.tmps) = true)
    (h : wpList Try.prog ops Q rest (a.put o.dst (.agg (U l))) w) : wpList Try.prog ops Q (o :: rest) a w :=
  BigFrame.wpList_want hw fun K hK => wp_load_row 27 x ho b hx 27 (U l) (0, 0) _ k Try.underlying27 rfl (ofLen hl) (hK _ _ h)
def least : Int := -(9223372036854775808 * 18446744073709551616 ^ 15)
def leastL : List Int := [0, 0, 0, 0, 0, 0, 0, 0, 0, 0, 0, 0, 0, 0, 0, 9223372036854775808]
theorem least_lim : leastL = lim least := by decide +kernel
theorem shl_u (i : Nat) : IntKind.u64.wrap (2 ^ ((i : Int) % 64).toNat) = 2 ^ (i % 64) := by
  have e : ((i : Int) % 64).toNat = i % 64 := by omega
  rw [e]
  have : ∀ r, r < 64 → IntKind.u64.wrap (2 ^ r) = 2 ^ r := by decide +kernel
  exact this _ (Nat.mod_lt _ (by omega))
theorem zero2 {W w : World} (b : Below W.heap.size W w) : ∀ w', w' = (w.alloc (.cells #[.int .u64 0, .int .u64 0, .int .u64 0, .int .u64 0, .int .u64 0, .int .u64 0, .int .u64 0, .int .u64 0, .int .u64 0, .int .u64 0, .int .u64 0, .int .u64 0, .int .u64 0, .int .u64 0, .int .u64 0, .int .u64 0] 27)).alloc (.cells #[.int .u64 0, .int .u64 0, .int .u64 0, .int .u64 0, .int .u64 0, .int .u64 0, .int .u64 0, .int .u64 0, .int .u64 0, .int .u64 0, .int .u64 0, .int .u64 0, .int .u64 0, .int .u64 0, .int .u64 0, .int .u64 0] 27) →
    Blk w' w.heap.size (U zeros) 27 ∧ Blk w' (w.heap.size + 1) (U zeros) 27 ∧ Below W.heap.size W w' ∧ ∀ g c, Blk w g c 27 → Blk w' g c 27 := by
  rintro w' rfl
  have z := b.size
  refine ⟨(Blk.new w (U zeros) 27).alloc _, ?_, (b.alloc z _).alloc (by simp; omega) _, fun g c h => (h.alloc _).alloc _⟩
  have t : Blk ((w.alloc (.cells (U zeros) 27)).alloc (.cells (U zeros) 27)) (w.heap.size + 1) (U zeros) 27 := by
    have := Blk.new (w.alloc (.cells (U zeros) 27)) (U zeros) 27
    simpa using this
  exact t
section
variable (w : World)
theorem in_l : InW least := by unfold InW least; decide +kernel
theorem in_l1 : InW (least + 1) := by unfold InW least; decide +kernel
theorem in_m1 : InW (-1) := small (by omega)
theorem in_1 : InW 1 := small (by omega)
theorem out_s : ¬ InW (least - 1) := by unfold InW least; decide +kernel
theorem out_m : ¬ InW (least * -1) := by unfold InW least; decide +kernel
theorem out_d : ¬ InW (Int.tdiv least (-1)) := by unfold InW least; decide +kernel
theorem sub_l : Calls Try.prog 14 #[.agg (U (lim least)), .agg (U (lim 1))] w fun e w' => e = .returned (.tuple #[.agg (U (lim 0)), .bool false]) ∧ Below w.heap.size w w' := by
  have := Sub_c in_l in_1 w
  rw [decide_eq_false out_s, show cl (least - 1) = 0 from if_neg out_s] at this
  exact this
theorem add_l : Calls Try.prog 13 #[.agg (U (lim least)), .agg (U (lim 1))] w fun e w' => e = .returned (.tuple #[.agg (U (lim (least + 1))), .bool true]) ∧ Below w.heap.size w w' := by
  have := Add_c in_l in_1 w
  rw [decide_eq_true in_l1, show cl (least + 1) = least + 1 from if_pos in_l1] at this
  exact this
theorem mul_l : Calls Try.prog 15 #[.agg (U (lim least)), .agg (U (lim (-1)))] w fun e w' => e = .returned (.tuple #[.agg (U (lim 0)), .bool false]) ∧ Below w.heap.size w w' := by
  have := Mul_w in_l in_m1 w
  rw [decide_eq_false out_m, show cl (least * -1) = 0 from if_neg out_m] at this
  exact this
theorem ab_m1 : ab (-1) = 1 := rfl
theorem ab_l : 0 < ab least ∧ ab least < 18446744073709551616 ^ 16 := by unfold ab least; decide +kernel
theorem div_l : Calls Try.prog 26 #[.agg (U (lim least)), .agg (U (lim (-1)))] w fun e w' => e = .returned (.tuple #[.agg (U (lim 0)), .agg (U (lim 0)), .bool false]) ∧ Below w.heap.size w w' := by
  have D := Div_of in_l in_m1 (by omega) (by rw [ab_m1]; exact fun W => divide_s ab_l.1 ab_l.2 (by omega) (by omega) W) w
  simp only [out_d, if_false] at D
  exact D
theorem bits_l : Calls Try.prog 24 #[.agg (U (lim least))] w fun e w' => e = .returned (.int .i64 1024) ∧ Below w.heap.size w w' := by
  refine (Bits_c in_l w).mono ?_
  rintro e w' ⟨t, h, rfl, g⟩
  obtain rfl : t = 1024 := bits_one h (by unfold ab least BitsIs; decide +kernel)
  exact ⟨rfl, g⟩
theorem bits_l1 : Calls Try.prog 24 #[.agg (U (lim (least + 1)))] w fun e w' => e = .returned (.int .i64 1023) ∧ Below w.heap.size w w' := by
  refine (Bits_c in_l1 w).mono ?_
  rintro e w' ⟨t, h, rfl, g⟩
  obtain rfl : t = 1023 := bits_one h (by unfold ab least BitsIs; decide +kernel)
  exact ⟨rfl, g⟩
theorem sign_l1 : Calls Try.prog 22 #[.agg (U (lim (least + 1)))] w fun e w' => e = .returned (.int .i64 (-1)) ∧ Below w.heap.size w w' := by
  have := Sign_c in_l1 w
  rw [if_neg (by unfold least; decide +kernel), if_pos (by unfold least; decide +kernel)] at this
  exact this
theorem least_len : leastL.length = 16 := rfl
/-- A power of two. -/
theorem pow_lim (i : Nat) (hi : i < 1023) : zeros.set (i / 64) (2 ^ (i % 64)) = lim (2 ^ i) := by
  have : ∀ i, i < 1023 → zeros.set (i / 64) (2 ^ (i % 64)) = lim (2 ^ i) := by decide +kernel
  exact this i hi
theorem two_lt (a b : Nat) : (2 : Int) ^ a < 2 ^ b ↔ a < b := by
  have : ((2 ^ a : Nat) : Int) < ((2 ^ b : Nat) : Int) ↔ a < b := by rw [Int.ofNat_lt]; exact Nat.pow_lt_pow_iff_right (by omega)
  simpa using this
theorem in_pow (i : Nat) : InW (2 ^ i) ↔ i < 1023 := by
  unfold InW
  have h : (18446744073709551616 : Int) ^ 16 = 2 ^ 1024 := by decide +kernel
  rw [h]
  have h0 : (0 : Int) < 2 ^ i := Int.pow_pos (by omega)
  have h1 : (0 : Int) < 2 ^ 1024 := Int.pow_pos (by omega)
  have e : (2 : Int) * 2 ^ i = 2 ^ (i + 1) := by rw [Int.pow_succ]; omega
  have k := two_lt (i + 1) 1024
  rw [e]
  rw [← e] at k ⊢
  generalize (2 : Int) ^ 1024 = B at *
  constructor
  · rintro ⟨_, h⟩
    have := k.1 h
    omega
  · intro h
    exact ⟨by omega, k.2 (by omega)⟩
theorem mul_p (i j : Nat) (hi : i < 1023) (hj : j < 1023) : Calls Try.prog 15 #[.agg (U (lim (2 ^ i))), .agg (U (lim (2 ^ j)))] w fun e w' => e = .returned (.tuple #[.agg (U (lim (cl (2 ^ (i + j))))), .bool (decide ((i : Int) + (j : Int) < 1023))]) ∧ Below w.heap.size w w' := by
  have := Mul_w ((in_pow i).2 hi) ((in_pow j).2 hj) w
  rw [← Int.pow_add, decide_eq_decide.2 ((in_pow (i + j)).trans (show i + j < 1023 ↔ (i : Int) + (j : Int) < 1023 by omega))] at this
  exact this
theorem bits_p (t : Nat) (h : t < 1023) : Calls Try.prog 24 #[.agg (U (lim (cl (2 ^ t))))] w fun e w' => e = .returned (.int .i64 ((t : Int) + 1)) ∧ Below w.heap.size w w' := by
  have hin := (in_pow t).2 h
  rw [show cl (2 ^ t) = 2 ^ t from if_pos hin]
  refine (Bits_c hin w).mono ?_
  rintro e w' ⟨s, hs, rfl, g⟩
  have h0 : (0 : Int) < 2 ^ t := Int.pow_pos (by omega)
  have e1 : ab (2 ^ t) = 2 ^ t := by unfold ab; rw [if_neg (by omega)]
  rw [e1] at hs
  obtain rfl : s = t + 1 := bits_one hs ⟨by omega, (two_lt _ _).2 (by omega), fun _ => by simp⟩
  exact ⟨by simp, g⟩
end
attribute [local irreducible] least lim cl
set_option maxRecDepth 100000 in
set_option maxHeartbeats 32000000 in
theorem edges_c (n k : Int) (n0 : 0 ≤ n) (n1 : n ≤ 65535) (k0 : 0 ≤ k) (k1 : k ≤ 255) (w : World) : Calls Try.prog 9 #[.int .u16 n, .int .u8 k] w fun e w' => e = .returned (.bool true) ∧ Below w.heap.size w w' := by
  have ll0 := least_len
  have ll := lim_len least
  have l1 := lim_len 1
  have l0 := lim_len 0
  have lm := lim_len (least + 1)
  have KN := fun W => known_c W
  have O1 := fun W => of_ W 1 (by omega)
  have OM := fun W => of_ W (-1) (by omega)
  have SB := fun W => sub_l W
  have AD := fun W => add_l W
  have ML := fun W => mul_l W
  have DL := fun W => div_l W
  obtain ⟨i, hi⟩ : ∃ i : Nat, n % 1023 = (i : Int) := ⟨(n % 1023).toNat, by omega⟩
  obtain ⟨j, hj⟩ : ∃ j : Nat, k % 1023 = (j : Int) := ⟨(k % 1023).toNat, by omega⟩
  have i1 : i < 1023 := by omega
  have j1 : j < 1023 := by omega
  have Q1 : (i : Int).tdiv 64 = (i : Int) / 64 := Int.tdiv_eq_ediv_of_nonneg (by omega)
  have Q2 : (j : Int).tdiv 64 = (j : Int) / 64 := Int.tdiv_eq_ediv_of_nonneg (by omega)
  have R1 : (i : Int).tmod 64 = (i : Int) % 64 := Int.tmod_eq_emod_of_nonneg (by omega)
  have R2 : (j : Int).tmod 64 = (j : Int) % 64 := Int.tmod_eq_emod_of_nonneg (by omega)
  have W1 : IntKind.i64.wrap ((i : Int) / 64) = (i : Int) / 64 := IntWalk.i64_in _ (by omega)
  have W2 : IntKind.i64.wrap ((j : Int) / 64) = (j : Int) / 64 := IntWalk.i64_in _ (by omega)
  have S1 := shl_u i
  have S2 := shl_u j
  have X1 : 0 ≤ (i : Int) / 64 := by omega
  have X2 : 0 ≤ (j : Int) / 64 := by omega
  have Y1 : (i : Int) / 64 < 16 := by omega
  have Y2 : (j : Int) / 64 < 16 := by omega
  have T1 : ((i : Int) / 64).toNat = i / 64 := by omega
  have T2 : ((j : Int) / 64).toNat = j / 64 := by omega
  have zl := zeros_len
  have li := lim_len (2 ^ i)
  have lj := lim_len (2 ^ j)
  have lp := lim_len (cl (2 ^ (i + j)))
  have MP := fun W => mul_p W i j i1 j1
  have BP := fun (h : i + j < 1023) W => bits_p W (i + j) h
  have BL := fun W => bits_l W
  have BM := fun W => bits_l1 W
  have SM := fun W => sign_l1 W
  have b0 := Below.refl w.heap.size w
  go_enter Try.func9, Try.ntmps9
  go_wp2_with fail
  refine (KN _).mono ?_; rintro e w1 ⟨rfl, g⟩
  have b1 := bb b0 g
  clear g b0
  obtain ⟨t0, k2_0, b2, up⟩ := new1 b1 (leastL) _ _ rfl rfl
  have z2 := b1.size
  go_wp2_with (first | (refine ldW k2_0 ll0 _ rfl rfl rfl ?_) | (refine stW t0 zeros_len ll0 _ _ rfl rfl rfl rfl ?_))
  clear up t0 b1
  generalize (w1.alloc (.cells #[.int .u64 0, .int .u64 0, .int .u64 0, .int .u64 0, .int .u64 0, .int .u64 0, .int .u64 0, .int .u64 0, .int .u64 0, .int .u64 0, .int .u64 0, .int .u64 0, .int .u64 0, .int .u64 0, .int .u64 0, .int .u64 0] 27)).setRow w1.heap.size (U (leastL)) = w2 at *
  rw [least_lim] at k2_0
  refine (O1 _).mono ?_; rintro e w3 ⟨rfl, g⟩
  replace k2_0 := k2_0.keep g
  have b3 := bb b2 g
  clear g b2
  obtain ⟨t0, k4_0, b4, up⟩ := new1 b3 (lim 1) _ _ rfl rfl
  replace k2_0 := up _ _ k2_0
  have z4 := b3.size
  go_wp2_with (first | (refine ldW k2_0 ll _ rfl rfl rfl ?_) | (refine ldW k4_0 l1 _ rfl rfl rfl ?_) | (refine stW t0 zeros_len l1 _ _ rfl rfl rfl rfl ?_))
  clear up t0 b3
  generalize (w3.alloc (.cells #[.int .u64 0, .int .u64 0, .int .u64 0, .int .u64 0, .int .u64 0, .int .u64 0, .int .u64 0, .int .u64 0, .int .u64 0, .int .u64 0, .int .u64 0, .int .u64 0, .int .u64 0, .int .u64 0, .int .u64 0, .int .u64 0] 27)).setRow w3.heap.size (U (lim 1)) = w4 at *
  refine (SB _).mono ?_; rintro e w5 ⟨rfl, g⟩
  replace k2_0 := k2_0.keep g
  replace k4_0 := k4_0.keep g
  have b5 := bb b4 g
  clear g b4
  obtain ⟨t0, k6_0, b6, up⟩ := new1 b5 (lim 0) _ _ rfl rfl
  replace k2_0 := up _ _ k2_0
  replace k4_0 := up _ _ k4_0
  have z6 := b5.size
  go_wp2_with (first | (refine ldW k2_0 ll _ rfl rfl rfl ?_) | (refine ldW k4_0 l1 _ rfl rfl rfl ?_) | (refine ldW k6_0 l0 _ rfl rfl rfl ?_) | (refine stW t0 zeros_len l0 _ _ rfl rfl rfl rfl ?_))
  clear up t0 b5
  generalize (w5.alloc (.cells #[.int .u64 0, .int .u64 0, .int .u64 0, .int .u64 0, .int .u64 0, .int .u64 0, .int .u64 0, .int .u64 0, .int .u64 0, .int .u64 0, .int .u64 0, .int .u64 0, .int .u64 0, .int .u64 0, .int .u64 0, .int .u64 0] 27)).setRow w5.heap.size (U (lim 0)) = w6 at *
  refine (AD _).mono ?_; rintro e w7 ⟨rfl, g⟩
  replace k2_0 := k2_0.keep g
  replace k4_0 := k4_0.keep g
  replace k6_0 := k6_0.keep g
  have b7 := bb b6 g
  clear g b6
  obtain ⟨t0, k8_0, b8, up⟩ := new1 b7 (lim (least + 1)) _ _ rfl rfl
  replace k2_0 := up _ _ k2_0
  replace k4_0 := up _ _ k4_0
  replace k6_0 := up _ _ k6_0
  have z8 := b7.size
  go_wp2_with (first | (refine ldW k2_0 ll _ rfl rfl rfl ?_) | (refine ldW k4_0 l1 _ rfl rfl rfl ?_) | (refine ldW k6_0 l0 _ rfl rfl rfl ?_) | (refine ldW k8_0 lm _ rfl rfl rfl ?_) | (refine stW t0 zeros_len lm _ _ rfl rfl rfl rfl ?_))
  clear up t0 b7
  generalize (w7.alloc (.cells #[.int .u64 0, .int .u64 0, .int .u64 0, .int .u64 0, .int .u64 0, .int .u64 0, .int .u64 0, .int .u64 0, .int .u64 0, .int .u64 0, .int .u64 0, .int .u64 0, .int .u64 0, .int .u64 0, .int .u64 0, .int .u64 0] 27)).setRow w7.heap.size (U (lim (least + 1))) = w8 at *
  have N_k2_0 := k2_0.lt
  have N_k4_0 := k4_0.lt
  have N_k6_0 := k6_0.lt
  have N_k8_0 := k8_0.lt
  refine region_vals (σ := Nat → Nat) [some 39, some 40, some 41, some 38, some 42, some 43, some 11, none, some 12] (VO [some (.agg (U (lim least))), some (.agg (U (lim (-1)))), some (.tuple #[.agg (U (lim 0)), .bool false]), some (.tuple #[.agg (U (lim 0)), .bool false]), some (.agg (U (lim 0))), some (.bool false), none, some (undef), some (.bool false)]) (fun L s wx => Blk wx w1.heap.size (U (lim least)) 27 ∧ Blk wx w3.heap.size (U (lim 1)) 27 ∧ Blk wx w5.heap.size (U (lim 0)) 27 ∧ Blk wx w7.heap.size (U (lim (least + 1))) 27 ∧ (L 6 = true → w8.heap.size ≤ s 6 ∧ (L 7 = false → Blk wx (s 6) (U zeros) 27)) ∧ (L 7 = true → L 6 = true ∧ Blk wx (s 6) (U (lim 0)) 27) ∧ w8.heap.size ≤ wx.heap.size ∧ Below w.heap.size w wx) (fun _ => 0) [0, 1, 2, 3, 4, 5, 6, 7, 8] _ _ rfl (by kernel_rfl) (by kernel_rfl) (by kernel_rfl) (by kernel_rfl) (by kernel_rfl) ⟨k2_0.drew, k4_0.drew, k6_0.drew, k8_0.drew, fun h => absurd h (by decide), fun h => absurd h (by decide), Nat.le_refl _, b8.drew⟩ ?steps7 ?fin7 (fun L L' s wx e h => by rw [e 6 (by decide), e 7 (by decide)] at h; exact h)
  case steps7 =>
    refine VSteps.cons rfl (fun x L s wx K kn hL hp hI hK => ?_) ?_
    · have e5 : x[5]? = some (.pointer (some ⟨w1.heap.size, 0, none⟩)) := (kn.old 5 (by kernel_rfl)).trans rfl
      refine want_ rfl ?_
      obtain ⟨Kk2_0, Kk4_0, Kk6_0, Kk8_0, A6, S6, B2, BW⟩ := hI
      exact wp_load_row 27 _ rfl w1.heap.size (ev_ e5) 27 (U (lim least)) (0, 0) _ Kk2_0 Try.underlying27 rfl (ofLen ll) (hK.out s _ (fun _ _ => rfl) ⟨Kk2_0, Kk4_0, Kk6_0, Kk8_0, A6, S6, B2, BW⟩)
    refine VSteps.cons rfl (fun x L s wx K kn hL hp hI hK => ?_) ?_
    · refine want_ rfl ?_
      refine goesK_ Try.func33 (by kernel_rfl) rfl #[.int .i64 (-1)] rfl (by simp only [List.map_toArray, List.map_cons, List.map_nil, evr_]) ((OM _).mono ?_)
      rintro e w' ⟨rfl, g⟩
      obtain ⟨Kk2_0, Kk4_0, Kk6_0, Kk8_0, A6, S6, B2, BW⟩ := hI
      exact ⟨_, rfl, hK.out s _ (fun _ _ => rfl) ⟨(Blk.keep Kk2_0 g), (Blk.keep Kk4_0 g), (Blk.keep Kk6_0 g), (Blk.keep Kk8_0 g), fun h => ⟨(A6 h).1, fun k => (Blk.keep ((A6 h).2 k) g)⟩, fun h => ⟨(S6 h).1, (Blk.keep (S6 h).2 g)⟩, Nat.le_trans B2 g.size, bb BW g⟩⟩
    refine VSteps.cons rfl (fun x L s wx K kn hL hp hI hK => ?_) ?_
    · have e39 : x[39]? = some (.agg (U (lim least))) := kn.got 0 39 (hp ⟨0, .data⟩ (by simp) rfl) rfl
      have e40 : x[40]? = some (.agg (U (lim (-1)))) := kn.got 1 40 (hp ⟨1, .data⟩ (by simp) rfl) rfl
      refine want_ rfl ?_
      refine goesK_ Try.func15 (by kernel_rfl) rfl #[.agg (U (lim least)), .agg (U (lim (-1)))] rfl (by simp only [List.map_toArray, List.map_cons, List.map_nil, evr_, ev_ e39, ev_ e40]) ((ML _).mono ?_)
      rintro e w' ⟨rfl, g⟩
      obtain ⟨Kk2_0, Kk4_0, Kk6_0, Kk8_0, A6, S6, B2, BW⟩ := hI
      exact ⟨_, rfl, hK.out s _ (fun _ _ => rfl) ⟨(Blk.keep Kk2_0 g), (Blk.keep Kk4_0 g), (Blk.keep Kk6_0 g), (Blk.keep Kk8_0 g), fun h => ⟨(A6 h).1, fun k => (Blk.keep ((A6 h).2 k) g)⟩, fun h => ⟨(S6 h).1, (Blk.keep (S6 h).2 g)⟩, Nat.le_trans B2 g.size, bb BW g⟩⟩
    refine VSteps.cons rfl (fun x L s wx K kn hL hp hI hK => ?_) ?_
    · have e41 : x[41]? = some (.tuple #[.agg (U (lim 0)), .bool false]) := kn.got 2 41 (hp ⟨2, .data⟩ (by simp) rfl) rfl
      refine want_ rfl ?_
      exact val_ (v := .tuple #[.agg (U (lim 0)), .bool false]) (by simp [go_sem, execOp, evr_, e41]) (hK.out s _ (fun _ _ => rfl) hI)
    refine VSteps.cons rfl (fun x L s wx K kn hL hp hI hK => ?_) ?_
    · have e38 : x[38]? = some (.tuple #[.agg (U (lim 0)), .bool false]) := kn.got 3 38 (hp ⟨3, .data⟩ (by simp) rfl) rfl
      refine want_ rfl ?_
      exact val_ (v := .agg (U (lim 0))) (by simp [go_sem, execOp, evr_, e38]) (hK.out s _ (fun _ _ => rfl) hI)
    refine VSteps.cons rfl (fun x L s wx K kn hL hp hI hK => ?_) ?_
    · have e38 : x[38]? = some (.tuple #[.agg (U (lim 0)), .bool false]) := kn.got 3 38 (hp ⟨3, .data⟩ (by simp) rfl) rfl
      refine want_ rfl ?_
      exact val_ (v := .bool false) (by simp [go_sem, execOp, evr_, e38]) (hK.out s _ (fun _ _ => rfl) hI)
    refine VSteps.cons rfl (fun x L s wx K kn hL hp hI hK => ?_) ?_
    · refine want_ rfl ?_
      obtain ⟨Kk2_0, Kk4_0, Kk6_0, Kk8_0, A6, S6, B2, BW⟩ := hI
      have hst : ¬ L 7 = true := fun h => absurd (S6 h).1 (by simp [hL])
      exact valw_ (v := .pointer (some ⟨wx.heap.size, 0, none⟩)) (w' := wx.alloc (.cells #[.int .u64 0, .int .u64 0, .int .u64 0, .int .u64 0, .int .u64 0, .int .u64 0, .int .u64 0, .int .u64 0, .int .u64 0, .int .u64 0, .int .u64 0, .int .u64 0, .int .u64 0, .int .u64 0, .int .u64 0, .int .u64 0] 27)) (by simp [go_sem, execOp, evr_]) (hK.out (upd s 6 wx.heap.size) _ (VO_upd _ _ _ hL) ⟨(Blk.alloc Kk2_0 _), (Blk.alloc Kk4_0 _), (Blk.alloc Kk6_0 _), (Blk.alloc Kk8_0 _), fun _ => ⟨B2, fun _ => Blk.new _ _ _⟩, fun h => absurd h hst, Nat.le_trans B2 (by simp), bb BW ((Below.refl _ _).alloc (Nat.le_refl _) _)⟩)
    refine VSteps.cons rfl (fun x L s wx K kn hL hp hI hK => ?_) ?_
    · have e11 : x[11]? = some (.pointer (some ⟨s 6, 0, none⟩)) := kn.got 6 11 (hp ⟨6, .data⟩ (by simp) rfl) rfl
      have e42 : x[42]? = some (.agg (U (lim 0))) := kn.got 4 42 (hp ⟨4, .data⟩ (by simp) rfl) rfl
      refine want_ rfl ?_
      obtain ⟨Kk2_0, Kk4_0, Kk6_0, Kk8_0, A6, S6, B2, BW⟩ := hI
      obtain ⟨za, fa⟩ := A6 (hp ⟨6, .data⟩ (by simp) rfl)
      have NEk2_0 : w1.heap.size ≠ s 6 := by have := N_k2_0; omega
      have NEk4_0 : w3.heap.size ≠ s 6 := by have := N_k4_0; omega
      have NEk6_0 : w5.heap.size ≠ s 6 := by have := N_k6_0; omega
      have NEk8_0 : w7.heap.size ≠ s 6 := by have := N_k8_0; omega
      have zW := Nat.le_trans b8.size za
      exact wp_store_row 27 _ _ rfl (s 6) (U (lim 0)) (ev_ e11) (ev_ e42) 27 (U zeros) (fa hL) (ofLen l0) (by rw [U_size, U_size, l0, zeros_len]) (one_cell _) (hK.out s _ (fun _ _ => rfl) ⟨(far_ Kk2_0 (NEk2_0)), (far_ Kk4_0 (NEk4_0)), (far_ Kk6_0 (NEk6_0)), (far_ Kk8_0 (NEk8_0)), fun _ => ⟨za, fun h => absurd h (by simp [YInv.up])⟩, fun _ => ⟨(hp ⟨6, .data⟩ (by simp) rfl), put_ (fa hL)⟩, (by simp; exact B2), below_row BW zW _⟩)
    refine VSteps.cons rfl (fun x L s wx K kn hL hp hI hK => ?_) ?_
    · have e43 : x[43]? = some (.bool false) := kn.got 5 43 (hp ⟨5, .data⟩ (by simp) rfl) rfl
      refine want_ rfl ?_
      exact val_ (v := .bool false) (by simp [go_sem, execOp, evr_, e43]) (hK.out s _ (fun _ _ => rfl) hI)
    exact VSteps.nil
  case fin7 =>
    intro s wx hI
    simp only [puts, VO, List.getD_cons_zero, List.getD_cons_succ, List.set_cons_zero, List.set_cons_succ]
    obtain ⟨Kk2_0, Kk4_0, Kk6_0, Kk8_0, A6, S6, B2, BW⟩ := hI
    have KS6 := (S6 rfl).2
    have Z6 := (A6 rfl).1
    clear A6 S6
    have b70 := BW
    clear B2 BW b8 N_k2_0 N_k4_0 N_k6_0 N_k8_0
    clear k2_0
    clear k4_0
    clear k6_0
    clear k8_0
    generalize wx = w70 at *
    generalize s 6 = q70_6 at *
    have k70_0 := Kk2_0
    clear Kk2_0
    have k70_1 := Kk4_0
    clear Kk4_0
    have k70_2 := Kk6_0
    clear Kk6_0
    have k70_3 := Kk8_0
    clear Kk8_0
    have k70_4 := KS6
    clear KS6
    go_wp2_with (first | (refine ldW k70_0 ll _ rfl rfl rfl ?_) | (refine ldW k70_1 l1 _ rfl rfl rfl ?_) | (refine ldW k70_2 l0 _ rfl rfl rfl ?_) | (refine ldW k70_3 lm _ rfl rfl rfl ?_) | (refine ldW k70_4 l0 _ rfl rfl rfl ?_))
    have N_k70_0 := k70_0.lt
    have N_k70_1 := k70_1.lt
    have N_k70_2 := k70_2.lt
    have N_k70_3 := k70_3.lt
    have N_k70_4 := k70_4.lt
    refine region_vals (σ := Nat → Nat) [some 45, some 46, some 47, some 44, some 48, some 49, some 50, some 13, some 14, none, none, some 15] (VO [some (.agg (U (lim least))), some (.agg (U (lim (-1)))), some (.tuple #[.agg (U (lim 0)), .agg (U (lim 0)), .bool false]), some (.tuple #[.agg (U (lim 0)), .agg (U (lim 0)), .bool false]), some (.agg (U (lim 0))), some (.agg (U (lim 0))), some (.bool false), none, none, some (undef), some (undef), some (.bool false)]) (fun L s wx => Blk wx w1.heap.size (U (lim least)) 27 ∧ Blk wx w3.heap.size (U (lim 1)) 27 ∧ Blk wx w5.heap.size (U (lim 0)) 27 ∧ Blk wx w7.heap.size (U (lim (least + 1))) 27 ∧ Blk wx q70_6 (U (lim 0)) 27 ∧ (L 7 = true → w70.heap.size ≤ s 7 ∧ (L 9 = false → Blk wx (s 7) (U zeros) 27)) ∧ (L 9 = true → L 7 = true ∧ Blk wx (s 7) (U (lim 0)) 27) ∧ (L 8 = true → w70.heap.size ≤ s 8 ∧ (L 10 = false → Blk wx (s 8) (U zeros) 27)) ∧ (L 10 = true → L 8 = true ∧ Blk wx (s 8) (U (lim 0)) 27) ∧ (L 7 = true → L 8 = true → s 7 ≠ s 8) ∧ w70.heap.size ≤ wx.heap.size ∧ Below w.heap.size w wx) (fun _ => 0) [0, 1, 2, 3, 4, 5, 6, 7, 8, 9, 10, 11] _ _ rfl (by kernel_rfl) (by kernel_rfl) (by kernel_rfl) (by kernel_rfl) (by kernel_rfl) ⟨k70_0.drew, k70_1.drew, k70_2.drew, k70_3.drew, k70_4.drew, fun h => absurd h (by decide), fun h => absurd h (by decide), fun h => absurd h (by decide), fun h => absurd h (by decide), fun h => absurd h (by decide), Nat.le_refl _, b70.drew⟩ ?steps8 ?fin8 (fun L L' s wx e h => by rw [e 7 (by decide), e 8 (by decide), e 9 (by decide), e 10 (by decide)] at h; exact h)
    case steps8 =>
      refine VSteps.cons rfl (fun x L s wx K kn hL hp hI hK => ?_) ?_
      · have e5 : x[5]? = some (.pointer (some ⟨w1.heap.size, 0, none⟩)) := (kn.old 5 (by kernel_rfl)).trans rfl
        refine want_ rfl ?_
        obtain ⟨Kk70_0, Kk70_1, Kk70_2, Kk70_3, Kk70_4, A7, S7, A8, S8, D7_8, B2, BW⟩ := hI
        exact wp_load_row 27 _ rfl w1.heap.size (ev_ e5) 27 (U (lim least)) (0, 0) _ Kk70_0 Try.underlying27 rfl (ofLen ll) (hK.out s _ (fun _ _ => rfl) ⟨Kk70_0, Kk70_1, Kk70_2, Kk70_3, Kk70_4, A7, S7, A8, S8, D7_8, B2, BW⟩)
      refine VSteps.cons rfl (fun x L s wx K kn hL hp hI hK => ?_) ?_
      · refine want_ rfl ?_
        refine goesK_ Try.func33 (by kernel_rfl) rfl #[.int .i64 (-1)] rfl (by simp only [List.map_toArray, List.map_cons, List.map_nil, evr_]) ((OM _).mono ?_)
        rintro e w' ⟨rfl, g⟩
        obtain ⟨Kk70_0, Kk70_1, Kk70_2, Kk70_3, Kk70_4, A7, S7, A8, S8, D7_8, B2, BW⟩ := hI
        exact ⟨_, rfl, hK.out s _ (fun _ _ => rfl) ⟨(Blk.keep Kk70_0 g), (Blk.keep Kk70_1 g), (Blk.keep Kk70_2 g), (Blk.keep Kk70_3 g), (Blk.keep Kk70_4 g), fun h => ⟨(A7 h).1, fun k => (Blk.keep ((A7 h).2 k) g)⟩, fun h => ⟨(S7 h).1, (Blk.keep (S7 h).2 g)⟩, fun h => ⟨(A8 h).1, fun k => (Blk.keep ((A8 h).2 k) g)⟩, fun h => ⟨(S8 h).1, (Blk.keep (S8 h).2 g)⟩, D7_8, Nat.le_trans B2 g.size, bb BW g⟩⟩
      refine VSteps.cons rfl (fun x L s wx K kn hL hp hI hK => ?_) ?_
      · have e45 : x[45]? = some (.agg (U (lim least))) := kn.got 0 45 (hp ⟨0, .data⟩ (by simp) rfl) rfl
        have e46 : x[46]? = some (.agg (U (lim (-1)))) := kn.got 1 46 (hp ⟨1, .data⟩ (by simp) rfl) rfl
        refine want_ rfl ?_
        refine goesK_ Try.func26 (by kernel_rfl) rfl #[.agg (U (lim least)), .agg (U (lim (-1)))] rfl (by simp only [List.map_toArray, List.map_cons, List.map_nil, evr_, ev_ e45, ev_ e46]) ((DL _).mono ?_)
        rintro e w' ⟨rfl, g⟩
        obtain ⟨Kk70_0, Kk70_1, Kk70_2, Kk70_3, Kk70_4, A7, S7, A8, S8, D7_8, B2, BW⟩ := hI
        exact ⟨_, rfl, hK.out s _ (fun _ _ => rfl) ⟨(Blk.keep Kk70_0 g), (Blk.keep Kk70_1 g), (Blk.keep Kk70_2 g), (Blk.keep Kk70_3 g), (Blk.keep Kk70_4 g), fun h => ⟨(A7 h).1, fun k => (Blk.keep ((A7 h).2 k) g)⟩, fun h => ⟨(S7 h).1, (Blk.keep (S7 h).2 g)⟩, fun h => ⟨(A8 h).1, fun k => (Blk.keep ((A8 h).2 k) g)⟩, fun h => ⟨(S8 h).1, (Blk.keep (S8 h).2 g)⟩, D7_8, Nat.le_trans B2 g.size, bb BW g⟩⟩
      refine VSteps.cons rfl (fun x L s wx K kn hL hp hI hK => ?_) ?_
      · have e47 : x[47]? = some (.tuple #[.agg (U (lim 0)), .agg (U (lim 0)), .bool false]) := kn.got 2 47 (hp ⟨2, .data⟩ (by simp) rfl) rfl
        refine want_ rfl ?_
        exact val_ (v := .tuple #[.agg (U (lim 0)), .agg (U (lim 0)), .bool false]) (by simp [go_sem, execOp, evr_, e47]) (hK.out s _ (fun _ _ => rfl) hI)
      refine VSteps.cons rfl (fun x L s wx K kn hL hp hI hK => ?_) ?_
      · have e44 : x[44]? = some (.tuple #[.agg (U (lim 0)), .agg (U (lim 0)), .bool false]) := kn.got 3 44 (hp ⟨3, .data⟩ (by simp) rfl) rfl
        refine want_ rfl ?_
        exact val_ (v := .agg (U (lim 0))) (by simp [go_sem, execOp, evr_, e44]) (hK.out s _ (fun _ _ => rfl) hI)
      refine VSteps.cons rfl (fun x L s wx K kn hL hp hI hK => ?_) ?_
      · have e44 : x[44]? = some (.tuple #[.agg (U (lim 0)), .agg (U (lim 0)), .bool false]) := kn.got 3 44 (hp ⟨3, .data⟩ (by simp) rfl) rfl
        refine want_ rfl ?_
        exact val_ (v := .agg (U (lim 0))) (by simp [go_sem, execOp, evr_, e44]) (hK.out s _ (fun _ _ => rfl) hI)
      refine VSteps.cons rfl (fun x L s wx K kn hL hp hI hK => ?_) ?_
      · have e44 : x[44]? = some (.tuple #[.agg (U (lim 0)), .agg (U (lim 0)), .bool false]) := kn.got 3 44 (hp ⟨3, .data⟩ (by simp) rfl) rfl
        refine want_ rfl ?_
        exact val_ (v := .bool false) (by simp [go_sem, execOp, evr_, e44]) (hK.out s _ (fun _ _ => rfl) hI)
      refine VSteps.cons rfl (fun x L s wx K kn hL hp hI hK => ?_) ?_
      · refine want_ rfl ?_
        obtain ⟨Kk70_0, Kk70_1, Kk70_2, Kk70_3, Kk70_4, A7, S7, A8, S8, D7_8, B2, BW⟩ := hI
        have hst : ¬ L 9 = true := fun h => absurd (S7 h).1 (by simp [hL])
        have LT8 : L 8 = true → s 8 < wx.heap.size := fun h => by
          cases hs : L 10 with
          | true => exact (S8 hs).2.lt
          | false => exact ((A8 h).2 hs).lt
        exact valw_ (v := .pointer (some ⟨wx.heap.size, 0, none⟩)) (w' := wx.alloc (.cells #[.int .u64 0, .int .u64 0, .int .u64 0, .int .u64 0, .int .u64 0, .int .u64 0, .int .u64 0, .int .u64 0, .int .u64 0, .int .u64 0, .int .u64 0, .int .u64 0, .int .u64 0, .int .u64 0, .int .u64 0, .int .u64 0] 27)) (by simp [go_sem, execOp, evr_]) (hK.out (upd s 7 wx.heap.size) _ (VO_upd _ _ _ hL) ⟨(Blk.alloc Kk70_0 _), (Blk.alloc Kk70_1 _), (Blk.alloc Kk70_2 _), (Blk.alloc Kk70_3 _), (Blk.alloc Kk70_4 _), fun _ => ⟨B2, fun _ => Blk.new _ _ _⟩, fun h => absurd h hst, fun h => ⟨(A8 h).1, fun k => (Blk.alloc ((A8 h).2 k) _)⟩, fun h => ⟨(S8 h).1, (Blk.alloc (S8 h).2 _)⟩, fun _ h => Nat.ne_of_gt (LT8 h), Nat.le_trans B2 (by simp), bb BW ((Below.refl _ _).alloc (Nat.le_refl _) _)⟩)
      refine VSteps.cons rfl (fun x L s wx K kn hL hp hI hK => ?_) ?_
      · refine want_ rfl ?_
        obtain ⟨Kk70_0, Kk70_1, Kk70_2, Kk70_3, Kk70_4, A7, S7, A8, S8, D7_8, B2, BW⟩ := hI
        have hst : ¬ L 10 = true := fun h => absurd (S8 h).1 (by simp [hL])
        have LT7 : L 7 = true → s 7 < wx.heap.size := fun h => by
          cases hs : L 9 with
          | true => exact (S7 hs).2.lt
          | false => exact ((A7 h).2 hs).lt
        exact valw_ (v := .pointer (some ⟨wx.heap.size, 0, none⟩)) (w' := wx.alloc (.cells #[.int .u64 0, .int .u64 0, .int .u64 0, .int .u64 0, .int .u64 0, .int .u64 0, .int .u64 0, .int .u64 0, .int .u64 0, .int .u64 0, .int .u64 0, .int .u64 0, .int .u64 0, .int .u64 0, .int .u64 0, .int .u64 0] 27)) (by simp [go_sem, execOp, evr_]) (hK.out (upd s 8 wx.heap.size) _ (VO_upd _ _ _ hL) ⟨(Blk.alloc Kk70_0 _), (Blk.alloc Kk70_1 _), (Blk.alloc Kk70_2 _), (Blk.alloc Kk70_3 _), (Blk.alloc Kk70_4 _), fun h => ⟨(A7 h).1, fun k => (Blk.alloc ((A7 h).2 k) _)⟩, fun h => ⟨(S7 h).1, (Blk.alloc (S7 h).2 _)⟩, fun _ => ⟨B2, fun _ => Blk.new _ _ _⟩, fun h => absurd h hst, fun h _ => Nat.ne_of_lt (LT7 h), Nat.le_trans B2 (by simp), bb BW ((Below.refl _ _).alloc (Nat.le_refl _) _)⟩)
      refine VSteps.cons rfl (fun x L s wx K kn hL hp hI hK => ?_) ?_
      · have e13 : x[13]? = some (.pointer (some ⟨s 7, 0, none⟩)) := kn.got 7 13 (hp ⟨7, .data⟩ (by simp) rfl) rfl
        have e48 : x[48]? = some (.agg (U (lim 0))) := kn.got 4 48 (hp ⟨4, .data⟩ (by simp) rfl) rfl
        refine want_ rfl ?_
        obtain ⟨Kk70_0, Kk70_1, Kk70_2, Kk70_3, Kk70_4, A7, S7, A8, S8, D7_8, B2, BW⟩ := hI
        obtain ⟨za, fa⟩ := A7 (hp ⟨7, .data⟩ (by simp) rfl)
        have NEk70_0 : w1.heap.size ≠ s 7 := by have := N_k70_0; omega
        have NEk70_1 : w3.heap.size ≠ s 7 := by have := N_k70_1; omega
        have NEk70_2 : w5.heap.size ≠ s 7 := by have := N_k70_2; omega
        have NEk70_3 : w7.heap.size ≠ s 7 := by have := N_k70_3; omega
        have NEk70_4 : q70_6 ≠ s 7 := by have := N_k70_4; omega
        have zW := Nat.le_trans b70.size za
        exact wp_store_row 27 _ _ rfl (s 7) (U (lim 0)) (ev_ e13) (ev_ e48) 27 (U zeros) (fa hL) (ofLen l0) (by rw [U_size, U_size, l0, zeros_len]) (one_cell _) (hK.out s _ (fun _ _ => rfl) ⟨(far_ Kk70_0 (NEk70_0)), (far_ Kk70_1 (NEk70_1)), (far_ Kk70_2 (NEk70_2)), (far_ Kk70_3 (NEk70_3)), (far_ Kk70_4 (NEk70_4)), fun _ => ⟨za, fun h => absurd h (by simp [YInv.up])⟩, fun _ => ⟨(hp ⟨7, .data⟩ (by simp) rfl), put_ (fa hL)⟩, fun h => ⟨(A8 h).1, fun k => (far_ ((A8 h).2 k) (Ne.symm (D7_8 (hp ⟨7, .data⟩ (by simp) rfl) h)))⟩, fun h => ⟨(S8 h).1, (far_ (S8 h).2 (Ne.symm (D7_8 (hp ⟨7, .data⟩ (by simp) rfl) (S8 h).1)))⟩, D7_8, (by simp; exact B2), below_row BW zW _⟩)
      refine VSteps.cons rfl (fun x L s wx K kn hL hp hI hK => ?_) ?_
      · have e14 : x[14]? = some (.pointer (some ⟨s 8, 0, none⟩)) := kn.got 8 14 (hp ⟨8, .data⟩ (by simp) rfl) rfl
        have e49 : x[49]? = some (.agg (U (lim 0))) := kn.got 5 49 (hp ⟨5, .data⟩ (by simp) rfl) rfl
        refine want_ rfl ?_
        obtain ⟨Kk70_0, Kk70_1, Kk70_2, Kk70_3, Kk70_4, A7, S7, A8, S8, D7_8, B2, BW⟩ := hI
        obtain ⟨za, fa⟩ := A8 (hp ⟨8, .data⟩ (by simp) rfl)
        have NEk70_0 : w1.heap.size ≠ s 8 := by have := N_k70_0; omega
        have NEk70_1 : w3.heap.size ≠ s 8 := by have := N_k70_1; omega
        have NEk70_2 : w5.heap.size ≠ s 8 := by have := N_k70_2; omega
        have NEk70_3 : w7.heap.size ≠ s 8 := by have := N_k70_3; omega
        have NEk70_4 : q70_6 ≠ s 8 := by have := N_k70_4; omega
        have zW := Nat.le_trans b70.size za
        exact wp_store_row 27 _ _ rfl (s 8) (U (lim 0)) (ev_ e14) (ev_ e49) 27 (U zeros) (fa hL) (ofLen l0) (by rw [U_size, U_size, l0, zeros_len]) (one_cell _) (hK.out s _ (fun _ _ => rfl) ⟨(far_ Kk70_0 (NEk70_0)), (far_ Kk70_1 (NEk70_1)), (far_ Kk70_2 (NEk70_2)), (far_ Kk70_3 (NEk70_3)), (far_ Kk70_4 (NEk70_4)), fun h => ⟨(A7 h).1, fun k => (far_ ((A7 h).2 k) (D7_8 h (hp ⟨8, .data⟩ (by simp) rfl)))⟩, fun h => ⟨(S7 h).1, (far_ (S7 h).2 (D7_8 (S7 h).1 (hp ⟨8, .data⟩ (by simp) rfl)))⟩, fun _ => ⟨za, fun h => absurd h (by simp [YInv.up])⟩, fun _ => ⟨(hp ⟨8, .data⟩ (by simp) rfl), put_ (fa hL)⟩, D7_8, (by simp; exact B2), below_row BW zW _⟩)
      refine VSteps.cons rfl (fun x L s wx K kn hL hp hI hK => ?_) ?_
      · have e50 : x[50]? = some (.bool false) := kn.got 6 50 (hp ⟨6, .data⟩ (by simp) rfl) rfl
        refine want_ rfl ?_
        exact val_ (v := .bool false) (by simp [go_sem, execOp, evr_, e50]) (hK.out s _ (fun _ _ => rfl) hI)
      exact VSteps.nil
    case fin8 =>
      intro s wx hI
      simp only [puts, VO, List.getD_cons_zero, List.getD_cons_succ, List.set_cons_zero, List.set_cons_succ]
      obtain ⟨Kk70_0, Kk70_1, Kk70_2, Kk70_3, Kk70_4, A7, S7, A8, S8, D7_8, B2, BW⟩ := hI
      have KS7 := (S7 rfl).2
      have Z7 := (A7 rfl).1
      have KS8 := (S8 rfl).2
      have Z8 := (A8 rfl).1
      have DD7_8 := D7_8 rfl rfl
      clear A7 S7 A8 S8 D7_8
      have b80 := BW
      clear B2 BW b70 N_k70_0 N_k70_1 N_k70_2 N_k70_3 N_k70_4
      clear k70_0
      clear k70_1
      clear k70_2
      clear k70_3
      clear k70_4
      generalize wx = w80 at *
      generalize s 7 = q80_7 at *
      generalize s 8 = q80_8 at *
      have k80_0 := Kk70_0
      clear Kk70_0
      have k80_1 := Kk70_1
      clear Kk70_1
      have k80_2 := Kk70_2
      clear Kk70_2
      have k80_3 := Kk70_3
      clear Kk70_3
      have k80_4 := Kk70_4
      clear Kk70_4
      have k80_5 := KS7
      clear KS7
      have k80_6 := KS8
      clear KS8
      go_wp2_with (first | (refine ldW k80_0 ll _ rfl rfl rfl ?_) | (refine ldW k80_1 l1 _ rfl rfl rfl ?_) | (refine ldW k80_2 l0 _ rfl rfl rfl ?_) | (refine ldW k80_3 lm _ rfl rfl rfl ?_) | (refine ldW k80_4 l0 _ rfl rfl rfl ?_) | (refine ldW k80_5 l0 _ rfl rfl rfl ?_) | (refine ldW k80_6 l0 _ rfl rfl rfl ?_))
      rw [hi, hj]
      have z80 := b80.size
      have O_k80_0 := k80_0.lt
      have O_k80_1 := k80_1.lt
      have O_k80_2 := k80_2.lt
      have O_k80_3 := k80_3.lt
      have O_k80_4 := k80_4.lt
      have O_k80_5 := k80_5.lt
      have O_k80_6 := k80_6.lt
      obtain ⟨kx, ky, b90, up⟩ := zero2 b80 _ rfl
      have Nx := kx.lt
      have Ny := ky.lt
      replace k80_0 := up _ _ k80_0
      have N_k80_0 := k80_0.lt
      replace k80_1 := up _ _ k80_1
      have N_k80_1 := k80_1.lt
      replace k80_2 := up _ _ k80_2
      have N_k80_2 := k80_2.lt
      replace k80_3 := up _ _ k80_3
      have N_k80_3 := k80_3.lt
      replace k80_4 := up _ _ k80_4
      have N_k80_4 := k80_4.lt
      replace k80_5 := up _ _ k80_5
      have N_k80_5 := k80_5.lt
      replace k80_6 := up _ _ k80_6
      have N_k80_6 := k80_6.lt
      clear up b80
      generalize (w80.alloc (.cells #[.int .u64 0, .int .u64 0, .int .u64 0, .int .u64 0, .int .u64 0, .int .u64 0, .int .u64 0, .int .u64 0, .int .u64 0, .int .u64 0, .int .u64 0, .int .u64 0, .int .u64 0, .int .u64 0, .int .u64 0, .int .u64 0] 27)).alloc (.cells #[.int .u64 0, .int .u64 0, .int .u64 0, .int .u64 0, .int .u64 0, .int .u64 0, .int .u64 0, .int .u64 0, .int .u64 0, .int .u64 0, .int .u64 0, .int .u64 0, .int .u64 0, .int .u64 0, .int .u64 0, .int .u64 0] 27) = w90 at *
      have N_kx := Nx
      have N_ky := Ny
      have M_kx := z80
      have M_ky : w.heap.size ≤ w80.heap.size + 1 := by omega
      refine region_vals (σ := Nat → Nat) [some 59, some 60, some 61, some 62, some 63, some 64, some 65, some 66, some 67, some 68, some 69, none, some 70, none] (VO [some (.int .i64 (i)), some (.int .i64 (((i / 64 : Nat) : Int))), some (.int .i64 (j)), some (.int .i64 (((j / 64 : Nat) : Int))), some (.int .i64 (i)), some (.int .i64 (((i % 64 : Nat) : Int))), some (.int .u64 (2 ^ (i % 64))), some (.int .i64 (j)), some (.int .i64 (((j % 64 : Nat) : Int))), some (.int .u64 (2 ^ (j % 64))), some (.pointer (some ⟨w80.heap.size, i / 64, none⟩)), some (undef), some (.pointer (some ⟨(w80.heap.size + 1), j / 64, none⟩)), some (undef)]) (fun L s wx => Blk wx w1.heap.size (U (lim least)) 27 ∧ Blk wx w3.heap.size (U (lim 1)) 27 ∧ Blk wx w5.heap.size (U (lim 0)) 27 ∧ Blk wx w7.heap.size (U (lim (least + 1))) 27 ∧ Blk wx q70_6 (U (lim 0)) 27 ∧ Blk wx q80_7 (U (lim 0)) 27 ∧ Blk wx q80_8 (U (lim 0)) 27 ∧ (L 11 = false → Blk wx w80.heap.size (U (zeros)) 27) ∧ (L 11 = true → Blk wx w80.heap.size (U (zeros.set (i / 64) (2 ^ (i % 64)))) 27) ∧ (L 13 = false → Blk wx (w80.heap.size + 1) (U (zeros)) 27) ∧ (L 13 = true → Blk wx (w80.heap.size + 1) (U (zeros.set (j / 64) (2 ^ (j % 64)))) 27) ∧ w90.heap.size ≤ wx.heap.size ∧ Below w.heap.size w wx) (fun _ => 0) [0, 1, 2, 3, 4, 5, 6, 7, 8, 9, 10, 11, 12, 13] _ _ rfl (by kernel_rfl) (by kernel_rfl) (by kernel_rfl) (by kernel_rfl) (by kernel_rfl) ⟨k80_0.drew, k80_1.drew, k80_2.drew, k80_3.drew, k80_4.drew, k80_5.drew, k80_6.drew, fun _ => kx.drew, fun h => absurd h (by decide), fun _ => ky.drew, fun h => absurd h (by decide), Nat.le_refl _, b90.drew⟩ ?steps11 ?fin11 (fun L L' s wx e h => by rw [e 11 (by decide), e 13 (by decide)] at h; exact h)
      case steps11 =>
        refine VSteps.cons rfl (fun x L s wx K kn hL hp hI hK => ?_) ?_
        · have e16 : x[16]? = some (.int .i64 (i)) := (kn.old 16 (by kernel_rfl)).trans rfl
          refine want_ rfl ?_
          exact val_ (v := .int .i64 (i)) (by simp [go_sem, execOp, evr_, e16]) (hK.out s _ (fun _ _ => rfl) hI)
        refine VSteps.cons rfl (fun x L s wx K kn hL hp hI hK => ?_) ?_
        · have e59 : x[59]? = some (.int .i64 (i)) := kn.got 0 59 (hp ⟨0, .data⟩ (by simp) rfl) rfl
          refine want_ rfl ?_
          exact val_ (v := .int .i64 (((i / 64 : Nat) : Int))) (by simp [go_sem, execOp, evr_, e59, Q1, W1]) (hK.out s _ (fun _ _ => rfl) hI)
        refine VSteps.cons rfl (fun x L s wx K kn hL hp hI hK => ?_) ?_
        · have e17 : x[17]? = some (.int .i64 (j)) := (kn.old 17 (by kernel_rfl)).trans rfl
          refine want_ rfl ?_
          exact val_ (v := .int .i64 (j)) (by simp [go_sem, execOp, evr_, e17]) (hK.out s _ (fun _ _ => rfl) hI)
        refine VSteps.cons rfl (fun x L s wx K kn hL hp hI hK => ?_) ?_
        · have e61 : x[61]? = some (.int .i64 (j)) := kn.got 2 61 (hp ⟨2, .data⟩ (by simp) rfl) rfl
          refine want_ rfl ?_
          exact val_ (v := .int .i64 (((j / 64 : Nat) : Int))) (by simp [go_sem, execOp, evr_, e61, Q2, W2]) (hK.out s _ (fun _ _ => rfl) hI)
        refine VSteps.cons rfl (fun x L s wx K kn hL hp hI hK => ?_) ?_
        · have e16 : x[16]? = some (.int .i64 (i)) := (kn.old 16 (by kernel_rfl)).trans rfl
          refine want_ rfl ?_
          exact val_ (v := .int .i64 (i)) (by simp [go_sem, execOp, evr_, e16]) (hK.out s _ (fun _ _ => rfl) hI)
        refine VSteps.cons rfl (fun x L s wx K kn hL hp hI hK => ?_) ?_
        · have e63 : x[63]? = some (.int .i64 (i)) := kn.got 4 63 (hp ⟨4, .data⟩ (by simp) rfl) rfl
          refine want_ rfl ?_
          exact val_ (v := .int .i64 (((i % 64 : Nat) : Int))) (by simp [go_sem, execOp, evr_, e63, R1]) (hK.out s _ (fun _ _ => rfl) hI)
        refine VSteps.cons rfl (fun x L s wx K kn hL hp hI hK => ?_) ?_
        · have e64 : x[64]? = some (.int .i64 (((i % 64 : Nat) : Int))) := kn.got 5 64 (hp ⟨5, .data⟩ (by simp) rfl) rfl
          refine want_ rfl ?_
          exact val_ (v := .int .u64 (2 ^ (i % 64))) (by simp [go_sem, execOp, evr_, e64, S1]) (hK.out s _ (fun _ _ => rfl) hI)
        refine VSteps.cons rfl (fun x L s wx K kn hL hp hI hK => ?_) ?_
        · have e17 : x[17]? = some (.int .i64 (j)) := (kn.old 17 (by kernel_rfl)).trans rfl
          refine want_ rfl ?_
          exact val_ (v := .int .i64 (j)) (by simp [go_sem, execOp, evr_, e17]) (hK.out s _ (fun _ _ => rfl) hI)
        refine VSteps.cons rfl (fun x L s wx K kn hL hp hI hK => ?_) ?_
        · have e66 : x[66]? = some (.int .i64 (j)) := kn.got 7 66 (hp ⟨7, .data⟩ (by simp) rfl) rfl
          refine want_ rfl ?_
          exact val_ (v := .int .i64 (((j % 64 : Nat) : Int))) (by simp [go_sem, execOp, evr_, e66, R2]) (hK.out s _ (fun _ _ => rfl) hI)
        refine VSteps.cons rfl (fun x L s wx K kn hL hp hI hK => ?_) ?_
        · have e67 : x[67]? = some (.int .i64 (((j % 64 : Nat) : Int))) := kn.got 8 67 (hp ⟨8, .data⟩ (by simp) rfl) rfl
          refine want_ rfl ?_
          exact val_ (v := .int .u64 (2 ^ (j % 64))) (by simp [go_sem, execOp, evr_, e67, S2]) (hK.out s _ (fun _ _ => rfl) hI)
        refine VSteps.cons rfl (fun x L s wx K kn hL hp hI hK => ?_) ?_
        · have e18 : x[18]? = some (.pointer (some ⟨w80.heap.size, 0, none⟩)) := (kn.old 18 (by kernel_rfl)).trans rfl
          have e60 : x[60]? = some (.int .i64 (((i / 64 : Nat) : Int))) := kn.got 1 60 (hp ⟨1, .data⟩ (by simp) rfl) rfl
          refine want_ rfl ?_
          exact val_ (v := .pointer (some ⟨w80.heap.size, i / 64, none⟩)) (by simp [go_sem, execOp, evr_, e18, e60, X1, Y1, T1]) (hK.out s _ (fun _ _ => rfl) hI)
        refine VSteps.cons rfl (fun x L s wx K kn hL hp hI hK => ?_) ?_
        · have e69 : x[69]? = some (.pointer (some ⟨w80.heap.size, i / 64, none⟩)) := kn.got 10 69 (hp ⟨10, .data⟩ (by simp) rfl) rfl
          have e65 : x[65]? = some (.int .u64 (2 ^ (i % 64))) := kn.got 6 65 (hp ⟨6, .data⟩ (by simp) rfl) rfl
          refine want_ rfl ?_
          obtain ⟨Kk80_0, Kk80_1, Kk80_2, Kk80_3, Kk80_4, Kk80_5, Kk80_6, Fkx, Gkx, Fky, Gky, B2, BW⟩ := hI
          have cA := (Fkx hL).cell (i / 64)
          rw [U_at (by rw [zeros_len]; omega)] at cA
          have fA := (Fkx hL).free (i / 64)
          have NEk80_0 : w80.heap.size ≠ w1.heap.size := by have := N_k80_0; have := N_kx; omega
          have NEk80_1 : w80.heap.size ≠ w3.heap.size := by have := N_k80_1; have := N_kx; omega
          have NEk80_2 : w80.heap.size ≠ w5.heap.size := by have := N_k80_2; have := N_kx; omega
          have NEk80_3 : w80.heap.size ≠ w7.heap.size := by have := N_k80_3; have := N_kx; omega
          have NEk80_4 : w80.heap.size ≠ q70_6 := by have := N_k80_4; have := N_kx; omega
          have NEk80_5 : w80.heap.size ≠ q80_7 := by have := N_k80_5; have := N_kx; omega
          have NEk80_6 : w80.heap.size ≠ q80_8 := by have := N_k80_6; have := N_kx; omega
          have NEky : w80.heap.size ≠ (w80.heap.size + 1) := by have := N_ky; have := N_kx; omega
          exact skipw_ (w' := wx.setCell ⟨w80.heap.size, (i / 64), none⟩ (.int .u64 (2 ^ (i % 64)))) (by simp [go_sem, execOp, evr_, e69, e65, cA, fA]) (hK.out s _ (fun _ _ => rfl) ⟨(Blk.setOther Kk80_0 NEk80_0 _), (Blk.setOther Kk80_1 NEk80_1 _), (Blk.setOther Kk80_2 NEk80_2 _), (Blk.setOther Kk80_3 NEk80_3 _), (Blk.setOther Kk80_4 NEk80_4 _), (Blk.setOther Kk80_5 NEk80_5 _), (Blk.setOther Kk80_6 NEk80_6 _), fun h => absurd h (by simp [YInv.up]), fun _ => (by rw [← U_set]; exact (Fkx hL).set _ _), fun h => (Blk.setOther (Fky h) NEky _), fun h => (Blk.setOther (Gky h) NEky _), (by simp; exact B2), (Below.setCell BW M_kx _)⟩)
        refine VSteps.cons rfl (fun x L s wx K kn hL hp hI hK => ?_) ?_
        · have e19 : x[19]? = some (.pointer (some ⟨(w80.heap.size + 1), 0, none⟩)) := (kn.old 19 (by kernel_rfl)).trans rfl
          have e62 : x[62]? = some (.int .i64 (((j / 64 : Nat) : Int))) := kn.got 3 62 (hp ⟨3, .data⟩ (by simp) rfl) rfl
          refine want_ rfl ?_
          exact val_ (v := .pointer (some ⟨(w80.heap.size + 1), j / 64, none⟩)) (by simp [go_sem, execOp, evr_, e19, e62, X2, Y2, T2]) (hK.out s _ (fun _ _ => rfl) hI)
        refine VSteps.cons rfl (fun x L s wx K kn hL hp hI hK => ?_) ?_
        · have e70 : x[70]? = some (.pointer (some ⟨(w80.heap.size + 1), j / 64, none⟩)) := kn.got 12 70 (hp ⟨12, .data⟩ (by simp) rfl) rfl
          have e68 : x[68]? = some (.int .u64 (2 ^ (j % 64))) := kn.got 9 68 (hp ⟨9, .data⟩ (by simp) rfl) rfl
          refine want_ rfl ?_
          obtain ⟨Kk80_0, Kk80_1, Kk80_2, Kk80_3, Kk80_4, Kk80_5, Kk80_6, Fkx, Gkx, Fky, Gky, B2, BW⟩ := hI
          have cA := (Fky hL).cell (j / 64)
          rw [U_at (by rw [zeros_len]; omega)] at cA
          have fA := (Fky hL).free (j / 64)
          have NEk80_0 : (w80.heap.size + 1) ≠ w1.heap.size := by have := N_k80_0; have := N_ky; omega
          have NEk80_1 : (w80.heap.size + 1) ≠ w3.heap.size := by have := N_k80_1; have := N_ky; omega
          have NEk80_2 : (w80.heap.size + 1) ≠ w5.heap.size := by have := N_k80_2; have := N_ky; omega
          have NEk80_3 : (w80.heap.size + 1) ≠ w7.heap.size := by have := N_k80_3; have := N_ky; omega
          have NEk80_4 : (w80.heap.size + 1) ≠ q70_6 := by have := N_k80_4; have := N_ky; omega
          have NEk80_5 : (w80.heap.size + 1) ≠ q80_7 := by have := N_k80_5; have := N_ky; omega
          have NEk80_6 : (w80.heap.size + 1) ≠ q80_8 := by have := N_k80_6; have := N_ky; omega
          have NEkx : (w80.heap.size + 1) ≠ w80.heap.size := by have := N_kx; have := N_ky; omega
          exact skipw_ (w' := wx.setCell ⟨(w80.heap.size + 1), (j / 64), none⟩ (.int .u64 (2 ^ (j % 64)))) (by simp [go_sem, execOp, evr_, e70, e68, cA, fA]) (hK.out s _ (fun _ _ => rfl) ⟨(Blk.setOther Kk80_0 NEk80_0 _), (Blk.setOther Kk80_1 NEk80_1 _), (Blk.setOther Kk80_2 NEk80_2 _), (Blk.setOther Kk80_3 NEk80_3 _), (Blk.setOther Kk80_4 NEk80_4 _), (Blk.setOther Kk80_5 NEk80_5 _), (Blk.setOther Kk80_6 NEk80_6 _), fun h => (Blk.setOther (Fkx h) NEkx _), fun h => (Blk.setOther (Gkx h) NEkx _), fun h => absurd h (by simp [YInv.up]), fun _ => (by rw [← U_set]; exact (Fky hL).set _ _), (by simp; exact B2), (Below.setCell BW M_ky _)⟩)
        exact VSteps.nil
      case fin11 =>
        intro s wx hI
        simp only [puts, VO, List.getD_cons_zero, List.getD_cons_succ, List.set_cons_zero, List.set_cons_succ]
        obtain ⟨Kk80_0, Kk80_1, Kk80_2, Kk80_3, Kk80_4, Kk80_5, Kk80_6, Fkx, Gkx, Fky, Gky, B2, BW⟩ := hI
        have Kkx := Gkx rfl
        have Kky := Gky rfl
        clear Fkx Gkx Fky Gky
        have b100 := BW
        rw [pow_lim i i1] at Kkx
        rw [pow_lim j j1] at Kky
        clear B2 BW b90
        have k100_0 := Kk80_0
        clear Kk80_0
        clear Kk80_1
        clear Kk80_2
        have k100_3 := Kk80_3
        clear Kk80_3
        clear Kk80_4
        clear Kk80_5
        clear Kk80_6
        have k100_7 := Kkx
        clear Kkx
        have k100_8 := Kky
        clear Kky
        clear KN O1 OM SB AD ML DL Q1 Q2 R1 R2 S1 S2 W1 W2 X1 X2 Y1 Y2 T1 T2 n0 n1 k0 k1 hi hj
        generalize hTT : decide ((i : Int) + (j : Int) < 1023) = tt at MP
        have BP2 : (i : Int) + (j : Int) < 1023 → ∀ W, Calls Try.prog 24 #[.agg (U (lim (cl (2 ^ (i + j)))))] W fun e w' => e = .returned (.int .i64 ((i : Int) + (j : Int) + 1)) ∧ Below W.heap.size W w' := fun h W => by
          have := bits_p W (i + j) (by omega)
          rw [show (((i + j : Nat) : Int) + 1) = (i : Int) + (j : Int) + 1 by omega] at this
          exact this
        clear BP
        have iI : 0 ≤ (i : Int) ∧ (i : Int) < 1023 := by omega
        have jI : 0 ≤ (j : Int) ∧ (j : Int) < 1023 := by omega
        clear i1 j1
        generalize (i : Int) = I at *
        generalize (j : Int) = J at *
        obtain ⟨iI0, iI1⟩ := iI
        obtain ⟨jI0, jI1⟩ := jI
        generalize wx = w100 at *
        go_wp2_with (first | (refine ldW k100_0 ll _ rfl rfl rfl ?_) | (refine ldW k100_3 lm _ rfl rfl rfl ?_) | (refine ldW k100_7 li _ rfl rfl rfl ?_) | (refine ldW k100_8 lj _ rfl rfl rfl ?_))
        clear ll0 l1 l0 zl li lj z2 z4 z6 z8 Z6 Z7 Z8 DD7_8 z80 Nx Ny N_kx N_ky M_kx M_ky kx ky O_k80_0 N_k80_0 k80_0 O_k80_1 N_k80_1 k80_1 O_k80_2 N_k80_2 k80_2 O_k80_3 N_k80_3 k80_3 O_k80_4 N_k80_4 k80_4 O_k80_5 N_k80_5 k80_5 O_k80_6 N_k80_6 k80_6
        have zl := zeros_len
        cases tt
        · have hij : ¬ I + J < 1023 := of_decide_eq_false hTT
          have HL1 : decide (I + J < 1023) = false := hTT
          have WI : IntKind.i64.wrap (I + J) = I + J := IntWalk.i64_in _ (by omega)
          clear hTT BP2
          refine (MP _).mono ?_; rintro e w101 ⟨rfl, g⟩
          replace k100_0 := k100_0.keep g
          replace k100_3 := k100_3.keep g
          replace k100_7 := k100_7.keep g
          replace k100_8 := k100_8.keep g
          have b101 := bb b100 g
          clear g b100
          obtain ⟨t0, k102_0, b102, up⟩ := new1 b101 (lim (cl (2 ^ (i + j)))) _ _ rfl rfl
          replace k100_0 := up _ _ k100_0
          replace k100_3 := up _ _ k100_3
          have z102 := b101.size
          go_upto_region 13 with (first | (refine ldW k100_0 ll _ rfl rfl rfl ?_) | (refine ldW k100_3 lm _ rfl rfl rfl ?_) | (refine ldW k102_0 lp _ rfl rfl rfl ?_) | (refine stW t0 zeros_len lp _ _ rfl rfl rfl rfl ?_))
          clear up t0 b101
          generalize (w101.alloc (.cells #[.int .u64 0, .int .u64 0, .int .u64 0, .int .u64 0, .int .u64 0, .int .u64 0, .int .u64 0, .int .u64 0, .int .u64 0, .int .u64 0, .int .u64 0, .int .u64 0, .int .u64 0, .int .u64 0, .int .u64 0, .int .u64 0] 27)).setRow w101.heap.size (U (lim (cl (2 ^ (i + j))))) = w102 at *
          clear zl z102 WI
          clear MP
          generalize ((i : Int) / 64) = d1 at *
          generalize ((j : Int) / 64) = d2 at *
          generalize ((i : Int) % 64) = d3 at *
          generalize ((j : Int) % 64) = d4 at *
          generalize ((2 : Int) ^ (i % 64)) = d5 at *
          generalize ((2 : Int) ^ (j % 64)) = d6 at *
          generalize i / 64 = d7 at *
          generalize j / 64 = d8 at *
          generalize lim (cl (2 ^ (i + j))) = LP at *
          generalize lim (2 ^ i) = LI at *
          generalize lim (2 ^ j) = LJ at *
          try dsimp only
          repeat (first | go_skip | (refine ldWg k100_0 ll _ rfl rfl (by kernel_rfl) ?_) | (refine ldWg k100_3 lm _ rfl rfl (by kernel_rfl) ?_) | (refine ldWg k102_0 lp _ rfl rfl (by kernel_rfl) ?_) | go_step)
          refine (BL _).mono ?_; rintro e w103 ⟨rfl, g⟩
          replace k100_0 := k100_0.keep g
          replace k100_3 := k100_3.keep g
          replace k102_0 := k102_0.keep g
          have b103 := bb b102 g
          clear g b102
          try dsimp only
          repeat (first | go_skip | (refine ldWg k100_0 ll _ rfl rfl (by kernel_rfl) ?_) | (refine ldWg k100_3 lm _ rfl rfl (by kernel_rfl) ?_) | (refine ldWg k102_0 lp _ rfl rfl (by kernel_rfl) ?_) | go_step)
          refine (BM _).mono ?_; rintro e w104 ⟨rfl, g⟩
          replace k100_0 := k100_0.keep g
          replace k100_3 := k100_3.keep g
          replace k102_0 := k102_0.keep g
          have b104 := bb b103 g
          clear g b103
          try dsimp only
          repeat (first | go_skip | (refine ldWg k100_0 ll _ rfl rfl (by kernel_rfl) ?_) | (refine ldWg k100_3 lm _ rfl rfl (by kernel_rfl) ?_) | (refine ldWg k102_0 lp _ rfl rfl (by kernel_rfl) ?_) | go_step)
          refine (SM _).mono ?_; rintro e w105 ⟨rfl, g⟩
          replace k100_0 := k100_0.keep g
          replace k100_3 := k100_3.keep g
          replace k102_0 := k102_0.keep g
          have b105 := bb b104 g
          clear g b104
          try dsimp only
          repeat (first | go_skip | (refine ldWg k100_0 ll _ rfl rfl (by kernel_rfl) ?_) | (refine ldWg k100_3 lm _ rfl rfl (by kernel_rfl) ?_) | (refine ldWg k102_0 lp _ rfl rfl (by kernel_rfl) ?_) | go_step)
          go_ret
          exact ⟨rfl, b105⟩
        · have hij : I + J < 1023 := of_decide_eq_true hTT
          have HB := BP2 hij
          have HL1 : decide (I + J < 1023) = true := hTT
          have WI : IntKind.i64.wrap (I + J) = I + J := IntWalk.i64_in _ (by omega)
          have WI1 : IntKind.i64.wrap (I + J + 1) = I + J + 1 := IntWalk.i64_in _ (by omega)
          clear hTT BP2
          refine (MP _).mono ?_; rintro e w101 ⟨rfl, g⟩
          replace k100_0 := k100_0.keep g
          replace k100_3 := k100_3.keep g
          replace k100_7 := k100_7.keep g
          replace k100_8 := k100_8.keep g
          have b101 := bb b100 g
          clear g b100
          obtain ⟨t0, k102_0, b102, up⟩ := new1 b101 (lim (cl (2 ^ (i + j)))) _ _ rfl rfl
          replace k100_0 := up _ _ k100_0
          replace k100_3 := up _ _ k100_3
          have z102 := b101.size
          go_upto_region 13 with (first | (refine ldW k100_0 ll _ rfl rfl rfl ?_) | (refine ldW k100_3 lm _ rfl rfl rfl ?_) | (refine ldW k102_0 lp _ rfl rfl rfl ?_) | (refine stW t0 zeros_len lp _ _ rfl rfl rfl rfl ?_))
          clear up t0 b101
          generalize (w101.alloc (.cells #[.int .u64 0, .int .u64 0, .int .u64 0, .int .u64 0, .int .u64 0, .int .u64 0, .int .u64 0, .int .u64 0, .int .u64 0, .int .u64 0, .int .u64 0, .int .u64 0, .int .u64 0, .int .u64 0, .int .u64 0, .int .u64 0] 27)).setRow w101.heap.size (U (lim (cl (2 ^ (i + j))))) = w102 at *
          clear zl z102 WI WI1
          clear MP
          generalize ((i : Int) / 64) = d1 at *
          generalize ((j : Int) / 64) = d2 at *
          generalize ((i : Int) % 64) = d3 at *
          generalize ((j : Int) % 64) = d4 at *
          generalize ((2 : Int) ^ (i % 64)) = d5 at *
          generalize ((2 : Int) ^ (j % 64)) = d6 at *
          generalize i / 64 = d7 at *
          generalize j / 64 = d8 at *
          generalize lim (cl (2 ^ (i + j))) = LP at *
          generalize lim (2 ^ i) = LI at *
          generalize lim (2 ^ j) = LJ at *
          try dsimp only
          repeat (first | go_skip | (refine ldWg k100_0 ll _ rfl rfl (by kernel_rfl) ?_) | (refine ldWg k100_3 lm _ rfl rfl (by kernel_rfl) ?_) | (refine ldWg k102_0 lp _ rfl rfl (by kernel_rfl) ?_) | go_step)
          refine (HB _).mono ?_; rintro e w103 ⟨rfl, g⟩
          replace k100_0 := k100_0.keep g
          replace k100_3 := k100_3.keep g
          replace k102_0 := k102_0.keep g
          have b103 := bb b102 g
          clear g b102
          try dsimp only
          repeat (first | go_skip | (refine ldWg k100_0 ll _ rfl rfl (by kernel_rfl) ?_) | (refine ldWg k100_3 lm _ rfl rfl (by kernel_rfl) ?_) | (refine ldWg k102_0 lp _ rfl rfl (by kernel_rfl) ?_) | go_step)
          refine (BL _).mono ?_; rintro e w104 ⟨rfl, g⟩
          replace k100_0 := k100_0.keep g
          replace k100_3 := k100_3.keep g
          replace k102_0 := k102_0.keep g
          have b104 := bb b103 g
          clear g b103
          try dsimp only
          repeat (first | go_skip | (refine ldWg k100_0 ll _ rfl rfl (by kernel_rfl) ?_) | (refine ldWg k100_3 lm _ rfl rfl (by kernel_rfl) ?_) | (refine ldWg k102_0 lp _ rfl rfl (by kernel_rfl) ?_) | go_step)
          refine (BM _).mono ?_; rintro e w105 ⟨rfl, g⟩
          replace k100_0 := k100_0.keep g
          replace k100_3 := k100_3.keep g
          replace k102_0 := k102_0.keep g
          have b105 := bb b104 g
          clear g b104
          try dsimp only
          repeat (first | go_skip | (refine ldWg k100_0 ll _ rfl rfl (by kernel_rfl) ?_) | (refine ldWg k100_3 lm _ rfl rfl (by kernel_rfl) ?_) | (refine ldWg k102_0 lp _ rfl rfl (by kernel_rfl) ?_) | go_step)
          refine (SM _).mono ?_; rintro e w106 ⟨rfl, g⟩
          replace k100_0 := k100_0.keep g
          replace k100_3 := k100_3.keep g
          replace k102_0 := k102_0.keep g
          have b106 := bb b105 g
          clear g b105
          try dsimp only
          repeat (first | go_skip | (refine ldWg k100_0 ll _ rfl rfl (by kernel_rfl) ?_) | (refine ldWg k100_3 lm _ rfl rfl (by kernel_rfl) ?_) | (refine ldWg k102_0 lp _ rfl rfl (by kernel_rfl) ?_) | go_step)
          go_ret
          exact ⟨rfl, b106⟩
theorem wf_u16 {x : Int} (h : (Lit.int .u16 x).wf = true) : 0 ≤ x ∧ x ≤ 65535 := by
  simp [Lit.wf, IntKind.min, IntKind.max, IntKind.bits, IntKind.signed] at h; omega
theorem wf_u8 {x : Int} (h : (Lit.int .u8 x).wf = true) : 0 ≤ x ∧ x ≤ 255 := by
  simp [Lit.wf, IntKind.min, IntKind.max, IntKind.bits, IntKind.signed] at h; omega
theorem WideEdges_calls (n k : Int) (w : World) (w0 : (Lit.int .u16 n).wf = true) (w1 : (Lit.int .u8 k).wf = true) : Calls Try.prog 9 #[.int .u16 n, .int .u8 k] w fun e w' => e = .returned (.bool true) ∧ Below w.heap.size w w' :=
  edges_c n k (wf_u16 w0).1 (wf_u16 w0).2 (wf_u8 w1).1 (wf_u8 w1).2 w
end Go.Proofs.Ytpdljoalfmgfiaa.YWide
