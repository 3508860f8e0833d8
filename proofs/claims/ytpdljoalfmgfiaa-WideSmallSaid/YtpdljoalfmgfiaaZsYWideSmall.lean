/- Lean functions, contracts and lemmas that this claim needs. No condition. -/
import Derived.Test.YtpdljoalfmgfiaaZsYWideMade
import Derived.Test.YtpdljoalfmgfiaaZsYWideKnown
import Derived.BigFrame
import Derived.Test.YtpdljoalfmgfiaaZsYWideReg
import Derived.Test.YtpdljoalfmgfiaaZsYWideAny
namespace Go.Proofs.Ytpdljoalfmgfiaa.YWide
open Go.RowKit Go.Proofs.Ytpdljoalfmgfiaa.YInv Go.Proofs.Ytpdljoalfmgfiaa.YErr Go.Proofs.Ytpdljoalfmgfiaa.YRef Go.Proofs.Ytpdljoalfmgfiaa.YNum Go.Proofs.Ytpdljoalfmgfiaa.YBits Go.Proofs.Ytpdljoalfmgfiaa.XCarry Go.Proofs.Ytpdljoalfmgfiaa.QWd Go.Proofs.YtpdljoalfmgfiaaW.PrintWords Go.Proofs.YtpdljoalfmgfiaaW.PrintLast
set_option linter.unusedVariables false
set_option linter.unusedSimpArgs false
theorem ldWg {ops : Array Oper} {rest : List Oper} {o : Oper} {a : Act} {w : World} {b : Nat} {l : List Int} {Q : Exit → Act → World → Prop} (k : Blk w b (U l) 27) (hl : l.length = 16) (x : Operand) (ho : o.op = .load 27 x) (hx : a.eval x = .pointer (some ⟨b, 0, none⟩)) (hw : Region.wanted o (yielded ops a.tmps) = true)
    (h : wpList Try.prog ops Q rest (a.put o.dst (.agg (U l))) w) : wpList Try.prog ops Q (o :: rest) a w :=
  BigFrame.wpList_want hw fun K hK => wp_load_row 27 x ho b hx 27 (U l) (0, 0) _ k Try.underlying27 rfl (ofLen hl) (hK _ _ h)
/-- A number of at most so many bits. -/
def Bd (k : Nat) (x : Int) : Prop := x.natAbs < 2 ^ k
theorem Bd.of {k : Nat} {x : Int} (h0 : -(2 ^ k) < x) (h1 : x < 2 ^ k) : Bd k x := by
  have e : ((2 ^ k : Nat) : Int) = (2 : Int) ^ k := by simp
  unfold Bd
  omega
theorem Bd.mono {k l : Nat} {x : Int} (h : Bd k x) (hl : k ≤ l) : Bd l x := Nat.lt_of_lt_of_le h (Nat.pow_le_pow_right (by decide) hl)
theorem Bd.mul {k l : Nat} {x y : Int} (h : Bd k x) (g : Bd l y) : Bd (k + l) (x * y) := by
  unfold Bd at *
  rw [Int.natAbs_mul, Nat.pow_add]
  exact Nat.mul_lt_mul'' h g
theorem Bd.add {k : Nat} {x y : Int} (h : Bd k x) (g : Bd k y) : Bd (k + 1) (x + y) := by
  unfold Bd at *
  rw [Nat.pow_succ]
  omega
theorem inW_of {x : Int} {P : Nat} (hP : (18446744073709551616 : Int) ^ 16 = 4 * (P : Int)) (h : x.natAbs < P) : InW x := by
  unfold InW
  rw [hP]
  omega
theorem Bd.inW {k : Nat} {x : Int} (h : Bd k x) (hk : k ≤ 1022) : InW x := inW_of (P := 2 ^ 1022) (by decide +kernel) (h.mono hk)
theorem cl_in {z : Int} (h : InW z) : cl z = z := by unfold cl; rw [if_pos h]
section
variable {W w : World} {x y : List Int}
end
section
variable (w : World)
theorem mul_w {x y z : Int} (hx : InW x) (hy : InW y) (hz : InW z) (e : x * y = z) : Calls Try.prog 15 #[.agg (U (lim x)), .agg (U (lim y))] w fun e w' => e = .returned (.tuple #[.agg (U (lim z)), .bool true]) ∧ Below w.heap.size w w' := by
  have h := Mul_w hx hy w
  rwa [e, cl_in hz, decide_eq_true hz] at h
end
theorem wf_u16' {x : Int} (h : (Lit.int .u16 x).wf = true) : 0 ≤ x ∧ x ≤ 65535 := by
  simp [Lit.wf, IntKind.min, IntKind.max, IntKind.bits, IntKind.signed] at h; omega
theorem dig_wf {l : List Int} (h : ∀ n ∈ l, (Lit.int .u64 n).wf = true) : Dig l := fun x hx => by
  have := h x hx
  simp [Lit.wf, IntKind.min, IntKind.max, IntKind.bits, IntKind.signed] at this
  omega
end Go.Proofs.Ytpdljoalfmgfiaa.YWide
namespace Go.Proofs.Ytpdljoalfmgfiaa.YInv
open Go.RowKit
def updV (s : Nat → Value) (i : Nat) (v : Value) : Nat → Value := fun k => bif Nat.beq k i then v else s k
theorem updV_self (s : Nat → Value) (i : Nat) (v : Value) : updV s i v i = v := by
  unfold updV
  rw [Nat.beq_refl]; rfl
theorem updV_ne (s : Nat → Value) (v : Value) {i j : Nat} (h : Nat.beq j i = false) : updV s i v j = s j := by
  unfold updV
  rw [h]; rfl
def VB (vs : List (Option Value)) (s : Nat → Value) (j : Nat) : Value := match vs.getD j none with | some v => v | none => s j
theorem VB_upd (vs : List (Option Value)) (s : Nat → Value) {L : Nat → Bool} {i : Nat} (v : Value) (h : L i = false) : ∀ j, L j = true → VB vs (updV s i v) j = VB vs s j := by
  intro j hj
  have : Nat.beq j i = false := by
    cases e : Nat.beq j i with
    | false => rfl
    | true => rw [Nat.eq_of_beq_eq_true e, h] at hj; cases hj
  unfold VB
  rw [updV_ne _ _ this]
end Go.Proofs.Ytpdljoalfmgfiaa.YInv
namespace Go.Proofs.Ytpdljoalfmgfiaa.YWide
open Go.RowKit Go.Proofs.Ytpdljoalfmgfiaa.YInv Go.Proofs.Ytpdljoalfmgfiaa.YErr Go.Proofs.Ytpdljoalfmgfiaa.YRef Go.Proofs.Ytpdljoalfmgfiaa.YNum Go.Proofs.Ytpdljoalfmgfiaa.YBits Go.Proofs.Ytpdljoalfmgfiaa.XCarry Go.Proofs.Ytpdljoalfmgfiaa.QWd Go.Proofs.YtpdljoalfmgfiaaW.PrintWords Go.Proofs.YtpdljoalfmgfiaaW.PrintLast
open Go.Proofs.Ytpdljoalfmgfiaa.YBig (IsBig)
set_option linter.unusedVariables false
set_option linter.unusedSimpArgs false
theorem wf_u8' {x : Int} (h : (Lit.int .u8 x).wf = true) : 0 ≤ x ∧ x ≤ 255 := by
  simp [Lit.wf, IntKind.min, IntKind.max, IntKind.bits, IntKind.signed] at h; omega
theorem wf_i64' {x : Int} (h : (Lit.int .i64 x).wf = true) : -9223372036854775808 ≤ x ∧ x ≤ 9223372036854775807 := by
  simp [Lit.wf, IntKind.min, IntKind.max, IntKind.bits, IntKind.signed] at h; omega
theorem bd_64 {v : Int} (v0 : -9223372036854775808 ≤ v) (v1 : v ≤ 9223372036854775807) : Bd 64 v := by
  unfold Bd
  omega
theorem bd_prod {v u : Int} (v0 : -9223372036854775808 ≤ v) (v1 : v ≤ 9223372036854775807) (u0 : -9223372036854775808 ≤ u) (u1 : u ≤ 9223372036854775807) : Bd 128 (v * u) := (bd_64 v0 v1).mul (bd_64 u0 u1)
theorem ab_of {x : Int} {P : Nat} {q : Int} (hP : q = (P : Int)) (h : x.natAbs < P) : YRef.ab x < q := by
  rw [hP]
  unfold YRef.ab
  split <;> omega
theorem Bd.ab {k : Nat} {x : Int} (h : Bd k x) (hk : k ≤ 1023) : ab x < 2 ^ 1023 := ab_of (P := 2 ^ 1023) (by decide +kernel) (h.mono hk)
/-- made with any number of bits. -/
theorem made_all {A : Option Addr} {c : Nat} {l : List Int} {w : World} (hl : LiesK .u64 w A l) (hd : Dig l) (hlm : l.length ≤ 9223372036854775807) (n : Int) (n0 : 0 ≤ n) (n1 : n ≤ 65535) (neg : Bool) (k : Int) (k0 : 0 ≤ k) (k1 : k ≤ 255) : Calls Try.prog 11 #[.slice A l.length c, .int .u16 n, .bool neg, .int .u8 k] w fun e w' => ∃ x : Int, InW x ∧ e = .returned (.agg (U (lim x))) ∧ Below w.heap.size w w' :=
  made_any hl hd hlm n (n % 1025).toNat n0 n1 (by omega) neg k k0 k1
set_option maxRecDepth 100000 in
set_option maxHeartbeats 8000000 in
/-- Is a whole number the reference's? Where it is. -/
theorem WideH_c {v : Value} {x : Int} {w : World} (hv : IsBig w v x) (hm : ab x < 2 ^ 1023) : Calls Try.prog 29 #[.agg (U (lim x)), v] w fun e w' => e = .returned (.bool true) ∧ Below w.heap.size w w' := by
  have TO := fun W (g : Below w.heap.size w W) => To_c (hv.below g) hm
  have la := lim_len x
  have EQ := fun W => eql_same W x
  obtain ⟨A, c, rfl, hc, hV⟩ := hv
  have k1 := (Blk.new w (U (lim x)) 27).alloc (.cells #[.bool (sg x), .slice A (mag x).length c] 30)
  have k2 : Blk ((w.alloc (.cells (U (lim x)) 27)).alloc (.cells #[.bool (sg x), .slice A (mag x).length c] 30)) (w.heap.size + 1) #[.bool (sg x), .slice A (mag x).length c] 30 := by
    have := Blk.new (w.alloc (.cells (U (lim x)) 27)) #[.bool (sg x), .slice A (mag x).length c] 30
    simpa using this
  have b0 : Below w.heap.size w ((w.alloc (.cells (U (lim x)) 27)).alloc (.cells #[.bool (sg x), .slice A (mag x).length c] 30)) := ((Below.refl _ _).alloc (Nat.le_refl _) _).alloc (by simp) _
  have TO := TO _ b0
  clear hV hc hm
  go_enter Try.func29, Try.ntmps29
  go_wp2_with (refine ldBig k2 rfl _ rfl rfl rfl ?_)
  refine TO.mono ?_; rintro e w1 ⟨rfl, g1⟩
  replace k1 := k1.keep g1
  have b1 := bb b0 g1
  clear k2 b0 g1 TO
  have kN := Blk.new w1 (U zeros) 27
  have kM := put_ (cs := U (lim x)) kN
  have kA : Blk ((w1.alloc (.cells (U zeros) 27)).setRow w1.heap.size (U (lim x))) w.heap.size (U (lim x)) 27 := far_ (k1.alloc _) (Nat.ne_of_lt k1.lt)
  have hb := below_row (b1.alloc b1.size (.cells (U zeros) 27)) b1.size (U (lim x))
  go_wp2_with (first | (refine stW kN zeros_len la _ _ rfl rfl rfl rfl ?_) | (refine ldW kM la _ rfl rfl rfl ?_) | (refine ldWg kM la _ rfl rfl (by kernel_rfl) ?_) | (refine ldWg kA la _ rfl rfl (by kernel_rfl) ?_))
  go_ret
  exact ⟨rfl, hb⟩
end Go.Proofs.Ytpdljoalfmgfiaa.YWide
namespace Go.Proofs.Ytpdljoalfmgfiaa.YWide
open Go.RowKit Go.Proofs.Ytpdljoalfmgfiaa.YInv Go.Proofs.Ytpdljoalfmgfiaa.YErr Go.Proofs.Ytpdljoalfmgfiaa.YRef Go.Proofs.Ytpdljoalfmgfiaa.YNum Go.Proofs.Ytpdljoalfmgfiaa.YBits Go.Proofs.Ytpdljoalfmgfiaa.XCarry Go.Proofs.Ytpdljoalfmgfiaa.QWd Go.Proofs.YtpdljoalfmgfiaaW.PrintWords Go.Proofs.YtpdljoalfmgfiaaW.PrintLast
open Go.Proofs.Ytpdljoalfmgfiaa.YBig (IsBig)
set_option linter.unusedVariables false
set_option linter.unusedSimpArgs false
set_option maxRecDepth 100000 in
set_option maxHeartbeats 32000000 in
theorem WideSmall_calls (v u : Int) (A2 : Option Addr) (c2 : Nat) (l2 : List Int) (n k : Int) (ng : Bool) (w : World) (wv : (Lit.int .i64 v).wf = true) (wu : (Lit.int .i64 u).wf = true) (y2 : l2.length ≤ c2) (z2 : c2 ≤ maxLen) (wl2 : ∀ n ∈ l2, (Lit.int .u64 n).wf = true) (hl2 : LiesK .u64 w A2 l2) (wn : (Lit.int .u16 n).wf = true) (wk : (Lit.int .u8 k).wf = true) : Calls Try.prog 5 #[.int .i64 v, .int .i64 u, .slice A2 l2.length c2, .int .u16 n, .int .u8 k, .bool ng] w fun e w' => e = .returned (.bool true) ∧ Below w.heap.size w w' := by
  have d2 := dig_wf wl2
  have m2 : l2.length ≤ 9223372036854775807 := by unfold maxLen at z2; omega
  obtain ⟨n0, n1⟩ := wf_u16' wn
  obtain ⟨k0, k1⟩ := wf_u8' wk
  obtain ⟨v0, v1⟩ := wf_i64' wv
  obtain ⟨u0, u1⟩ := wf_i64' wu
  have HM := fun (W : World) (h : LiesK .u64 W A2 l2) => made_all (c := c2) h d2 m2 n n0 n1 ng k k0 k1
  have bp := bd_prod v0 v1 u0 u1
  have bv := bd_64 v0 v1
  have iv := small ⟨v0, v1⟩
  have iu := small ⟨u0, u1⟩
  have ip : InW (v * u) := bp.inW (by decide)
  have lv := lim_len v
  have lp := lim_len (v * u)
  have KN := fun W => known_c W
  have OV := fun W => of_ W v ⟨v0, v1⟩
  have OU := fun W => of_ W u ⟨u0, u1⟩
  have MV := fun W => mul_w W iv iu ip rfl
  have IV := fun W => Int64_w iv W
  have ef : fit64 v = (v, true) := by unfold fit64; rw [if_pos ⟨v0, v1⟩]
  rw [ef] at IV
  have BV := fun W => Go.Proofs.Ytpdljoalfmgfiaa.YBig.Of_c v v0 v1 W
  have BU := fun W => Go.Proofs.Ytpdljoalfmgfiaa.YBig.Of_c u u0 u1 W
  have BM := fun W p q (hp : IsBig W p v) (hq : IsBig W q u) => Go.Proofs.Ytpdljoalfmgfiaa.YBig.Mul_c hp hq (small_i64 v0 v1) (small_i64 u0 u1)
  have WV := fun W p (hp : IsBig W p v) => WideH_c (w := W) hp (bv.ab (by decide))
  have WP := fun W p (hp : IsBig W p (v * u)) => WideH_c (w := W) hp (bp.ab (by decide))
  have b0 := Below.refl w.heap.size w
  clear ef iv iu ip bp bv wv wu wl2 wn wk d2 m2 n0 n1 k0 k1
  go_enter Try.func5, Try.ntmps5
  go_wp2_with fail
  refine (KN _).mono ?_; rintro e w1 ⟨rfl, g⟩
  have b1 := bb b0 g
  clear g b0
  go_wp2_with fail
  refine (OV _).mono ?_; rintro e w2 ⟨rfl, g⟩
  have b2 := bb b1 g
  clear g b1
  obtain ⟨t0, k3_0, b3, up⟩ := new1 b2 (lim v) _ _ rfl rfl
  have z3 := b2.size
  go_upto_region 4 with (first | (with_reducible refine ldW k3_0 lv _ (by with_unfolding_all rfl) (by with_unfolding_all rfl) (by with_unfolding_all rfl) ?_) | go_skip | (with_reducible refine ldWg k3_0 lv _ (by with_unfolding_all rfl) (by with_unfolding_all rfl) (by kernel_rfl) ?_) | (with_reducible refine stW t0 zeros_len lv _ _ (by with_unfolding_all rfl) (by with_unfolding_all rfl) (by with_unfolding_all rfl) (by with_unfolding_all rfl) ?_))
  clear up t0 b2
  generalize (w2.alloc (.cells #[.int .u64 0, .int .u64 0, .int .u64 0, .int .u64 0, .int .u64 0, .int .u64 0, .int .u64 0, .int .u64 0, .int .u64 0, .int .u64 0, .int .u64 0, .int .u64 0, .int .u64 0, .int .u64 0, .int .u64 0, .int .u64 0] 27)).setRow w2.heap.size (U (lim v)) = w3 at *
  go_wp2_with (first | (with_reducible refine ldW k3_0 lv _ (by with_unfolding_all rfl) (by with_unfolding_all rfl) (by with_unfolding_all rfl) ?_) | go_skip | (with_reducible refine ldWg k3_0 lv _ (by with_unfolding_all rfl) (by with_unfolding_all rfl) (by kernel_rfl) ?_))
  refine (IV _).mono ?_; rintro e w4 ⟨rfl, g⟩
  replace k3_0 := k3_0.keep g
  have b4 := bb b3 g
  clear g b3
  clear IV OV KN
  go_wp2_with fail
  have N_k3_0 := k3_0.lt
  refine region_vals (σ := Nat → Nat) [some 33, some 34, some 35, some 36, some 32, some 37, some 38, some 16, none, some 17] (VO [some (.agg (U (lim v))), some (.int .i64 (u)), some (.agg (U (lim u))), some (.tuple #[.agg (U (lim (v * u))), .bool true]), some (.tuple #[.agg (U (lim (v * u))), .bool true]), some (.agg (U (lim (v * u)))), some (.bool true), none, some (undef), some (.bool true)]) (fun L s wx => Blk wx w2.heap.size (U (lim v)) 27 ∧ (L 7 = true → w4.heap.size ≤ s 7 ∧ (L 8 = false → Blk wx (s 7) (U zeros) 27)) ∧ (L 8 = true → L 7 = true ∧ Blk wx (s 7) (U (lim (v * u))) 27) ∧ w4.heap.size ≤ wx.heap.size ∧ Below w.heap.size w wx) (fun _ => 0) [0, 1, 2, 3, 4, 5, 6, 7, 8, 9] _ _ rfl (by kernel_rfl) (by kernel_rfl) (by kernel_rfl) (by kernel_rfl) (by kernel_rfl) ⟨k3_0.drew, fun h => absurd h (by decide), fun h => absurd h (by decide), Nat.le_refl _, b4.drew⟩ ?steps5 ?fin5 (fun L L' s wx e h => by rw [e 7 (by decide), e 8 (by decide)] at h; exact h)
  case steps5 =>
    refine VSteps.cons rfl (fun x L s wx K kn hL hp hI hK => ?_) ?_
    · have e13 : x[13]? = some (.pointer (some ⟨w2.heap.size, 0, none⟩)) := (kn.old 13 (by kernel_rfl)).trans rfl
      refine want_ rfl ?_
      obtain ⟨Kk3_0, A7, S7, B2, BW⟩ := hI
      exact wp_load_row 27 _ rfl w2.heap.size (ev_ e13) 27 (U (lim v)) (0, 0) _ Kk3_0 Try.underlying27 rfl (ofLen lv) (hK.out s _ (fun _ _ => rfl) ⟨Kk3_0, A7, S7, B2, BW⟩)
    refine VSteps.cons rfl (fun x L s wx K kn hL hp hI hK => ?_) ?_
    · have e1 : x[1]? = some (.int .i64 (u)) := (kn.old 1 (by kernel_rfl)).trans rfl
      refine want_ rfl ?_
      exact val_ (v := .int .i64 (u)) (by simp [go_sem, execOp, evr_, e1]) (hK.out s _ (fun _ _ => rfl) hI)
    refine VSteps.cons rfl (fun x L s wx K kn hL hp hI hK => ?_) ?_
    · have e34 : x[34]? = some (.int .i64 (u)) := kn.got 1 34 (hp ⟨1, .data⟩ (by simp) rfl) rfl
      refine want_ rfl ?_
      refine goesK_ Try.func33 (by kernel_rfl) rfl #[.int .i64 (u)] rfl (by simp only [List.map_toArray, List.map_cons, List.map_nil, evr_, ev_ e34]) ((OU _).mono ?_)
      rintro e w' ⟨rfl, g⟩
      obtain ⟨Kk3_0, A7, S7, B2, BW⟩ := hI
      exact ⟨_, rfl, hK.out s _ (fun _ _ => rfl) ⟨(Blk.keep Kk3_0 g), fun h => ⟨(A7 h).1, fun k => (Blk.keep ((A7 h).2 k) g)⟩, fun h => ⟨(S7 h).1, (Blk.keep (S7 h).2 g)⟩, Nat.le_trans B2 g.size, bb BW g⟩⟩
    refine VSteps.cons rfl (fun x L s wx K kn hL hp hI hK => ?_) ?_
    · have e33 : x[33]? = some (.agg (U (lim v))) := kn.got 0 33 (hp ⟨0, .data⟩ (by simp) rfl) rfl
      have e35 : x[35]? = some (.agg (U (lim u))) := kn.got 2 35 (hp ⟨2, .data⟩ (by simp) rfl) rfl
      refine want_ rfl ?_
      refine goesK_ Try.func15 (by kernel_rfl) rfl #[.agg (U (lim v)), .agg (U (lim u))] rfl (by simp only [List.map_toArray, List.map_cons, List.map_nil, evr_, ev_ e33, ev_ e35]) ((MV _).mono ?_)
      rintro e w' ⟨rfl, g⟩
      obtain ⟨Kk3_0, A7, S7, B2, BW⟩ := hI
      exact ⟨_, rfl, hK.out s _ (fun _ _ => rfl) ⟨(Blk.keep Kk3_0 g), fun h => ⟨(A7 h).1, fun k => (Blk.keep ((A7 h).2 k) g)⟩, fun h => ⟨(S7 h).1, (Blk.keep (S7 h).2 g)⟩, Nat.le_trans B2 g.size, bb BW g⟩⟩
    refine VSteps.cons rfl (fun x L s wx K kn hL hp hI hK => ?_) ?_
    · have e36 : x[36]? = some (.tuple #[.agg (U (lim (v * u))), .bool true]) := kn.got 3 36 (hp ⟨3, .data⟩ (by simp) rfl) rfl
      refine want_ rfl ?_
      exact val_ (v := .tuple #[.agg (U (lim (v * u))), .bool true]) (by simp [go_sem, execOp, evr_, e36]) (hK.out s _ (fun _ _ => rfl) hI)
    refine VSteps.cons rfl (fun x L s wx K kn hL hp hI hK => ?_) ?_
    · have e32 : x[32]? = some (.tuple #[.agg (U (lim (v * u))), .bool true]) := kn.got 4 32 (hp ⟨4, .data⟩ (by simp) rfl) rfl
      refine want_ rfl ?_
      exact val_ (v := .agg (U (lim (v * u)))) (by simp [go_sem, execOp, evr_, e32]) (hK.out s _ (fun _ _ => rfl) hI)
    refine VSteps.cons rfl (fun x L s wx K kn hL hp hI hK => ?_) ?_
    · have e32 : x[32]? = some (.tuple #[.agg (U (lim (v * u))), .bool true]) := kn.got 4 32 (hp ⟨4, .data⟩ (by simp) rfl) rfl
      refine want_ rfl ?_
      exact val_ (v := .bool true) (by simp [go_sem, execOp, evr_, e32]) (hK.out s _ (fun _ _ => rfl) hI)
    refine VSteps.cons rfl (fun x L s wx K kn hL hp hI hK => ?_) ?_
    · refine want_ rfl ?_
      obtain ⟨Kk3_0, A7, S7, B2, BW⟩ := hI
      have hst : ¬ L 8 = true := fun h => absurd (S7 h).1 (by simp [hL])
      exact valw_ (v := .pointer (some ⟨wx.heap.size, 0, none⟩)) (w' := wx.alloc (.cells #[.int .u64 0, .int .u64 0, .int .u64 0, .int .u64 0, .int .u64 0, .int .u64 0, .int .u64 0, .int .u64 0, .int .u64 0, .int .u64 0, .int .u64 0, .int .u64 0, .int .u64 0, .int .u64 0, .int .u64 0, .int .u64 0] 27)) (by simp [go_sem, execOp, evr_]) (hK.out (upd s 7 wx.heap.size) _ (VO_upd _ _ _ hL) ⟨(Blk.alloc Kk3_0 _), fun _ => ⟨B2, fun _ => Blk.new _ _ _⟩, fun h => absurd h hst, Nat.le_trans B2 (by simp), bb BW ((Below.refl _ _).alloc (Nat.le_refl _) _)⟩)
    refine VSteps.cons rfl (fun x L s wx K kn hL hp hI hK => ?_) ?_
    · have e16 : x[16]? = some (.pointer (some ⟨s 7, 0, none⟩)) := kn.got 7 16 (hp ⟨7, .data⟩ (by simp) rfl) rfl
      have e37 : x[37]? = some (.agg (U (lim (v * u)))) := kn.got 5 37 (hp ⟨5, .data⟩ (by simp) rfl) rfl
      refine want_ rfl ?_
      obtain ⟨Kk3_0, A7, S7, B2, BW⟩ := hI
      obtain ⟨za, fa⟩ := A7 (hp ⟨7, .data⟩ (by simp) rfl)
      have NEk3_0 : w2.heap.size ≠ s 7 := by have := N_k3_0; omega
      have zW := Nat.le_trans b4.size za
      exact wp_store_row 27 _ _ rfl (s 7) (U (lim (v * u))) (ev_ e16) (ev_ e37) 27 (U zeros) (fa hL) (ofLen lp) (by rw [U_size, U_size, lp, zeros_len]) (one_cell _) (hK.out s _ (fun _ _ => rfl) ⟨(far_ Kk3_0 (NEk3_0)), fun _ => ⟨za, fun h => absurd h (by simp [YInv.up])⟩, fun _ => ⟨(hp ⟨7, .data⟩ (by simp) rfl), put_ (fa hL)⟩, (by simp; exact B2), below_row BW zW _⟩)
    refine VSteps.cons rfl (fun x L s wx K kn hL hp hI hK => ?_) ?_
    · have e38 : x[38]? = some (.bool true) := kn.got 6 38 (hp ⟨6, .data⟩ (by simp) rfl) rfl
      refine want_ rfl ?_
      exact val_ (v := .bool true) (by simp [go_sem, execOp, evr_, e38]) (hK.out s _ (fun _ _ => rfl) hI)
    exact VSteps.nil
  case fin5 =>
    intro s wx hI
    simp only [puts, VO, List.getD_cons_zero, List.getD_cons_succ, List.set_cons_zero, List.set_cons_succ]
    obtain ⟨Kk3_0, A7, S7, B2, BW⟩ := hI
    have KS7 := (S7 rfl).2
    have Z7 := (A7 rfl).1
    clear A7 S7
    have b50 := BW
    clear B2 BW b4 N_k3_0 OU MV
    clear k3_0
    generalize wx = w50 at *
    generalize s 7 = p50 at *
    have k50 := Kk3_0
    have k51 := KS7
    clear Kk3_0 KS7
    go_wp2_with (first | (with_reducible refine ldW k50 lv _ (by with_unfolding_all rfl) (by with_unfolding_all rfl) (by with_unfolding_all rfl) ?_) | (with_reducible refine ldW k51 lp _ (by with_unfolding_all rfl) (by with_unfolding_all rfl) (by with_unfolding_all rfl) ?_) | go_skip | (with_reducible refine ldWg k50 lv _ (by with_unfolding_all rfl) (by with_unfolding_all rfl) (by kernel_rfl) ?_) | (with_reducible refine ldWg k51 lp _ (by with_unfolding_all rfl) (by with_unfolding_all rfl) (by kernel_rfl) ?_))
    refine (HM _ (hl2.keep b50)).mono ?_; rintro e w51 ⟨b, ib, rfl, g⟩
    replace k50 := k50.keep g
    replace k51 := k51.keep g
    have b51 := bb b50 g
    clear g b50 HM
    have lb := lim_len b
    have IB := fun W => Int64_w ib W
    have FB := fun W => From_c ib W
    generalize hy : (fit64 b).1 = y at *
    generalize hs : (fit64 b).2 = so at *
    obtain ⟨t0, k52_0, b52, up⟩ := new1 b51 (lim b) _ _ rfl rfl
    replace k50 := up _ _ k50
    replace k51 := up _ _ k51
    have z52 := b51.size
    go_upto_region 7 with (first | (with_reducible refine ldW k50 lv _ (by with_unfolding_all rfl) (by with_unfolding_all rfl) (by with_unfolding_all rfl) ?_) | (with_reducible refine ldW k51 lp _ (by with_unfolding_all rfl) (by with_unfolding_all rfl) (by with_unfolding_all rfl) ?_) | (with_reducible refine ldW k52_0 lb _ (by with_unfolding_all rfl) (by with_unfolding_all rfl) (by with_unfolding_all rfl) ?_) | go_skip | (with_reducible refine ldWg k50 lv _ (by with_unfolding_all rfl) (by with_unfolding_all rfl) (by kernel_rfl) ?_) | (with_reducible refine ldWg k51 lp _ (by with_unfolding_all rfl) (by with_unfolding_all rfl) (by kernel_rfl) ?_) | (with_reducible refine ldWg k52_0 lb _ (by with_unfolding_all rfl) (by with_unfolding_all rfl) (by kernel_rfl) ?_) | (with_reducible refine stW t0 zeros_len lb _ _ (by with_unfolding_all rfl) (by with_unfolding_all rfl) (by with_unfolding_all rfl) (by with_unfolding_all rfl) ?_))
    clear up t0 b51
    generalize (w51.alloc (.cells #[.int .u64 0, .int .u64 0, .int .u64 0, .int .u64 0, .int .u64 0, .int .u64 0, .int .u64 0, .int .u64 0, .int .u64 0, .int .u64 0, .int .u64 0, .int .u64 0, .int .u64 0, .int .u64 0, .int .u64 0, .int .u64 0] 27)).setRow w51.heap.size (U (lim b)) = w52 at *
    go_wp2_with (first | (with_reducible refine ldW k50 lv _ (by with_unfolding_all rfl) (by with_unfolding_all rfl) (by with_unfolding_all rfl) ?_) | (with_reducible refine ldW k51 lp _ (by with_unfolding_all rfl) (by with_unfolding_all rfl) (by with_unfolding_all rfl) ?_) | (with_reducible refine ldW k52_0 lb _ (by with_unfolding_all rfl) (by with_unfolding_all rfl) (by with_unfolding_all rfl) ?_) | go_skip | (with_reducible refine ldWg k50 lv _ (by with_unfolding_all rfl) (by with_unfolding_all rfl) (by kernel_rfl) ?_) | (with_reducible refine ldWg k51 lp _ (by with_unfolding_all rfl) (by with_unfolding_all rfl) (by kernel_rfl) ?_) | (with_reducible refine ldWg k52_0 lb _ (by with_unfolding_all rfl) (by with_unfolding_all rfl) (by kernel_rfl) ?_))
    refine (IB _).mono ?_; rintro e w53 ⟨rfl, g⟩
    replace k50 := k50.keep g
    replace k51 := k51.keep g
    replace k52_0 := k52_0.keep g
    have b53 := bb b52 g
    clear g b52
    clear IB
    go_wp2_with (first | (with_reducible refine ldW k50 lv _ (by with_unfolding_all rfl) (by with_unfolding_all rfl) (by with_unfolding_all rfl) ?_) | (with_reducible refine ldW k51 lp _ (by with_unfolding_all rfl) (by with_unfolding_all rfl) (by with_unfolding_all rfl) ?_) | (with_reducible refine ldW k52_0 lb _ (by with_unfolding_all rfl) (by with_unfolding_all rfl) (by with_unfolding_all rfl) ?_) | go_skip | (with_reducible refine ldWg k50 lv _ (by with_unfolding_all rfl) (by with_unfolding_all rfl) (by kernel_rfl) ?_) | (with_reducible refine ldWg k51 lp _ (by with_unfolding_all rfl) (by with_unfolding_all rfl) (by kernel_rfl) ?_) | (with_reducible refine ldWg k52_0 lb _ (by with_unfolding_all rfl) (by with_unfolding_all rfl) (by kernel_rfl) ?_))
    refine (FB _).mono ?_; rintro e w54 ⟨r, rfl, ir, g⟩
    replace k50 := k50.keep g
    replace k51 := k51.keep g
    replace k52_0 := k52_0.keep g
    have b54 := bb b53 g
    clear g b53 FB
    have JB := fun W (h : IsBig W r b) => Go.Proofs.Ytpdljoalfmgfiaa.YBig.Int64_c h
    rw [hy, hs] at JB
    go_wp2_with (first | (with_reducible refine ldW k50 lv _ (by with_unfolding_all rfl) (by with_unfolding_all rfl) (by with_unfolding_all rfl) ?_) | (with_reducible refine ldW k51 lp _ (by with_unfolding_all rfl) (by with_unfolding_all rfl) (by with_unfolding_all rfl) ?_) | (with_reducible refine ldW k52_0 lb _ (by with_unfolding_all rfl) (by with_unfolding_all rfl) (by with_unfolding_all rfl) ?_) | go_skip | (with_reducible refine ldWg k50 lv _ (by with_unfolding_all rfl) (by with_unfolding_all rfl) (by kernel_rfl) ?_) | (with_reducible refine ldWg k51 lp _ (by with_unfolding_all rfl) (by with_unfolding_all rfl) (by kernel_rfl) ?_) | (with_reducible refine ldWg k52_0 lb _ (by with_unfolding_all rfl) (by with_unfolding_all rfl) (by kernel_rfl) ?_))
    refine (JB _ ir).mono ?_; rintro e w55 ⟨rfl, g⟩
    replace k50 := k50.keep g
    replace k51 := k51.keep g
    replace k52_0 := k52_0.keep g
    have b55 := bb b54 g
    clear g b54 JB ir hy hs
    go_wp2_with fail
    refine region_vals (σ := Nat → Value) [some 55, some 56, some 57, some 58, some 59, some 60, some 61, some 62, some 63, some 64, some 65, some 66, some 67, some 68, some 69, some 70, some 71, some 72, some 73, some 74, some 75, some 76, some 77, some 78, some 79, some 80, some 81, some 82, some 83, some 84, some 85, some 86, some 87, some 88, some 12] (VB [some (.bool true), some (.bool true), some (.int .i64 (v)), some (.int .i64 (v)), some (.bool true), some (.bool true), some (.bool true), some (.agg (U (lim v))), some (.int .i64 (v)), none, some (.bool true), some (.bool true), some (.bool true), some (.bool true), some (.bool true), some (.bool true), some (.agg (U (lim (v * u)))), some (.int .i64 (v)), none, some (.int .i64 (u)), none, none, some (.bool true), some (.bool true), some (.bool true), some (.int .i64 (y)), some (.int .i64 (y)), some (.bool true), some (.bool true), some (.bool true), some (.bool so), some (.bool so), some (.bool true), some (.bool true), some (.bool true)]) (fun L s wx => Blk wx w2.heap.size (U (lim v)) 27 ∧ Blk wx p50 (U (lim (v * u))) 27 ∧ Blk wx w51.heap.size (U (lim b)) 27 ∧ (L 9 = true → IsBig wx (s 9) (v)) ∧ (L 18 = true → IsBig wx (s 18) (v)) ∧ (L 20 = true → IsBig wx (s 20) (u)) ∧ (L 21 = true → IsBig wx (s 21) (v * u)) ∧ Below w.heap.size w wx) (fun _ => undef) [0, 1, 2, 3, 4, 5, 6, 7, 8, 9, 10, 11, 12, 13, 14, 15, 16, 17, 18, 19, 20, 21, 22, 23, 24, 25, 26, 27, 28, 29, 30, 31, 32, 33, 34] _ _ rfl (by kernel_rfl) (by kernel_rfl) (by kernel_rfl) (by kernel_rfl) (by kernel_rfl) ⟨k50.drew, k51.drew, k52_0.drew, fun h => absurd h (by decide), fun h => absurd h (by decide), fun h => absurd h (by decide), fun h => absurd h (by decide), b55.drew⟩ ?steps9 ?fin9 (fun L L' s wx e h => by rw [e 9 (by decide), e 18 (by decide), e 20 (by decide), e 21 (by decide)] at h; exact h)
    case steps9 =>
      refine VSteps.cons rfl (fun x L s wx K kn hL hp hI hK => ?_) ?_
      · have e15 : x[15]? = some (.bool true) := (kn.old 15 (by kernel_rfl)).trans rfl
        refine want_ rfl ?_
        exact val_ (v := .bool true) (by simp [go_sem, execOp, evr_, e15]) (hK.out s _ (fun _ _ => rfl) hI)
      refine VSteps.cons rfl (fun x L s wx K kn hL hp hI hK => ?_) ?_
      · have e55 : x[55]? = some (.bool true) := kn.got 0 55 (hp ⟨0, .data⟩ (by simp) rfl) rfl
        refine want_ rfl ?_
        exact val_ (v := .bool true) (by simp [go_sem, execOp, evr_, e55]) (hK.out s _ (fun _ _ => rfl) hI)
      refine VSteps.cons rfl (fun x L s wx K kn hL hp hI hK => ?_) ?_
      · have e14 : x[14]? = some (.int .i64 (v)) := (kn.old 14 (by kernel_rfl)).trans rfl
        refine want_ ((guard_ rfl rfl true (show x[56]? = some (.bool true) from kn.got 1 56 (hp ⟨1, .guard⟩ (by simp) rfl) rfl)).trans rfl) ?_
        exact val_ (v := .int .i64 (v)) (by simp [go_sem, execOp, evr_, e14]) (hK.out s _ (fun _ _ => rfl) hI)
      refine VSteps.cons rfl (fun x L s wx K kn hL hp hI hK => ?_) ?_
      · have e0 : x[0]? = some (.int .i64 (v)) := (kn.old 0 (by kernel_rfl)).trans rfl
        refine want_ ((guard_ rfl rfl true (show x[56]? = some (.bool true) from kn.got 1 56 (hp ⟨1, .guard⟩ (by simp) rfl) rfl)).trans rfl) ?_
        exact val_ (v := .int .i64 (v)) (by simp [go_sem, execOp, evr_, e0]) (hK.out s _ (fun _ _ => rfl) hI)
      refine VSteps.cons rfl (fun x L s wx K kn hL hp hI hK => ?_) ?_
      · have e57 : x[57]? = some (.int .i64 (v)) := kn.got 2 57 (hp ⟨2, .data⟩ (by simp) rfl) rfl
        have e58 : x[58]? = some (.int .i64 (v)) := kn.got 3 58 (hp ⟨3, .data⟩ (by simp) rfl) rfl
        refine want_ ((guard_ rfl rfl true (show x[56]? = some (.bool true) from kn.got 1 56 (hp ⟨1, .guard⟩ (by simp) rfl) rfl)).trans rfl) ?_
        exact val_ (v := .bool true) (by simp [go_sem, execOp, evr_, e57, e58]) (hK.out s _ (fun _ _ => rfl) hI)
      refine VSteps.cons rfl (fun x L s wx K kn hL hp hI hK => ?_) ?_
      · have e56 : x[56]? = some (.bool true) := kn.got 1 56 (hp ⟨1, .data⟩ (by simp) rfl) rfl
        have e59 : x[59]? = some (.bool true) := kn.got 4 59 (hp ⟨4, .data⟩ (by simp) rfl) rfl
        refine want_ rfl ?_
        exact val_ (v := .bool true) (by simp [go_sem, execOp, evr_, e56, e59]) (hK.out s _ (fun _ _ => rfl) hI)
      refine VSteps.cons rfl (fun x L s wx K kn hL hp hI hK => ?_) ?_
      · have e60 : x[60]? = some (.bool true) := kn.got 5 60 (hp ⟨5, .data⟩ (by simp) rfl) rfl
        refine want_ rfl ?_
        exact val_ (v := .bool true) (by simp [go_sem, execOp, evr_, e60]) (hK.out s _ (fun _ _ => rfl) hI)
      refine VSteps.cons rfl (fun x L s wx K kn hL hp hI hK => ?_) ?_
      · have e13 : x[13]? = some (.pointer (some ⟨w2.heap.size, 0, none⟩)) := (kn.old 13 (by kernel_rfl)).trans rfl
        refine want_ ((guard_ rfl rfl true (show x[61]? = some (.bool true) from kn.got 6 61 (hp ⟨6, .guard⟩ (by simp) rfl) rfl)).trans rfl) ?_
        obtain ⟨K0, K1, K2, B9, B18, B20, B21, BW⟩ := hI
        exact wp_load_row 27 _ rfl w2.heap.size (ev_ e13) 27 (U (lim v)) (0, 0) _ K0 Try.underlying27 rfl (ofLen lv) (hK.out s _ (fun _ _ => rfl) ⟨K0, K1, K2, B9, B18, B20, B21, BW⟩)
      refine VSteps.cons rfl (fun x L s wx K kn hL hp hI hK => ?_) ?_
      · have e0 : x[0]? = some (.int .i64 (v)) := (kn.old 0 (by kernel_rfl)).trans rfl
        refine want_ ((guard_ rfl rfl true (show x[61]? = some (.bool true) from kn.got 6 61 (hp ⟨6, .guard⟩ (by simp) rfl) rfl)).trans rfl) ?_
        exact val_ (v := .int .i64 (v)) (by simp [go_sem, execOp, evr_, e0]) (hK.out s _ (fun _ _ => rfl) hI)
      refine VSteps.cons rfl (fun x L s wx K kn hL hp hI hK => ?_) ?_
      · have e63 : x[63]? = some (.int .i64 (v)) := kn.got 8 63 (hp ⟨8, .data⟩ (by simp) rfl) rfl
        refine want_ ((guard_ rfl rfl true (show x[61]? = some (.bool true) from kn.got 6 61 (hp ⟨6, .chain⟩ (by simp) rfl) rfl)).trans rfl) ?_
        obtain ⟨K0, K1, K2, B9, B18, B20, B21, BW⟩ := hI
        refine goesK_ Try.func30 (by kernel_rfl) rfl #[.int .i64 (v)] rfl (by simp only [List.map_toArray, List.map_cons, List.map_nil, evr_, ev_ e63]) ((BV _).mono ?_)
        rintro e w' ⟨v, rfl, hv, g⟩
        exact ⟨_, rfl, hK.out (updV s 9 v) _ (VB_upd _ _ _ hL) ⟨K0.keep g, K1.keep g, K2.keep g, fun _ => (by show IsBig w' (updV s 9 v 9) _; rw [updV_self]; exact hv), fun h => (by have h' := (show L 18 = true from h); show IsBig w' (updV s 9 v 18) _; rw [updV_ne _ _ (by decide)]; exact (B18 h').below g), fun h => (by have h' := (show L 20 = true from h); show IsBig w' (updV s 9 v 20) _; rw [updV_ne _ _ (by decide)]; exact (B20 h').below g), fun h => (by have h' := (show L 21 = true from h); show IsBig w' (updV s 9 v 21) _; rw [updV_ne _ _ (by decide)]; exact (B21 h').below g), bb BW g⟩⟩
      refine VSteps.cons rfl (fun x L s wx K kn hL hp hI hK => ?_) ?_
      · have e62 : x[62]? = some (.agg (U (lim v))) := kn.got 7 62 (hp ⟨7, .data⟩ (by simp) rfl) rfl
        have e64 : x[64]? = some (s 9) := kn.got 9 64 (hp ⟨9, .data⟩ (by simp) rfl) rfl
        refine want_ ((guard_ rfl rfl true (show x[61]? = some (.bool true) from kn.got 6 61 (hp ⟨6, .guard⟩ (by simp) rfl) rfl)).trans rfl) ?_
        obtain ⟨K0, K1, K2, B9, B18, B20, B21, BW⟩ := hI
        refine goesK_ Try.func29 (by kernel_rfl) rfl #[.agg (U (lim v)), s 9] rfl (by simp only [List.map_toArray, List.map_cons, List.map_nil, evr_, ev_ e62, ev_ e64]) ((WV _ _ (B9 (hp ⟨9, .data⟩ (by simp) rfl))).mono ?_)
        rintro e w' ⟨rfl, g⟩
        exact ⟨_, rfl, hK.out s _ (fun _ _ => rfl) ⟨K0.keep g, K1.keep g, K2.keep g, fun h => (B9 h).below g, fun h => (B18 h).below g, fun h => (B20 h).below g, fun h => (B21 h).below g, bb BW g⟩⟩
      refine VSteps.cons rfl (fun x L s wx K kn hL hp hI hK => ?_) ?_
      · have e61 : x[61]? = some (.bool true) := kn.got 6 61 (hp ⟨6, .data⟩ (by simp) rfl) rfl
        have e65 : x[65]? = some (.bool true) := kn.got 10 65 (hp ⟨10, .data⟩ (by simp) rfl) rfl
        refine want_ rfl ?_
        exact val_ (v := .bool true) (by simp [go_sem, execOp, evr_, e61, e65]) (hK.out s _ (fun _ _ => rfl) hI)
      refine VSteps.cons rfl (fun x L s wx K kn hL hp hI hK => ?_) ?_
      · have e66 : x[66]? = some (.bool true) := kn.got 11 66 (hp ⟨11, .data⟩ (by simp) rfl) rfl
        refine want_ rfl ?_
        exact val_ (v := .bool true) (by simp [go_sem, execOp, evr_, e66]) (hK.out s _ (fun _ _ => rfl) hI)
      refine VSteps.cons rfl (fun x L s wx K kn hL hp hI hK => ?_) ?_
      · have e17 : x[17]? = some (.bool true) := (kn.old 17 (by kernel_rfl)).trans rfl
        refine want_ ((guard_ rfl rfl true (show x[67]? = some (.bool true) from kn.got 12 67 (hp ⟨12, .guard⟩ (by simp) rfl) rfl)).trans rfl) ?_
        exact val_ (v := .bool true) (by simp [go_sem, execOp, evr_, e17]) (hK.out s _ (fun _ _ => rfl) hI)
      refine VSteps.cons rfl (fun x L s wx K kn hL hp hI hK => ?_) ?_
      · have e67 : x[67]? = some (.bool true) := kn.got 12 67 (hp ⟨12, .data⟩ (by simp) rfl) rfl
        have e68 : x[68]? = some (.bool true) := kn.got 13 68 (hp ⟨13, .data⟩ (by simp) rfl) rfl
        refine want_ rfl ?_
        exact val_ (v := .bool true) (by simp [go_sem, execOp, evr_, e67, e68]) (hK.out s _ (fun _ _ => rfl) hI)
      refine VSteps.cons rfl (fun x L s wx K kn hL hp hI hK => ?_) ?_
      · have e69 : x[69]? = some (.bool true) := kn.got 14 69 (hp ⟨14, .data⟩ (by simp) rfl) rfl
        refine want_ rfl ?_
        exact val_ (v := .bool true) (by simp [go_sem, execOp, evr_, e69]) (hK.out s _ (fun _ _ => rfl) hI)
      refine VSteps.cons rfl (fun x L s wx K kn hL hp hI hK => ?_) ?_
      · have e16 : x[16]? = some (.pointer (some ⟨p50, 0, none⟩)) := (kn.old 16 (by kernel_rfl)).trans rfl
        refine want_ ((guard_ rfl rfl true (show x[70]? = some (.bool true) from kn.got 15 70 (hp ⟨15, .guard⟩ (by simp) rfl) rfl)).trans rfl) ?_
        obtain ⟨K0, K1, K2, B9, B18, B20, B21, BW⟩ := hI
        exact wp_load_row 27 _ rfl p50 (ev_ e16) 27 (U (lim (v * u))) (0, 0) _ K1 Try.underlying27 rfl (ofLen lp) (hK.out s _ (fun _ _ => rfl) ⟨K0, K1, K2, B9, B18, B20, B21, BW⟩)
      refine VSteps.cons rfl (fun x L s wx K kn hL hp hI hK => ?_) ?_
      · have e0 : x[0]? = some (.int .i64 (v)) := (kn.old 0 (by kernel_rfl)).trans rfl
        refine want_ ((guard_ rfl rfl true (show x[70]? = some (.bool true) from kn.got 15 70 (hp ⟨15, .guard⟩ (by simp) rfl) rfl)).trans rfl) ?_
        exact val_ (v := .int .i64 (v)) (by simp [go_sem, execOp, evr_, e0]) (hK.out s _ (fun _ _ => rfl) hI)
      refine VSteps.cons rfl (fun x L s wx K kn hL hp hI hK => ?_) ?_
      · have e72 : x[72]? = some (.int .i64 (v)) := kn.got 17 72 (hp ⟨17, .data⟩ (by simp) rfl) rfl
        refine want_ ((guard_ rfl rfl true (show x[70]? = some (.bool true) from kn.got 15 70 (hp ⟨15, .chain⟩ (by simp) rfl) rfl)).trans rfl) ?_
        obtain ⟨K0, K1, K2, B9, B18, B20, B21, BW⟩ := hI
        refine goesK_ Try.func30 (by kernel_rfl) rfl #[.int .i64 (v)] rfl (by simp only [List.map_toArray, List.map_cons, List.map_nil, evr_, ev_ e72]) ((BV _).mono ?_)
        rintro e w' ⟨v, rfl, hv, g⟩
        exact ⟨_, rfl, hK.out (updV s 18 v) _ (VB_upd _ _ _ hL) ⟨K0.keep g, K1.keep g, K2.keep g, fun h => (by have h' := (show L 9 = true from h); show IsBig w' (updV s 18 v 9) _; rw [updV_ne _ _ (by decide)]; exact (B9 h').below g), fun _ => (by show IsBig w' (updV s 18 v 18) _; rw [updV_self]; exact hv), fun h => (by have h' := (show L 20 = true from h); show IsBig w' (updV s 18 v 20) _; rw [updV_ne _ _ (by decide)]; exact (B20 h').below g), fun h => (by have h' := (show L 21 = true from h); show IsBig w' (updV s 18 v 21) _; rw [updV_ne _ _ (by decide)]; exact (B21 h').below g), bb BW g⟩⟩
      refine VSteps.cons rfl (fun x L s wx K kn hL hp hI hK => ?_) ?_
      · have e1 : x[1]? = some (.int .i64 (u)) := (kn.old 1 (by kernel_rfl)).trans rfl
        refine want_ ((guard_ rfl rfl true (show x[70]? = some (.bool true) from kn.got 15 70 (hp ⟨15, .guard⟩ (by simp) rfl) rfl)).trans rfl) ?_
        exact val_ (v := .int .i64 (u)) (by simp [go_sem, execOp, evr_, e1]) (hK.out s _ (fun _ _ => rfl) hI)
      refine VSteps.cons rfl (fun x L s wx K kn hL hp hI hK => ?_) ?_
      · have e74 : x[74]? = some (.int .i64 (u)) := kn.got 19 74 (hp ⟨19, .data⟩ (by simp) rfl) rfl
        refine want_ ((guard_ rfl rfl true (show x[70]? = some (.bool true) from kn.got 15 70 (hp ⟨15, .guard⟩ (by simp) rfl) rfl)).trans rfl) ?_
        obtain ⟨K0, K1, K2, B9, B18, B20, B21, BW⟩ := hI
        refine goesK_ Try.func30 (by kernel_rfl) rfl #[.int .i64 (u)] rfl (by simp only [List.map_toArray, List.map_cons, List.map_nil, evr_, ev_ e74]) ((BU _).mono ?_)
        rintro e w' ⟨v, rfl, hv, g⟩
        exact ⟨_, rfl, hK.out (updV s 20 v) _ (VB_upd _ _ _ hL) ⟨K0.keep g, K1.keep g, K2.keep g, fun h => (by have h' := (show L 9 = true from h); show IsBig w' (updV s 20 v 9) _; rw [updV_ne _ _ (by decide)]; exact (B9 h').below g), fun h => (by have h' := (show L 18 = true from h); show IsBig w' (updV s 20 v 18) _; rw [updV_ne _ _ (by decide)]; exact (B18 h').below g), fun _ => (by show IsBig w' (updV s 20 v 20) _; rw [updV_self]; exact hv), fun h => (by have h' := (show L 21 = true from h); show IsBig w' (updV s 20 v 21) _; rw [updV_ne _ _ (by decide)]; exact (B21 h').below g), bb BW g⟩⟩
      refine VSteps.cons rfl (fun x L s wx K kn hL hp hI hK => ?_) ?_
      · have e73 : x[73]? = some (s 18) := kn.got 18 73 (hp ⟨18, .data⟩ (by simp) rfl) rfl
        have e75 : x[75]? = some (s 20) := kn.got 20 75 (hp ⟨20, .data⟩ (by simp) rfl) rfl
        refine want_ ((guard_ rfl rfl true (show x[70]? = some (.bool true) from kn.got 15 70 (hp ⟨15, .guard⟩ (by simp) rfl) rfl)).trans rfl) ?_
        obtain ⟨K0, K1, K2, B9, B18, B20, B21, BW⟩ := hI
        refine goesK_ Try.func19 (by kernel_rfl) rfl #[s 18, s 20] rfl (by simp only [List.map_toArray, List.map_cons, List.map_nil, evr_, ev_ e73, ev_ e75]) ((BM _ _ _ (B18 (hp ⟨18, .data⟩ (by simp) rfl)) (B20 (hp ⟨20, .data⟩ (by simp) rfl))).mono ?_)
        rintro e w' ⟨v, rfl, hv, g⟩
        exact ⟨_, rfl, hK.out (updV s 21 v) _ (VB_upd _ _ _ hL) ⟨K0.keep g, K1.keep g, K2.keep g, fun h => (by have h' := (show L 9 = true from h); show IsBig w' (updV s 21 v 9) _; rw [updV_ne _ _ (by decide)]; exact (B9 h').below g), fun h => (by have h' := (show L 18 = true from h); show IsBig w' (updV s 21 v 18) _; rw [updV_ne _ _ (by decide)]; exact (B18 h').below g), fun h => (by have h' := (show L 20 = true from h); show IsBig w' (updV s 21 v 20) _; rw [updV_ne _ _ (by decide)]; exact (B20 h').below g), fun _ => (by show IsBig w' (updV s 21 v 21) _; rw [updV_self]; exact hv), bb BW g⟩⟩
      refine VSteps.cons rfl (fun x L s wx K kn hL hp hI hK => ?_) ?_
      · have e71 : x[71]? = some (.agg (U (lim (v * u)))) := kn.got 16 71 (hp ⟨16, .data⟩ (by simp) rfl) rfl
        have e76 : x[76]? = some (s 21) := kn.got 21 76 (hp ⟨21, .data⟩ (by simp) rfl) rfl
        refine want_ ((guard_ rfl rfl true (show x[70]? = some (.bool true) from kn.got 15 70 (hp ⟨15, .guard⟩ (by simp) rfl) rfl)).trans rfl) ?_
        obtain ⟨K0, K1, K2, B9, B18, B20, B21, BW⟩ := hI
        refine goesK_ Try.func29 (by kernel_rfl) rfl #[.agg (U (lim (v * u))), s 21] rfl (by simp only [List.map_toArray, List.map_cons, List.map_nil, evr_, ev_ e71, ev_ e76]) ((WP _ _ (B21 (hp ⟨21, .data⟩ (by simp) rfl))).mono ?_)
        rintro e w' ⟨rfl, g⟩
        exact ⟨_, rfl, hK.out s _ (fun _ _ => rfl) ⟨K0.keep g, K1.keep g, K2.keep g, fun h => (B9 h).below g, fun h => (B18 h).below g, fun h => (B20 h).below g, fun h => (B21 h).below g, bb BW g⟩⟩
      refine VSteps.cons rfl (fun x L s wx K kn hL hp hI hK => ?_) ?_
      · have e70 : x[70]? = some (.bool true) := kn.got 15 70 (hp ⟨15, .data⟩ (by simp) rfl) rfl
        have e77 : x[77]? = some (.bool true) := kn.got 22 77 (hp ⟨22, .data⟩ (by simp) rfl) rfl
        refine want_ rfl ?_
        exact val_ (v := .bool true) (by simp [go_sem, execOp, evr_, e70, e77]) (hK.out s _ (fun _ _ => rfl) hI)
      refine VSteps.cons rfl (fun x L s wx K kn hL hp hI hK => ?_) ?_
      · have e78 : x[78]? = some (.bool true) := kn.got 23 78 (hp ⟨23, .data⟩ (by simp) rfl) rfl
        refine want_ rfl ?_
        exact val_ (v := .bool true) (by simp [go_sem, execOp, evr_, e78]) (hK.out s _ (fun _ _ => rfl) hI)
      refine VSteps.cons rfl (fun x L s wx K kn hL hp hI hK => ?_) ?_
      · have e19 : x[19]? = some (.int .i64 (y)) := (kn.old 19 (by kernel_rfl)).trans rfl
        refine want_ ((guard_ rfl rfl true (show x[79]? = some (.bool true) from kn.got 24 79 (hp ⟨24, .guard⟩ (by simp) rfl) rfl)).trans rfl) ?_
        exact val_ (v := .int .i64 (y)) (by simp [go_sem, execOp, evr_, e19]) (hK.out s _ (fun _ _ => rfl) hI)
      refine VSteps.cons rfl (fun x L s wx K kn hL hp hI hK => ?_) ?_
      · have e21 : x[21]? = some (.int .i64 (y)) := (kn.old 21 (by kernel_rfl)).trans rfl
        refine want_ ((guard_ rfl rfl true (show x[79]? = some (.bool true) from kn.got 24 79 (hp ⟨24, .guard⟩ (by simp) rfl) rfl)).trans rfl) ?_
        exact val_ (v := .int .i64 (y)) (by simp [go_sem, execOp, evr_, e21]) (hK.out s _ (fun _ _ => rfl) hI)
      refine VSteps.cons rfl (fun x L s wx K kn hL hp hI hK => ?_) ?_
      · have e80 : x[80]? = some (.int .i64 (y)) := kn.got 25 80 (hp ⟨25, .data⟩ (by simp) rfl) rfl
        have e81 : x[81]? = some (.int .i64 (y)) := kn.got 26 81 (hp ⟨26, .data⟩ (by simp) rfl) rfl
        refine want_ ((guard_ rfl rfl true (show x[79]? = some (.bool true) from kn.got 24 79 (hp ⟨24, .guard⟩ (by simp) rfl) rfl)).trans rfl) ?_
        exact val_ (v := .bool true) (by simp [go_sem, execOp, evr_, e80, e81]) (hK.out s _ (fun _ _ => rfl) hI)
      refine VSteps.cons rfl (fun x L s wx K kn hL hp hI hK => ?_) ?_
      · have e79 : x[79]? = some (.bool true) := kn.got 24 79 (hp ⟨24, .data⟩ (by simp) rfl) rfl
        have e82 : x[82]? = some (.bool true) := kn.got 27 82 (hp ⟨27, .data⟩ (by simp) rfl) rfl
        refine want_ rfl ?_
        exact val_ (v := .bool true) (by simp [go_sem, execOp, evr_, e79, e82]) (hK.out s _ (fun _ _ => rfl) hI)
      refine VSteps.cons rfl (fun x L s wx K kn hL hp hI hK => ?_) ?_
      · have e83 : x[83]? = some (.bool true) := kn.got 28 83 (hp ⟨28, .data⟩ (by simp) rfl) rfl
        refine want_ rfl ?_
        exact val_ (v := .bool true) (by simp [go_sem, execOp, evr_, e83]) (hK.out s _ (fun _ _ => rfl) hI)
      refine VSteps.cons rfl (fun x L s wx K kn hL hp hI hK => ?_) ?_
      · have e20 : x[20]? = some (.bool so) := (kn.old 20 (by kernel_rfl)).trans rfl
        refine want_ ((guard_ rfl rfl true (show x[84]? = some (.bool true) from kn.got 29 84 (hp ⟨29, .guard⟩ (by simp) rfl) rfl)).trans rfl) ?_
        exact val_ (v := .bool so) (by simp [go_sem, execOp, evr_, e20]) (hK.out s _ (fun _ _ => rfl) hI)
      refine VSteps.cons rfl (fun x L s wx K kn hL hp hI hK => ?_) ?_
      · have e22 : x[22]? = some (.bool so) := (kn.old 22 (by kernel_rfl)).trans rfl
        refine want_ ((guard_ rfl rfl true (show x[84]? = some (.bool true) from kn.got 29 84 (hp ⟨29, .guard⟩ (by simp) rfl) rfl)).trans rfl) ?_
        exact val_ (v := .bool so) (by simp [go_sem, execOp, evr_, e22]) (hK.out s _ (fun _ _ => rfl) hI)
      refine VSteps.cons rfl (fun x L s wx K kn hL hp hI hK => ?_) ?_
      · have e85 : x[85]? = some (.bool so) := kn.got 30 85 (hp ⟨30, .data⟩ (by simp) rfl) rfl
        have e86 : x[86]? = some (.bool so) := kn.got 31 86 (hp ⟨31, .data⟩ (by simp) rfl) rfl
        refine want_ ((guard_ rfl rfl true (show x[84]? = some (.bool true) from kn.got 29 84 (hp ⟨29, .guard⟩ (by simp) rfl) rfl)).trans rfl) ?_
        exact val_ (v := .bool true) (by simp [go_sem, execOp, evr_, e85, e86]) (hK.out s _ (fun _ _ => rfl) hI)
      refine VSteps.cons rfl (fun x L s wx K kn hL hp hI hK => ?_) ?_
      · have e84 : x[84]? = some (.bool true) := kn.got 29 84 (hp ⟨29, .data⟩ (by simp) rfl) rfl
        have e87 : x[87]? = some (.bool true) := kn.got 32 87 (hp ⟨32, .data⟩ (by simp) rfl) rfl
        refine want_ rfl ?_
        exact val_ (v := .bool true) (by simp [go_sem, execOp, evr_, e84, e87]) (hK.out s _ (fun _ _ => rfl) hI)
      refine VSteps.cons rfl (fun x L s wx K kn hL hp hI hK => ?_) ?_
      · have e88 : x[88]? = some (.bool true) := kn.got 33 88 (hp ⟨33, .data⟩ (by simp) rfl) rfl
        refine want_ rfl ?_
        exact val_ (v := .bool true) (by simp [go_sem, execOp, evr_, e88]) (hK.out s _ (fun _ _ => rfl) hI)
      exact VSteps.nil
    case fin9 =>
      intro s wx hI
      simp only [puts, VB, List.getD_cons_zero, List.getD_cons_succ, List.set_cons_zero, List.set_cons_succ]
      obtain ⟨K0, K1, K2, B9, B18, B20, B21, BW⟩ := hI
      go_wp2_with fail
      go_ret
      exact ⟨rfl, BW⟩
end Go.Proofs.Ytpdljoalfmgfiaa.YWide
