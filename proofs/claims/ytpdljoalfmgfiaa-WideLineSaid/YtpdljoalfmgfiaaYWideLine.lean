/- The walk of the law WideLine. No condition. -/
import Derived.Test.YtpdljoalfmgfiaaYWideLawh
namespace Go.Proofs.Ytpdljoalfmgfiaa.YWide
open Go.RowKit Go.Proofs.Ytpdljoalfmgfiaa.YInv Go.Proofs.Ytpdljoalfmgfiaa.YErr Go.Proofs.Ytpdljoalfmgfiaa.YRef Go.Proofs.Ytpdljoalfmgfiaa.YNum Go.Proofs.Ytpdljoalfmgfiaa.YBits Go.Proofs.Ytpdljoalfmgfiaa.XCarry Go.Proofs.Ytpdljoalfmgfiaa.QWd Go.Proofs.YtpdljoalfmgfiaaW.PrintWords Go.Proofs.YtpdljoalfmgfiaaW.PrintLast
set_option linter.unusedVariables false
set_option linter.unusedSimpArgs false
set_option maxRecDepth 100000 in
set_option maxHeartbeats 32000000 in
theorem WideLine_calls (A0 : Option Addr) (c0 : Nat) (l0 : List Int) (A1 : Option Addr) (c1 : Nat) (l1 : List Int) (A2 : Option Addr) (c2 : Nat) (l2 : List Int) (n p : Int) (ng mg : Bool) (w : World) (y0 : l0.length ≤ c0) (z0 : c0 ≤ maxLen) (wl0 : ∀ n ∈ l0, (Lit.int .u64 n).wf = true) (hl0 : LiesK .u64 w A0 l0) (y1 : l1.length ≤ c1) (z1 : c1 ≤ maxLen) (wl1 : ∀ n ∈ l1, (Lit.int .u64 n).wf = true) (hl1 : LiesK .u64 w A1 l1) (y2 : l2.length ≤ c2) (z2 : c2 ≤ maxLen) (wl2 : ∀ n ∈ l2, (Lit.int .u64 n).wf = true) (hl2 : LiesK .u64 w A2 l2) (wn0 : (Lit.int .u16 n).wf = true) (wp0 : (Lit.int .u16 p).wf = true) : Calls Try.prog 7 #[.slice A0 l0.length c0, .slice A1 l1.length c1, .slice A2 l2.length c2, .int .u16 n, .int .u16 p, .bool ng, .bool mg] w fun e w' => e = .returned (.bool true) ∧ Below w.heap.size w w' := by
  have d0 := dig_wf wl0
  have m0 : l0.length ≤ 9223372036854775807 := by unfold maxLen at z0; omega
  have d1 := dig_wf wl1
  have m1 : l1.length ≤ 9223372036854775807 := by unfold maxLen at z1; omega
  have d2 := dig_wf wl2
  have m2 : l2.length ≤ 9223372036854775807 := by unfold maxLen at z2; omega
  obtain ⟨n0, n1⟩ := wf_u16' wn0
  obtain ⟨p0, p1⟩ := wf_u16' wp0
  obtain ⟨ma, ha⟩ : ∃ k : Nat, n % 1000 = (k : Int) := ⟨(n % 1000).toNat, by omega⟩
  obtain ⟨mb, hb⟩ : ∃ k : Nat, p % 1000 = (k : Int) := ⟨(p % 1000).toNat, by omega⟩
  obtain ⟨mc, hc⟩ : ∃ k : Nat, n % 900 = (k : Int) := ⟨(n % 900).toNat, by omega⟩
  have HA := fun (W : World) (h : LiesK .u64 W A0 l0) => made_7 (c := c0) h d0 m0 ma (by omega) ng
  have HB := fun (W : World) (h : LiesK .u64 W A1 l1) => made_7 (c := c1) h d1 m1 mb (by omega) mg
  have HC := fun (W : World) (h : LiesK .u64 W A2 l2) => made_7 (c := c2) h d2 m2 mc (by omega) mg
  have KN := fun W => known_c W
  have b0 := Below.refl w.heap.size w
  clear wl0 wl1 wl2 wn0 wp0 d0 d1 d2
  go_enter Try.func7, Try.ntmps7
  go_wp2_with fail
  refine (KN _).mono ?_; rintro e w1 ⟨rfl, g⟩
  have b1 := bb b0 g
  clear g b0
  go_wp2_with fail
  refine (HA _ (hl0.keep b1)).mono ?_; rintro e w2 ⟨a, a0x, a1x, rfl, g⟩
  have b2 := bb b1 g
  clear g b1
  go_wp2_with fail
  refine (HB _ (hl1.keep b2)).mono ?_; rintro e w3 ⟨b, b0x, b1x, rfl, g⟩
  have b3 := bb b2 g
  clear g b2
  go_wp2_with fail
  refine (HC _ (hl2.keep b3)).mono ?_; rintro e w4 ⟨c, c0x, c1x, rfl, g⟩
  have b4 := bb b3 g
  clear g b3
  have Ba := Bd.mono (Bd.of a0x a1x) (show ma ≤ 1000 by omega)
  have Bb := Bd.mono (Bd.of b0x b1x) (show mb ≤ 1000 by omega)
  have Bc := Bd.mono (Bd.of c0x c1x) (show mc ≤ 1000 by omega)
  have ia := Ba.inW (by decide)
  have ib := Bb.inW (by decide)
  have ic := Bc.inW (by decide)
  have id := (Ba.sub Bb).inW (by decide)
  have la := lim_len a
  have lb := lim_len b
  have lc := lim_len c
  have ld := lim_len (a - b)
  have CAB := fun W => Cmp_c ia ib W
  have CBC := fun W => Cmp_c ib ic W
  have CAC := fun W => Cmp_c ia ic W
  have CBA := fun W => Cmp_c ib ia W
  have SB := fun W => sub_w W ia ib id rfl
  have SG := fun W => Sign_c id W
  have e1 : cm b a = -(cm a b) := by unfold cm; split <;> split <;> (try split) <;> omega
  have e2 : (if a - b = 0 then (0 : Int) else if a - b < 0 then -1 else 1) = cm a b := by unfold cm; split <;> split <;> (try split) <;> (try split) <;> omega
  have e3 : (cm a b == 0) = decide (lim a = lim b) := by
    by_cases h : a = b
    · subst h; simp [cm]
    · rw [decide_eq_false (fun h2 => h (lim_inj ia ib h2))]
      unfold cm; rw [if_neg h]; split <;> rfl
  have r0 : -1 ≤ cm a b ∧ cm a b ≤ 1 := by unfold cm; split <;> (try split) <;> omega
  have tr : ¬ (cm a b < 0 ∧ cm b c < 0 ∧ 0 ≤ cm a c) := by unfold cm; split <;> split <;> split <;> (try split) <;> (try split) <;> (try split) <;> omega
  have DL := run_eqW (lim a) (lim b) la lb
  rw [e1] at CBA
  rw [e2] at SG
  generalize decide (lim a = lim b) = eb at *
  generalize cm a b = p at *
  generalize cm b c = q at *
  generalize cm a c = r at *
  have wnx : IntKind.i64.wrap (-p) = -p := IntWalk.i64_in _ (by omega)
  have WN := Lib.hid wnx
  have E3 := Lib.hid e3
  have DLH := Lib.hid DL
  clear wnx e3 DL
  clear e1 e2 a0x a1x b0x b1x c0x c1x ia ib ic id Ba Bb Bc HA HB HC r0
  have HP : Hid ((decide (p < 0) = true ∧ decide (q < 0) = true ∧ decide (0 ≤ r) = false) ∨ (decide (p < 0) = true ∧ decide (q < 0) = false) ∨ decide (p < 0) = false) := Lib.hid (by
    by_cases h1 : p < 0
    · by_cases h2 : q < 0
      · exact .inl ⟨decide_eq_true h1, decide_eq_true h2, decide_eq_false (fun h3 => tr ⟨h1, h2, h3⟩)⟩
      · exact .inr (.inl ⟨decide_eq_true h1, decide_eq_false h2⟩)
    · exact .inr (.inr (decide_eq_false h1)))
  clear tr
  obtain ⟨t0, t1, t2, k5_0, k5_1, k5_2, b5, up⟩ := new3 b4 (lim a) (lim b) (lim c) _ _ _ _ rfl rfl rfl rfl
  have z5 := b4.size
  go_upto_region 4 with (first | (with_reducible refine stW t0 zeros_len la _ _ (by with_unfolding_all rfl) (by with_unfolding_all rfl) (by with_unfolding_all rfl) (by with_unfolding_all rfl) ?_) | (with_reducible refine stW t1 zeros_len lb _ _ (by with_unfolding_all rfl) (by with_unfolding_all rfl) (by with_unfolding_all rfl) (by with_unfolding_all rfl) ?_) | (with_reducible refine stW t2 zeros_len lc _ _ (by with_unfolding_all rfl) (by with_unfolding_all rfl) (by with_unfolding_all rfl) (by with_unfolding_all rfl) ?_))
  clear up t0 t1 t2 b4
  generalize (((((w4.alloc (.cells #[.int .u64 0, .int .u64 0, .int .u64 0, .int .u64 0, .int .u64 0, .int .u64 0, .int .u64 0, .int .u64 0, .int .u64 0, .int .u64 0, .int .u64 0, .int .u64 0, .int .u64 0, .int .u64 0, .int .u64 0, .int .u64 0] 27)).alloc (.cells #[.int .u64 0, .int .u64 0, .int .u64 0, .int .u64 0, .int .u64 0, .int .u64 0, .int .u64 0, .int .u64 0, .int .u64 0, .int .u64 0, .int .u64 0, .int .u64 0, .int .u64 0, .int .u64 0, .int .u64 0, .int .u64 0] 27)).alloc (.cells #[.int .u64 0, .int .u64 0, .int .u64 0, .int .u64 0, .int .u64 0, .int .u64 0, .int .u64 0, .int .u64 0, .int .u64 0, .int .u64 0, .int .u64 0, .int .u64 0, .int .u64 0, .int .u64 0, .int .u64 0, .int .u64 0] 27)).setRow w4.heap.size (U (lim a))).setRow (w4.heap.size + 1) (U (lim b))).setRow (w4.heap.size + 1 + 1) (U (lim c)) = w5 at *
  rcases HP.out with ⟨h1, h2, h3⟩ | ⟨h1, h2⟩ | h1
  · go_wp2_with (first | (with_reducible refine ldW k5_0 la _ (by with_unfolding_all rfl) (by with_unfolding_all rfl) (by with_unfolding_all rfl) ?_) | (with_reducible refine ldW k5_1 lb _ (by with_unfolding_all rfl) (by with_unfolding_all rfl) (by with_unfolding_all rfl) ?_) | (with_reducible refine ldW k5_2 lc _ (by with_unfolding_all rfl) (by with_unfolding_all rfl) (by with_unfolding_all rfl) ?_) | go_skip | (with_reducible refine ldWg k5_0 la _ (by with_unfolding_all rfl) (by with_unfolding_all rfl) (by kernel_rfl) ?_) | (with_reducible refine ldWg k5_1 lb _ (by with_unfolding_all rfl) (by with_unfolding_all rfl) (by kernel_rfl) ?_) | (with_reducible refine ldWg k5_2 lc _ (by with_unfolding_all rfl) (by with_unfolding_all rfl) (by kernel_rfl) ?_))
    refine (CAB _).mono ?_; rintro e w6 ⟨rfl, g⟩
    replace k5_0 := k5_0.keep g
    replace k5_1 := k5_1.keep g
    replace k5_2 := k5_2.keep g
    have b6 := bb b5 g
    clear g b5
    go_wp2_with (first | (with_reducible refine ldW k5_0 la _ (by with_unfolding_all rfl) (by with_unfolding_all rfl) (by with_unfolding_all rfl) ?_) | (with_reducible refine ldW k5_1 lb _ (by with_unfolding_all rfl) (by with_unfolding_all rfl) (by with_unfolding_all rfl) ?_) | (with_reducible refine ldW k5_2 lc _ (by with_unfolding_all rfl) (by with_unfolding_all rfl) (by with_unfolding_all rfl) ?_) | go_skip | (with_reducible refine ldWg k5_0 la _ (by with_unfolding_all rfl) (by with_unfolding_all rfl) (by kernel_rfl) ?_) | (with_reducible refine ldWg k5_1 lb _ (by with_unfolding_all rfl) (by with_unfolding_all rfl) (by kernel_rfl) ?_) | (with_reducible refine ldWg k5_2 lc _ (by with_unfolding_all rfl) (by with_unfolding_all rfl) (by kernel_rfl) ?_))
    refine (CBC _).mono ?_; rintro e w7 ⟨rfl, g⟩
    replace k5_0 := k5_0.keep g
    replace k5_1 := k5_1.keep g
    replace k5_2 := k5_2.keep g
    have b7 := bb b6 g
    clear g b6
    go_wp2_with (first | (with_reducible refine ldW k5_0 la _ (by with_unfolding_all rfl) (by with_unfolding_all rfl) (by with_unfolding_all rfl) ?_) | (with_reducible refine ldW k5_1 lb _ (by with_unfolding_all rfl) (by with_unfolding_all rfl) (by with_unfolding_all rfl) ?_) | (with_reducible refine ldW k5_2 lc _ (by with_unfolding_all rfl) (by with_unfolding_all rfl) (by with_unfolding_all rfl) ?_) | go_skip | (with_reducible refine ldWg k5_0 la _ (by with_unfolding_all rfl) (by with_unfolding_all rfl) (by kernel_rfl) ?_) | (with_reducible refine ldWg k5_1 lb _ (by with_unfolding_all rfl) (by with_unfolding_all rfl) (by kernel_rfl) ?_) | (with_reducible refine ldWg k5_2 lc _ (by with_unfolding_all rfl) (by with_unfolding_all rfl) (by kernel_rfl) ?_))
    refine (CAC _).mono ?_; rintro e w8 ⟨rfl, g⟩
    replace k5_0 := k5_0.keep g
    replace k5_1 := k5_1.keep g
    replace k5_2 := k5_2.keep g
    have b8 := bb b7 g
    clear g b7
    go_wp2_with (first | (with_reducible refine ldW k5_0 la _ (by with_unfolding_all rfl) (by with_unfolding_all rfl) (by with_unfolding_all rfl) ?_) | (with_reducible refine ldW k5_1 lb _ (by with_unfolding_all rfl) (by with_unfolding_all rfl) (by with_unfolding_all rfl) ?_) | (with_reducible refine ldW k5_2 lc _ (by with_unfolding_all rfl) (by with_unfolding_all rfl) (by with_unfolding_all rfl) ?_) | go_skip | (with_reducible refine ldWg k5_0 la _ (by with_unfolding_all rfl) (by with_unfolding_all rfl) (by kernel_rfl) ?_) | (with_reducible refine ldWg k5_1 lb _ (by with_unfolding_all rfl) (by with_unfolding_all rfl) (by kernel_rfl) ?_) | (with_reducible refine ldWg k5_2 lc _ (by with_unfolding_all rfl) (by with_unfolding_all rfl) (by kernel_rfl) ?_))
    refine (SB _).mono ?_; rintro e w9 ⟨rfl, g⟩
    replace k5_0 := k5_0.keep g
    replace k5_1 := k5_1.keep g
    replace k5_2 := k5_2.keep g
    have b9 := bb b8 g
    clear g b8
    obtain ⟨t0, k10_0, b10, up⟩ := new1 b9 (lim (a - b)) _ _ rfl rfl
    replace k5_0 := up _ _ k5_0
    replace k5_1 := up _ _ k5_1
    replace k5_2 := up _ _ k5_2
    have z10 := b9.size
    go_upto_region 7 with (first | (with_reducible refine ldW k5_0 la _ (by with_unfolding_all rfl) (by with_unfolding_all rfl) (by with_unfolding_all rfl) ?_) | (with_reducible refine ldW k5_1 lb _ (by with_unfolding_all rfl) (by with_unfolding_all rfl) (by with_unfolding_all rfl) ?_) | (with_reducible refine ldW k5_2 lc _ (by with_unfolding_all rfl) (by with_unfolding_all rfl) (by with_unfolding_all rfl) ?_) | (with_reducible refine ldW k10_0 ld _ (by with_unfolding_all rfl) (by with_unfolding_all rfl) (by with_unfolding_all rfl) ?_) | go_skip | (with_reducible refine ldWg k5_0 la _ (by with_unfolding_all rfl) (by with_unfolding_all rfl) (by kernel_rfl) ?_) | (with_reducible refine ldWg k5_1 lb _ (by with_unfolding_all rfl) (by with_unfolding_all rfl) (by kernel_rfl) ?_) | (with_reducible refine ldWg k5_2 lc _ (by with_unfolding_all rfl) (by with_unfolding_all rfl) (by kernel_rfl) ?_) | (with_reducible refine ldWg k10_0 ld _ (by with_unfolding_all rfl) (by with_unfolding_all rfl) (by kernel_rfl) ?_) | (with_reducible refine stW t0 zeros_len ld _ _ (by with_unfolding_all rfl) (by with_unfolding_all rfl) (by with_unfolding_all rfl) (by with_unfolding_all rfl) ?_))
    clear up t0 b9
    generalize (w9.alloc (.cells #[.int .u64 0, .int .u64 0, .int .u64 0, .int .u64 0, .int .u64 0, .int .u64 0, .int .u64 0, .int .u64 0, .int .u64 0, .int .u64 0, .int .u64 0, .int .u64 0, .int .u64 0, .int .u64 0, .int .u64 0, .int .u64 0] 27)).setRow w9.heap.size (U (lim (a - b))) = w10 at *
    clear h1 h2 h3 CBC CAC SB
    have e3 := E3.out
    have wn := WN.out
    have DL := DLH.out
    refine region_vals (σ := Unit) [some 59, some 60, some 61, some 62, some 63, some 64, some 65, some 66, some 67, some 68, some 69, some 70, some 71, some 72, some 73, some 74, some 75, some 76, some 77, some 78, some 79, some 80, some 81, some 82, some 83, some 84, some 85, some 86, some 87, some 14] (fun _ i => ([.bool true, .bool true, .agg (U (lim (a - b))), .int .i64 (p), .agg (U (lim a)), .agg (U (lim b)), .int .i64 (p), .bool true, .bool true, .bool true, .agg (U (lim b)), .agg (U (lim a)), .int .i64 (-p), .agg (U (lim a)), .agg (U (lim b)), .int .i64 (p), .int .i64 (-p), .bool true, .bool true, .bool true, .agg (U (lim a)), .agg (U (lim b)), .int .i64 (p), .bool eb, .agg (U (lim a)), .agg (U (lim b)), .bool eb, .bool true, .bool true, .bool true] : List Value).getD i undef) (fun _ _ wx => Blk wx w4.heap.size (U (lim a)) 27 ∧ Blk wx (w4.heap.size + 1) (U (lim b)) 27 ∧ Blk wx (w4.heap.size + 1 + 1) (U (lim c)) 27 ∧ Blk wx w9.heap.size (U (lim (a - b))) 27 ∧ Below w.heap.size w wx) () [0, 1, 2, 3, 4, 5, 6, 7, 8, 9, 10, 11, 12, 13, 14, 15, 16, 17, 18, 19, 20, 21, 22, 23, 24, 25, 26, 27, 28, 29] _ _ rfl (by kernel_rfl) (by kernel_rfl) (by kernel_rfl) (by kernel_rfl) (by kernel_rfl) ⟨k5_0.drew, k5_1.drew, k5_2.drew, k10_0.drew, b10.drew⟩ ?steps ?fin (fun _ _ _ _ _ h => h)
    case steps =>
      refine VSteps.cons rfl (fun x L s wx K kn hL hp hI hK => ?_) ?_
      · have e19 : x[19]? = some (.bool true) := (kn.old 19 (by kernel_rfl)).trans rfl
        refine want_ rfl ?_
        exact val_ (by simp [go_sem, execOp, evc_, e19]) (hK.out s _ (fun _ _ => rfl) hI)
      refine VSteps.cons rfl (fun x L s wx K kn hL hp hI hK => ?_) ?_
      · have e59 : x[59]? = some (.bool true) := kn.got 0 59 (hp ⟨0, .data⟩ (by simp) rfl) rfl
        refine want_ rfl ?_
        exact val_ (by simp [go_sem, execOp, evc_, e59]) (hK.out s _ (fun _ _ => rfl) hI)
      refine VSteps.cons rfl (fun x L s wx K kn hL hp hI hK => ?_) ?_
      · have e18 : x[18]? = some (.pointer (some ⟨w9.heap.size, 0, none⟩)) := (kn.old 18 (by kernel_rfl)).trans rfl
        refine want_ ((guard_ rfl rfl true (show x[60]? = some (.bool true) from kn.got 1 60 (hp ⟨1, .guard⟩ (by simp) rfl) rfl)).trans rfl) ?_
        exact wp_load_row 27 _ rfl w9.heap.size (ev_ e18) 27 (U (lim (a - b))) (0, 0) _ hI.2.2.2.1 Try.underlying27 rfl (ofLen ld) (hK.out s _ (fun _ _ => rfl) hI)
      refine VSteps.cons rfl (fun x L s wx K kn hL hp hI hK => ?_) ?_
      · have e61 : x[61]? = some (.agg (U (lim (a - b)))) := kn.got 2 61 (hp ⟨2, .data⟩ (by simp) rfl) rfl
        refine want_ ((guard_ rfl rfl true (show x[60]? = some (.bool true) from kn.got 1 60 (hp ⟨1, .chain⟩ (by simp) rfl) rfl)).trans rfl) ?_
        refine goesK_ Try.func22 (by kernel_rfl) rfl #[.agg (U (lim (a - b)))] rfl (by simp only [List.map_toArray, List.map_cons, List.map_nil, evc_, ev_ e61]) ((SG _).mono ?_)
        rintro e w' ⟨rfl, g⟩
        obtain ⟨K0, K1, K2, K3, BW⟩ := hI
        exact ⟨_, rfl, hK.out s _ (fun _ _ => rfl) ⟨K0.keep g, K1.keep g, K2.keep g, K3.keep g, bb BW g⟩⟩
      refine VSteps.cons rfl (fun x L s wx K kn hL hp hI hK => ?_) ?_
      · have e15 : x[15]? = some (.pointer (some ⟨w4.heap.size, 0, none⟩)) := (kn.old 15 (by kernel_rfl)).trans rfl
        refine want_ ((guard_ rfl rfl true (show x[60]? = some (.bool true) from kn.got 1 60 (hp ⟨1, .guard⟩ (by simp) rfl) rfl)).trans rfl) ?_
        exact wp_load_row 27 _ rfl w4.heap.size (ev_ e15) 27 (U (lim a)) (0, 0) _ hI.1 Try.underlying27 rfl (ofLen la) (hK.out s _ (fun _ _ => rfl) hI)
      refine VSteps.cons rfl (fun x L s wx K kn hL hp hI hK => ?_) ?_
      · have e16 : x[16]? = some (.pointer (some ⟨(w4.heap.size + 1), 0, none⟩)) := (kn.old 16 (by kernel_rfl)).trans rfl
        refine want_ ((guard_ rfl rfl true (show x[60]? = some (.bool true) from kn.got 1 60 (hp ⟨1, .guard⟩ (by simp) rfl) rfl)).trans rfl) ?_
        exact wp_load_row 27 _ rfl (w4.heap.size + 1) (ev_ e16) 27 (U (lim b)) (0, 0) _ hI.2.1 Try.underlying27 rfl (ofLen lb) (hK.out s _ (fun _ _ => rfl) hI)
      refine VSteps.cons rfl (fun x L s wx K kn hL hp hI hK => ?_) ?_
      · have e63 : x[63]? = some (.agg (U (lim a))) := kn.got 4 63 (hp ⟨4, .data⟩ (by simp) rfl) rfl
        have e64 : x[64]? = some (.agg (U (lim b))) := kn.got 5 64 (hp ⟨5, .data⟩ (by simp) rfl) rfl
        refine want_ ((guard_ rfl rfl true (show x[60]? = some (.bool true) from kn.got 1 60 (hp ⟨1, .guard⟩ (by simp) rfl) rfl)).trans rfl) ?_
        refine goesK_ Try.func20 (by kernel_rfl) rfl #[.agg (U (lim a)), .agg (U (lim b))] rfl (by simp only [List.map_toArray, List.map_cons, List.map_nil, evc_, ev_ e63, ev_ e64]) ((CAB _).mono ?_)
        rintro e w' ⟨rfl, g⟩
        obtain ⟨K0, K1, K2, K3, BW⟩ := hI
        exact ⟨_, rfl, hK.out s _ (fun _ _ => rfl) ⟨K0.keep g, K1.keep g, K2.keep g, K3.keep g, bb BW g⟩⟩
      refine VSteps.cons rfl (fun x L s wx K kn hL hp hI hK => ?_) ?_
      · have e62 : x[62]? = some (.int .i64 (p)) := kn.got 3 62 (hp ⟨3, .data⟩ (by simp) rfl) rfl
        have e65 : x[65]? = some (.int .i64 (p)) := kn.got 6 65 (hp ⟨6, .data⟩ (by simp) rfl) rfl
        refine want_ ((guard_ rfl rfl true (show x[60]? = some (.bool true) from kn.got 1 60 (hp ⟨1, .guard⟩ (by simp) rfl) rfl)).trans rfl) ?_
        exact val_ (by simp [go_sem, execOp, evc_, e62, e65]) (hK.out s _ (fun _ _ => rfl) hI)
      refine VSteps.cons rfl (fun x L s wx K kn hL hp hI hK => ?_) ?_
      · have e60 : x[60]? = some (.bool true) := kn.got 1 60 (hp ⟨1, .data⟩ (by simp) rfl) rfl
        have e66 : x[66]? = some (.bool true) := kn.got 7 66 (hp ⟨7, .data⟩ (by simp) rfl) rfl
        refine want_ rfl ?_
        exact val_ (by simp [go_sem, execOp, evc_, e60, e66]) (hK.out s _ (fun _ _ => rfl) hI)
      refine VSteps.cons rfl (fun x L s wx K kn hL hp hI hK => ?_) ?_
      · have e67 : x[67]? = some (.bool true) := kn.got 8 67 (hp ⟨8, .data⟩ (by simp) rfl) rfl
        refine want_ rfl ?_
        exact val_ (by simp [go_sem, execOp, evc_, e67]) (hK.out s _ (fun _ _ => rfl) hI)
      refine VSteps.cons rfl (fun x L s wx K kn hL hp hI hK => ?_) ?_
      · have e16 : x[16]? = some (.pointer (some ⟨(w4.heap.size + 1), 0, none⟩)) := (kn.old 16 (by kernel_rfl)).trans rfl
        refine want_ ((guard_ rfl rfl true (show x[68]? = some (.bool true) from kn.got 9 68 (hp ⟨9, .guard⟩ (by simp) rfl) rfl)).trans rfl) ?_
        exact wp_load_row 27 _ rfl (w4.heap.size + 1) (ev_ e16) 27 (U (lim b)) (0, 0) _ hI.2.1 Try.underlying27 rfl (ofLen lb) (hK.out s _ (fun _ _ => rfl) hI)
      refine VSteps.cons rfl (fun x L s wx K kn hL hp hI hK => ?_) ?_
      · have e15 : x[15]? = some (.pointer (some ⟨w4.heap.size, 0, none⟩)) := (kn.old 15 (by kernel_rfl)).trans rfl
        refine want_ ((guard_ rfl rfl true (show x[68]? = some (.bool true) from kn.got 9 68 (hp ⟨9, .guard⟩ (by simp) rfl) rfl)).trans rfl) ?_
        exact wp_load_row 27 _ rfl w4.heap.size (ev_ e15) 27 (U (lim a)) (0, 0) _ hI.1 Try.underlying27 rfl (ofLen la) (hK.out s _ (fun _ _ => rfl) hI)
      refine VSteps.cons rfl (fun x L s wx K kn hL hp hI hK => ?_) ?_
      · have e69 : x[69]? = some (.agg (U (lim b))) := kn.got 10 69 (hp ⟨10, .data⟩ (by simp) rfl) rfl
        have e70 : x[70]? = some (.agg (U (lim a))) := kn.got 11 70 (hp ⟨11, .data⟩ (by simp) rfl) rfl
        refine want_ ((guard_ rfl rfl true (show x[68]? = some (.bool true) from kn.got 9 68 (hp ⟨9, .chain⟩ (by simp) rfl) rfl)).trans rfl) ?_
        refine goesK_ Try.func20 (by kernel_rfl) rfl #[.agg (U (lim b)), .agg (U (lim a))] rfl (by simp only [List.map_toArray, List.map_cons, List.map_nil, evc_, ev_ e69, ev_ e70]) ((CBA _).mono ?_)
        rintro e w' ⟨rfl, g⟩
        obtain ⟨K0, K1, K2, K3, BW⟩ := hI
        exact ⟨_, rfl, hK.out s _ (fun _ _ => rfl) ⟨K0.keep g, K1.keep g, K2.keep g, K3.keep g, bb BW g⟩⟩
      refine VSteps.cons rfl (fun x L s wx K kn hL hp hI hK => ?_) ?_
      · have e15 : x[15]? = some (.pointer (some ⟨w4.heap.size, 0, none⟩)) := (kn.old 15 (by kernel_rfl)).trans rfl
        refine want_ ((guard_ rfl rfl true (show x[68]? = some (.bool true) from kn.got 9 68 (hp ⟨9, .guard⟩ (by simp) rfl) rfl)).trans rfl) ?_
        exact wp_load_row 27 _ rfl w4.heap.size (ev_ e15) 27 (U (lim a)) (0, 0) _ hI.1 Try.underlying27 rfl (ofLen la) (hK.out s _ (fun _ _ => rfl) hI)
      refine VSteps.cons rfl (fun x L s wx K kn hL hp hI hK => ?_) ?_
      · have e16 : x[16]? = some (.pointer (some ⟨(w4.heap.size + 1), 0, none⟩)) := (kn.old 16 (by kernel_rfl)).trans rfl
        refine want_ ((guard_ rfl rfl true (show x[68]? = some (.bool true) from kn.got 9 68 (hp ⟨9, .guard⟩ (by simp) rfl) rfl)).trans rfl) ?_
        exact wp_load_row 27 _ rfl (w4.heap.size + 1) (ev_ e16) 27 (U (lim b)) (0, 0) _ hI.2.1 Try.underlying27 rfl (ofLen lb) (hK.out s _ (fun _ _ => rfl) hI)
      refine VSteps.cons rfl (fun x L s wx K kn hL hp hI hK => ?_) ?_
      · have e72 : x[72]? = some (.agg (U (lim a))) := kn.got 13 72 (hp ⟨13, .data⟩ (by simp) rfl) rfl
        have e73 : x[73]? = some (.agg (U (lim b))) := kn.got 14 73 (hp ⟨14, .data⟩ (by simp) rfl) rfl
        refine want_ ((guard_ rfl rfl true (show x[68]? = some (.bool true) from kn.got 9 68 (hp ⟨9, .guard⟩ (by simp) rfl) rfl)).trans rfl) ?_
        refine goesK_ Try.func20 (by kernel_rfl) rfl #[.agg (U (lim a)), .agg (U (lim b))] rfl (by simp only [List.map_toArray, List.map_cons, List.map_nil, evc_, ev_ e72, ev_ e73]) ((CAB _).mono ?_)
        rintro e w' ⟨rfl, g⟩
        obtain ⟨K0, K1, K2, K3, BW⟩ := hI
        exact ⟨_, rfl, hK.out s _ (fun _ _ => rfl) ⟨K0.keep g, K1.keep g, K2.keep g, K3.keep g, bb BW g⟩⟩
      refine VSteps.cons rfl (fun x L s wx K kn hL hp hI hK => ?_) ?_
      · have e74 : x[74]? = some (.int .i64 (p)) := kn.got 15 74 (hp ⟨15, .data⟩ (by simp) rfl) rfl
        refine want_ ((guard_ rfl rfl true (show x[68]? = some (.bool true) from kn.got 9 68 (hp ⟨9, .guard⟩ (by simp) rfl) rfl)).trans rfl) ?_
        exact val_ (by simp [go_sem, execOp, evc_, e74, wn]) (hK.out s _ (fun _ _ => rfl) hI)
      refine VSteps.cons rfl (fun x L s wx K kn hL hp hI hK => ?_) ?_
      · have e71 : x[71]? = some (.int .i64 (-p)) := kn.got 12 71 (hp ⟨12, .data⟩ (by simp) rfl) rfl
        have e75 : x[75]? = some (.int .i64 (-p)) := kn.got 16 75 (hp ⟨16, .data⟩ (by simp) rfl) rfl
        refine want_ ((guard_ rfl rfl true (show x[68]? = some (.bool true) from kn.got 9 68 (hp ⟨9, .guard⟩ (by simp) rfl) rfl)).trans rfl) ?_
        exact val_ (by simp [go_sem, execOp, evc_, e71, e75]) (hK.out s _ (fun _ _ => rfl) hI)
      refine VSteps.cons rfl (fun x L s wx K kn hL hp hI hK => ?_) ?_
      · have e68 : x[68]? = some (.bool true) := kn.got 9 68 (hp ⟨9, .data⟩ (by simp) rfl) rfl
        have e76 : x[76]? = some (.bool true) := kn.got 17 76 (hp ⟨17, .data⟩ (by simp) rfl) rfl
        refine want_ rfl ?_
        exact val_ (by simp [go_sem, execOp, evc_, e68, e76]) (hK.out s _ (fun _ _ => rfl) hI)
      refine VSteps.cons rfl (fun x L s wx K kn hL hp hI hK => ?_) ?_
      · have e77 : x[77]? = some (.bool true) := kn.got 18 77 (hp ⟨18, .data⟩ (by simp) rfl) rfl
        refine want_ rfl ?_
        exact val_ (by simp [go_sem, execOp, evc_, e77]) (hK.out s _ (fun _ _ => rfl) hI)
      refine VSteps.cons rfl (fun x L s wx K kn hL hp hI hK => ?_) ?_
      · have e15 : x[15]? = some (.pointer (some ⟨w4.heap.size, 0, none⟩)) := (kn.old 15 (by kernel_rfl)).trans rfl
        refine want_ ((guard_ rfl rfl true (show x[78]? = some (.bool true) from kn.got 19 78 (hp ⟨19, .guard⟩ (by simp) rfl) rfl)).trans rfl) ?_
        exact wp_load_row 27 _ rfl w4.heap.size (ev_ e15) 27 (U (lim a)) (0, 0) _ hI.1 Try.underlying27 rfl (ofLen la) (hK.out s _ (fun _ _ => rfl) hI)
      refine VSteps.cons rfl (fun x L s wx K kn hL hp hI hK => ?_) ?_
      · have e16 : x[16]? = some (.pointer (some ⟨(w4.heap.size + 1), 0, none⟩)) := (kn.old 16 (by kernel_rfl)).trans rfl
        refine want_ ((guard_ rfl rfl true (show x[78]? = some (.bool true) from kn.got 19 78 (hp ⟨19, .guard⟩ (by simp) rfl) rfl)).trans rfl) ?_
        exact wp_load_row 27 _ rfl (w4.heap.size + 1) (ev_ e16) 27 (U (lim b)) (0, 0) _ hI.2.1 Try.underlying27 rfl (ofLen lb) (hK.out s _ (fun _ _ => rfl) hI)
      refine VSteps.cons rfl (fun x L s wx K kn hL hp hI hK => ?_) ?_
      · have e79 : x[79]? = some (.agg (U (lim a))) := kn.got 20 79 (hp ⟨20, .data⟩ (by simp) rfl) rfl
        have e80 : x[80]? = some (.agg (U (lim b))) := kn.got 21 80 (hp ⟨21, .data⟩ (by simp) rfl) rfl
        refine want_ ((guard_ rfl rfl true (show x[78]? = some (.bool true) from kn.got 19 78 (hp ⟨19, .chain⟩ (by simp) rfl) rfl)).trans rfl) ?_
        refine goesK_ Try.func20 (by kernel_rfl) rfl #[.agg (U (lim a)), .agg (U (lim b))] rfl (by simp only [List.map_toArray, List.map_cons, List.map_nil, evc_, ev_ e79, ev_ e80]) ((CAB _).mono ?_)
        rintro e w' ⟨rfl, g⟩
        obtain ⟨K0, K1, K2, K3, BW⟩ := hI
        exact ⟨_, rfl, hK.out s _ (fun _ _ => rfl) ⟨K0.keep g, K1.keep g, K2.keep g, K3.keep g, bb BW g⟩⟩
      refine VSteps.cons rfl (fun x L s wx K kn hL hp hI hK => ?_) ?_
      · have e81 : x[81]? = some (.int .i64 (p)) := kn.got 22 81 (hp ⟨22, .data⟩ (by simp) rfl) rfl
        refine want_ ((guard_ rfl rfl true (show x[78]? = some (.bool true) from kn.got 19 78 (hp ⟨19, .guard⟩ (by simp) rfl) rfl)).trans rfl) ?_
        exact val_ (by simp [go_sem, execOp, evc_, e81, e3]) (hK.out s _ (fun _ _ => rfl) hI)
      refine VSteps.cons rfl (fun x L s wx K kn hL hp hI hK => ?_) ?_
      · have e15 : x[15]? = some (.pointer (some ⟨w4.heap.size, 0, none⟩)) := (kn.old 15 (by kernel_rfl)).trans rfl
        refine want_ ((guard_ rfl rfl true (show x[78]? = some (.bool true) from kn.got 19 78 (hp ⟨19, .guard⟩ (by simp) rfl) rfl)).trans rfl) ?_
        exact wp_load_row 27 _ rfl w4.heap.size (ev_ e15) 27 (U (lim a)) (0, 0) _ hI.1 Try.underlying27 rfl (ofLen la) (hK.out s _ (fun _ _ => rfl) hI)
      refine VSteps.cons rfl (fun x L s wx K kn hL hp hI hK => ?_) ?_
      · have e16 : x[16]? = some (.pointer (some ⟨(w4.heap.size + 1), 0, none⟩)) := (kn.old 16 (by kernel_rfl)).trans rfl
        refine want_ ((guard_ rfl rfl true (show x[78]? = some (.bool true) from kn.got 19 78 (hp ⟨19, .guard⟩ (by simp) rfl) rfl)).trans rfl) ?_
        exact wp_load_row 27 _ rfl (w4.heap.size + 1) (ev_ e16) 27 (U (lim b)) (0, 0) _ hI.2.1 Try.underlying27 rfl (ofLen lb) (hK.out s _ (fun _ _ => rfl) hI)
      refine VSteps.cons rfl (fun x L s wx K kn hL hp hI hK => ?_) ?_
      · have e83 : x[83]? = some (.agg (U (lim a))) := kn.got 24 83 (hp ⟨24, .data⟩ (by simp) rfl) rfl
        have e84 : x[84]? = some (.agg (U (lim b))) := kn.got 25 84 (hp ⟨25, .data⟩ (by simp) rfl) rfl
        refine want_ ((guard_ rfl rfl true (show x[78]? = some (.bool true) from kn.got 19 78 (hp ⟨19, .guard⟩ (by simp) rfl) rfl)).trans rfl) ?_
        exact val_ (by simp [go_sem, execOp, evc_, e83, e84, Try.eqGuardType27, DL]) (hK.out s _ (fun _ _ => rfl) hI)
      refine VSteps.cons rfl (fun x L s wx K kn hL hp hI hK => ?_) ?_
      · have e82 : x[82]? = some (.bool eb) := kn.got 23 82 (hp ⟨23, .data⟩ (by simp) rfl) rfl
        have e85 : x[85]? = some (.bool eb) := kn.got 26 85 (hp ⟨26, .data⟩ (by simp) rfl) rfl
        refine want_ ((guard_ rfl rfl true (show x[78]? = some (.bool true) from kn.got 19 78 (hp ⟨19, .guard⟩ (by simp) rfl) rfl)).trans rfl) ?_
        exact val_ (by simp [go_sem, execOp, evc_, e82, e85]) (hK.out s _ (fun _ _ => rfl) hI)
      refine VSteps.cons rfl (fun x L s wx K kn hL hp hI hK => ?_) ?_
      · have e78 : x[78]? = some (.bool true) := kn.got 19 78 (hp ⟨19, .data⟩ (by simp) rfl) rfl
        have e86 : x[86]? = some (.bool true) := kn.got 27 86 (hp ⟨27, .data⟩ (by simp) rfl) rfl
        refine want_ rfl ?_
        exact val_ (by simp [go_sem, execOp, evc_, e78, e86]) (hK.out s _ (fun _ _ => rfl) hI)
      refine VSteps.cons rfl (fun x L s wx K kn hL hp hI hK => ?_) ?_
      · have e87 : x[87]? = some (.bool true) := kn.got 28 87 (hp ⟨28, .data⟩ (by simp) rfl) rfl
        refine want_ rfl ?_
        exact val_ (by simp [go_sem, execOp, evc_, e87]) (hK.out s _ (fun _ _ => rfl) hI)
      exact VSteps.nil
    case fin =>
      intro s wx hI
      simp only [puts, List.getD_cons_zero, List.getD_cons_succ, List.set_cons_zero, List.set_cons_succ]
      obtain ⟨K0, K1, K2, K3, BW⟩ := hI
      go_wp2_with fail
      go_ret
      exact ⟨rfl, BW⟩
  · go_wp2_with (first | (with_reducible refine ldW k5_0 la _ (by with_unfolding_all rfl) (by with_unfolding_all rfl) (by with_unfolding_all rfl) ?_) | (with_reducible refine ldW k5_1 lb _ (by with_unfolding_all rfl) (by with_unfolding_all rfl) (by with_unfolding_all rfl) ?_) | (with_reducible refine ldW k5_2 lc _ (by with_unfolding_all rfl) (by with_unfolding_all rfl) (by with_unfolding_all rfl) ?_) | go_skip | (with_reducible refine ldWg k5_0 la _ (by with_unfolding_all rfl) (by with_unfolding_all rfl) (by kernel_rfl) ?_) | (with_reducible refine ldWg k5_1 lb _ (by with_unfolding_all rfl) (by with_unfolding_all rfl) (by kernel_rfl) ?_) | (with_reducible refine ldWg k5_2 lc _ (by with_unfolding_all rfl) (by with_unfolding_all rfl) (by kernel_rfl) ?_))
    refine (CAB _).mono ?_; rintro e w6 ⟨rfl, g⟩
    replace k5_0 := k5_0.keep g
    replace k5_1 := k5_1.keep g
    replace k5_2 := k5_2.keep g
    have b6 := bb b5 g
    clear g b5
    go_wp2_with (first | (with_reducible refine ldW k5_0 la _ (by with_unfolding_all rfl) (by with_unfolding_all rfl) (by with_unfolding_all rfl) ?_) | (with_reducible refine ldW k5_1 lb _ (by with_unfolding_all rfl) (by with_unfolding_all rfl) (by with_unfolding_all rfl) ?_) | (with_reducible refine ldW k5_2 lc _ (by with_unfolding_all rfl) (by with_unfolding_all rfl) (by with_unfolding_all rfl) ?_) | go_skip | (with_reducible refine ldWg k5_0 la _ (by with_unfolding_all rfl) (by with_unfolding_all rfl) (by kernel_rfl) ?_) | (with_reducible refine ldWg k5_1 lb _ (by with_unfolding_all rfl) (by with_unfolding_all rfl) (by kernel_rfl) ?_) | (with_reducible refine ldWg k5_2 lc _ (by with_unfolding_all rfl) (by with_unfolding_all rfl) (by kernel_rfl) ?_))
    refine (CBC _).mono ?_; rintro e w7 ⟨rfl, g⟩
    replace k5_0 := k5_0.keep g
    replace k5_1 := k5_1.keep g
    replace k5_2 := k5_2.keep g
    have b7 := bb b6 g
    clear g b6
    go_wp2_with (first | (with_reducible refine ldW k5_0 la _ (by with_unfolding_all rfl) (by with_unfolding_all rfl) (by with_unfolding_all rfl) ?_) | (with_reducible refine ldW k5_1 lb _ (by with_unfolding_all rfl) (by with_unfolding_all rfl) (by with_unfolding_all rfl) ?_) | (with_reducible refine ldW k5_2 lc _ (by with_unfolding_all rfl) (by with_unfolding_all rfl) (by with_unfolding_all rfl) ?_) | go_skip | (with_reducible refine ldWg k5_0 la _ (by with_unfolding_all rfl) (by with_unfolding_all rfl) (by kernel_rfl) ?_) | (with_reducible refine ldWg k5_1 lb _ (by with_unfolding_all rfl) (by with_unfolding_all rfl) (by kernel_rfl) ?_) | (with_reducible refine ldWg k5_2 lc _ (by with_unfolding_all rfl) (by with_unfolding_all rfl) (by kernel_rfl) ?_))
    refine (SB _).mono ?_; rintro e w8 ⟨rfl, g⟩
    replace k5_0 := k5_0.keep g
    replace k5_1 := k5_1.keep g
    replace k5_2 := k5_2.keep g
    have b8 := bb b7 g
    clear g b7
    obtain ⟨t0, k9_0, b9, up⟩ := new1 b8 (lim (a - b)) _ _ rfl rfl
    replace k5_0 := up _ _ k5_0
    replace k5_1 := up _ _ k5_1
    replace k5_2 := up _ _ k5_2
    have z9 := b8.size
    go_upto_region 7 with (first | (with_reducible refine ldW k5_0 la _ (by with_unfolding_all rfl) (by with_unfolding_all rfl) (by with_unfolding_all rfl) ?_) | (with_reducible refine ldW k5_1 lb _ (by with_unfolding_all rfl) (by with_unfolding_all rfl) (by with_unfolding_all rfl) ?_) | (with_reducible refine ldW k5_2 lc _ (by with_unfolding_all rfl) (by with_unfolding_all rfl) (by with_unfolding_all rfl) ?_) | (with_reducible refine ldW k9_0 ld _ (by with_unfolding_all rfl) (by with_unfolding_all rfl) (by with_unfolding_all rfl) ?_) | go_skip | (with_reducible refine ldWg k5_0 la _ (by with_unfolding_all rfl) (by with_unfolding_all rfl) (by kernel_rfl) ?_) | (with_reducible refine ldWg k5_1 lb _ (by with_unfolding_all rfl) (by with_unfolding_all rfl) (by kernel_rfl) ?_) | (with_reducible refine ldWg k5_2 lc _ (by with_unfolding_all rfl) (by with_unfolding_all rfl) (by kernel_rfl) ?_) | (with_reducible refine ldWg k9_0 ld _ (by with_unfolding_all rfl) (by with_unfolding_all rfl) (by kernel_rfl) ?_) | (with_reducible refine stW t0 zeros_len ld _ _ (by with_unfolding_all rfl) (by with_unfolding_all rfl) (by with_unfolding_all rfl) (by with_unfolding_all rfl) ?_))
    clear up t0 b8
    generalize (w8.alloc (.cells #[.int .u64 0, .int .u64 0, .int .u64 0, .int .u64 0, .int .u64 0, .int .u64 0, .int .u64 0, .int .u64 0, .int .u64 0, .int .u64 0, .int .u64 0, .int .u64 0, .int .u64 0, .int .u64 0, .int .u64 0, .int .u64 0] 27)).setRow w8.heap.size (U (lim (a - b))) = w9 at *
    clear h1 h2 CBC CAC SB
    have e3 := E3.out
    have wn := WN.out
    have DL := DLH.out
    refine region_vals (σ := Unit) [some 59, some 60, some 61, some 62, some 63, some 64, some 65, some 66, some 67, some 68, some 69, some 70, some 71, some 72, some 73, some 74, some 75, some 76, some 77, some 78, some 79, some 80, some 81, some 82, some 83, some 84, some 85, some 86, some 87, some 14] (fun _ i => ([.bool true, .bool true, .agg (U (lim (a - b))), .int .i64 (p), .agg (U (lim a)), .agg (U (lim b)), .int .i64 (p), .bool true, .bool true, .bool true, .agg (U (lim b)), .agg (U (lim a)), .int .i64 (-p), .agg (U (lim a)), .agg (U (lim b)), .int .i64 (p), .int .i64 (-p), .bool true, .bool true, .bool true, .agg (U (lim a)), .agg (U (lim b)), .int .i64 (p), .bool eb, .agg (U (lim a)), .agg (U (lim b)), .bool eb, .bool true, .bool true, .bool true] : List Value).getD i undef) (fun _ _ wx => Blk wx w4.heap.size (U (lim a)) 27 ∧ Blk wx (w4.heap.size + 1) (U (lim b)) 27 ∧ Blk wx (w4.heap.size + 1 + 1) (U (lim c)) 27 ∧ Blk wx w8.heap.size (U (lim (a - b))) 27 ∧ Below w.heap.size w wx) () [0, 1, 2, 3, 4, 5, 6, 7, 8, 9, 10, 11, 12, 13, 14, 15, 16, 17, 18, 19, 20, 21, 22, 23, 24, 25, 26, 27, 28, 29] _ _ rfl (by kernel_rfl) (by kernel_rfl) (by kernel_rfl) (by kernel_rfl) (by kernel_rfl) ⟨k5_0.drew, k5_1.drew, k5_2.drew, k9_0.drew, b9.drew⟩ ?steps ?fin (fun _ _ _ _ _ h => h)
    case steps =>
      refine VSteps.cons rfl (fun x L s wx K kn hL hp hI hK => ?_) ?_
      · have e19 : x[19]? = some (.bool true) := (kn.old 19 (by kernel_rfl)).trans rfl
        refine want_ rfl ?_
        exact val_ (by simp [go_sem, execOp, evc_, e19]) (hK.out s _ (fun _ _ => rfl) hI)
      refine VSteps.cons rfl (fun x L s wx K kn hL hp hI hK => ?_) ?_
      · have e59 : x[59]? = some (.bool true) := kn.got 0 59 (hp ⟨0, .data⟩ (by simp) rfl) rfl
        refine want_ rfl ?_
        exact val_ (by simp [go_sem, execOp, evc_, e59]) (hK.out s _ (fun _ _ => rfl) hI)
      refine VSteps.cons rfl (fun x L s wx K kn hL hp hI hK => ?_) ?_
      · have e18 : x[18]? = some (.pointer (some ⟨w8.heap.size, 0, none⟩)) := (kn.old 18 (by kernel_rfl)).trans rfl
        refine want_ ((guard_ rfl rfl true (show x[60]? = some (.bool true) from kn.got 1 60 (hp ⟨1, .guard⟩ (by simp) rfl) rfl)).trans rfl) ?_
        exact wp_load_row 27 _ rfl w8.heap.size (ev_ e18) 27 (U (lim (a - b))) (0, 0) _ hI.2.2.2.1 Try.underlying27 rfl (ofLen ld) (hK.out s _ (fun _ _ => rfl) hI)
      refine VSteps.cons rfl (fun x L s wx K kn hL hp hI hK => ?_) ?_
      · have e61 : x[61]? = some (.agg (U (lim (a - b)))) := kn.got 2 61 (hp ⟨2, .data⟩ (by simp) rfl) rfl
        refine want_ ((guard_ rfl rfl true (show x[60]? = some (.bool true) from kn.got 1 60 (hp ⟨1, .chain⟩ (by simp) rfl) rfl)).trans rfl) ?_
        refine goesK_ Try.func22 (by kernel_rfl) rfl #[.agg (U (lim (a - b)))] rfl (by simp only [List.map_toArray, List.map_cons, List.map_nil, evc_, ev_ e61]) ((SG _).mono ?_)
        rintro e w' ⟨rfl, g⟩
        obtain ⟨K0, K1, K2, K3, BW⟩ := hI
        exact ⟨_, rfl, hK.out s _ (fun _ _ => rfl) ⟨K0.keep g, K1.keep g, K2.keep g, K3.keep g, bb BW g⟩⟩
      refine VSteps.cons rfl (fun x L s wx K kn hL hp hI hK => ?_) ?_
      · have e15 : x[15]? = some (.pointer (some ⟨w4.heap.size, 0, none⟩)) := (kn.old 15 (by kernel_rfl)).trans rfl
        refine want_ ((guard_ rfl rfl true (show x[60]? = some (.bool true) from kn.got 1 60 (hp ⟨1, .guard⟩ (by simp) rfl) rfl)).trans rfl) ?_
        exact wp_load_row 27 _ rfl w4.heap.size (ev_ e15) 27 (U (lim a)) (0, 0) _ hI.1 Try.underlying27 rfl (ofLen la) (hK.out s _ (fun _ _ => rfl) hI)
      refine VSteps.cons rfl (fun x L s wx K kn hL hp hI hK => ?_) ?_
      · have e16 : x[16]? = some (.pointer (some ⟨(w4.heap.size + 1), 0, none⟩)) := (kn.old 16 (by kernel_rfl)).trans rfl
        refine want_ ((guard_ rfl rfl true (show x[60]? = some (.bool true) from kn.got 1 60 (hp ⟨1, .guard⟩ (by simp) rfl) rfl)).trans rfl) ?_
        exact wp_load_row 27 _ rfl (w4.heap.size + 1) (ev_ e16) 27 (U (lim b)) (0, 0) _ hI.2.1 Try.underlying27 rfl (ofLen lb) (hK.out s _ (fun _ _ => rfl) hI)
      refine VSteps.cons rfl (fun x L s wx K kn hL hp hI hK => ?_) ?_
      · have e63 : x[63]? = some (.agg (U (lim a))) := kn.got 4 63 (hp ⟨4, .data⟩ (by simp) rfl) rfl
        have e64 : x[64]? = some (.agg (U (lim b))) := kn.got 5 64 (hp ⟨5, .data⟩ (by simp) rfl) rfl
        refine want_ ((guard_ rfl rfl true (show x[60]? = some (.bool true) from kn.got 1 60 (hp ⟨1, .guard⟩ (by simp) rfl) rfl)).trans rfl) ?_
        refine goesK_ Try.func20 (by kernel_rfl) rfl #[.agg (U (lim a)), .agg (U (lim b))] rfl (by simp only [List.map_toArray, List.map_cons, List.map_nil, evc_, ev_ e63, ev_ e64]) ((CAB _).mono ?_)
        rintro e w' ⟨rfl, g⟩
        obtain ⟨K0, K1, K2, K3, BW⟩ := hI
        exact ⟨_, rfl, hK.out s _ (fun _ _ => rfl) ⟨K0.keep g, K1.keep g, K2.keep g, K3.keep g, bb BW g⟩⟩
      refine VSteps.cons rfl (fun x L s wx K kn hL hp hI hK => ?_) ?_
      · have e62 : x[62]? = some (.int .i64 (p)) := kn.got 3 62 (hp ⟨3, .data⟩ (by simp) rfl) rfl
        have e65 : x[65]? = some (.int .i64 (p)) := kn.got 6 65 (hp ⟨6, .data⟩ (by simp) rfl) rfl
        refine want_ ((guard_ rfl rfl true (show x[60]? = some (.bool true) from kn.got 1 60 (hp ⟨1, .guard⟩ (by simp) rfl) rfl)).trans rfl) ?_
        exact val_ (by simp [go_sem, execOp, evc_, e62, e65]) (hK.out s _ (fun _ _ => rfl) hI)
      refine VSteps.cons rfl (fun x L s wx K kn hL hp hI hK => ?_) ?_
      · have e60 : x[60]? = some (.bool true) := kn.got 1 60 (hp ⟨1, .data⟩ (by simp) rfl) rfl
        have e66 : x[66]? = some (.bool true) := kn.got 7 66 (hp ⟨7, .data⟩ (by simp) rfl) rfl
        refine want_ rfl ?_
        exact val_ (by simp [go_sem, execOp, evc_, e60, e66]) (hK.out s _ (fun _ _ => rfl) hI)
      refine VSteps.cons rfl (fun x L s wx K kn hL hp hI hK => ?_) ?_
      · have e67 : x[67]? = some (.bool true) := kn.got 8 67 (hp ⟨8, .data⟩ (by simp) rfl) rfl
        refine want_ rfl ?_
        exact val_ (by simp [go_sem, execOp, evc_, e67]) (hK.out s _ (fun _ _ => rfl) hI)
      refine VSteps.cons rfl (fun x L s wx K kn hL hp hI hK => ?_) ?_
      · have e16 : x[16]? = some (.pointer (some ⟨(w4.heap.size + 1), 0, none⟩)) := (kn.old 16 (by kernel_rfl)).trans rfl
        refine want_ ((guard_ rfl rfl true (show x[68]? = some (.bool true) from kn.got 9 68 (hp ⟨9, .guard⟩ (by simp) rfl) rfl)).trans rfl) ?_
        exact wp_load_row 27 _ rfl (w4.heap.size + 1) (ev_ e16) 27 (U (lim b)) (0, 0) _ hI.2.1 Try.underlying27 rfl (ofLen lb) (hK.out s _ (fun _ _ => rfl) hI)
      refine VSteps.cons rfl (fun x L s wx K kn hL hp hI hK => ?_) ?_
      · have e15 : x[15]? = some (.pointer (some ⟨w4.heap.size, 0, none⟩)) := (kn.old 15 (by kernel_rfl)).trans rfl
        refine want_ ((guard_ rfl rfl true (show x[68]? = some (.bool true) from kn.got 9 68 (hp ⟨9, .guard⟩ (by simp) rfl) rfl)).trans rfl) ?_
        exact wp_load_row 27 _ rfl w4.heap.size (ev_ e15) 27 (U (lim a)) (0, 0) _ hI.1 Try.underlying27 rfl (ofLen la) (hK.out s _ (fun _ _ => rfl) hI)
      refine VSteps.cons rfl (fun x L s wx K kn hL hp hI hK => ?_) ?_
      · have e69 : x[69]? = some (.agg (U (lim b))) := kn.got 10 69 (hp ⟨10, .data⟩ (by simp) rfl) rfl
        have e70 : x[70]? = some (.agg (U (lim a))) := kn.got 11 70 (hp ⟨11, .data⟩ (by simp) rfl) rfl
        refine want_ ((guard_ rfl rfl true (show x[68]? = some (.bool true) from kn.got 9 68 (hp ⟨9, .chain⟩ (by simp) rfl) rfl)).trans rfl) ?_
        refine goesK_ Try.func20 (by kernel_rfl) rfl #[.agg (U (lim b)), .agg (U (lim a))] rfl (by simp only [List.map_toArray, List.map_cons, List.map_nil, evc_, ev_ e69, ev_ e70]) ((CBA _).mono ?_)
        rintro e w' ⟨rfl, g⟩
        obtain ⟨K0, K1, K2, K3, BW⟩ := hI
        exact ⟨_, rfl, hK.out s _ (fun _ _ => rfl) ⟨K0.keep g, K1.keep g, K2.keep g, K3.keep g, bb BW g⟩⟩
      refine VSteps.cons rfl (fun x L s wx K kn hL hp hI hK => ?_) ?_
      · have e15 : x[15]? = some (.pointer (some ⟨w4.heap.size, 0, none⟩)) := (kn.old 15 (by kernel_rfl)).trans rfl
        refine want_ ((guard_ rfl rfl true (show x[68]? = some (.bool true) from kn.got 9 68 (hp ⟨9, .guard⟩ (by simp) rfl) rfl)).trans rfl) ?_
        exact wp_load_row 27 _ rfl w4.heap.size (ev_ e15) 27 (U (lim a)) (0, 0) _ hI.1 Try.underlying27 rfl (ofLen la) (hK.out s _ (fun _ _ => rfl) hI)
      refine VSteps.cons rfl (fun x L s wx K kn hL hp hI hK => ?_) ?_
      · have e16 : x[16]? = some (.pointer (some ⟨(w4.heap.size + 1), 0, none⟩)) := (kn.old 16 (by kernel_rfl)).trans rfl
        refine want_ ((guard_ rfl rfl true (show x[68]? = some (.bool true) from kn.got 9 68 (hp ⟨9, .guard⟩ (by simp) rfl) rfl)).trans rfl) ?_
        exact wp_load_row 27 _ rfl (w4.heap.size + 1) (ev_ e16) 27 (U (lim b)) (0, 0) _ hI.2.1 Try.underlying27 rfl (ofLen lb) (hK.out s _ (fun _ _ => rfl) hI)
      refine VSteps.cons rfl (fun x L s wx K kn hL hp hI hK => ?_) ?_
      · have e72 : x[72]? = some (.agg (U (lim a))) := kn.got 13 72 (hp ⟨13, .data⟩ (by simp) rfl) rfl
        have e73 : x[73]? = some (.agg (U (lim b))) := kn.got 14 73 (hp ⟨14, .data⟩ (by simp) rfl) rfl
        refine want_ ((guard_ rfl rfl true (show x[68]? = some (.bool true) from kn.got 9 68 (hp ⟨9, .guard⟩ (by simp) rfl) rfl)).trans rfl) ?_
        refine goesK_ Try.func20 (by kernel_rfl) rfl #[.agg (U (lim a)), .agg (U (lim b))] rfl (by simp only [List.map_toArray, List.map_cons, List.map_nil, evc_, ev_ e72, ev_ e73]) ((CAB _).mono ?_)
        rintro e w' ⟨rfl, g⟩
        obtain ⟨K0, K1, K2, K3, BW⟩ := hI
        exact ⟨_, rfl, hK.out s _ (fun _ _ => rfl) ⟨K0.keep g, K1.keep g, K2.keep g, K3.keep g, bb BW g⟩⟩
      refine VSteps.cons rfl (fun x L s wx K kn hL hp hI hK => ?_) ?_
      · have e74 : x[74]? = some (.int .i64 (p)) := kn.got 15 74 (hp ⟨15, .data⟩ (by simp) rfl) rfl
        refine want_ ((guard_ rfl rfl true (show x[68]? = some (.bool true) from kn.got 9 68 (hp ⟨9, .guard⟩ (by simp) rfl) rfl)).trans rfl) ?_
        exact val_ (by simp [go_sem, execOp, evc_, e74, wn]) (hK.out s _ (fun _ _ => rfl) hI)
      refine VSteps.cons rfl (fun x L s wx K kn hL hp hI hK => ?_) ?_
      · have e71 : x[71]? = some (.int .i64 (-p)) := kn.got 12 71 (hp ⟨12, .data⟩ (by simp) rfl) rfl
        have e75 : x[75]? = some (.int .i64 (-p)) := kn.got 16 75 (hp ⟨16, .data⟩ (by simp) rfl) rfl
        refine want_ ((guard_ rfl rfl true (show x[68]? = some (.bool true) from kn.got 9 68 (hp ⟨9, .guard⟩ (by simp) rfl) rfl)).trans rfl) ?_
        exact val_ (by simp [go_sem, execOp, evc_, e71, e75]) (hK.out s _ (fun _ _ => rfl) hI)
      refine VSteps.cons rfl (fun x L s wx K kn hL hp hI hK => ?_) ?_
      · have e68 : x[68]? = some (.bool true) := kn.got 9 68 (hp ⟨9, .data⟩ (by simp) rfl) rfl
        have e76 : x[76]? = some (.bool true) := kn.got 17 76 (hp ⟨17, .data⟩ (by simp) rfl) rfl
        refine want_ rfl ?_
        exact val_ (by simp [go_sem, execOp, evc_, e68, e76]) (hK.out s _ (fun _ _ => rfl) hI)
      refine VSteps.cons rfl (fun x L s wx K kn hL hp hI hK => ?_) ?_
      · have e77 : x[77]? = some (.bool true) := kn.got 18 77 (hp ⟨18, .data⟩ (by simp) rfl) rfl
        refine want_ rfl ?_
        exact val_ (by simp [go_sem, execOp, evc_, e77]) (hK.out s _ (fun _ _ => rfl) hI)
      refine VSteps.cons rfl (fun x L s wx K kn hL hp hI hK => ?_) ?_
      · have e15 : x[15]? = some (.pointer (some ⟨w4.heap.size, 0, none⟩)) := (kn.old 15 (by kernel_rfl)).trans rfl
        refine want_ ((guard_ rfl rfl true (show x[78]? = some (.bool true) from kn.got 19 78 (hp ⟨19, .guard⟩ (by simp) rfl) rfl)).trans rfl) ?_
        exact wp_load_row 27 _ rfl w4.heap.size (ev_ e15) 27 (U (lim a)) (0, 0) _ hI.1 Try.underlying27 rfl (ofLen la) (hK.out s _ (fun _ _ => rfl) hI)
      refine VSteps.cons rfl (fun x L s wx K kn hL hp hI hK => ?_) ?_
      · have e16 : x[16]? = some (.pointer (some ⟨(w4.heap.size + 1), 0, none⟩)) := (kn.old 16 (by kernel_rfl)).trans rfl
        refine want_ ((guard_ rfl rfl true (show x[78]? = some (.bool true) from kn.got 19 78 (hp ⟨19, .guard⟩ (by simp) rfl) rfl)).trans rfl) ?_
        exact wp_load_row 27 _ rfl (w4.heap.size + 1) (ev_ e16) 27 (U (lim b)) (0, 0) _ hI.2.1 Try.underlying27 rfl (ofLen lb) (hK.out s _ (fun _ _ => rfl) hI)
      refine VSteps.cons rfl (fun x L s wx K kn hL hp hI hK => ?_) ?_
      · have e79 : x[79]? = some (.agg (U (lim a))) := kn.got 20 79 (hp ⟨20, .data⟩ (by simp) rfl) rfl
        have e80 : x[80]? = some (.agg (U (lim b))) := kn.got 21 80 (hp ⟨21, .data⟩ (by simp) rfl) rfl
        refine want_ ((guard_ rfl rfl true (show x[78]? = some (.bool true) from kn.got 19 78 (hp ⟨19, .chain⟩ (by simp) rfl) rfl)).trans rfl) ?_
        refine goesK_ Try.func20 (by kernel_rfl) rfl #[.agg (U (lim a)), .agg (U (lim b))] rfl (by simp only [List.map_toArray, List.map_cons, List.map_nil, evc_, ev_ e79, ev_ e80]) ((CAB _).mono ?_)
        rintro e w' ⟨rfl, g⟩
        obtain ⟨K0, K1, K2, K3, BW⟩ := hI
        exact ⟨_, rfl, hK.out s _ (fun _ _ => rfl) ⟨K0.keep g, K1.keep g, K2.keep g, K3.keep g, bb BW g⟩⟩
      refine VSteps.cons rfl (fun x L s wx K kn hL hp hI hK => ?_) ?_
      · have e81 : x[81]? = some (.int .i64 (p)) := kn.got 22 81 (hp ⟨22, .data⟩ (by simp) rfl) rfl
        refine want_ ((guard_ rfl rfl true (show x[78]? = some (.bool true) from kn.got 19 78 (hp ⟨19, .guard⟩ (by simp) rfl) rfl)).trans rfl) ?_
        exact val_ (by simp [go_sem, execOp, evc_, e81, e3]) (hK.out s _ (fun _ _ => rfl) hI)
      refine VSteps.cons rfl (fun x L s wx K kn hL hp hI hK => ?_) ?_
      · have e15 : x[15]? = some (.pointer (some ⟨w4.heap.size, 0, none⟩)) := (kn.old 15 (by kernel_rfl)).trans rfl
        refine want_ ((guard_ rfl rfl true (show x[78]? = some (.bool true) from kn.got 19 78 (hp ⟨19, .guard⟩ (by simp) rfl) rfl)).trans rfl) ?_
        exact wp_load_row 27 _ rfl w4.heap.size (ev_ e15) 27 (U (lim a)) (0, 0) _ hI.1 Try.underlying27 rfl (ofLen la) (hK.out s _ (fun _ _ => rfl) hI)
      refine VSteps.cons rfl (fun x L s wx K kn hL hp hI hK => ?_) ?_
      · have e16 : x[16]? = some (.pointer (some ⟨(w4.heap.size + 1), 0, none⟩)) := (kn.old 16 (by kernel_rfl)).trans rfl
        refine want_ ((guard_ rfl rfl true (show x[78]? = some (.bool true) from kn.got 19 78 (hp ⟨19, .guard⟩ (by simp) rfl) rfl)).trans rfl) ?_
        exact wp_load_row 27 _ rfl (w4.heap.size + 1) (ev_ e16) 27 (U (lim b)) (0, 0) _ hI.2.1 Try.underlying27 rfl (ofLen lb) (hK.out s _ (fun _ _ => rfl) hI)
      refine VSteps.cons rfl (fun x L s wx K kn hL hp hI hK => ?_) ?_
      · have e83 : x[83]? = some (.agg (U (lim a))) := kn.got 24 83 (hp ⟨24, .data⟩ (by simp) rfl) rfl
        have e84 : x[84]? = some (.agg (U (lim b))) := kn.got 25 84 (hp ⟨25, .data⟩ (by simp) rfl) rfl
        refine want_ ((guard_ rfl rfl true (show x[78]? = some (.bool true) from kn.got 19 78 (hp ⟨19, .guard⟩ (by simp) rfl) rfl)).trans rfl) ?_
        exact val_ (by simp [go_sem, execOp, evc_, e83, e84, Try.eqGuardType27, DL]) (hK.out s _ (fun _ _ => rfl) hI)
      refine VSteps.cons rfl (fun x L s wx K kn hL hp hI hK => ?_) ?_
      · have e82 : x[82]? = some (.bool eb) := kn.got 23 82 (hp ⟨23, .data⟩ (by simp) rfl) rfl
        have e85 : x[85]? = some (.bool eb) := kn.got 26 85 (hp ⟨26, .data⟩ (by simp) rfl) rfl
        refine want_ ((guard_ rfl rfl true (show x[78]? = some (.bool true) from kn.got 19 78 (hp ⟨19, .guard⟩ (by simp) rfl) rfl)).trans rfl) ?_
        exact val_ (by simp [go_sem, execOp, evc_, e82, e85]) (hK.out s _ (fun _ _ => rfl) hI)
      refine VSteps.cons rfl (fun x L s wx K kn hL hp hI hK => ?_) ?_
      · have e78 : x[78]? = some (.bool true) := kn.got 19 78 (hp ⟨19, .data⟩ (by simp) rfl) rfl
        have e86 : x[86]? = some (.bool true) := kn.got 27 86 (hp ⟨27, .data⟩ (by simp) rfl) rfl
        refine want_ rfl ?_
        exact val_ (by simp [go_sem, execOp, evc_, e78, e86]) (hK.out s _ (fun _ _ => rfl) hI)
      refine VSteps.cons rfl (fun x L s wx K kn hL hp hI hK => ?_) ?_
      · have e87 : x[87]? = some (.bool true) := kn.got 28 87 (hp ⟨28, .data⟩ (by simp) rfl) rfl
        refine want_ rfl ?_
        exact val_ (by simp [go_sem, execOp, evc_, e87]) (hK.out s _ (fun _ _ => rfl) hI)
      exact VSteps.nil
    case fin =>
      intro s wx hI
      simp only [puts, List.getD_cons_zero, List.getD_cons_succ, List.set_cons_zero, List.set_cons_succ]
      obtain ⟨K0, K1, K2, K3, BW⟩ := hI
      go_wp2_with fail
      go_ret
      exact ⟨rfl, BW⟩
  · go_wp2_with (first | (with_reducible refine ldW k5_0 la _ (by with_unfolding_all rfl) (by with_unfolding_all rfl) (by with_unfolding_all rfl) ?_) | (with_reducible refine ldW k5_1 lb _ (by with_unfolding_all rfl) (by with_unfolding_all rfl) (by with_unfolding_all rfl) ?_) | (with_reducible refine ldW k5_2 lc _ (by with_unfolding_all rfl) (by with_unfolding_all rfl) (by with_unfolding_all rfl) ?_) | go_skip | (with_reducible refine ldWg k5_0 la _ (by with_unfolding_all rfl) (by with_unfolding_all rfl) (by kernel_rfl) ?_) | (with_reducible refine ldWg k5_1 lb _ (by with_unfolding_all rfl) (by with_unfolding_all rfl) (by kernel_rfl) ?_) | (with_reducible refine ldWg k5_2 lc _ (by with_unfolding_all rfl) (by with_unfolding_all rfl) (by kernel_rfl) ?_))
    refine (CAB _).mono ?_; rintro e w6 ⟨rfl, g⟩
    replace k5_0 := k5_0.keep g
    replace k5_1 := k5_1.keep g
    replace k5_2 := k5_2.keep g
    have b6 := bb b5 g
    clear g b5
    go_wp2_with (first | (with_reducible refine ldW k5_0 la _ (by with_unfolding_all rfl) (by with_unfolding_all rfl) (by with_unfolding_all rfl) ?_) | (with_reducible refine ldW k5_1 lb _ (by with_unfolding_all rfl) (by with_unfolding_all rfl) (by with_unfolding_all rfl) ?_) | (with_reducible refine ldW k5_2 lc _ (by with_unfolding_all rfl) (by with_unfolding_all rfl) (by with_unfolding_all rfl) ?_) | go_skip | (with_reducible refine ldWg k5_0 la _ (by with_unfolding_all rfl) (by with_unfolding_all rfl) (by kernel_rfl) ?_) | (with_reducible refine ldWg k5_1 lb _ (by with_unfolding_all rfl) (by with_unfolding_all rfl) (by kernel_rfl) ?_) | (with_reducible refine ldWg k5_2 lc _ (by with_unfolding_all rfl) (by with_unfolding_all rfl) (by kernel_rfl) ?_))
    refine (SB _).mono ?_; rintro e w7 ⟨rfl, g⟩
    replace k5_0 := k5_0.keep g
    replace k5_1 := k5_1.keep g
    replace k5_2 := k5_2.keep g
    have b7 := bb b6 g
    clear g b6
    obtain ⟨t0, k8_0, b8, up⟩ := new1 b7 (lim (a - b)) _ _ rfl rfl
    replace k5_0 := up _ _ k5_0
    replace k5_1 := up _ _ k5_1
    replace k5_2 := up _ _ k5_2
    have z8 := b7.size
    go_upto_region 7 with (first | (with_reducible refine ldW k5_0 la _ (by with_unfolding_all rfl) (by with_unfolding_all rfl) (by with_unfolding_all rfl) ?_) | (with_reducible refine ldW k5_1 lb _ (by with_unfolding_all rfl) (by with_unfolding_all rfl) (by with_unfolding_all rfl) ?_) | (with_reducible refine ldW k5_2 lc _ (by with_unfolding_all rfl) (by with_unfolding_all rfl) (by with_unfolding_all rfl) ?_) | (with_reducible refine ldW k8_0 ld _ (by with_unfolding_all rfl) (by with_unfolding_all rfl) (by with_unfolding_all rfl) ?_) | go_skip | (with_reducible refine ldWg k5_0 la _ (by with_unfolding_all rfl) (by with_unfolding_all rfl) (by kernel_rfl) ?_) | (with_reducible refine ldWg k5_1 lb _ (by with_unfolding_all rfl) (by with_unfolding_all rfl) (by kernel_rfl) ?_) | (with_reducible refine ldWg k5_2 lc _ (by with_unfolding_all rfl) (by with_unfolding_all rfl) (by kernel_rfl) ?_) | (with_reducible refine ldWg k8_0 ld _ (by with_unfolding_all rfl) (by with_unfolding_all rfl) (by kernel_rfl) ?_) | (with_reducible refine stW t0 zeros_len ld _ _ (by with_unfolding_all rfl) (by with_unfolding_all rfl) (by with_unfolding_all rfl) (by with_unfolding_all rfl) ?_))
    clear up t0 b7
    generalize (w7.alloc (.cells #[.int .u64 0, .int .u64 0, .int .u64 0, .int .u64 0, .int .u64 0, .int .u64 0, .int .u64 0, .int .u64 0, .int .u64 0, .int .u64 0, .int .u64 0, .int .u64 0, .int .u64 0, .int .u64 0, .int .u64 0, .int .u64 0] 27)).setRow w7.heap.size (U (lim (a - b))) = w8 at *
    clear h1 CBC CAC SB
    have e3 := E3.out
    have wn := WN.out
    have DL := DLH.out
    refine region_vals (σ := Unit) [some 59, some 60, some 61, some 62, some 63, some 64, some 65, some 66, some 67, some 68, some 69, some 70, some 71, some 72, some 73, some 74, some 75, some 76, some 77, some 78, some 79, some 80, some 81, some 82, some 83, some 84, some 85, some 86, some 87, some 14] (fun _ i => ([.bool true, .bool true, .agg (U (lim (a - b))), .int .i64 (p), .agg (U (lim a)), .agg (U (lim b)), .int .i64 (p), .bool true, .bool true, .bool true, .agg (U (lim b)), .agg (U (lim a)), .int .i64 (-p), .agg (U (lim a)), .agg (U (lim b)), .int .i64 (p), .int .i64 (-p), .bool true, .bool true, .bool true, .agg (U (lim a)), .agg (U (lim b)), .int .i64 (p), .bool eb, .agg (U (lim a)), .agg (U (lim b)), .bool eb, .bool true, .bool true, .bool true] : List Value).getD i undef) (fun _ _ wx => Blk wx w4.heap.size (U (lim a)) 27 ∧ Blk wx (w4.heap.size + 1) (U (lim b)) 27 ∧ Blk wx (w4.heap.size + 1 + 1) (U (lim c)) 27 ∧ Blk wx w7.heap.size (U (lim (a - b))) 27 ∧ Below w.heap.size w wx) () [0, 1, 2, 3, 4, 5, 6, 7, 8, 9, 10, 11, 12, 13, 14, 15, 16, 17, 18, 19, 20, 21, 22, 23, 24, 25, 26, 27, 28, 29] _ _ rfl (by kernel_rfl) (by kernel_rfl) (by kernel_rfl) (by kernel_rfl) (by kernel_rfl) ⟨k5_0.drew, k5_1.drew, k5_2.drew, k8_0.drew, b8.drew⟩ ?steps ?fin (fun _ _ _ _ _ h => h)
    case steps =>
      refine VSteps.cons rfl (fun x L s wx K kn hL hp hI hK => ?_) ?_
      · have e19 : x[19]? = some (.bool true) := (kn.old 19 (by kernel_rfl)).trans rfl
        refine want_ rfl ?_
        exact val_ (by simp [go_sem, execOp, evc_, e19]) (hK.out s _ (fun _ _ => rfl) hI)
      refine VSteps.cons rfl (fun x L s wx K kn hL hp hI hK => ?_) ?_
      · have e59 : x[59]? = some (.bool true) := kn.got 0 59 (hp ⟨0, .data⟩ (by simp) rfl) rfl
        refine want_ rfl ?_
        exact val_ (by simp [go_sem, execOp, evc_, e59]) (hK.out s _ (fun _ _ => rfl) hI)
      refine VSteps.cons rfl (fun x L s wx K kn hL hp hI hK => ?_) ?_
      · have e18 : x[18]? = some (.pointer (some ⟨w7.heap.size, 0, none⟩)) := (kn.old 18 (by kernel_rfl)).trans rfl
        refine want_ ((guard_ rfl rfl true (show x[60]? = some (.bool true) from kn.got 1 60 (hp ⟨1, .guard⟩ (by simp) rfl) rfl)).trans rfl) ?_
        exact wp_load_row 27 _ rfl w7.heap.size (ev_ e18) 27 (U (lim (a - b))) (0, 0) _ hI.2.2.2.1 Try.underlying27 rfl (ofLen ld) (hK.out s _ (fun _ _ => rfl) hI)
      refine VSteps.cons rfl (fun x L s wx K kn hL hp hI hK => ?_) ?_
      · have e61 : x[61]? = some (.agg (U (lim (a - b)))) := kn.got 2 61 (hp ⟨2, .data⟩ (by simp) rfl) rfl
        refine want_ ((guard_ rfl rfl true (show x[60]? = some (.bool true) from kn.got 1 60 (hp ⟨1, .chain⟩ (by simp) rfl) rfl)).trans rfl) ?_
        refine goesK_ Try.func22 (by kernel_rfl) rfl #[.agg (U (lim (a - b)))] rfl (by simp only [List.map_toArray, List.map_cons, List.map_nil, evc_, ev_ e61]) ((SG _).mono ?_)
        rintro e w' ⟨rfl, g⟩
        obtain ⟨K0, K1, K2, K3, BW⟩ := hI
        exact ⟨_, rfl, hK.out s _ (fun _ _ => rfl) ⟨K0.keep g, K1.keep g, K2.keep g, K3.keep g, bb BW g⟩⟩
      refine VSteps.cons rfl (fun x L s wx K kn hL hp hI hK => ?_) ?_
      · have e15 : x[15]? = some (.pointer (some ⟨w4.heap.size, 0, none⟩)) := (kn.old 15 (by kernel_rfl)).trans rfl
        refine want_ ((guard_ rfl rfl true (show x[60]? = some (.bool true) from kn.got 1 60 (hp ⟨1, .guard⟩ (by simp) rfl) rfl)).trans rfl) ?_
        exact wp_load_row 27 _ rfl w4.heap.size (ev_ e15) 27 (U (lim a)) (0, 0) _ hI.1 Try.underlying27 rfl (ofLen la) (hK.out s _ (fun _ _ => rfl) hI)
      refine VSteps.cons rfl (fun x L s wx K kn hL hp hI hK => ?_) ?_
      · have e16 : x[16]? = some (.pointer (some ⟨(w4.heap.size + 1), 0, none⟩)) := (kn.old 16 (by kernel_rfl)).trans rfl
        refine want_ ((guard_ rfl rfl true (show x[60]? = some (.bool true) from kn.got 1 60 (hp ⟨1, .guard⟩ (by simp) rfl) rfl)).trans rfl) ?_
        exact wp_load_row 27 _ rfl (w4.heap.size + 1) (ev_ e16) 27 (U (lim b)) (0, 0) _ hI.2.1 Try.underlying27 rfl (ofLen lb) (hK.out s _ (fun _ _ => rfl) hI)
      refine VSteps.cons rfl (fun x L s wx K kn hL hp hI hK => ?_) ?_
      · have e63 : x[63]? = some (.agg (U (lim a))) := kn.got 4 63 (hp ⟨4, .data⟩ (by simp) rfl) rfl
        have e64 : x[64]? = some (.agg (U (lim b))) := kn.got 5 64 (hp ⟨5, .data⟩ (by simp) rfl) rfl
        refine want_ ((guard_ rfl rfl true (show x[60]? = some (.bool true) from kn.got 1 60 (hp ⟨1, .guard⟩ (by simp) rfl) rfl)).trans rfl) ?_
        refine goesK_ Try.func20 (by kernel_rfl) rfl #[.agg (U (lim a)), .agg (U (lim b))] rfl (by simp only [List.map_toArray, List.map_cons, List.map_nil, evc_, ev_ e63, ev_ e64]) ((CAB _).mono ?_)
        rintro e w' ⟨rfl, g⟩
        obtain ⟨K0, K1, K2, K3, BW⟩ := hI
        exact ⟨_, rfl, hK.out s _ (fun _ _ => rfl) ⟨K0.keep g, K1.keep g, K2.keep g, K3.keep g, bb BW g⟩⟩
      refine VSteps.cons rfl (fun x L s wx K kn hL hp hI hK => ?_) ?_
      · have e62 : x[62]? = some (.int .i64 (p)) := kn.got 3 62 (hp ⟨3, .data⟩ (by simp) rfl) rfl
        have e65 : x[65]? = some (.int .i64 (p)) := kn.got 6 65 (hp ⟨6, .data⟩ (by simp) rfl) rfl
        refine want_ ((guard_ rfl rfl true (show x[60]? = some (.bool true) from kn.got 1 60 (hp ⟨1, .guard⟩ (by simp) rfl) rfl)).trans rfl) ?_
        exact val_ (by simp [go_sem, execOp, evc_, e62, e65]) (hK.out s _ (fun _ _ => rfl) hI)
      refine VSteps.cons rfl (fun x L s wx K kn hL hp hI hK => ?_) ?_
      · have e60 : x[60]? = some (.bool true) := kn.got 1 60 (hp ⟨1, .data⟩ (by simp) rfl) rfl
        have e66 : x[66]? = some (.bool true) := kn.got 7 66 (hp ⟨7, .data⟩ (by simp) rfl) rfl
        refine want_ rfl ?_
        exact val_ (by simp [go_sem, execOp, evc_, e60, e66]) (hK.out s _ (fun _ _ => rfl) hI)
      refine VSteps.cons rfl (fun x L s wx K kn hL hp hI hK => ?_) ?_
      · have e67 : x[67]? = some (.bool true) := kn.got 8 67 (hp ⟨8, .data⟩ (by simp) rfl) rfl
        refine want_ rfl ?_
        exact val_ (by simp [go_sem, execOp, evc_, e67]) (hK.out s _ (fun _ _ => rfl) hI)
      refine VSteps.cons rfl (fun x L s wx K kn hL hp hI hK => ?_) ?_
      · have e16 : x[16]? = some (.pointer (some ⟨(w4.heap.size + 1), 0, none⟩)) := (kn.old 16 (by kernel_rfl)).trans rfl
        refine want_ ((guard_ rfl rfl true (show x[68]? = some (.bool true) from kn.got 9 68 (hp ⟨9, .guard⟩ (by simp) rfl) rfl)).trans rfl) ?_
        exact wp_load_row 27 _ rfl (w4.heap.size + 1) (ev_ e16) 27 (U (lim b)) (0, 0) _ hI.2.1 Try.underlying27 rfl (ofLen lb) (hK.out s _ (fun _ _ => rfl) hI)
      refine VSteps.cons rfl (fun x L s wx K kn hL hp hI hK => ?_) ?_
      · have e15 : x[15]? = some (.pointer (some ⟨w4.heap.size, 0, none⟩)) := (kn.old 15 (by kernel_rfl)).trans rfl
        refine want_ ((guard_ rfl rfl true (show x[68]? = some (.bool true) from kn.got 9 68 (hp ⟨9, .guard⟩ (by simp) rfl) rfl)).trans rfl) ?_
        exact wp_load_row 27 _ rfl w4.heap.size (ev_ e15) 27 (U (lim a)) (0, 0) _ hI.1 Try.underlying27 rfl (ofLen la) (hK.out s _ (fun _ _ => rfl) hI)
      refine VSteps.cons rfl (fun x L s wx K kn hL hp hI hK => ?_) ?_
      · have e69 : x[69]? = some (.agg (U (lim b))) := kn.got 10 69 (hp ⟨10, .data⟩ (by simp) rfl) rfl
        have e70 : x[70]? = some (.agg (U (lim a))) := kn.got 11 70 (hp ⟨11, .data⟩ (by simp) rfl) rfl
        refine want_ ((guard_ rfl rfl true (show x[68]? = some (.bool true) from kn.got 9 68 (hp ⟨9, .chain⟩ (by simp) rfl) rfl)).trans rfl) ?_
        refine goesK_ Try.func20 (by kernel_rfl) rfl #[.agg (U (lim b)), .agg (U (lim a))] rfl (by simp only [List.map_toArray, List.map_cons, List.map_nil, evc_, ev_ e69, ev_ e70]) ((CBA _).mono ?_)
        rintro e w' ⟨rfl, g⟩
        obtain ⟨K0, K1, K2, K3, BW⟩ := hI
        exact ⟨_, rfl, hK.out s _ (fun _ _ => rfl) ⟨K0.keep g, K1.keep g, K2.keep g, K3.keep g, bb BW g⟩⟩
      refine VSteps.cons rfl (fun x L s wx K kn hL hp hI hK => ?_) ?_
      · have e15 : x[15]? = some (.pointer (some ⟨w4.heap.size, 0, none⟩)) := (kn.old 15 (by kernel_rfl)).trans rfl
        refine want_ ((guard_ rfl rfl true (show x[68]? = some (.bool true) from kn.got 9 68 (hp ⟨9, .guard⟩ (by simp) rfl) rfl)).trans rfl) ?_
        exact wp_load_row 27 _ rfl w4.heap.size (ev_ e15) 27 (U (lim a)) (0, 0) _ hI.1 Try.underlying27 rfl (ofLen la) (hK.out s _ (fun _ _ => rfl) hI)
      refine VSteps.cons rfl (fun x L s wx K kn hL hp hI hK => ?_) ?_
      · have e16 : x[16]? = some (.pointer (some ⟨(w4.heap.size + 1), 0, none⟩)) := (kn.old 16 (by kernel_rfl)).trans rfl
        refine want_ ((guard_ rfl rfl true (show x[68]? = some (.bool true) from kn.got 9 68 (hp ⟨9, .guard⟩ (by simp) rfl) rfl)).trans rfl) ?_
        exact wp_load_row 27 _ rfl (w4.heap.size + 1) (ev_ e16) 27 (U (lim b)) (0, 0) _ hI.2.1 Try.underlying27 rfl (ofLen lb) (hK.out s _ (fun _ _ => rfl) hI)
      refine VSteps.cons rfl (fun x L s wx K kn hL hp hI hK => ?_) ?_
      · have e72 : x[72]? = some (.agg (U (lim a))) := kn.got 13 72 (hp ⟨13, .data⟩ (by simp) rfl) rfl
        have e73 : x[73]? = some (.agg (U (lim b))) := kn.got 14 73 (hp ⟨14, .data⟩ (by simp) rfl) rfl
        refine want_ ((guard_ rfl rfl true (show x[68]? = some (.bool true) from kn.got 9 68 (hp ⟨9, .guard⟩ (by simp) rfl) rfl)).trans rfl) ?_
        refine goesK_ Try.func20 (by kernel_rfl) rfl #[.agg (U (lim a)), .agg (U (lim b))] rfl (by simp only [List.map_toArray, List.map_cons, List.map_nil, evc_, ev_ e72, ev_ e73]) ((CAB _).mono ?_)
        rintro e w' ⟨rfl, g⟩
        obtain ⟨K0, K1, K2, K3, BW⟩ := hI
        exact ⟨_, rfl, hK.out s _ (fun _ _ => rfl) ⟨K0.keep g, K1.keep g, K2.keep g, K3.keep g, bb BW g⟩⟩
      refine VSteps.cons rfl (fun x L s wx K kn hL hp hI hK => ?_) ?_
      · have e74 : x[74]? = some (.int .i64 (p)) := kn.got 15 74 (hp ⟨15, .data⟩ (by simp) rfl) rfl
        refine want_ ((guard_ rfl rfl true (show x[68]? = some (.bool true) from kn.got 9 68 (hp ⟨9, .guard⟩ (by simp) rfl) rfl)).trans rfl) ?_
        exact val_ (by simp [go_sem, execOp, evc_, e74, wn]) (hK.out s _ (fun _ _ => rfl) hI)
      refine VSteps.cons rfl (fun x L s wx K kn hL hp hI hK => ?_) ?_
      · have e71 : x[71]? = some (.int .i64 (-p)) := kn.got 12 71 (hp ⟨12, .data⟩ (by simp) rfl) rfl
        have e75 : x[75]? = some (.int .i64 (-p)) := kn.got 16 75 (hp ⟨16, .data⟩ (by simp) rfl) rfl
        refine want_ ((guard_ rfl rfl true (show x[68]? = some (.bool true) from kn.got 9 68 (hp ⟨9, .guard⟩ (by simp) rfl) rfl)).trans rfl) ?_
        exact val_ (by simp [go_sem, execOp, evc_, e71, e75]) (hK.out s _ (fun _ _ => rfl) hI)
      refine VSteps.cons rfl (fun x L s wx K kn hL hp hI hK => ?_) ?_
      · have e68 : x[68]? = some (.bool true) := kn.got 9 68 (hp ⟨9, .data⟩ (by simp) rfl) rfl
        have e76 : x[76]? = some (.bool true) := kn.got 17 76 (hp ⟨17, .data⟩ (by simp) rfl) rfl
        refine want_ rfl ?_
        exact val_ (by simp [go_sem, execOp, evc_, e68, e76]) (hK.out s _ (fun _ _ => rfl) hI)
      refine VSteps.cons rfl (fun x L s wx K kn hL hp hI hK => ?_) ?_
      · have e77 : x[77]? = some (.bool true) := kn.got 18 77 (hp ⟨18, .data⟩ (by simp) rfl) rfl
        refine want_ rfl ?_
        exact val_ (by simp [go_sem, execOp, evc_, e77]) (hK.out s _ (fun _ _ => rfl) hI)
      refine VSteps.cons rfl (fun x L s wx K kn hL hp hI hK => ?_) ?_
      · have e15 : x[15]? = some (.pointer (some ⟨w4.heap.size, 0, none⟩)) := (kn.old 15 (by kernel_rfl)).trans rfl
        refine want_ ((guard_ rfl rfl true (show x[78]? = some (.bool true) from kn.got 19 78 (hp ⟨19, .guard⟩ (by simp) rfl) rfl)).trans rfl) ?_
        exact wp_load_row 27 _ rfl w4.heap.size (ev_ e15) 27 (U (lim a)) (0, 0) _ hI.1 Try.underlying27 rfl (ofLen la) (hK.out s _ (fun _ _ => rfl) hI)
      refine VSteps.cons rfl (fun x L s wx K kn hL hp hI hK => ?_) ?_
      · have e16 : x[16]? = some (.pointer (some ⟨(w4.heap.size + 1), 0, none⟩)) := (kn.old 16 (by kernel_rfl)).trans rfl
        refine want_ ((guard_ rfl rfl true (show x[78]? = some (.bool true) from kn.got 19 78 (hp ⟨19, .guard⟩ (by simp) rfl) rfl)).trans rfl) ?_
        exact wp_load_row 27 _ rfl (w4.heap.size + 1) (ev_ e16) 27 (U (lim b)) (0, 0) _ hI.2.1 Try.underlying27 rfl (ofLen lb) (hK.out s _ (fun _ _ => rfl) hI)
      refine VSteps.cons rfl (fun x L s wx K kn hL hp hI hK => ?_) ?_
      · have e79 : x[79]? = some (.agg (U (lim a))) := kn.got 20 79 (hp ⟨20, .data⟩ (by simp) rfl) rfl
        have e80 : x[80]? = some (.agg (U (lim b))) := kn.got 21 80 (hp ⟨21, .data⟩ (by simp) rfl) rfl
        refine want_ ((guard_ rfl rfl true (show x[78]? = some (.bool true) from kn.got 19 78 (hp ⟨19, .chain⟩ (by simp) rfl) rfl)).trans rfl) ?_
        refine goesK_ Try.func20 (by kernel_rfl) rfl #[.agg (U (lim a)), .agg (U (lim b))] rfl (by simp only [List.map_toArray, List.map_cons, List.map_nil, evc_, ev_ e79, ev_ e80]) ((CAB _).mono ?_)
        rintro e w' ⟨rfl, g⟩
        obtain ⟨K0, K1, K2, K3, BW⟩ := hI
        exact ⟨_, rfl, hK.out s _ (fun _ _ => rfl) ⟨K0.keep g, K1.keep g, K2.keep g, K3.keep g, bb BW g⟩⟩
      refine VSteps.cons rfl (fun x L s wx K kn hL hp hI hK => ?_) ?_
      · have e81 : x[81]? = some (.int .i64 (p)) := kn.got 22 81 (hp ⟨22, .data⟩ (by simp) rfl) rfl
        refine want_ ((guard_ rfl rfl true (show x[78]? = some (.bool true) from kn.got 19 78 (hp ⟨19, .guard⟩ (by simp) rfl) rfl)).trans rfl) ?_
        exact val_ (by simp [go_sem, execOp, evc_, e81, e3]) (hK.out s _ (fun _ _ => rfl) hI)
      refine VSteps.cons rfl (fun x L s wx K kn hL hp hI hK => ?_) ?_
      · have e15 : x[15]? = some (.pointer (some ⟨w4.heap.size, 0, none⟩)) := (kn.old 15 (by kernel_rfl)).trans rfl
        refine want_ ((guard_ rfl rfl true (show x[78]? = some (.bool true) from kn.got 19 78 (hp ⟨19, .guard⟩ (by simp) rfl) rfl)).trans rfl) ?_
        exact wp_load_row 27 _ rfl w4.heap.size (ev_ e15) 27 (U (lim a)) (0, 0) _ hI.1 Try.underlying27 rfl (ofLen la) (hK.out s _ (fun _ _ => rfl) hI)
      refine VSteps.cons rfl (fun x L s wx K kn hL hp hI hK => ?_) ?_
      · have e16 : x[16]? = some (.pointer (some ⟨(w4.heap.size + 1), 0, none⟩)) := (kn.old 16 (by kernel_rfl)).trans rfl
        refine want_ ((guard_ rfl rfl true (show x[78]? = some (.bool true) from kn.got 19 78 (hp ⟨19, .guard⟩ (by simp) rfl) rfl)).trans rfl) ?_
        exact wp_load_row 27 _ rfl (w4.heap.size + 1) (ev_ e16) 27 (U (lim b)) (0, 0) _ hI.2.1 Try.underlying27 rfl (ofLen lb) (hK.out s _ (fun _ _ => rfl) hI)
      refine VSteps.cons rfl (fun x L s wx K kn hL hp hI hK => ?_) ?_
      · have e83 : x[83]? = some (.agg (U (lim a))) := kn.got 24 83 (hp ⟨24, .data⟩ (by simp) rfl) rfl
        have e84 : x[84]? = some (.agg (U (lim b))) := kn.got 25 84 (hp ⟨25, .data⟩ (by simp) rfl) rfl
        refine want_ ((guard_ rfl rfl true (show x[78]? = some (.bool true) from kn.got 19 78 (hp ⟨19, .guard⟩ (by simp) rfl) rfl)).trans rfl) ?_
        exact val_ (by simp [go_sem, execOp, evc_, e83, e84, Try.eqGuardType27, DL]) (hK.out s _ (fun _ _ => rfl) hI)
      refine VSteps.cons rfl (fun x L s wx K kn hL hp hI hK => ?_) ?_
      · have e82 : x[82]? = some (.bool eb) := kn.got 23 82 (hp ⟨23, .data⟩ (by simp) rfl) rfl
        have e85 : x[85]? = some (.bool eb) := kn.got 26 85 (hp ⟨26, .data⟩ (by simp) rfl) rfl
        refine want_ ((guard_ rfl rfl true (show x[78]? = some (.bool true) from kn.got 19 78 (hp ⟨19, .guard⟩ (by simp) rfl) rfl)).trans rfl) ?_
        exact val_ (by simp [go_sem, execOp, evc_, e82, e85]) (hK.out s _ (fun _ _ => rfl) hI)
      refine VSteps.cons rfl (fun x L s wx K kn hL hp hI hK => ?_) ?_
      · have e78 : x[78]? = some (.bool true) := kn.got 19 78 (hp ⟨19, .data⟩ (by simp) rfl) rfl
        have e86 : x[86]? = some (.bool true) := kn.got 27 86 (hp ⟨27, .data⟩ (by simp) rfl) rfl
        refine want_ rfl ?_
        exact val_ (by simp [go_sem, execOp, evc_, e78, e86]) (hK.out s _ (fun _ _ => rfl) hI)
      refine VSteps.cons rfl (fun x L s wx K kn hL hp hI hK => ?_) ?_
      · have e87 : x[87]? = some (.bool true) := kn.got 28 87 (hp ⟨28, .data⟩ (by simp) rfl) rfl
        refine want_ rfl ?_
        exact val_ (by simp [go_sem, execOp, evc_, e87]) (hK.out s _ (fun _ _ => rfl) hI)
      exact VSteps.nil
    case fin =>
      intro s wx hI
      simp only [puts, List.getD_cons_zero, List.getD_cons_succ, List.set_cons_zero, List.set_cons_succ]
      obtain ⟨K0, K1, K2, K3, BW⟩ := hI
      go_wp2_with fail
      go_ret
      exact ⟨rfl, BW⟩
end Go.Proofs.Ytpdljoalfmgfiaa.YWide
