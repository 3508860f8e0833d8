/- The walk of the law WideRing. No condition. -/
import Derived.Test.YtpdljoalfmgfiaaYWideLawh
namespace Go.Proofs.Ytpdljoalfmgfiaa.YWide
open Go.RowKit Go.Proofs.Ytpdljoalfmgfiaa.YInv Go.Proofs.Ytpdljoalfmgfiaa.YErr Go.Proofs.Ytpdljoalfmgfiaa.YRef Go.Proofs.Ytpdljoalfmgfiaa.YNum Go.Proofs.Ytpdljoalfmgfiaa.YBits Go.Proofs.Ytpdljoalfmgfiaa.XCarry Go.Proofs.Ytpdljoalfmgfiaa.QWd Go.Proofs.YtpdljoalfmgfiaaW.PrintWords Go.Proofs.YtpdljoalfmgfiaaW.PrintLast
set_option linter.unusedVariables false
set_option linter.unusedSimpArgs false
set_option maxRecDepth 100000 in
set_option maxHeartbeats 32000000 in
theorem WideRing_calls (A0 : Option Addr) (c0 : Nat) (l0 : List Int) (A1 : Option Addr) (c1 : Nat) (l1 : List Int) (A2 : Option Addr) (c2 : Nat) (l2 : List Int) (n p q : Int) (ng mg : Bool) (w : World) (y0 : l0.length ≤ c0) (z0 : c0 ≤ maxLen) (wl0 : ∀ n ∈ l0, (Lit.int .u64 n).wf = true) (hl0 : LiesK .u64 w A0 l0) (y1 : l1.length ≤ c1) (z1 : c1 ≤ maxLen) (wl1 : ∀ n ∈ l1, (Lit.int .u64 n).wf = true) (hl1 : LiesK .u64 w A1 l1) (y2 : l2.length ≤ c2) (z2 : c2 ≤ maxLen) (wl2 : ∀ n ∈ l2, (Lit.int .u64 n).wf = true) (hl2 : LiesK .u64 w A2 l2) (wn0 : (Lit.int .u16 n).wf = true) (wp0 : (Lit.int .u16 p).wf = true) (wq0 : (Lit.int .u16 q).wf = true) : Calls Try.prog 8 #[.slice A0 l0.length c0, .slice A1 l1.length c1, .slice A2 l2.length c2, .int .u16 n, .int .u16 p, .int .u16 q, .bool ng, .bool mg] w fun e w' => e = .returned (.bool true) ∧ Below w.heap.size w w' := by
  have d0 := dig_wf wl0
  have m0 : l0.length ≤ 9223372036854775807 := by unfold maxLen at z0; omega
  have d1 := dig_wf wl1
  have m1 : l1.length ≤ 9223372036854775807 := by unfold maxLen at z1; omega
  have d2 := dig_wf wl2
  have m2 : l2.length ≤ 9223372036854775807 := by unfold maxLen at z2; omega
  obtain ⟨n0, n1⟩ := wf_u16' wn0
  obtain ⟨p0, p1⟩ := wf_u16' wp0
  obtain ⟨q0, q1⟩ := wf_u16' wq0
  obtain ⟨ma, ha⟩ : ∃ k : Nat, n % 330 = (k : Int) := ⟨(n % 330).toNat, by omega⟩
  obtain ⟨mb, hb⟩ : ∃ k : Nat, p % 330 = (k : Int) := ⟨(p % 330).toNat, by omega⟩
  obtain ⟨mc, hc⟩ : ∃ k : Nat, q % 330 = (k : Int) := ⟨(q % 330).toNat, by omega⟩
  have HA := fun (W : World) (h : LiesK .u64 W A0 l0) => made_7 (c := c0) h d0 m0 ma (by omega) ng
  have HB := fun (W : World) (h : LiesK .u64 W A1 l1) => made_7 (c := c1) h d1 m1 mb (by omega) mg
  have HC := fun (W : World) (h : LiesK .u64 W A2 l2) => made_7 (c := c2) h d2 m2 mc (by omega) ng
  have KN := fun W => known_c W
  have b0 := Below.refl w.heap.size w
  clear wl0 wl1 wl2 wn0 wp0 wq0 d0 d1 d2
  go_enter Try.func8, Try.ntmps8
  go_wp2_with fail
  refine (KN _).mono ?_; rintro e w1 ⟨rfl, g⟩
  have b1 := bb b0 g
  clear g b0
  go_wp2_with fail
  refine (HA _ (hl0.keep b1)).mono ?_; rintro e w2 ⟨a, a0x, a1x, rfl, g⟩
  have b2 := bb b1 g
  clear g b1
  go_wp2_with fail
  refine (HB _ (hl1.keep b2)).mono ?_; rintro e w3 ⟨b, b0x, b1x, rfl, g⟩
  have b3 := bb b2 g
  clear g b2
  go_wp2_with fail
  refine (HC _ (hl2.keep b3)).mono ?_; rintro e w4 ⟨c, c0x, c1x, rfl, g⟩
  have b4 := bb b3 g
  clear g b3
  have Ba := Bd.mono (Bd.of a0x a1x) (show ma ≤ 330 by omega)
  have Bb := Bd.mono (Bd.of b0x b1x) (show mb ≤ 330 by omega)
  have Bc := Bd.mono (Bd.of c0x c1x) (show mc ≤ 330 by omega)
  have ia := Ba.inW (by decide)
  have ib := Bb.inW (by decide)
  have ic := Bc.inW (by decide)
  have is := (Ba.add Bb).inW (by decide)
  have it := ((Ba.add Bb).mul Bc).inW (by decide)
  have iu := (Ba.mul Bc).inW (by decide)
  have iv := (Bb.mul Bc).inW (by decide)
  have ix := (Ba.mul Bb).inW (by decide)
  have iy := ((Ba.mul Bb).mul Bc).inW (by decide)
  have AB := fun W => add_w W ia ib is rfl
  have SC := fun W => mul_w W is ic it rfl
  have AC := fun W => mul_w W ia ic iu rfl
  have BC := fun W => mul_w W ib ic iv rfl
  have UV := fun W => add_w W iu iv it (Int.add_mul a b c).symm
  have XM := fun W => mul_w W ia ib ix rfl
  have XC := fun W => mul_w W ix ic iy rfl
  have AV := fun W => mul_w W ia iv iy (Int.mul_assoc a b c).symm
  have EQ1 := fun W => eql_same W ((a + b) * c)
  have EQ2 := fun W => eql_same W (a * b * c)
  have la := lim_len a
  have lb := lim_len b
  have lc := lim_len c
  have ls := lim_len (a + b)
  have lt := lim_len ((a + b) * c)
  have lu := lim_len (a * c)
  have lv := lim_len (b * c)
  have lx := lim_len (a * b)
  have ly := lim_len (a * b * c)
  have E1 := Lib.hid EQ1
  have E2 := Lib.hid EQ2
  clear a0x a1x b0x b1x c0x c1x ia ib ic is it iu iv ix iy Ba Bb Bc HA HB HC EQ1 EQ2
  generalize lim ((a + b) * c) = Lt at *
  generalize lim (a * b * c) = Ly at *
  generalize lim (a + b) = Ls at *
  generalize lim (a * c) = Lu at *
  generalize lim (b * c) = Lv at *
  generalize lim (a * b) = Lx at *
  generalize lim a = La at *
  generalize lim b = Lb at *
  generalize lim c = Lc at *
  obtain ⟨t0, t1, t2, k5_0, k5_1, k5_2, b5, up⟩ := new3 b4 (La) (Lb) (Lc) _ _ _ _ rfl rfl rfl rfl
  have z5 := b4.size
  go_upto_region 4 with (first | (with_reducible refine stW t0 zeros_len la _ _ (by with_unfolding_all rfl) (by with_unfolding_all rfl) (by with_unfolding_all rfl) (by with_unfolding_all rfl) ?_) | (with_reducible refine stW t1 zeros_len lb _ _ (by with_unfolding_all rfl) (by with_unfolding_all rfl) (by with_unfolding_all rfl) (by with_unfolding_all rfl) ?_) | (with_reducible refine stW t2 zeros_len lc _ _ (by with_unfolding_all rfl) (by with_unfolding_all rfl) (by with_unfolding_all rfl) (by with_unfolding_all rfl) ?_))
  clear up t0 t1 t2 b4
  generalize (((((w4.alloc (.cells #[.int .u64 0, .int .u64 0, .int .u64 0, .int .u64 0, .int .u64 0, .int .u64 0, .int .u64 0, .int .u64 0, .int .u64 0, .int .u64 0, .int .u64 0, .int .u64 0, .int .u64 0, .int .u64 0, .int .u64 0, .int .u64 0] 27)).alloc (.cells #[.int .u64 0, .int .u64 0, .int .u64 0, .int .u64 0, .int .u64 0, .int .u64 0, .int .u64 0, .int .u64 0, .int .u64 0, .int .u64 0, .int .u64 0, .int .u64 0, .int .u64 0, .int .u64 0, .int .u64 0, .int .u64 0] 27)).alloc (.cells #[.int .u64 0, .int .u64 0, .int .u64 0, .int .u64 0, .int .u64 0, .int .u64 0, .int .u64 0, .int .u64 0, .int .u64 0, .int .u64 0, .int .u64 0, .int .u64 0, .int .u64 0, .int .u64 0, .int .u64 0, .int .u64 0] 27)).setRow w4.heap.size (U (La))).setRow (w4.heap.size + 1) (U (Lb))).setRow (w4.heap.size + 1 + 1) (U (Lc)) = w5 at *
  go_wp2_with (first | (with_reducible refine ldW k5_0 la _ (by with_unfolding_all rfl) (by with_unfolding_all rfl) (by with_unfolding_all rfl) ?_) | (with_reducible refine ldW k5_1 lb _ (by with_unfolding_all rfl) (by with_unfolding_all rfl) (by with_unfolding_all rfl) ?_) | (with_reducible refine ldW k5_2 lc _ (by with_unfolding_all rfl) (by with_unfolding_all rfl) (by with_unfolding_all rfl) ?_) | go_skip | (with_reducible refine ldWg k5_0 la _ (by with_unfolding_all rfl) (by with_unfolding_all rfl) (by kernel_rfl) ?_) | (with_reducible refine ldWg k5_1 lb _ (by with_unfolding_all rfl) (by with_unfolding_all rfl) (by kernel_rfl) ?_) | (with_reducible refine ldWg k5_2 lc _ (by with_unfolding_all rfl) (by with_unfolding_all rfl) (by kernel_rfl) ?_))
  refine (AB _).mono ?_; rintro e w6 ⟨rfl, g⟩
  replace k5_0 := k5_0.keep g
  replace k5_1 := k5_1.keep g
  replace k5_2 := k5_2.keep g
  have b6 := bb b5 g
  clear g b5
  obtain ⟨t0, k7_0, b7, up⟩ := new1 b6 (Ls) _ _ rfl rfl
  replace k5_0 := up _ _ k5_0
  replace k5_1 := up _ _ k5_1
  replace k5_2 := up _ _ k5_2
  have z7 := b6.size
  go_upto_region 5 with (first | (with_reducible refine ldW k5_0 la _ (by with_unfolding_all rfl) (by with_unfolding_all rfl) (by with_unfolding_all rfl) ?_) | (with_reducible refine ldW k5_1 lb _ (by with_unfolding_all rfl) (by with_unfolding_all rfl) (by with_unfolding_all rfl) ?_) | (with_reducible refine ldW k5_2 lc _ (by with_unfolding_all rfl) (by with_unfolding_all rfl) (by with_unfolding_all rfl) ?_) | (with_reducible refine ldW k7_0 ls _ (by with_unfolding_all rfl) (by with_unfolding_all rfl) (by with_unfolding_all rfl) ?_) | go_skip | (with_reducible refine ldWg k5_0 la _ (by with_unfolding_all rfl) (by with_unfolding_all rfl) (by kernel_rfl) ?_) | (with_reducible refine ldWg k5_1 lb _ (by with_unfolding_all rfl) (by with_unfolding_all rfl) (by kernel_rfl) ?_) | (with_reducible refine ldWg k5_2 lc _ (by with_unfolding_all rfl) (by with_unfolding_all rfl) (by kernel_rfl) ?_) | (with_reducible refine ldWg k7_0 ls _ (by with_unfolding_all rfl) (by with_unfolding_all rfl) (by kernel_rfl) ?_) | (with_reducible refine stW t0 zeros_len ls _ _ (by with_unfolding_all rfl) (by with_unfolding_all rfl) (by with_unfolding_all rfl) (by with_unfolding_all rfl) ?_))
  clear up t0 b6
  generalize (w6.alloc (.cells #[.int .u64 0, .int .u64 0, .int .u64 0, .int .u64 0, .int .u64 0, .int .u64 0, .int .u64 0, .int .u64 0, .int .u64 0, .int .u64 0, .int .u64 0, .int .u64 0, .int .u64 0, .int .u64 0, .int .u64 0, .int .u64 0] 27)).setRow w6.heap.size (U (Ls)) = w7 at *
  clear AB
  go_wp2_with (first | (with_reducible refine ldW k5_0 la _ (by with_unfolding_all rfl) (by with_unfolding_all rfl) (by with_unfolding_all rfl) ?_) | (with_reducible refine ldW k5_1 lb _ (by with_unfolding_all rfl) (by with_unfolding_all rfl) (by with_unfolding_all rfl) ?_) | (with_reducible refine ldW k5_2 lc _ (by with_unfolding_all rfl) (by with_unfolding_all rfl) (by with_unfolding_all rfl) ?_) | (with_reducible refine ldW k7_0 ls _ (by with_unfolding_all rfl) (by with_unfolding_all rfl) (by with_unfolding_all rfl) ?_) | go_skip | (with_reducible refine ldWg k5_0 la _ (by with_unfolding_all rfl) (by with_unfolding_all rfl) (by kernel_rfl) ?_) | (with_reducible refine ldWg k5_1 lb _ (by with_unfolding_all rfl) (by with_unfolding_all rfl) (by kernel_rfl) ?_) | (with_reducible refine ldWg k5_2 lc _ (by with_unfolding_all rfl) (by with_unfolding_all rfl) (by kernel_rfl) ?_) | (with_reducible refine ldWg k7_0 ls _ (by with_unfolding_all rfl) (by with_unfolding_all rfl) (by kernel_rfl) ?_))
  refine (SC _).mono ?_; rintro e w8 ⟨rfl, g⟩
  replace k5_0 := k5_0.keep g
  replace k5_1 := k5_1.keep g
  replace k5_2 := k5_2.keep g
  replace k7_0 := k7_0.keep g
  have b8 := bb b7 g
  clear g b7
  obtain ⟨t0, k9_0, b9, up⟩ := new1 b8 (Lt) _ _ rfl rfl
  replace k5_0 := up _ _ k5_0
  replace k5_1 := up _ _ k5_1
  replace k5_2 := up _ _ k5_2
  replace k7_0 := up _ _ k7_0
  have z9 := b8.size
  go_upto_region 6 with (first | (with_reducible refine ldW k5_0 la _ (by with_unfolding_all rfl) (by with_unfolding_all rfl) (by with_unfolding_all rfl) ?_) | (with_reducible refine ldW k5_1 lb _ (by with_unfolding_all rfl) (by with_unfolding_all rfl) (by with_unfolding_all rfl) ?_) | (with_reducible refine ldW k5_2 lc _ (by with_unfolding_all rfl) (by with_unfolding_all rfl) (by with_unfolding_all rfl) ?_) | (with_reducible refine ldW k7_0 ls _ (by with_unfolding_all rfl) (by with_unfolding_all rfl) (by with_unfolding_all rfl) ?_) | (with_reducible refine ldW k9_0 lt _ (by with_unfolding_all rfl) (by with_unfolding_all rfl) (by with_unfolding_all rfl) ?_) | go_skip | (with_reducible refine ldWg k5_0 la _ (by with_unfolding_all rfl) (by with_unfolding_all rfl) (by kernel_rfl) ?_) | (with_reducible refine ldWg k5_1 lb _ (by with_unfolding_all rfl) (by with_unfolding_all rfl) (by kernel_rfl) ?_) | (with_reducible refine ldWg k5_2 lc _ (by with_unfolding_all rfl) (by with_unfolding_all rfl) (by kernel_rfl) ?_) | (with_reducible refine ldWg k7_0 ls _ (by with_unfolding_all rfl) (by with_unfolding_all rfl) (by kernel_rfl) ?_) | (with_reducible refine ldWg k9_0 lt _ (by with_unfolding_all rfl) (by with_unfolding_all rfl) (by kernel_rfl) ?_) | (with_reducible refine stW t0 zeros_len lt _ _ (by with_unfolding_all rfl) (by with_unfolding_all rfl) (by with_unfolding_all rfl) (by with_unfolding_all rfl) ?_))
  clear up t0 b8
  generalize (w8.alloc (.cells #[.int .u64 0, .int .u64 0, .int .u64 0, .int .u64 0, .int .u64 0, .int .u64 0, .int .u64 0, .int .u64 0, .int .u64 0, .int .u64 0, .int .u64 0, .int .u64 0, .int .u64 0, .int .u64 0, .int .u64 0, .int .u64 0] 27)).setRow w8.heap.size (U (Lt)) = w9 at *
  clear SC
  go_wp2_with (first | (with_reducible refine ldW k5_0 la _ (by with_unfolding_all rfl) (by with_unfolding_all rfl) (by with_unfolding_all rfl) ?_) | (with_reducible refine ldW k5_1 lb _ (by with_unfolding_all rfl) (by with_unfolding_all rfl) (by with_unfolding_all rfl) ?_) | (with_reducible refine ldW k5_2 lc _ (by with_unfolding_all rfl) (by with_unfolding_all rfl) (by with_unfolding_all rfl) ?_) | (with_reducible refine ldW k7_0 ls _ (by with_unfolding_all rfl) (by with_unfolding_all rfl) (by with_unfolding_all rfl) ?_) | (with_reducible refine ldW k9_0 lt _ (by with_unfolding_all rfl) (by with_unfolding_all rfl) (by with_unfolding_all rfl) ?_) | go_skip | (with_reducible refine ldWg k5_0 la _ (by with_unfolding_all rfl) (by with_unfolding_all rfl) (by kernel_rfl) ?_) | (with_reducible refine ldWg k5_1 lb _ (by with_unfolding_all rfl) (by with_unfolding_all rfl) (by kernel_rfl) ?_) | (with_reducible refine ldWg k5_2 lc _ (by with_unfolding_all rfl) (by with_unfolding_all rfl) (by kernel_rfl) ?_) | (with_reducible refine ldWg k7_0 ls _ (by with_unfolding_all rfl) (by with_unfolding_all rfl) (by kernel_rfl) ?_) | (with_reducible refine ldWg k9_0 lt _ (by with_unfolding_all rfl) (by with_unfolding_all rfl) (by kernel_rfl) ?_))
  refine (AC _).mono ?_; rintro e w10 ⟨rfl, g⟩
  replace k5_0 := k5_0.keep g
  replace k5_1 := k5_1.keep g
  replace k5_2 := k5_2.keep g
  replace k7_0 := k7_0.keep g
  replace k9_0 := k9_0.keep g
  have b10 := bb b9 g
  clear g b9
  obtain ⟨t0, k11_0, b11, up⟩ := new1 b10 (Lu) _ _ rfl rfl
  replace k5_0 := up _ _ k5_0
  replace k5_1 := up _ _ k5_1
  replace k5_2 := up _ _ k5_2
  replace k7_0 := up _ _ k7_0
  replace k9_0 := up _ _ k9_0
  have z11 := b10.size
  go_upto_region 7 with (first | (with_reducible refine ldW k5_0 la _ (by with_unfolding_all rfl) (by with_unfolding_all rfl) (by with_unfolding_all rfl) ?_) | (with_reducible refine ldW k5_1 lb _ (by with_unfolding_all rfl) (by with_unfolding_all rfl) (by with_unfolding_all rfl) ?_) | (with_reducible refine ldW k5_2 lc _ (by with_unfolding_all rfl) (by with_unfolding_all rfl) (by with_unfolding_all rfl) ?_) | (with_reducible refine ldW k7_0 ls _ (by with_unfolding_all rfl) (by with_unfolding_all rfl) (by with_unfolding_all rfl) ?_) | (with_reducible refine ldW k9_0 lt _ (by with_unfolding_all rfl) (by with_unfolding_all rfl) (by with_unfolding_all rfl) ?_) | (with_reducible refine ldW k11_0 lu _ (by with_unfolding_all rfl) (by with_unfolding_all rfl) (by with_unfolding_all rfl) ?_) | go_skip | (with_reducible refine ldWg k5_0 la _ (by with_unfolding_all rfl) (by with_unfolding_all rfl) (by kernel_rfl) ?_) | (with_reducible refine ldWg k5_1 lb _ (by with_unfolding_all rfl) (by with_unfolding_all rfl) (by kernel_rfl) ?_) | (with_reducible refine ldWg k5_2 lc _ (by with_unfolding_all rfl) (by with_unfolding_all rfl) (by kernel_rfl) ?_) | (with_reducible refine ldWg k7_0 ls _ (by with_unfolding_all rfl) (by with_unfolding_all rfl) (by kernel_rfl) ?_) | (with_reducible refine ldWg k9_0 lt _ (by with_unfolding_all rfl) (by with_unfolding_all rfl) (by kernel_rfl) ?_) | (with_reducible refine ldWg k11_0 lu _ (by with_unfolding_all rfl) (by with_unfolding_all rfl) (by kernel_rfl) ?_) | (with_reducible refine stW t0 zeros_len lu _ _ (by with_unfolding_all rfl) (by with_unfolding_all rfl) (by with_unfolding_all rfl) (by with_unfolding_all rfl) ?_))
  clear up t0 b10
  generalize (w10.alloc (.cells #[.int .u64 0, .int .u64 0, .int .u64 0, .int .u64 0, .int .u64 0, .int .u64 0, .int .u64 0, .int .u64 0, .int .u64 0, .int .u64 0, .int .u64 0, .int .u64 0, .int .u64 0, .int .u64 0, .int .u64 0, .int .u64 0] 27)).setRow w10.heap.size (U (Lu)) = w11 at *
  clear AC
  go_wp2_with (first | (with_reducible refine ldW k5_0 la _ (by with_unfolding_all rfl) (by with_unfolding_all rfl) (by with_unfolding_all rfl) ?_) | (with_reducible refine ldW k5_1 lb _ (by with_unfolding_all rfl) (by with_unfolding_all rfl) (by with_unfolding_all rfl) ?_) | (with_reducible refine ldW k5_2 lc _ (by with_unfolding_all rfl) (by with_unfolding_all rfl) (by with_unfolding_all rfl) ?_) | (with_reducible refine ldW k7_0 ls _ (by with_unfolding_all rfl) (by with_unfolding_all rfl) (by with_unfolding_all rfl) ?_) | (with_reducible refine ldW k9_0 lt _ (by with_unfolding_all rfl) (by with_unfolding_all rfl) (by with_unfolding_all rfl) ?_) | (with_reducible refine ldW k11_0 lu _ (by with_unfolding_all rfl) (by with_unfolding_all rfl) (by with_unfolding_all rfl) ?_) | go_skip | (with_reducible refine ldWg k5_0 la _ (by with_unfolding_all rfl) (by with_unfolding_all rfl) (by kernel_rfl) ?_) | (with_reducible refine ldWg k5_1 lb _ (by with_unfolding_all rfl) (by with_unfolding_all rfl) (by kernel_rfl) ?_) | (with_reducible refine ldWg k5_2 lc _ (by with_unfolding_all rfl) (by with_unfolding_all rfl) (by kernel_rfl) ?_) | (with_reducible refine ldWg k7_0 ls _ (by with_unfolding_all rfl) (by with_unfolding_all rfl) (by kernel_rfl) ?_) | (with_reducible refine ldWg k9_0 lt _ (by with_unfolding_all rfl) (by with_unfolding_all rfl) (by kernel_rfl) ?_) | (with_reducible refine ldWg k11_0 lu _ (by with_unfolding_all rfl) (by with_unfolding_all rfl) (by kernel_rfl) ?_))
  refine (BC _).mono ?_; rintro e w12 ⟨rfl, g⟩
  replace k5_0 := k5_0.keep g
  replace k5_1 := k5_1.keep g
  replace k5_2 := k5_2.keep g
  replace k7_0 := k7_0.keep g
  replace k9_0 := k9_0.keep g
  replace k11_0 := k11_0.keep g
  have b12 := bb b11 g
  clear g b11
  obtain ⟨t0, k13_0, b13, up⟩ := new1 b12 (Lv) _ _ rfl rfl
  replace k5_0 := up _ _ k5_0
  replace k5_1 := up _ _ k5_1
  replace k5_2 := up _ _ k5_2
  replace k7_0 := up _ _ k7_0
  replace k9_0 := up _ _ k9_0
  replace k11_0 := up _ _ k11_0
  have z13 := b12.size
  go_upto_region 8 with (first | (with_reducible refine ldW k5_0 la _ (by with_unfolding_all rfl) (by with_unfolding_all rfl) (by with_unfolding_all rfl) ?_) | (with_reducible refine ldW k5_1 lb _ (by with_unfolding_all rfl) (by with_unfolding_all rfl) (by with_unfolding_all rfl) ?_) | (with_reducible refine ldW k5_2 lc _ (by with_unfolding_all rfl) (by with_unfolding_all rfl) (by with_unfolding_all rfl) ?_) | (with_reducible refine ldW k7_0 ls _ (by with_unfolding_all rfl) (by with_unfolding_all rfl) (by with_unfolding_all rfl) ?_) | (with_reducible refine ldW k9_0 lt _ (by with_unfolding_all rfl) (by with_unfolding_all rfl) (by with_unfolding_all rfl) ?_) | (with_reducible refine ldW k11_0 lu _ (by with_unfolding_all rfl) (by with_unfolding_all rfl) (by with_unfolding_all rfl) ?_) | (with_reducible refine ldW k13_0 lv _ (by with_unfolding_all rfl) (by with_unfolding_all rfl) (by with_unfolding_all rfl) ?_) | go_skip | (with_reducible refine ldWg k5_0 la _ (by with_unfolding_all rfl) (by with_unfolding_all rfl) (by kernel_rfl) ?_) | (with_reducible refine ldWg k5_1 lb _ (by with_unfolding_all rfl) (by with_unfolding_all rfl) (by kernel_rfl) ?_) | (with_reducible refine ldWg k5_2 lc _ (by with_unfolding_all rfl) (by with_unfolding_all rfl) (by kernel_rfl) ?_) | (with_reducible refine ldWg k7_0 ls _ (by with_unfolding_all rfl) (by with_unfolding_all rfl) (by kernel_rfl) ?_) | (with_reducible refine ldWg k9_0 lt _ (by with_unfolding_all rfl) (by with_unfolding_all rfl) (by kernel_rfl) ?_) | (with_reducible refine ldWg k11_0 lu _ (by with_unfolding_all rfl) (by with_unfolding_all rfl) (by kernel_rfl) ?_) | (with_reducible refine ldWg k13_0 lv _ (by with_unfolding_all rfl) (by with_unfolding_all rfl) (by kernel_rfl) ?_) | (with_reducible refine stW t0 zeros_len lv _ _ (by with_unfolding_all rfl) (by with_unfolding_all rfl) (by with_unfolding_all rfl) (by with_unfolding_all rfl) ?_))
  clear up t0 b12
  generalize (w12.alloc (.cells #[.int .u64 0, .int .u64 0, .int .u64 0, .int .u64 0, .int .u64 0, .int .u64 0, .int .u64 0, .int .u64 0, .int .u64 0, .int .u64 0, .int .u64 0, .int .u64 0, .int .u64 0, .int .u64 0, .int .u64 0, .int .u64 0] 27)).setRow w12.heap.size (U (Lv)) = w13 at *
  clear BC
  go_wp2_with (first | (with_reducible refine ldW k5_0 la _ (by with_unfolding_all rfl) (by with_unfolding_all rfl) (by with_unfolding_all rfl) ?_) | (with_reducible refine ldW k5_1 lb _ (by with_unfolding_all rfl) (by with_unfolding_all rfl) (by with_unfolding_all rfl) ?_) | (with_reducible refine ldW k5_2 lc _ (by with_unfolding_all rfl) (by with_unfolding_all rfl) (by with_unfolding_all rfl) ?_) | (with_reducible refine ldW k7_0 ls _ (by with_unfolding_all rfl) (by with_unfolding_all rfl) (by with_unfolding_all rfl) ?_) | (with_reducible refine ldW k9_0 lt _ (by with_unfolding_all rfl) (by with_unfolding_all rfl) (by with_unfolding_all rfl) ?_) | (with_reducible refine ldW k11_0 lu _ (by with_unfolding_all rfl) (by with_unfolding_all rfl) (by with_unfolding_all rfl) ?_) | (with_reducible refine ldW k13_0 lv _ (by with_unfolding_all rfl) (by with_unfolding_all rfl) (by with_unfolding_all rfl) ?_) | go_skip | (with_reducible refine ldWg k5_0 la _ (by with_unfolding_all rfl) (by with_unfolding_all rfl) (by kernel_rfl) ?_) | (with_reducible refine ldWg k5_1 lb _ (by with_unfolding_all rfl) (by with_unfolding_all rfl) (by kernel_rfl) ?_) | (with_reducible refine ldWg k5_2 lc _ (by with_unfolding_all rfl) (by with_unfolding_all rfl) (by kernel_rfl) ?_) | (with_reducible refine ldWg k7_0 ls _ (by with_unfolding_all rfl) (by with_unfolding_all rfl) (by kernel_rfl) ?_) | (with_reducible refine ldWg k9_0 lt _ (by with_unfolding_all rfl) (by with_unfolding_all rfl) (by kernel_rfl) ?_) | (with_reducible refine ldWg k11_0 lu _ (by with_unfolding_all rfl) (by with_unfolding_all rfl) (by kernel_rfl) ?_) | (with_reducible refine ldWg k13_0 lv _ (by with_unfolding_all rfl) (by with_unfolding_all rfl) (by kernel_rfl) ?_))
  refine (UV _).mono ?_; rintro e w14 ⟨rfl, g⟩
  replace k5_0 := k5_0.keep g
  replace k5_1 := k5_1.keep g
  replace k5_2 := k5_2.keep g
  replace k7_0 := k7_0.keep g
  replace k9_0 := k9_0.keep g
  replace k11_0 := k11_0.keep g
  replace k13_0 := k13_0.keep g
  have b14 := bb b13 g
  clear g b13
  obtain ⟨t0, k15_0, b15, up⟩ := new1 b14 (Lt) _ _ rfl rfl
  replace k5_0 := up _ _ k5_0
  replace k5_1 := up _ _ k5_1
  replace k5_2 := up _ _ k5_2
  replace k7_0 := up _ _ k7_0
  replace k9_0 := up _ _ k9_0
  replace k11_0 := up _ _ k11_0
  replace k13_0 := up _ _ k13_0
  have z15 := b14.size
  go_upto_region 9 with (first | (with_reducible refine ldW k5_0 la _ (by with_unfolding_all rfl) (by with_unfolding_all rfl) (by with_unfolding_all rfl) ?_) | (with_reducible refine ldW k5_1 lb _ (by with_unfolding_all rfl) (by with_unfolding_all rfl) (by with_unfolding_all rfl) ?_) | (with_reducible refine ldW k5_2 lc _ (by with_unfolding_all rfl) (by with_unfolding_all rfl) (by with_unfolding_all rfl) ?_) | (with_reducible refine ldW k7_0 ls _ (by with_unfolding_all rfl) (by with_unfolding_all rfl) (by with_unfolding_all rfl) ?_) | (with_reducible refine ldW k9_0 lt _ (by with_unfolding_all rfl) (by with_unfolding_all rfl) (by with_unfolding_all rfl) ?_) | (with_reducible refine ldW k11_0 lu _ (by with_unfolding_all rfl) (by with_unfolding_all rfl) (by with_unfolding_all rfl) ?_) | (with_reducible refine ldW k13_0 lv _ (by with_unfolding_all rfl) (by with_unfolding_all rfl) (by with_unfolding_all rfl) ?_) | (with_reducible refine ldW k15_0 lt _ (by with_unfolding_all rfl) (by with_unfolding_all rfl) (by with_unfolding_all rfl) ?_) | go_skip | (with_reducible refine ldWg k5_0 la _ (by with_unfolding_all rfl) (by with_unfolding_all rfl) (by kernel_rfl) ?_) | (with_reducible refine ldWg k5_1 lb _ (by with_unfolding_all rfl) (by with_unfolding_all rfl) (by kernel_rfl) ?_) | (with_reducible refine ldWg k5_2 lc _ (by with_unfolding_all rfl) (by with_unfolding_all rfl) (by kernel_rfl) ?_) | (with_reducible refine ldWg k7_0 ls _ (by with_unfolding_all rfl) (by with_unfolding_all rfl) (by kernel_rfl) ?_) | (with_reducible refine ldWg k9_0 lt _ (by with_unfolding_all rfl) (by with_unfolding_all rfl) (by kernel_rfl) ?_) | (with_reducible refine ldWg k11_0 lu _ (by with_unfolding_all rfl) (by with_unfolding_all rfl) (by kernel_rfl) ?_) | (with_reducible refine ldWg k13_0 lv _ (by with_unfolding_all rfl) (by with_unfolding_all rfl) (by kernel_rfl) ?_) | (with_reducible refine ldWg k15_0 lt _ (by with_unfolding_all rfl) (by with_unfolding_all rfl) (by kernel_rfl) ?_) | (with_reducible refine stW t0 zeros_len lt _ _ (by with_unfolding_all rfl) (by with_unfolding_all rfl) (by with_unfolding_all rfl) (by with_unfolding_all rfl) ?_))
  clear up t0 b14
  generalize (w14.alloc (.cells #[.int .u64 0, .int .u64 0, .int .u64 0, .int .u64 0, .int .u64 0, .int .u64 0, .int .u64 0, .int .u64 0, .int .u64 0, .int .u64 0, .int .u64 0, .int .u64 0, .int .u64 0, .int .u64 0, .int .u64 0, .int .u64 0] 27)).setRow w14.heap.size (U (Lt)) = w15 at *
  clear UV
  go_wp2_with (first | (with_reducible refine ldW k5_0 la _ (by with_unfolding_all rfl) (by with_unfolding_all rfl) (by with_unfolding_all rfl) ?_) | (with_reducible refine ldW k5_1 lb _ (by with_unfolding_all rfl) (by with_unfolding_all rfl) (by with_unfolding_all rfl) ?_) | (with_reducible refine ldW k5_2 lc _ (by with_unfolding_all rfl) (by with_unfolding_all rfl) (by with_unfolding_all rfl) ?_) | (with_reducible refine ldW k7_0 ls _ (by with_unfolding_all rfl) (by with_unfolding_all rfl) (by with_unfolding_all rfl) ?_) | (with_reducible refine ldW k9_0 lt _ (by with_unfolding_all rfl) (by with_unfolding_all rfl) (by with_unfolding_all rfl) ?_) | (with_reducible refine ldW k11_0 lu _ (by with_unfolding_all rfl) (by with_unfolding_all rfl) (by with_unfolding_all rfl) ?_) | (with_reducible refine ldW k13_0 lv _ (by with_unfolding_all rfl) (by with_unfolding_all rfl) (by with_unfolding_all rfl) ?_) | (with_reducible refine ldW k15_0 lt _ (by with_unfolding_all rfl) (by with_unfolding_all rfl) (by with_unfolding_all rfl) ?_) | go_skip | (with_reducible refine ldWg k5_0 la _ (by with_unfolding_all rfl) (by with_unfolding_all rfl) (by kernel_rfl) ?_) | (with_reducible refine ldWg k5_1 lb _ (by with_unfolding_all rfl) (by with_unfolding_all rfl) (by kernel_rfl) ?_) | (with_reducible refine ldWg k5_2 lc _ (by with_unfolding_all rfl) (by with_unfolding_all rfl) (by kernel_rfl) ?_) | (with_reducible refine ldWg k7_0 ls _ (by with_unfolding_all rfl) (by with_unfolding_all rfl) (by kernel_rfl) ?_) | (with_reducible refine ldWg k9_0 lt _ (by with_unfolding_all rfl) (by with_unfolding_all rfl) (by kernel_rfl) ?_) | (with_reducible refine ldWg k11_0 lu _ (by with_unfolding_all rfl) (by with_unfolding_all rfl) (by kernel_rfl) ?_) | (with_reducible refine ldWg k13_0 lv _ (by with_unfolding_all rfl) (by with_unfolding_all rfl) (by kernel_rfl) ?_) | (with_reducible refine ldWg k15_0 lt _ (by with_unfolding_all rfl) (by with_unfolding_all rfl) (by kernel_rfl) ?_))
  refine (XM _).mono ?_; rintro e w16 ⟨rfl, g⟩
  replace k5_0 := k5_0.keep g
  replace k5_1 := k5_1.keep g
  replace k5_2 := k5_2.keep g
  replace k7_0 := k7_0.keep g
  replace k9_0 := k9_0.keep g
  replace k11_0 := k11_0.keep g
  replace k13_0 := k13_0.keep g
  replace k15_0 := k15_0.keep g
  have b16 := bb b15 g
  clear g b15
  obtain ⟨t0, k17_0, b17, up⟩ := new1 b16 (Lx) _ _ rfl rfl
  replace k5_0 := up _ _ k5_0
  replace k5_1 := up _ _ k5_1
  replace k5_2 := up _ _ k5_2
  replace k7_0 := up _ _ k7_0
  replace k9_0 := up _ _ k9_0
  replace k11_0 := up _ _ k11_0
  replace k13_0 := up _ _ k13_0
  replace k15_0 := up _ _ k15_0
  have z17 := b16.size
  go_upto_region 10 with (first | (with_reducible refine ldW k5_0 la _ (by with_unfolding_all rfl) (by with_unfolding_all rfl) (by with_unfolding_all rfl) ?_) | (with_reducible refine ldW k5_1 lb _ (by with_unfolding_all rfl) (by with_unfolding_all rfl) (by with_unfolding_all rfl) ?_) | (with_reducible refine ldW k5_2 lc _ (by with_unfolding_all rfl) (by with_unfolding_all rfl) (by with_unfolding_all rfl) ?_) | (with_reducible refine ldW k7_0 ls _ (by with_unfolding_all rfl) (by with_unfolding_all rfl) (by with_unfolding_all rfl) ?_) | (with_reducible refine ldW k9_0 lt _ (by with_unfolding_all rfl) (by with_unfolding_all rfl) (by with_unfolding_all rfl) ?_) | (with_reducible refine ldW k11_0 lu _ (by with_unfolding_all rfl) (by with_unfolding_all rfl) (by with_unfolding_all rfl) ?_) | (with_reducible refine ldW k13_0 lv _ (by with_unfolding_all rfl) (by with_unfolding_all rfl) (by with_unfolding_all rfl) ?_) | (with_reducible refine ldW k15_0 lt _ (by with_unfolding_all rfl) (by with_unfolding_all rfl) (by with_unfolding_all rfl) ?_) | (with_reducible refine ldW k17_0 lx _ (by with_unfolding_all rfl) (by with_unfolding_all rfl) (by with_unfolding_all rfl) ?_) | go_skip | (with_reducible refine ldWg k5_0 la _ (by with_unfolding_all rfl) (by with_unfolding_all rfl) (by kernel_rfl) ?_) | (with_reducible refine ldWg k5_1 lb _ (by with_unfolding_all rfl) (by with_unfolding_all rfl) (by kernel_rfl) ?_) | (with_reducible refine ldWg k5_2 lc _ (by with_unfolding_all rfl) (by with_unfolding_all rfl) (by kernel_rfl) ?_) | (with_reducible refine ldWg k7_0 ls _ (by with_unfolding_all rfl) (by with_unfolding_all rfl) (by kernel_rfl) ?_) | (with_reducible refine ldWg k9_0 lt _ (by with_unfolding_all rfl) (by with_unfolding_all rfl) (by kernel_rfl) ?_) | (with_reducible refine ldWg k11_0 lu _ (by with_unfolding_all rfl) (by with_unfolding_all rfl) (by kernel_rfl) ?_) | (with_reducible refine ldWg k13_0 lv _ (by with_unfolding_all rfl) (by with_unfolding_all rfl) (by kernel_rfl) ?_) | (with_reducible refine ldWg k15_0 lt _ (by with_unfolding_all rfl) (by with_unfolding_all rfl) (by kernel_rfl) ?_) | (with_reducible refine ldWg k17_0 lx _ (by with_unfolding_all rfl) (by with_unfolding_all rfl) (by kernel_rfl) ?_) | (with_reducible refine stW t0 zeros_len lx _ _ (by with_unfolding_all rfl) (by with_unfolding_all rfl) (by with_unfolding_all rfl) (by with_unfolding_all rfl) ?_))
  clear up t0 b16
  generalize (w16.alloc (.cells #[.int .u64 0, .int .u64 0, .int .u64 0, .int .u64 0, .int .u64 0, .int .u64 0, .int .u64 0, .int .u64 0, .int .u64 0, .int .u64 0, .int .u64 0, .int .u64 0, .int .u64 0, .int .u64 0, .int .u64 0, .int .u64 0] 27)).setRow w16.heap.size (U (Lx)) = w17 at *
  clear XM
  go_wp2_with (first | (with_reducible refine ldW k5_0 la _ (by with_unfolding_all rfl) (by with_unfolding_all rfl) (by with_unfolding_all rfl) ?_) | (with_reducible refine ldW k5_1 lb _ (by with_unfolding_all rfl) (by with_unfolding_all rfl) (by with_unfolding_all rfl) ?_) | (with_reducible refine ldW k5_2 lc _ (by with_unfolding_all rfl) (by with_unfolding_all rfl) (by with_unfolding_all rfl) ?_) | (with_reducible refine ldW k7_0 ls _ (by with_unfolding_all rfl) (by with_unfolding_all rfl) (by with_unfolding_all rfl) ?_) | (with_reducible refine ldW k9_0 lt _ (by with_unfolding_all rfl) (by with_unfolding_all rfl) (by with_unfolding_all rfl) ?_) | (with_reducible refine ldW k11_0 lu _ (by with_unfolding_all rfl) (by with_unfolding_all rfl) (by with_unfolding_all rfl) ?_) | (with_reducible refine ldW k13_0 lv _ (by with_unfolding_all rfl) (by with_unfolding_all rfl) (by with_unfolding_all rfl) ?_) | (with_reducible refine ldW k15_0 lt _ (by with_unfolding_all rfl) (by with_unfolding_all rfl) (by with_unfolding_all rfl) ?_) | (with_reducible refine ldW k17_0 lx _ (by with_unfolding_all rfl) (by with_unfolding_all rfl) (by with_unfolding_all rfl) ?_) | go_skip | (with_reducible refine ldWg k5_0 la _ (by with_unfolding_all rfl) (by with_unfolding_all rfl) (by kernel_rfl) ?_) | (with_reducible refine ldWg k5_1 lb _ (by with_unfolding_all rfl) (by with_unfolding_all rfl) (by kernel_rfl) ?_) | (with_reducible refine ldWg k5_2 lc _ (by with_unfolding_all rfl) (by with_unfolding_all rfl) (by kernel_rfl) ?_) | (with_reducible refine ldWg k7_0 ls _ (by with_unfolding_all rfl) (by with_unfolding_all rfl) (by kernel_rfl) ?_) | (with_reducible refine ldWg k9_0 lt _ (by with_unfolding_all rfl) (by with_unfolding_all rfl) (by kernel_rfl) ?_) | (with_reducible refine ldWg k11_0 lu _ (by with_unfolding_all rfl) (by with_unfolding_all rfl) (by kernel_rfl) ?_) | (with_reducible refine ldWg k13_0 lv _ (by with_unfolding_all rfl) (by with_unfolding_all rfl) (by kernel_rfl) ?_) | (with_reducible refine ldWg k15_0 lt _ (by with_unfolding_all rfl) (by with_unfolding_all rfl) (by kernel_rfl) ?_) | (with_reducible refine ldWg k17_0 lx _ (by with_unfolding_all rfl) (by with_unfolding_all rfl) (by kernel_rfl) ?_))
  refine (XC _).mono ?_; rintro e w18 ⟨rfl, g⟩
  replace k5_0 := k5_0.keep g
  replace k5_1 := k5_1.keep g
  replace k5_2 := k5_2.keep g
  replace k7_0 := k7_0.keep g
  replace k9_0 := k9_0.keep g
  replace k11_0 := k11_0.keep g
  replace k13_0 := k13_0.keep g
  replace k15_0 := k15_0.keep g
  replace k17_0 := k17_0.keep g
  have b18 := bb b17 g
  clear g b17
  obtain ⟨t0, k19_0, b19, up⟩ := new1 b18 (Ly) _ _ rfl rfl
  replace k5_0 := up _ _ k5_0
  replace k5_1 := up _ _ k5_1
  replace k5_2 := up _ _ k5_2
  replace k7_0 := up _ _ k7_0
  replace k9_0 := up _ _ k9_0
  replace k11_0 := up _ _ k11_0
  replace k13_0 := up _ _ k13_0
  replace k15_0 := up _ _ k15_0
  replace k17_0 := up _ _ k17_0
  have z19 := b18.size
  go_upto_region 11 with (first | (with_reducible refine ldW k5_0 la _ (by with_unfolding_all rfl) (by with_unfolding_all rfl) (by with_unfolding_all rfl) ?_) | (with_reducible refine ldW k5_1 lb _ (by with_unfolding_all rfl) (by with_unfolding_all rfl) (by with_unfolding_all rfl) ?_) | (with_reducible refine ldW k5_2 lc _ (by with_unfolding_all rfl) (by with_unfolding_all rfl) (by with_unfolding_all rfl) ?_) | (with_reducible refine ldW k7_0 ls _ (by with_unfolding_all rfl) (by with_unfolding_all rfl) (by with_unfolding_all rfl) ?_) | (with_reducible refine ldW k9_0 lt _ (by with_unfolding_all rfl) (by with_unfolding_all rfl) (by with_unfolding_all rfl) ?_) | (with_reducible refine ldW k11_0 lu _ (by with_unfolding_all rfl) (by with_unfolding_all rfl) (by with_unfolding_all rfl) ?_) | (with_reducible refine ldW k13_0 lv _ (by with_unfolding_all rfl) (by with_unfolding_all rfl) (by with_unfolding_all rfl) ?_) | (with_reducible refine ldW k15_0 lt _ (by with_unfolding_all rfl) (by with_unfolding_all rfl) (by with_unfolding_all rfl) ?_) | (with_reducible refine ldW k17_0 lx _ (by with_unfolding_all rfl) (by with_unfolding_all rfl) (by with_unfolding_all rfl) ?_) | (with_reducible refine ldW k19_0 ly _ (by with_unfolding_all rfl) (by with_unfolding_all rfl) (by with_unfolding_all rfl) ?_) | go_skip | (with_reducible refine ldWg k5_0 la _ (by with_unfolding_all rfl) (by with_unfolding_all rfl) (by kernel_rfl) ?_) | (with_reducible refine ldWg k5_1 lb _ (by with_unfolding_all rfl) (by with_unfolding_all rfl) (by kernel_rfl) ?_) | (with_reducible refine ldWg k5_2 lc _ (by with_unfolding_all rfl) (by with_unfolding_all rfl) (by kernel_rfl) ?_) | (with_reducible refine ldWg k7_0 ls _ (by with_unfolding_all rfl) (by with_unfolding_all rfl) (by kernel_rfl) ?_) | (with_reducible refine ldWg k9_0 lt _ (by with_unfolding_all rfl) (by with_unfolding_all rfl) (by kernel_rfl) ?_) | (with_reducible refine ldWg k11_0 lu _ (by with_unfolding_all rfl) (by with_unfolding_all rfl) (by kernel_rfl) ?_) | (with_reducible refine ldWg k13_0 lv _ (by with_unfolding_all rfl) (by with_unfolding_all rfl) (by kernel_rfl) ?_) | (with_reducible refine ldWg k15_0 lt _ (by with_unfolding_all rfl) (by with_unfolding_all rfl) (by kernel_rfl) ?_) | (with_reducible refine ldWg k17_0 lx _ (by with_unfolding_all rfl) (by with_unfolding_all rfl) (by kernel_rfl) ?_) | (with_reducible refine ldWg k19_0 ly _ (by with_unfolding_all rfl) (by with_unfolding_all rfl) (by kernel_rfl) ?_) | (with_reducible refine stW t0 zeros_len ly _ _ (by with_unfolding_all rfl) (by with_unfolding_all rfl) (by with_unfolding_all rfl) (by with_unfolding_all rfl) ?_))
  clear up t0 b18
  generalize (w18.alloc (.cells #[.int .u64 0, .int .u64 0, .int .u64 0, .int .u64 0, .int .u64 0, .int .u64 0, .int .u64 0, .int .u64 0, .int .u64 0, .int .u64 0, .int .u64 0, .int .u64 0, .int .u64 0, .int .u64 0, .int .u64 0, .int .u64 0] 27)).setRow w18.heap.size (U (Ly)) = w19 at *
  clear XC
  go_wp2_with (first | (with_reducible refine ldW k5_0 la _ (by with_unfolding_all rfl) (by with_unfolding_all rfl) (by with_unfolding_all rfl) ?_) | (with_reducible refine ldW k5_1 lb _ (by with_unfolding_all rfl) (by with_unfolding_all rfl) (by with_unfolding_all rfl) ?_) | (with_reducible refine ldW k5_2 lc _ (by with_unfolding_all rfl) (by with_unfolding_all rfl) (by with_unfolding_all rfl) ?_) | (with_reducible refine ldW k7_0 ls _ (by with_unfolding_all rfl) (by with_unfolding_all rfl) (by with_unfolding_all rfl) ?_) | (with_reducible refine ldW k9_0 lt _ (by with_unfolding_all rfl) (by with_unfolding_all rfl) (by with_unfolding_all rfl) ?_) | (with_reducible refine ldW k11_0 lu _ (by with_unfolding_all rfl) (by with_unfolding_all rfl) (by with_unfolding_all rfl) ?_) | (with_reducible refine ldW k13_0 lv _ (by with_unfolding_all rfl) (by with_unfolding_all rfl) (by with_unfolding_all rfl) ?_) | (with_reducible refine ldW k15_0 lt _ (by with_unfolding_all rfl) (by with_unfolding_all rfl) (by with_unfolding_all rfl) ?_) | (with_reducible refine ldW k17_0 lx _ (by with_unfolding_all rfl) (by with_unfolding_all rfl) (by with_unfolding_all rfl) ?_) | (with_reducible refine ldW k19_0 ly _ (by with_unfolding_all rfl) (by with_unfolding_all rfl) (by with_unfolding_all rfl) ?_) | go_skip | (with_reducible refine ldWg k5_0 la _ (by with_unfolding_all rfl) (by with_unfolding_all rfl) (by kernel_rfl) ?_) | (with_reducible refine ldWg k5_1 lb _ (by with_unfolding_all rfl) (by with_unfolding_all rfl) (by kernel_rfl) ?_) | (with_reducible refine ldWg k5_2 lc _ (by with_unfolding_all rfl) (by with_unfolding_all rfl) (by kernel_rfl) ?_) | (with_reducible refine ldWg k7_0 ls _ (by with_unfolding_all rfl) (by with_unfolding_all rfl) (by kernel_rfl) ?_) | (with_reducible refine ldWg k9_0 lt _ (by with_unfolding_all rfl) (by with_unfolding_all rfl) (by kernel_rfl) ?_) | (with_reducible refine ldWg k11_0 lu _ (by with_unfolding_all rfl) (by with_unfolding_all rfl) (by kernel_rfl) ?_) | (with_reducible refine ldWg k13_0 lv _ (by with_unfolding_all rfl) (by with_unfolding_all rfl) (by kernel_rfl) ?_) | (with_reducible refine ldWg k15_0 lt _ (by with_unfolding_all rfl) (by with_unfolding_all rfl) (by kernel_rfl) ?_) | (with_reducible refine ldWg k17_0 lx _ (by with_unfolding_all rfl) (by with_unfolding_all rfl) (by kernel_rfl) ?_) | (with_reducible refine ldWg k19_0 ly _ (by with_unfolding_all rfl) (by with_unfolding_all rfl) (by kernel_rfl) ?_))
  refine (AV _).mono ?_; rintro e w20 ⟨rfl, g⟩
  replace k5_0 := k5_0.keep g
  replace k5_1 := k5_1.keep g
  replace k5_2 := k5_2.keep g
  replace k7_0 := k7_0.keep g
  replace k9_0 := k9_0.keep g
  replace k11_0 := k11_0.keep g
  replace k13_0 := k13_0.keep g
  replace k15_0 := k15_0.keep g
  replace k17_0 := k17_0.keep g
  replace k19_0 := k19_0.keep g
  have b20 := bb b19 g
  clear g b19
  obtain ⟨t0, k21_0, b21, up⟩ := new1 b20 (Ly) _ _ rfl rfl
  replace k5_0 := up _ _ k5_0
  replace k5_1 := up _ _ k5_1
  replace k5_2 := up _ _ k5_2
  replace k7_0 := up _ _ k7_0
  replace k9_0 := up _ _ k9_0
  replace k11_0 := up _ _ k11_0
  replace k13_0 := up _ _ k13_0
  replace k15_0 := up _ _ k15_0
  replace k17_0 := up _ _ k17_0
  replace k19_0 := up _ _ k19_0
  have z21 := b20.size
  go_upto_region 12 with (first | (with_reducible refine ldW k5_0 la _ (by with_unfolding_all rfl) (by with_unfolding_all rfl) (by with_unfolding_all rfl) ?_) | (with_reducible refine ldW k5_1 lb _ (by with_unfolding_all rfl) (by with_unfolding_all rfl) (by with_unfolding_all rfl) ?_) | (with_reducible refine ldW k5_2 lc _ (by with_unfolding_all rfl) (by with_unfolding_all rfl) (by with_unfolding_all rfl) ?_) | (with_reducible refine ldW k7_0 ls _ (by with_unfolding_all rfl) (by with_unfolding_all rfl) (by with_unfolding_all rfl) ?_) | (with_reducible refine ldW k9_0 lt _ (by with_unfolding_all rfl) (by with_unfolding_all rfl) (by with_unfolding_all rfl) ?_) | (with_reducible refine ldW k11_0 lu _ (by with_unfolding_all rfl) (by with_unfolding_all rfl) (by with_unfolding_all rfl) ?_) | (with_reducible refine ldW k13_0 lv _ (by with_unfolding_all rfl) (by with_unfolding_all rfl) (by with_unfolding_all rfl) ?_) | (with_reducible refine ldW k15_0 lt _ (by with_unfolding_all rfl) (by with_unfolding_all rfl) (by with_unfolding_all rfl) ?_) | (with_reducible refine ldW k17_0 lx _ (by with_unfolding_all rfl) (by with_unfolding_all rfl) (by with_unfolding_all rfl) ?_) | (with_reducible refine ldW k19_0 ly _ (by with_unfolding_all rfl) (by with_unfolding_all rfl) (by with_unfolding_all rfl) ?_) | (with_reducible refine ldW k21_0 ly _ (by with_unfolding_all rfl) (by with_unfolding_all rfl) (by with_unfolding_all rfl) ?_) | go_skip | (with_reducible refine ldWg k5_0 la _ (by with_unfolding_all rfl) (by with_unfolding_all rfl) (by kernel_rfl) ?_) | (with_reducible refine ldWg k5_1 lb _ (by with_unfolding_all rfl) (by with_unfolding_all rfl) (by kernel_rfl) ?_) | (with_reducible refine ldWg k5_2 lc _ (by with_unfolding_all rfl) (by with_unfolding_all rfl) (by kernel_rfl) ?_) | (with_reducible refine ldWg k7_0 ls _ (by with_unfolding_all rfl) (by with_unfolding_all rfl) (by kernel_rfl) ?_) | (with_reducible refine ldWg k9_0 lt _ (by with_unfolding_all rfl) (by with_unfolding_all rfl) (by kernel_rfl) ?_) | (with_reducible refine ldWg k11_0 lu _ (by with_unfolding_all rfl) (by with_unfolding_all rfl) (by kernel_rfl) ?_) | (with_reducible refine ldWg k13_0 lv _ (by with_unfolding_all rfl) (by with_unfolding_all rfl) (by kernel_rfl) ?_) | (with_reducible refine ldWg k15_0 lt _ (by with_unfolding_all rfl) (by with_unfolding_all rfl) (by kernel_rfl) ?_) | (with_reducible refine ldWg k17_0 lx _ (by with_unfolding_all rfl) (by with_unfolding_all rfl) (by kernel_rfl) ?_) | (with_reducible refine ldWg k19_0 ly _ (by with_unfolding_all rfl) (by with_unfolding_all rfl) (by kernel_rfl) ?_) | (with_reducible refine ldWg k21_0 ly _ (by with_unfolding_all rfl) (by with_unfolding_all rfl) (by kernel_rfl) ?_) | (with_reducible refine stW t0 zeros_len ly _ _ (by with_unfolding_all rfl) (by with_unfolding_all rfl) (by with_unfolding_all rfl) (by with_unfolding_all rfl) ?_))
  clear up t0 b20
  generalize (w20.alloc (.cells #[.int .u64 0, .int .u64 0, .int .u64 0, .int .u64 0, .int .u64 0, .int .u64 0, .int .u64 0, .int .u64 0, .int .u64 0, .int .u64 0, .int .u64 0, .int .u64 0, .int .u64 0, .int .u64 0, .int .u64 0, .int .u64 0] 27)).setRow w20.heap.size (U (Ly)) = w21 at *
  clear AV
  have EQ1 := E1.out
  have EQ2 := E2.out
  go_wp2_with (first | (with_reducible refine ldW k5_0 la _ (by with_unfolding_all rfl) (by with_unfolding_all rfl) (by with_unfolding_all rfl) ?_) | (with_reducible refine ldW k5_1 lb _ (by with_unfolding_all rfl) (by with_unfolding_all rfl) (by with_unfolding_all rfl) ?_) | (with_reducible refine ldW k5_2 lc _ (by with_unfolding_all rfl) (by with_unfolding_all rfl) (by with_unfolding_all rfl) ?_) | (with_reducible refine ldW k7_0 ls _ (by with_unfolding_all rfl) (by with_unfolding_all rfl) (by with_unfolding_all rfl) ?_) | (with_reducible refine ldW k9_0 lt _ (by with_unfolding_all rfl) (by with_unfolding_all rfl) (by with_unfolding_all rfl) ?_) | (with_reducible refine ldW k11_0 lu _ (by with_unfolding_all rfl) (by with_unfolding_all rfl) (by with_unfolding_all rfl) ?_) | (with_reducible refine ldW k13_0 lv _ (by with_unfolding_all rfl) (by with_unfolding_all rfl) (by with_unfolding_all rfl) ?_) | (with_reducible refine ldW k15_0 lt _ (by with_unfolding_all rfl) (by with_unfolding_all rfl) (by with_unfolding_all rfl) ?_) | (with_reducible refine ldW k17_0 lx _ (by with_unfolding_all rfl) (by with_unfolding_all rfl) (by with_unfolding_all rfl) ?_) | (with_reducible refine ldW k19_0 ly _ (by with_unfolding_all rfl) (by with_unfolding_all rfl) (by with_unfolding_all rfl) ?_) | (with_reducible refine ldW k21_0 ly _ (by with_unfolding_all rfl) (by with_unfolding_all rfl) (by with_unfolding_all rfl) ?_) | go_skip | (with_reducible refine ldWg k5_0 la _ (by with_unfolding_all rfl) (by with_unfolding_all rfl) (by kernel_rfl) ?_) | (with_reducible refine ldWg k5_1 lb _ (by with_unfolding_all rfl) (by with_unfolding_all rfl) (by kernel_rfl) ?_) | (with_reducible refine ldWg k5_2 lc _ (by with_unfolding_all rfl) (by with_unfolding_all rfl) (by kernel_rfl) ?_) | (with_reducible refine ldWg k7_0 ls _ (by with_unfolding_all rfl) (by with_unfolding_all rfl) (by kernel_rfl) ?_) | (with_reducible refine ldWg k9_0 lt _ (by with_unfolding_all rfl) (by with_unfolding_all rfl) (by kernel_rfl) ?_) | (with_reducible refine ldWg k11_0 lu _ (by with_unfolding_all rfl) (by with_unfolding_all rfl) (by kernel_rfl) ?_) | (with_reducible refine ldWg k13_0 lv _ (by with_unfolding_all rfl) (by with_unfolding_all rfl) (by kernel_rfl) ?_) | (with_reducible refine ldWg k15_0 lt _ (by with_unfolding_all rfl) (by with_unfolding_all rfl) (by kernel_rfl) ?_) | (with_reducible refine ldWg k17_0 lx _ (by with_unfolding_all rfl) (by with_unfolding_all rfl) (by kernel_rfl) ?_) | (with_reducible refine ldWg k19_0 ly _ (by with_unfolding_all rfl) (by with_unfolding_all rfl) (by kernel_rfl) ?_) | (with_reducible refine ldWg k21_0 ly _ (by with_unfolding_all rfl) (by with_unfolding_all rfl) (by kernel_rfl) ?_))
  go_ret
  exact ⟨rfl, b21⟩
end Go.Proofs.Ytpdljoalfmgfiaa.YWide
