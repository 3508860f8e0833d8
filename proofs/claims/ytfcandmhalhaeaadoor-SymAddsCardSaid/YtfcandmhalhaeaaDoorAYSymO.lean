/- Lean functions, contracts and lemmas that this claim needs. No condition. -/
import Derived.Test.YtfcandmhalhaeaaDoorAYSymG
import Derived.Test.YtfcandmhalhaeaaDoorAYRegC
namespace Go.Proofs.YtfcandmhalhaeaaDoor.YSym
open Go.RowKit Go.Proofs.YtfcandmhalhaeaaDoor.YErr Go.Proofs.YtfcandmhalhaeaaDoor.YInv Go.Proofs.YtfcandmhalhaeaaDoor.YRef Go.Proofs.YtfcandmhalhaeaaDoor.YBits Go.Proofs.YtfcandmhalhaeaaDoor.QSy Go.Proofs.YtfcandmhalhaeaaDoor.YWide Go.Proofs.YtfcandmhalhaeaaDoorW.PrintWords Go.Proofs.YtfcandmhalhaeaaDoorW.PrintLast
set_option linter.unusedVariables false
set_option linter.unusedSimpArgs false
def W64 (x : Int) : Prop := -9223372036854775808 ≤ x ∧ x ≤ 9223372036854775807
theorem W64.small {x : Int} (h : W64 x) : Small x := small_i64 h.1 h.2
theorem okE_w {x : Int} (h : -1073741824 ≤ x ∧ x ≤ 1073741824) : W64 x := by unfold W64; omega
theorem W64.abs {x : Int} (h : W64 x) : x.natAbs ≤ 9223372036854775808 := by unfold W64 at h; omega
theorem small_abs {x : Int} (h : x.natAbs ≤ 2 ^ 255) : Small x := small_256 (by omega) (by omega)
theorem abs_mul {x y : Int} {a b : Nat} (h : x.natAbs ≤ a) (g : y.natAbs ≤ b) : (x * y).natAbs ≤ a * b := by rw [Int.natAbs_mul]; exact Nat.mul_le_mul h g
theorem small_2 {x y : Int} (h : W64 x) (g : W64 y) : Small (x * y) := small_abs (Nat.le_trans (abs_mul h.abs g.abs) (by decide))
theorem small_3 {x y z : Int} (h : W64 x) (g : W64 y) (k : W64 z) : Small (x * (y * z)) := small_abs (Nat.le_trans (abs_mul h.abs (abs_mul g.abs k.abs)) (by decide))
theorem small_s {u x y z : Int} (a : W64 u) (h : W64 x) (g : W64 y) (k : W64 z) : Small (u + x * (y * z)) := small_abs (by
  have h1 := abs_mul h.abs (abs_mul g.abs k.abs)
  have h2 := a.abs
  have h3 := Int.natAbs_add_le u (x * (y * z))
  have h4 : 9223372036854775808 + 9223372036854775808 * (9223372036854775808 * 9223372036854775808) ≤ 2 ^ 255 := by decide
  omega)
theorem okE_64 {x : Int} (h : okE x = true) : W64 x := okE_w (okE_t h)
theorem getD_w {l : List Int} (h : ∀ x ∈ l, W64 x) (i : Nat) : W64 (l.getD i 0) := by
  by_cases hi : i < l.length
  · rw [show l.getD i 0 = l[i] by simp [List.getD, hi]]; exact h _ (List.getElem_mem hi)
  · rw [show l.getD i 0 = 0 by simp [List.getD, hi]]; unfold W64; omega
theorem okl_w {l : List Int} (h : ∀ x ∈ l, -1073741824 ≤ x ∧ x ≤ 1073741824) : ∀ x ∈ l, W64 x := fun x hx => okE_w (h x hx)
instance (x : Int) : Decidable (W64 x) := by unfold W64; infer_instance
set_option maxRecDepth 100000 in
set_option maxHeartbeats 16000000 in
theorem ROuter_c {n : Int} {w : World} {A B : Option Addr} {c d : Nat} {l h : List Int} (R : Rd w A l) (hc : l.length ≤ c) (hl : l.length ≤ 1000) (RH : Rd w B h) (hh : h.length ≤ 100) (wh : ∀ x ∈ h, W64 x) (xw : Int) (wx64 : W64 xw) :
    Calls Tryd.prog 28 #[.agg #[.int .i64 n, .slice A l.length c],   .int .i64 xw, .slice B h.length d] w fun e w' => RSymEnd w (genN n l (decide ((h.length : Int) = n)) (outF n.toNat l xw h)) (genL n l (decide ((h.length : Int) = n)) (outF n.toNat l xw h)) (genE n l (decide ((h.length : Int) = n)) (outF n.toNat l xw h)) e w' := by
  have k0 := ((Blk.new w #[.int .i64 n, .slice A l.length c] 24).alloc (.cells #[.int .i64 0, .slice none 0 0] 24))
  have k1 : Blk ((w.alloc (.cells #[.int .i64 n, .slice A l.length c] 24)).alloc (.cells #[.int .i64 0, .slice none 0 0] 24)) (w.heap.size + 1) #[.int .i64 0, .slice none 0 0] 24 := by
    have := (Blk.new (w.alloc (.cells #[.int .i64 n, .slice A l.length c] 24)) #[.int .i64 0, .slice none 0 0] 24)
    simpa using this
  have b0 : Below w.heap.size w ((w.alloc (.cells #[.int .i64 n, .slice A l.length c] 24)).alloc (.cells #[.int .i64 0, .slice none 0 0] 24)) := (((Below.refl _ _).alloc (Nat.le_refl _) _).alloc (by simp) _)
  have hs0 : w.heap.size + 2 ≤ ((w.alloc (.cells #[.int .i64 n, .slice A l.length c] 24)).alloc (.cells #[.int .i64 0, .slice none 0 0] 24)).heap.size := by simp
  have SR := SymRight_c (n := n) (R.keep b0) hc hl
  replace R := R.keep b0
  generalize hgd : decide ((h.length : Int) = n) = gd
  go_enter Tryd.func28, Tryd.ntmps28
  go_wp2_with fail
  refine SR.mono ?_; rintro e w1 ⟨rfl, g1⟩
  replace R := R.keep g1
  have b1 := bb b0 g1
  have hs1 := Nat.le_trans hs0 g1.size
  replace k0 := k0.keep g1
  replace k1 := k1.keep g1
  have z0 := (k1.cell 0).trans (show _ = some (.int .i64 0) from rfl)
  have z1 := (k1.cell 1).trans (show _ = some (.slice none 0 0) from rfl)
  have y0 := k1.free 0
  have y1 := k1.free 1
  have c0 := (k0.cell 0).trans (show _ = some (.int .i64 n) from rfl)
  have c1 := (k0.cell 1).trans (show _ = some (.slice A l.length c) from rfl)
  have t0 := k0.free 0
  have t1 := k0.free 1
  clear SR g1 b0 hs0
  cases hr : rightB n l with
  | false =>
    have HE := Lib.hid (gen_23 (f := outF n.toNat l xw h) (g := gd) (.inl hr))
    have HB := Lib.hid (gen_bad HE.out (by decide))
    clear R hr hgd
    go_wp2_with fail
    refine bodyPost_ret (v := .tuple #[.agg #[.int .i64 0, .slice none 0 0], .int .i64 23]) ?_ rfl ?_
    · rw [results_cell_tmp rfl]
      go_simp
    · rw [HB.out.1, HB.out.2, HE.out]
      have P := put2 (.int .i64 0) (.slice none 0 0) k1 b1 (by omega)
      exact ⟨none, 0, rfl, OwnI.nil _ _, P.below⟩
  | true =>
    have HR := Lib.hid hr
    by_cases hn : (h.length : Int) = n
    case neg =>
      have HE := Lib.hid (gen_23 (n := n) (l := l) (f := outF n.toNat l xw h) (g := gd) (.inr (by rw [← hgd]; exact decide_eq_false hn)))
      have HB := Lib.hid (gen_bad HE.out (by decide))
      have e1 : ((h.length : Int) != n) = true := by simpa using hn
      clear R hr hgd hn
      go_wp2_with fail
      refine bodyPost_ret (v := .tuple #[.agg #[.int .i64 0, .slice none 0 0], .int .i64 23]) ?_ rfl ?_
      · rw [results_cell_tmp rfl]
        go_simp
      · rw [HB.out.1, HB.out.2, HE.out]
        have P := put2 (.int .i64 0) (.slice none 0 0) k1 b1 (by omega)
        exact ⟨none, 0, rfl, OwnI.nil _ _, P.below⟩
    case pos =>
      obtain ⟨m, rfl, hm, hlen, hall⟩ := rightB_nat hr
      have e1 : ((h.length : Int) != (m : Int)) = false := by simpa using hn
      have G0 := fun (F : ∀ k, k < tri m → okE (outF m l xw h k) = true) => gen_0 (g := gd) hr (by rw [← hgd]; exact decide_eq_true hn) F
      have G21 := fun k (hk : k < tri m) F => gen_21 (f := outF m l xw h) (g := gd) (k := k) hr (by rw [← hgd]; exact decide_eq_true hn) hk F
      simp only [Int.toNat_natCast] at *
      have CP := Copy_c (n := m) (c := c) R hl
      have HG0 := Lib.hid G0
      have HG21 := Lib.hid G21
      have HLN := Lib.hid hlen
      have HALL := Lib.hid hall
      have HWH := Lib.hid wh
      have hnm : h.length = m := by omega
      have HNM := Lib.hid hnm
      have HM := Lib.hid hm
      have mI : (m : Int) ≤ 8 := by omega
      have m0 : (0 : Int) ≤ (m : Int) := by omega
      have HRH := Lib.hid RH
      have HX := Lib.hid wx64
      clear hr hgd hn hnm hlen hall wh G0 G21 hm RH wx64 hh
      go_wp2_with fail
      refine CP.mono ?_; rintro e w2 ⟨A', c', rfl, own, g2⟩
      have b2 : Below w.heap.size w w2 := bb b1 g2
      have ow : OwnI w2 (w.heap.size + 2) A' c' l := OwnI.mono own (by exact hs1)
      replace k0 := Blk.keep (show Blk _ _ _ _ by exact k0) g2
      replace k1 := Blk.keep (show Blk _ _ _ _ by exact k1) g2
      have c0 := (k0.cell 0).trans (show _ = some (.int .i64 (m : Int)) from rfl)
      have c1 := (k0.cell 1).trans (show _ = some (.slice A l.length c) from rfl)
      have t0 := k0.free 0
      have t1 := k0.free 1
      have P := put2 (.int .i64 m) (.slice A' l.length c') k0 b2 (by omega)
      have OI : OIn w ((w2.setCell ⟨w.heap.size, 0, none⟩ (.int .i64 m)).setCell ⟨w.heap.size, 1, none⟩ (.slice A' l.length c')) m l (outF m l xw h) A' c' 0 :=
        ⟨P.blk, P.oth k1 (by omega), by rw [curL_0]; exact P.own ow (ow.ne (by omega)), P.below, fun q hq => absurd hq (Nat.not_lt_zero _)⟩
      have HOI := Lib.hid OI
      have HCP := Lib.hid hc
      have q0 := (P.blk.cell 0).trans (show _ = some (.int .i64 (m : Int)) from rfl)
      clear own g2 CP k0 k1 b2 ow P OI z0 z1 y0 y1 R b1 hs1 hc
      go_wp2_with fail
      generalize (w2.setCell ⟨w.heap.size, 0, none⟩ (.int .i64 m)).setCell ⟨w.heap.size, 1, none⟩ (.slice A' l.length c') = W5 at *
      clear c0 c1 t0 t1 q0
      go_loopw [8] (fun s8 wl => ∃ i : Nat, i ≤ m ∧ s8 = .int .i64 i ∧ OIn w wl m l (outF m l xw h) A' c' (pl m i i)) (fun s8 _ => m - (intOf s8).toNat)
      case atStart => exact ⟨0, Nat.zero_le _, rfl, by rw [pl_first]; exact HOI.out⟩
      case round =>
        obtain ⟨i, hi, rfl, OI⟩ := hrel
        have i0 : (0 : Int) ≤ (i : Int) := by omega
        have q0 := (OI.k0.cell 0).trans (show _ = some (.int .i64 (m : Int)) from rfl)
        by_cases him : i < m
        · have i1 : (i : Int) < (m : Int) := by omega
          have i2 : decide ((i : Int) < (m : Int)) = true := by simpa using him
          have HO := Lib.hid OI
          clear OI
          go_wp2_with fail
          clear q0 i2
          go_loopw [9] (fun s9 wl => ∃ j : Nat, i ≤ j ∧ j ≤ m ∧ s9 = .int .i64 j ∧ OIn w wl m l (outF m l xw h) A' c' (pl m i j)) (fun s9 _ => m - (intOf s9).toNat)
          case atStart => exact ⟨i, Nat.le_refl _, hi, rfl, HO.out⟩
          case round =>
            clear HO
            obtain ⟨j, hij, hj, rfl, OI⟩ := hrel
            have j0 : (0 : Int) ≤ (j : Int) := by omega
            have q0 := (OI.k0.cell 0).trans (show _ = some (.int .i64 (m : Int)) from rfl)
            by_cases hjm : j < m
            · have j1 : (j : Int) < (m : Int) := by omega
              have j2 : decide ((j : Int) < (m : Int)) = true := by simpa using hjm
              have hp : pl m i j < tri m := pl_lt HM.out him hjm
              have hlen := HLN.out
              have hcl : (curL (outF m l xw h) l (pl m i j)).length = l.length := curL_len (by omega)
              have hcg : (curL (outF m l xw h) l (pl m i j)).getD (pl m i j) 0 = l.getD (pl m i j) 0 := curL_at (Nat.le_refl _)
              have hf := outF_at HM.out hij hjm l xw h
              have wl := getD_w (okl_w HALL.out) (pl m i j)
              have wi := getD_w HWH.out i
              have wj := getD_w HWH.out j
              have hnx := pl_next m hij
              have HNX := Lib.hid hnx
              have G21 := HG21.out (pl m i j) hp
              have cap := OI.ow.cap
              rw [hcl] at cap
              have AT := fun W (g : Below wr.heap.size wr W) => At_c (c := c') (OI.ow.rd.keep g) (by rw [hcl]; exact cap) HM.out him hjm (by rw [hcl]; exact hlen)
              simp only [hcl, hcg] at AT
              have PL := fun W => at_c HM.out (show i ≤ m by omega) (show j ≤ m by omega) W
              rcases OI.ow.form with ⟨_, _, e⟩ | ⟨g, rfl, hg, hg2, _, _⟩
              · rw [e] at hcl; simp at hcl; omega
              obtain ⟨gh, oh, rfl, HRC⟩ := (HRH.out.keep OI.b) (by have := HNM.out; omega)
              have ci := HRC i (by have := HNM.out; omega)
              have cj := HRC j (by have := HNM.out; omega)
              have i1' : (i : Int) < (h.length : Int) := by have := HNM.out; omega
              have j1' : (j : Int) < (h.length : Int) := by have := HNM.out; omega
              have hpl : pl m i j < l.length := by omega
              have p0 : (0 : Int) ≤ ((pl m i j : Nat) : Int) := by omega
              have p1 : ((pl m i j : Nat) : Int) < (l.length : Int) := by omega
              have HST := Lib.hid (OI.store hpl)
              have cellp := OI.ow.at_ (i := pl m i j) (by rw [hcl]; exact hpl)
              rw [hcg] at cellp
              have freep := OI.ow.free (pl m i j)
              clear HRC hcl hcg hnx hlen cap
              generalize hv : outF m l xw h (pl m i j) = fv at *
              have HFV := Lib.hid hv
              clear hv
              generalize hp1 : pl m i (j + 1) = p' at *
              have HP1 := Lib.hid hp1
              clear hp1
              generalize pl m i j = p at *
              generalize l.getD p 0 = lp at *
              generalize h.getD i 0 = hi' at *
              generalize h.getD j 0 = hj' at *
              subst hf
              have OL := fun W => ROf_c lp wl.1 wl.2 W
              have OX := fun W => ROf_c xw HX.out.1 HX.out.2 W
              have OHi := fun W => ROf_c hi' wi.1 wi.2 W
              have OHj := fun W => ROf_c hj' wj.1 wj.2 W
              have s1 := wl.small
              have s2 := HX.out.small
              have s3 := wi.small
              have s4 := wj.small
              have s5 := small_2 wi wj
              have s6 := small_3 HX.out wi wj
              have s7 := small_s wl HX.out wi wj
              have k0 := OI.k0
              have HO := Lib.hid OI
              clear OI wl wi wj
              go_wp2_with fail
              refine region_vals (σ := Nat → Value) [some 37, some 38, some 39, some 40, some 41, some 42, some 43, some 44, some 45, some 46, some 47, some 48, some 49, some 50, some 51, some 52, some 53, some 54, some 55, some 56, some 10, none] (VQ [some (.agg #[.int .i64 (m : Int), .slice (some ⟨g, 0, none⟩) l.length c']), some (.int .i64 (i : Int)), some (.int .i64 (j : Int)), some (.int .i64 lp), none, some (.int .i64 xw), none, some (.slice (some ⟨gh, oh, none⟩) h.length d), some (.int .i64 (i : Int)), some (.pointer (some ⟨gh, oh + i, none⟩)), some (.int .i64 hi'), none, some (.slice (some ⟨gh, oh, none⟩) h.length d), some (.int .i64 (j : Int)), some (.pointer (some ⟨gh, oh + j, none⟩)), some (.int .i64 hj'), none, none, none, none, none, some (undef)]) (fun L s wx => Below wr.heap.size wr wx ∧ (L 4 = true → BigAt wx (s 4) (lp)) ∧ (L 6 = true → BigAt wx (s 6) (xw)) ∧ (L 11 = true → BigAt wx (s 11) (hi')) ∧ (L 16 = true → BigAt wx (s 16) (hj')) ∧ (L 17 = true → BigAt wx (s 17) (hi' * hj')) ∧ (L 18 = true → BigAt wx (s 18) (xw * (hi' * hj'))) ∧ (L 19 = true → BigAt wx (s 19) (lp + xw * (hi' * hj'))) ∧ (L 20 = true → ∃ g, s 20 = .pointer (some ⟨g, 0, none⟩) ∧ wr.heap.size ≤ g ∧ (L 21 = false → Blk wx g #[.bool false, .slice none 0 0] 90) ∧ (L 21 = true → L 19 = true ∧ ∃ b A n c, s 19 = .agg #[.bool b, .slice A n c] ∧ Blk wx g #[.bool b, .slice A n c] 90)) ∧ (L 21 = true → L 20 = true)) (fun _ => undef) [0, 1, 2, 3, 4, 5, 6, 7, 8, 9, 10, 11, 12, 13, 14, 15, 16, 17, 18, 19, 20, 21] _ _ rfl (by kernel_rfl) (by kernel_rfl) (by kernel_rfl) (by kernel_rfl) (by kernel_rfl) ⟨(Below.refl _ _).drew, fun h => absurd h (by decide), fun h => absurd h (by decide), fun h => absurd h (by decide), fun h => absurd h (by decide), fun h => absurd h (by decide), fun h => absurd h (by decide), fun h => absurd h (by decide), fun h => absurd h (by decide), fun h => absurd h (by decide)⟩ ?stepsA ?finA (fun L L' s wx e h => by rw [e 4 (by decide), e 6 (by decide), e 11 (by decide), e 16 (by decide), e 17 (by decide), e 18 (by decide), e 19 (by decide), e 20 (by decide), e 21 (by decide)] at h; exact h)
              case stepsA =>
                refine VSteps.cons rfl (fun x L s wx K kn hL hp hI hK => ?_) ?_
                · have e3 : x[3]? = some (.pointer (some ⟨w.heap.size, 0, none⟩)) := (kn.old 3 (by kernel_rfl)).trans rfl
                  refine want_ rfl ?_
                  obtain ⟨BW, D4, D6, D11, D16, D17, D18, D19, A20, S20⟩ := hI
                  exact wp_load_row 24 _ rfl w.heap.size (ev_ e3) 24 #[.int .i64 (m : Int), .slice (some ⟨g, 0, none⟩) l.length c'] (0, 0) _ (Blk.keep k0 BW) Tryd.underlying24 rfl info_sym (hK.out s _ (fun _ _ => rfl) ⟨BW, D4, D6, D11, D16, D17, D18, D19, A20, S20⟩)
                refine VSteps.cons rfl (fun x L s wx K kn hL hp hI hK => ?_) ?_
                · have e8 : x[8]? = some (.int .i64 (i : Int)) := (kn.old 8 (by kernel_rfl)).trans rfl
                  refine want_ rfl ?_
                  obtain ⟨BW, D4, D6, D11, D16, D17, D18, D19, A20, S20⟩ := hI
                  exact val_ (v := .int .i64 (i : Int)) (by simp [go_sem, execOp, evr_, e8]) (hK.out s _ (fun _ _ => rfl) ⟨BW, D4, D6, D11, D16, D17, D18, D19, A20, S20⟩)
                refine VSteps.cons rfl (fun x L s wx K kn hL hp hI hK => ?_) ?_
                · have e9 : x[9]? = some (.int .i64 (j : Int)) := (kn.old 9 (by kernel_rfl)).trans rfl
                  refine want_ rfl ?_
                  obtain ⟨BW, D4, D6, D11, D16, D17, D18, D19, A20, S20⟩ := hI
                  exact val_ (v := .int .i64 (j : Int)) (by simp [go_sem, execOp, evr_, e9]) (hK.out s _ (fun _ _ => rfl) ⟨BW, D4, D6, D11, D16, D17, D18, D19, A20, S20⟩)
                refine VSteps.cons rfl (fun x L s wx K kn hL hp hI hK => ?_) ?_
                · have e37 : x[37]? = some (.agg #[.int .i64 (m : Int), .slice (some ⟨g, 0, none⟩) l.length c']) := kn.got 0 37 (hp ⟨0, .data⟩ (by simp) rfl) rfl
                  have e38 : x[38]? = some (.int .i64 (i : Int)) := kn.got 1 38 (hp ⟨1, .data⟩ (by simp) rfl) rfl
                  have e39 : x[39]? = some (.int .i64 (j : Int)) := kn.got 2 39 (hp ⟨2, .data⟩ (by simp) rfl) rfl
                  refine want_ rfl ?_
                  obtain ⟨BW, D4, D6, D11, D16, D17, D18, D19, A20, S20⟩ := hI
                  refine goesK_ Tryd.func16 (by kernel_rfl) rfl #[.agg #[.int .i64 (m : Int), .slice (some ⟨g, 0, none⟩) l.length c'], .int .i64 (i : Int), .int .i64 (j : Int)] rfl (by simp only [List.map_toArray, List.map_cons, List.map_nil, evr_, ev_ e37, ev_ e38, ev_ e39]) ((AT _ BW).mono ?_)
                  rintro e w' ⟨rfl, g⟩
                  exact ⟨_, rfl, hK.out s _ (fun _ _ => rfl) ⟨bb BW g, fun h => (D4 h).keep g, fun h => (D6 h).keep g, fun h => (D11 h).keep g, fun h => (D16 h).keep g, fun h => (D17 h).keep g, fun h => (D18 h).keep g, fun h => (D19 h).keep g, fun h => by
                    obtain ⟨g0, h1, h2, h3, h4⟩ := A20 h
                    exact ⟨g0, h1, h2, fun k => (h3 k).keep g, fun k => (h4 k).imp id fun ⟨b, A, n, c, u, v⟩ => ⟨b, A, n, c, u, v.keep g⟩⟩, S20⟩⟩
                refine VSteps.cons rfl (fun x L s wx K kn hL hp hI hK => ?_) ?_
                · have e40 : x[40]? = some (.int .i64 lp) := kn.got 3 40 (hp ⟨3, .data⟩ (by simp) rfl) rfl
                  refine want_ rfl ?_
                  obtain ⟨BW, D4, D6, D11, D16, D17, D18, D19, A20, S20⟩ := hI
                  refine goesK_ Tryd.func48 (by kernel_rfl) rfl #[.int .i64 lp] rfl (by simp only [List.map_toArray, List.map_cons, List.map_nil, evr_, ev_ e40]) ((OL _).mono ?_)
                  rintro e w' ⟨v, rfl, hv, g⟩
                  exact ⟨_, rfl, hK.out (updv s 4 v) _ (VQ_upd _ _ _ hL) ⟨bb BW g, fun _ => hv, fun h => (D6 h).keep g, fun h => (D11 h).keep g, fun h => (D16 h).keep g, fun h => (D17 h).keep g, fun h => (D18 h).keep g, fun h => (D19 h).keep g, fun h => by
                    obtain ⟨g0, h1, h2, h3, h4⟩ := A20 h
                    exact ⟨g0, h1, h2, fun k => (h3 k).keep g, fun k => (h4 k).imp id fun ⟨b, A, n, c, u, v⟩ => ⟨b, A, n, c, u, v.keep g⟩⟩, S20⟩⟩
                refine VSteps.cons rfl (fun x L s wx K kn hL hp hI hK => ?_) ?_
                · have e1 : x[1]? = some (.int .i64 xw) := (kn.old 1 (by kernel_rfl)).trans rfl
                  refine want_ rfl ?_
                  obtain ⟨BW, D4, D6, D11, D16, D17, D18, D19, A20, S20⟩ := hI
                  exact val_ (v := .int .i64 xw) (by simp [go_sem, execOp, evr_, e1]) (hK.out s _ (fun _ _ => rfl) ⟨BW, D4, D6, D11, D16, D17, D18, D19, A20, S20⟩)
                refine VSteps.cons rfl (fun x L s wx K kn hL hp hI hK => ?_) ?_
                · have e42 : x[42]? = some (.int .i64 xw) := kn.got 5 42 (hp ⟨5, .data⟩ (by simp) rfl) rfl
                  refine want_ rfl ?_
                  obtain ⟨BW, D4, D6, D11, D16, D17, D18, D19, A20, S20⟩ := hI
                  refine goesK_ Tryd.func48 (by kernel_rfl) rfl #[.int .i64 xw] rfl (by simp only [List.map_toArray, List.map_cons, List.map_nil, evr_, ev_ e42]) ((OX _).mono ?_)
                  rintro e w' ⟨v, rfl, hv, g⟩
                  exact ⟨_, rfl, hK.out (updv s 6 v) _ (VQ_upd _ _ _ hL) ⟨bb BW g, fun h => (D4 h).keep g, fun _ => hv, fun h => (D11 h).keep g, fun h => (D16 h).keep g, fun h => (D17 h).keep g, fun h => (D18 h).keep g, fun h => (D19 h).keep g, fun h => by
                    obtain ⟨g0, h1, h2, h3, h4⟩ := A20 h
                    exact ⟨g0, h1, h2, fun k => (h3 k).keep g, fun k => (h4 k).imp id fun ⟨b, A, n, c, u, v⟩ => ⟨b, A, n, c, u, v.keep g⟩⟩, S20⟩⟩
                refine VSteps.cons rfl (fun x L s wx K kn hL hp hI hK => ?_) ?_
                · have e2 : x[2]? = some (.slice (some ⟨gh, oh, none⟩) h.length d) := (kn.old 2 (by kernel_rfl)).trans rfl
                  refine want_ rfl ?_
                  obtain ⟨BW, D4, D6, D11, D16, D17, D18, D19, A20, S20⟩ := hI
                  exact val_ (v := .slice (some ⟨gh, oh, none⟩) h.length d) (by simp [go_sem, execOp, evr_, e2]) (hK.out s _ (fun _ _ => rfl) ⟨BW, D4, D6, D11, D16, D17, D18, D19, A20, S20⟩)
                refine VSteps.cons rfl (fun x L s wx K kn hL hp hI hK => ?_) ?_
                · have e8 : x[8]? = some (.int .i64 (i : Int)) := (kn.old 8 (by kernel_rfl)).trans rfl
                  refine want_ rfl ?_
                  obtain ⟨BW, D4, D6, D11, D16, D17, D18, D19, A20, S20⟩ := hI
                  exact val_ (v := .int .i64 (i : Int)) (by simp [go_sem, execOp, evr_, e8]) (hK.out s _ (fun _ _ => rfl) ⟨BW, D4, D6, D11, D16, D17, D18, D19, A20, S20⟩)
                refine VSteps.cons rfl (fun x L s wx K kn hL hp hI hK => ?_) ?_
                · have e44 : x[44]? = some (.slice (some ⟨gh, oh, none⟩) h.length d) := kn.got 7 44 (hp ⟨7, .data⟩ (by simp) rfl) rfl
                  have e45 : x[45]? = some (.int .i64 (i : Int)) := kn.got 8 45 (hp ⟨8, .data⟩ (by simp) rfl) rfl
                  refine want_ rfl ?_
                  obtain ⟨BW, D4, D6, D11, D16, D17, D18, D19, A20, S20⟩ := hI
                  exact val_ (v := .pointer (some ⟨gh, oh + i, none⟩)) (by simp [go_sem, execOp, evr_, e44, e45, i0, i1', addr_add]) (hK.out s _ (fun _ _ => rfl) ⟨BW, D4, D6, D11, D16, D17, D18, D19, A20, S20⟩)
                refine VSteps.cons rfl (fun x L s wx K kn hL hp hI hK => ?_) ?_
                · have e46 : x[46]? = some (.pointer (some ⟨gh, oh + i, none⟩)) := kn.got 9 46 (hp ⟨9, .data⟩ (by simp) rfl) rfl
                  refine want_ rfl ?_
                  obtain ⟨BW, D4, D6, D11, D16, D17, D18, D19, A20, S20⟩ := hI
                  have cA := (BW.cell (lt_of_cell ci)).trans ci
                  exact valw_ (v := .int .i64 hi') (w' := wx) (by simp [go_sem, execOp, evr_, e46, cA]) (hK.out s _ (fun _ _ => rfl) ⟨BW, D4, D6, D11, D16, D17, D18, D19, A20, S20⟩)
                refine VSteps.cons rfl (fun x L s wx K kn hL hp hI hK => ?_) ?_
                · have e47 : x[47]? = some (.int .i64 hi') := kn.got 10 47 (hp ⟨10, .data⟩ (by simp) rfl) rfl
                  refine want_ rfl ?_
                  obtain ⟨BW, D4, D6, D11, D16, D17, D18, D19, A20, S20⟩ := hI
                  refine goesK_ Tryd.func48 (by kernel_rfl) rfl #[.int .i64 hi'] rfl (by simp only [List.map_toArray, List.map_cons, List.map_nil, evr_, ev_ e47]) ((OHi _).mono ?_)
                  rintro e w' ⟨v, rfl, hv, g⟩
                  exact ⟨_, rfl, hK.out (updv s 11 v) _ (VQ_upd _ _ _ hL) ⟨bb BW g, fun h => (D4 h).keep g, fun h => (D6 h).keep g, fun _ => hv, fun h => (D16 h).keep g, fun h => (D17 h).keep g, fun h => (D18 h).keep g, fun h => (D19 h).keep g, fun h => by
                    obtain ⟨g0, h1, h2, h3, h4⟩ := A20 h
                    exact ⟨g0, h1, h2, fun k => (h3 k).keep g, fun k => (h4 k).imp id fun ⟨b, A, n, c, u, v⟩ => ⟨b, A, n, c, u, v.keep g⟩⟩, S20⟩⟩
                refine VSteps.cons rfl (fun x L s wx K kn hL hp hI hK => ?_) ?_
                · have e2 : x[2]? = some (.slice (some ⟨gh, oh, none⟩) h.length d) := (kn.old 2 (by kernel_rfl)).trans rfl
                  refine want_ rfl ?_
                  obtain ⟨BW, D4, D6, D11, D16, D17, D18, D19, A20, S20⟩ := hI
                  exact val_ (v := .slice (some ⟨gh, oh, none⟩) h.length d) (by simp [go_sem, execOp, evr_, e2]) (hK.out s _ (fun _ _ => rfl) ⟨BW, D4, D6, D11, D16, D17, D18, D19, A20, S20⟩)
                refine VSteps.cons rfl (fun x L s wx K kn hL hp hI hK => ?_) ?_
                · have e9 : x[9]? = some (.int .i64 (j : Int)) := (kn.old 9 (by kernel_rfl)).trans rfl
                  refine want_ rfl ?_
                  obtain ⟨BW, D4, D6, D11, D16, D17, D18, D19, A20, S20⟩ := hI
                  exact val_ (v := .int .i64 (j : Int)) (by simp [go_sem, execOp, evr_, e9]) (hK.out s _ (fun _ _ => rfl) ⟨BW, D4, D6, D11, D16, D17, D18, D19, A20, S20⟩)
                refine VSteps.cons rfl (fun x L s wx K kn hL hp hI hK => ?_) ?_
                · have e49 : x[49]? = some (.slice (some ⟨gh, oh, none⟩) h.length d) := kn.got 12 49 (hp ⟨12, .data⟩ (by simp) rfl) rfl
                  have e50 : x[50]? = some (.int .i64 (j : Int)) := kn.got 13 50 (hp ⟨13, .data⟩ (by simp) rfl) rfl
                  refine want_ rfl ?_
                  obtain ⟨BW, D4, D6, D11, D16, D17, D18, D19, A20, S20⟩ := hI
                  exact val_ (v := .pointer (some ⟨gh, oh + j, none⟩)) (by simp [go_sem, execOp, evr_, e49, e50, j0, j1', addr_add]) (hK.out s _ (fun _ _ => rfl) ⟨BW, D4, D6, D11, D16, D17, D18, D19, A20, S20⟩)
                refine VSteps.cons rfl (fun x L s wx K kn hL hp hI hK => ?_) ?_
                · have e51 : x[51]? = some (.pointer (some ⟨gh, oh + j, none⟩)) := kn.got 14 51 (hp ⟨14, .data⟩ (by simp) rfl) rfl
                  refine want_ rfl ?_
                  obtain ⟨BW, D4, D6, D11, D16, D17, D18, D19, A20, S20⟩ := hI
                  have cA := (BW.cell (lt_of_cell cj)).trans cj
                  exact valw_ (v := .int .i64 hj') (w' := wx) (by simp [go_sem, execOp, evr_, e51, cA]) (hK.out s _ (fun _ _ => rfl) ⟨BW, D4, D6, D11, D16, D17, D18, D19, A20, S20⟩)
                refine VSteps.cons rfl (fun x L s wx K kn hL hp hI hK => ?_) ?_
                · have e52 : x[52]? = some (.int .i64 hj') := kn.got 15 52 (hp ⟨15, .data⟩ (by simp) rfl) rfl
                  refine want_ rfl ?_
                  obtain ⟨BW, D4, D6, D11, D16, D17, D18, D19, A20, S20⟩ := hI
                  refine goesK_ Tryd.func48 (by kernel_rfl) rfl #[.int .i64 hj'] rfl (by simp only [List.map_toArray, List.map_cons, List.map_nil, evr_, ev_ e52]) ((OHj _).mono ?_)
                  rintro e w' ⟨v, rfl, hv, g⟩
                  exact ⟨_, rfl, hK.out (updv s 16 v) _ (VQ_upd _ _ _ hL) ⟨bb BW g, fun h => (D4 h).keep g, fun h => (D6 h).keep g, fun h => (D11 h).keep g, fun _ => hv, fun h => (D17 h).keep g, fun h => (D18 h).keep g, fun h => (D19 h).keep g, fun h => by
                    obtain ⟨g0, h1, h2, h3, h4⟩ := A20 h
                    exact ⟨g0, h1, h2, fun k => (h3 k).keep g, fun k => (h4 k).imp id fun ⟨b, A, n, c, u, v⟩ => ⟨b, A, n, c, u, v.keep g⟩⟩, S20⟩⟩
                refine VSteps.cons rfl (fun x L s wx K kn hL hp hI hK => ?_) ?_
                · have e48 : x[48]? = some (s 11) := kn.got 11 48 (hp ⟨11, .data⟩ (by simp) rfl) rfl
                  have e53 : x[53]? = some (s 16) := kn.got 16 53 (hp ⟨16, .data⟩ (by simp) rfl) rfl
                  refine want_ rfl ?_
                  obtain ⟨BW, D4, D6, D11, D16, D17, D18, D19, A20, S20⟩ := hI
                  refine goesK_ Tryd.func49 (by kernel_rfl) rfl #[s 11, s 16] rfl (by simp only [List.map_toArray, List.map_cons, List.map_nil, evr_, ev_ e48, ev_ e53]) ((RMul_c (D11 (hp ⟨11, .data⟩ (by simp) rfl)) (D16 (hp ⟨16, .data⟩ (by simp) rfl)) s3 s4).mono ?_)
                  rintro e w' ⟨v, rfl, hv, g⟩
                  exact ⟨_, rfl, hK.out (updv s 17 v) _ (VQ_upd _ _ _ hL) ⟨bb BW g, fun h => (D4 h).keep g, fun h => (D6 h).keep g, fun h => (D11 h).keep g, fun h => (D16 h).keep g, fun _ => hv, fun h => (D18 h).keep g, fun h => (D19 h).keep g, fun h => by
                    obtain ⟨g0, h1, h2, h3, h4⟩ := A20 h
                    exact ⟨g0, h1, h2, fun k => (h3 k).keep g, fun k => (h4 k).imp id fun ⟨b, A, n, c, u, v⟩ => ⟨b, A, n, c, u, v.keep g⟩⟩, S20⟩⟩
                refine VSteps.cons rfl (fun x L s wx K kn hL hp hI hK => ?_) ?_
                · have e43 : x[43]? = some (s 6) := kn.got 6 43 (hp ⟨6, .data⟩ (by simp) rfl) rfl
                  have e54 : x[54]? = some (s 17) := kn.got 17 54 (hp ⟨17, .data⟩ (by simp) rfl) rfl
                  refine want_ rfl ?_
                  obtain ⟨BW, D4, D6, D11, D16, D17, D18, D19, A20, S20⟩ := hI
                  refine goesK_ Tryd.func49 (by kernel_rfl) rfl #[s 6, s 17] rfl (by simp only [List.map_toArray, List.map_cons, List.map_nil, evr_, ev_ e43, ev_ e54]) ((RMul_c (D6 (hp ⟨6, .data⟩ (by simp) rfl)) (D17 (hp ⟨17, .data⟩ (by simp) rfl)) s2 s5).mono ?_)
                  rintro e w' ⟨v, rfl, hv, g⟩
                  exact ⟨_, rfl, hK.out (updv s 18 v) _ (VQ_upd _ _ _ hL) ⟨bb BW g, fun h => (D4 h).keep g, fun h => (D6 h).keep g, fun h => (D11 h).keep g, fun h => (D16 h).keep g, fun h => (D17 h).keep g, fun _ => hv, fun h => (D19 h).keep g, fun h => by
                    obtain ⟨g0, h1, h2, h3, h4⟩ := A20 h
                    exact ⟨g0, h1, h2, fun k => (h3 k).keep g, fun k => (h4 k).imp id fun ⟨b, A, n, c, u, v⟩ => ⟨b, A, n, c, u, v.keep g⟩⟩, S20⟩⟩
                refine VSteps.cons rfl (fun x L s wx K kn hL hp hI hK => ?_) ?_
                · have e41 : x[41]? = some (s 4) := kn.got 4 41 (hp ⟨4, .data⟩ (by simp) rfl) rfl
                  have e55 : x[55]? = some (s 18) := kn.got 18 55 (hp ⟨18, .data⟩ (by simp) rfl) rfl
                  refine want_ rfl ?_
                  obtain ⟨BW, D4, D6, D11, D16, D17, D18, D19, A20, S20⟩ := hI
                  refine goesK_ Tryd.func47 (by kernel_rfl) rfl #[s 4, s 18] rfl (by simp only [List.map_toArray, List.map_cons, List.map_nil, evr_, ev_ e41, ev_ e55]) ((RAdd_c (D4 (hp ⟨4, .data⟩ (by simp) rfl)) (D18 (hp ⟨18, .data⟩ (by simp) rfl)) s1 s6).mono ?_)
                  rintro e w' ⟨v, rfl, hv, g⟩
                  exact ⟨_, rfl, hK.out (updv s 19 v) _ (VQ_upd _ _ _ hL) ⟨bb BW g, fun h => (D4 h).keep g, fun h => (D6 h).keep g, fun h => (D11 h).keep g, fun h => (D16 h).keep g, fun h => (D17 h).keep g, fun h => (D18 h).keep g, fun _ => hv, fun h => by
                    obtain ⟨g0, h1, h2, h3, h4⟩ := A20 h
                    exact ⟨g0, h1, h2, fun k => (h3 k).keep g, fun k => absurd (h4 k).1 (by simp [hL])⟩, S20⟩⟩
                refine VSteps.cons rfl (fun x L s wx K kn hL hp hI hK => ?_) ?_
                · refine want_ rfl ?_
                  obtain ⟨BW, D4, D6, D11, D16, D17, D18, D19, A20, S20⟩ := hI
                  have g : Below wx.heap.size wx (wx.alloc (.cells #[.bool false, .slice none 0 0] 90)) := (Below.refl _ _).alloc (Nat.le_refl _) _
                  exact valw_ (v := .pointer (some ⟨wx.heap.size, 0, none⟩)) (w' := wx.alloc (.cells #[.bool false, .slice none 0 0] 90)) (by simp [go_sem, execOp, evr_]) (hK.out (updv s 20 (.pointer (some ⟨wx.heap.size, 0, none⟩))) _ (VQ_upd _ _ _ hL) ⟨bb BW g, fun h => (D4 h).keep g, fun h => (D6 h).keep g, fun h => (D11 h).keep g, fun h => (D16 h).keep g, fun h => (D17 h).keep g, fun h => (D18 h).keep g, fun h => (D19 h).keep g, fun _ => ⟨wx.heap.size, rfl, BW.size, fun _ => Blk.new _ _ _, fun h => absurd (S20 h) (by simp [hL])⟩, fun _ => by simp [YInv.up]⟩)
                refine VSteps.cons rfl (fun x L s wx K kn hL hp hI hK => ?_) ?_
                · have e10 : x[10]? = some (s 20) := kn.got 20 10 (hp ⟨20, .data⟩ (by simp) rfl) rfl
                  have e56 : x[56]? = some (s 19) := kn.got 19 56 (hp ⟨19, .data⟩ (by simp) rfl) rfl
                  refine want_ rfl ?_
                  obtain ⟨BW, D4, D6, D11, D16, D17, D18, D19, A20, S20⟩ := hI
                  obtain ⟨g0, h1, h2, h3, h4⟩ := A20 (hp ⟨20, .data⟩ (by simp) rfl)
                  have kz := h3 hL
                  obtain ⟨Av, cv, hv, hcv, hCv⟩ := D19 (hp ⟨19, .data⟩ (by simp) rfl)
                  rw [h1] at e10
                  rw [hv] at e56
                  exact wp_store_row 90 _ _ rfl g0 _ (ev_ e10) (ev_ e56) 90 _ kz info_bigT rfl (by simp [Value.oneCell']) (hK.out s _ (fun _ _ => rfl) ⟨below_row BW h2 _, fun h => (D4 h).row kz _, fun h => (D6 h).row kz _, fun h => (D11 h).row kz _, fun h => (D16 h).row kz _, fun h => (D17 h).row kz _, fun h => (D18 h).row kz _, fun h => (D19 h).row kz _, fun _ => ⟨g0, h1, h2, fun h => absurd h (by simp [YInv.up]), fun _ => ⟨(hp ⟨19, .data⟩ (by simp) rfl), _, _, _, _, hv, setRow_heap _ _ _ _ _ _ kz⟩⟩, fun _ => (hp ⟨20, .data⟩ (by simp) rfl)⟩)
                exact VSteps.nil
              intro s wx hI
              simp only [puts, VQ, List.getD_cons_zero, List.getD_cons_succ, List.set_cons_zero, List.set_cons_succ]
              obtain ⟨BW, D4, D6, D11, D16, D17, D18, D19, A20, S20⟩ := hI
              replace D4 := D4 rfl
              replace D6 := D6 rfl
              replace D11 := D11 rfl
              replace D16 := D16 rfl
              replace D17 := D17 rfl
              replace D18 := D18 rfl
              replace D19 := D19 rfl
              obtain ⟨g20, E20, Z20, -, k20⟩ := A20 rfl
              obtain ⟨-, bv20, Av20, nv20, cv20, V20, K20⟩ := k20 rfl
              clear S20 k20 A20
              have hX : s 19 = .agg #[.bool bv20, .slice Av20 nv20 cv20] := V20
              rw [E20, hX]
              rw [hX] at D19
              have OI := HO.out.keep BW
              clear D4 D6 D11 D16 D17 D18 V20 E20 HO AT k0
              have FT := fun W (g : Below wx.heap.size wx W) => RFits_c (D19.keep g) s7
              have r0 := (K20.cell 0).trans (show _ = some (.bool bv20) from rfl)
              have r1 := (K20.cell 1).trans (show _ = some (.slice Av20 nv20 cv20) from rfl)
              go_wp2_with fail
              refine (FT _ (Below.refl _ _)).mono ?_; rintro e w7 ⟨rfl, g7⟩
              have OI7 := OI.keep g7
              have HO7 := Lib.hid OI7
              have K7 := K20.keep g7
              have D7 := D19.keep g7
              have r0 := (K7.cell 0).trans (show _ = some (.bool bv20) from rfl)
              have r1 := (K7.cell 1).trans (show _ = some (.slice Av20 nv20 cv20) from rfl)
              have qp := (g7.cell (lt_of_cell ((BW.cell (lt_of_cell cellp)).trans cellp))).trans ((BW.cell (lt_of_cell cellp)).trans cellp)
              clear FT OI g7 D19 K20 cellp
              cases hok : okE (lp + xw * (hi' * hj')) with
              | false =>
                have HE := Lib.hid (G21 hok)
                have HB := Lib.hid (gen_bad HE.out (by decide))
                have k1 := OI7.k1
                have b1 := OI7.b
                have z0 := (k1.cell 0).trans (show _ = some (.int .i64 0) from rfl)
                have z1 := (k1.cell 1).trans (show _ = some (.slice none 0 0) from rfl)
                have y0 := k1.free 0
                have y1 := k1.free 1
                clear OI7 G21
                go_wp2_with fail
                refine bodyPost_ret (v := .tuple #[.agg #[.int .i64 0, .slice none 0 0], .int .i64 21]) ?_ rfl ?_
                · rw [results_cell_tmp rfl]
                  go_simp
                · (try simp only [Int.toNat_natCast])
                  rw [HB.out.1, HB.out.2, HE.out]
                  have P := put2 (.int .i64 0) (.slice none 0 0) k1 b1 (by omega)
                  exact ⟨none, 0, rfl, OwnI.nil _ _, P.below⟩
              | true =>
                have w64 := okE_64 hok
                have I64 := fun W (g : Below w7.heap.size w7 W) => RInt64_c (D7.keep g) w64.1 w64.2
                have ST := fun W (g : Below w7.heap.size w7 W) => (OI7.keep g)
                have q0 := (OI7.k0.cell 0).trans (show _ = some (.int .i64 (m : Int)) from rfl)
                have q1 := (OI7.k0.cell 1).trans (show _ = some (.slice (some ⟨g, 0, none⟩) l.length c') from rfl)
                clear HO7 G21
                go_wp2_with fail
                go_region_held3 (fun w' => w'.cell? ⟨w.heap.size, 0, none⟩ = some (.int .i64 (m : Int)) ∧ w'.cell? ⟨w.heap.size, 1, none⟩ = some (.slice (some ⟨g, 0, none⟩) l.length c') ∧ w'.cell? ⟨g20, 0, none⟩ = some (.bool bv20) ∧ w'.cell? ⟨g20, 1, none⟩ = some (.slice Av20 nv20 cv20))
                  (first | exact ⟨q0, q1, r0, r1⟩ | exact ⟨(g9.cell (lt_of_cell q0)).trans q0, (g9.cell (lt_of_cell q1)).trans q1, (g9.cell (lt_of_cell r0)).trans r0, (g9.cell (lt_of_cell r1)).trans r1⟩ | exact ⟨(World.cell?_setCell_far _ _ _ _ (by show g ≠ w.heap.size; omega)).trans ((g9.cell (lt_of_cell q0)).trans q0), (World.cell?_setCell_far _ _ _ _ (by show g ≠ w.heap.size; omega)).trans ((g9.cell (lt_of_cell q1)).trans q1), (World.cell?_setCell_far _ _ _ _ (by show g ≠ g20; omega)).trans ((g9.cell (lt_of_cell r0)).trans r0), (World.cell?_setCell_far _ _ _ _ (by show g ≠ g20; omega)).trans ((g9.cell (lt_of_cell r1)).trans r1)⟩)
                  (first
                    | (go_at_call 40; refine (PL _).mono ?_; rintro e w8 ⟨rfl, n8, rfl⟩)
                    | (go_at_call 51; refine (I64 _ (by repeat (first | exact Below.refl _ _ | refine Below.drew ?_ | refine below_drewN ?_ _))).mono ?_; rintro e w9 ⟨rfl, g9⟩; have qz := (g9.cell (p := ⟨g, p, none⟩) (by exact lt_of_cell qp)).trans (by exact qp); have OI9 := ST _ (bb (by repeat (first | exact Below.refl _ _ | refine Below.drew ?_ | refine below_drewN ?_ _)) g9); have fz := OI9.ow.free p))
                have OIf := OIn.store OI9 hpl (by rw [HFV.out]; exact hok)
                rw [HFV.out, ← HNX.out] at OIf
                have HOf := Lib.hid OIf
                clear OIf OI9 OI7 ST I64 PL q0 q1 r0 r1 qp qz fz
                generalize w9.setCell ⟨g, p, none⟩ (.int .i64 (lp + xw * (hi' * hj'))) = W9 at *
                go_wp2_with fail
                exact ⟨⟨j + 1, by omega, by omega, by go_num, by rw [HP1.out]; exact HOf.out⟩, by simp [intOf]; omega⟩
            · obtain rfl : j = m := by omega
              have j2 : decide ((j : Int) < (j : Int)) = false := by simp
              have HO := Lib.hid OI
              have HRW := Lib.hid (pl_row HM.out him)
              clear OI
              go_wp2_with fail
              exact ⟨⟨i + 1, by omega, by go_num, by rw [HRW.out]; exact HO.out⟩, by simp [intOf]; omega⟩
        · obtain rfl : i = m := by omega
          have i2 : decide ((i : Int) < (i : Int)) = false := by simp
          have HO := Lib.hid OI
          have k1 := OI.k1
          have b1 := OI.b
          have q1 := (OI.k0.cell 1).trans (show _ = some (.slice A' l.length c') from rfl)
          have z0 := (k1.cell 0).trans (show _ = some (.int .i64 0) from rfl)
          have z1 := (k1.cell 1).trans (show _ = some (.slice none 0 0) from rfl)
          have y0 := k1.free 0
          have y1 := k1.free 1
          clear OI
          go_wp2_with fail
          refine bodyPost_ret (v := .tuple #[.agg #[.int .i64 (i : Int), .slice A' l.length c'], .int .i64 0]) ?_ rfl ?_
          · rw [results_cell_tmp rfl]
            go_simp
          · (try simp only [Int.toNat_natCast])
            have OI := HO.out
            rw [pl_end HM.out, ← HLN.out] at OI
            obtain ⟨hE, hN, hL⟩ := HG0.out (fun q hq => OI.ok q (by rw [HLN.out]; exact hq))
            rw [hE, hN, hL]
            have ow := OI.ow
            rw [curL_end] at ow
            rw [← HLN.out]
            have P := put2 (.int .i64 (i : Int)) (.slice A' l.length c') k1 b1 (by omega)
            exact ⟨A', c', by simp, (P.own ow (ow.ne (by omega))).mono (by omega), P.below⟩
end Go.Proofs.YtfcandmhalhaeaaDoor.YSym
