/- Lean functions, contracts and lemmas that this claim needs. No condition. -/
import Derived.Test.YtfcandmhalhaeaaDoorAYSymTm3
import Derived.Test.YtfcandmhalhaeaaDoorAYWideTo
import Derived.Test.YtfcandmhalhaeaaDoorAYSymKp
namespace Go.Proofs.YtfcandmhalhaeaaDoor.YSym
open Go.RowKit Go.Proofs.YtfcandmhalhaeaaDoor.YErr Go.Proofs.YtfcandmhalhaeaaDoor.YInv Go.Proofs.YtfcandmhalhaeaaDoor.YRef Go.Proofs.YtfcandmhalhaeaaDoor.YBits Go.Proofs.YtfcandmhalhaeaaDoor.YNum Go.Proofs.YtfcandmhalhaeaaDoor.YBig Go.Proofs.YtfcandmhalhaeaaDoor.QSy Go.Proofs.YtfcandmhalhaeaaDoor.YWide Go.Proofs.YtfcandmhalhaeaaDoorW.PrintWords Go.Proofs.YtfcandmhalhaeaaDoorW.PrintLast
set_option linter.unusedVariables false
set_option linter.unusedSimpArgs false
theorem ldWg' {ops : Array Oper} {rest : List Oper} {o : Oper} {a : Act} {w : World} {b : Nat} {l : List Int} {Q : Exit → Act → World → Prop} (k : Blk w b (U l) 79) (hl : l.length = 16) (x : Operand) (ho : o.op = .load 79 x) (hx : a.eval x = .pointer (some ⟨b, 0, none⟩)) (hw : Region.wanted o (yielded ops a.tmps) = true)
    (h : wpList Tryd.prog ops Q rest (a.put o.dst (.agg (U l))) w) : wpList Tryd.prog ops Q (o :: rest) a w :=
  BigFrame.wpList_want hw fun K hK => wp_load_row 79 x ho b hx 79 (U l) (0, 0) _ k Tryd.underlying79 rfl (ofLen hl) (hK _ _ h)
theorem ToAt_c {v : Value} {x : Int} {w : World} (hv : BigAt w v x) (hx : x.natAbs ≤ 2 ^ 255) : Calls Tryd.prog 76 #[v] w fun e w' => e = .returned (.tuple #[.agg (U (lim x)), .bool true]) ∧ Below w.heap.size w w' := by
  obtain ⟨A, c, rfl, hc, h⟩ := hv
  have h1 : (2 : Int) ^ 255 < 2 ^ 1023 := by decide +kernel
  have h2 : ab x ≤ 2 ^ 255 := by
    unfold ab
    have : ((x.natAbs : Nat) : Int) ≤ ((2 ^ 255 : Nat) : Int) := Int.ofNat_le.2 hx
    have e : ((2 ^ 255 : Nat) : Int) = 2 ^ 255 := by simp
    rw [e] at this
    generalize (2 : Int) ^ 255 = z at *
    split <;> omega
  have h0 : 0 ≤ ab x := by unfold ab; split <;> omega
  have T := To_C (A := A) (c := c) (n := ab x) (sg x) h hc h0 (Int.lt_of_le_of_lt h2 h1)
  have e : (if sg x = true then -ab x else ab x) = x := by
    unfold sg ab
    by_cases hn : x < 0
    · rw [if_pos (by simpa using hn), if_pos hn, Int.neg_neg]
    · rw [if_neg (by simpa using hn), if_neg hn]
  rw [e] at T
  exact T
set_option maxRecDepth 100000 in
set_option maxHeartbeats 8000000 in
theorem HWide_c {v : Value} {x : Int} {w : World} (hv : BigAt w v x) (hx : x.natAbs ≤ 2 ^ 255) : Calls Tryd.prog 53 #[.agg (U (lim x)), v] w fun e w' => e = .returned (.bool true) ∧ Below w.heap.size w w' := by
  have HV := hv
  obtain ⟨A, c, rfl, -⟩ := hv
  have k1 := (Blk.new w (U (lim x)) 79).alloc (.cells #[.bool (sg x), .slice A (mag x).length c] 90)
  have k2 : Blk ((w.alloc (.cells (U (lim x)) 79)).alloc (.cells #[.bool (sg x), .slice A (mag x).length c] 90)) (w.heap.size + 1) #[.bool (sg x), .slice A (mag x).length c] 90 := by
    have := Blk.new (w.alloc (.cells (U (lim x)) 79)) #[.bool (sg x), .slice A (mag x).length c] 90
    simpa using this
  have b0 : Below w.heap.size w ((w.alloc (.cells (U (lim x)) 79)).alloc (.cells #[.bool (sg x), .slice A (mag x).length c] 90)) := ((Below.refl _ _).alloc (Nat.le_refl _) _).alloc (by simp) _
  have TO := ToAt_c (HV.keep b0) hx
  have lx := lim_len x
  have EQ := fun W => run_eqlW x x W
  rw [decide_eq_true rfl] at EQ
  have q0 := (k2.cell 0).trans (show _ = some (.bool (sg x)) from rfl)
  have q1 := (k2.cell 1).trans (show _ = some (.slice A (mag x).length c) from rfl)
  clear HV hx
  generalize lim x = L at *
  go_enter Tryd.func53, Tryd.ntmps53
  go_wp2_with fail
  refine TO.mono ?_; rintro e w1 ⟨rfl, g1⟩
  have b1 := bb b0 g1
  replace k1 := k1.keep g1
  clear TO b0 g1 q0 q1 k2
  obtain ⟨t1, k3, b2, up⟩ := new1 b1 L _ _ rfl rfl
  replace k1 := up _ _ _ k1
  clear up b1
  go_wp2_with (first | (refine stW t1 zeros_len lx _ _ rfl rfl rfl rfl ?_) | (refine ldWg' k1 lx _ rfl rfl rfl ?_) | (refine ldWg' k3 lx _ rfl rfl rfl ?_))
  go_ret
  exact ⟨rfl, b2⟩
set_option maxRecDepth 100000 in
set_option maxHeartbeats 8000000 in
theorem Wides_c {w : World} {A B : Option Addr} {c d n : Nat} {f : Nat → Int} (hw : RowAt w A 16 n (fun k => uL (f k))) (hb : RowB w B n f) (hf : ∀ k, k < n → (f k).natAbs ≤ 2 ^ 255) (hn8 : n ≤ 8) :
    Calls Tryd.prog 32 #[.slice A n c, .slice B n d] w fun e w' => e = .returned (.bool true) ∧ Below w.heap.size w w' := by
  have HW := Lib.hid hw
  have HB := Lib.hid hb
  have HF := Lib.hid hf
  clear hw hb hf
  have n0 : (0 : Int) ≤ (n : Int) := by omega
  have n8 : (n : Int) ≤ 8 := by omega
  go_enter Tryd.func32, Tryd.ntmps32
  go_wp2_with fail
  go_loopw [5] (fun s5 wl => ∃ i : Nat, i ≤ n ∧ s5 = .int .i64 i ∧ Below w.heap.size w wl) (fun s5 _ => n - (intOf s5).toNat)
  case atStart => exact ⟨0, Nat.zero_le _, rfl, Below.refl _ _⟩
  case round =>
    obtain ⟨i, hi, rfl, b⟩ := hrel
    have i0 : (0 : Int) ≤ (i : Int) := by omega
    by_cases him : i < n
    · have i1 : (i : Int) < (n : Int) := by omega
      have i2 : decide ((i : Int) < (n : Int)) = true := by simpa using him
      obtain ⟨g, rfl, R⟩ := (HW.out.keep b) (by omega)
      obtain ⟨g', rfl, R'⟩ := (HB.out.keep b) (by omega)
      obtain ⟨bx, Ax, mx, cx, MB, BX⟩ := R'.at_ i him
      have MR : World.rangeAt wr g (i * 16) (U (lim (f i))).toList := R.at_ i him
      have HB2 := Lib.hid b
      have hfi := HF.out i him
      have lx := lim_len (f i)
      have GL := R.lt
      have GL' := R'.lt
      clear R R' b
      generalize f i = fx at *
      have HWD := fun wx (b : Below wr.heap.size wr wx) => HWide_c (BX.keep b) hfi
      go_wp2_with fail
      refine region_vals (σ := Nat → Value) [some 17, some 18, some 19, some 20, some 21, some 22, some 23, some 24, some 25, some 26] (VQ [some (.slice (some ⟨g, 0, none⟩) n c), some (.int .i64 (i : Int)), some (.pointer (some ⟨g, i * 16, none⟩)), some (.agg (U (lim fx))), some (.slice (some ⟨g', 0, none⟩) n d), some (.int .i64 (i : Int)), some (.pointer (some ⟨g', i * 2, none⟩)), some (.agg #[.bool bx, .slice Ax mx cx]), some (.bool true), some (.bool false)]) (fun L s wx => (Below wr.heap.size wr wx)) (fun _ => undef) [0, 1, 2, 3, 4, 5, 6, 7, 8, 9] _ _ rfl (by kernel_rfl) (by kernel_rfl) (by kernel_rfl) (by kernel_rfl) (by kernel_rfl) ((Below.refl _ _).drew) ?stepsA ?finA (fun L L' s wx e h => h)
      case stepsA =>
        refine VSteps.cons rfl (fun x L s wx K kn hL hp hI hK => ?_) ?_
        · have e0 : x[0]? = some (.slice (some ⟨g, 0, none⟩) n c) := (kn.old 0 (by kernel_rfl)).trans rfl
          refine want_ rfl ?_
          have BW := hI
          exact val_ (v := .slice (some ⟨g, 0, none⟩) n c) (by simp [go_sem, execOp, evr_, e0]) (hK.out s _ (fun _ _ => rfl) (BW))
        refine VSteps.cons rfl (fun x L s wx K kn hL hp hI hK => ?_) ?_
        · have e5 : x[5]? = some (.int .i64 (i : Int)) := (kn.old 5 (by kernel_rfl)).trans rfl
          refine want_ rfl ?_
          have BW := hI
          exact val_ (v := .int .i64 (i : Int)) (by simp [go_sem, execOp, evr_, e5]) (hK.out s _ (fun _ _ => rfl) (BW))
        refine VSteps.cons rfl (fun x L s wx K kn hL hp hI hK => ?_) ?_
        · have e17 : x[17]? = some (.slice (some ⟨g, 0, none⟩) n c) := kn.got 0 17 (hp ⟨0, .data⟩ (by simp) rfl) rfl
          have e18 : x[18]? = some (.int .i64 (i : Int)) := kn.got 1 18 (hp ⟨1, .data⟩ (by simp) rfl) rfl
          refine want_ rfl ?_
          have BW := hI
          exact val_ (v := .pointer (some ⟨g, i * 16, none⟩)) (by simp [go_sem, execOp, evr_, e17, e18, i0, i1, addr_add]) (hK.out s _ (fun _ _ => rfl) (BW))
        refine VSteps.cons rfl (fun x L s wx K kn hL hp hI hK => ?_) ?_
        · have e19 : x[19]? = some (.pointer (some ⟨g, i * 16, none⟩)) := kn.got 2 19 (hp ⟨2, .data⟩ (by simp) rfl) rfl
          refine want_ rfl ?_
          have BW := hI
          exact ld_mid 79 _ rfl g (i * 16) (ev_ e19) (U (lim fx)) _ (rangeAt_keep BW GL MR) Tryd.underlying79 rfl (info_uL _ lx) (hK.out s _ (fun _ _ => rfl) (BW))
        refine VSteps.cons rfl (fun x L s wx K kn hL hp hI hK => ?_) ?_
        · have e1 : x[1]? = some (.slice (some ⟨g', 0, none⟩) n d) := (kn.old 1 (by kernel_rfl)).trans rfl
          refine want_ rfl ?_
          have BW := hI
          exact val_ (v := .slice (some ⟨g', 0, none⟩) n d) (by simp [go_sem, execOp, evr_, e1]) (hK.out s _ (fun _ _ => rfl) (BW))
        refine VSteps.cons rfl (fun x L s wx K kn hL hp hI hK => ?_) ?_
        · have e5 : x[5]? = some (.int .i64 (i : Int)) := (kn.old 5 (by kernel_rfl)).trans rfl
          refine want_ rfl ?_
          have BW := hI
          exact val_ (v := .int .i64 (i : Int)) (by simp [go_sem, execOp, evr_, e5]) (hK.out s _ (fun _ _ => rfl) (BW))
        refine VSteps.cons rfl (fun x L s wx K kn hL hp hI hK => ?_) ?_
        · have e21 : x[21]? = some (.slice (some ⟨g', 0, none⟩) n d) := kn.got 4 21 (hp ⟨4, .data⟩ (by simp) rfl) rfl
          have e22 : x[22]? = some (.int .i64 (i : Int)) := kn.got 5 22 (hp ⟨5, .data⟩ (by simp) rfl) rfl
          refine want_ rfl ?_
          have BW := hI
          exact val_ (v := .pointer (some ⟨g', i * 2, none⟩)) (by simp [go_sem, execOp, evr_, e21, e22, i0, i1, addr_add]) (hK.out s _ (fun _ _ => rfl) (BW))
        refine VSteps.cons rfl (fun x L s wx K kn hL hp hI hK => ?_) ?_
        · have e23 : x[23]? = some (.pointer (some ⟨g', i * 2, none⟩)) := kn.got 6 23 (hp ⟨6, .data⟩ (by simp) rfl) rfl
          refine want_ rfl ?_
          have BW := hI
          exact ld_mid 90 _ rfl g' (i * 2) (ev_ e23) (#[.bool bx, .slice Ax mx cx]) _ (rangeAt_keep BW GL' MB) Tryd.underlying90 rfl info_bigT (hK.out s _ (fun _ _ => rfl) (BW))
        refine VSteps.cons rfl (fun x L s wx K kn hL hp hI hK => ?_) ?_
        · have e20 : x[20]? = some (.agg (U (lim fx))) := kn.got 3 20 (hp ⟨3, .data⟩ (by simp) rfl) rfl
          have e24 : x[24]? = some (.agg #[.bool bx, .slice Ax mx cx]) := kn.got 7 24 (hp ⟨7, .data⟩ (by simp) rfl) rfl
          refine want_ rfl ?_
          have BW := hI
          refine goesK_ Tryd.func53 (by kernel_rfl) rfl #[.agg (U (lim fx)), .agg #[.bool bx, .slice Ax mx cx]] rfl (by simp only [List.map_toArray, List.map_cons, List.map_nil, evr_, ev_ e20, ev_ e24]) ((HWD _ BW).mono ?_)
          rintro e w' ⟨rfl, g⟩
          exact ⟨_, rfl, hK.out s _ (fun _ _ => rfl) (bb BW g)⟩
        refine VSteps.cons rfl (fun x L s wx K kn hL hp hI hK => ?_) ?_
        · have e25 : x[25]? = some (.bool true) := kn.got 8 25 (hp ⟨8, .data⟩ (by simp) rfl) rfl
          refine want_ rfl ?_
          have BW := hI
          exact val_ (v := .bool false) (by simp [go_sem, execOp, evr_, e25]) (hK.out s _ (fun _ _ => rfl) (BW))
        exact VSteps.nil
      intro s wx hI
      simp only [puts, VQ, List.getD_cons_zero, List.getD_cons_succ, List.set_cons_zero, List.set_cons_succ]
      have BW := hI
      have HQ := Lib.hid (bb HB2.out BW)
      clear HWD MR MB BX hfi lx GL GL' BW HB2 HF
      go_wp2_with fail
      exact ⟨⟨i + 1, by omega, by go_num, HQ.out⟩, by simp [intOf]; omega⟩
    · obtain rfl : i = n := by omega
      have i2 : decide ((i : Int) < (i : Int)) = false := by simp
      have HB2 := Lib.hid b
      clear b
      go_wp2_with fail
      go_ret
      exact ⟨rfl, HB2.out⟩
end Go.Proofs.YtfcandmhalhaeaaDoor.YSym
namespace Go.Proofs.YtfcandmhalhaeaaDoor.YSym
open Go.RowKit Go.Proofs.YtfcandmhalhaeaaDoor.YErr Go.Proofs.YtfcandmhalhaeaaDoor.YInv Go.Proofs.YtfcandmhalhaeaaDoor.YRef Go.Proofs.YtfcandmhalhaeaaDoor.YBits Go.Proofs.YtfcandmhalhaeaaDoor.YNum Go.Proofs.YtfcandmhalhaeaaDoor.QSy Go.Proofs.YtfcandmhalhaeaaDoor.YWide Go.Proofs.YtfcandmhalhaeaaDoorW.PrintWords Go.Proofs.YtfcandmhalhaeaaDoorW.PrintLast
set_option linter.unusedVariables false
set_option linter.unusedSimpArgs false
theorem Place_c (x : Int) : ∃ p : Nat, p ≤ 8 ∧ ∀ W, Calls Tryd.prog 27 #[.int .i64 x, .int .i64 9] W fun e w' => e = .returned (.int .i64 (p : Int)) ∧ Below W.heap.size W w' := by
  have h1 := Int.tmod_lt_of_pos x (show (0 : Int) < 9 by decide)
  have h2 : -9 < Int.tmod x 9 := by
    have := Int.tmod_lt_of_pos (-x) (show (0 : Int) < 9 by decide)
    rw [Int.neg_tmod] at this
    omega
  have key : ∀ r : Int, leadlinehelp_Place.f x 9 = some r → 0 ≤ r → r ≤ 8 → ∃ p : Nat, p ≤ 8 ∧ ∀ W, Calls Tryd.prog 27 #[.int .i64 x, .int .i64 9] W fun e w' => e = .returned (.int .i64 (p : Int)) ∧ Below W.heap.size W w' := by
    intro r hf r0 r8
    obtain ⟨p, rfl⟩ := Int.eq_ofNat_of_zero_le r0
    refine ⟨p, by omega, fun W => (leadlinehelp_Place.calls x 9 p W hf).mono ?_⟩
    rintro e w' ⟨rfl, m, rfl⟩
    exact ⟨rfl, below_drewN (Below.refl _ _) m⟩
  by_cases h : Int.tmod x 9 < 0
  · refine key (Int.tmod x 9 + 9) ?_ (by omega) (by omega)
    unfold leadlinehelp_Place.f
    rw [if_neg (by decide), if_pos h]
    congr 1
    unfold wrap64
    omega
  · refine key (Int.tmod x 9) ?_ (by omega) (by omega)
    unfold leadlinehelp_Place.f
    rw [if_neg (by decide), if_neg h]
theorem tm_abs {n : Int} {l h : List Int} {g : Bool} (wh : ∀ x ∈ h, W64 x) : tmN n l g ≤ 8 ∧ ∀ k, k < tmN n l g → (ps n.toNat l h k n.toNat).natAbs ≤ 2 ^ 255 := by
  unfold tmN
  by_cases e : tmE n l g = 0
  · have hr : rightB n l = true := by
      unfold tmE at e
      by_cases hr : rightB n l = true
      · exact hr
      · rw [if_neg (fun h => hr h.1)] at e; cases e
    obtain ⟨m, rfl, hm, hlen, hall⟩ := rightB_nat hr
    rw [if_pos e]
    simp only [Int.toNat_natCast]
    exact ⟨hm, fun k hk => ps_inw (okl_w hall) wh k hm⟩
  · rw [if_neg e]
    exact ⟨Nat.zero_le _, fun k hk => absurd hk (Nat.not_lt_zero _)⟩
theorem genL_len (n : Int) (l : List Int) (g : Bool) (f : Nat → Int) : (genL n l g f).length ≤ 1000 := by
  unfold genL
  split
  · rename_i e
    have hr : rightB n l = true := by
      unfold genE at e
      by_cases hr : rightB n l = true
      · exact hr
      · rw [if_neg (fun h => hr h.1)] at e; cases e
    obtain ⟨m, rfl, hm, hlen, hall⟩ := rightB_nat hr
    have := tri_le hm
    simp
    omega
  · simp
theorem tmod_any {x : Int} (y : Int) (h0 : 0 < y) (h1 : y ≤ 10000) : W64 (Int.tmod x y) := by
  have h2 := Int.tmod_lt_of_pos x h0
  have h3 := Int.tmod_lt_of_pos (-x) h0
  rw [Int.neg_tmod] at h3
  unfold W64
  omega
set_option maxRecDepth 100000 in
set_option maxHeartbeats 16000000 in
theorem SymAdds_c {n : Int} {A : Option Addr} {c : Nat} {l : List Int} {a1 a2 : Int} {B : Option Addr} {d : Nat} {hs : List Int} (xw : Int) {D : Option Addr} {dd : Nat} {hv : List Int} (v : Int) (sm : Bool) {w : World} (hg : Laid w) (lc : l.length ≤ c) (RA : Rd w A l) (x0 : 0 ≤ a1) (x1 : a1 ≤ 255) (x2 : 0 ≤ a2) (x3 : a2 ≤ 65535) (wh : ∀ x ∈ hs, -32768 ≤ x ∧ x ≤ 32767) (RH : RdK .i16 w B hs) (wX : W64 xw) (RV : Rd w D hv) (hdv : hv.length ≤ dd) (whv : ∀ x ∈ hv, W64 x) (wv : W64 v) :
    Calls Tryd.prog 6 #[.agg #[.int .i64 n, .slice A l.length c], .int .u8 a1, .int .u16 a2, .slice B hs.length d, .int .i64 xw, .slice D hv.length dd, .int .i64 v, .bool sm] w fun e w' => e = .returned (.bool true) ∧ Below w.heap.size w w' := by
  have b0 := Below.refl w.heap.size w
  go_enter Tryd.func6, Tryd.ntmps6
  have ga : Below w.heap.size w (w.alloc (.cells #[.int .i64 n, .slice A l.length c] 24)) := (Below.refl _ _).alloc (Nat.le_refl _) _
  have k8 := Blk.new w #[.int .i64 n, .slice A l.length c] 24
  replace hg := hg.keep ga
  replace RA := RA.keep ga
  replace RH := RH.keep ga
  replace RV := RV.keep ga
  have b_2 := bb b0 ga
  clear b0
  clear ga
  have c_k8_0 := (Blk.cell k8 0).trans (show _ = some (.int .i64 n) from rfl)
  have c_k8_1 := (Blk.cell k8 1).trans (show _ = some (.slice A l.length c) from rfl)
  go_wp2_with fail
  generalize (w.alloc (.cells #[.int .i64 n, .slice A l.length c] 24)) = w_1 at *
  refine (known_c _ hg).mono ?_; rintro e w_3 ⟨rfl, g⟩
  clear c_k8_0 c_k8_1
  replace hg := hg.keep g
  replace RA := RA.keep g
  replace RH := RH.keep g
  replace RV := RV.keep g
  replace k8 := k8.keep g
  have b_4 := bb b_2 g
  clear b_2
  clear g
  have c_k8_0 := (Blk.cell k8 0).trans (show _ = some (.int .i64 n) from rfl)
  have c_k8_1 := (Blk.cell k8 1).trans (show _ = some (.slice A l.length c) from rfl)
  go_wp2_with fail
  refine (light_c (k := l.length)).mono ?_; rintro e w_5 ⟨rfl, g⟩
  clear c_k8_0 c_k8_1
  replace hg := hg.keep g
  replace RA := RA.keep g
  replace RH := RH.keep g
  replace RV := RV.keep g
  replace k8 := k8.keep g
  have b_6 := bb b_4 g
  clear b_4
  clear g
  have c_k8_0 := (Blk.cell k8 0).trans (show _ = some (.int .i64 n) from rfl)
  have c_k8_1 := (Blk.cell k8 1).trans (show _ = some (.slice A l.length c) from rfl)
  by_cases hl : l.length ≤ 60
  case neg =>
    rw [show decide ((l.length : Int) ≤ 60) = false by simp; omega]
    clear hl
    go_wp2_with fail
    go_ret
    exact ⟨rfl, b_6⟩
  case pos =>
    rw [show decide ((l.length : Int) ≤ 60) = true by simp; omega]
    by_cases hhl : hs.length ≤ 60
    case neg =>
      have e1 : decide (60 < (hs.length : Int)) = true := by simp; omega
      have e2 : decide (60 < hs.length) = true := by simp; omega
      clear hl hhl
      go_wp2_with fail
      go_ret
      exact ⟨rfl, b_6⟩
    case pos =>
      have e1 : decide (60 < (hs.length : Int)) = false := by simp; omega
      have e2 : decide (60 < hs.length) = false := by simp; omega
      by_cases hhv : hv.length ≤ 40
      case neg =>
        have e3 : decide (40 < (hv.length : Int)) = true := by simp; omega
        have e4 : decide (40 < hv.length) = true := by simp; omega
        clear hl hhl hhv
        go_wp2_with fail
        go_ret
        exact ⟨rfl, b_6⟩
      case pos =>
        have e3 : decide (40 < (hv.length : Int)) = false := by simp; omega
        have e4 : decide (40 < hv.length) = false := by simp; omega
        obtain ⟨kk, hkk⟩ : ∃ kk : Nat, a1 % 7 = (kk : Int) := ⟨(a1 % 7).toNat, by omega⟩
        have SS := fun W (g : Below w_5.heap.size w_5 W) => seatSym_c (d := d) a1 a2 kk x0 x1 hkk x2 x3 wh hhl (RH.keep g)
        have HL := Lib.hid hl
        have HHL := Lib.hid hhl
        have HHV := Lib.hid hhv
        have HWV := Lib.hid whv
        have HDV := Lib.hid hdv
        clear x0 x1 x2 x3 wh hl hhl hkk hhv whv hdv
        go_wp2_with fail
        go_region_held3 (fun w' => w'.cell? ⟨w.heap.size, 0, none⟩ = some (.int .i64 n) ∧ w'.cell? ⟨w.heap.size, 1, none⟩ = some (.slice A l.length c))
          (first | exact ⟨c_k8_0, c_k8_1⟩ | exact ⟨(g5.cell (lt_of_cell c_k8_0)).trans c_k8_0, (g5.cell (lt_of_cell c_k8_1)).trans c_k8_1⟩ | exact ⟨Lib.cell?_alloc_some _ ((g5.cell (lt_of_cell c_k8_0)).trans c_k8_0), Lib.cell?_alloc_some _ ((g5.cell (lt_of_cell c_k8_1)).trans c_k8_1)⟩)
          (first | (go_at_call 9; refine (SS _ (by repeat (first | exact Below.refl _ _ | refine Below.drew ?_))).mono ?_; rintro e w5 ⟨A2, c2, l2, rfl, own2, hr2, g5⟩))
        have hl2 : l2.length ≤ 60 := by obtain ⟨m, e, hm, hlen, _⟩ := rightB_nat hr2; have := tri_le hm; omega
        have g6 : Below w_5.heap.size w_5 w5 := bb (by repeat (first | exact Below.refl _ _ | refine Below.drew ?_)) g5
        have TW : Two (w5.alloc (.cells #[.int .i64 n, .slice A l.length c, .int .i64 (kk : Int), .slice A2 l2.length c2] 24)) w5.heap.size := Two.of (Blk.new w5 _ _) ((RA.keep g6).keep ((Below.refl w5.heap.size w5).alloc (Nat.le_refl _) _)) lc HL.out (own2.rd.keep ((Below.refl w5.heap.size w5).alloc (Nat.le_refl _) _)) own2.cap hl2
        replace hg := (hg.keep g6).keep ((Below.refl w5.heap.size w5).alloc (Nat.le_refl _) (.cells #[.int .i64 n, .slice A l.length c, .int .i64 (kk : Int), .slice A2 l2.length c2] 24))
        replace RV := (RV.keep g6).keep ((Below.refl w5.heap.size w5).alloc (Nat.le_refl _) (.cells #[.int .i64 n, .slice A l.length c, .int .i64 (kk : Int), .slice A2 l2.length c2] 24))
        have b9 := bb (bb b_6 g6) ((Below.refl w5.heap.size w5).alloc (Nat.le_refl _) (.cells #[.int .i64 n, .slice A l.length c, .int .i64 (kk : Int), .slice A2 l2.length c2] 24))
        clear b_6 g5 g6 SS RA RH k8 c_k8_0 c_k8_1 hr2 own2
        go_wp2_with fail
        generalize w5.alloc (.cells #[.int .i64 n, .slice A l.length c, .int .i64 (kk : Int), .slice A2 l2.length c2] 24) = w6 at *
        generalize w5.heap.size = gS at *
        clear hl2 e1 e2 e3 e4
        go_loopw [56] (fun s56 wl => ∃ r : Nat, r ≤ 2 ∧ s56 = .int .i64 r ∧ Two wl gS ∧ Laid wl ∧ Rd wl D hv ∧ Below w.heap.size w wl) (fun s56 _ => 2 - (intOf s56).toNat)
        case atStart => exact ⟨0, by omega, rfl, TW, hg, RV, b9⟩
        case round =>
          clear TW hg RV b9
          obtain ⟨r, hr, rfl, TW, hg, RV, bR⟩ := hrel
          have r0 : (0 : Int) ≤ (r : Int) := by omega
          by_cases hr2 : r < 2
          case neg =>
            obtain rfl : r = 2 := by omega
            clear TW hg RV
            go_wp2_with fail
            go_ret
            exact ⟨rfl, bR⟩
          case pos =>
            have r1 : (r : Int) < 2 := by omega
            obtain ⟨N, AL, C, L, q0, q1, RL, hC, hL⟩ := TW r hr2
            cases sm with
            | false =>
              have ga : Below wr.heap.size wr (wr.alloc (.cells #[.int .i64 N, .slice AL L.length C] 24)) := (Below.refl _ _).alloc (Nat.le_refl _) _
              have k18 := Blk.new wr #[.int .i64 N, .slice AL L.length C] 24
              replace hg := hg.keep ga
              replace TW := TW.keep ga
              replace RL := RL.keep ga
              replace RV := RV.keep ga
              have b_8 := bb bR ga
              clear bR
              clear ga
              have c_k18_0 := (Blk.cell k18 0).trans (show _ = some (.int .i64 N) from rfl)
              have c_k18_1 := (Blk.cell k18 1).trans (show _ = some (.slice AL L.length C) from rfl)
              go_wp2_with fail
              generalize (wr.alloc (.cells #[.int .i64 N, .slice AL L.length C] 24)) = w_7 at *
              generalize wr.heap.size = g_k18 at *
              clear q0 q1
              have hH : hv.length ≤ 100 := by have := HHV.out; omega
              have wH := HWV.out
              have RB := RV
              have CO := fun W (R : Rd W AL L) (S : Rd W D hv) => SOuter_c (n := N) (d := dd) R hC (by omega) S hH wH xw wX
              have CP := fun W (R : Rd W AL L) (S : Rd W D hv) => ROuter_c (n := N) (d := dd) R hC (by omega) S hH wH xw wX
              have CD := fun W (R : Rd W AL L) => SDiag_c (n := N) R hC (by omega) v wv
              have CQ := fun W (R : Rd W AL L) => RDiag_c (n := N) R hC (by omega) v wv
              have CT := fun W (R : Rd W AL L) (S : Rd W D hv) => STimes_c (n := N) (d := dd) R hC (by omega) S hH wH
              have CU := fun W (R : Rd W AL L) (S : Rd W D hv) => RTimes_c (n := N) (d := dd) R hC (by omega) S hH wH
              obtain ⟨t8, tA⟩ := tm_abs (n := N) (l := L) (g := decide ((hv.length : Int) = N)) wH
              replace tA : ∀ k, k < tmN N L (decide ((hv.length : Int) = N)) → ((fun k => ps N.toNat L hv k N.toNat) k).natAbs ≤ 2 ^ 255 := tA
              have oM := genL_len N L (decide ((hv.length : Int) = N)) (outF N.toNat L xw hv)
              have dM := genL_len N L true (diaF N.toNat L v)
              generalize (fun k => ps N.toNat L hv k N.toNat) = fT at *
              generalize genE N L (decide ((hv.length : Int) = N)) (outF N.toNat L xw hv) = oE at *
              generalize genN N L (decide ((hv.length : Int) = N)) (outF N.toNat L xw hv) = oN at *
              generalize genL N L (decide ((hv.length : Int) = N)) (outF N.toNat L xw hv) = oL at *
              generalize genE N L true (diaF N.toNat L v) = dE at *
              generalize genN N L true (diaF N.toNat L v) = dN at *
              generalize genL N L true (diaF N.toNat L v) = dL at *
              generalize tmE N L (decide ((hv.length : Int) = N)) = tE at *
              generalize tmN N L (decide ((hv.length : Int) = N)) = tN at *
              have HA := Lib.hid tA
              have HT8 := Lib.hid t8
              clear tA t8
              refine (CO _ RL RB).mono ?_; rintro e w_9 ⟨A3, c3, v1, rfl, O3, E1, g⟩
              clear c_k18_0 c_k18_1
              replace hg := hg.keep g
              replace TW := TW.keep g
              replace RL := RL.keep g
              replace RV := RV.keep g
              replace k18 := k18.keep g
              replace RB := RB.keep g
              have b_10 := bb b_8 g
              clear b_8
              clear g
              have c_k18_0 := (Blk.cell k18 0).trans (show _ = some (.int .i64 N) from rfl)
              have c_k18_1 := (Blk.cell k18 1).trans (show _ = some (.slice AL L.length C) from rfl)
              clear c_k18_0 c_k18_1
              have ga : Below w_9.heap.size w_9 (w_9.alloc (.cells #[.int .i64 oN, .slice A3 oL.length c3] 24)) := (Below.refl _ _).alloc (Nat.le_refl _) _
              have k22 := Blk.new w_9 #[.int .i64 oN, .slice A3 oL.length c3] 24
              replace hg := hg.keep ga
              replace TW := TW.keep ga
              replace RL := RL.keep ga
              replace RV := RV.keep ga
              replace k18 := k18.keep ga
              replace RB := RB.keep ga
              replace O3 := O3.keep ga
              replace E1 := E1.keep ga
              have b_12 := bb b_10 ga
              clear b_10
              clear ga
              have c_k18_0 := (Blk.cell k18 0).trans (show _ = some (.int .i64 N) from rfl)
              have c_k18_1 := (Blk.cell k18 1).trans (show _ = some (.slice AL L.length C) from rfl)
              have c_k22_0 := (Blk.cell k22 0).trans (show _ = some (.int .i64 oN) from rfl)
              have c_k22_1 := (Blk.cell k22 1).trans (show _ = some (.slice A3 oL.length c3) from rfl)
              go_wp2_with fail
              generalize (w_9.alloc (.cells #[.int .i64 oN, .slice A3 oL.length c3] 24)) = w_11 at *
              generalize w_9.heap.size = g_k22 at *
              refine (CP _ RL RB).mono ?_; rintro e w_13 ⟨A4, c4, rfl, O4, g⟩
              clear c_k18_0 c_k18_1 c_k22_0 c_k22_1
              replace hg := hg.keep g
              replace TW := TW.keep g
              replace RL := RL.keep g
              replace RV := RV.keep g
              replace k18 := k18.keep g
              replace RB := RB.keep g
              replace O3 := O3.keep g
              replace E1 := E1.keep g
              replace k22 := k22.keep g
              have b_14 := bb b_12 g
              clear b_12
              clear g
              have c_k18_0 := (Blk.cell k18 0).trans (show _ = some (.int .i64 N) from rfl)
              have c_k18_1 := (Blk.cell k18 1).trans (show _ = some (.slice AL L.length C) from rfl)
              have c_k22_0 := (Blk.cell k22 0).trans (show _ = some (.int .i64 oN) from rfl)
              have c_k22_1 := (Blk.cell k22 1).trans (show _ = some (.slice A3 oL.length c3) from rfl)
              clear c_k18_0 c_k18_1 c_k22_0 c_k22_1
              have ga : Below w_13.heap.size w_13 (w_13.alloc (.cells #[.int .i64 oN, .slice A4 oL.length c4] 24)) := (Below.refl _ _).alloc (Nat.le_refl _) _
              have k24 := Blk.new w_13 #[.int .i64 oN, .slice A4 oL.length c4] 24
              replace hg := hg.keep ga
              replace TW := TW.keep ga
              replace RL := RL.keep ga
              replace RV := RV.keep ga
              replace k18 := k18.keep ga
              replace RB := RB.keep ga
              replace O3 := O3.keep ga
              replace E1 := E1.keep ga
              replace k22 := k22.keep ga
              replace O4 := O4.keep ga
              have b_16 := bb b_14 ga
              clear b_14
              clear ga
              have c_k18_0 := (Blk.cell k18 0).trans (show _ = some (.int .i64 N) from rfl)
              have c_k18_1 := (Blk.cell k18 1).trans (show _ = some (.slice AL L.length C) from rfl)
              have c_k22_0 := (Blk.cell k22 0).trans (show _ = some (.int .i64 oN) from rfl)
              have c_k22_1 := (Blk.cell k22 1).trans (show _ = some (.slice A3 oL.length c3) from rfl)
              have c_k24_0 := (Blk.cell k24 0).trans (show _ = some (.int .i64 oN) from rfl)
              have c_k24_1 := (Blk.cell k24 1).trans (show _ = some (.slice A4 oL.length c4) from rfl)
              go_wp2_with fail
              generalize (w_13.alloc (.cells #[.int .i64 oN, .slice A4 oL.length c4] 24)) = w_15 at *
              generalize w_13.heap.size = g_k24 at *
              refine (CD _ RL).mono ?_; rintro e w_17 ⟨A5, c5, v2, rfl, O5, E2, g⟩
              clear c_k18_0 c_k18_1 c_k22_0 c_k22_1 c_k24_0 c_k24_1
              replace hg := hg.keep g
              replace TW := TW.keep g
              replace RL := RL.keep g
              replace RV := RV.keep g
              replace k18 := k18.keep g
              replace RB := RB.keep g
              replace O3 := O3.keep g
              replace E1 := E1.keep g
              replace k22 := k22.keep g
              replace O4 := O4.keep g
              replace k24 := k24.keep g
              have b_18 := bb b_16 g
              clear b_16
              clear g
              have c_k18_0 := (Blk.cell k18 0).trans (show _ = some (.int .i64 N) from rfl)
              have c_k18_1 := (Blk.cell k18 1).trans (show _ = some (.slice AL L.length C) from rfl)
              have c_k22_0 := (Blk.cell k22 0).trans (show _ = some (.int .i64 oN) from rfl)
              have c_k22_1 := (Blk.cell k22 1).trans (show _ = some (.slice A3 oL.length c3) from rfl)
              have c_k24_0 := (Blk.cell k24 0).trans (show _ = some (.int .i64 oN) from rfl)
              have c_k24_1 := (Blk.cell k24 1).trans (show _ = some (.slice A4 oL.length c4) from rfl)
              clear c_k18_0 c_k18_1 c_k22_0 c_k22_1 c_k24_0 c_k24_1
              have ga : Below w_17.heap.size w_17 (w_17.alloc (.cells #[.int .i64 dN, .slice A5 dL.length c5] 24)) := (Below.refl _ _).alloc (Nat.le_refl _) _
              have k26 := Blk.new w_17 #[.int .i64 dN, .slice A5 dL.length c5] 24
              replace hg := hg.keep ga
              replace TW := TW.keep ga
              replace RL := RL.keep ga
              replace RV := RV.keep ga
              replace k18 := k18.keep ga
              replace RB := RB.keep ga
              replace O3 := O3.keep ga
              replace E1 := E1.keep ga
              replace k22 := k22.keep ga
              replace O4 := O4.keep ga
              replace k24 := k24.keep ga
              replace O5 := O5.keep ga
              replace E2 := E2.keep ga
              have b_20 := bb b_18 ga
              clear b_18
              clear ga
              have c_k18_0 := (Blk.cell k18 0).trans (show _ = some (.int .i64 N) from rfl)
              have c_k18_1 := (Blk.cell k18 1).trans (show _ = some (.slice AL L.length C) from rfl)
              have c_k22_0 := (Blk.cell k22 0).trans (show _ = some (.int .i64 oN) from rfl)
              have c_k22_1 := (Blk.cell k22 1).trans (show _ = some (.slice A3 oL.length c3) from rfl)
              have c_k24_0 := (Blk.cell k24 0).trans (show _ = some (.int .i64 oN) from rfl)
              have c_k24_1 := (Blk.cell k24 1).trans (show _ = some (.slice A4 oL.length c4) from rfl)
              have c_k26_0 := (Blk.cell k26 0).trans (show _ = some (.int .i64 dN) from rfl)
              have c_k26_1 := (Blk.cell k26 1).trans (show _ = some (.slice A5 dL.length c5) from rfl)
              go_wp2_with fail
              generalize (w_17.alloc (.cells #[.int .i64 dN, .slice A5 dL.length c5] 24)) = w_19 at *
              generalize w_17.heap.size = g_k26 at *
              refine (CQ _ RL).mono ?_; rintro e w_21 ⟨A6, c6, rfl, O6, g⟩
              clear c_k18_0 c_k18_1 c_k22_0 c_k22_1 c_k24_0 c_k24_1 c_k26_0 c_k26_1
              replace hg := hg.keep g
              replace TW := TW.keep g
              replace RL := RL.keep g
              replace RV := RV.keep g
              replace k18 := k18.keep g
              replace RB := RB.keep g
              replace O3 := O3.keep g
              replace E1 := E1.keep g
              replace k22 := k22.keep g
              replace O4 := O4.keep g
              replace k24 := k24.keep g
              replace O5 := O5.keep g
              replace E2 := E2.keep g
              replace k26 := k26.keep g
              have b_22 := bb b_20 g
              clear b_20
              clear g
              have c_k18_0 := (Blk.cell k18 0).trans (show _ = some (.int .i64 N) from rfl)
              have c_k18_1 := (Blk.cell k18 1).trans (show _ = some (.slice AL L.length C) from rfl)
              have c_k22_0 := (Blk.cell k22 0).trans (show _ = some (.int .i64 oN) from rfl)
              have c_k22_1 := (Blk.cell k22 1).trans (show _ = some (.slice A3 oL.length c3) from rfl)
              have c_k24_0 := (Blk.cell k24 0).trans (show _ = some (.int .i64 oN) from rfl)
              have c_k24_1 := (Blk.cell k24 1).trans (show _ = some (.slice A4 oL.length c4) from rfl)
              have c_k26_0 := (Blk.cell k26 0).trans (show _ = some (.int .i64 dN) from rfl)
              have c_k26_1 := (Blk.cell k26 1).trans (show _ = some (.slice A5 dL.length c5) from rfl)
              clear c_k18_0 c_k18_1 c_k22_0 c_k22_1 c_k24_0 c_k24_1 c_k26_0 c_k26_1
              have ga : Below w_21.heap.size w_21 (w_21.alloc (.cells #[.int .i64 dN, .slice A6 dL.length c6] 24)) := (Below.refl _ _).alloc (Nat.le_refl _) _
              have k28 := Blk.new w_21 #[.int .i64 dN, .slice A6 dL.length c6] 24
              replace hg := hg.keep ga
              replace TW := TW.keep ga
              replace RL := RL.keep ga
              replace RV := RV.keep ga
              replace k18 := k18.keep ga
              replace RB := RB.keep ga
              replace O3 := O3.keep ga
              replace E1 := E1.keep ga
              replace k22 := k22.keep ga
              replace O4 := O4.keep ga
              replace k24 := k24.keep ga
              replace O5 := O5.keep ga
              replace E2 := E2.keep ga
              replace k26 := k26.keep ga
              replace O6 := O6.keep ga
              have b_24 := bb b_22 ga
              clear b_22
              clear ga
              have c_k18_0 := (Blk.cell k18 0).trans (show _ = some (.int .i64 N) from rfl)
              have c_k18_1 := (Blk.cell k18 1).trans (show _ = some (.slice AL L.length C) from rfl)
              have c_k22_0 := (Blk.cell k22 0).trans (show _ = some (.int .i64 oN) from rfl)
              have c_k22_1 := (Blk.cell k22 1).trans (show _ = some (.slice A3 oL.length c3) from rfl)
              have c_k24_0 := (Blk.cell k24 0).trans (show _ = some (.int .i64 oN) from rfl)
              have c_k24_1 := (Blk.cell k24 1).trans (show _ = some (.slice A4 oL.length c4) from rfl)
              have c_k26_0 := (Blk.cell k26 0).trans (show _ = some (.int .i64 dN) from rfl)
              have c_k26_1 := (Blk.cell k26 1).trans (show _ = some (.slice A5 dL.length c5) from rfl)
              have c_k28_0 := (Blk.cell k28 0).trans (show _ = some (.int .i64 dN) from rfl)
              have c_k28_1 := (Blk.cell k28 1).trans (show _ = some (.slice A6 dL.length c6) from rfl)
              go_wp2_with fail
              generalize (w_21.alloc (.cells #[.int .i64 dN, .slice A6 dL.length c6] 24)) = w_23 at *
              generalize w_21.heap.size = g_k28 at *
              clear CO CP CD CQ
              refine (CT _ RL RB).mono ?_; rintro e w_25 ⟨A7, c7, v3, rfl, W7, E3, g⟩
              clear c_k18_0 c_k18_1 c_k22_0 c_k22_1 c_k24_0 c_k24_1 c_k26_0 c_k26_1 c_k28_0 c_k28_1
              replace hg := hg.keep g
              replace TW := TW.keep g
              replace RL := RL.keep g
              replace RV := RV.keep g
              replace k18 := k18.keep g
              replace RB := RB.keep g
              replace O3 := O3.keep g
              replace E1 := E1.keep g
              replace k22 := k22.keep g
              replace O4 := O4.keep g
              replace k24 := k24.keep g
              replace O5 := O5.keep g
              replace E2 := E2.keep g
              replace k26 := k26.keep g
              replace O6 := O6.keep g
              replace k28 := k28.keep g
              have b_26 := bb b_24 g
              clear b_24
              clear g
              have c_k18_0 := (Blk.cell k18 0).trans (show _ = some (.int .i64 N) from rfl)
              have c_k18_1 := (Blk.cell k18 1).trans (show _ = some (.slice AL L.length C) from rfl)
              have c_k22_0 := (Blk.cell k22 0).trans (show _ = some (.int .i64 oN) from rfl)
              have c_k22_1 := (Blk.cell k22 1).trans (show _ = some (.slice A3 oL.length c3) from rfl)
              have c_k24_0 := (Blk.cell k24 0).trans (show _ = some (.int .i64 oN) from rfl)
              have c_k24_1 := (Blk.cell k24 1).trans (show _ = some (.slice A4 oL.length c4) from rfl)
              have c_k26_0 := (Blk.cell k26 0).trans (show _ = some (.int .i64 dN) from rfl)
              have c_k26_1 := (Blk.cell k26 1).trans (show _ = some (.slice A5 dL.length c5) from rfl)
              have c_k28_0 := (Blk.cell k28 0).trans (show _ = some (.int .i64 dN) from rfl)
              have c_k28_1 := (Blk.cell k28 1).trans (show _ = some (.slice A6 dL.length c6) from rfl)
              go_wp2_with fail
              refine (CU _ RL RB).mono ?_; rintro e w_27 ⟨A8, c8, rfl, W8, g⟩
              clear c_k18_0 c_k18_1 c_k22_0 c_k22_1 c_k24_0 c_k24_1 c_k26_0 c_k26_1 c_k28_0 c_k28_1
              replace hg := hg.keep g
              replace TW := TW.keep g
              replace RL := RL.keep g
              replace RV := RV.keep g
              replace k18 := k18.keep g
              replace RB := RB.keep g
              replace O3 := O3.keep g
              replace E1 := E1.keep g
              replace k22 := k22.keep g
              replace O4 := O4.keep g
              replace k24 := k24.keep g
              replace O5 := O5.keep g
              replace E2 := E2.keep g
              replace k26 := k26.keep g
              replace O6 := O6.keep g
              replace k28 := k28.keep g
              replace W7 := W7.keep g
              replace E3 := E3.keep g
              have b_28 := bb b_26 g
              clear b_26
              clear g
              have c_k18_0 := (Blk.cell k18 0).trans (show _ = some (.int .i64 N) from rfl)
              have c_k18_1 := (Blk.cell k18 1).trans (show _ = some (.slice AL L.length C) from rfl)
              have c_k22_0 := (Blk.cell k22 0).trans (show _ = some (.int .i64 oN) from rfl)
              have c_k22_1 := (Blk.cell k22 1).trans (show _ = some (.slice A3 oL.length c3) from rfl)
              have c_k24_0 := (Blk.cell k24 0).trans (show _ = some (.int .i64 oN) from rfl)
              have c_k24_1 := (Blk.cell k24 1).trans (show _ = some (.slice A4 oL.length c4) from rfl)
              have c_k26_0 := (Blk.cell k26 0).trans (show _ = some (.int .i64 dN) from rfl)
              have c_k26_1 := (Blk.cell k26 1).trans (show _ = some (.slice A5 dL.length c5) from rfl)
              have c_k28_0 := (Blk.cell k28 0).trans (show _ = some (.int .i64 dN) from rfl)
              have c_k28_1 := (Blk.cell k28 1).trans (show _ = some (.slice A6 dL.length c6) from rfl)
              clear CT CU
              go_wp2_with fail
              have S1 := fun W (h : Laid W) (e : ErrIs op5 W v1 oE) => says5 oE W h e
              have S2 := fun W (h : Laid W) (e : ErrIs op5 W v2 dE) => says5 dE W h e
              have S3 := fun W (h : Laid W) (e : ErrIs op5 W v3 tE) => says5 tE W h e
              simp only [decide_true] at S1 S2 S3
              have SY := fun W (R : Rd W A3 oL) (S : Rd W A4 oL) => Syms_c (n := oN) (m := oN) R (OwnI.cap O3) S (OwnI.cap O4) oM oM
              have SZ := fun W (R : Rd W A5 dL) (S : Rd W A6 dL) => Syms_c (n := dN) (m := dN) R (OwnI.cap O5) S (OwnI.cap O6) dM dM
              simp only [and_self, decide_true] at SY SZ
              have WD := fun W (a : RowAt W A7 16 tN (fun k => uL (fT k))) (b : RowB W A8 tN fT) => Wides_c (c := c7) (d := c8) a b HA.out HT8.out
              refine (S1 _ hg E1.is).mono ?_; rintro e w_29 ⟨rfl, g⟩
              clear c_k18_0 c_k18_1 c_k22_0 c_k22_1 c_k24_0 c_k24_1 c_k26_0 c_k26_1 c_k28_0 c_k28_1
              replace hg := hg.keep g
              replace TW := TW.keep g
              replace RL := RL.keep g
              replace RV := RV.keep g
              replace k18 := k18.keep g
              replace RB := RB.keep g
              replace O3 := O3.keep g
              replace E1 := E1.keep g
              replace k22 := k22.keep g
              replace O4 := O4.keep g
              replace k24 := k24.keep g
              replace O5 := O5.keep g
              replace E2 := E2.keep g
              replace k26 := k26.keep g
              replace O6 := O6.keep g
              replace k28 := k28.keep g
              replace W7 := W7.keep g
              replace E3 := E3.keep g
              replace W8 := W8.keep g
              have b_30 := bb b_28 g
              clear b_28
              clear g
              have c_k18_0 := (Blk.cell k18 0).trans (show _ = some (.int .i64 N) from rfl)
              have c_k18_1 := (Blk.cell k18 1).trans (show _ = some (.slice AL L.length C) from rfl)
              have c_k22_0 := (Blk.cell k22 0).trans (show _ = some (.int .i64 oN) from rfl)
              have c_k22_1 := (Blk.cell k22 1).trans (show _ = some (.slice A3 oL.length c3) from rfl)
              have c_k24_0 := (Blk.cell k24 0).trans (show _ = some (.int .i64 oN) from rfl)
              have c_k24_1 := (Blk.cell k24 1).trans (show _ = some (.slice A4 oL.length c4) from rfl)
              have c_k26_0 := (Blk.cell k26 0).trans (show _ = some (.int .i64 dN) from rfl)
              have c_k26_1 := (Blk.cell k26 1).trans (show _ = some (.slice A5 dL.length c5) from rfl)
              have c_k28_0 := (Blk.cell k28 0).trans (show _ = some (.int .i64 dN) from rfl)
              have c_k28_1 := (Blk.cell k28 1).trans (show _ = some (.slice A6 dL.length c6) from rfl)
              go_wp2_with fail
              refine (SY _ O3.rd O4.rd).mono ?_; rintro e w_31 ⟨rfl, g⟩
              clear c_k18_0 c_k18_1 c_k22_0 c_k22_1 c_k24_0 c_k24_1 c_k26_0 c_k26_1 c_k28_0 c_k28_1
              replace hg := hg.keep g
              replace TW := TW.keep g
              replace RL := RL.keep g
              replace RV := RV.keep g
              replace k18 := k18.keep g
              replace RB := RB.keep g
              replace O3 := O3.keep g
              replace E1 := E1.keep g
              replace k22 := k22.keep g
              replace O4 := O4.keep g
              replace k24 := k24.keep g
              replace O5 := O5.keep g
              replace E2 := E2.keep g
              replace k26 := k26.keep g
              replace O6 := O6.keep g
              replace k28 := k28.keep g
              replace W7 := W7.keep g
              replace E3 := E3.keep g
              replace W8 := W8.keep g
              have b_32 := bb b_30 g
              clear b_30
              clear g
              have c_k18_0 := (Blk.cell k18 0).trans (show _ = some (.int .i64 N) from rfl)
              have c_k18_1 := (Blk.cell k18 1).trans (show _ = some (.slice AL L.length C) from rfl)
              have c_k22_0 := (Blk.cell k22 0).trans (show _ = some (.int .i64 oN) from rfl)
              have c_k22_1 := (Blk.cell k22 1).trans (show _ = some (.slice A3 oL.length c3) from rfl)
              have c_k24_0 := (Blk.cell k24 0).trans (show _ = some (.int .i64 oN) from rfl)
              have c_k24_1 := (Blk.cell k24 1).trans (show _ = some (.slice A4 oL.length c4) from rfl)
              have c_k26_0 := (Blk.cell k26 0).trans (show _ = some (.int .i64 dN) from rfl)
              have c_k26_1 := (Blk.cell k26 1).trans (show _ = some (.slice A5 dL.length c5) from rfl)
              have c_k28_0 := (Blk.cell k28 0).trans (show _ = some (.int .i64 dN) from rfl)
              have c_k28_1 := (Blk.cell k28 1).trans (show _ = some (.slice A6 dL.length c6) from rfl)
              go_wp2_with fail
              refine (S2 _ hg E2.is).mono ?_; rintro e w_33 ⟨rfl, g⟩
              clear c_k18_0 c_k18_1 c_k22_0 c_k22_1 c_k24_0 c_k24_1 c_k26_0 c_k26_1 c_k28_0 c_k28_1
              replace hg := hg.keep g
              replace TW := TW.keep g
              replace RL := RL.keep g
              replace RV := RV.keep g
              replace k18 := k18.keep g
              replace RB := RB.keep g
              replace O3 := O3.keep g
              replace E1 := E1.keep g
              replace k22 := k22.keep g
              replace O4 := O4.keep g
              replace k24 := k24.keep g
              replace O5 := O5.keep g
              replace E2 := E2.keep g
              replace k26 := k26.keep g
              replace O6 := O6.keep g
              replace k28 := k28.keep g
              replace W7 := W7.keep g
              replace E3 := E3.keep g
              replace W8 := W8.keep g
              have b_34 := bb b_32 g
              clear b_32
              clear g
              have c_k18_0 := (Blk.cell k18 0).trans (show _ = some (.int .i64 N) from rfl)
              have c_k18_1 := (Blk.cell k18 1).trans (show _ = some (.slice AL L.length C) from rfl)
              have c_k22_0 := (Blk.cell k22 0).trans (show _ = some (.int .i64 oN) from rfl)
              have c_k22_1 := (Blk.cell k22 1).trans (show _ = some (.slice A3 oL.length c3) from rfl)
              have c_k24_0 := (Blk.cell k24 0).trans (show _ = some (.int .i64 oN) from rfl)
              have c_k24_1 := (Blk.cell k24 1).trans (show _ = some (.slice A4 oL.length c4) from rfl)
              have c_k26_0 := (Blk.cell k26 0).trans (show _ = some (.int .i64 dN) from rfl)
              have c_k26_1 := (Blk.cell k26 1).trans (show _ = some (.slice A5 dL.length c5) from rfl)
              have c_k28_0 := (Blk.cell k28 0).trans (show _ = some (.int .i64 dN) from rfl)
              have c_k28_1 := (Blk.cell k28 1).trans (show _ = some (.slice A6 dL.length c6) from rfl)
              go_wp2_with fail
              refine (SZ _ O5.rd O6.rd).mono ?_; rintro e w_35 ⟨rfl, g⟩
              clear c_k18_0 c_k18_1 c_k22_0 c_k22_1 c_k24_0 c_k24_1 c_k26_0 c_k26_1 c_k28_0 c_k28_1
              replace hg := hg.keep g
              replace TW := TW.keep g
              replace RL := RL.keep g
              replace RV := RV.keep g
              replace k18 := k18.keep g
              replace RB := RB.keep g
              replace O3 := O3.keep g
              replace E1 := E1.keep g
              replace k22 := k22.keep g
              replace O4 := O4.keep g
              replace k24 := k24.keep g
              replace O5 := O5.keep g
              replace E2 := E2.keep g
              replace k26 := k26.keep g
              replace O6 := O6.keep g
              replace k28 := k28.keep g
              replace W7 := W7.keep g
              replace E3 := E3.keep g
              replace W8 := W8.keep g
              have b_36 := bb b_34 g
              clear b_34
              clear g
              have c_k18_0 := (Blk.cell k18 0).trans (show _ = some (.int .i64 N) from rfl)
              have c_k18_1 := (Blk.cell k18 1).trans (show _ = some (.slice AL L.length C) from rfl)
              have c_k22_0 := (Blk.cell k22 0).trans (show _ = some (.int .i64 oN) from rfl)
              have c_k22_1 := (Blk.cell k22 1).trans (show _ = some (.slice A3 oL.length c3) from rfl)
              have c_k24_0 := (Blk.cell k24 0).trans (show _ = some (.int .i64 oN) from rfl)
              have c_k24_1 := (Blk.cell k24 1).trans (show _ = some (.slice A4 oL.length c4) from rfl)
              have c_k26_0 := (Blk.cell k26 0).trans (show _ = some (.int .i64 dN) from rfl)
              have c_k26_1 := (Blk.cell k26 1).trans (show _ = some (.slice A5 dL.length c5) from rfl)
              have c_k28_0 := (Blk.cell k28 0).trans (show _ = some (.int .i64 dN) from rfl)
              have c_k28_1 := (Blk.cell k28 1).trans (show _ = some (.slice A6 dL.length c6) from rfl)
              go_wp2_with fail
              refine (S3 _ hg E3.is).mono ?_; rintro e w_37 ⟨rfl, g⟩
              clear c_k18_0 c_k18_1 c_k22_0 c_k22_1 c_k24_0 c_k24_1 c_k26_0 c_k26_1 c_k28_0 c_k28_1
              replace hg := hg.keep g
              replace TW := TW.keep g
              replace RL := RL.keep g
              replace RV := RV.keep g
              replace k18 := k18.keep g
              replace RB := RB.keep g
              replace O3 := O3.keep g
              replace E1 := E1.keep g
              replace k22 := k22.keep g
              replace O4 := O4.keep g
              replace k24 := k24.keep g
              replace O5 := O5.keep g
              replace E2 := E2.keep g
              replace k26 := k26.keep g
              replace O6 := O6.keep g
              replace k28 := k28.keep g
              replace W7 := W7.keep g
              replace E3 := E3.keep g
              replace W8 := W8.keep g
              have b_38 := bb b_36 g
              clear b_36
              clear g
              have c_k18_0 := (Blk.cell k18 0).trans (show _ = some (.int .i64 N) from rfl)
              have c_k18_1 := (Blk.cell k18 1).trans (show _ = some (.slice AL L.length C) from rfl)
              have c_k22_0 := (Blk.cell k22 0).trans (show _ = some (.int .i64 oN) from rfl)
              have c_k22_1 := (Blk.cell k22 1).trans (show _ = some (.slice A3 oL.length c3) from rfl)
              have c_k24_0 := (Blk.cell k24 0).trans (show _ = some (.int .i64 oN) from rfl)
              have c_k24_1 := (Blk.cell k24 1).trans (show _ = some (.slice A4 oL.length c4) from rfl)
              have c_k26_0 := (Blk.cell k26 0).trans (show _ = some (.int .i64 dN) from rfl)
              have c_k26_1 := (Blk.cell k26 1).trans (show _ = some (.slice A5 dL.length c5) from rfl)
              have c_k28_0 := (Blk.cell k28 0).trans (show _ = some (.int .i64 dN) from rfl)
              have c_k28_1 := (Blk.cell k28 1).trans (show _ = some (.slice A6 dL.length c6) from rfl)
              go_wp2_with fail
              refine (WD _ W7 W8).mono ?_; rintro e w_39 ⟨rfl, g⟩
              clear c_k18_0 c_k18_1 c_k22_0 c_k22_1 c_k24_0 c_k24_1 c_k26_0 c_k26_1 c_k28_0 c_k28_1
              replace hg := hg.keep g
              replace TW := TW.keep g
              replace RL := RL.keep g
              replace RV := RV.keep g
              replace k18 := k18.keep g
              replace RB := RB.keep g
              replace O3 := O3.keep g
              replace E1 := E1.keep g
              replace k22 := k22.keep g
              replace O4 := O4.keep g
              replace k24 := k24.keep g
              replace O5 := O5.keep g
              replace E2 := E2.keep g
              replace k26 := k26.keep g
              replace O6 := O6.keep g
              replace k28 := k28.keep g
              replace W7 := W7.keep g
              replace E3 := E3.keep g
              replace W8 := W8.keep g
              have b_40 := bb b_38 g
              clear b_38
              clear g
              have c_k18_0 := (Blk.cell k18 0).trans (show _ = some (.int .i64 N) from rfl)
              have c_k18_1 := (Blk.cell k18 1).trans (show _ = some (.slice AL L.length C) from rfl)
              have c_k22_0 := (Blk.cell k22 0).trans (show _ = some (.int .i64 oN) from rfl)
              have c_k22_1 := (Blk.cell k22 1).trans (show _ = some (.slice A3 oL.length c3) from rfl)
              have c_k24_0 := (Blk.cell k24 0).trans (show _ = some (.int .i64 oN) from rfl)
              have c_k24_1 := (Blk.cell k24 1).trans (show _ = some (.slice A4 oL.length c4) from rfl)
              have c_k26_0 := (Blk.cell k26 0).trans (show _ = some (.int .i64 dN) from rfl)
              have c_k26_1 := (Blk.cell k26 1).trans (show _ = some (.slice A5 dL.length c5) from rfl)
              have c_k28_0 := (Blk.cell k28 0).trans (show _ = some (.int .i64 dN) from rfl)
              have c_k28_1 := (Blk.cell k28 1).trans (show _ = some (.slice A6 dL.length c6) from rfl)
              go_wp2_with fail
              exact ⟨⟨r + 1, by omega, by go_num, TW, hg, RV, b_40⟩, by simp [intOf]; omega⟩
            | true =>
              obtain ⟨p, hp8, PC⟩ := Place_c N
              have CV := fun W (R : Rd W D hv) => Vec_c (N := p) (A := none) (c := 0) (l := []) (d := dd) hp8 (Rd.nil W none) (Nat.le_refl _) (by decide) R HDV.out (by have := HHV.out; omega) HWV.out false
              simp only [List.length_nil] at CV
              have ga : Below wr.heap.size wr (wr.alloc (.cells #[.int .i64 N, .slice AL L.length C] 24)) := (Below.refl _ _).alloc (Nat.le_refl _) _
              have k18 := Blk.new wr #[.int .i64 N, .slice AL L.length C] 24
              replace hg := hg.keep ga
              replace TW := TW.keep ga
              replace RL := RL.keep ga
              replace RV := RV.keep ga
              have b_8 := bb bR ga
              clear bR
              clear ga
              have c_k18_0 := (Blk.cell k18 0).trans (show _ = some (.int .i64 N) from rfl)
              have c_k18_1 := (Blk.cell k18 1).trans (show _ = some (.slice AL L.length C) from rfl)
              go_wp2_with fail
              generalize (wr.alloc (.cells #[.int .i64 N, .slice AL L.length C] 24)) = w_7 at *
              generalize wr.heap.size = g_k18 at *
              clear q0 q1
              refine (PC _).mono ?_; rintro e w_9 ⟨rfl, g⟩
              clear c_k18_0 c_k18_1
              replace hg := hg.keep g
              replace TW := TW.keep g
              replace RL := RL.keep g
              replace RV := RV.keep g
              replace k18 := k18.keep g
              have b_10 := bb b_8 g
              clear b_8
              clear g
              have c_k18_0 := (Blk.cell k18 0).trans (show _ = some (.int .i64 N) from rfl)
              have c_k18_1 := (Blk.cell k18 1).trans (show _ = some (.slice AL L.length C) from rfl)
              clear PC
              go_wp2_with fail
              clear c_k18_0 c_k18_1
              refine (CV _ RV).mono ?_; rintro e wq ⟨B', d', h0, rfl, own, hlen, wh0, gq⟩
              clear CV
              have p0 : (0 : Int) ≤ (p : Int) := by omega
              have p8 : (p : Int) ≤ 8 := by omega
              have HP := Lib.hid hp8
              have HW0 := Lib.hid wh0
              have HLE := Lib.hid hlen
              clear hp8 wh0 hlen
              go_wp2_with fail
              go_loopw [21] (fun s21 wl => ∃ (i : Nat) (h' : List Int), i ≤ p ∧ s21 = .int .i64 i ∧ OwnI wl w_9.heap.size B' d' h' ∧ h'.length = p ∧ (∀ x ∈ h', W64 x) ∧ Below w_9.heap.size w_9 wl) (fun s21 _ => p - (intOf s21).toNat)
              case atStart => exact ⟨0, h0, Nat.zero_le _, rfl, own, HLE.out, HW0.out, gq⟩
              case round =>
                clear own gq
                obtain ⟨i, h', hi, rfl, own, hlen, wH, gq⟩ := hrel
                have i0 : (0 : Int) ≤ (i : Int) := by omega
                by_cases hip : i < p
                case pos =>
                  have i1 : (i : Int) < (p : Int) := by omega
                  have i2 : decide ((i : Int) < (p : Int)) = true := by simpa using hip
                  have hil : i < h'.length := by omega
                  rcases own.form with ⟨_, _, e⟩ | ⟨g, rfl, hgq, _, _, _⟩
                  · subst e; simp at hil
                  have cl := own.at_ hil
                  have fr := own.free i
                  have O2 := Lib.hid (OwnI.set own hil (Int.tmod (h'.getD i 0) 3000))
                  have B2 := Lib.hid (Below.setCell (p := ⟨g, i, none⟩) gq hgq (.int .i64 (Int.tmod (h'.getD i 0) 3000)))
                  have W2 := Lib.hid (show ∀ x ∈ h'.set i (Int.tmod (h'.getD i 0) 3000), W64 x from fun x hx => by
                    rcases List.mem_or_eq_of_mem_set hx with h | rfl
                    · exact wH x h
                    · exact tmod_any _ (by decide) (by decide))
                  have HL2 := Lib.hid (show (h'.set i (Int.tmod (h'.getD i 0) 3000)).length = p by rw [List.length_set]; exact hlen)
                  have wr' := getD_w wH i
                  obtain ⟨wl0, wl1⟩ := wr'
                  generalize h'.getD i 0 = y at *
                  clear own gq wH hil RL TW RV hg k18 b_10
                  go_wp2_with fail
                  exact ⟨⟨i + 1, _, by omega, by go_num, O2.out, HL2.out, W2.out, B2.out⟩, by simp [intOf]; omega⟩
                case neg =>
                  obtain rfl : i = p := by omega
                  have i2 : decide ((i : Int) < (i : Int)) = false := by simp
                  have RB := own.rd
                  have hH : h'.length ≤ 100 := by have := HP.out; omega
                  have hlI : (h'.length : Int) = (i : Int) := by omega
                  replace wX : W64 (Int.tmod xw 100) := tmod_any 100 (by decide) (by decide)
                  clear own
                  replace hg := hg.keep gq
                  replace TW := TW.keep gq
                  replace RL := RL.keep gq
                  replace RV := RV.keep gq
                  replace k18 := k18.keep gq
                  have b_11 := bb b_10 gq
                  clear b_10
                  clear gq
                  have c_k18_0 := (Blk.cell k18 0).trans (show _ = some (.int .i64 N) from rfl)
                  have c_k18_1 := (Blk.cell k18 1).trans (show _ = some (.slice AL L.length C) from rfl)
                  subst hlen
                  clear i2 hip i0 p0 p8
                  have i2 : decide ((h'.length : Int) < (h'.length : Int)) = false := by simp
                  go_wp2_with fail
                  have CO := fun W (R : Rd W AL L) (S : Rd W B' h') => SOuter_c (n := N) (d := d') R hC (by omega) S hH wH (Int.tmod xw 100) wX
                  have CP := fun W (R : Rd W AL L) (S : Rd W B' h') => ROuter_c (n := N) (d := d') R hC (by omega) S hH wH (Int.tmod xw 100) wX
                  have CD := fun W (R : Rd W AL L) => SDiag_c (n := N) R hC (by omega) v wv
                  have CQ := fun W (R : Rd W AL L) => RDiag_c (n := N) R hC (by omega) v wv
                  have CT := fun W (R : Rd W AL L) (S : Rd W B' h') => STimes_c (n := N) (d := d') R hC (by omega) S hH wH
                  have CU := fun W (R : Rd W AL L) (S : Rd W B' h') => RTimes_c (n := N) (d := d') R hC (by omega) S hH wH
                  obtain ⟨t8, tA⟩ := tm_abs (n := N) (l := L) (g := decide ((h'.length : Int) = N)) wH
                  replace tA : ∀ k, k < tmN N L (decide ((h'.length : Int) = N)) → ((fun k => ps N.toNat L h' k N.toNat) k).natAbs ≤ 2 ^ 255 := tA
                  have oM := genL_len N L (decide ((h'.length : Int) = N)) (outF N.toNat L (Int.tmod xw 100) h')
                  have dM := genL_len N L true (diaF N.toNat L v)
                  generalize (fun k => ps N.toNat L h' k N.toNat) = fT at *
                  generalize genE N L (decide ((h'.length : Int) = N)) (outF N.toNat L (Int.tmod xw 100) h') = oE at *
                  generalize genN N L (decide ((h'.length : Int) = N)) (outF N.toNat L (Int.tmod xw 100) h') = oN at *
                  generalize genL N L (decide ((h'.length : Int) = N)) (outF N.toNat L (Int.tmod xw 100) h') = oL at *
                  generalize genE N L true (diaF N.toNat L v) = dE at *
                  generalize genN N L true (diaF N.toNat L v) = dN at *
                  generalize genL N L true (diaF N.toNat L v) = dL at *
                  generalize tmE N L (decide ((h'.length : Int) = N)) = tE at *
                  generalize tmN N L (decide ((h'.length : Int) = N)) = tN at *
                  have HA := Lib.hid tA
                  have HT8 := Lib.hid t8
                  clear tA t8
                  refine (CO _ RL RB).mono ?_; rintro e w_12 ⟨A3, c3, v1, rfl, O3, E1, g⟩
                  clear c_k18_0 c_k18_1
                  replace hg := hg.keep g
                  replace TW := TW.keep g
                  replace RL := RL.keep g
                  replace RV := RV.keep g
                  replace k18 := k18.keep g
                  replace RB := RB.keep g
                  have b_13 := bb b_11 g
                  clear b_11
                  clear g
                  have c_k18_0 := (Blk.cell k18 0).trans (show _ = some (.int .i64 N) from rfl)
                  have c_k18_1 := (Blk.cell k18 1).trans (show _ = some (.slice AL L.length C) from rfl)
                  clear c_k18_0 c_k18_1
                  have ga : Below w_12.heap.size w_12 (w_12.alloc (.cells #[.int .i64 oN, .slice A3 oL.length c3] 24)) := (Below.refl _ _).alloc (Nat.le_refl _) _
                  have k22 := Blk.new w_12 #[.int .i64 oN, .slice A3 oL.length c3] 24
                  replace hg := hg.keep ga
                  replace TW := TW.keep ga
                  replace RL := RL.keep ga
                  replace RV := RV.keep ga
                  replace k18 := k18.keep ga
                  replace RB := RB.keep ga
                  replace O3 := O3.keep ga
                  replace E1 := E1.keep ga
                  have b_15 := bb b_13 ga
                  clear b_13
                  clear ga
                  have c_k18_0 := (Blk.cell k18 0).trans (show _ = some (.int .i64 N) from rfl)
                  have c_k18_1 := (Blk.cell k18 1).trans (show _ = some (.slice AL L.length C) from rfl)
                  have c_k22_0 := (Blk.cell k22 0).trans (show _ = some (.int .i64 oN) from rfl)
                  have c_k22_1 := (Blk.cell k22 1).trans (show _ = some (.slice A3 oL.length c3) from rfl)
                  go_wp2_with fail
                  generalize (w_12.alloc (.cells #[.int .i64 oN, .slice A3 oL.length c3] 24)) = w_14 at *
                  generalize w_12.heap.size = g_k22 at *
                  refine (CP _ RL RB).mono ?_; rintro e w_16 ⟨A4, c4, rfl, O4, g⟩
                  clear c_k18_0 c_k18_1 c_k22_0 c_k22_1
                  replace hg := hg.keep g
                  replace TW := TW.keep g
                  replace RL := RL.keep g
                  replace RV := RV.keep g
                  replace k18 := k18.keep g
                  replace RB := RB.keep g
                  replace O3 := O3.keep g
                  replace E1 := E1.keep g
                  replace k22 := k22.keep g
                  have b_17 := bb b_15 g
                  clear b_15
                  clear g
                  have c_k18_0 := (Blk.cell k18 0).trans (show _ = some (.int .i64 N) from rfl)
                  have c_k18_1 := (Blk.cell k18 1).trans (show _ = some (.slice AL L.length C) from rfl)
                  have c_k22_0 := (Blk.cell k22 0).trans (show _ = some (.int .i64 oN) from rfl)
                  have c_k22_1 := (Blk.cell k22 1).trans (show _ = some (.slice A3 oL.length c3) from rfl)
                  clear c_k18_0 c_k18_1 c_k22_0 c_k22_1
                  have ga : Below w_16.heap.size w_16 (w_16.alloc (.cells #[.int .i64 oN, .slice A4 oL.length c4] 24)) := (Below.refl _ _).alloc (Nat.le_refl _) _
                  have k24 := Blk.new w_16 #[.int .i64 oN, .slice A4 oL.length c4] 24
                  replace hg := hg.keep ga
                  replace TW := TW.keep ga
                  replace RL := RL.keep ga
                  replace RV := RV.keep ga
                  replace k18 := k18.keep ga
                  replace RB := RB.keep ga
                  replace O3 := O3.keep ga
                  replace E1 := E1.keep ga
                  replace k22 := k22.keep ga
                  replace O4 := O4.keep ga
                  have b_19 := bb b_17 ga
                  clear b_17
                  clear ga
                  have c_k18_0 := (Blk.cell k18 0).trans (show _ = some (.int .i64 N) from rfl)
                  have c_k18_1 := (Blk.cell k18 1).trans (show _ = some (.slice AL L.length C) from rfl)
                  have c_k22_0 := (Blk.cell k22 0).trans (show _ = some (.int .i64 oN) from rfl)
                  have c_k22_1 := (Blk.cell k22 1).trans (show _ = some (.slice A3 oL.length c3) from rfl)
                  have c_k24_0 := (Blk.cell k24 0).trans (show _ = some (.int .i64 oN) from rfl)
                  have c_k24_1 := (Blk.cell k24 1).trans (show _ = some (.slice A4 oL.length c4) from rfl)
                  go_wp2_with fail
                  generalize (w_16.alloc (.cells #[.int .i64 oN, .slice A4 oL.length c4] 24)) = w_18 at *
                  generalize w_16.heap.size = g_k24 at *
                  refine (CD _ RL).mono ?_; rintro e w_20 ⟨A5, c5, v2, rfl, O5, E2, g⟩
                  clear c_k18_0 c_k18_1 c_k22_0 c_k22_1 c_k24_0 c_k24_1
                  replace hg := hg.keep g
                  replace TW := TW.keep g
                  replace RL := RL.keep g
                  replace RV := RV.keep g
                  replace k18 := k18.keep g
                  replace RB := RB.keep g
                  replace O3 := O3.keep g
                  replace E1 := E1.keep g
                  replace k22 := k22.keep g
                  replace O4 := O4.keep g
                  replace k24 := k24.keep g
                  have b_21 := bb b_19 g
                  clear b_19
                  clear g
                  have c_k18_0 := (Blk.cell k18 0).trans (show _ = some (.int .i64 N) from rfl)
                  have c_k18_1 := (Blk.cell k18 1).trans (show _ = some (.slice AL L.length C) from rfl)
                  have c_k22_0 := (Blk.cell k22 0).trans (show _ = some (.int .i64 oN) from rfl)
                  have c_k22_1 := (Blk.cell k22 1).trans (show _ = some (.slice A3 oL.length c3) from rfl)
                  have c_k24_0 := (Blk.cell k24 0).trans (show _ = some (.int .i64 oN) from rfl)
                  have c_k24_1 := (Blk.cell k24 1).trans (show _ = some (.slice A4 oL.length c4) from rfl)
                  clear c_k18_0 c_k18_1 c_k22_0 c_k22_1 c_k24_0 c_k24_1
                  have ga : Below w_20.heap.size w_20 (w_20.alloc (.cells #[.int .i64 dN, .slice A5 dL.length c5] 24)) := (Below.refl _ _).alloc (Nat.le_refl _) _
                  have k26 := Blk.new w_20 #[.int .i64 dN, .slice A5 dL.length c5] 24
                  replace hg := hg.keep ga
                  replace TW := TW.keep ga
                  replace RL := RL.keep ga
                  replace RV := RV.keep ga
                  replace k18 := k18.keep ga
                  replace RB := RB.keep ga
                  replace O3 := O3.keep ga
                  replace E1 := E1.keep ga
                  replace k22 := k22.keep ga
                  replace O4 := O4.keep ga
                  replace k24 := k24.keep ga
                  replace O5 := O5.keep ga
                  replace E2 := E2.keep ga
                  have b_23 := bb b_21 ga
                  clear b_21
                  clear ga
                  have c_k18_0 := (Blk.cell k18 0).trans (show _ = some (.int .i64 N) from rfl)
                  have c_k18_1 := (Blk.cell k18 1).trans (show _ = some (.slice AL L.length C) from rfl)
                  have c_k22_0 := (Blk.cell k22 0).trans (show _ = some (.int .i64 oN) from rfl)
                  have c_k22_1 := (Blk.cell k22 1).trans (show _ = some (.slice A3 oL.length c3) from rfl)
                  have c_k24_0 := (Blk.cell k24 0).trans (show _ = some (.int .i64 oN) from rfl)
                  have c_k24_1 := (Blk.cell k24 1).trans (show _ = some (.slice A4 oL.length c4) from rfl)
                  have c_k26_0 := (Blk.cell k26 0).trans (show _ = some (.int .i64 dN) from rfl)
                  have c_k26_1 := (Blk.cell k26 1).trans (show _ = some (.slice A5 dL.length c5) from rfl)
                  go_wp2_with fail
                  generalize (w_20.alloc (.cells #[.int .i64 dN, .slice A5 dL.length c5] 24)) = w_22 at *
                  generalize w_20.heap.size = g_k26 at *
                  refine (CQ _ RL).mono ?_; rintro e w_24 ⟨A6, c6, rfl, O6, g⟩
                  clear c_k18_0 c_k18_1 c_k22_0 c_k22_1 c_k24_0 c_k24_1 c_k26_0 c_k26_1
                  replace hg := hg.keep g
                  replace TW := TW.keep g
                  replace RL := RL.keep g
                  replace RV := RV.keep g
                  replace k18 := k18.keep g
                  replace RB := RB.keep g
                  replace O3 := O3.keep g
                  replace E1 := E1.keep g
                  replace k22 := k22.keep g
                  replace O4 := O4.keep g
                  replace k24 := k24.keep g
                  replace O5 := O5.keep g
                  replace E2 := E2.keep g
                  replace k26 := k26.keep g
                  have b_25 := bb b_23 g
                  clear b_23
                  clear g
                  have c_k18_0 := (Blk.cell k18 0).trans (show _ = some (.int .i64 N) from rfl)
                  have c_k18_1 := (Blk.cell k18 1).trans (show _ = some (.slice AL L.length C) from rfl)
                  have c_k22_0 := (Blk.cell k22 0).trans (show _ = some (.int .i64 oN) from rfl)
                  have c_k22_1 := (Blk.cell k22 1).trans (show _ = some (.slice A3 oL.length c3) from rfl)
                  have c_k24_0 := (Blk.cell k24 0).trans (show _ = some (.int .i64 oN) from rfl)
                  have c_k24_1 := (Blk.cell k24 1).trans (show _ = some (.slice A4 oL.length c4) from rfl)
                  have c_k26_0 := (Blk.cell k26 0).trans (show _ = some (.int .i64 dN) from rfl)
                  have c_k26_1 := (Blk.cell k26 1).trans (show _ = some (.slice A5 dL.length c5) from rfl)
                  clear c_k18_0 c_k18_1 c_k22_0 c_k22_1 c_k24_0 c_k24_1 c_k26_0 c_k26_1
                  have ga : Below w_24.heap.size w_24 (w_24.alloc (.cells #[.int .i64 dN, .slice A6 dL.length c6] 24)) := (Below.refl _ _).alloc (Nat.le_refl _) _
                  have k28 := Blk.new w_24 #[.int .i64 dN, .slice A6 dL.length c6] 24
                  replace hg := hg.keep ga
                  replace TW := TW.keep ga
                  replace RL := RL.keep ga
                  replace RV := RV.keep ga
                  replace k18 := k18.keep ga
                  replace RB := RB.keep ga
                  replace O3 := O3.keep ga
                  replace E1 := E1.keep ga
                  replace k22 := k22.keep ga
                  replace O4 := O4.keep ga
                  replace k24 := k24.keep ga
                  replace O5 := O5.keep ga
                  replace E2 := E2.keep ga
                  replace k26 := k26.keep ga
                  replace O6 := O6.keep ga
                  have b_27 := bb b_25 ga
                  clear b_25
                  clear ga
                  have c_k18_0 := (Blk.cell k18 0).trans (show _ = some (.int .i64 N) from rfl)
                  have c_k18_1 := (Blk.cell k18 1).trans (show _ = some (.slice AL L.length C) from rfl)
                  have c_k22_0 := (Blk.cell k22 0).trans (show _ = some (.int .i64 oN) from rfl)
                  have c_k22_1 := (Blk.cell k22 1).trans (show _ = some (.slice A3 oL.length c3) from rfl)
                  have c_k24_0 := (Blk.cell k24 0).trans (show _ = some (.int .i64 oN) from rfl)
                  have c_k24_1 := (Blk.cell k24 1).trans (show _ = some (.slice A4 oL.length c4) from rfl)
                  have c_k26_0 := (Blk.cell k26 0).trans (show _ = some (.int .i64 dN) from rfl)
                  have c_k26_1 := (Blk.cell k26 1).trans (show _ = some (.slice A5 dL.length c5) from rfl)
                  have c_k28_0 := (Blk.cell k28 0).trans (show _ = some (.int .i64 dN) from rfl)
                  have c_k28_1 := (Blk.cell k28 1).trans (show _ = some (.slice A6 dL.length c6) from rfl)
                  go_wp2_with fail
                  generalize (w_24.alloc (.cells #[.int .i64 dN, .slice A6 dL.length c6] 24)) = w_26 at *
                  generalize w_24.heap.size = g_k28 at *
                  clear CO CP CD CQ
                  refine (CT _ RL RB).mono ?_; rintro e w_28 ⟨A7, c7, v3, rfl, W7, E3, g⟩
                  clear c_k18_0 c_k18_1 c_k22_0 c_k22_1 c_k24_0 c_k24_1 c_k26_0 c_k26_1 c_k28_0 c_k28_1
                  replace hg := hg.keep g
                  replace TW := TW.keep g
                  replace RL := RL.keep g
                  replace RV := RV.keep g
                  replace k18 := k18.keep g
                  replace RB := RB.keep g
                  replace O3 := O3.keep g
                  replace E1 := E1.keep g
                  replace k22 := k22.keep g
                  replace O4 := O4.keep g
                  replace k24 := k24.keep g
                  replace O5 := O5.keep g
                  replace E2 := E2.keep g
                  replace k26 := k26.keep g
                  replace O6 := O6.keep g
                  replace k28 := k28.keep g
                  have b_29 := bb b_27 g
                  clear b_27
                  clear g
                  have c_k18_0 := (Blk.cell k18 0).trans (show _ = some (.int .i64 N) from rfl)
                  have c_k18_1 := (Blk.cell k18 1).trans (show _ = some (.slice AL L.length C) from rfl)
                  have c_k22_0 := (Blk.cell k22 0).trans (show _ = some (.int .i64 oN) from rfl)
                  have c_k22_1 := (Blk.cell k22 1).trans (show _ = some (.slice A3 oL.length c3) from rfl)
                  have c_k24_0 := (Blk.cell k24 0).trans (show _ = some (.int .i64 oN) from rfl)
                  have c_k24_1 := (Blk.cell k24 1).trans (show _ = some (.slice A4 oL.length c4) from rfl)
                  have c_k26_0 := (Blk.cell k26 0).trans (show _ = some (.int .i64 dN) from rfl)
                  have c_k26_1 := (Blk.cell k26 1).trans (show _ = some (.slice A5 dL.length c5) from rfl)
                  have c_k28_0 := (Blk.cell k28 0).trans (show _ = some (.int .i64 dN) from rfl)
                  have c_k28_1 := (Blk.cell k28 1).trans (show _ = some (.slice A6 dL.length c6) from rfl)
                  go_wp2_with fail
                  refine (CU _ RL RB).mono ?_; rintro e w_30 ⟨A8, c8, rfl, W8, g⟩
                  clear c_k18_0 c_k18_1 c_k22_0 c_k22_1 c_k24_0 c_k24_1 c_k26_0 c_k26_1 c_k28_0 c_k28_1
                  replace hg := hg.keep g
                  replace TW := TW.keep g
                  replace RL := RL.keep g
                  replace RV := RV.keep g
                  replace k18 := k18.keep g
                  replace RB := RB.keep g
                  replace O3 := O3.keep g
                  replace E1 := E1.keep g
                  replace k22 := k22.keep g
                  replace O4 := O4.keep g
                  replace k24 := k24.keep g
                  replace O5 := O5.keep g
                  replace E2 := E2.keep g
                  replace k26 := k26.keep g
                  replace O6 := O6.keep g
                  replace k28 := k28.keep g
                  replace W7 := W7.keep g
                  replace E3 := E3.keep g
                  have b_31 := bb b_29 g
                  clear b_29
                  clear g
                  have c_k18_0 := (Blk.cell k18 0).trans (show _ = some (.int .i64 N) from rfl)
                  have c_k18_1 := (Blk.cell k18 1).trans (show _ = some (.slice AL L.length C) from rfl)
                  have c_k22_0 := (Blk.cell k22 0).trans (show _ = some (.int .i64 oN) from rfl)
                  have c_k22_1 := (Blk.cell k22 1).trans (show _ = some (.slice A3 oL.length c3) from rfl)
                  have c_k24_0 := (Blk.cell k24 0).trans (show _ = some (.int .i64 oN) from rfl)
                  have c_k24_1 := (Blk.cell k24 1).trans (show _ = some (.slice A4 oL.length c4) from rfl)
                  have c_k26_0 := (Blk.cell k26 0).trans (show _ = some (.int .i64 dN) from rfl)
                  have c_k26_1 := (Blk.cell k26 1).trans (show _ = some (.slice A5 dL.length c5) from rfl)
                  have c_k28_0 := (Blk.cell k28 0).trans (show _ = some (.int .i64 dN) from rfl)
                  have c_k28_1 := (Blk.cell k28 1).trans (show _ = some (.slice A6 dL.length c6) from rfl)
                  clear CT CU
                  go_wp2_with fail
                  have S1 := fun W (h : Laid W) (e : ErrIs op5 W v1 oE) => says5 oE W h e
                  have S2 := fun W (h : Laid W) (e : ErrIs op5 W v2 dE) => says5 dE W h e
                  have S3 := fun W (h : Laid W) (e : ErrIs op5 W v3 tE) => says5 tE W h e
                  simp only [decide_true] at S1 S2 S3
                  have SY := fun W (R : Rd W A3 oL) (S : Rd W A4 oL) => Syms_c (n := oN) (m := oN) R (OwnI.cap O3) S (OwnI.cap O4) oM oM
                  have SZ := fun W (R : Rd W A5 dL) (S : Rd W A6 dL) => Syms_c (n := dN) (m := dN) R (OwnI.cap O5) S (OwnI.cap O6) dM dM
                  simp only [and_self, decide_true] at SY SZ
                  have WD := fun W (a : RowAt W A7 16 tN (fun k => uL (fT k))) (b : RowB W A8 tN fT) => Wides_c (c := c7) (d := c8) a b HA.out HT8.out
                  refine (S1 _ hg E1.is).mono ?_; rintro e w_32 ⟨rfl, g⟩
                  clear c_k18_0 c_k18_1 c_k22_0 c_k22_1 c_k24_0 c_k24_1 c_k26_0 c_k26_1 c_k28_0 c_k28_1
                  replace hg := hg.keep g
                  replace TW := TW.keep g
                  replace RL := RL.keep g
                  replace RV := RV.keep g
                  replace k18 := k18.keep g
                  replace RB := RB.keep g
                  replace O3 := O3.keep g
                  replace E1 := E1.keep g
                  replace k22 := k22.keep g
                  replace O4 := O4.keep g
                  replace k24 := k24.keep g
                  replace O5 := O5.keep g
                  replace E2 := E2.keep g
                  replace k26 := k26.keep g
                  replace O6 := O6.keep g
                  replace k28 := k28.keep g
                  replace W7 := W7.keep g
                  replace E3 := E3.keep g
                  replace W8 := W8.keep g
                  have b_33 := bb b_31 g
                  clear b_31
                  clear g
                  have c_k18_0 := (Blk.cell k18 0).trans (show _ = some (.int .i64 N) from rfl)
                  have c_k18_1 := (Blk.cell k18 1).trans (show _ = some (.slice AL L.length C) from rfl)
                  have c_k22_0 := (Blk.cell k22 0).trans (show _ = some (.int .i64 oN) from rfl)
                  have c_k22_1 := (Blk.cell k22 1).trans (show _ = some (.slice A3 oL.length c3) from rfl)
                  have c_k24_0 := (Blk.cell k24 0).trans (show _ = some (.int .i64 oN) from rfl)
                  have c_k24_1 := (Blk.cell k24 1).trans (show _ = some (.slice A4 oL.length c4) from rfl)
                  have c_k26_0 := (Blk.cell k26 0).trans (show _ = some (.int .i64 dN) from rfl)
                  have c_k26_1 := (Blk.cell k26 1).trans (show _ = some (.slice A5 dL.length c5) from rfl)
                  have c_k28_0 := (Blk.cell k28 0).trans (show _ = some (.int .i64 dN) from rfl)
                  have c_k28_1 := (Blk.cell k28 1).trans (show _ = some (.slice A6 dL.length c6) from rfl)
                  go_wp2_with fail
                  refine (SY _ O3.rd O4.rd).mono ?_; rintro e w_34 ⟨rfl, g⟩
                  clear c_k18_0 c_k18_1 c_k22_0 c_k22_1 c_k24_0 c_k24_1 c_k26_0 c_k26_1 c_k28_0 c_k28_1
                  replace hg := hg.keep g
                  replace TW := TW.keep g
                  replace RL := RL.keep g
                  replace RV := RV.keep g
                  replace k18 := k18.keep g
                  replace RB := RB.keep g
                  replace O3 := O3.keep g
                  replace E1 := E1.keep g
                  replace k22 := k22.keep g
                  replace O4 := O4.keep g
                  replace k24 := k24.keep g
                  replace O5 := O5.keep g
                  replace E2 := E2.keep g
                  replace k26 := k26.keep g
                  replace O6 := O6.keep g
                  replace k28 := k28.keep g
                  replace W7 := W7.keep g
                  replace E3 := E3.keep g
                  replace W8 := W8.keep g
                  have b_35 := bb b_33 g
                  clear b_33
                  clear g
                  have c_k18_0 := (Blk.cell k18 0).trans (show _ = some (.int .i64 N) from rfl)
                  have c_k18_1 := (Blk.cell k18 1).trans (show _ = some (.slice AL L.length C) from rfl)
                  have c_k22_0 := (Blk.cell k22 0).trans (show _ = some (.int .i64 oN) from rfl)
                  have c_k22_1 := (Blk.cell k22 1).trans (show _ = some (.slice A3 oL.length c3) from rfl)
                  have c_k24_0 := (Blk.cell k24 0).trans (show _ = some (.int .i64 oN) from rfl)
                  have c_k24_1 := (Blk.cell k24 1).trans (show _ = some (.slice A4 oL.length c4) from rfl)
                  have c_k26_0 := (Blk.cell k26 0).trans (show _ = some (.int .i64 dN) from rfl)
                  have c_k26_1 := (Blk.cell k26 1).trans (show _ = some (.slice A5 dL.length c5) from rfl)
                  have c_k28_0 := (Blk.cell k28 0).trans (show _ = some (.int .i64 dN) from rfl)
                  have c_k28_1 := (Blk.cell k28 1).trans (show _ = some (.slice A6 dL.length c6) from rfl)
                  go_wp2_with fail
                  refine (S2 _ hg E2.is).mono ?_; rintro e w_36 ⟨rfl, g⟩
                  clear c_k18_0 c_k18_1 c_k22_0 c_k22_1 c_k24_0 c_k24_1 c_k26_0 c_k26_1 c_k28_0 c_k28_1
                  replace hg := hg.keep g
                  replace TW := TW.keep g
                  replace RL := RL.keep g
                  replace RV := RV.keep g
                  replace k18 := k18.keep g
                  replace RB := RB.keep g
                  replace O3 := O3.keep g
                  replace E1 := E1.keep g
                  replace k22 := k22.keep g
                  replace O4 := O4.keep g
                  replace k24 := k24.keep g
                  replace O5 := O5.keep g
                  replace E2 := E2.keep g
                  replace k26 := k26.keep g
                  replace O6 := O6.keep g
                  replace k28 := k28.keep g
                  replace W7 := W7.keep g
                  replace E3 := E3.keep g
                  replace W8 := W8.keep g
                  have b_37 := bb b_35 g
                  clear b_35
                  clear g
                  have c_k18_0 := (Blk.cell k18 0).trans (show _ = some (.int .i64 N) from rfl)
                  have c_k18_1 := (Blk.cell k18 1).trans (show _ = some (.slice AL L.length C) from rfl)
                  have c_k22_0 := (Blk.cell k22 0).trans (show _ = some (.int .i64 oN) from rfl)
                  have c_k22_1 := (Blk.cell k22 1).trans (show _ = some (.slice A3 oL.length c3) from rfl)
                  have c_k24_0 := (Blk.cell k24 0).trans (show _ = some (.int .i64 oN) from rfl)
                  have c_k24_1 := (Blk.cell k24 1).trans (show _ = some (.slice A4 oL.length c4) from rfl)
                  have c_k26_0 := (Blk.cell k26 0).trans (show _ = some (.int .i64 dN) from rfl)
                  have c_k26_1 := (Blk.cell k26 1).trans (show _ = some (.slice A5 dL.length c5) from rfl)
                  have c_k28_0 := (Blk.cell k28 0).trans (show _ = some (.int .i64 dN) from rfl)
                  have c_k28_1 := (Blk.cell k28 1).trans (show _ = some (.slice A6 dL.length c6) from rfl)
                  go_wp2_with fail
                  refine (SZ _ O5.rd O6.rd).mono ?_; rintro e w_38 ⟨rfl, g⟩
                  clear c_k18_0 c_k18_1 c_k22_0 c_k22_1 c_k24_0 c_k24_1 c_k26_0 c_k26_1 c_k28_0 c_k28_1
                  replace hg := hg.keep g
                  replace TW := TW.keep g
                  replace RL := RL.keep g
                  replace RV := RV.keep g
                  replace k18 := k18.keep g
                  replace RB := RB.keep g
                  replace O3 := O3.keep g
                  replace E1 := E1.keep g
                  replace k22 := k22.keep g
                  replace O4 := O4.keep g
                  replace k24 := k24.keep g
                  replace O5 := O5.keep g
                  replace E2 := E2.keep g
                  replace k26 := k26.keep g
                  replace O6 := O6.keep g
                  replace k28 := k28.keep g
                  replace W7 := W7.keep g
                  replace E3 := E3.keep g
                  replace W8 := W8.keep g
                  have b_39 := bb b_37 g
                  clear b_37
                  clear g
                  have c_k18_0 := (Blk.cell k18 0).trans (show _ = some (.int .i64 N) from rfl)
                  have c_k18_1 := (Blk.cell k18 1).trans (show _ = some (.slice AL L.length C) from rfl)
                  have c_k22_0 := (Blk.cell k22 0).trans (show _ = some (.int .i64 oN) from rfl)
                  have c_k22_1 := (Blk.cell k22 1).trans (show _ = some (.slice A3 oL.length c3) from rfl)
                  have c_k24_0 := (Blk.cell k24 0).trans (show _ = some (.int .i64 oN) from rfl)
                  have c_k24_1 := (Blk.cell k24 1).trans (show _ = some (.slice A4 oL.length c4) from rfl)
                  have c_k26_0 := (Blk.cell k26 0).trans (show _ = some (.int .i64 dN) from rfl)
                  have c_k26_1 := (Blk.cell k26 1).trans (show _ = some (.slice A5 dL.length c5) from rfl)
                  have c_k28_0 := (Blk.cell k28 0).trans (show _ = some (.int .i64 dN) from rfl)
                  have c_k28_1 := (Blk.cell k28 1).trans (show _ = some (.slice A6 dL.length c6) from rfl)
                  go_wp2_with fail
                  refine (S3 _ hg E3.is).mono ?_; rintro e w_40 ⟨rfl, g⟩
                  clear c_k18_0 c_k18_1 c_k22_0 c_k22_1 c_k24_0 c_k24_1 c_k26_0 c_k26_1 c_k28_0 c_k28_1
                  replace hg := hg.keep g
                  replace TW := TW.keep g
                  replace RL := RL.keep g
                  replace RV := RV.keep g
                  replace k18 := k18.keep g
                  replace RB := RB.keep g
                  replace O3 := O3.keep g
                  replace E1 := E1.keep g
                  replace k22 := k22.keep g
                  replace O4 := O4.keep g
                  replace k24 := k24.keep g
                  replace O5 := O5.keep g
                  replace E2 := E2.keep g
                  replace k26 := k26.keep g
                  replace O6 := O6.keep g
                  replace k28 := k28.keep g
                  replace W7 := W7.keep g
                  replace E3 := E3.keep g
                  replace W8 := W8.keep g
                  have b_41 := bb b_39 g
                  clear b_39
                  clear g
                  have c_k18_0 := (Blk.cell k18 0).trans (show _ = some (.int .i64 N) from rfl)
                  have c_k18_1 := (Blk.cell k18 1).trans (show _ = some (.slice AL L.length C) from rfl)
                  have c_k22_0 := (Blk.cell k22 0).trans (show _ = some (.int .i64 oN) from rfl)
                  have c_k22_1 := (Blk.cell k22 1).trans (show _ = some (.slice A3 oL.length c3) from rfl)
                  have c_k24_0 := (Blk.cell k24 0).trans (show _ = some (.int .i64 oN) from rfl)
                  have c_k24_1 := (Blk.cell k24 1).trans (show _ = some (.slice A4 oL.length c4) from rfl)
                  have c_k26_0 := (Blk.cell k26 0).trans (show _ = some (.int .i64 dN) from rfl)
                  have c_k26_1 := (Blk.cell k26 1).trans (show _ = some (.slice A5 dL.length c5) from rfl)
                  have c_k28_0 := (Blk.cell k28 0).trans (show _ = some (.int .i64 dN) from rfl)
                  have c_k28_1 := (Blk.cell k28 1).trans (show _ = some (.slice A6 dL.length c6) from rfl)
                  go_wp2_with fail
                  refine (WD _ W7 W8).mono ?_; rintro e w_42 ⟨rfl, g⟩
                  clear c_k18_0 c_k18_1 c_k22_0 c_k22_1 c_k24_0 c_k24_1 c_k26_0 c_k26_1 c_k28_0 c_k28_1
                  replace hg := hg.keep g
                  replace TW := TW.keep g
                  replace RL := RL.keep g
                  replace RV := RV.keep g
                  replace k18 := k18.keep g
                  replace RB := RB.keep g
                  replace O3 := O3.keep g
                  replace E1 := E1.keep g
                  replace k22 := k22.keep g
                  replace O4 := O4.keep g
                  replace k24 := k24.keep g
                  replace O5 := O5.keep g
                  replace E2 := E2.keep g
                  replace k26 := k26.keep g
                  replace O6 := O6.keep g
                  replace k28 := k28.keep g
                  replace W7 := W7.keep g
                  replace E3 := E3.keep g
                  replace W8 := W8.keep g
                  have b_43 := bb b_41 g
                  clear b_41
                  clear g
                  have c_k18_0 := (Blk.cell k18 0).trans (show _ = some (.int .i64 N) from rfl)
                  have c_k18_1 := (Blk.cell k18 1).trans (show _ = some (.slice AL L.length C) from rfl)
                  have c_k22_0 := (Blk.cell k22 0).trans (show _ = some (.int .i64 oN) from rfl)
                  have c_k22_1 := (Blk.cell k22 1).trans (show _ = some (.slice A3 oL.length c3) from rfl)
                  have c_k24_0 := (Blk.cell k24 0).trans (show _ = some (.int .i64 oN) from rfl)
                  have c_k24_1 := (Blk.cell k24 1).trans (show _ = some (.slice A4 oL.length c4) from rfl)
                  have c_k26_0 := (Blk.cell k26 0).trans (show _ = some (.int .i64 dN) from rfl)
                  have c_k26_1 := (Blk.cell k26 1).trans (show _ = some (.slice A5 dL.length c5) from rfl)
                  have c_k28_0 := (Blk.cell k28 0).trans (show _ = some (.int .i64 dN) from rfl)
                  have c_k28_1 := (Blk.cell k28 1).trans (show _ = some (.slice A6 dL.length c6) from rfl)
                  go_wp2_with fail
                  exact ⟨⟨r + 1, by omega, by go_num, TW, hg, RV, b_43⟩, by simp [intOf]; omega⟩
end Go.Proofs.YtfcandmhalhaeaaDoor.YSym
