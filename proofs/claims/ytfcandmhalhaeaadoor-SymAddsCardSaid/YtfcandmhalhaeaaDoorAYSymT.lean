/- Lean functions, contracts and lemmas that this claim needs. No condition. -/
import Derived.Test.YtfcandmhalhaeaaDoorAYSymO
import Derived.Test.YtfcandmhalhaeaaDoorAYWideW7
namespace Go.Proofs.YtfcandmhalhaeaaDoor.YSym
open Go.RowKit Go.Proofs.YtfcandmhalhaeaaDoor.YErr Go.Proofs.YtfcandmhalhaeaaDoor.YInv Go.Proofs.YtfcandmhalhaeaaDoor.YRef Go.Proofs.YtfcandmhalhaeaaDoor.YBits Go.Proofs.YtfcandmhalhaeaaDoor.YNum Go.Proofs.YtfcandmhalhaeaaDoor.QSy Go.Proofs.YtfcandmhalhaeaaDoor.YWide Go.Proofs.YtfcandmhalhaeaaDoorW.PrintWords Go.Proofs.YtfcandmhalhaeaaDoorW.PrintLast
set_option linter.unusedVariables false
set_option linter.unusedSimpArgs false
theorem inw_abs {x : Int} (h : x.natAbs ≤ 2 ^ 255) : InW x := by
  have h1 : (18446744073709551616 : Int) ^ 4 ≤ 18446744073709551616 ^ 16 := pw_le (by decide)
  have h2 : (18446744073709551616 : Int) ^ 4 = 2 * 2 ^ 255 := by decide
  unfold InW
  omega
theorem inw_1 {x : Int} (h : W64 x) : InW x := inw_abs (Nat.le_trans h.abs (by decide))
theorem inw_2 {x y : Int} (h : W64 x) (g : W64 y) : InW (x * y) := inw_abs (Nat.le_trans (abs_mul h.abs g.abs) (by decide))
theorem inw_3 {x y z : Int} (h : W64 x) (g : W64 y) (k : W64 z) : InW (x * (y * z)) := inw_abs (Nat.le_trans (abs_mul h.abs (abs_mul g.abs k.abs)) (by decide))
theorem inw_3' {x y z : Int} (h : W64 x) (g : W64 y) (k : W64 z) : InW (x * y * z) := by rw [Int.mul_assoc]; exact inw_3 h g k
theorem inw_s {u x y z : Int} (a : W64 u) (h : W64 x) (g : W64 y) (k : W64 z) : InW (u + x * (y * z)) := inw_abs (by
  have h1 := abs_mul h.abs (abs_mul g.abs k.abs)
  have h2 := a.abs
  have h3 := Int.natAbs_add_le u (x * (y * z))
  have h4 : 9223372036854775808 + 9223372036854775808 * (9223372036854775808 * 9223372036854775808) ≤ 2 ^ 255 := by decide
  omega)
theorem WMul_c {x y : Int} (hx : InW x) (hy : InW y) (hz : InW (x * y)) (w : World) : Calls Tryd.prog 52 #[.agg (U (lim x)), .agg (U (lim y))] w fun e w' => e = .returned (.tuple #[.agg (U (lim (x * y))), .bool true]) ∧ Below w.heap.size w w' := by
  have h := Mul_w hx hy w
  rwa [show cl (x * y) = x * y by unfold cl; rw [if_pos hz], decide_eq_true hz] at h
theorem WAdd_c {x y : Int} (hx : InW x) (hy : InW y) (hz : InW (x + y)) (w : World) : Calls Tryd.prog 42 #[.agg (U (lim x)), .agg (U (lim y))] w fun e w' => e = .returned (.tuple #[.agg (U (lim (x + y))), .bool true]) ∧ Below w.heap.size w w' := by
  have h := Add_c hx hy w
  rwa [show cl (x + y) = x + y by unfold cl; rw [if_pos hz], decide_eq_true hz] at h
theorem WOf_c {x : Int} (h : W64 x) (w : World) : Calls Tryd.prog 43 #[.int .i64 x] w fun e w' => e = .returned (.agg (U (lim x))) ∧ Below w.heap.size w w' := Of_c x h.1 h.2 w
theorem new1 {W w : World} (b : Below W.heap.size W w) (x : List Int) : ∀ w0 w', w0 = w.alloc (.cells #[.int .u64 0, .int .u64 0, .int .u64 0, .int .u64 0, .int .u64 0, .int .u64 0, .int .u64 0, .int .u64 0, .int .u64 0, .int .u64 0, .int .u64 0, .int .u64 0, .int .u64 0, .int .u64 0, .int .u64 0, .int .u64 0] 79) → w' = w0.setRow w.heap.size (U x) →
    Blk w0 w.heap.size (U zeros) 79 ∧ Blk w' w.heap.size (U x) 79 ∧ Below W.heap.size W w' ∧ ∀ g c T, Blk w g c T → Blk w' g c T := by
  rintro w0 w' rfl rfl
  have k : Blk (w.alloc (.cells #[.int .u64 0, .int .u64 0, .int .u64 0, .int .u64 0, .int .u64 0, .int .u64 0, .int .u64 0, .int .u64 0, .int .u64 0, .int .u64 0, .int .u64 0, .int .u64 0, .int .u64 0, .int .u64 0, .int .u64 0, .int .u64 0] 79)) w.heap.size (U zeros) 79 := Blk.new w (U zeros) 79
  exact ⟨k, put_ k, below_row (b.alloc b.size _) b.size _, fun g c T h => (setRow_other _ _ _ _ (Nat.ne_of_lt h.lt)).trans (Blk.alloc h _)⟩
set_option maxRecDepth 100000 in
set_option maxHeartbeats 16000000 in
theorem product_c {a b c : Int} (ha : W64 a) (hb : W64 b) (hc : W64 c) (w : World) : Calls Tryd.prog 44 #[.int .i64 a, .int .i64 b, .int .i64 c] w fun e w' => e = .returned (.agg (U (lim (a * b * c)))) ∧ Below w.heap.size w w' := by
  have OA := fun W => WOf_c ha W
  have OB := fun W => WOf_c hb W
  have OC := fun W => WOf_c hc W
  have M1 := fun W => WMul_c (inw_1 ha) (inw_1 hb) (inw_2 ha hb) W
  have M2 := fun W => WMul_c (inw_2 ha hb) (inw_1 hc) (inw_3' ha hb hc) W
  have la := lim_len (a * b)
  have lc := lim_len (a * b * c)
  generalize lim (a * b * c) = LC at *
  generalize lim (a * b) = LA at *
  have k0 := Blk.new w (U zeros) 79
  have b0 : Below w.heap.size w (w.alloc (.cells #[.int .u64 0, .int .u64 0, .int .u64 0, .int .u64 0, .int .u64 0, .int .u64 0, .int .u64 0, .int .u64 0, .int .u64 0, .int .u64 0, .int .u64 0, .int .u64 0, .int .u64 0, .int .u64 0, .int .u64 0, .int .u64 0] 79)) := (Below.refl _ _).alloc (Nat.le_refl _) _
  clear ha hb hc
  go_enter Tryd.func44, Tryd.ntmps44
  go_wp2_with fail
  refine (OA _).mono ?_; rintro e w1 ⟨rfl, g1⟩
  have b1 := bb b0 g1
  replace k0 := Blk.keep (show Blk _ _ _ _ from k0) g1
  go_wp2_with fail
  refine (OB _).mono ?_; rintro e w2 ⟨rfl, g2⟩
  have b2 := bb b1 g2
  replace k0 := k0.keep g2
  go_wp2_with fail
  refine (M1 _).mono ?_; rintro e w3 ⟨rfl, g3⟩
  have b3 := bb b2 g3
  replace k0 := k0.keep g3
  clear b0 b1 b2 g1 g2 g3 OA OB M1
  obtain ⟨t1, k1, b4, up⟩ := new1 b3 LA _ _ rfl rfl
  replace k0 := up _ _ _ k0
  clear up
  have z4 := b3.size
  go_wp2_with (with_reducible refine stW t1 zeros_len la _ _ (by with_unfolding_all rfl) (by with_unfolding_all rfl) (by with_unfolding_all rfl) (by with_unfolding_all rfl) ?_)
  generalize (w3.alloc (.cells #[.int .u64 0, .int .u64 0, .int .u64 0, .int .u64 0, .int .u64 0, .int .u64 0, .int .u64 0, .int .u64 0, .int .u64 0, .int .u64 0, .int .u64 0, .int .u64 0, .int .u64 0, .int .u64 0, .int .u64 0, .int .u64 0] 79)).setRow w3.heap.size (U LA) = w4 at *
  clear t1 b3
  refine region_vals (σ := Nat → Value) [some 20, some 21, some 22, some 23, some 19, some 24, some 25, some 9, none, some 10] (VQ [some (.agg (U LA)), some (.int .i64 c), some (.agg (U (lim c))), some (.tuple #[.agg (U LC), .bool true]), some (.tuple #[.agg (U LC), .bool true]), some (.agg (U LC)), some (.bool true), none, some (undef), some (.bool true)]) (fun L s wx => Below w4.heap.size w4 wx ∧ (L 7 = true → ∃ g, s 7 = .pointer (some ⟨g, 0, none⟩) ∧ w4.heap.size ≤ g ∧ (L 8 = false → Blk wx g (U zeros) 79) ∧ (L 8 = true → Blk wx g (U (LC)) 79)) ∧ (L 8 = true → L 7 = true)) (fun _ => undef) [0, 1, 2, 3, 4, 5, 6, 7, 8, 9] _ _ rfl (by kernel_rfl) (by kernel_rfl) (by kernel_rfl) (by kernel_rfl) (by kernel_rfl) ⟨(Below.refl _ _).drew, fun h => absurd h (by decide), fun h => absurd h (by decide)⟩ ?stepsP ?finP (fun L L' s wx e h => by rw [e 7 (by decide), e 8 (by decide)] at h; exact h)
  case stepsP =>
    refine VSteps.cons rfl (fun x L s wx K kn hL hp hI hK => ?_) ?_
    · have e7 : x[7]? = some (.pointer (some ⟨w3.heap.size, 0, none⟩)) := (kn.old 7 (by kernel_rfl)).trans rfl
      refine want_ rfl ?_
      obtain ⟨BW, A7, S7⟩ := hI
      exact wp_load_row 79 _ rfl w3.heap.size (ev_ e7) 79 (U LA) (0, 0) _ (Blk.keep k1 BW) Tryd.underlying79 rfl (ofLen la) (hK.out s _ (fun _ _ => rfl) ⟨BW, A7, S7⟩)
    refine VSteps.cons rfl (fun x L s wx K kn hL hp hI hK => ?_) ?_
    · have e2 : x[2]? = some (.int .i64 c) := (kn.old 2 (by kernel_rfl)).trans rfl
      refine want_ rfl ?_
      obtain ⟨BW, A7, S7⟩ := hI
      exact val_ (v := .int .i64 c) (by simp [go_sem, execOp, evr_, e2]) (hK.out s _ (fun _ _ => rfl) ⟨BW, A7, S7⟩)
    refine VSteps.cons rfl (fun x L s wx K kn hL hp hI hK => ?_) ?_
    · have e21 : x[21]? = some (.int .i64 c) := kn.got 1 21 (hp ⟨1, .data⟩ (by simp) rfl) rfl
      refine want_ rfl ?_
      obtain ⟨BW, A7, S7⟩ := hI
      refine goesK_ Tryd.func43 (by kernel_rfl) rfl #[.int .i64 c] rfl (by simp only [List.map_toArray, List.map_cons, List.map_nil, evr_, ev_ e21]) ((OC _).mono ?_)
      rintro e w' ⟨rfl, g⟩
      exact ⟨_, rfl, hK.out s _ (fun _ _ => rfl) ⟨bb BW g, fun h => by
        obtain ⟨g0, h1, h2, h3, h4⟩ := A7 h
        exact ⟨g0, h1, h2, fun k => (h3 k).keep g, fun k => (h4 k).keep g⟩, S7⟩⟩
    refine VSteps.cons rfl (fun x L s wx K kn hL hp hI hK => ?_) ?_
    · have e20 : x[20]? = some (.agg (U LA)) := kn.got 0 20 (hp ⟨0, .data⟩ (by simp) rfl) rfl
      have e22 : x[22]? = some (.agg (U (lim c))) := kn.got 2 22 (hp ⟨2, .data⟩ (by simp) rfl) rfl
      refine want_ rfl ?_
      obtain ⟨BW, A7, S7⟩ := hI
      refine goesK_ Tryd.func52 (by kernel_rfl) rfl #[.agg (U LA), .agg (U (lim c))] rfl (by simp only [List.map_toArray, List.map_cons, List.map_nil, evr_, ev_ e20, ev_ e22]) ((M2 _).mono ?_)
      rintro e w' ⟨rfl, g⟩
      exact ⟨_, rfl, hK.out s _ (fun _ _ => rfl) ⟨bb BW g, fun h => by
        obtain ⟨g0, h1, h2, h3, h4⟩ := A7 h
        exact ⟨g0, h1, h2, fun k => (h3 k).keep g, fun k => (h4 k).keep g⟩, S7⟩⟩
    refine VSteps.cons rfl (fun x L s wx K kn hL hp hI hK => ?_) ?_
    · have e23 : x[23]? = some (.tuple #[.agg (U LC), .bool true]) := kn.got 3 23 (hp ⟨3, .data⟩ (by simp) rfl) rfl
      refine want_ rfl ?_
      obtain ⟨BW, A7, S7⟩ := hI
      exact val_ (v := .tuple #[.agg (U LC), .bool true]) (by simp [go_sem, execOp, evr_, e23]) (hK.out s _ (fun _ _ => rfl) ⟨BW, A7, S7⟩)
    refine VSteps.cons rfl (fun x L s wx K kn hL hp hI hK => ?_) ?_
    · have e19 : x[19]? = some (.tuple #[.agg (U LC), .bool true]) := kn.got 4 19 (hp ⟨4, .data⟩ (by simp) rfl) rfl
      refine want_ rfl ?_
      obtain ⟨BW, A7, S7⟩ := hI
      exact val_ (v := .agg (U LC)) (by simp [go_sem, execOp, evr_, e19]) (hK.out s _ (fun _ _ => rfl) ⟨BW, A7, S7⟩)
    refine VSteps.cons rfl (fun x L s wx K kn hL hp hI hK => ?_) ?_
    · have e19 : x[19]? = some (.tuple #[.agg (U LC), .bool true]) := kn.got 4 19 (hp ⟨4, .data⟩ (by simp) rfl) rfl
      refine want_ rfl ?_
      obtain ⟨BW, A7, S7⟩ := hI
      exact val_ (v := .bool true) (by simp [go_sem, execOp, evr_, e19]) (hK.out s _ (fun _ _ => rfl) ⟨BW, A7, S7⟩)
    refine VSteps.cons rfl (fun x L s wx K kn hL hp hI hK => ?_) ?_
    · refine want_ rfl ?_
      obtain ⟨BW, A7, S7⟩ := hI
      have g : Below wx.heap.size wx (wx.alloc (.cells #[.int .u64 0, .int .u64 0, .int .u64 0, .int .u64 0, .int .u64 0, .int .u64 0, .int .u64 0, .int .u64 0, .int .u64 0, .int .u64 0, .int .u64 0, .int .u64 0, .int .u64 0, .int .u64 0, .int .u64 0, .int .u64 0] 79)) := (Below.refl _ _).alloc (Nat.le_refl _) _
      exact valw_ (v := .pointer (some ⟨wx.heap.size, 0, none⟩)) (w' := wx.alloc (.cells #[.int .u64 0, .int .u64 0, .int .u64 0, .int .u64 0, .int .u64 0, .int .u64 0, .int .u64 0, .int .u64 0, .int .u64 0, .int .u64 0, .int .u64 0, .int .u64 0, .int .u64 0, .int .u64 0, .int .u64 0, .int .u64 0] 79)) (by simp [go_sem, execOp, evr_]) (hK.out (updv s 7 (.pointer (some ⟨wx.heap.size, 0, none⟩))) _ (VQ_upd _ _ _ hL) ⟨bb BW g, fun _ => ⟨wx.heap.size, rfl, BW.size, fun _ => Blk.new _ _ _, fun h => absurd (S7 h) (by simp [hL])⟩, fun _ => by simp [YInv.up]⟩)
    refine VSteps.cons rfl (fun x L s wx K kn hL hp hI hK => ?_) ?_
    · have e9 : x[9]? = some (s 7) := kn.got 7 9 (hp ⟨7, .data⟩ (by simp) rfl) rfl
      have e24 : x[24]? = some (.agg (U LC)) := kn.got 5 24 (hp ⟨5, .data⟩ (by simp) rfl) rfl
      refine want_ rfl ?_
      obtain ⟨BW, A7, S7⟩ := hI
      obtain ⟨g0, h1, h2, h3, h4⟩ := A7 (hp ⟨7, .data⟩ (by simp) rfl)
      have kz := h3 hL
      rw [h1] at e9
      exact wp_store_row 79 _ _ rfl g0 (U (LC)) (ev_ e9) (ev_ e24) 79 (U zeros) kz (ofLen lc) (by rw [U_size, U_size, lc, zeros_len]) (one_cell _) (hK.out s _ (fun _ _ => rfl) ⟨below_row BW h2 _, fun _ => ⟨g0, h1, h2, fun h => absurd h (by simp [YInv.up]), fun _ => put_ kz⟩, fun _ => (hp ⟨7, .data⟩ (by simp) rfl)⟩)
    refine VSteps.cons rfl (fun x L s wx K kn hL hp hI hK => ?_) ?_
    · have e25 : x[25]? = some (.bool true) := kn.got 6 25 (hp ⟨6, .data⟩ (by simp) rfl) rfl
      refine want_ rfl ?_
      obtain ⟨BW, A7, S7⟩ := hI
      exact val_ (v := .bool true) (by simp [go_sem, execOp, evr_, e25]) (hK.out s _ (fun _ _ => rfl) ⟨BW, A7, S7⟩)
    exact VSteps.nil
  intro s wx hI
  simp only [puts, VQ, List.getD_cons_zero, List.getD_cons_succ, List.set_cons_zero, List.set_cons_succ]
  obtain ⟨BW, A7, S7⟩ := hI
  obtain ⟨g7, E7, Z7, -, k7⟩ := A7 rfl
  have K7 := k7 rfl
  clear S7 k7 A7
  rw [E7]
  have b5 := bb b4 BW
  replace k0 := k0.keep BW
  have z5 := b4.size
  go_wp2_with (first | (refine ldW K7 lc _ rfl rfl rfl ?_) | (refine stW k0 zeros_len lc _ _ rfl rfl rfl rfl ?_))
  exact bodyPost_ret (res1 Tryd.results44 _ rfl (put_ k0) lc) rfl ⟨rfl, below_row b5 (by omega) _⟩
end Go.Proofs.YtfcandmhalhaeaaDoor.YSym
namespace Go.Proofs.YtfcandmhalhaeaaDoor.YSym
open Go.RowKit Go.Proofs.YtfcandmhalhaeaaDoor.YErr Go.Proofs.YtfcandmhalhaeaaDoor.YInv Go.Proofs.YtfcandmhalhaeaaDoor.YRef Go.Proofs.YtfcandmhalhaeaaDoor.YBits Go.Proofs.YtfcandmhalhaeaaDoor.YNum Go.Proofs.YtfcandmhalhaeaaDoor.QSy Go.Proofs.YtfcandmhalhaeaaDoor.YWide Go.Proofs.YtfcandmhalhaeaaDoorW.PrintWords Go.Proofs.YtfcandmhalhaeaaDoorW.PrintLast
set_option linter.unusedVariables false
set_option linter.unusedSimpArgs false
theorem inE_nil {n : Int} {l : List Int} : inE n l [] = if rightB n l = true then 0 else 23 := by unfold inE; simp
set_option maxRecDepth 100000 in
set_option maxHeartbeats 16000000 in
theorem SOuter_c {n : Int} {w : World} {A B : Option Addr} {c d : Nat} {l h : List Int} (R : Rd w A l) (hc : l.length ≤ c) (hl : l.length ≤ 1000) (RH : Rd w B h) (hh : h.length ≤ 100) (wh : ∀ x ∈ h, W64 x) (xw : Int) (wx64 : W64 xw) :
    Calls Tryd.prog 24 #[.agg #[.int .i64 n, .slice A l.length c], .int .i64 xw, .slice B h.length d] w fun e w' => SymEnd w (genN n l (decide ((h.length : Int) = n)) (outF n.toNat l xw h)) (genL n l (decide ((h.length : Int) = n)) (outF n.toNat l xw h)) (genE n l (decide ((h.length : Int) = n)) (outF n.toNat l xw h)) e w' := by
  have k0 := ((Blk.new w #[.int .i64 n, .slice A l.length c] 24).alloc (.cells #[.int .i64 0, .slice none 0 0] 24))
  have k1 : Blk ((w.alloc (.cells #[.int .i64 n, .slice A l.length c] 24)).alloc (.cells #[.int .i64 0, .slice none 0 0] 24)) (w.heap.size + 1) #[.int .i64 0, .slice none 0 0] 24 := by
    have := (Blk.new (w.alloc (.cells #[.int .i64 n, .slice A l.length c] 24)) #[.int .i64 0, .slice none 0 0] 24)
    simpa using this
  have b0 : Below w.heap.size w ((w.alloc (.cells #[.int .i64 n, .slice A l.length c] 24)).alloc (.cells #[.int .i64 0, .slice none 0 0] 24)) := (((Below.refl _ _).alloc (Nat.le_refl _) _).alloc (by simp) _)
  have hs0 : w.heap.size + 2 ≤ ((w.alloc (.cells #[.int .i64 n, .slice A l.length c] 24)).alloc (.cells #[.int .i64 0, .slice none 0 0] 24)).heap.size := by simp
  have IN := in_c (n := n) (B := none) (d := 0) (q := []) (R.keep b0) hc hl (Rd.nil _ _) (by decide)
  replace R := R.keep b0
  have BD23 := fun W => bad_c 23 (by decide) W
  have BD21 := fun W => bad_c 21 (by decide) W
  generalize hgd : decide ((h.length : Int) = n) = gd
  rw [inE_nil] at IN
  go_enter Tryd.func24, Tryd.ntmps24
  go_wp2_with fail
  refine IN.mono ?_; rintro e w1 ⟨ve, rfl, hve, g1⟩
  replace R := R.keep g1
  have b1 := bb b0 g1
  have hs1 := Nat.le_trans hs0 g1.size
  replace k0 := k0.keep g1
  replace k1 := k1.keep g1
  replace hve := hve.mono hs0
  have z0 := (k1.cell 0).trans (show _ = some (.int .i64 0) from rfl)
  have z1 := (k1.cell 1).trans (show _ = some (.slice none 0 0) from rfl)
  have y0 := k1.free 0
  have y1 := k1.free 1
  have c0 := (k0.cell 0).trans (show _ = some (.int .i64 n) from rfl)
  have c1 := (k0.cell 1).trans (show _ = some (.slice A l.length c) from rfl)
  have t0 := k0.free 0
  have t1 := k0.free 1
  clear IN g1 b0 hs0
  cases hr : rightB n l with
  | false =>
    have HE := Lib.hid (gen_23 (f := outF n.toNat l xw h) (g := gd) (.inl hr))
    have HB := Lib.hid (gen_bad HE.out (by decide))
    rw [hr, if_neg (by decide)] at hve
    obtain ⟨a, rfl⟩ := hve.is.some (by decide)
    clear R hr hgd
    go_wp2_with fail
    refine bodyPost_ret (v := .tuple #[.agg #[.int .i64 0, .slice none 0 0], .iface 131 (.pointer (some a))]) ?_ rfl ?_
    · rw [results_cell_tmp rfl]
      go_simp
    · rw [HB.out.1, HB.out.2, HE.out]
      have P := put2 (.int .i64 0) (.slice none 0 0) k1 b1 (by omega)
      exact ⟨none, 0, _, rfl, OwnI.nil _ _, (P.err hve (by omega)).mono (by omega), P.below⟩
  | true =>
    rw [hr, if_pos rfl] at hve
    obtain rfl := hve.none
    clear hve
    have HR := Lib.hid hr
    by_cases hn : (h.length : Int) = n
    case neg =>
      have HE := Lib.hid (gen_23 (n := n) (l := l) (f := outF n.toNat l xw h) (g := gd) (.inr (by rw [← hgd]; exact decide_eq_false hn)))
      have HB := Lib.hid (gen_bad HE.out (by decide))
      have e1 : ((h.length : Int) != n) = true := by simpa using hn
      clear R hr hgd hn
      go_wp2_with fail
      refine (BD23 _).mono ?_; rintro e w2 ⟨v, rfl, hv, g2⟩
      have b2 := bb b1 g2
      replace hv := hv.mono hs1
      replace k1 := k1.keep g2
      have z0 := (k1.cell 0).trans (show _ = some (.int .i64 0) from rfl)
      have z1 := (k1.cell 1).trans (show _ = some (.slice none 0 0) from rfl)
      have y0 := k1.free 0
      have y1 := k1.free 1
      go_wp2_with fail
      refine bodyPost_ret (v := .tuple #[.agg #[.int .i64 0, .slice none 0 0], v]) ?_ rfl ?_
      · rw [results_cell_tmp rfl]
        go_simp
      · rw [HB.out.1, HB.out.2, HE.out]
        have P := put2 (.int .i64 0) (.slice none 0 0) k1 b2 (by omega)
        exact ⟨none, 0, _, rfl, OwnI.nil _ _, (P.err hv (by omega)).mono (by omega), P.below⟩
    case pos =>
      obtain ⟨m, rfl, hm, hlen, hall⟩ := rightB_nat hr
      have e1 : ((h.length : Int) != (m : Int)) = false := by simpa using hn
      have G0 := fun (F : ∀ k, k < tri m → okE (outF m l xw h k) = true) => gen_0 (g := gd) hr (by rw [← hgd]; exact decide_eq_true hn) F
      have G21 := fun k (hk : k < tri m) F => gen_21 (f := outF m l xw h) (g := gd) (k := k) hr (by rw [← hgd]; exact decide_eq_true hn) hk F
      simp only [Int.toNat_natCast] at *
      have CP := clone_c (n := m) (c := c) R hl
      have HG0 := Lib.hid G0
      have HG21 := Lib.hid G21
      have HLN := Lib.hid hlen
      have HALL := Lib.hid hall
      have HWH := Lib.hid wh
      have hnm : h.length = m := by omega
      have HNM := Lib.hid hnm
      have HM := Lib.hid hm
      have mI : (m : Int) ≤ 8 := by omega
      have m0 : (0 : Int) ≤ (m : Int) := by omega
      have HRH := Lib.hid RH
      have HX := Lib.hid wx64
      clear hr hgd hn hnm hlen hall wh G0 G21 hm RH wx64 hh BD23
      go_wp2_with fail
      refine CP.mono ?_; rintro e w2 ⟨A', c', rfl, own, g2⟩
      have b2 : Below w.heap.size w w2 := bb b1 g2
      have ow : OwnI w2 (w.heap.size + 2) A' c' l := OwnI.mono own (by exact hs1)
      replace k0 := Blk.keep (show Blk _ _ _ _ by exact k0) g2
      replace k1 := Blk.keep (show Blk _ _ _ _ by exact k1) g2
      have c0 := (k0.cell 0).trans (show _ = some (.int .i64 (m : Int)) from rfl)
      have c1 := (k0.cell 1).trans (show _ = some (.slice A l.length c) from rfl)
      have t0 := k0.free 0
      have t1 := k0.free 1
      have P := put2 (.int .i64 m) (.slice A' l.length c') k0 b2 (by omega)
      have OI : OIn w ((w2.setCell ⟨w.heap.size, 0, none⟩ (.int .i64 m)).setCell ⟨w.heap.size, 1, none⟩ (.slice A' l.length c')) m l (outF m l xw h) A' c' 0 :=
        ⟨P.blk, P.oth k1 (by omega), by rw [curL_0]; exact P.own ow (ow.ne (by omega)), P.below, fun q hq => absurd hq (Nat.not_lt_zero _)⟩
      have HOI := Lib.hid OI
      clear own g2 CP k0 k1 b2 ow P OI z0 z1 y0 y1 R b1 hs1 hc
      go_wp2_with fail
      generalize (w2.setCell ⟨w.heap.size, 0, none⟩ (.int .i64 m)).setCell ⟨w.heap.size, 1, none⟩ (.slice A' l.length c') = W5 at *
      clear c0 c1 t0 t1
      go_loopw [33] (fun s33 wl => ∃ i : Nat, i ≤ m ∧ s33 = .int .i64 i ∧ OIn w wl m l (outF m l xw h) A' c' (pl m i i)) (fun s33 _ => m - (intOf s33).toNat)
      case atStart => exact ⟨0, Nat.zero_le _, rfl, by rw [pl_first]; exact HOI.out⟩
      case round =>
        obtain ⟨i, hi, rfl, OI⟩ := hrel
        have i0 : (0 : Int) ≤ (i : Int) := by omega
        by_cases him : i < m
        · have i1 : (i : Int) < (m : Int) := by omega
          have i2 : decide ((i : Int) < (m : Int)) = true := by simpa using him
          have HO := Lib.hid OI
          clear OI
          go_wp2_with fail
          clear i2
          go_loopw [10] (fun s10 wl => ∃ j : Nat, i ≤ j ∧ j ≤ m ∧ s10 = .int .i64 j ∧ OIn w wl m l (outF m l xw h) A' c' (pl m i j)) (fun s10 _ => m - (intOf s10).toNat)
          case atStart => exact ⟨i, Nat.le_refl _, hi, rfl, HO.out⟩
          case round =>
            clear HO
            obtain ⟨j, hij, hj, rfl, OI⟩ := hrel
            have j0 : (0 : Int) ≤ (j : Int) := by omega
            have q0 := (OI.k0.cell 0).trans (show _ = some (.int .i64 (m : Int)) from rfl)
            by_cases hjm : j < m
            · have j1 : (j : Int) < (m : Int) := by omega
              have j2 : decide ((j : Int) < (m : Int)) = true := by simpa using hjm
              have hp : pl m i j < tri m := pl_lt HM.out him hjm
              have hlen := HLN.out
              have hcl : (curL (outF m l xw h) l (pl m i j)).length = l.length := curL_len (by omega)
              have hcg : (curL (outF m l xw h) l (pl m i j)).getD (pl m i j) 0 = l.getD (pl m i j) 0 := curL_at (Nat.le_refl _)
              have hf := outF_at HM.out hij hjm l xw h
              have wl := getD_w (okl_w HALL.out) (pl m i j)
              have wi := getD_w HWH.out i
              have wj := getD_w HWH.out j
              have HNX := Lib.hid (pl_next m hij)
              have G21 := HG21.out (pl m i j) hp
              have PL := fun W => place_c HM.out (show i ≤ m by omega) (show j ≤ m by omega) W
              rcases OI.ow.form with ⟨_, _, e⟩ | ⟨g, rfl, hg, hg2, _, _⟩
              · rw [e] at hcl; simp at hcl; omega
              obtain ⟨gh, oh, rfl, HRC⟩ := (HRH.out.keep OI.b) (by have := HNM.out; omega)
              have ci := HRC i (by have := HNM.out; omega)
              have cj := HRC j (by have := HNM.out; omega)
              have i1' : (i : Int) < (h.length : Int) := by have := HNM.out; omega
              have j1' : (j : Int) < (h.length : Int) := by have := HNM.out; omega
              have hpl : pl m i j < l.length := by omega
              have p0 : (0 : Int) ≤ ((pl m i j : Nat) : Int) := by omega
              have p1 : ((pl m i j : Nat) : Int) < (l.length : Int) := by omega
              have cellp := OI.ow.at_ (i := pl m i j) (by rw [hcl]; exact hpl)
              rw [hcg] at cellp
              have freep := OI.ow.free (pl m i j)
              have q1 := (OI.k0.cell 1).trans (show _ = some (.slice (some ⟨g, 0, none⟩) l.length c') from rfl)
              clear HRC hcl hcg hlen
              generalize hv : outF m l xw h (pl m i j) = fv at *
              have HFV := Lib.hid hv
              clear hv
              generalize hp1 : pl m i (j + 1) = p' at *
              have HP1 := Lib.hid hp1
              clear hp1
              generalize pl m i j = p at *
              generalize l.getD p 0 = lp at *
              generalize h.getD i 0 = hi' at *
              generalize h.getD j 0 = hj' at *
              subst hf
              have OL := fun W => WOf_c wl W
              have PR := fun W => product_c HX.out wi wj W
              rw [Int.mul_assoc] at PR
              have AD := fun W => WAdd_c (inw_1 wl) (inw_3 HX.out wi wj) (inw_s wl HX.out wi wj) W
              have IW := fun W => Int64_w (inw_s wl HX.out wi wj) W
              have ls := lim_len (lp + xw * (hi' * hj'))
              have HO := Lib.hid OI
              clear OI wl wi wj
              go_wp2_with fail
              refine (PL _).mono ?_; rintro e w6 ⟨rfl, n6, rfl⟩
              have HO := Lib.hid (HO.out.keep (below_drewN (Below.refl _ _) n6))
              replace q0 : (wr.drewN n6).cell? ⟨w.heap.size, 0, none⟩ = some (.int .i64 (m : Int)) := q0
              replace q1 : (wr.drewN n6).cell? ⟨w.heap.size, 1, none⟩ = some (.slice (some ⟨g, 0, none⟩) l.length c') := q1
              replace ci : (wr.drewN n6).cell? ⟨gh, oh + i, none⟩ = some (.int .i64 hi') := ci
              replace cj : (wr.drewN n6).cell? ⟨gh, oh + j, none⟩ = some (.int .i64 hj') := cj
              replace cellp : (wr.drewN n6).cell? ⟨g, p, none⟩ = some (.int .i64 lp) := cellp
              replace freep : (wr.drewN n6).frozen? ⟨g, p, none⟩ = false := freep
              have hg3 : g < (wr.drewN n6).heap.size := hg2
              generalize wr.drewN n6 = w6 at *
              go_wp2_with fail
              refine region_vals (σ := Nat → Value) [some 49, some 50, some 51, some 52, some 53, some 54, some 55, some 56, some 57, some 58, some 59, some 60, some 61, some 62, some 63, some 64, some 65, some 48, some 66, some 67, some 12, none, some 13] (VQ [some (.pointer (some ⟨w.heap.size, 1, none⟩)), some (.slice (some ⟨g, 0, none⟩) l.length c'), some (.int .i64 (p : Int)), some (.pointer (some ⟨g, p, none⟩)), some (.int .i64 lp), some (.agg (U (lim lp))), some (.int .i64 xw), some (.slice (some ⟨gh, oh, none⟩) h.length d), some (.int .i64 (i : Int)), some (.pointer (some ⟨gh, oh + i, none⟩)), some (.int .i64 hi'), some (.slice (some ⟨gh, oh, none⟩) h.length d), some (.int .i64 (j : Int)), some (.pointer (some ⟨gh, oh + j, none⟩)), some (.int .i64 hj'), some (.agg (U (lim (xw * (hi' * hj'))))), some (.tuple #[.agg (U (lim (lp + xw * (hi' * hj')))), .bool true]), some (.tuple #[.agg (U (lim (lp + xw * (hi' * hj')))), .bool true]), some (.agg (U (lim (lp + xw * (hi' * hj'))))), some (.bool true), none, some (undef), some (.bool true)]) (fun L s wx => Below w6.heap.size w6 wx ∧ (L 20 = true → ∃ g, s 20 = .pointer (some ⟨g, 0, none⟩) ∧ w6.heap.size ≤ g ∧ (L 21 = false → Blk wx g (U zeros) 79) ∧ (L 21 = true → Blk wx g (U (lim (lp + xw * (hi' * hj')))) 79)) ∧ (L 21 = true → L 20 = true)) (fun _ => undef) [0, 1, 2, 3, 4, 5, 6, 7, 8, 9, 10, 11, 12, 13, 14, 15, 16, 17, 18, 19, 20, 21, 22] _ _ rfl (by kernel_rfl) (by kernel_rfl) (by kernel_rfl) (by kernel_rfl) (by kernel_rfl) ⟨(Below.refl _ _).drew, fun h => absurd h (by decide), fun h => absurd h (by decide)⟩ ?stepsA ?finA (fun L L' s wx e h => by rw [e 20 (by decide), e 21 (by decide)] at h; exact h)
              case stepsA =>
                refine VSteps.cons rfl (fun x L s wx K kn hL hp hI hK => ?_) ?_
                · have e3 : x[3]? = some (.pointer (some ⟨w.heap.size, 0, none⟩)) := (kn.old 3 (by kernel_rfl)).trans rfl
                  refine want_ rfl ?_
                  obtain ⟨BW, A20, S20⟩ := hI
                  exact val_ (v := .pointer (some ⟨w.heap.size, 1, none⟩)) (by simp [go_sem, execOp, evr_, e3, addr_add]) (hK.out s _ (fun _ _ => rfl) ⟨BW, A20, S20⟩)
                refine VSteps.cons rfl (fun x L s wx K kn hL hp hI hK => ?_) ?_
                · have e49 : x[49]? = some (.pointer (some ⟨w.heap.size, 1, none⟩)) := kn.got 0 49 (hp ⟨0, .data⟩ (by simp) rfl) rfl
                  refine want_ rfl ?_
                  obtain ⟨BW, A20, S20⟩ := hI
                  have cA := (BW.cell (lt_of_cell q1)).trans q1
                  exact valw_ (v := .slice (some ⟨g, 0, none⟩) l.length c') (w' := wx) (by simp [go_sem, execOp, evr_, e49, cA]) (hK.out s _ (fun _ _ => rfl) ⟨BW, A20, S20⟩)
                refine VSteps.cons rfl (fun x L s wx K kn hL hp hI hK => ?_) ?_
                · have e11 : x[11]? = some (.int .i64 (p : Int)) := (kn.old 11 (by kernel_rfl)).trans rfl
                  refine want_ rfl ?_
                  obtain ⟨BW, A20, S20⟩ := hI
                  exact val_ (v := .int .i64 (p : Int)) (by simp [go_sem, execOp, evr_, e11]) (hK.out s _ (fun _ _ => rfl) ⟨BW, A20, S20⟩)
                refine VSteps.cons rfl (fun x L s wx K kn hL hp hI hK => ?_) ?_
                · have e50 : x[50]? = some (.slice (some ⟨g, 0, none⟩) l.length c') := kn.got 1 50 (hp ⟨1, .data⟩ (by simp) rfl) rfl
                  have e51 : x[51]? = some (.int .i64 (p : Int)) := kn.got 2 51 (hp ⟨2, .data⟩ (by simp) rfl) rfl
                  refine want_ rfl ?_
                  obtain ⟨BW, A20, S20⟩ := hI
                  exact val_ (v := .pointer (some ⟨g, p, none⟩)) (by simp [go_sem, execOp, evr_, e50, e51, p0, p1, addr_add]) (hK.out s _ (fun _ _ => rfl) ⟨BW, A20, S20⟩)
                refine VSteps.cons rfl (fun x L s wx K kn hL hp hI hK => ?_) ?_
                · have e52 : x[52]? = some (.pointer (some ⟨g, p, none⟩)) := kn.got 3 52 (hp ⟨3, .data⟩ (by simp) rfl) rfl
                  refine want_ rfl ?_
                  obtain ⟨BW, A20, S20⟩ := hI
                  have cA := (BW.cell (lt_of_cell cellp)).trans cellp
                  exact valw_ (v := .int .i64 lp) (w' := wx) (by simp [go_sem, execOp, evr_, e52, cA]) (hK.out s _ (fun _ _ => rfl) ⟨BW, A20, S20⟩)
                refine VSteps.cons rfl (fun x L s wx K kn hL hp hI hK => ?_) ?_
                · have e53 : x[53]? = some (.int .i64 lp) := kn.got 4 53 (hp ⟨4, .data⟩ (by simp) rfl) rfl
                  refine want_ rfl ?_
                  obtain ⟨BW, A20, S20⟩ := hI
                  refine goesK_ Tryd.func43 (by kernel_rfl) rfl #[.int .i64 lp] rfl (by simp only [List.map_toArray, List.map_cons, List.map_nil, evr_, ev_ e53]) ((OL _).mono ?_)
                  rintro e w' ⟨rfl, g⟩
                  exact ⟨_, rfl, hK.out s _ (fun _ _ => rfl) ⟨bb BW g, fun h => by
                    obtain ⟨g0, h1, h2, h3, h4⟩ := A20 h
                    exact ⟨g0, h1, h2, fun k => (h3 k).keep g, fun k => (h4 k).keep g⟩, S20⟩⟩
                refine VSteps.cons rfl (fun x L s wx K kn hL hp hI hK => ?_) ?_
                · have e1 : x[1]? = some (.int .i64 xw) := (kn.old 1 (by kernel_rfl)).trans rfl
                  refine want_ rfl ?_
                  obtain ⟨BW, A20, S20⟩ := hI
                  exact val_ (v := .int .i64 xw) (by simp [go_sem, execOp, evr_, e1]) (hK.out s _ (fun _ _ => rfl) ⟨BW, A20, S20⟩)
                refine VSteps.cons rfl (fun x L s wx K kn hL hp hI hK => ?_) ?_
                · have e2 : x[2]? = some (.slice (some ⟨gh, oh, none⟩) h.length d) := (kn.old 2 (by kernel_rfl)).trans rfl
                  refine want_ rfl ?_
                  obtain ⟨BW, A20, S20⟩ := hI
                  exact val_ (v := .slice (some ⟨gh, oh, none⟩) h.length d) (by simp [go_sem, execOp, evr_, e2]) (hK.out s _ (fun _ _ => rfl) ⟨BW, A20, S20⟩)
                refine VSteps.cons rfl (fun x L s wx K kn hL hp hI hK => ?_) ?_
                · have e9 : x[9]? = some (.int .i64 (i : Int)) := (kn.old 9 (by kernel_rfl)).trans rfl
                  refine want_ rfl ?_
                  obtain ⟨BW, A20, S20⟩ := hI
                  exact val_ (v := .int .i64 (i : Int)) (by simp [go_sem, execOp, evr_, e9]) (hK.out s _ (fun _ _ => rfl) ⟨BW, A20, S20⟩)
                refine VSteps.cons rfl (fun x L s wx K kn hL hp hI hK => ?_) ?_
                · have e56 : x[56]? = some (.slice (some ⟨gh, oh, none⟩) h.length d) := kn.got 7 56 (hp ⟨7, .data⟩ (by simp) rfl) rfl
                  have e57 : x[57]? = some (.int .i64 (i : Int)) := kn.got 8 57 (hp ⟨8, .data⟩ (by simp) rfl) rfl
                  refine want_ rfl ?_
                  obtain ⟨BW, A20, S20⟩ := hI
                  exact val_ (v := .pointer (some ⟨gh, oh + i, none⟩)) (by simp [go_sem, execOp, evr_, e56, e57, i0, i1', addr_add]) (hK.out s _ (fun _ _ => rfl) ⟨BW, A20, S20⟩)
                refine VSteps.cons rfl (fun x L s wx K kn hL hp hI hK => ?_) ?_
                · have e58 : x[58]? = some (.pointer (some ⟨gh, oh + i, none⟩)) := kn.got 9 58 (hp ⟨9, .data⟩ (by simp) rfl) rfl
                  refine want_ rfl ?_
                  obtain ⟨BW, A20, S20⟩ := hI
                  have cA := (BW.cell (lt_of_cell ci)).trans ci
                  exact valw_ (v := .int .i64 hi') (w' := wx) (by simp [go_sem, execOp, evr_, e58, cA]) (hK.out s _ (fun _ _ => rfl) ⟨BW, A20, S20⟩)
                refine VSteps.cons rfl (fun x L s wx K kn hL hp hI hK => ?_) ?_
                · have e2 : x[2]? = some (.slice (some ⟨gh, oh, none⟩) h.length d) := (kn.old 2 (by kernel_rfl)).trans rfl
                  refine want_ rfl ?_
                  obtain ⟨BW, A20, S20⟩ := hI
                  exact val_ (v := .slice (some ⟨gh, oh, none⟩) h.length d) (by simp [go_sem, execOp, evr_, e2]) (hK.out s _ (fun _ _ => rfl) ⟨BW, A20, S20⟩)
                refine VSteps.cons rfl (fun x L s wx K kn hL hp hI hK => ?_) ?_
                · have e10 : x[10]? = some (.int .i64 (j : Int)) := (kn.old 10 (by kernel_rfl)).trans rfl
                  refine want_ rfl ?_
                  obtain ⟨BW, A20, S20⟩ := hI
                  exact val_ (v := .int .i64 (j : Int)) (by simp [go_sem, execOp, evr_, e10]) (hK.out s _ (fun _ _ => rfl) ⟨BW, A20, S20⟩)
                refine VSteps.cons rfl (fun x L s wx K kn hL hp hI hK => ?_) ?_
                · have e60 : x[60]? = some (.slice (some ⟨gh, oh, none⟩) h.length d) := kn.got 11 60 (hp ⟨11, .data⟩ (by simp) rfl) rfl
                  have e61 : x[61]? = some (.int .i64 (j : Int)) := kn.got 12 61 (hp ⟨12, .data⟩ (by simp) rfl) rfl
                  refine want_ rfl ?_
                  obtain ⟨BW, A20, S20⟩ := hI
                  exact val_ (v := .pointer (some ⟨gh, oh + j, none⟩)) (by simp [go_sem, execOp, evr_, e60, e61, j0, j1', addr_add]) (hK.out s _ (fun _ _ => rfl) ⟨BW, A20, S20⟩)
                refine VSteps.cons rfl (fun x L s wx K kn hL hp hI hK => ?_) ?_
                · have e62 : x[62]? = some (.pointer (some ⟨gh, oh + j, none⟩)) := kn.got 13 62 (hp ⟨13, .data⟩ (by simp) rfl) rfl
                  refine want_ rfl ?_
                  obtain ⟨BW, A20, S20⟩ := hI
                  have cA := (BW.cell (lt_of_cell cj)).trans cj
                  exact valw_ (v := .int .i64 hj') (w' := wx) (by simp [go_sem, execOp, evr_, e62, cA]) (hK.out s _ (fun _ _ => rfl) ⟨BW, A20, S20⟩)
                refine VSteps.cons rfl (fun x L s wx K kn hL hp hI hK => ?_) ?_
                · have e55 : x[55]? = some (.int .i64 xw) := kn.got 6 55 (hp ⟨6, .data⟩ (by simp) rfl) rfl
                  have e59 : x[59]? = some (.int .i64 hi') := kn.got 10 59 (hp ⟨10, .data⟩ (by simp) rfl) rfl
                  have e63 : x[63]? = some (.int .i64 hj') := kn.got 14 63 (hp ⟨14, .data⟩ (by simp) rfl) rfl
                  refine want_ rfl ?_
                  obtain ⟨BW, A20, S20⟩ := hI
                  refine goesK_ Tryd.func44 (by kernel_rfl) rfl #[.int .i64 xw, .int .i64 hi', .int .i64 hj'] rfl (by simp only [List.map_toArray, List.map_cons, List.map_nil, evr_, ev_ e55, ev_ e59, ev_ e63]) ((PR _).mono ?_)
                  rintro e w' ⟨rfl, g⟩
                  exact ⟨_, rfl, hK.out s _ (fun _ _ => rfl) ⟨bb BW g, fun h => by
                    obtain ⟨g0, h1, h2, h3, h4⟩ := A20 h
                    exact ⟨g0, h1, h2, fun k => (h3 k).keep g, fun k => (h4 k).keep g⟩, S20⟩⟩
                refine VSteps.cons rfl (fun x L s wx K kn hL hp hI hK => ?_) ?_
                · have e54 : x[54]? = some (.agg (U (lim lp))) := kn.got 5 54 (hp ⟨5, .data⟩ (by simp) rfl) rfl
                  have e64 : x[64]? = some (.agg (U (lim (xw * (hi' * hj'))))) := kn.got 15 64 (hp ⟨15, .data⟩ (by simp) rfl) rfl
                  refine want_ rfl ?_
                  obtain ⟨BW, A20, S20⟩ := hI
                  refine goesK_ Tryd.func42 (by kernel_rfl) rfl #[.agg (U (lim lp)), .agg (U (lim (xw * (hi' * hj'))))] rfl (by simp only [List.map_toArray, List.map_cons, List.map_nil, evr_, ev_ e54, ev_ e64]) ((AD _).mono ?_)
                  rintro e w' ⟨rfl, g⟩
                  exact ⟨_, rfl, hK.out s _ (fun _ _ => rfl) ⟨bb BW g, fun h => by
                    obtain ⟨g0, h1, h2, h3, h4⟩ := A20 h
                    exact ⟨g0, h1, h2, fun k => (h3 k).keep g, fun k => (h4 k).keep g⟩, S20⟩⟩
                refine VSteps.cons rfl (fun x L s wx K kn hL hp hI hK => ?_) ?_
                · have e65 : x[65]? = some (.tuple #[.agg (U (lim (lp + xw * (hi' * hj')))), .bool true]) := kn.got 16 65 (hp ⟨16, .data⟩ (by simp) rfl) rfl
                  refine want_ rfl ?_
                  obtain ⟨BW, A20, S20⟩ := hI
                  exact val_ (v := .tuple #[.agg (U (lim (lp + xw * (hi' * hj')))), .bool true]) (by simp [go_sem, execOp, evr_, e65]) (hK.out s _ (fun _ _ => rfl) ⟨BW, A20, S20⟩)
                refine VSteps.cons rfl (fun x L s wx K kn hL hp hI hK => ?_) ?_
                · have e48 : x[48]? = some (.tuple #[.agg (U (lim (lp + xw * (hi' * hj')))), .bool true]) := kn.got 17 48 (hp ⟨17, .data⟩ (by simp) rfl) rfl
                  refine want_ rfl ?_
                  obtain ⟨BW, A20, S20⟩ := hI
                  exact val_ (v := .agg (U (lim (lp + xw * (hi' * hj'))))) (by simp [go_sem, execOp, evr_, e48]) (hK.out s _ (fun _ _ => rfl) ⟨BW, A20, S20⟩)
                refine VSteps.cons rfl (fun x L s wx K kn hL hp hI hK => ?_) ?_
                · have e48 : x[48]? = some (.tuple #[.agg (U (lim (lp + xw * (hi' * hj')))), .bool true]) := kn.got 17 48 (hp ⟨17, .data⟩ (by simp) rfl) rfl
                  refine want_ rfl ?_
                  obtain ⟨BW, A20, S20⟩ := hI
                  exact val_ (v := .bool true) (by simp [go_sem, execOp, evr_, e48]) (hK.out s _ (fun _ _ => rfl) ⟨BW, A20, S20⟩)
                refine VSteps.cons rfl (fun x L s wx K kn hL hp hI hK => ?_) ?_
                · refine want_ rfl ?_
                  obtain ⟨BW, A20, S20⟩ := hI
                  have g : Below wx.heap.size wx (wx.alloc (.cells #[.int .u64 0, .int .u64 0, .int .u64 0, .int .u64 0, .int .u64 0, .int .u64 0, .int .u64 0, .int .u64 0, .int .u64 0, .int .u64 0, .int .u64 0, .int .u64 0, .int .u64 0, .int .u64 0, .int .u64 0, .int .u64 0] 79)) := (Below.refl _ _).alloc (Nat.le_refl _) _
                  exact valw_ (v := .pointer (some ⟨wx.heap.size, 0, none⟩)) (w' := wx.alloc (.cells #[.int .u64 0, .int .u64 0, .int .u64 0, .int .u64 0, .int .u64 0, .int .u64 0, .int .u64 0, .int .u64 0, .int .u64 0, .int .u64 0, .int .u64 0, .int .u64 0, .int .u64 0, .int .u64 0, .int .u64 0, .int .u64 0] 79)) (by simp [go_sem, execOp, evr_]) (hK.out (updv s 20 (.pointer (some ⟨wx.heap.size, 0, none⟩))) _ (VQ_upd _ _ _ hL) ⟨bb BW g, fun _ => ⟨wx.heap.size, rfl, BW.size, fun _ => Blk.new _ _ _, fun h => absurd (S20 h) (by simp [hL])⟩, fun _ => by simp [YInv.up]⟩)
                refine VSteps.cons rfl (fun x L s wx K kn hL hp hI hK => ?_) ?_
                · have e12 : x[12]? = some (s 20) := kn.got 20 12 (hp ⟨20, .data⟩ (by simp) rfl) rfl
                  have e66 : x[66]? = some (.agg (U (lim (lp + xw * (hi' * hj'))))) := kn.got 18 66 (hp ⟨18, .data⟩ (by simp) rfl) rfl
                  refine want_ rfl ?_
                  obtain ⟨BW, A20, S20⟩ := hI
                  obtain ⟨g0, h1, h2, h3, h4⟩ := A20 (hp ⟨20, .data⟩ (by simp) rfl)
                  have kz := h3 hL
                  rw [h1] at e12
                  exact wp_store_row 79 _ _ rfl g0 (U (lim (lp + xw * (hi' * hj')))) (ev_ e12) (ev_ e66) 79 (U zeros) kz (ofLen ls) (by rw [U_size, U_size, ls, zeros_len]) (one_cell _) (hK.out s _ (fun _ _ => rfl) ⟨below_row BW h2 _, fun _ => ⟨g0, h1, h2, fun h => absurd h (by simp [YInv.up]), fun _ => put_ kz⟩, fun _ => (hp ⟨20, .data⟩ (by simp) rfl)⟩)
                refine VSteps.cons rfl (fun x L s wx K kn hL hp hI hK => ?_) ?_
                · have e67 : x[67]? = some (.bool true) := kn.got 19 67 (hp ⟨19, .data⟩ (by simp) rfl) rfl
                  refine want_ rfl ?_
                  obtain ⟨BW, A20, S20⟩ := hI
                  exact val_ (v := .bool true) (by simp [go_sem, execOp, evr_, e67]) (hK.out s _ (fun _ _ => rfl) ⟨BW, A20, S20⟩)
                exact VSteps.nil
              intro s wx hI
              simp only [puts, VQ, List.getD_cons_zero, List.getD_cons_succ, List.set_cons_zero, List.set_cons_succ]
              obtain ⟨BW, A20, S20⟩ := hI
              obtain ⟨g20, E20, Z20, -, k20⟩ := A20 rfl
              have K20 := k20 rfl
              clear S20 k20 A20
              rw [E20]
              have OI := HO.out.keep BW
              have HO := Lib.hid OI
              clear HO OL PR AD E20
              go_wp2_with (with_reducible refine ldW K20 ls _ (by with_unfolding_all rfl) (by with_unfolding_all rfl) (by with_unfolding_all rfl) ?_)
              refine (IW _).mono ?_; rintro e w7 ⟨rfl, g7⟩
              have OI7 := OI.keep g7
              have qp := (g7.cell (lt_of_cell ((BW.cell (lt_of_cell cellp)).trans cellp))).trans ((BW.cell (lt_of_cell cellp)).trans cellp)
              have q1 := (g7.cell (lt_of_cell ((BW.cell (lt_of_cell q1)).trans q1))).trans ((BW.cell (lt_of_cell q1)).trans q1)
              have HS7 := Lib.hid (show w.heap.size + 2 ≤ w7.heap.size by have := OI7.b.size; have := OI7.k1.lt; omega)
              clear OI g7 IW K20 cellp ci cj q0
              generalize hsv : lp + xw * (hi' * hj') = sv at *
              cases hok : okE sv with
              | false =>
                have HE := Lib.hid (G21 hok)
                have HB := Lib.hid (gen_bad HE.out (by decide))
                have FT := fits_c sv
                rw [hok] at FT
                have k1 := OI7.k1
                have b1 := OI7.b
                clear G21 OI7
                by_cases hw : W64 sv
                · have e2 : fit64 sv = (sv, true) := by unfold fit64; exact if_pos hw
                  simp only [e2]
                  go_wp2_with fail
                  refine (FT _).mono ?_; rintro e w8 ⟨rfl, n8, rfl⟩
                  go_wp2_with fail
                  refine (BD21 _).mono ?_; rintro e w9 ⟨v, rfl, hv, g9⟩
                  have b9 := bb (by first | exact b1 | exact below_drewN b1 _) g9
                  replace hv := hv.mono (show w.heap.size + 2 ≤ _ from HS7.out)
                  replace k1 := Blk.keep (show Blk _ _ _ _ by exact k1) g9
                  have z0 := (k1.cell 0).trans (show _ = some (.int .i64 0) from rfl)
                  have z1 := (k1.cell 1).trans (show _ = some (.slice none 0 0) from rfl)
                  have y0 := k1.free 0
                  have y1 := k1.free 1
                  go_wp2_with fail
                  refine bodyPost_ret (v := .tuple #[.agg #[.int .i64 0, .slice none 0 0], v]) ?_ rfl ?_
                  · rw [results_cell_tmp rfl]
                    go_simp
                  · (try simp only [Int.toNat_natCast])
                    rw [HB.out.1, HB.out.2, HE.out]
                    have P := put2 (.int .i64 0) (.slice none 0 0) k1 b9 (by omega)
                    exact ⟨none, 0, _, rfl, OwnI.nil _ _, (P.err hv (by omega)).mono (by omega), P.below⟩
                · have e2 : fit64 sv = (0, false) := by unfold fit64; exact if_neg hw
                  simp only [e2]
                  go_wp2_with fail
                  refine (BD21 _).mono ?_; rintro e w9 ⟨v, rfl, hv, g9⟩
                  have b9 := bb (by first | exact b1 | exact below_drewN b1 _) g9
                  replace hv := hv.mono (show w.heap.size + 2 ≤ _ from HS7.out)
                  replace k1 := Blk.keep (show Blk _ _ _ _ by exact k1) g9
                  have z0 := (k1.cell 0).trans (show _ = some (.int .i64 0) from rfl)
                  have z1 := (k1.cell 1).trans (show _ = some (.slice none 0 0) from rfl)
                  have y0 := k1.free 0
                  have y1 := k1.free 1
                  go_wp2_with fail
                  refine bodyPost_ret (v := .tuple #[.agg #[.int .i64 0, .slice none 0 0], v]) ?_ rfl ?_
                  · rw [results_cell_tmp rfl]
                    go_simp
                  · (try simp only [Int.toNat_natCast])
                    rw [HB.out.1, HB.out.2, HE.out]
                    have P := put2 (.int .i64 0) (.slice none 0 0) k1 b9 (by omega)
                    exact ⟨none, 0, _, rfl, OwnI.nil _ _, (P.err hv (by omega)).mono (by omega), P.below⟩
              | true =>
                have w64 := okE_64 hok
                have e2 : fit64 sv = (sv, true) := by unfold fit64; exact if_pos w64
                simp only [e2]
                have FT := fits_c sv
                rw [hok] at FT
                have fz := OI7.ow.free p
                have OIf := OIn.store OI7 hpl (by rw [HFV.out]; exact hok)
                rw [HFV.out, ← HNX.out] at OIf
                have HOf := Lib.hid OIf
                clear OIf OI7 G21
                go_wp2_with fail
                refine (FT _).mono ?_; rintro e w8 ⟨rfl, n8, rfl⟩
                replace q1 : (w7.drewN n8).cell? ⟨w.heap.size, 1, none⟩ = some (.slice (some ⟨g, 0, none⟩) l.length c') := q1
                replace qp : (w7.drewN n8).cell? ⟨g, p, none⟩ = some (.int .i64 lp) := qp
                replace fz : (w7.drewN n8).frozen? ⟨g, p, none⟩ = false := fz
                have HO9 := Lib.hid (show OIn w ((w7.drewN n8).setCell ⟨g, p, none⟩ (.int .i64 sv)) m l (outF m l xw h) (some ⟨g, 0, none⟩) c' p' from OIn.keep (wx := w7.setCell ⟨g, p, none⟩ (.int .i64 sv)) (wy := (w7.drewN n8).setCell ⟨g, p, none⟩ (.int .i64 sv)) HOf.out (by exact below_drewN (Below.refl (w7.setCell ⟨g, p, none⟩ (.int .i64 sv)).heap.size (w7.setCell ⟨g, p, none⟩ (.int .i64 sv))) n8))
                go_wp2_with fail
                exact ⟨⟨j + 1, by omega, by omega, by go_num, by rw [HP1.out]; exact HO9.out⟩, by simp [intOf]; omega⟩
            · obtain rfl : j = m := by omega
              have j2 : decide ((j : Int) < (j : Int)) = false := by simp
              have HO := Lib.hid OI
              have HRW := Lib.hid (pl_row HM.out him)
              clear OI
              go_wp2_with fail
              exact ⟨⟨i + 1, by omega, by go_num, by rw [HRW.out]; exact HO.out⟩, by simp [intOf]; omega⟩
        · obtain rfl : i = m := by omega
          have i2 : decide ((i : Int) < (i : Int)) = false := by simp
          have HO := Lib.hid OI
          have k1 := OI.k1
          have b1 := OI.b
          have q0 := (OI.k0.cell 0).trans (show _ = some (.int .i64 (i : Int)) from rfl)
          have q1 := (OI.k0.cell 1).trans (show _ = some (.slice A' l.length c') from rfl)
          have z0 := (k1.cell 0).trans (show _ = some (.int .i64 0) from rfl)
          have z1 := (k1.cell 1).trans (show _ = some (.slice none 0 0) from rfl)
          have y0 := k1.free 0
          have y1 := k1.free 1
          clear OI
          go_wp2_with fail
          refine bodyPost_ret (v := .tuple #[.agg #[.int .i64 (i : Int), .slice A' l.length c'], .nilIface]) ?_ rfl ?_
          · rw [results_cell_tmp rfl]
            go_simp
          · (try simp only [Int.toNat_natCast])
            have OI := HO.out
            rw [pl_end HM.out, ← HLN.out] at OI
            obtain ⟨hE, hN, hL⟩ := HG0.out (fun q hq => OI.ok q (by rw [HLN.out]; exact hq))
            rw [hE, hN, hL]
            have ow := OI.ow
            rw [curL_end] at ow
            rw [← HLN.out]
            have P := put2 (.int .i64 (i : Int)) (.slice A' l.length c') k1 b1 (by omega)
            exact ⟨A', c', .nilIface, by simp, (P.own ow (ow.ne (by omega))).mono (by omega), ErrFrom.nil _ _ _, P.below⟩
end Go.Proofs.YtfcandmhalhaeaaDoor.YSym
namespace Go.Proofs.YtfcandmhalhaeaaDoor.YSym
open Go.RowKit Go.Proofs.YtfcandmhalhaeaaDoor.YErr Go.Proofs.YtfcandmhalhaeaaDoor.YInv Go.Proofs.YtfcandmhalhaeaaDoor.YRef Go.Proofs.YtfcandmhalhaeaaDoor.YBits Go.Proofs.YtfcandmhalhaeaaDoor.QSy Go.Proofs.YtfcandmhalhaeaaDoor.YWide Go.Proofs.YtfcandmhalhaeaaDoorW.PrintWords Go.Proofs.YtfcandmhalhaeaaDoorW.PrintLast
set_option linter.unusedVariables false
set_option linter.unusedSimpArgs false
set_option maxRecDepth 100000 in
set_option maxHeartbeats 16000000 in
theorem RDiag_c {n : Int} {w : World} {A : Option Addr} {c : Nat} {l : List Int} (R : Rd w A l) (hc : l.length ≤ c) (hl : l.length ≤ 1000) (xw : Int) (wx64 : W64 xw) :
    Calls Tryd.prog 29 #[.agg #[.int .i64 n, .slice A l.length c], .int .i64 xw] w fun e w' => RSymEnd w (genN n l true (diaF n.toNat l xw)) (genL n l true (diaF n.toNat l xw)) (genE n l true (diaF n.toNat l xw)) e w' := by
  have k0 := ((Blk.new w #[.int .i64 n, .slice A l.length c] 24).alloc (.cells #[.int .i64 0, .slice none 0 0] 24))
  have k1 : Blk ((w.alloc (.cells #[.int .i64 n, .slice A l.length c] 24)).alloc (.cells #[.int .i64 0, .slice none 0 0] 24)) (w.heap.size + 1) #[.int .i64 0, .slice none 0 0] 24 := by
    have := (Blk.new (w.alloc (.cells #[.int .i64 n, .slice A l.length c] 24)) #[.int .i64 0, .slice none 0 0] 24)
    simpa using this
  have b0 : Below w.heap.size w ((w.alloc (.cells #[.int .i64 n, .slice A l.length c] 24)).alloc (.cells #[.int .i64 0, .slice none 0 0] 24)) := (((Below.refl _ _).alloc (Nat.le_refl _) _).alloc (by simp) _)
  have hs0 : w.heap.size + 2 ≤ ((w.alloc (.cells #[.int .i64 n, .slice A l.length c] 24)).alloc (.cells #[.int .i64 0, .slice none 0 0] 24)).heap.size := by simp
  have SR := SymRight_c (n := n) (R.keep b0) hc hl
  replace R := R.keep b0
  go_enter Tryd.func29, Tryd.ntmps29
  go_wp2_with fail
  refine SR.mono ?_; rintro e w1 ⟨rfl, g1⟩
  replace R := R.keep g1
  have b1 := bb b0 g1
  have hs1 := Nat.le_trans hs0 g1.size
  replace k0 := k0.keep g1
  replace k1 := k1.keep g1
  have z0 := (k1.cell 0).trans (show _ = some (.int .i64 0) from rfl)
  have z1 := (k1.cell 1).trans (show _ = some (.slice none 0 0) from rfl)
  have y0 := k1.free 0
  have y1 := k1.free 1
  have c0 := (k0.cell 0).trans (show _ = some (.int .i64 n) from rfl)
  have c1 := (k0.cell 1).trans (show _ = some (.slice A l.length c) from rfl)
  have t0 := k0.free 0
  have t1 := k0.free 1
  clear SR g1 b0 hs0
  cases hr : rightB n l with
  | false =>
    have HE := Lib.hid (gen_23 (f := diaF n.toNat l xw) (g := true) (.inl hr))
    have HB := Lib.hid (gen_bad HE.out (by decide))
    clear R hr
    go_wp2_with fail
    refine bodyPost_ret (v := .tuple #[.agg #[.int .i64 0, .slice none 0 0], .int .i64 23]) ?_ rfl ?_
    · rw [results_cell_tmp rfl]
      go_simp
    · rw [HB.out.1, HB.out.2, HE.out]
      have P := put2 (.int .i64 0) (.slice none 0 0) k1 b1 (by omega)
      exact ⟨none, 0, rfl, OwnI.nil _ _, P.below⟩
  | true =>
    obtain ⟨m, rfl, hm, hlen, hall⟩ := rightB_nat hr
    have G0 := fun (F : ∀ k, k < tri m → okE (diaF m l xw k) = true) => gen_0 (g := true) hr rfl F
    have G21 := fun k (hk : k < tri m) F => gen_21 (f := diaF m l xw) (g := true) (k := k) hr rfl hk F
    simp only [Int.toNat_natCast] at *
    have CP := Copy_c (n := m) (c := c) R hl
    have HG0 := Lib.hid G0
    have HG21 := Lib.hid G21
    have HLN := Lib.hid hlen
    have HALL := Lib.hid hall
    have HM := Lib.hid hm
    have mI : (m : Int) ≤ 8 := by omega
    have m0 : (0 : Int) ≤ (m : Int) := by omega
    have HX := Lib.hid wx64
    clear hr hlen hall G0 G21 hm wx64
    go_wp2_with fail
    refine CP.mono ?_; rintro e w2 ⟨A', c', rfl, own, g2⟩
    have b2 : Below w.heap.size w w2 := bb b1 g2
    have ow : OwnI w2 (w.heap.size + 2) A' c' l := OwnI.mono own (by exact hs1)
    replace k0 := Blk.keep (show Blk _ _ _ _ by exact k0) g2
    replace k1 := Blk.keep (show Blk _ _ _ _ by exact k1) g2
    have c0 := (k0.cell 0).trans (show _ = some (.int .i64 (m : Int)) from rfl)
    have c1 := (k0.cell 1).trans (show _ = some (.slice A l.length c) from rfl)
    have t0 := k0.free 0
    have t1 := k0.free 1
    have P := put2 (.int .i64 m) (.slice A' l.length c') k0 b2 (by omega)
    have OI : OIn w ((w2.setCell ⟨w.heap.size, 0, none⟩ (.int .i64 m)).setCell ⟨w.heap.size, 1, none⟩ (.slice A' l.length c')) m l (diaF m l xw) A' c' 0 :=
      ⟨P.blk, P.oth k1 (by omega), by rw [curL_0]; exact P.own ow (ow.ne (by omega)), P.below, fun q hq => absurd hq (Nat.not_lt_zero _)⟩
    have HOI := Lib.hid OI
    clear own g2 CP k0 k1 b2 ow P OI z0 z1 y0 y1 R b1 hs1 hc
    go_wp2_with fail
    generalize (w2.setCell ⟨w.heap.size, 0, none⟩ (.int .i64 m)).setCell ⟨w.heap.size, 1, none⟩ (.slice A' l.length c') = W5 at *
    clear c0 c1 t0 t1
    go_loopw [6] (fun s6 wl => ∃ i : Nat, i ≤ m ∧ s6 = .int .i64 i ∧ OIn w wl m l (diaF m l xw) A' c' (pl m i i)) (fun s6 _ => m - (intOf s6).toNat)
    case atStart => exact ⟨0, Nat.zero_le _, rfl, by rw [pl_first]; exact HOI.out⟩
    case round =>
      obtain ⟨i, hi, rfl, OI⟩ := hrel
      have i0 : (0 : Int) ≤ (i : Int) := by omega
      have q0 := (OI.k0.cell 0).trans (show _ = some (.int .i64 (m : Int)) from rfl)
      by_cases him : i < m
      · have i1 : (i : Int) < (m : Int) := by omega
        have i2 : decide ((i : Int) < (m : Int)) = true := by simpa using him
        have hp : pl m i i < tri m := pl_lt HM.out him him
        have hlen := HLN.out
        have hcl : (curL (diaF m l xw) l (pl m i i)).length = l.length := curL_len (by omega)
        have hcg : (curL (diaF m l xw) l (pl m i i)).getD (pl m i i) 0 = l.getD (pl m i i) 0 := curL_at (Nat.le_refl _)
        have hf := diaF_at HM.out him l xw
        have wl := getD_w (okl_w HALL.out) (pl m i i)
        have HNX := Lib.hid fun wy (h : OIn w wy m l (diaF m l xw) A' c' (pl m i i + 1)) => h.dia HM.out him HLN.out HALL.out
        have G21 := HG21.out (pl m i i) hp
        have cap := OI.ow.cap
        rw [hcl] at cap
        have AT := fun W (g : Below wr.heap.size wr W) => At_c (c := c') (OI.ow.rd.keep g) (by rw [hcl]; exact cap) HM.out him him (by rw [hcl]; exact hlen)
        simp only [hcl, hcg] at AT
        have PL := fun W => at_c HM.out (show i ≤ m by omega) (show i ≤ m by omega) W
        rcases OI.ow.form with ⟨_, _, e⟩ | ⟨g, rfl, hg, hg2, _, _⟩
        · rw [e] at hcl; simp at hcl; omega
        have hpl : pl m i i < l.length := by omega
        have p0 : (0 : Int) ≤ ((pl m i i : Nat) : Int) := by omega
        have p1 : ((pl m i i : Nat) : Int) < (l.length : Int) := by omega
        have cellp := OI.ow.at_ (i := pl m i i) (by rw [hcl]; exact hpl)
        rw [hcg] at cellp
        have freep := OI.ow.free (pl m i i)
        have q1 := (OI.k0.cell 1).trans (show _ = some (.slice (some ⟨g, 0, none⟩) l.length c') from rfl)
        clear hcl hcg hlen cap
        generalize hv : diaF m l xw (pl m i i) = fv at *
        have HFV := Lib.hid hv
        clear hv
        generalize hp1 : pl m (i + 1) (i + 1) = p' at *
        have HP1 := Lib.hid hp1
        clear hp1
        generalize pl m i i = p at *
        generalize l.getD p 0 = lp at *
        subst hf
        have OL := fun W => ROf_c lp wl.1 wl.2 W
        have OX := fun W => ROf_c xw HX.out.1 HX.out.2 W
        have s1 := wl.small
        have s2 := HX.out.small
        have s7 : Small (lp + xw) := small_abs (by have := wl.abs; have := HX.out.abs; omega)
        have HO := Lib.hid OI
        clear OI wl
        go_wp2_with fail
        refine (AT _ (Below.refl _ _)).mono ?_; rintro e v1 ⟨rfl, h1⟩
        go_wp2_with fail
        refine (OL _).mono ?_; rintro e v2 ⟨u2, rfl, D2, h2⟩
        go_wp2_with fail
        refine (OX _).mono ?_; rintro e v3 ⟨u3, rfl, D3, h3⟩
        go_wp2_with fail
        refine (RAdd_c (D2.keep h3) D3 s1 s2).mono ?_; rintro e v4 ⟨u4, rfl, D4, h4⟩
        have BW := bb (bb (bb h1 h2) h3) h4
        obtain ⟨Av, cv, rfl, _, _⟩ := id D4
        have zz := BW.size
        have kz3 := Blk.new v4 #[.bool (sg (lp + xw)), .slice Av (mag (lp + xw)).length cv] 90
        have GA : Below v4.heap.size v4 (v4.alloc (.cells #[.bool (sg (lp + xw)), .slice Av (mag (lp + xw)).length cv] 90)) := (Below.refl v4.heap.size v4).alloc (Nat.le_refl _) _
        have D6 := D4.keep GA
        have B6 := bb BW GA
        clear D2 D3 D4 h1 h2 h3 h4 AT OL OX GA
        generalize sg (lp + xw) = sb at *
        generalize (mag (lp + xw)).length = ml at *
        have OI := HO.out.keep B6
        have HD6 := Lib.hid D6
        have HO7 := Lib.hid OI
        have HB6 := Lib.hid B6
        clear D6 B6 OI HO BW
        go_wp2_with fail
        generalize v4.alloc (.cells #[.bool sb, .slice Av ml cv] 90) = wx at *
        generalize v4.heap.size = g20 at *
        have FT := fun W (g : Below wx.heap.size wx W) => RFits_c (HD6.out.keep g) s7
        have r0 := (kz3.cell 0).trans (show _ = some (.bool sb) from rfl)
        have r1 := (kz3.cell 1).trans (show _ = some (.slice Av ml cv) from rfl)
        (try go_wp2_with fail)
        refine (FT _ (Below.refl _ _)).mono ?_; rintro e w7 ⟨rfl, g7⟩
        have OI7 := HO7.out.keep g7
        have K7 := kz3.keep g7
        have D7 := HD6.out.keep g7
        have r0 := (K7.cell 0).trans (show _ = some (.bool sb) from rfl)
        have r1 := (K7.cell 1).trans (show _ = some (.slice Av ml cv) from rfl)
        have BW := HB6.out
        have qp := (g7.cell (lt_of_cell ((BW.cell (lt_of_cell cellp)).trans cellp))).trans ((BW.cell (lt_of_cell cellp)).trans cellp)
        clear FT g7 kz3 cellp HO7 HD6 HB6 BW
        cases hok : okE (lp + xw) with
        | false =>
          have HE := Lib.hid (G21 hok)
          have HB := Lib.hid (gen_bad HE.out (by decide))
          have k1 := OI7.k1
          have b1 := OI7.b
          have z0 := (k1.cell 0).trans (show _ = some (.int .i64 0) from rfl)
          have z1 := (k1.cell 1).trans (show _ = some (.slice none 0 0) from rfl)
          have y0 := k1.free 0
          have y1 := k1.free 1
          clear OI7 G21
          go_wp2_with fail
          refine bodyPost_ret (v := .tuple #[.agg #[.int .i64 0, .slice none 0 0], .int .i64 21]) ?_ rfl ?_
          · rw [results_cell_tmp rfl]
            go_simp
          · (try simp only [Int.toNat_natCast])
            rw [HB.out.1, HB.out.2, HE.out]
            have P := put2 (.int .i64 0) (.slice none 0 0) k1 b1 (by omega)
            exact ⟨none, 0, rfl, OwnI.nil _ _, P.below⟩
        | true =>
          have w64 := okE_64 hok
          have I64 := fun W (g : Below w7.heap.size w7 W) => RInt64_c (D7.keep g) w64.1 w64.2
          have ST := fun W (g : Below w7.heap.size w7 W) => (OI7.keep g)
          have q0 := (OI7.k0.cell 0).trans (show _ = some (.int .i64 (m : Int)) from rfl)
          have q1 := (OI7.k0.cell 1).trans (show _ = some (.slice (some ⟨g, 0, none⟩) l.length c') from rfl)
          clear G21
          go_wp2_with fail
          go_region_held3 (fun w' => w'.cell? ⟨w.heap.size, 0, none⟩ = some (.int .i64 (m : Int)) ∧ w'.cell? ⟨w.heap.size, 1, none⟩ = some (.slice (some ⟨g, 0, none⟩) l.length c') ∧ w'.cell? ⟨g20, 0, none⟩ = some (.bool sb) ∧ w'.cell? ⟨g20, 1, none⟩ = some (.slice Av ml cv))
            (first | exact ⟨q0, q1, r0, r1⟩ | exact ⟨(g9.cell (lt_of_cell q0)).trans q0, (g9.cell (lt_of_cell q1)).trans q1, (g9.cell (lt_of_cell r0)).trans r0, (g9.cell (lt_of_cell r1)).trans r1⟩ | exact ⟨(World.cell?_setCell_far _ _ _ _ (by show g ≠ w.heap.size; omega)).trans ((g9.cell (lt_of_cell q0)).trans q0), (World.cell?_setCell_far _ _ _ _ (by show g ≠ w.heap.size; omega)).trans ((g9.cell (lt_of_cell q1)).trans q1), (World.cell?_setCell_far _ _ _ _ (by show g ≠ g20; omega)).trans ((g9.cell (lt_of_cell r0)).trans r0), (World.cell?_setCell_far _ _ _ _ (by show g ≠ g20; omega)).trans ((g9.cell (lt_of_cell r1)).trans r1)⟩)
            (first
              | (go_at_call 40; refine (PL _).mono ?_; rintro e w8 ⟨rfl, n8, rfl⟩)
              | (go_at_call 51; refine (I64 _ (by repeat (first | exact Below.refl _ _ | refine Below.drew ?_ | refine below_drewN ?_ _))).mono ?_; rintro e w9 ⟨rfl, g9⟩; have qz := (g9.cell (p := ⟨g, p, none⟩) (by exact lt_of_cell qp)).trans (by exact qp); have OI9 := ST _ (bb (by repeat (first | exact Below.refl _ _ | refine Below.drew ?_ | refine below_drewN ?_ _)) g9); have fz := OI9.ow.free p))
          have OIf := OIn.store OI9 hpl (by rw [HFV.out]; exact hok)
          rw [HFV.out] at OIf
          have HOf := Lib.hid (HNX.out _ OIf)
          clear OIf OI9 OI7 ST I64 PL q0 q1 r0 r1 qp qz fz
          generalize w9.setCell ⟨g, p, none⟩ (.int .i64 (lp + xw)) = W9 at *
          go_wp2_with fail
          exact ⟨⟨i + 1, by omega, by go_num, by rw [HP1.out]; exact HOf.out⟩, by simp [intOf]; omega⟩
      · obtain rfl : i = m := by omega
        have i2 : decide ((i : Int) < (i : Int)) = false := by simp
        have HO := Lib.hid OI
        have k1 := OI.k1
        have b1 := OI.b
        have q1 := (OI.k0.cell 1).trans (show _ = some (.slice A' l.length c') from rfl)
        have z0 := (k1.cell 0).trans (show _ = some (.int .i64 0) from rfl)
        have z1 := (k1.cell 1).trans (show _ = some (.slice none 0 0) from rfl)
        have y0 := k1.free 0
        have y1 := k1.free 1
        clear OI
        go_wp2_with fail
        refine bodyPost_ret (v := .tuple #[.agg #[.int .i64 (i : Int), .slice A' l.length c'], .int .i64 0]) ?_ rfl ?_
        · rw [results_cell_tmp rfl]
          go_simp
        · (try simp only [Int.toNat_natCast])
          have OI := HO.out
          rw [pl_end HM.out, ← HLN.out] at OI
          obtain ⟨hE, hN, hL⟩ := HG0.out (fun q hq => OI.ok q (by rw [HLN.out]; exact hq))
          rw [hE, hN, hL]
          have ow := OI.ow
          rw [curL_end] at ow
          rw [← HLN.out]
          have P := put2 (.int .i64 (i : Int)) (.slice A' l.length c') k1 b1 (by omega)
          exact ⟨A', c', by simp, (P.own ow (ow.ne (by omega))).mono (by omega), P.below⟩
end Go.Proofs.YtfcandmhalhaeaaDoor.YSym
namespace Go.Proofs.YtfcandmhalhaeaaDoor.YSym
open Go.RowKit Go.Proofs.YtfcandmhalhaeaaDoor.YErr Go.Proofs.YtfcandmhalhaeaaDoor.YInv Go.Proofs.YtfcandmhalhaeaaDoor.YRef Go.Proofs.YtfcandmhalhaeaaDoor.YBits Go.Proofs.YtfcandmhalhaeaaDoor.YNum Go.Proofs.YtfcandmhalhaeaaDoor.QSy Go.Proofs.YtfcandmhalhaeaaDoor.YWide Go.Proofs.YtfcandmhalhaeaaDoorW.PrintWords Go.Proofs.YtfcandmhalhaeaaDoorW.PrintLast
set_option linter.unusedVariables false
set_option linter.unusedSimpArgs false
set_option maxRecDepth 100000 in
set_option maxHeartbeats 16000000 in
theorem SDiag_c {n : Int} {w : World} {A : Option Addr} {c : Nat} {l : List Int} (R : Rd w A l) (hc : l.length ≤ c) (hl : l.length ≤ 1000) (xw : Int) (wx64 : W64 xw) :
    Calls Tryd.prog 25 #[.agg #[.int .i64 n, .slice A l.length c], .int .i64 xw] w fun e w' => SymEnd w (genN n l true (diaF n.toNat l xw)) (genL n l true (diaF n.toNat l xw)) (genE n l true (diaF n.toNat l xw)) e w' := by
  have k0 := ((Blk.new w #[.int .i64 n, .slice A l.length c] 24).alloc (.cells #[.int .i64 0, .slice none 0 0] 24))
  have k1 : Blk ((w.alloc (.cells #[.int .i64 n, .slice A l.length c] 24)).alloc (.cells #[.int .i64 0, .slice none 0 0] 24)) (w.heap.size + 1) #[.int .i64 0, .slice none 0 0] 24 := by
    have := (Blk.new (w.alloc (.cells #[.int .i64 n, .slice A l.length c] 24)) #[.int .i64 0, .slice none 0 0] 24)
    simpa using this
  have b0 : Below w.heap.size w ((w.alloc (.cells #[.int .i64 n, .slice A l.length c] 24)).alloc (.cells #[.int .i64 0, .slice none 0 0] 24)) := (((Below.refl _ _).alloc (Nat.le_refl _) _).alloc (by simp) _)
  have hs0 : w.heap.size + 2 ≤ ((w.alloc (.cells #[.int .i64 n, .slice A l.length c] 24)).alloc (.cells #[.int .i64 0, .slice none 0 0] 24)).heap.size := by simp
  have IN := in_c (n := n) (B := none) (d := 0) (q := []) (R.keep b0) hc hl (Rd.nil _ _) (by decide)
  replace R := R.keep b0
  have BD21 := fun W => bad_c 21 (by decide) W
  rw [inE_nil] at IN
  go_enter Tryd.func25, Tryd.ntmps25
  go_wp2_with fail
  refine IN.mono ?_; rintro e w1 ⟨ve, rfl, hve, g1⟩
  replace R := R.keep g1
  have b1 := bb b0 g1
  have hs1 := Nat.le_trans hs0 g1.size
  replace k0 := k0.keep g1
  replace k1 := k1.keep g1
  replace hve := hve.mono hs0
  have z0 := (k1.cell 0).trans (show _ = some (.int .i64 0) from rfl)
  have z1 := (k1.cell 1).trans (show _ = some (.slice none 0 0) from rfl)
  have y0 := k1.free 0
  have y1 := k1.free 1
  have c0 := (k0.cell 0).trans (show _ = some (.int .i64 n) from rfl)
  have c1 := (k0.cell 1).trans (show _ = some (.slice A l.length c) from rfl)
  have t0 := k0.free 0
  have t1 := k0.free 1
  clear IN g1 b0 hs0
  cases hr : rightB n l with
  | false =>
    have HE := Lib.hid (gen_23 (f := diaF n.toNat l xw) (g := true) (.inl hr))
    have HB := Lib.hid (gen_bad HE.out (by decide))
    rw [hr, if_neg (by decide)] at hve
    obtain ⟨a, rfl⟩ := hve.is.some (by decide)
    clear R hr
    go_wp2_with fail
    refine bodyPost_ret (v := .tuple #[.agg #[.int .i64 0, .slice none 0 0], .iface 131 (.pointer (some a))]) ?_ rfl ?_
    · rw [results_cell_tmp rfl]
      go_simp
    · rw [HB.out.1, HB.out.2, HE.out]
      have P := put2 (.int .i64 0) (.slice none 0 0) k1 b1 (by omega)
      exact ⟨none, 0, _, rfl, OwnI.nil _ _, (P.err hve (by omega)).mono (by omega), P.below⟩
  | true =>
      rw [hr, if_pos rfl] at hve
      obtain rfl := hve.none
      clear hve
      obtain ⟨m, rfl, hm, hlen, hall⟩ := rightB_nat hr
      have G0 := fun (F : ∀ k, k < tri m → okE (diaF m l xw k) = true) => gen_0 (g := true) hr rfl F
      have G21 := fun k (hk : k < tri m) F => gen_21 (f := diaF m l xw) (g := true) (k := k) hr rfl hk F
      simp only [Int.toNat_natCast] at *
      have CP := clone_c (n := m) (c := c) R hl
      have HG0 := Lib.hid G0
      have HG21 := Lib.hid G21
      have HLN := Lib.hid hlen
      have HALL := Lib.hid hall
      have HM := Lib.hid hm
      have mI : (m : Int) ≤ 8 := by omega
      have m0 : (0 : Int) ≤ (m : Int) := by omega
      have HX := Lib.hid wx64
      clear hr hlen hall G0 G21 hm wx64
      go_wp2_with fail
      refine CP.mono ?_; rintro e w2 ⟨A', c', rfl, own, g2⟩
      have b2 : Below w.heap.size w w2 := bb b1 g2
      have ow : OwnI w2 (w.heap.size + 2) A' c' l := OwnI.mono own (by exact hs1)
      replace k0 := Blk.keep (show Blk _ _ _ _ by exact k0) g2
      replace k1 := Blk.keep (show Blk _ _ _ _ by exact k1) g2
      have c0 := (k0.cell 0).trans (show _ = some (.int .i64 (m : Int)) from rfl)
      have c1 := (k0.cell 1).trans (show _ = some (.slice A l.length c) from rfl)
      have t0 := k0.free 0
      have t1 := k0.free 1
      have P := put2 (.int .i64 m) (.slice A' l.length c') k0 b2 (by omega)
      have OI : OIn w ((w2.setCell ⟨w.heap.size, 0, none⟩ (.int .i64 m)).setCell ⟨w.heap.size, 1, none⟩ (.slice A' l.length c')) m l (diaF m l xw) A' c' 0 :=
        ⟨P.blk, P.oth k1 (by omega), by rw [curL_0]; exact P.own ow (ow.ne (by omega)), P.below, fun q hq => absurd hq (Nat.not_lt_zero _)⟩
      have HOI := Lib.hid OI
      clear own g2 CP k0 k1 b2 ow P OI z0 z1 y0 y1 R b1 hs1 hc
      go_wp2_with fail
      generalize (w2.setCell ⟨w.heap.size, 0, none⟩ (.int .i64 m)).setCell ⟨w.heap.size, 1, none⟩ (.slice A' l.length c') = W5 at *
      clear c0 c1 t0 t1
      go_loopw [19] (fun s19 wl => ∃ i : Nat, i ≤ m ∧ s19 = .int .i64 i ∧ OIn w wl m l (diaF m l xw) A' c' (pl m i i)) (fun s19 _ => m - (intOf s19).toNat)
      case atStart => exact ⟨0, Nat.zero_le _, rfl, by rw [pl_first]; exact HOI.out⟩
      case round =>
        obtain ⟨i, hi, rfl, OI⟩ := hrel
        have i0 : (0 : Int) ≤ (i : Int) := by omega
        have q0 := (OI.k0.cell 0).trans (show _ = some (.int .i64 (m : Int)) from rfl)
        by_cases him : i < m
        · have i1 : (i : Int) < (m : Int) := by omega
          have i2 : decide ((i : Int) < (m : Int)) = true := by simpa using him
          have hp : pl m i i < tri m := pl_lt HM.out him him
          have hlen := HLN.out
          have hcl : (curL (diaF m l xw) l (pl m i i)).length = l.length := curL_len (by omega)
          have hcg : (curL (diaF m l xw) l (pl m i i)).getD (pl m i i) 0 = l.getD (pl m i i) 0 := curL_at (Nat.le_refl _)
          have hf := diaF_at HM.out him l xw
          have hpl : pl m i i < l.length := by omega
          have hb : -1073741824 ≤ l.getD (pl m i i) 0 ∧ l.getD (pl m i i) 0 ≤ 1073741824 := by
            rw [show l.getD (pl m i i) 0 = l[pl m i i] by simp [List.getD, hpl]]; exact HALL.out _ (List.getElem_mem hpl)
          have HNX := Lib.hid fun wy (h : OIn w wy m l (diaF m l xw) A' c' (pl m i i + 1)) => h.dia HM.out him HLN.out HALL.out
          have G21 := HG21.out (pl m i i) hp
          have PL := fun W => place_c HM.out (show i ≤ m by omega) (show i ≤ m by omega) W
          rcases OI.ow.form with ⟨_, _, e⟩ | ⟨g, rfl, hg, hg2, _, _⟩
          · rw [e] at hcl; simp at hcl; omega
          have p0 : (0 : Int) ≤ ((pl m i i : Nat) : Int) := by omega
          have p1 : ((pl m i i : Nat) : Int) < (l.length : Int) := by omega
          have cellp := OI.ow.at_ (i := pl m i i) (by rw [hcl]; exact hpl)
          rw [hcg] at cellp
          have freep := OI.ow.free (pl m i i)
          have q1 := (OI.k0.cell 1).trans (show _ = some (.slice (some ⟨g, 0, none⟩) l.length c') from rfl)
          have HS7 := Lib.hid (show w.heap.size + 2 ≤ wr.heap.size by have := OI.k1.lt; omega)
          have ST := Lib.hid fun (h : okE (diaF m l xw (pl m i i)) = true) => OIn.store OI hpl h
          clear hcl hcg hlen
          generalize hv : diaF m l xw (pl m i i) = fv at *
          have HFV := Lib.hid hv
          clear hv
          generalize hp1 : pl m (i + 1) (i + 1) = p' at *
          have HP1 := Lib.hid hp1
          clear hp1
          generalize pl m i i = p at *
          generalize l.getD p 0 = lp at *
          subst hf
          obtain ⟨hb0, hb1⟩ := hb
          have k1 := OI.k1
          have b1 := OI.b
          have x0 := HX.out.1
          have x1 := HX.out.2
          clear OI
          cases hok : okE (lp + xw) with
          | false =>
            have HE := Lib.hid (G21 hok)
            have HB := Lib.hid (gen_bad HE.out (by decide))
            have hx2 := okE_f hok
            clear ST hok G21
            by_cases h1 : 1073741824 - lp < xw
            · have d1 : decide (1073741824 - lp < xw) = true := by simpa using h1
              clear h1 hx2
              go_wp2_with fail
              refine (PL _).mono ?_; rintro e w8 ⟨rfl, n8, rfl⟩
              go_wp2_with fail
              refine (BD21 _).mono ?_; rintro e w9 ⟨v, rfl, hv, g9⟩
              have b9 := bb (by first | exact b1 | exact below_drewN b1 _) g9
              replace hv := hv.mono (show w.heap.size + 2 ≤ _ from HS7.out)
              replace k1 := Blk.keep (show Blk _ _ _ _ by exact k1) g9
              have z0 := (k1.cell 0).trans (show _ = some (.int .i64 0) from rfl)
              have z1 := (k1.cell 1).trans (show _ = some (.slice none 0 0) from rfl)
              have y0 := k1.free 0
              have y1 := k1.free 1
              go_wp2_with fail
              refine bodyPost_ret (v := .tuple #[.agg #[.int .i64 0, .slice none 0 0], v]) ?_ rfl ?_
              · rw [results_cell_tmp rfl]
                go_simp
              · (try simp only [Int.toNat_natCast])
                rw [HB.out.1, HB.out.2, HE.out]
                have P := put2 (.int .i64 0) (.slice none 0 0) k1 b9 (by omega)
                exact ⟨none, 0, _, rfl, OwnI.nil _ _, (P.err hv (by omega)).mono (by omega), P.below⟩
            · have d1 : decide (1073741824 - lp < xw) = false := by simpa using h1
              have d2 : decide (xw < -1073741824 - lp) = true := by simp; omega
              clear h1 hx2
              go_wp2_with fail
              refine (PL _).mono ?_; rintro e w8 ⟨rfl, n8, rfl⟩
              go_wp2_with fail
              refine (BD21 _).mono ?_; rintro e w9 ⟨v, rfl, hv, g9⟩
              have b9 := bb (by first | exact b1 | exact below_drewN b1 _) g9
              replace hv := hv.mono (show w.heap.size + 2 ≤ _ from HS7.out)
              replace k1 := Blk.keep (show Blk _ _ _ _ by exact k1) g9
              have z0 := (k1.cell 0).trans (show _ = some (.int .i64 0) from rfl)
              have z1 := (k1.cell 1).trans (show _ = some (.slice none 0 0) from rfl)
              have y0 := k1.free 0
              have y1 := k1.free 1
              go_wp2_with fail
              refine bodyPost_ret (v := .tuple #[.agg #[.int .i64 0, .slice none 0 0], v]) ?_ rfl ?_
              · rw [results_cell_tmp rfl]
                go_simp
              · (try simp only [Int.toNat_natCast])
                rw [HB.out.1, HB.out.2, HE.out]
                have P := put2 (.int .i64 0) (.slice none 0 0) k1 b9 (by omega)
                exact ⟨none, 0, _, rfl, OwnI.nil _ _, (P.err hv (by omega)).mono (by omega), P.below⟩
          | true =>
            have hx2 := okE_t hok
            have d1 : decide (1073741824 - lp < xw) = false := by simp; omega
            have d2 : decide (xw < -1073741824 - lp) = false := by simp; omega
            have OIf := ST.out hok
            have HOf := Lib.hid (HNX.out _ OIf)
            obtain ⟨hx3, hx4⟩ := hx2
            clear OIf ST G21 hok k1 b1
            go_wp2_with fail
            refine (PL _).mono ?_; rintro e w8 ⟨rfl, n8, rfl⟩
            have HO9 := Lib.hid (show OIn w ((wr.drewN n8).setCell ⟨g, p, none⟩ (.int .i64 (lp + xw))) m l (diaF m l xw) (some ⟨g, 0, none⟩) c' p' from OIn.keep (wx := wr.setCell ⟨g, p, none⟩ (.int .i64 (lp + xw))) (wy := (wr.drewN n8).setCell ⟨g, p, none⟩ (.int .i64 (lp + xw))) HOf.out (by exact below_drewN (Below.refl (wr.setCell ⟨g, p, none⟩ (.int .i64 (lp + xw))).heap.size (wr.setCell ⟨g, p, none⟩ (.int .i64 (lp + xw)))) n8))
            go_wp2_with fail
            exact ⟨⟨i + 1, by omega, by go_num, by rw [HP1.out]; exact HO9.out⟩, by simp [intOf]; omega⟩
        · obtain rfl : i = m := by omega
          have i2 : decide ((i : Int) < (i : Int)) = false := by simp
          have HO := Lib.hid OI
          have k1 := OI.k1
          have b1 := OI.b
          have q1 := (OI.k0.cell 1).trans (show _ = some (.slice A' l.length c') from rfl)
          have z0 := (k1.cell 0).trans (show _ = some (.int .i64 0) from rfl)
          have z1 := (k1.cell 1).trans (show _ = some (.slice none 0 0) from rfl)
          have y0 := k1.free 0
          have y1 := k1.free 1
          clear OI
          go_wp2_with fail
          refine bodyPost_ret (v := .tuple #[.agg #[.int .i64 (i : Int), .slice A' l.length c'], .nilIface]) ?_ rfl ?_
          · rw [results_cell_tmp rfl]
            go_simp
          · (try simp only [Int.toNat_natCast])
            have OI := HO.out
            rw [pl_end HM.out, ← HLN.out] at OI
            obtain ⟨hE, hN, hL⟩ := HG0.out (fun q hq => OI.ok q (by rw [HLN.out]; exact hq))
            rw [hE, hN, hL]
            have ow := OI.ow
            rw [curL_end] at ow
            rw [← HLN.out]
            have P := put2 (.int .i64 (i : Int)) (.slice A' l.length c') k1 b1 (by omega)
            exact ⟨A', c', .nilIface, by simp, (P.own ow (ow.ne (by omega))).mono (by omega), ErrFrom.nil _ _ _, P.below⟩
end Go.Proofs.YtfcandmhalhaeaaDoor.YSym
namespace Go.Proofs.YtfcandmhalhaeaaDoor.YSym
open Go.RowKit Go.Proofs.YtfcandmhalhaeaaDoor.YErr Go.Proofs.YtfcandmhalhaeaaDoor.YInv Go.Proofs.YtfcandmhalhaeaaDoor.YRef Go.Proofs.YtfcandmhalhaeaaDoor.YBits Go.Proofs.YtfcandmhalhaeaaDoor.YNum Go.Proofs.YtfcandmhalhaeaaDoor.QSy Go.Proofs.YtfcandmhalhaeaaDoor.YWide Go.Proofs.YtfcandmhalhaeaaDoorW.PrintWords Go.Proofs.YtfcandmhalhaeaaDoorW.PrintLast
set_option linter.unusedVariables false
set_option linter.unusedSimpArgs false
theorem Rd.blk {w : World} {g : Nat} {l : List Int} {T : TypeId} (k : Blk w g (l.map (Value.int .i64)).toArray T) : Rd w (some ⟨g, 0, none⟩) l := fun _ => ⟨_, _, rfl, fun i hi => by
  rw [Nat.zero_add, k.cell]
  simp [List.getD, hi]⟩
theorem kNew (W : World) : Calls Tryd.prog 18 #[.int .i64 2] W fun e w' => ∃ A c, e = .returned (.agg #[.int .i64 2, .slice A 3 c]) ∧ OwnI w' W.heap.size A c [0, 0, 0] ∧ Below W.heap.size W w' := New_c 2 W
theorem kOuter {W : World} {A : Option Addr} {c g : Nat} (R : Rd W A [0, 0, 0]) (hc : 3 ≤ c) (H : Rd W (some ⟨g, 0, none⟩) [1, -1]) : Calls Tryd.prog 24 #[.agg #[.int .i64 2, .slice A 3 c], .int .i64 3, .slice (some ⟨g, 0, none⟩) 2 2] W fun e w' => ∃ A c, e = .returned (.tuple #[.agg #[.int .i64 2, .slice A 3 c], .nilIface]) ∧ OwnI w' W.heap.size A c [3, -3, 3] ∧ Below W.heap.size W w' := by
  refine (SOuter_c (n := 2) (l := [0, 0, 0]) (h := [1, -1]) (d := 2) R hc (by decide) H (by decide) (by decide) 3 (by decide)).mono ?_
  rintro e w' ⟨A, c, v, rfl, own, hv, b⟩
  have e1 : genE 2 [0, 0, 0] (decide ((([1, -1] : List Int).length : Int) = 2)) (outF (2 : Int).toNat [0, 0, 0] 3 [1, -1]) = 0 := by decide +kernel
  have e2 : genN 2 [0, 0, 0] (decide ((([1, -1] : List Int).length : Int) = 2)) (outF (2 : Int).toNat [0, 0, 0] 3 [1, -1]) = 2 := by decide +kernel
  have e3 : genL 2 [0, 0, 0] (decide ((([1, -1] : List Int).length : Int) = 2)) (outF (2 : Int).toNat [0, 0, 0] 3 [1, -1]) = [3, -3, 3] := by decide +kernel
  rw [e1] at hv
  rw [e3] at own
  obtain rfl := hv.none
  exact ⟨A, c, by rw [e2, e3]; rfl, own, b⟩
theorem kAt0 {W : World} {A : Option Addr} {c : Nat} (R : Rd W A [3, -3, 3]) (hc : 3 ≤ c) : Calls Tryd.prog 12 #[.agg #[.int .i64 2, .slice A 3 c], .int .i64 1, .int .i64 0] W fun e w' => e = .returned (.tuple #[.int .i64 (-3), .nilIface]) ∧ Below W.heap.size W w' := by
  refine (SAt_c (n := 2) R hc (by decide) 1 0).mono ?_
  rintro e w' ⟨v, rfl, hv, b⟩
  have e1 : inE 2 [3, -3, 3] [1, 0] = 0 := by decide +kernel
  have e2 : atV 2 [3, -3, 3] 1 0 = -3 := by decide +kernel
  rw [e1] at hv
  obtain rfl := hv.none
  exact ⟨by rw [e2], b⟩
theorem kAt2 {W : World} {A : Option Addr} {c : Nat} (R : Rd W A [3, -3, 3]) (hc : 3 ≤ c) : Calls Tryd.prog 12 #[.agg #[.int .i64 2, .slice A 3 c], .int .i64 2, .int .i64 0] W fun e w' => ∃ v, e = .returned (.tuple #[.int .i64 0, v]) ∧ ErrIs op5 w' v 20 ∧ Below W.heap.size W w' := by
  refine (SAt_c (n := 2) R hc (by decide) 2 0).mono ?_
  rintro e w' ⟨v, rfl, hv, b⟩
  have e1 : inE 2 [3, -3, 3] [2, 0] = 20 := by decide +kernel
  have e2 : atV 2 [3, -3, 3] 2 0 = 0 := by decide +kernel
  rw [e1] at hv
  exact ⟨v, by rw [e2], hv.is, b⟩
theorem kInts {W : World} {A : Option Addr} {c g : Nat} (R : Rd W A [3, -3, 3]) (hc : 3 ≤ c) (H : Rd W (some ⟨g, 0, none⟩) [3, -3, 3]) : Calls Tryd.prog 33 #[.slice A 3 c, .slice (some ⟨g, 0, none⟩) 3 3] W fun e w' => e = .returned (.bool true) ∧ Below W.heap.size W w' := Ints_c (b := [3, -3, 3]) (d := 3) R hc H (by decide) (by decide) (by decide)
theorem kRight {W : World} {A : Option Addr} {c : Nat} (R : Rd W A [3, -3, 3]) (hc : 3 ≤ c) : Calls Tryd.prog 10 #[.agg #[.int .i64 2, .slice A 3 c]] W fun e w' => e = .returned (.bool true) ∧ Below W.heap.size W w' := by
  have := Right_c (n := 2) R hc (by decide)
  rwa [show rightB 2 [3, -3, 3] = true by decide +kernel] at this
theorem kRight1 (W : World) : Calls Tryd.prog 10 #[.agg #[.int .i64 1, .slice none 0 0]] W fun e w' => e = .returned (.bool false) ∧ Below W.heap.size W w' := by
  have := Right_c (n := 1) (A := none) (c := 0) (l := []) (Rd.nil W none) (by decide) (by decide)
  rwa [show rightB 1 [] = false by decide +kernel] at this
set_option maxRecDepth 100000 in
set_option maxHeartbeats 16000000 in
theorem known_c (w : World) (hg : Laid w) : Calls Tryd.prog 7 #[] w fun e w' => e = .returned (.bool true) ∧ Below w.heap.size w w' := by
  go_enter Tryd.func7, Tryd.ntmps7
  go_wp2_with fail
  refine (kNew _).mono ?_; rintro e w1 ⟨A, c, rfl, own, b1⟩
  have R1 := own.rd.keep ((Below.refl w1.heap.size w1).alloc (Nat.le_refl _) (.cells #[.int .i64 1, .int .i64 (-1)] 2))
  have hc := own.cap
  have H1 : Rd (w1.alloc (.cells #[.int .i64 1, .int .i64 (-1)] 2)) (some ⟨w1.heap.size, 0, none⟩) [1, -1] := Rd.blk (Blk.new w1 _ _)
  have b2 := b1.alloc b1.size (.cells #[.int .i64 1, .int .i64 (-1)] 2)
  go_wp2_with fail
  refine (kOuter R1 hc H1).mono ?_; rintro e w2 ⟨A2, c2, rfl, own2, b3⟩
  have b4 := bb b2 b3
  clear R1 hc H1 own b1 b2 b3
  have hc := own2.cap
  have kM := Blk.new w2 #[.int .i64 2, .slice A2 3 c2] 24
  have R2 := own2.rd.keep ((Below.refl w2.heap.size w2).alloc (Nat.le_refl _) (.cells #[.int .i64 2, .slice A2 3 c2] 24))
  have b5 := b4.alloc b4.size (.cells #[.int .i64 2, .slice A2 3 c2] 24)
  clear own2 b4
  go_wp2_with fail
  refine (kAt0 R2 hc).mono ?_; rintro e w3 ⟨rfl, b6⟩
  have b7 := bb b5 b6
  replace R2 := R2.keep b6
  replace kM := kM.keep b6
  have c0 := (kM.cell 0).trans (show _ = some (.int .i64 2) from rfl)
  have c1 := (kM.cell 1).trans (show _ = some (.slice A2 3 c2) from rfl)
  clear b5 b6
  go_wp2_with fail
  refine (kAt2 R2 hc).mono ?_; rintro e w4 ⟨v, rfl, hv, b8⟩
  have b9 := bb b7 b8
  replace R2 := R2.keep b8
  replace kM := kM.keep b8
  have SY := says5 20 w4 (hg.below b9) hv
  rw [show decide ((20 : Int) = 20) = true from rfl] at SY
  clear c0 c1 b7 b8
  go_wp2_with fail
  refine SY.mono ?_; rintro e w5 ⟨rfl, b10⟩
  have b11 := bb b9 b10
  replace R2 := (R2.keep b10)
  replace kM := kM.keep b10
  have c1' := (kM.cell 1).trans (show _ = some (.slice A2 3 c2) from rfl)
  have R3 := R2.keep ((Below.refl w5.heap.size w5).alloc (Nat.le_refl _) (.cells #[.int .i64 3, .int .i64 (-3), .int .i64 3] 2))
  have H3 : Rd (w5.alloc (.cells #[.int .i64 3, .int .i64 (-3), .int .i64 3] 2)) (some ⟨w5.heap.size, 0, none⟩) [3, -3, 3] := Rd.blk (Blk.new w5 _ _)
  have b12 := b11.alloc b11.size (.cells #[.int .i64 3, .int .i64 (-3), .int .i64 3] 2)
  replace kM := kM.alloc (.cells #[.int .i64 3, .int .i64 (-3), .int .i64 3] 2)
  have c1 := (kM.cell 1).trans (show _ = some (.slice A2 3 c2) from rfl)
  clear SY hv b9 b10 b11
  go_wp2_with fail
  refine (kInts R3 hc H3).mono ?_; rintro e w6 ⟨rfl, b13⟩
  have b14 := bb b12 b13
  replace R3 := R3.keep b13
  replace kM := kM.keep b13
  have c0 := (kM.cell 0).trans (show _ = some (.int .i64 2) from rfl)
  have c1 := (kM.cell 1).trans (show _ = some (.slice A2 3 c2) from rfl)
  clear b12 b13
  go_wp2_with fail
  refine (kRight R3 hc).mono ?_; rintro e w7 ⟨rfl, b15⟩
  have b16 := bb b14 b15
  go_wp2_with fail
  refine (kRight1 _).mono ?_; rintro e w8 ⟨rfl, b17⟩
  go_wp2_with fail
  go_ret
  exact ⟨rfl, bb b16 b17⟩
end Go.Proofs.YtfcandmhalhaeaaDoor.YSym
namespace Go.Proofs.YtfcandmhalhaeaaDoor.YSym
open Go.RowKit Go.Proofs.YtfcandmhalhaeaaDoor.YErr Go.Proofs.YtfcandmhalhaeaaDoor.YInv Go.Proofs.YtfcandmhalhaeaaDoor.YRef Go.Proofs.YtfcandmhalhaeaaDoor.YBits Go.Proofs.YtfcandmhalhaeaaDoor.YNum Go.Proofs.YtfcandmhalhaeaaDoor.QSy Go.Proofs.YtfcandmhalhaeaaDoor.YWide Go.Proofs.YtfcandmhalhaeaaDoorW.PrintWords Go.Proofs.YtfcandmhalhaeaaDoorW.PrintLast
set_option linter.unusedVariables false
set_option linter.unusedSimpArgs false
theorem gen_right {n : Int} {l : List Int} {g : Bool} {f : Nat → Int} (h : genE n l g f = 0) : genN n l g f = n ∧ rightB n (genL n l g f) = true := by
  have h' := h
  unfold genE at h'
  by_cases hr : rightB n l = true ∧ g = true
  · rw [if_pos hr] at h'
    obtain ⟨m, rfl, hm, hlen, _⟩ := rightB_nat hr.1
    by_cases hk : ∀ k, k < tri (m : Int).toNat → okE (f k) = true
    · refine ⟨by unfold genN; rw [if_pos h], ?_⟩
      unfold genL
      rw [if_pos h]
      refine rightB_of hm (by simp) (fun x hx => ?_)
      obtain ⟨k, hk1, rfl⟩ := List.mem_map.1 hx
      exact okE_t (hk k (List.mem_range.1 hk1))
    · rw [if_neg hk] at h'; cases h'
  · rw [if_neg hr] at h'; cases h'
theorem OwnI.ne_ty {w : World} {B c g : Nat} {A : Option Addr} {l : List Int} {cs : Array Value} (S : OwnI w B A c l) (k : Blk w g cs 24) : ∀ g', A = some ⟨g', 0, none⟩ → g ≠ g' := by
  intro g' e hgg
  subst hgg
  obtain ⟨h1, h2 | ⟨b, cap, cur, hv, hb, hw, r⟩⟩ := S
  · injection h2.1 with e1; rw [e1] at e; cases e
  · injection hv with e1
    rw [e1] at e
    injection e with e
    injection e with e
    subst e
    unfold Blk at k
    rw [k] at hw
    injection hw with hw
    injection hw with _ ht
    exact absurd ht (by decide)
theorem zeros_right {k : Nat} (h : k ≤ 8) : rightB k (List.replicate (tri k) 0) = true := rightB_of h (by simp) (fun x hx => by rw [List.eq_of_mem_replicate hx]; decide)
theorem dia_zero {k : Nat} (h : k ≤ 8) {d : Int} (h0 : 0 ≤ d) (h1 : d ≤ 5000) : genE k (List.replicate (tri k) 0) true (diaF (k : Int).toNat (List.replicate (tri k) 0) d) = 0 := by
  refine (gen_0 (zeros_right h) rfl (fun q hq => ?_)).1
  unfold diaF
  have : (List.replicate (tri k) (0 : Int)).getD q 0 = 0 := by simp only [List.getD_eq_getElem?_getD, List.getElem?_replicate]; split <;> rfl
  rw [this]
  split <;> (simp [okE]; try omega)
set_option maxRecDepth 100000 in
set_option maxHeartbeats 16000000 in
theorem seatSym_c {w : World} {B : Option Addr} {d : Nat} {hs : List Int} (n dg : Int) (k : Nat) (n0 : 0 ≤ n) (n1 : n ≤ 255) (hk : n % 7 = (k : Int)) (d0 : 0 ≤ dg) (d1 : dg ≤ 65535) (wh : ∀ x ∈ hs, -32768 ≤ x ∧ x ≤ 32767) (hl : hs.length ≤ 60)
    (RH : 0 < hs.length → ∃ b off, B = some ⟨b, off, none⟩ ∧ ∀ i, i < hs.length → w.cell? ⟨b, off + i, none⟩ = some (.int .i16 (hs.getD i 0))) :
    Calls Tryd.prog 9 #[.int .u8 n, .int .u16 dg, .slice B hs.length d] w fun e w' => ∃ A c l, e = .returned (.agg #[.int .i64 (k : Int), .slice A l.length c]) ∧ OwnI w' w.heap.size A c l ∧ rightB k l = true ∧ Below w.heap.size w w' := by
  have k6 : k ≤ 6 := by omega
  have kI : (k : Int) ≤ 6 := by omega
  have kP : (0 : Int) ≤ (k : Int) := by omega
  have hkt : Int.tmod n 7 = (k : Int) := by rw [Int.tmod_eq_emod_of_nonneg n0]; exact hk
  obtain ⟨q, hq⟩ : ∃ q, Int.tmod dg 5000 = q := ⟨_, rfl⟩
  have hqe : dg % 5000 = q := by rw [← hq, Int.tmod_eq_emod_of_nonneg d0]
  have q0 : 0 ≤ q := by omega
  have q1 : q ≤ 5000 := by omega
  have NW := fun W => SymNew_c (k : Int) W
  rw [clip_of (show k ≤ 8 by omega)] at NW
  have DG := fun (W : World) (A : Option Addr) (c : Nat) (R : Rd W A (List.replicate (tri k) 0)) (hc : (List.replicate (tri k) (0 : Int)).length ≤ c) => RDiag_c (n := (k : Int)) R hc (by have := tri_le (show k ≤ 8 by omega); simp; omega) q (by unfold W64; omega)
  have hE := dia_zero (show k ≤ 8 by omega) q0 q1
  have hGR := gen_right hE
  generalize hG : genL (k : Int) (List.replicate (tri k) 0) true (diaF (k : Int).toNat (List.replicate (tri k) 0) q) = G at *
  simp only [hE, hGR.1] at DG
  simp only [List.length_replicate] at NW DG
  have HGR := Lib.hid hGR.2
  have HK := Lib.hid hk
  have HWH := Lib.hid wh
  have HRH := Lib.hid RH
  have k0 := Blk.new w #[.int .i64 0, .slice none 0 0] 24
  have b0 : Below w.heap.size w (w.alloc (.cells #[.int .i64 0, .slice none 0 0] 24)) := (Below.refl _ _).alloc (Nat.le_refl _) _
  have s0 : w.heap.size + 1 ≤ (w.alloc (.cells #[.int .i64 0, .slice none 0 0] 24)).heap.size := by simp
  clear hG hE hGR wh RH
  go_enter Tryd.func9, Tryd.ntmps9
  go_wp2_with fail
  refine (NW _).mono ?_; rintro e w1 ⟨A1, c1, rfl, own1, g1⟩
  have b1 := bb b0 g1
  have s1 := Nat.le_trans s0 g1.size
  replace k0 := k0.keep g1
  go_wp2_with fail
  refine (DG _ _ _ own1.rd (by simpa using own1.cap)).mono ?_; rintro e w2 ⟨A2, c2, rfl, own2, g2⟩
  have b2 := bb b1 g2
  replace k0 := k0.keep g2
  have own2 := own2.mono s1
  have s2 := Nat.le_trans s1 g2.size
  clear own1 g1 g2 b0 b1 NW DG
  have k1 := Blk.new w2 #[.int .i64 (k : Int), .slice A2 G.length c2] 24
  have GA : Below w2.heap.size w2 (w2.alloc (.cells #[.int .i64 (k : Int), .slice A2 G.length c2] 24)) := (Below.refl _ _).alloc (Nat.le_refl _) _
  have b3 := bb b2 GA
  replace k0 := k0.keep GA
  replace own2 := own2.keep GA
  clear b2 GA
  go_wp2_with fail
  generalize w2.alloc (.cells #[.int .i64 (k : Int), .slice A2 G.length c2] 24) = w3 at *
  generalize w2.heap.size = p1 at *
  go_loopw [10] (fun s10 wl => ∃ (i : Nat) (A : Option Addr) (c : Nat) (l : List Int), i ≤ 30 ∧ s10 = .int .i64 i ∧ Blk wl w.heap.size #[.int .i64 0, .slice none 0 0] 24 ∧ Blk wl p1 #[.int .i64 (k : Int), .slice A l.length c] 24 ∧ OwnI wl (w.heap.size + 1) A c l ∧ rightB k l = true ∧ Below w.heap.size w wl) (fun s10 _ => 30 - (intOf s10).toNat)
  case atStart => exact ⟨0, A2, c2, G, by omega, rfl, k0, k1, own2, HGR.out, b3⟩
  case round =>
    clear k0 k1 own2 b3
    obtain ⟨i, A, c, l, hi, rfl, k0, k1, own, hr, b3⟩ := hrel
    have i0 : (0 : Int) ≤ (i : Int) := by omega
    have iB : (i : Int) ≤ 30 := by omega
    have c0 := (k1.cell 0).trans (show _ = some (.int .i64 (k : Int)) from rfl)
    have c1 := (k1.cell 1).trans (show _ = some (.slice A l.length c) from rfl)
    have t0 := k1.free 0
    have t1 := k1.free 1
    by_cases hgo : i + k ≤ hs.length ∧ 0 < k ∧ i < 4 * k
    · obtain ⟨g1, g2, g3⟩ := hgo
      have e1 : decide ((i : Int) + (k : Int) ≤ (hs.length : Int)) = true := by simp; omega
      have e2 : decide (0 < (k : Int)) = true := by simp; omega
      have e3 : decide ((i : Int) < 4 * (k : Int)) = true := by simp; omega
      have HO := Lib.hid own
      have HR := Lib.hid hr
      have HK0 := Lib.hid k0
      have HK1 := Lib.hid k1
      have HB := Lib.hid b3
      have HC := Lib.hid (And.intro c0 (And.intro c1 (And.intro t0 t1)))
      clear own hr k0 k1 b3 c0 c1 t0 t1
      go_wp2_with fail
      clear e1 e2 e3
      go_loopw [11, 12] (fun s11 s12 wl => ∃ (j : Nat) (hl : List Int), j ≤ k ∧ s12 = .int .i64 j ∧ hl.length = j ∧ (∀ x ∈ hl, W64 x) ∧ wl.ownsRow wr.heap.size 2 1 s11 j (hl.map (Value.int .i64)) ∧ Below wr.heap.size wr wl) (fun _ s12 _ => k - (intOf s12).toNat)
      case atStart => exact ⟨0, [], Nat.zero_le _, rfl, rfl, fun x h => (by cases h), World.ownsRow_nil _ _ _ _, Below.refl _ _⟩
      case round =>
        obtain ⟨j, h, hj, rfl, hjl, wj, ownh, bh⟩ := hrel
        have j0 : (0 : Int) ≤ (j : Int) := by omega
        by_cases hlt : j < k
        · have j1 : (j : Int) < (k : Int) := by omega
          have j2 : decide ((j : Int) < (k : Int)) = true := by simpa using hlt
          obtain ⟨gh, oh, rfl, HC2⟩ := HRH.out (by omega)
          have cx := HC2 (i + j) (by omega)
          have bx := bb HB.out bh
          have cy := (bx.cell (lt_of_cell cx)).trans cx
          have z0 : (0 : Int) ≤ (i : Int) + (j : Int) := by omega
          have z1 : (i : Int) + (j : Int) < (hs.length : Int) := by omega
          have z2 : ((i : Int) + (j : Int)).toNat = i + j := by omega
          have xb : -32768 ≤ hs.getD (i + j) 0 ∧ hs.getD (i + j) 0 ≤ 32767 := by
            rw [show hs.getD (i + j) 0 = hs[i + j]'(by omega) by simp [List.getD, show i + j < hs.length by omega]]; exact HWH.out _ (List.getElem_mem _)
          obtain ⟨x, hx⟩ : ∃ x, Int.tmod (hs.getD (i + j) 0) 200 = x := ⟨_, rfl⟩
          have x2 : -200 ≤ x ∧ x ≤ 200 := by
            rw [← hx]
            have h1 := Int.tmod_lt_of_pos (hs.getD (i + j) 0) (show (0 : Int) < 200 by decide)
            have h2 := Int.lt_tmod_of_pos (hs.getD (i + j) 0) (show (0 : Int) < 200 by decide)
            omega
          obtain ⟨x3, x4⟩ := x2
          clear HC2 cx bx
          generalize hs.getD (i + j) 0 = hv at *
          obtain ⟨xb0, xb1⟩ := xb
          obtain ⟨i0', hi0, hz0, hz1, hz2⟩ := info_parts infoI
          obtain ⟨Ah, ch, rfl⟩ := own_sl ownh
          have HOW := Lib.hid ownh
          have HBH := Lib.hid bh
          have HWJ := Lib.hid wj
          have HJL := Lib.hid hjl
          clear ownh bh wj hjl
          have KL := Blk.new wr #[.int .i64 x] 2
          have ownA := World.ownsRow.alloc HOW.out (.cells #[.int .i64 x] 2)
          have GA : Below wr.heap.size wr (wr.alloc (.cells #[.int .i64 x] 2)) := (Below.refl _ _).alloc (Nat.le_refl _) _
          have BA := bb HBH.out GA
          have HOA := Lib.hid ownA
          have HBA := Lib.hid BA
          clear GA BA ownA
          go_wp2_with (first
            | (at_builtin; refine wpList_append_own _ rfl (.tmp 51) (.tmp 60) 22 rfl _ 2 i0' (.int .i64 0) 1 8 Tryd.underlying22 hi0 hz0 hz1 hz2 rfl (by decide) (.slice Ah j ch) j (h.map (Value.int .i64)) rfl HOA.out ⟨wr.heap.size, 0, none⟩ 1 1 [.int .i64 x] rfl ?p1 ?p2 ?p3 ?p4 ?p5 ?p6 ?_)
            | go_in)
          case p1 => simp
          case p2 => intro jj u hu; match jj, hu with | 0, hu => simp at hu; subst hu; rw [addr_add]; exact KL.cell 0
          case p3 => intro u hu; simp at hu; subst hu; rfl
          case p4 => unfold maxLen; omega
          case p5 => omega
          case p6 => exact HBA.out.size
          intro v' w3' hown3 hgrow _
          have hb3 := HBA.out.grown hgrow HBA.out.size (fun k h => (World.ownsRow.lt HOA.out k h).1)
          have HOf := Lib.hid hown3
          have HBf := Lib.hid hb3
          clear hgrow hown3 hb3
          go_wp2_with fail
          exact ⟨⟨j + 1, h ++ [x], by omega, by go_num, by simp [HJL.out], fun y hy => by rcases List.mem_append.1 hy with hy | hy; exact HWJ.out y hy; simp at hy; subst hy; unfold W64; omega, by simpa using HOf.out, HBf.out⟩, by simp [intOf]; omega⟩
        · obtain rfl : j = k := by omega
          have j2 : decide ((j : Int) < (j : Int)) = false := by simp
          have own := HO.out.keep bh
          have k0 := HK0.out.keep bh
          have k1 := HK1.out.keep bh
          have b3 := bb HB.out bh
          obtain ⟨Ah, ch, rfl⟩ := own_sl ownh
          subst hjl
          have ownH : OwnI wr _ Ah ch h := ownh
          have RH := ownH.rd
          have capH := ownH.cap
          obtain ⟨xw, hxw⟩ : ∃ xw, (1 : Int) + (i : Int) % 3 = xw := ⟨_, rfl⟩
          have xw0 : W64 xw := by
            rw [← hxw]; unfold W64; omega
          have OU := fun W (g : Below wr.heap.size wr W) => ROuter_c (n := (h.length : Int)) (d := ch) (own.rd.keep g) own.cap (by obtain ⟨m, e, hm, hlen, _⟩ := rightB_nat HR.out; have := tri_le hm; omega) (RH.keep g) (by omega) wj xw xw0
          have e4 := gen_right (n := (h.length : Int)) (l := l) (g := decide ((h.length : Int) = (h.length : Int))) (f := outF (h.length : Int).toNat l xw h)
          generalize genE (h.length : Int) l (decide ((h.length : Int) = (h.length : Int))) (outF (h.length : Int).toNat l xw h) = ge at *
          generalize genN (h.length : Int) l (decide ((h.length : Int) = (h.length : Int))) (outF (h.length : Int).toNat l xw h) = gn at *
          generalize genL (h.length : Int) l (decide ((h.length : Int) = (h.length : Int))) (outF (h.length : Int).toNat l xw h) = gl at *
          have c0 := (k1.cell 0).trans (show _ = some (.int .i64 (h.length : Int)) from rfl)
          have c1 := (k1.cell 1).trans (show _ = some (.slice A l.length c) from rfl)
          have HE4 := Lib.hid e4
          clear e4 HO HK0 HK1 HB HC ownh ownH RH capH bh wj
          have HX := Lib.hid hxw
          clear hxw
          go_wp2_with fail
          rw [HX.out]
          refine (OU _ (Below.refl _ _)).mono ?_; rintro e w4 ⟨A4, c4, rfl, own4, g4⟩
          have s4 : w.heap.size + 1 ≤ wr.heap.size := by have := k1.lt; omega
          replace own4 := own4.mono s4
          have GA : Below w4.heap.size w4 (w4.alloc (.cells #[.int .i64 gn, .slice A4 gl.length c4] 24)) := (Below.refl _ _).alloc (Nat.le_refl _) _
          replace k0 := (k0.keep g4).keep GA
          replace k1 := (k1.keep g4).keep GA
          replace own := (own.keep g4).keep GA
          replace own4 := own4.keep GA
          have b5 := bb (bb b3 g4) GA
          have kb := Blk.new w4 #[.int .i64 gn, .slice A4 gl.length c4] 24
          have z0 := (k1.cell 0).trans (show _ = some (.int .i64 (h.length : Int)) from rfl)
          have z1 := (k1.cell 1).trans (show _ = some (.slice A l.length c) from rfl)
          have t0 := k1.free 0
          have t1 := k1.free 1
          clear OU g4 GA b3 c0 c1
          by_cases hz : ge = 0
          · obtain ⟨hN, hR4⟩ := HE4.out hz
            subst hz
            subst hN
            have HR4 := Lib.hid hR4
            clear hR4 HE4 own
            go_wp2_with fail
            have P := put2 (.int .i64 (h.length : Int)) (.slice A4 gl.length c4) k1 b5 (by omega)
            exact ⟨⟨i + h.length, A4, c4, gl, by omega, by go_num, P.oth k0 (by omega), P.blk, P.own own4 (own4.ne_ty k1), HR4.out, P.below⟩, by simp [intOf]; omega⟩
          · have e5 : (ge == 0) = false := by simpa using hz
            have HOW := Lib.hid own
            clear hz HE4 own own4
            go_wp2_with fail
            exact ⟨⟨i + h.length, A, c, l, by omega, by go_num, k0, k1, HOW.out, HR.out, b5⟩, by simp [intOf]; omega⟩
    · have HO := Lib.hid own
      have HR := Lib.hid hr
      have HB := Lib.hid b3
      have y0 := k0.free 0
      have y1 := k0.free 1
      have z0 := (k0.cell 0).trans (show _ = some (.int .i64 0) from rfl)
      have z1 := (k0.cell 1).trans (show _ = some (.slice none 0 0) from rfl)
      clear own hr b3
      by_cases h1 : i + k ≤ hs.length
      · have e1 : decide ((i : Int) + (k : Int) ≤ (hs.length : Int)) = true := by simp; omega
        by_cases h2 : 0 < k
        · have e2 : decide (0 < (k : Int)) = true := by simp; omega
          have e3 : decide ((i : Int) < 4 * (k : Int)) = false := by simp; omega
          clear hgo h1 h2
          go_wp2_with fail
          all_goals
            have P := put2 (.int .i64 (k : Int)) (.slice A l.length c) k0 HB.out (Nat.le_refl _)
            refine bodyPost_ret (v := .agg #[.int .i64 (k : Int), .slice A l.length c]) (results_cell_row rfl _ _ w.heap.size 24 _ (0, 0) _ rfl P.blk Tryd.underlying24 rfl info_sym) rfl ⟨A, c, l, rfl, (P.own HO.out (HO.out.ne (by omega))).mono (by omega), HR.out, P.below⟩
        · have e2 : decide (0 < (k : Int)) = false := by simp; omega
          clear hgo h1
          go_wp2_with fail
          have P := put2 (.int .i64 (k : Int)) (.slice A l.length c) k0 HB.out (Nat.le_refl _)
          refine bodyPost_ret (v := .agg #[.int .i64 (k : Int), .slice A l.length c]) (results_cell_row rfl _ _ w.heap.size 24 _ (0, 0) _ rfl P.blk Tryd.underlying24 rfl info_sym) rfl ⟨A, c, l, rfl, (P.own HO.out (HO.out.ne (by omega))).mono (by omega), HR.out, P.below⟩
      · have e1 : decide ((i : Int) + (k : Int) ≤ (hs.length : Int)) = false := by simp; omega
        clear hgo h1
        go_wp2_with fail
        have P := put2 (.int .i64 (k : Int)) (.slice A l.length c) k0 HB.out (Nat.le_refl _)
        refine bodyPost_ret (v := .agg #[.int .i64 (k : Int), .slice A l.length c]) (results_cell_row rfl _ _ w.heap.size 24 _ (0, 0) _ rfl P.blk Tryd.underlying24 rfl info_sym) rfl ⟨A, c, l, rfl, (P.own HO.out (HO.out.ne (by omega))).mono (by omega), HR.out, P.below⟩
end Go.Proofs.YtfcandmhalhaeaaDoor.YSym
