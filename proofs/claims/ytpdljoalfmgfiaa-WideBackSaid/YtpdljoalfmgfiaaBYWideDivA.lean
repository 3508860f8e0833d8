/- Lean functions, contracts and lemmas that this claim needs. No condition. -/
import Derived.Test.YtpdljoalfmgfiaaBYWideDiv
namespace Go.Proofs.Ytpdljoalfmgfiaa.YWide
open Go.RowKit Go.Proofs.Ytpdljoalfmgfiaa.YInv Go.Proofs.Ytpdljoalfmgfiaa.YErr Go.Proofs.Ytpdljoalfmgfiaa.YRef Go.Proofs.Ytpdljoalfmgfiaa.YNum Go.Proofs.Ytpdljoalfmgfiaa.YBits Go.Proofs.Ytpdljoalfmgfiaa.XCarry Go.Proofs.Ytpdljoalfmgfiaa.QWd Go.Proofs.YtpdljoalfmgfiaaW.PrintWords Go.Proofs.YtpdljoalfmgfiaaW.PrintLast
set_option linter.unusedVariables false
set_option linter.unusedSimpArgs false
theorem less_of_limbs {X Y : Int} (hx : 0 ≤ X) (hy0 : 0 < Y) (h : (limbs X).length < (limbs Y).length) : X < Y := by
  rcases Int.lt_or_le X Y with c | c
  · exact c
  · exfalso
    have h1 := len_limbs hx
    have h2 := limbs_len (n := Y) (limbs X).length (Int.lt_of_le_of_lt c h1)
    omega
set_option maxRecDepth 100000 in
set_option maxHeartbeats 32000000 in
theorem divide_z {X Y : Int} (hx : 0 ≤ X) (hx1 : X < 18446744073709551616 ^ 16) (hy0 : 0 < Y) (hy1 : Y < 18446744073709551616 ^ 16) (hlt : (limbs X).length < (limbs Y).length) (w : World) : Calls Try.prog 53 #[.agg (U (lim X)), .agg (U (lim Y))] w fun e w' => e = .returned (.tuple #[.agg (U (lim (X / Y))), .agg (U (lim (X % Y)))]) ∧ Below w.heap.size w w' := by
  have la := lim_len X
  have lb := lim_len Y
  have lz := lim_len 0
  have ly := limbs_lt16 hy1
  have hy := Int.le_of_lt hy0
  have XY := less_of_limbs hx hy0 hlt
  rw [Int.ediv_eq_zero_of_lt hx XY, Int.emod_eq_of_lt hx XY]
  clear XY
  obtain ⟨k0, k1, k2, k3, b0⟩ := start4 w (lim X) (lim Y) _ rfl
  go_enter Try.func53, Try.ntmps53
  go_wp2_with fail
  have N_k0 := k0.lt
  have N_k1 := k1.lt
  have N_k2 := k2.lt
  have N_k3 := k3.lt
  have ex : ((((w.alloc (.cells (U (lim X)) 27)).alloc (.cells (U (lim Y)) 27)).alloc (.cells #[.int .u64 0, .int .u64 0, .int .u64 0, .int .u64 0, .int .u64 0, .int .u64 0, .int .u64 0, .int .u64 0, .int .u64 0, .int .u64 0, .int .u64 0, .int .u64 0, .int .u64 0, .int .u64 0, .int .u64 0, .int .u64 0] 27)).alloc (.cells #[.int .u64 0, .int .u64 0, .int .u64 0, .int .u64 0, .int .u64 0, .int .u64 0, .int .u64 0, .int .u64 0, .int .u64 0, .int .u64 0, .int .u64 0, .int .u64 0, .int .u64 0, .int .u64 0, .int .u64 0, .int .u64 0] 27)) = ((((w.alloc (.cells (U (lim X)) 27)).alloc (.cells (U (lim Y)) 27)).alloc (.cells (U zeros) 27)).alloc (.cells (U zeros) 27)) := rfl
  rw [ex]
  clear ex
  generalize ((((w.alloc (.cells (U (lim X)) 27)).alloc (.cells (U (lim Y)) 27)).alloc (.cells (U zeros) 27)).alloc (.cells (U zeros) 27)) = w1 at *
  refine region_vals (σ := Nat → Nat) [some 16, some 17, some 18, some 19, some 6, some 7] (VO [some (.slice (some ⟨w.heap.size, 0, none⟩) 16 16), some (.int .i64 ((limbs X).length : Int)), some (.slice (some ⟨w.heap.size + 1, 0, none⟩) 16 16), some (.int .i64 ((limbs Y).length : Int)), some (.int .i64 ((limbs X).length : Int)), some (.int .i64 ((limbs Y).length : Int))]) (fun L s wx => Blk wx w.heap.size (U (lim X)) 27 ∧ Blk wx (w.heap.size + 1) (U (lim Y)) 27 ∧ Blk wx (w.heap.size + 1 + 1) (U (zeros)) 27 ∧ Blk wx (w.heap.size + 1 + 1 + 1) (U (zeros)) 27 ∧ w1.heap.size ≤ wx.heap.size ∧ Below w.heap.size w wx) (fun _ => 0) [0, 1, 2, 3, 4, 5] _ _ rfl (by kernel_rfl) (by kernel_rfl) (by kernel_rfl) (by kernel_rfl) (by kernel_rfl) ⟨k0.drew, k1.drew, k2.drew, k3.drew, Nat.le_refl _, b0.drew⟩ ?steps ?fin (fun L L' s wx e h => h)
  case steps =>
    refine VSteps.cons rfl (fun x L s wx K kn hL hp hI hK => ?_) ?_
    · have e2 : x[2]? = some (.pointer (some ⟨w.heap.size, 0, none⟩)) := (kn.old 2 (by kernel_rfl)).trans rfl
      refine want_ rfl ?_
      exact val_ (v := .slice (some ⟨w.heap.size, 0, none⟩) 16 16) (by simp [go_sem, execOp, evr_, e2]) (hK.out s _ (fun _ _ => rfl) hI)
    refine VSteps.cons rfl (fun x L s wx K kn hL hp hI hK => ?_) ?_
    · have e16 : x[16]? = some (.slice (some ⟨w.heap.size, 0, none⟩) 16 16) := kn.got 0 16 (hp ⟨0, .data⟩ (by simp) rfl) rfl
      refine want_ rfl ?_
      refine goesK_ Try.func44 (by kernel_rfl) rfl #[.slice (some ⟨w.heap.size, 0, none⟩) 16 16] rfl (by simp only [List.map_toArray, List.map_cons, List.map_nil, evr_, ev_ e16]) ((count_b hI.1 hx hx1).mono ?_)
      rintro e w' ⟨rfl, g⟩
      obtain ⟨Kk0, Kk1, Kk2, Kk3, B2, BW⟩ := hI
      exact ⟨_, rfl, hK.out s _ (fun _ _ => rfl) ⟨(Blk.keep Kk0 g), (Blk.keep Kk1 g), (Blk.keep Kk2 g), (Blk.keep Kk3 g), Nat.le_trans B2 g.size, bb BW g⟩⟩
    refine VSteps.cons rfl (fun x L s wx K kn hL hp hI hK => ?_) ?_
    · have e3 : x[3]? = some (.pointer (some ⟨(w.heap.size + 1), 0, none⟩)) := (kn.old 3 (by kernel_rfl)).trans rfl
      refine want_ rfl ?_
      exact val_ (v := .slice (some ⟨w.heap.size + 1, 0, none⟩) 16 16) (by simp [go_sem, execOp, evr_, e3]) (hK.out s _ (fun _ _ => rfl) hI)
    refine VSteps.cons rfl (fun x L s wx K kn hL hp hI hK => ?_) ?_
    · have e18 : x[18]? = some (.slice (some ⟨w.heap.size + 1, 0, none⟩) 16 16) := kn.got 2 18 (hp ⟨2, .data⟩ (by simp) rfl) rfl
      refine want_ rfl ?_
      refine goesK_ Try.func44 (by kernel_rfl) rfl #[.slice (some ⟨w.heap.size + 1, 0, none⟩) 16 16] rfl (by simp only [List.map_toArray, List.map_cons, List.map_nil, evr_, ev_ e18]) ((count_b hI.2.1 hy hy1).mono ?_)
      rintro e w' ⟨rfl, g⟩
      obtain ⟨Kk0, Kk1, Kk2, Kk3, B2, BW⟩ := hI
      exact ⟨_, rfl, hK.out s _ (fun _ _ => rfl) ⟨(Blk.keep Kk0 g), (Blk.keep Kk1 g), (Blk.keep Kk2 g), (Blk.keep Kk3 g), Nat.le_trans B2 g.size, bb BW g⟩⟩
    refine VSteps.cons rfl (fun x L s wx K kn hL hp hI hK => ?_) ?_
    · have e17 : x[17]? = some (.int .i64 ((limbs X).length : Int)) := kn.got 1 17 (hp ⟨1, .data⟩ (by simp) rfl) rfl
      refine want_ rfl ?_
      exact val_ (v := .int .i64 ((limbs X).length : Int)) (by simp [go_sem, execOp, evr_, e17]) (hK.out s _ (fun _ _ => rfl) hI)
    refine VSteps.cons rfl (fun x L s wx K kn hL hp hI hK => ?_) ?_
    · have e19 : x[19]? = some (.int .i64 ((limbs Y).length : Int)) := kn.got 3 19 (hp ⟨3, .data⟩ (by simp) rfl) rfl
      refine want_ rfl ?_
      exact val_ (v := .int .i64 ((limbs Y).length : Int)) (by simp [go_sem, execOp, evr_, e19]) (hK.out s _ (fun _ _ => rfl) hI)
    exact VSteps.nil
  case fin =>
    intro s wx hI
    simp only [puts, VO, List.getD_cons_zero, List.getD_cons_succ, List.set_cons_zero, List.set_cons_succ]
    obtain ⟨Kk0, Kk1, Kk2, Kk3, B2, BW⟩ := hI
    clear k0 k1 k2 k3 b0 N_k0 N_k1 N_k2 N_k3
    generalize (limbs X).length = nn at *
    generalize (limbs Y).length = ms at *
    have j1 : (nn : Int) < ms := by omega
    have k0 := Kk0
    have k2 := Kk2
    have k3 := Kk3
    have b := BW
    have N_k0 := Kk0.lt
    have N_k2 := Kk2.lt
    have N_k3 := Kk3.lt
    have M_k2 : w.heap.size ≤ w.heap.size + 1 + 1 := by omega
    have M_k3 : w.heap.size ≤ w.heap.size + 1 + 1 + 1 := by omega
    clear Kk0 Kk1 Kk2 Kk3 BW B2
    generalize wx = w9 at *
    go_wp2_with fail
    refine region_vals (σ := Nat → Nat) [some 24, some 25, none, none] (VO [some (.agg (U (lim 0))), some (.agg (U (lim X))), some (undef), some (undef)]) (fun L s wx => Blk wx w.heap.size (U (lim X)) 27 ∧ (L 2 = false → Blk wx (w.heap.size + 1 + 1) (U (zeros)) 27) ∧ (L 2 = true → Blk wx (w.heap.size + 1 + 1) (U (lim 0)) 27) ∧ (L 3 = false → Blk wx (w.heap.size + 1 + 1 + 1) (U (zeros)) 27) ∧ (L 3 = true → Blk wx (w.heap.size + 1 + 1 + 1) (U (lim X)) 27) ∧ w9.heap.size ≤ wx.heap.size ∧ Below w.heap.size w wx) (fun _ => 0) [0, 1, 2, 3] _ _ rfl (by kernel_rfl) (by kernel_rfl) (by kernel_rfl) (by kernel_rfl) (by kernel_rfl) ⟨k0.drew, fun _ => k2.drew, fun h => absurd h (by decide), fun _ => k3.drew, fun h => absurd h (by decide), Nat.le_refl _, b.drew⟩ ?stepsE ?finE (fun L L' s wx e h => by rw [e 2 (by decide), e 3 (by decide)] at h; exact h)
    case stepsE =>
      refine VSteps.cons rfl (fun x L s wx K kn hL hp hI hK => ?_) ?_
      · refine want_ rfl ?_
        exact val_ (v := .agg (U (lim 0))) (by rw [← zeros_lim]; kernel_rfl) (hK.out s _ (fun _ _ => rfl) hI)
      refine VSteps.cons rfl (fun x L s wx K kn hL hp hI hK => ?_) ?_
      · have e2 : x[2]? = some (.pointer (some ⟨w.heap.size, 0, none⟩)) := (kn.old 2 (by kernel_rfl)).trans rfl
        refine want_ rfl ?_
        obtain ⟨Kk0, Fk2, Gk2, Fk3, Gk3, B2, BW⟩ := hI
        exact wp_load_row 27 _ rfl w.heap.size (ev_ e2) 27 (U (lim X)) (0, 0) _ Kk0 Try.underlying27 rfl (ofLen la) (hK.out s _ (fun _ _ => rfl) ⟨Kk0, Fk2, Gk2, Fk3, Gk3, B2, BW⟩)
      refine VSteps.cons rfl (fun x L s wx K kn hL hp hI hK => ?_) ?_
      · have e4 : x[4]? = some (.pointer (some ⟨(w.heap.size + 1 + 1), 0, none⟩)) := (kn.old 4 (by kernel_rfl)).trans rfl
        have e24 : x[24]? = some (.agg (U (lim 0))) := kn.got 0 24 (hp ⟨0, .data⟩ (by simp) rfl) rfl
        refine want_ rfl ?_
        obtain ⟨Kk0, Fk2, Gk2, Fk3, Gk3, B2, BW⟩ := hI
        have NEk0 : w.heap.size ≠ (w.heap.size + 1 + 1) := by have := N_k0; have := N_k2; omega
        have NEk3 : (w.heap.size + 1 + 1 + 1) ≠ (w.heap.size + 1 + 1) := by have := N_k3; have := N_k2; omega
        exact wp_store_row 27 _ _ rfl (w.heap.size + 1 + 1) (U (lim 0)) (ev_ e4) (ev_ e24) 27 (U (zeros)) (Fk2 hL) (ofLen lz) (by rw [U_size, U_size, lz, zeros_len]) (one_cell _) (hK.out s _ (fun _ _ => rfl) ⟨(far_ Kk0 NEk0), fun h => absurd h (by simp [YInv.up]), fun _ => put_ (Fk2 hL), fun h => (far_ (Fk3 h) NEk3), fun h => (far_ (Gk3 h) NEk3), (by simp; exact B2), below_row BW M_k2 _⟩)
      refine VSteps.cons rfl (fun x L s wx K kn hL hp hI hK => ?_) ?_
      · have e5 : x[5]? = some (.pointer (some ⟨(w.heap.size + 1 + 1 + 1), 0, none⟩)) := (kn.old 5 (by kernel_rfl)).trans rfl
        have e25 : x[25]? = some (.agg (U (lim X))) := kn.got 1 25 (hp ⟨1, .data⟩ (by simp) rfl) rfl
        refine want_ rfl ?_
        obtain ⟨Kk0, Fk2, Gk2, Fk3, Gk3, B2, BW⟩ := hI
        have NEk0 : w.heap.size ≠ (w.heap.size + 1 + 1 + 1) := by have := N_k0; have := N_k3; omega
        have NEk2 : (w.heap.size + 1 + 1) ≠ (w.heap.size + 1 + 1 + 1) := by have := N_k2; have := N_k3; omega
        exact wp_store_row 27 _ _ rfl (w.heap.size + 1 + 1 + 1) (U (lim X)) (ev_ e5) (ev_ e25) 27 (U (zeros)) (Fk3 hL) (ofLen la) (by rw [U_size, U_size, la, zeros_len]) (one_cell _) (hK.out s _ (fun _ _ => rfl) ⟨(far_ Kk0 NEk0), fun h => (far_ (Fk2 h) NEk2), fun h => (far_ (Gk2 h) NEk2), fun h => absurd h (by simp [YInv.up]), fun _ => put_ (Fk3 hL), (by simp; exact B2), below_row BW M_k3 _⟩)
      exact VSteps.nil
    case finE =>
      intro s wx hI
      simp only [puts, VO, List.getD_cons_zero, List.getD_cons_succ, List.set_cons_zero, List.set_cons_succ]
      obtain ⟨Kk0, Fk2, Gk2, Fk3, Gk3, B2, BW⟩ := hI
      have Kk2 := Gk2 rfl
      have Kk3 := Gk3 rfl
      clear Fk2 Gk2 Fk3 Gk3
      go_wp2_with fail
      exact bodyPost_ret (res22 Try.results53 _ rfl rfl Kk2 lz Kk3 la) rfl ⟨rfl, BW⟩
theorem divide_all {X Y : Int} (hx : 0 ≤ X) (hx1 : X < 18446744073709551616 ^ 16) (hy0 : 0 < Y) (hy1 : Y < 18446744073709551616 ^ 16) (w : World) : Calls Try.prog 53 #[.agg (U (lim X)), .agg (U (lim Y))] w fun e w' => e = .returned (.tuple #[.agg (U (lim (X / Y))), .agg (U (lim (X % Y)))]) ∧ Below w.heap.size w w' := by
  have p := (limbs_len_pos (n := Y)).2 hy0
  by_cases h1 : (limbs X).length < (limbs Y).length
  · exact divide_z hx hx1 hy0 hy1 h1 w
  · have hx0 : 0 < X := limbs_len_pos.1 (by omega)
    by_cases h2 : (limbs Y).length = 1
    · have h3 := len_limbs (Int.le_of_lt hy0)
      rw [h2] at h3
      exact divide_s hx0 hx1 hy0 (by omega) w
    · exact divide_m (mm := (limbs Y).length - 2) hx0 hx1 hy0 hy1 (by omega) (by omega) w
theorem Div_c {x y : Int} (hx : InW x) (hy : InW y) (y0 : y ≠ 0) (w : World) :
    Calls Try.prog 26 #[.agg (U (lim x)), .agg (U (lim y))] w fun e w' => (if InW (Int.tdiv x y) then e = .returned (.tuple #[.agg (U (lim (Int.tdiv x y))), .agg (U (lim (Int.tmod x y))), .bool true]) else e = .returned (.tuple #[.agg (U (lim 0)), .agg (U (lim 0)), .bool false])) ∧ Below w.heap.size w w' := by
  have hX0 : 0 ≤ ab x := by unfold ab; split <;> omega
  have hX1 : ab x < 18446744073709551616 ^ 16 := by unfold InW at hx; unfold ab; split <;> omega
  have hY0 : 0 < ab y := by unfold ab; split <;> omega
  have hY1 : ab y < 18446744073709551616 ^ 16 := by unfold InW at hy; unfold ab; split <;> omega
  exact Div_of hx hy y0 (fun W => divide_all hX0 hX1 hY0 hY1 W) w
end Go.Proofs.Ytpdljoalfmgfiaa.YWide
