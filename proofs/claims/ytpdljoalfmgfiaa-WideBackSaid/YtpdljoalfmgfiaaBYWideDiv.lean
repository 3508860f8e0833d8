/- Lean functions, contracts and lemmas that this claim needs. No condition. -/
import Derived.Test.YtpdljoalfmgfiaaBYWideShift
import Derived.Test.YtpdljoalfmgfiaaBYWideBk
import Derived.Test.YtpdljoalfmgfiaaBYWideReg
import Derived.Test.YtpdljoalfmgfiaaBYWideW9
import Derived.Deep.RegionLaw
namespace Go.Proofs.Ytpdljoalfmgfiaa.YWide
open Go.RowKit Go.Proofs.Ytpdljoalfmgfiaa.YInv Go.Proofs.Ytpdljoalfmgfiaa.YErr Go.Proofs.Ytpdljoalfmgfiaa.YRef Go.Proofs.Ytpdljoalfmgfiaa.YNum Go.Proofs.Ytpdljoalfmgfiaa.YBits Go.Proofs.Ytpdljoalfmgfiaa.XCarry Go.Proofs.Ytpdljoalfmgfiaa.QWd Go.Proofs.YtpdljoalfmgfiaaW.PrintWords Go.Proofs.YtpdljoalfmgfiaaW.PrintLast
set_option linter.unusedVariables false
set_option linter.unusedSimpArgs false
set_option maxRecDepth 100000 in
set_option maxHeartbeats 32000000 in
theorem divide_m {X Y : Int} {mm : Nat} (hx0 : 0 < X) (hx1 : X < 18446744073709551616 ^ 16) (hy0 : 0 < Y) (hy1 : Y < 18446744073709551616 ^ 16) (hm : (limbs Y).length = mm + 2) (hn : (limbs Y).length ≤ (limbs X).length) (w : World) : Calls Try.prog 53 #[.agg (U (lim X)), .agg (U (lim Y))] w fun e w' => e = .returned (.tuple #[.agg (U (lim (X / Y))), .agg (U (lim (X % Y)))]) ∧ Below w.heap.size w w' := by
  have la := lim_len X
  have lb := lim_len Y
  have lx := limbs_lt16 hx1
  have hx := Int.le_of_lt hx0
  have hy := Int.le_of_lt hy0
  obtain ⟨k0, k1, k2, k3, b0⟩ := start4 w (lim X) (lim Y) _ rfl
  have LZ : ∃ sh : Nat, (∀ W, Calls Try.prog 59 #[.int .u64 (dg (lim Y) (mm + 1))] W fun e w' => e = .returned (.int .i64 sh) ∧ Drawn0 W w') ∧ sh < 64 ∧ (9223372036854775808 : Int) ≤ dg (lim Y) (mm + 1) * 2 ^ sh ∧ dg (lim Y) (mm + 1) * 2 ^ sh < 18446744073709551616 := by
    have e : dg (lim Y) (mm + 1) = dg (limbs Y) (mm + 1) := dg_lim_limbs hy hy1
    have d := dg_in (limbs_dig Y) (mm + 1)
    have dpos : 0 < dg (limbs Y) (mm + 1) := by
      rcases Int.lt_or_eq_of_le d.1 with h | h
      · exact h
      · exfalso
        have e := val_limbs hy
        unfold val at e
        rw [hm, pv, ← h, Int.zero_mul] at e
        have h2 := pv_lt (limbs_dig Y) (mm + 1)
        have h3 : Y < 18446744073709551616 ^ (mm + 1) := by omega
        have := limbs_len _ h3
        omega
    obtain ⟨s, h1, h2, h3, h4⟩ := lz_tells 90 _ dpos d.2
    rw [e]
    exact ⟨s, fun W => bits_LeadingZeros64.calls (90 + 1) _ _ W h1, h2, h3, h4⟩
  obtain ⟨sh, LZ, s64, n0, n1⟩ := LZ
  go_enter Try.func53, Try.ntmps53
  go_wp2_with fail
  have N_k0 := k0.lt
  have N_k1 := k1.lt
  have N_k2 := k2.lt
  have N_k3 := k3.lt
  have ex : ((((w.alloc (.cells (U (lim X)) 27)).alloc (.cells (U (lim Y)) 27)).alloc (.cells #[.int .u64 0, .int .u64 0, .int .u64 0, .int .u64 0, .int .u64 0, .int .u64 0, .int .u64 0, .int .u64 0, .int .u64 0, .int .u64 0, .int .u64 0, .int .u64 0, .int .u64 0, .int .u64 0, .int .u64 0, .int .u64 0] 27)).alloc (.cells #[.int .u64 0, .int .u64 0, .int .u64 0, .int .u64 0, .int .u64 0, .int .u64 0, .int .u64 0, .int .u64 0, .int .u64 0, .int .u64 0, .int .u64 0, .int .u64 0, .int .u64 0, .int .u64 0, .int .u64 0, .int .u64 0] 27)) = ((((w.alloc (.cells (U (lim X)) 27)).alloc (.cells (U (lim Y)) 27)).alloc (.cells (U zeros) 27)).alloc (.cells (U zeros) 27)) := rfl
  rw [ex]
  clear ex
  generalize ((((w.alloc (.cells (U (lim X)) 27)).alloc (.cells (U (lim Y)) 27)).alloc (.cells (U zeros) 27)).alloc (.cells (U zeros) 27)) = w1 at *
  refine region_vals (σ := Nat → Nat) [some 16, some 17, some 18, some 19, some 6, some 7] (VO [some (.slice (some ⟨w.heap.size, 0, none⟩) 16 16), some (.int .i64 ((limbs X).length : Int)), some (.slice (some ⟨w.heap.size + 1, 0, none⟩) 16 16), some (.int .i64 ((limbs Y).length : Int)), some (.int .i64 ((limbs X).length : Int)), some (.int .i64 ((limbs Y).length : Int))]) (fun L s wx => Blk wx w.heap.size (U (lim X)) 27 ∧ Blk wx (w.heap.size + 1) (U (lim Y)) 27 ∧ Blk wx (w.heap.size + 1 + 1) (U (zeros)) 27 ∧ Blk wx (w.heap.size + 1 + 1 + 1) (U (zeros)) 27 ∧ w1.heap.size ≤ wx.heap.size ∧ Below w.heap.size w wx) (fun _ => 0) [0, 1, 2, 3, 4, 5] _ _ rfl (by kernel_rfl) (by kernel_rfl) (by kernel_rfl) (by kernel_rfl) (by kernel_rfl) ⟨k0.drew, k1.drew, k2.drew, k3.drew, Nat.le_refl _, b0.drew⟩ ?steps ?fin (fun L L' s wx e h => h)
  case steps =>
    refine VSteps.cons rfl (fun x L s wx K kn hL hp hI hK => ?_) ?_
    · have e2 : x[2]? = some (.pointer (some ⟨w.heap.size, 0, none⟩)) := (kn.old 2 (by kernel_rfl)).trans rfl
      refine want_ rfl ?_
      exact val_ (v := .slice (some ⟨w.heap.size, 0, none⟩) 16 16) (by simp [go_sem, execOp, evr_, e2]) (hK.out s _ (fun _ _ => rfl) hI)
    refine VSteps.cons rfl (fun x L s wx K kn hL hp hI hK => ?_) ?_
    · have e16 : x[16]? = some (.slice (some ⟨w.heap.size, 0, none⟩) 16 16) := kn.got 0 16 (hp ⟨0, .data⟩ (by simp) rfl) rfl
      refine want_ rfl ?_
      refine goesK_ Try.func44 (by kernel_rfl) rfl #[.slice (some ⟨w.heap.size, 0, none⟩) 16 16] rfl (by simp only [List.map_toArray, List.map_cons, List.map_nil, evr_, ev_ e16]) ((count_b hI.1 hx hx1).mono ?_)
      rintro e w' ⟨rfl, g⟩
      obtain ⟨Kk0, Kk1, Kk2, Kk3, B2, BW⟩ := hI
      exact ⟨_, rfl, hK.out s _ (fun _ _ => rfl) ⟨(Blk.keep Kk0 g), (Blk.keep Kk1 g), (Blk.keep Kk2 g), (Blk.keep Kk3 g), Nat.le_trans B2 g.size, bb BW g⟩⟩
    refine VSteps.cons rfl (fun x L s wx K kn hL hp hI hK => ?_) ?_
    · have e3 : x[3]? = some (.pointer (some ⟨(w.heap.size + 1), 0, none⟩)) := (kn.old 3 (by kernel_rfl)).trans rfl
      refine want_ rfl ?_
      exact val_ (v := .slice (some ⟨w.heap.size + 1, 0, none⟩) 16 16) (by simp [go_sem, execOp, evr_, e3]) (hK.out s _ (fun _ _ => rfl) hI)
    refine VSteps.cons rfl (fun x L s wx K kn hL hp hI hK => ?_) ?_
    · have e18 : x[18]? = some (.slice (some ⟨w.heap.size + 1, 0, none⟩) 16 16) := kn.got 2 18 (hp ⟨2, .data⟩ (by simp) rfl) rfl
      refine want_ rfl ?_
      refine goesK_ Try.func44 (by kernel_rfl) rfl #[.slice (some ⟨w.heap.size + 1, 0, none⟩) 16 16] rfl (by simp only [List.map_toArray, List.map_cons, List.map_nil, evr_, ev_ e18]) ((count_b hI.2.1 hy hy1).mono ?_)
      rintro e w' ⟨rfl, g⟩
      obtain ⟨Kk0, Kk1, Kk2, Kk3, B2, BW⟩ := hI
      exact ⟨_, rfl, hK.out s _ (fun _ _ => rfl) ⟨(Blk.keep Kk0 g), (Blk.keep Kk1 g), (Blk.keep Kk2 g), (Blk.keep Kk3 g), Nat.le_trans B2 g.size, bb BW g⟩⟩
    refine VSteps.cons rfl (fun x L s wx K kn hL hp hI hK => ?_) ?_
    · have e17 : x[17]? = some (.int .i64 ((limbs X).length : Int)) := kn.got 1 17 (hp ⟨1, .data⟩ (by simp) rfl) rfl
      refine want_ rfl ?_
      exact val_ (v := .int .i64 ((limbs X).length : Int)) (by simp [go_sem, execOp, evr_, e17]) (hK.out s _ (fun _ _ => rfl) hI)
    refine VSteps.cons rfl (fun x L s wx K kn hL hp hI hK => ?_) ?_
    · have e19 : x[19]? = some (.int .i64 ((limbs Y).length : Int)) := kn.got 3 19 (hp ⟨3, .data⟩ (by simp) rfl) rfl
      refine want_ rfl ?_
      exact val_ (v := .int .i64 ((limbs Y).length : Int)) (by simp [go_sem, execOp, evr_, e19]) (hK.out s _ (fun _ _ => rfl) hI)
    exact VSteps.nil
  case fin =>
    intro s wx hI
    simp only [puts, VO, List.getD_cons_zero, List.getD_cons_succ, List.set_cons_zero, List.set_cons_succ]
    obtain ⟨Kk0, Kk1, Kk2, Kk3, B2, BW⟩ := hI
    clear k0 k1 k2 k3 b0
    rw [hm]
    generalize hnn : (limbs X).length = nn at *
    have j2 : (nn : Int) ≤ 16 := by omega
    have j3 : (mm : Int) + 2 ≤ nn := by omega
    have j4 : 0 ≤ (mm : Int) := by omega
    have j5 : (mm : Int) + 2 ≤ 16 := by omega
    have j6 : 0 ≤ (mm : Int) + 2 := by omega
    have j7 : ((mm : Int) + 2).toNat = mm + 2 := by omega
    have j8 : (mm : Int) + 2 ≤ (mm : Int) + 2 + 1 := by omega
    have j9 : (mm : Int) + 2 ≤ ((mm + 2 + 1 : Nat) : Int) := by omega
    have j10 : mm + 2 ≤ mm + 2 + 1 := by omega
    have m1 : (((mm + 2 : Nat) : Int) = (mm : Int) + 2) := by omega
    rw [m1]
    have c0 : wx.cell? ⟨w.heap.size + 1, mm + 1, none⟩ = some (.int .u64 (dg (lim Y) (mm + 1))) := by rw [Kk1.cell, U_at (by omega)]
    go_wp2_with fail
    refine (LZ _).mono ?_; rintro e w3 ⟨rfl, ⟨z, rfl⟩⟩
    have k0 := Blk.drewN Kk0 z
    have k1 := Blk.drewN Kk1 z
    have k2 := Blk.drewN Kk2 z
    have k3 := Blk.drewN Kk3 z
    have b3 := below_drewN BW z
    generalize wx.drewN z = w3 at *
    clear Kk0 Kk1 Kk2 Kk3 BW c0 LZ B2
    have dX := lim_dig X
    have dY := lim_dig Y
    have S1 : ∀ W, Blk W w.heap.size (U (lim X)) 27 → _ := fun W k => shift_w (c := 16) k dX (show nn ≤ (lim X).length by omega) (by omega) (by omega) (show sh ≤ 63 by omega)
    have S2 : ∀ W, Blk W (w.heap.size + 1) (U (lim Y)) 27 → _ := fun W k => shift_w (c := 16) k dY (show mm + 2 ≤ (lim Y).length by omega) (by omega) (by omega) (show sh ≤ 63 by omega)
    have k1d := Blk.drew k1
    go_wp2_with fail
    go_region_law (first
      | (go_simp; go_at_call 60; with_reducible refine (S1 _ (Blk.drew k0)).mono ?_; rintro e w4 ⟨u, rfl, lu, du, vu, ku, g4⟩
         have k14 := Blk.keep k1d g4)
      | (go_simp; go_at_call 60; with_reducible refine (S2 _ k14).mono ?_; rintro e w5 ⟨v, rfl, lv, dv, vv, kv, g5⟩))
    have b4 := bb (Below.drew b3) g4
    have b5 := bb b4 g5
    have ku5 : Blk w5 w3.heap.size (U u) 25 := Blk.keep ku g5
    have k25 := Blk.keep (Blk.keep (Blk.drew k2) g4) g5
    have k35 := Blk.keep (Blk.keep (Blk.drew k3) g4) g5
    have lt1 : w3.heap.size < w4.heap.size := ku.lt
    have lt2 : w4.heap.size < w5.heap.size := kv.lt
    have lt0 : w.heap.size + 1 + 1 + 1 < w3.heap.size := k3.lt
    have hXn : X < 18446744073709551616 ^ nn := by have := len_limbs hx; rw [hnn] at this; exact this
    have hYm : Y < 18446744073709551616 ^ (mm + 2) := by have := len_limbs hy; rw [hm] at this; exact this
    have eX : pv (lim X) nn = X := by rw [pv_lim X nn (by omega)]; exact Int.emod_eq_of_lt hx hXn
    have eY : pv (lim Y) (mm + 2) = Y := by rw [pv_lim Y (mm + 2) (by omega)]; exact Int.emod_eq_of_lt hy hYm
    rw [eX] at vu
    rw [eY] at vv
    obtain ⟨d1, d2, d3, d4⟩ := norm_v (k := mm) (s := sh) (by omega) dv hy hYm (by omega) vv n0 n1
    have D0 : 0 < pv v (mm + 2) := by rw [d1]; exact Int.mul_pos hy0 (Int.pow_pos (by decide))
    have ST : Dv nn (mm + 2) (pv v (mm + 2)) (X * 2 ^ sh) (nn - (mm + 2) + 1) u zeros := Dv.start (by omega) (by omega) hx hXn d3 lu du vu
    have FIN := Lib.hid (And.intro eX (And.intro eY (And.intro d1 (And.intro n0 n1))))
    clear eX eY d1 n0 n1 vu vv hXn hYm k0 k1 k2 k3 k1d k14 ku g4 g5 b3 b4 S1 S2 D0 dX dY
    have k11 := (Blk.new w5 (U zeros) 27).alloc (.cells (U zeros) 27)
    have k12 : Blk ((w5.alloc (.cells (U zeros) 27)).alloc (.cells (U zeros) 27)) (w5.heap.size + 1) (U zeros) 27 := by
      have := Blk.new (w5.alloc (.cells (U zeros) 27)) (U zeros) 27
      simpa using this
    have k6u := (Blk.alloc ku5 (.cells (U zeros) 27)).alloc (.cells (U zeros) 27)
    have k6v := (Blk.alloc kv (.cells (U zeros) 27)).alloc (.cells (U zeros) 27)
    have k62 := (Blk.alloc k25 (.cells (U zeros) 27)).alloc (.cells (U zeros) 27)
    have k63 := (Blk.alloc k35 (.cells (U zeros) 27)).alloc (.cells (U zeros) 27)
    have b6 := (b5.alloc b5.size (.cells (U zeros) 27)).alloc (by have := b5.size; simp; omega) (.cells (U zeros) 27)
    clear ku5 kv k25 k35
    have dvv := dv
    clear dv
    go_wp2_with fail
    have ex : ((w5.alloc (.cells #[.int .u64 0, .int .u64 0, .int .u64 0, .int .u64 0, .int .u64 0, .int .u64 0, .int .u64 0, .int .u64 0, .int .u64 0, .int .u64 0, .int .u64 0, .int .u64 0, .int .u64 0, .int .u64 0, .int .u64 0, .int .u64 0] 27)).alloc (.cells #[.int .u64 0, .int .u64 0, .int .u64 0, .int .u64 0, .int .u64 0, .int .u64 0, .int .u64 0, .int .u64 0, .int .u64 0, .int .u64 0, .int .u64 0, .int .u64 0, .int .u64 0, .int .u64 0, .int .u64 0, .int .u64 0] 27)) = ((w5.alloc (.cells (U zeros) 27)).alloc (.cells (U zeros) 27)) := rfl
    rw [ex]
    clear ex
    have bz5 := b5.size
    generalize ((w5.alloc (.cells (U zeros) 27)).alloc (.cells (U zeros) 27)) = w6 at *
    generalize w3.heap.size = bu at *
    generalize w4.heap.size = bv at *
    generalize w5.heap.size = bq at *
    have wn : bu ≠ bv := by omega
    clear b5
    go_loopw [13] (fun s13 wx => ∃ (j : Nat) (l q : List Int), j ≤ nn - (mm + 2) + 1 ∧ s13 = .int .i64 ((j : Int) - 1) ∧ Dv nn (mm + 2) (pv v (mm + 2)) (X * 2 ^ sh) j l q ∧ Blk wx bu (U l) 25 ∧ Blk wx bv (U v) 25 ∧ Blk wx bq (U q) 27 ∧ Blk wx (bq + 1) (U zeros) 27 ∧ Blk wx (w.heap.size + 1 + 1) (U zeros) 27 ∧ Blk wx (w.heap.size + 1 + 1 + 1) (U zeros) 27 ∧ Below w.heap.size w wx) (fun s13 _ => (intOf s13 + 1).toNat)
    case atStart => exact ⟨_, _, _, Nat.le_refl _, congrArg (Value.int .i64) (by omega), ST, k6u, k6v, k11, k12, k62, k63, b6⟩
    case round =>
      clear ST k6u k6v k11 k12 k62 k63 b6 lu du
      obtain ⟨j, l, q, hj, rfl, S, kU, kV, kQ, kR, k2, k3, b⟩ := hrel
      rcases j with _ | i
      · rw [show (((0 : Nat) : Int) - 1) = -1 from rfl]
        have hql := S.ql
        have hl := S.len
        have d1 := FIN.out.2.2.1
        have HS := Lib.hid S
        have HB := Lib.hid (And.intro d1 s64)
        have s0 : 0 ≤ (sh : Int) := Int.natCast_nonneg sh
        have s2 : (sh : Int) ≤ 63 := by omega
        clear S d1 d2 d3 d4 s64
        go_wp2_with fail
        go_loopw [95] (fun s95 wx => ∃ (k : Nat) (r : List Int), k ≤ mm + 2 ∧ s95 = .int .i64 k ∧ Bk l r sh k ∧ Blk wx bu (U l) 25 ∧ Blk wx (bq + 1) (U r) 27 ∧ Blk wx bq (U q) 27 ∧ Blk wx (w.heap.size + 1 + 1) (U zeros) 27 ∧ Blk wx (w.heap.size + 1 + 1 + 1) (U zeros) 27 ∧ Below w.heap.size w wx) (fun s95 _ => mm + 2 - (intOf s95).toNat)
        case atStart => exact ⟨0, _, Nat.zero_le _, rfl, Bk.start l sh, kU, kR, kQ, k2, k3, b⟩
        case round =>
          clear kU kV kR kQ k2 k3 b
          have S_dig := HS.out.dig
          obtain ⟨k, r, hk, rfl, B, kU, kR, kQ, k2, k3, b⟩ := hrel
          have k0 : 0 ≤ (k : Int) := Int.natCast_nonneg k
          by_cases hlt : k < mm + 2
          · have k4 : (k : Int) < (mm : Int) + 2 := by omega
            have k5 : (k : Int) < (nn : Int) + 1 := by omega
            have k6 : (k : Int) + 1 < (nn : Int) + 1 := by omega
            have k7 : (k : Int) < 16 := by omega
            have ub : bu ≠ bq + 1 := by omega
            have qb : bq ≠ bq + 1 := by omega
            have b2 : w.heap.size + 1 + 1 ≠ bq + 1 := by omega
            have b3 : w.heap.size + 1 + 1 + 1 ≠ bq + 1 := by omega
            have bw : w.heap.size ≤ bq + 1 := by omega
            have V := dg_in S_dig k
            have V2 := dg_in S_dig (k + 1)
            have cU : wr.cell? ⟨bu, k, none⟩ = some (.int .u64 (dg l k)) := by rw [kU.cell, U_at (by omega)]
            have fR := kR.free k
            have cR := (kR.cell k).trans (U_at (by rw [B.len]; omega))
            have N := B.up S_dig (show sh ≤ 63 by omega) (show k < 16 by omega)
            by_cases hs0 : 0 < sh
            · have s1 : 0 < (sh : Int) := by omega
              have kA := kR.set k (.int .u64 (dg l k / 2 ^ sh))
              rw [U_set] at kA
              have fA := kA.free k
              have cA := (kA.cell k).trans (U_at (by rw [List.length_set, B.len]; omega))
              rw [dg_set, if_pos ⟨rfl, by rw [B.len]; omega⟩] at cA
              have kU2 := Blk.setOther kU (p := ⟨bq + 1, k, none⟩) (Ne.symm ub) (.int .u64 (dg l k / 2 ^ sh))
              have cU2 := (kU2.cell (k + 1)).trans (U_at (by omega))
              have kB := kA.set k (.int .u64 (Go.bits .or .u64 (dg l k / 2 ^ sh) (IntKind.u64.wrap (dg l (k + 1) * 2 ^ (64 - sh)))))
              rw [U_set, List.set_set] at kB
              rw [← bk_or hs0 (by omega) V.1 V.2 V2.1 V2.2] at N
              have bB := (b.setCell (p := ⟨bq + 1, k, none⟩) bw (.int .u64 (dg l k / 2 ^ sh))).setCell (p := ⟨bq + 1, k, none⟩) bw (.int .u64 (Go.bits .or .u64 (dg l k / 2 ^ sh) (IntKind.u64.wrap (dg l (k + 1) * 2 ^ (64 - sh)))))
              clear kA B
              go_wp2_with fail
              go_region
              go_wp2_with fail
              exact ⟨⟨k + 1, _, hlt, rfl, N, Blk.setOther kU2 (Ne.symm ub) _, kB, Blk.setOther (Blk.setOther kQ (Ne.symm qb) _) (Ne.symm qb) _, Blk.setOther (Blk.setOther k2 (Ne.symm b2) _) (Ne.symm b2) _, Blk.setOther (Blk.setOther k3 (Ne.symm b3) _) (Ne.symm b3) _, Below.drew bB⟩, by simp [intOf]; omega⟩
            · have z : sh = 0 := by omega
              subst z
              have kA := kR.set k (.int .u64 (dg l k))
              rw [U_set] at kA
              rw [← bk_zero, show (2 : Int) ^ 0 = 1 from rfl, Int.ediv_one] at N
              clear B
              go_wp2_with fail
              exact ⟨⟨k + 1, _, hlt, rfl, N, Blk.setOther kU (Ne.symm ub) _, kA, Blk.setOther kQ (Ne.symm qb) _, Blk.setOther k2 (Ne.symm b2) _, Blk.setOther k3 (Ne.symm b3) _, b.setCell (p := ⟨bq + 1, k, none⟩) bw _⟩, by simp [intOf]; omega⟩
          · have hkm : k = mm + 2 := by omega
            subst hkm
            obtain ⟨rfl, rfl⟩ := div_end HS.out B (by omega) HB.out.1 hy0
            have lq := lim_len (X / Y)
            have lr := lim_len (X % Y)
            clear B HS HB FIN
            go_wp2_with fail
            have N_kQ := kQ.lt
            have N_kR := kR.lt
            have N_k2 := k2.lt
            have N_k3 := k3.lt
            have M_k2 : w.heap.size ≤ w.heap.size + 1 + 1 := by omega
            have M_k3 : w.heap.size ≤ w.heap.size + 1 + 1 + 1 := by omega
            refine region_vals (σ := Nat → Nat) [some 124, some 125, none, none] (VO [some (.agg (U (lim (X / Y)))), some (.agg (U (lim (X % Y)))), some (undef), some (undef)]) (fun L s wx => Blk wx bq (U (lim (X / Y))) 27 ∧ Blk wx (bq + 1) (U (lim (X % Y))) 27 ∧ (L 2 = false → Blk wx (w.heap.size + 1 + 1) (U (zeros)) 27) ∧ (L 2 = true → Blk wx (w.heap.size + 1 + 1) (U (lim (X / Y))) 27) ∧ (L 3 = false → Blk wx (w.heap.size + 1 + 1 + 1) (U (zeros)) 27) ∧ (L 3 = true → Blk wx (w.heap.size + 1 + 1 + 1) (U (lim (X % Y))) 27) ∧ wr.heap.size ≤ wx.heap.size ∧ Below w.heap.size w wx) (fun _ => 0) [0, 1, 2, 3] _ _ rfl (by kernel_rfl) (by kernel_rfl) (by kernel_rfl) (by kernel_rfl) (by kernel_rfl) ⟨kQ.drew, kR.drew, fun _ => k2.drew, fun h => absurd h (by decide), fun _ => k3.drew, fun h => absurd h (by decide), Nat.le_refl _, b.drew⟩ ?stepsE ?finE (fun L L' s wx e h => by rw [e 2 (by decide), e 3 (by decide)] at h; exact h)
            case stepsE =>
              refine VSteps.cons rfl (fun x L s wx K kn hL hp hI hK => ?_) ?_
              · have e11 : x[11]? = some (.pointer (some ⟨bq, 0, none⟩)) := (kn.old 11 (by kernel_rfl)).trans rfl
                refine want_ rfl ?_
                obtain ⟨KkQ, KkR, Fk2, Gk2, Fk3, Gk3, B2, BW⟩ := hI
                exact wp_load_row 27 _ rfl bq (ev_ e11) 27 (U (lim (X / Y))) (0, 0) _ KkQ Try.underlying27 rfl (ofLen lq) (hK.out s _ (fun _ _ => rfl) ⟨KkQ, KkR, Fk2, Gk2, Fk3, Gk3, B2, BW⟩)
              refine VSteps.cons rfl (fun x L s wx K kn hL hp hI hK => ?_) ?_
              · have e12 : x[12]? = some (.pointer (some ⟨(bq + 1), 0, none⟩)) := (kn.old 12 (by kernel_rfl)).trans rfl
                refine want_ rfl ?_
                obtain ⟨KkQ, KkR, Fk2, Gk2, Fk3, Gk3, B2, BW⟩ := hI
                exact wp_load_row 27 _ rfl (bq + 1) (ev_ e12) 27 (U (lim (X % Y))) (0, 0) _ KkR Try.underlying27 rfl (ofLen lr) (hK.out s _ (fun _ _ => rfl) ⟨KkQ, KkR, Fk2, Gk2, Fk3, Gk3, B2, BW⟩)
              refine VSteps.cons rfl (fun x L s wx K kn hL hp hI hK => ?_) ?_
              · have e4 : x[4]? = some (.pointer (some ⟨(w.heap.size + 1 + 1), 0, none⟩)) := (kn.old 4 (by kernel_rfl)).trans rfl
                have e124 : x[124]? = some (.agg (U (lim (X / Y)))) := kn.got 0 124 (hp ⟨0, .data⟩ (by simp) rfl) rfl
                refine want_ rfl ?_
                obtain ⟨KkQ, KkR, Fk2, Gk2, Fk3, Gk3, B2, BW⟩ := hI
                have NEkQ : bq ≠ (w.heap.size + 1 + 1) := by have := N_kQ; have := N_k2; omega
                have NEkR : (bq + 1) ≠ (w.heap.size + 1 + 1) := by have := N_kR; have := N_k2; omega
                have NEk3 : (w.heap.size + 1 + 1 + 1) ≠ (w.heap.size + 1 + 1) := by have := N_k3; have := N_k2; omega
                exact wp_store_row 27 _ _ rfl (w.heap.size + 1 + 1) (U (lim (X / Y))) (ev_ e4) (ev_ e124) 27 (U (zeros)) (Fk2 hL) (ofLen lq) (by rw [U_size, U_size, lq, zeros_len]) (one_cell _) (hK.out s _ (fun _ _ => rfl) ⟨(far_ KkQ NEkQ), (far_ KkR NEkR), fun h => absurd h (by simp [YInv.up]), fun _ => put_ (Fk2 hL), fun h => (far_ (Fk3 h) NEk3), fun h => (far_ (Gk3 h) NEk3), (by simp; exact B2), below_row BW M_k2 _⟩)
              refine VSteps.cons rfl (fun x L s wx K kn hL hp hI hK => ?_) ?_
              · have e5 : x[5]? = some (.pointer (some ⟨(w.heap.size + 1 + 1 + 1), 0, none⟩)) := (kn.old 5 (by kernel_rfl)).trans rfl
                have e125 : x[125]? = some (.agg (U (lim (X % Y)))) := kn.got 1 125 (hp ⟨1, .data⟩ (by simp) rfl) rfl
                refine want_ rfl ?_
                obtain ⟨KkQ, KkR, Fk2, Gk2, Fk3, Gk3, B2, BW⟩ := hI
                have NEkQ : bq ≠ (w.heap.size + 1 + 1 + 1) := by have := N_kQ; have := N_k3; omega
                have NEkR : (bq + 1) ≠ (w.heap.size + 1 + 1 + 1) := by have := N_kR; have := N_k3; omega
                have NEk2 : (w.heap.size + 1 + 1) ≠ (w.heap.size + 1 + 1 + 1) := by have := N_k2; have := N_k3; omega
                exact wp_store_row 27 _ _ rfl (w.heap.size + 1 + 1 + 1) (U (lim (X % Y))) (ev_ e5) (ev_ e125) 27 (U (zeros)) (Fk3 hL) (ofLen lr) (by rw [U_size, U_size, lr, zeros_len]) (one_cell _) (hK.out s _ (fun _ _ => rfl) ⟨(far_ KkQ NEkQ), (far_ KkR NEkR), fun h => (far_ (Fk2 h) NEk2), fun h => (far_ (Gk2 h) NEk2), fun h => absurd h (by simp [YInv.up]), fun _ => put_ (Fk3 hL), (by simp; exact B2), below_row BW M_k3 _⟩)
              exact VSteps.nil
            case finE =>
              intro s wx hI
              simp only [puts, VO, List.getD_cons_zero, List.getD_cons_succ, List.set_cons_zero, List.set_cons_succ]
              obtain ⟨KkQ, KkR, Fk2, Gk2, Fk3, Gk3, B2, BW⟩ := hI
              have Kk2 := Gk2 rfl
              have Kk3 := Gk3 rfl
              clear Fk2 Gk2 Fk3 Gk3
              go_wp2_with fail
              exact bodyPost_ret (res22 Try.results53 _ rfl rfl Kk2 lq Kk3 lr) rfl ⟨rfl, BW⟩
      · have e1 : (((i + 1 : Nat) : Int) - 1) = (i : Int) := by omega
        rw [e1]
        have i0 : 0 ≤ (i : Int) := by omega
        have i1 : (i : Int) + ((mm : Int) + 2) ≤ nn := by omega
        have i2 : (i : Int) + ((mm : Int) + 2) + 1 ≤ (nn : Int) + 1 := by omega
        have i3 : (i : Int) ≤ (i : Int) + ((mm : Int) + 2) + 1 := by omega
        have hl := S.len
        have hq := S.ql
        obtain ⟨g, eg, g0, g1, g2, g3⟩ := guess_w 0 (i := i) (n := mm) S.dig dvv d2 S.window
        have GS := fun W => wide_guess.calls (0 + 16) _ _ _ _ _ g W eg
        have D0 : 0 < pv v (mm + 2) := by have := pw_pos (mm + 2); omega
        have TK : ∀ (cu cv : Nat) W, Blk W bu (U l) 25 → Blk W bv (U v) 25 → Calls Try.prog 61 #[.slice (some ⟨bu, i, none⟩) (mm + 2 + 1) cu, .slice (some ⟨bv, 0, none⟩) (mm + 2) cv, .int .u64 g] W fun e w' => TookIt l v bu i (mm + 2) 25 W e w' :=
          fun cu cv W a b => take_w (m := mm + 2) a b (Ne.symm wn) (by omega) (by omega) (by omega) (by omega) S.dig dvv g0 g1 D0 g2 g3
        have c0 : wr.cell? ⟨bu, i + (mm + 2), none⟩ = some (.int .u64 (dg l (i + (mm + 2)))) := by rw [kU.cell, U_at (by omega)]
        have c1 : wr.cell? ⟨bu, i + (mm + 1), none⟩ = some (.int .u64 (dg l (i + (mm + 1)))) := by rw [kU.cell, U_at (by omega)]
        have c2 : wr.cell? ⟨bu, i + mm, none⟩ = some (.int .u64 (dg l (i + mm))) := by rw [kU.cell, U_at (by omega)]
        have c3 : wr.cell? ⟨bv, mm + 1, none⟩ = some (.int .u64 (dg v (mm + 1))) := by rw [kV.cell, U_at (by omega)]
        have c4 : wr.cell? ⟨bv, mm, none⟩ = some (.int .u64 (dg v mm)) := by rw [kV.cell, U_at (by omega)]
        have vq : bv ≠ bq := by omega
        have uq : bu ≠ bq := by omega
        have qu : bq ≠ bu := by omega
        have ru : bq + 1 ≠ bu := by omega
        have u2 : w.heap.size + 1 + 1 ≠ bu := by omega
        have u3 : w.heap.size + 1 + 1 + 1 ≠ bu := by omega
        have rq : bq + 1 ≠ bq := by omega
        have q2 : w.heap.size + 1 + 1 ≠ bq := by omega
        have q3 : w.heap.size + 1 + 1 + 1 ≠ bq := by omega
        have wu : w.heap.size ≤ bu := by omega
        have wq : w.heap.size ≤ bq := by omega
        have m5 : (mm : Int) + 2 ≤ (mm : Int) + 2 + 1 := by omega
        have i16 : (i : Int) < 16 := by omega
        have HX := Lib.hid (And.intro S (And.intro D0 (And.intro d4 hj)))
        clear S D0 d2 d3 d4 hj g0 g1 g2 g3 eg
        have m6 : (mm : Int) + 2 < ((mm + 2 + 1 : Nat) : Int) := by omega
        have m7 : (mm : Int) + 2 < (mm : Int) + 2 + 1 := by omega
        have le1 : i + (mm + 2) + 1 - i = mm + 2 + 1 := by omega
        have y1 : IntKind.i64.wrap ((mm : Int) + 2 - 1) = (mm : Int) + 1 := by rw [IntWalk.i64_left]; unfold wrap64; omega
        have y2 : IntKind.i64.wrap ((mm : Int) + 2 - 2) = (mm : Int) := by rw [IntWalk.i64_left]; unfold wrap64; omega
        have y3 : IntKind.i64.wrap (mm : Int) = (mm : Int) := by rw [IntWalk.i64_left]; unfold wrap64; omega
        have z1 : 0 ≤ (mm : Int) + 1 := by omega
        have z2 : (mm : Int) + 1 < (mm : Int) + 2 + 1 := by omega
        have z3 : (mm : Int) < (mm : Int) + 2 + 1 := by omega
        have z4 : (mm : Int) + 1 < (mm : Int) + 2 := by omega
        have z5 : (mm : Int) < (mm : Int) + 2 := by omega
        have z6 : ((mm : Int) + 1).toNat = mm + 1 := by omega
        have t1 : (mm : Int) + 2 - 1 < ((mm + 2 + 1 : Nat) : Int) := by omega
        have t2 : (mm : Int) + 2 - 2 < ((mm + 2 + 1 : Nat) : Int) := by omega
        have t3 : (mm : Int) + 2 - 1 < (mm : Int) + 2 + 1 := by omega
        have t4 : (mm : Int) + 2 - 2 < (mm : Int) + 2 + 1 := by omega
        have t5 : 0 ≤ (mm : Int) + 2 - 1 := by omega
        have t6 : 0 ≤ (mm : Int) + 2 - 2 := by omega
        have t7 : (mm : Int) + 2 - 1 < ((mm + 2 : Nat) : Int) := by omega
        have t8 : (mm : Int) + 2 - 2 < ((mm + 2 : Nat) : Int) := by omega
        have t9 : (mm : Int) + 2 - 1 < (mm : Int) + 2 := by omega
        have t10 : (mm : Int) + 2 - 2 < (mm : Int) + 2 := by omega
        have t11 : ((mm : Int) + 2 - 1).toNat = mm + 1 := by omega
        have t12 : ((mm : Int) + 2 - 2).toNat = mm := by omega
        go_wp2_with fail
        rw [le1]
        have y4 : IntKind.i64.wrap ((mm : Int) + 1) = (mm : Int) + 1 := by rw [IntWalk.i64_left]; unfold wrap64; omega
        refine region_vals (σ := Nat → Nat) [some 64, some 65, some 66, some 67, some 68, some 69, some 70, some 71, some 72, some 73, some 74, some 75, some 76, some 77, some 78, some 79, some 80, some 81, some 82, some 83, some 84, some 85, some 86, some 87, some 88, some 89, some 90, some 91, some 92, some 93, none] (VO [some (.int .i64 (i : Int)), some (.slice (some ⟨bu, i, none⟩) (mm + 2 + 1) (nn + 1 - i)), some (.slice (some ⟨bv, 0, none⟩) (mm + 2) (mm + 2 + 1)), some (.slice (some ⟨bu, i, none⟩) (mm + 2 + 1) (nn + 1 - i)), some (.int .i64 ((mm : Int) + 2)), some (.pointer (some ⟨bu, i + (mm + 2), none⟩)), some (.int .u64 (dg l (i + (mm + 2)))), some (.slice (some ⟨bu, i, none⟩) (mm + 2 + 1) (nn + 1 - i)), some (.int .i64 ((mm : Int) + 2)), some (.int .i64 ((mm : Int) + 1)), some (.pointer (some ⟨bu, i + (mm + 1), none⟩)), some (.int .u64 (dg l (i + (mm + 1)))), some (.slice (some ⟨bu, i, none⟩) (mm + 2 + 1) (nn + 1 - i)), some (.int .i64 ((mm : Int) + 2)), some (.int .i64 (mm : Int)), some (.pointer (some ⟨bu, i + mm, none⟩)), some (.int .u64 (dg l (i + mm))), some (.slice (some ⟨bv, 0, none⟩) (mm + 2) (mm + 2 + 1)), some (.int .i64 ((mm : Int) + 2)), some (.int .i64 ((mm : Int) + 1)), some (.pointer (some ⟨bv, mm + 1, none⟩)), some (.int .u64 (dg v (mm + 1))), some (.slice (some ⟨bv, 0, none⟩) (mm + 2) (mm + 2 + 1)), some (.int .i64 ((mm : Int) + 2)), some (.int .i64 (mm : Int)), some (.pointer (some ⟨bv, mm, none⟩)), some (.int .u64 (dg v mm)), some (.int .u64 g), some (.int .u64 (wv l i (mm + 2 + 1) / pv v (mm + 2))), some (.pointer (some ⟨bq, i, none⟩)), some (undef)]) (fun L s wx => (L 28 = false → Blk wx bu (U l) 25) ∧ (L 28 = true → ∃ l2 : List Int, l2.length = l.length ∧ Dig l2 ∧ (∀ j, j < i ∨ i + (mm + 2) < j → dg l2 j = dg l j) ∧ wv l2 i (mm + 2 + 1) = wv l i (mm + 2 + 1) % pv v (mm + 2) ∧ Blk wx bu (U l2) 25) ∧ (L 30 = false → Blk wx bq (U q) 27) ∧ (L 30 = true → Blk wx bq (U (q.set i (wv l i (mm + 2 + 1) / pv v (mm + 2)))) 27) ∧ (L 28 = true → L 27 = true) ∧ (L 27 = true → L 6 = true ∧ L 11 = true ∧ L 16 = true) ∧ Blk wx bv (U v) 25 ∧ Blk wx (bq + 1) (U zeros) 27 ∧ Blk wx (w.heap.size + 1 + 1) (U zeros) 27 ∧ Blk wx (w.heap.size + 1 + 1 + 1) (U zeros) 27 ∧ Below w.heap.size w wx) (fun _ => 0) [0, 1, 2, 3, 4, 5, 6, 7, 8, 9, 10, 11, 12, 13, 14, 15, 16, 17, 18, 19, 20, 21, 22, 23, 24, 25, 26, 27, 28, 29, 30] _ _ rfl (by kernel_rfl) (by kernel_rfl) (by kernel_rfl) (by kernel_rfl) (by kernel_rfl) ⟨fun _ => Blk.drew kU, fun h => absurd h (by decide), fun _ => Blk.drew kQ, fun h => absurd h (by decide), fun h => absurd h (by decide), fun h => absurd h (by decide), Blk.drew kV, Blk.drew kR, Blk.drew k2, Blk.drew k3, Below.drew b⟩ ?stepsT ?finT (fun L L' s wx e h => by rw [e 6 (by decide), e 11 (by decide), e 16 (by decide), e 27 (by decide), e 28 (by decide), e 30 (by decide)] at h; exact h)
        case stepsT =>
          refine VSteps.cons rfl (fun x L s wx K kn hL hp hI hK => ?_) ?_
          · have e13 : x[13]? = some (.int .i64 (i : Int)) := (kn.old 13 (by kernel_rfl)).trans rfl
            refine want_ rfl ?_
            exact val_ (v := .int .i64 (i : Int)) (by simp [go_sem, execOp, evr_, e13]) (hK.out s _ (fun _ _ => rfl) hI)
          refine VSteps.cons rfl (fun x L s wx K kn hL hp hI hK => ?_) ?_
          · have e14 : x[14]? = some (.slice (some ⟨bu, i, none⟩) (mm + 2 + 1) (nn + 1 - i)) := (kn.old 14 (by kernel_rfl)).trans rfl
            refine want_ rfl ?_
            exact val_ (v := .slice (some ⟨bu, i, none⟩) (mm + 2 + 1) (nn + 1 - i)) (by simp [go_sem, execOp, evr_, e14]) (hK.out s _ (fun _ _ => rfl) hI)
          refine VSteps.cons rfl (fun x L s wx K kn hL hp hI hK => ?_) ?_
          · have e10 : x[10]? = some (.slice (some ⟨bv, 0, none⟩) (mm + 2) (mm + 2 + 1)) := (kn.old 10 (by kernel_rfl)).trans rfl
            refine want_ rfl ?_
            exact val_ (v := .slice (some ⟨bv, 0, none⟩) (mm + 2) (mm + 2 + 1)) (by simp [go_sem, execOp, evr_, e10]) (hK.out s _ (fun _ _ => rfl) hI)
          refine VSteps.cons rfl (fun x L s wx K kn hL hp hI hK => ?_) ?_
          · have e14 : x[14]? = some (.slice (some ⟨bu, i, none⟩) (mm + 2 + 1) (nn + 1 - i)) := (kn.old 14 (by kernel_rfl)).trans rfl
            refine want_ rfl ?_
            exact val_ (v := .slice (some ⟨bu, i, none⟩) (mm + 2 + 1) (nn + 1 - i)) (by simp [go_sem, execOp, evr_, e14]) (hK.out s _ (fun _ _ => rfl) hI)
          refine VSteps.cons rfl (fun x L s wx K kn hL hp hI hK => ?_) ?_
          · have e7 : x[7]? = some (.int .i64 ((mm : Int) + 2)) := (kn.old 7 (by kernel_rfl)).trans rfl
            refine want_ rfl ?_
            exact val_ (v := .int .i64 ((mm : Int) + 2)) (by simp [go_sem, execOp, evr_, e7]) (hK.out s _ (fun _ _ => rfl) hI)
          refine VSteps.cons rfl (fun x L s wx K kn hL hp hI hK => ?_) ?_
          · have e67 : x[67]? = some (.slice (some ⟨bu, i, none⟩) (mm + 2 + 1) (nn + 1 - i)) := kn.got 3 67 (hp ⟨3, .data⟩ (by simp) rfl) rfl
            have e68 : x[68]? = some (.int .i64 ((mm : Int) + 2)) := kn.got 4 68 (hp ⟨4, .data⟩ (by simp) rfl) rfl
            refine want_ rfl ?_
            exact val_ (v := .pointer (some ⟨bu, i + (mm + 2), none⟩)) (by simp [go_sem, execOp, evr_, e67, e68, y1, y2, y3, y4, j4, j6, j7, m6, m7, z1, z2, z3, z4, z5, z6, i0, i16, t1, t2, t3, t4, t5, t6, t7, t8, t9, t10, t11, t12]) (hK.out s _ (fun _ _ => rfl) hI)
          refine VSteps.cons rfl (fun x L s wx K kn hL hp hI hK => ?_) ?_
          · have e69 : x[69]? = some (.pointer (some ⟨bu, i + (mm + 2), none⟩)) := kn.got 5 69 (hp ⟨5, .data⟩ (by simp) rfl) rfl
            refine want_ rfl ?_
            obtain ⟨FU, GU, FQ, GQ, C1, C2, KV, KR, K2, K3, BW⟩ := hI
            have n28 : L 28 = false := by
              cases h : L 28 with
              | false => rfl
              | true => exact absurd (C2 (C1 h)).1 (by simp [hL])
            have cA := (FU n28).cell (i + (mm + 2))
            rw [U_at (by rw [hl]; omega)] at cA
            exact valw_ (v := .int .u64 (dg l (i + (mm + 2)))) (w' := wx) (by simp [go_sem, execOp, evr_, e69, cA]) (hK.out s _ (fun _ _ => rfl) ⟨FU, GU, FQ, GQ, C1, fun h => ⟨rfl, (C2 h).2⟩, KV, KR, K2, K3, BW⟩)
          refine VSteps.cons rfl (fun x L s wx K kn hL hp hI hK => ?_) ?_
          · have e14 : x[14]? = some (.slice (some ⟨bu, i, none⟩) (mm + 2 + 1) (nn + 1 - i)) := (kn.old 14 (by kernel_rfl)).trans rfl
            refine want_ rfl ?_
            exact val_ (v := .slice (some ⟨bu, i, none⟩) (mm + 2 + 1) (nn + 1 - i)) (by simp [go_sem, execOp, evr_, e14]) (hK.out s _ (fun _ _ => rfl) hI)
          refine VSteps.cons rfl (fun x L s wx K kn hL hp hI hK => ?_) ?_
          · have e7 : x[7]? = some (.int .i64 ((mm : Int) + 2)) := (kn.old 7 (by kernel_rfl)).trans rfl
            refine want_ rfl ?_
            exact val_ (v := .int .i64 ((mm : Int) + 2)) (by simp [go_sem, execOp, evr_, e7]) (hK.out s _ (fun _ _ => rfl) hI)
          refine VSteps.cons rfl (fun x L s wx K kn hL hp hI hK => ?_) ?_
          · have e72 : x[72]? = some (.int .i64 ((mm : Int) + 2)) := kn.got 8 72 (hp ⟨8, .data⟩ (by simp) rfl) rfl
            refine want_ rfl ?_
            exact val_ (v := .int .i64 ((mm : Int) + 1)) (by simp [go_sem, execOp, evr_, e72, y1, y2, y3, y4, j4, j6, j7, m6, m7, z1, z2, z3, z4, z5, z6, i0, i16, t1, t2, t3, t4, t5, t6, t7, t8, t9, t10, t11, t12]) (hK.out s _ (fun _ _ => rfl) hI)
          refine VSteps.cons rfl (fun x L s wx K kn hL hp hI hK => ?_) ?_
          · have e71 : x[71]? = some (.slice (some ⟨bu, i, none⟩) (mm + 2 + 1) (nn + 1 - i)) := kn.got 7 71 (hp ⟨7, .data⟩ (by simp) rfl) rfl
            have e73 : x[73]? = some (.int .i64 ((mm : Int) + 1)) := kn.got 9 73 (hp ⟨9, .data⟩ (by simp) rfl) rfl
            refine want_ rfl ?_
            exact val_ (v := .pointer (some ⟨bu, i + (mm + 1), none⟩)) (by simp [go_sem, execOp, evr_, e71, e73, y1, y2, y3, y4, j4, j6, j7, m6, m7, z1, z2, z3, z4, z5, z6, i0, i16, t1, t2, t3, t4, t5, t6, t7, t8, t9, t10, t11, t12]) (hK.out s _ (fun _ _ => rfl) hI)
          refine VSteps.cons rfl (fun x L s wx K kn hL hp hI hK => ?_) ?_
          · have e74 : x[74]? = some (.pointer (some ⟨bu, i + (mm + 1), none⟩)) := kn.got 10 74 (hp ⟨10, .data⟩ (by simp) rfl) rfl
            refine want_ rfl ?_
            obtain ⟨FU, GU, FQ, GQ, C1, C2, KV, KR, K2, K3, BW⟩ := hI
            have n28 : L 28 = false := by
              cases h : L 28 with
              | false => rfl
              | true => exact absurd (C2 (C1 h)).2.1 (by simp [hL])
            have cA := (FU n28).cell (i + (mm + 1))
            rw [U_at (by rw [hl]; omega)] at cA
            exact valw_ (v := .int .u64 (dg l (i + (mm + 1)))) (w' := wx) (by simp [go_sem, execOp, evr_, e74, cA]) (hK.out s _ (fun _ _ => rfl) ⟨FU, GU, FQ, GQ, C1, fun h => ⟨(C2 h).1, rfl, (C2 h).2.2⟩, KV, KR, K2, K3, BW⟩)
          refine VSteps.cons rfl (fun x L s wx K kn hL hp hI hK => ?_) ?_
          · have e14 : x[14]? = some (.slice (some ⟨bu, i, none⟩) (mm + 2 + 1) (nn + 1 - i)) := (kn.old 14 (by kernel_rfl)).trans rfl
            refine want_ rfl ?_
            exact val_ (v := .slice (some ⟨bu, i, none⟩) (mm + 2 + 1) (nn + 1 - i)) (by simp [go_sem, execOp, evr_, e14]) (hK.out s _ (fun _ _ => rfl) hI)
          refine VSteps.cons rfl (fun x L s wx K kn hL hp hI hK => ?_) ?_
          · have e7 : x[7]? = some (.int .i64 ((mm : Int) + 2)) := (kn.old 7 (by kernel_rfl)).trans rfl
            refine want_ rfl ?_
            exact val_ (v := .int .i64 ((mm : Int) + 2)) (by simp [go_sem, execOp, evr_, e7]) (hK.out s _ (fun _ _ => rfl) hI)
          refine VSteps.cons rfl (fun x L s wx K kn hL hp hI hK => ?_) ?_
          · have e77 : x[77]? = some (.int .i64 ((mm : Int) + 2)) := kn.got 13 77 (hp ⟨13, .data⟩ (by simp) rfl) rfl
            refine want_ rfl ?_
            exact val_ (v := .int .i64 (mm : Int)) (by simp [go_sem, execOp, evr_, e77, y1, y2, y3, y4, j4, j6, j7, m6, m7, z1, z2, z3, z4, z5, z6, i0, i16, t1, t2, t3, t4, t5, t6, t7, t8, t9, t10, t11, t12]) (hK.out s _ (fun _ _ => rfl) hI)
          refine VSteps.cons rfl (fun x L s wx K kn hL hp hI hK => ?_) ?_
          · have e76 : x[76]? = some (.slice (some ⟨bu, i, none⟩) (mm + 2 + 1) (nn + 1 - i)) := kn.got 12 76 (hp ⟨12, .data⟩ (by simp) rfl) rfl
            have e78 : x[78]? = some (.int .i64 (mm : Int)) := kn.got 14 78 (hp ⟨14, .data⟩ (by simp) rfl) rfl
            refine want_ rfl ?_
            exact val_ (v := .pointer (some ⟨bu, i + mm, none⟩)) (by simp [go_sem, execOp, evr_, e76, e78, y1, y2, y3, y4, j4, j6, j7, m6, m7, z1, z2, z3, z4, z5, z6, i0, i16, t1, t2, t3, t4, t5, t6, t7, t8, t9, t10, t11, t12]) (hK.out s _ (fun _ _ => rfl) hI)
          refine VSteps.cons rfl (fun x L s wx K kn hL hp hI hK => ?_) ?_
          · have e79 : x[79]? = some (.pointer (some ⟨bu, i + mm, none⟩)) := kn.got 15 79 (hp ⟨15, .data⟩ (by simp) rfl) rfl
            refine want_ rfl ?_
            obtain ⟨FU, GU, FQ, GQ, C1, C2, KV, KR, K2, K3, BW⟩ := hI
            have n28 : L 28 = false := by
              cases h : L 28 with
              | false => rfl
              | true => exact absurd (C2 (C1 h)).2.2 (by simp [hL])
            have cA := (FU n28).cell (i + mm)
            rw [U_at (by rw [hl]; omega)] at cA
            exact valw_ (v := .int .u64 (dg l (i + mm))) (w' := wx) (by simp [go_sem, execOp, evr_, e79, cA]) (hK.out s _ (fun _ _ => rfl) ⟨FU, GU, FQ, GQ, C1, fun h => ⟨(C2 h).1, (C2 h).2.1, rfl⟩, KV, KR, K2, K3, BW⟩)
          refine VSteps.cons rfl (fun x L s wx K kn hL hp hI hK => ?_) ?_
          · have e10 : x[10]? = some (.slice (some ⟨bv, 0, none⟩) (mm + 2) (mm + 2 + 1)) := (kn.old 10 (by kernel_rfl)).trans rfl
            refine want_ rfl ?_
            exact val_ (v := .slice (some ⟨bv, 0, none⟩) (mm + 2) (mm + 2 + 1)) (by simp [go_sem, execOp, evr_, e10]) (hK.out s _ (fun _ _ => rfl) hI)
          refine VSteps.cons rfl (fun x L s wx K kn hL hp hI hK => ?_) ?_
          · have e7 : x[7]? = some (.int .i64 ((mm : Int) + 2)) := (kn.old 7 (by kernel_rfl)).trans rfl
            refine want_ rfl ?_
            exact val_ (v := .int .i64 ((mm : Int) + 2)) (by simp [go_sem, execOp, evr_, e7]) (hK.out s _ (fun _ _ => rfl) hI)
          refine VSteps.cons rfl (fun x L s wx K kn hL hp hI hK => ?_) ?_
          · have e82 : x[82]? = some (.int .i64 ((mm : Int) + 2)) := kn.got 18 82 (hp ⟨18, .data⟩ (by simp) rfl) rfl
            refine want_ rfl ?_
            exact val_ (v := .int .i64 ((mm : Int) + 1)) (by simp [go_sem, execOp, evr_, e82, y1, y2, y3, y4, j4, j6, j7, m6, m7, z1, z2, z3, z4, z5, z6, i0, i16, t1, t2, t3, t4, t5, t6, t7, t8, t9, t10, t11, t12]) (hK.out s _ (fun _ _ => rfl) hI)
          refine VSteps.cons rfl (fun x L s wx K kn hL hp hI hK => ?_) ?_
          · have e81 : x[81]? = some (.slice (some ⟨bv, 0, none⟩) (mm + 2) (mm + 2 + 1)) := kn.got 17 81 (hp ⟨17, .data⟩ (by simp) rfl) rfl
            have e83 : x[83]? = some (.int .i64 ((mm : Int) + 1)) := kn.got 19 83 (hp ⟨19, .data⟩ (by simp) rfl) rfl
            refine want_ rfl ?_
            exact val_ (v := .pointer (some ⟨bv, mm + 1, none⟩)) (by simp [go_sem, execOp, evr_, e81, e83, y1, y2, y3, y4, j4, j6, j7, m6, m7, z1, z2, z3, z4, z5, z6, i0, i16, t1, t2, t3, t4, t5, t6, t7, t8, t9, t10, t11, t12]) (hK.out s _ (fun _ _ => rfl) hI)
          refine VSteps.cons rfl (fun x L s wx K kn hL hp hI hK => ?_) ?_
          · have e84 : x[84]? = some (.pointer (some ⟨bv, mm + 1, none⟩)) := kn.got 20 84 (hp ⟨20, .data⟩ (by simp) rfl) rfl
            refine want_ rfl ?_
            obtain ⟨FU, GU, FQ, GQ, C1, C2, KV, KR, K2, K3, BW⟩ := hI
            have cA := KV.cell (mm + 1)
            rw [U_at (by omega)] at cA
            exact valw_ (v := .int .u64 (dg v (mm + 1))) (w' := wx) (by simp [go_sem, execOp, evr_, e84, cA]) (hK.out s _ (fun _ _ => rfl) ⟨FU, GU, FQ, GQ, C1, C2, KV, KR, K2, K3, BW⟩)
          refine VSteps.cons rfl (fun x L s wx K kn hL hp hI hK => ?_) ?_
          · have e10 : x[10]? = some (.slice (some ⟨bv, 0, none⟩) (mm + 2) (mm + 2 + 1)) := (kn.old 10 (by kernel_rfl)).trans rfl
            refine want_ rfl ?_
            exact val_ (v := .slice (some ⟨bv, 0, none⟩) (mm + 2) (mm + 2 + 1)) (by simp [go_sem, execOp, evr_, e10]) (hK.out s _ (fun _ _ => rfl) hI)
          refine VSteps.cons rfl (fun x L s wx K kn hL hp hI hK => ?_) ?_
          · have e7 : x[7]? = some (.int .i64 ((mm : Int) + 2)) := (kn.old 7 (by kernel_rfl)).trans rfl
            refine want_ rfl ?_
            exact val_ (v := .int .i64 ((mm : Int) + 2)) (by simp [go_sem, execOp, evr_, e7]) (hK.out s _ (fun _ _ => rfl) hI)
          refine VSteps.cons rfl (fun x L s wx K kn hL hp hI hK => ?_) ?_
          · have e87 : x[87]? = some (.int .i64 ((mm : Int) + 2)) := kn.got 23 87 (hp ⟨23, .data⟩ (by simp) rfl) rfl
            refine want_ rfl ?_
            exact val_ (v := .int .i64 (mm : Int)) (by simp [go_sem, execOp, evr_, e87, y1, y2, y3, y4, j4, j6, j7, m6, m7, z1, z2, z3, z4, z5, z6, i0, i16, t1, t2, t3, t4, t5, t6, t7, t8, t9, t10, t11, t12]) (hK.out s _ (fun _ _ => rfl) hI)
          refine VSteps.cons rfl (fun x L s wx K kn hL hp hI hK => ?_) ?_
          · have e86 : x[86]? = some (.slice (some ⟨bv, 0, none⟩) (mm + 2) (mm + 2 + 1)) := kn.got 22 86 (hp ⟨22, .data⟩ (by simp) rfl) rfl
            have e88 : x[88]? = some (.int .i64 (mm : Int)) := kn.got 24 88 (hp ⟨24, .data⟩ (by simp) rfl) rfl
            refine want_ rfl ?_
            exact val_ (v := .pointer (some ⟨bv, mm, none⟩)) (by simp [go_sem, execOp, evr_, e86, e88, y1, y2, y3, y4, j4, j6, j7, m6, m7, z1, z2, z3, z4, z5, z6, i0, i16, t1, t2, t3, t4, t5, t6, t7, t8, t9, t10, t11, t12]) (hK.out s _ (fun _ _ => rfl) hI)
          refine VSteps.cons rfl (fun x L s wx K kn hL hp hI hK => ?_) ?_
          · have e89 : x[89]? = some (.pointer (some ⟨bv, mm, none⟩)) := kn.got 25 89 (hp ⟨25, .data⟩ (by simp) rfl) rfl
            refine want_ rfl ?_
            obtain ⟨FU, GU, FQ, GQ, C1, C2, KV, KR, K2, K3, BW⟩ := hI
            have cA := KV.cell mm
            rw [U_at (by omega)] at cA
            exact valw_ (v := .int .u64 (dg v mm)) (w' := wx) (by simp [go_sem, execOp, evr_, e89, cA]) (hK.out s _ (fun _ _ => rfl) ⟨FU, GU, FQ, GQ, C1, C2, KV, KR, K2, K3, BW⟩)
          refine VSteps.cons rfl (fun x L s wx K kn hL hp hI hK => ?_) ?_
          · have e70 : x[70]? = some (.int .u64 (dg l (i + (mm + 2)))) := kn.got 6 70 (hp ⟨6, .data⟩ (by simp) rfl) rfl
            have e75 : x[75]? = some (.int .u64 (dg l (i + (mm + 1)))) := kn.got 11 75 (hp ⟨11, .data⟩ (by simp) rfl) rfl
            have e80 : x[80]? = some (.int .u64 (dg l (i + mm))) := kn.got 16 80 (hp ⟨16, .data⟩ (by simp) rfl) rfl
            have e85 : x[85]? = some (.int .u64 (dg v (mm + 1))) := kn.got 21 85 (hp ⟨21, .data⟩ (by simp) rfl) rfl
            have e90 : x[90]? = some (.int .u64 (dg v mm)) := kn.got 26 90 (hp ⟨26, .data⟩ (by simp) rfl) rfl
            refine want_ rfl ?_
            refine goesK_ Try.func62 (by kernel_rfl) rfl #[.int .u64 (dg l (i + (mm + 2))), .int .u64 (dg l (i + (mm + 1))), .int .u64 (dg l (i + mm)), .int .u64 (dg v (mm + 1)), .int .u64 (dg v mm)] rfl (by simp only [List.map_toArray, List.map_cons, List.map_nil, evr_, ev_ e70, ev_ e75, ev_ e80, ev_ e85, ev_ e90]) ((GS _).mono ?_)
            rintro e w' ⟨rfl, ⟨z7, rfl⟩⟩
            obtain ⟨FU, GU, FQ, GQ, C1, C2, KV, KR, K2, K3, BW⟩ := hI
            exact ⟨_, rfl, hK.out s _ (fun _ _ => rfl) ⟨fun h => Blk.drewN (FU h) z7, fun h => absurd (C1 h) (by simp [hL]), fun h => Blk.drewN (FQ h) z7, fun h => Blk.drewN (GQ h) z7, fun _ => rfl, fun _ => ⟨(hp ⟨6, .data⟩ (by simp) rfl), (hp ⟨11, .data⟩ (by simp) rfl), (hp ⟨16, .data⟩ (by simp) rfl)⟩, Blk.drewN KV z7, Blk.drewN KR z7, Blk.drewN K2 z7, Blk.drewN K3 z7, below_drewN BW z7⟩⟩
          refine VSteps.cons rfl (fun x L s wx K kn hL hp hI hK => ?_) ?_
          · have e65 : x[65]? = some (.slice (some ⟨bu, i, none⟩) (mm + 2 + 1) (nn + 1 - i)) := kn.got 1 65 (hp ⟨1, .data⟩ (by simp) rfl) rfl
            have e66 : x[66]? = some (.slice (some ⟨bv, 0, none⟩) (mm + 2) (mm + 2 + 1)) := kn.got 2 66 (hp ⟨2, .data⟩ (by simp) rfl) rfl
            have e91 : x[91]? = some (.int .u64 g) := kn.got 27 91 (hp ⟨27, .data⟩ (by simp) rfl) rfl
            refine want_ rfl ?_
            obtain ⟨FU, GU, FQ, GQ, C1, C2, KV, KR, K2, K3, BW⟩ := hI
            refine goesK_ Try.func61 (by kernel_rfl) rfl #[.slice (some ⟨bu, i, none⟩) (mm + 2 + 1) (nn + 1 - i), .slice (some ⟨bv, 0, none⟩) (mm + 2) (mm + 2 + 1), .int .u64 g] rfl (by simp only [List.map_toArray, List.map_cons, List.map_nil, evr_, ev_ e65, ev_ e66, ev_ e91]) ((TK _ _ _ (FU hL) KV).mono ?_)
            rintro e w' ⟨l2, rfl, n2, y2, o2, h2, kU2, T2⟩
            exact ⟨_, rfl, hK.out s _ (fun _ _ => rfl) ⟨fun h => absurd h (by simp [YInv.up]), fun _ => ⟨l2, n2, y2, o2, h2, kU2⟩, fun h => T2.blk (FQ h) qu, fun h => T2.blk (GQ h) qu, fun _ => (hp ⟨27, .data⟩ (by simp) rfl), C2, T2.blk KV (Ne.symm wn), T2.blk KR ru, T2.blk K2 u2, T2.blk K3 u3, T2.below BW wu⟩⟩
          refine VSteps.cons rfl (fun x L s wx K kn hL hp hI hK => ?_) ?_
          · have e11 : x[11]? = some (.pointer (some ⟨bq, 0, none⟩)) := (kn.old 11 (by kernel_rfl)).trans rfl
            have e64 : x[64]? = some (.int .i64 (i : Int)) := kn.got 0 64 (hp ⟨0, .data⟩ (by simp) rfl) rfl
            refine want_ rfl ?_
            exact val_ (v := .pointer (some ⟨bq, i, none⟩)) (by simp [go_sem, execOp, evr_, e11, e64, y1, y2, y3, y4, j4, j6, j7, m6, m7, z1, z2, z3, z4, z5, z6, i0, i16, t1, t2, t3, t4, t5, t6, t7, t8, t9, t10, t11, t12]) (hK.out s _ (fun _ _ => rfl) hI)
          refine VSteps.cons rfl (fun x L s wx K kn hL hp hI hK => ?_) ?_
          · have e93 : x[93]? = some (.pointer (some ⟨bq, i, none⟩)) := kn.got 29 93 (hp ⟨29, .data⟩ (by simp) rfl) rfl
            have e92 : x[92]? = some (.int .u64 (wv l i (mm + 2 + 1) / pv v (mm + 2))) := kn.got 28 92 (hp ⟨28, .data⟩ (by simp) rfl) rfl
            refine want_ rfl ?_
            obtain ⟨FU, GU, FQ, GQ, C1, C2, KV, KR, K2, K3, BW⟩ := hI
            have cA := (FQ hL).cell i
            rw [U_at (by rw [hq]; omega)] at cA
            have fA := (FQ hL).free i
            exact skipw_ (w' := wx.setCell ⟨bq, i, none⟩ (.int .u64 (wv l i (mm + 2 + 1) / pv v (mm + 2)))) (by simp [go_sem, execOp, evr_, e93, e92, cA, fA]) (hK.out s _ (fun _ _ => rfl) ⟨fun h => Blk.setOther (FU h) (p := ⟨bq, i, none⟩) (Ne.symm uq) _, fun h => (GU h).elim fun l2 r => ⟨l2, r.1, r.2.1, r.2.2.1, r.2.2.2.1, Blk.setOther r.2.2.2.2 (p := ⟨bq, i, none⟩) (Ne.symm uq) _⟩, fun h => absurd h (by simp [YInv.up]), fun _ => (by rw [← U_set]; exact (FQ hL).set _ _), C1, C2, Blk.setOther KV (p := ⟨bq, i, none⟩) (Ne.symm vq) _, Blk.setOther KR (p := ⟨bq, i, none⟩) (Ne.symm rq) _, Blk.setOther K2 (p := ⟨bq, i, none⟩) (Ne.symm q2) _, Blk.setOther K3 (p := ⟨bq, i, none⟩) (Ne.symm q3) _, Below.setCell BW (p := ⟨bq, i, none⟩) wq _⟩)
          exact VSteps.nil
        case finT =>
          intro s wx hI
          simp only [puts, VO, List.getD_cons_zero, List.getD_cons_succ, List.set_cons_zero, List.set_cons_succ]
          obtain ⟨FU, GU, FQ, GQ, C1, C2, KV, KR, K2, K3, BW⟩ := hI
          obtain ⟨l2, n2, y2, o2, h2, kU3⟩ := GU rfl
          have kQ3 := GQ rfl
          clear FU GU FQ GQ C1 C2
          have NX := Dv.step HX.out.1 HX.out.2.1 (Int.le_of_lt HX.out.2.2.1) (by omega) n2 y2 o2 h2
          have hj2 : i ≤ nn - (mm + 2) + 1 := by have := HX.out.2.2.2; omega
          clear kU kV kQ kR k2 k3 b GS TK HX
          go_wp2_with fail
          exact ⟨⟨i, l2, _, hj2, rfl, NX, kU3, KV, kQ3, KR, K2, K3, BW⟩, by simp [intOf]⟩
end Go.Proofs.Ytpdljoalfmgfiaa.YWide
