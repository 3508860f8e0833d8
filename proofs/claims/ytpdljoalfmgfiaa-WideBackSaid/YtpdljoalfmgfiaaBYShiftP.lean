/- Lean functions, contracts and lemmas that this claim needs. No condition. -/
import Derived.Test.YtpdljoalfmgfiaaBQWdx0
import Derived.Test.YtpdljoalfmgfiaaBQWdx1
import Derived.Test.YtpdljoalfmgfiaaBQWdx2
namespace Go.Proofs.Ytpdljoalfmgfiaa.QWd
open Go.Proofs.Ytpdljoalfmgfiaa.XCarry Go.RowKit Go.Proofs.YtpdljoalfmgfiaaW.PrintWords Go.Proofs.YtpdljoalfmgfiaaW.PrintLast Go.Proofs.YtpdljoalfmgfiaaW.PrintMore
attribute [local go_sem] max2_int min2_int max_two min_two max_three min_three max_four min_four   -- for this text's walks alone
set_option linter.unusedVariables false
set_option linter.unusedSimpArgs false
def wide_shift.l0 : Nat → Int → List Int → List Int → Int → Int → Option (List Int)
  | 0, _, _, _, _, _ => none
  | k + 1, x1, x5, x12, x13, x14 => if x14 < x13 then (if 0 ≤ x14 then (if x14 < (x12.length : Int) then (if x14 < (x5.length : Int) then (if 0 ≤ (IntKind.u64.wrap (x1)) then ((some (x5.set (x14 : Int).toNat (Go.bits .or .u64 (rd x5 x14) (shl .u64 (rd x12 x14) (IntKind.u64.wrap (x1)))) : List Int)).bind fun y109 => (if x1 > 0 then (if 0 ≤ (IntKind.u64.wrap (wrap64 (64 - x1))) then (if 0 ≤ (wrap64 (x14 + 1)) then (if (wrap64 (x14 + 1)) < (x5.length : Int) then (wide_shift.l0 k x1 (y109.set ((wrap64 (x14 + 1)) : Int).toNat (shr .u64 (rd x12 x14) (IntKind.u64.wrap (wrap64 (64 - x1))))) x12 x13 (wrap64 (x14 + 1))) else (none)) else (none)) else (none)) else (wide_shift.l0 k x1 y109 x12 x13 (wrap64 (x14 + 1))))) else (none)) else (none)) else (none)) else (none)) else (some x5)
def wide_shift.f (k : Nat) (l0 : List Int) (a1 : Int) : Option (List Int) := if 0 ≤ (wrap64 ((l0.length : Int) + 1)) then (if (wrap64 ((l0.length : Int) + 1) : Int).toNat ≤ 35184372088832 then (wide_shift.l0 k a1 (List.replicate (wrap64 ((l0.length : Int) + 1) : Int).toNat 0) l0 (l0.length : Int) 0) else (none)) else (none)
theorem wide_shift.mono_l : ∀ k, (∀ y0 y1 y2 y3 y4, LeO (wide_shift.l0 k y0 y1 y2 y3 y4) (wide_shift.l0 (k + 1) y0 y1 y2 y3 y4))
  | 0 => fun _ _ _ _ _ r h => by simp [wide_shift.l0] at h
  | k + 1 => by
    have ih0 := wide_shift.mono_l k
    · intro y0 y1 y2 y3 y4
      unfold wide_shift.l0
      repeat' first
      | (with_reducible exact ih0 _ _ _ _ _)
      | (with_reducible exact LeO.refl _)
      | (with_reducible exact LeO.none _)
      | (with_reducible refine LeO.ite ?_ ?_)
      | (with_reducible refine LeO.bind ?_ (fun _ => ?_))
      | exact ih0 _ _ _ _ _
      | exact LeO.none _
      | refine LeO.ite ?_ ?_
      | refine LeO.bind ?_ (fun _ => ?_)
theorem wide_shift.mono : ∀ a0 a1 k, LeO (wide_shift.f k a0 a1) (wide_shift.f (k + 1) a0 a1) := by
  intro a0 a1 k
  have ih0 := wide_shift.mono_l k
  unfold wide_shift.f
  repeat' first
      | (with_reducible exact ih0 _ _ _ _ _)
      | (with_reducible exact LeO.refl _)
      | (with_reducible exact LeO.none _)
      | (with_reducible refine LeO.ite ?_ ?_)
      | (with_reducible refine LeO.bind ?_ (fun _ => ?_))
      | exact ih0 _ _ _ _ _
      | exact LeO.none _
      | refine LeO.ite ?_ ?_
      | refine LeO.bind ?_ (fun _ => ?_)
set_option maxHeartbeats 8000000 in
set_option maxRecDepth 100000 in
theorem wide_shift.calls (k : Nat) (A0 : Option Addr) (c0 : Nat) (l0 : List Int) (a1 : Int) (r : List Int) (w : World) (hr0 : Kd.C (Kd.int .u64) w A0 l0.length l0) (hc0 : l0.length ≤ c0) (h : wide_shift.f k l0 a1 = some r) :
    Calls Try.prog 60 #[.slice A0 l0.length c0, .int .i64 a1] w fun e w' => ∃ v0_ : Value, e = .returned (v0_) ∧ Kd.R (Kd.int .u64) 25 w' w.heap.size (fun _ => True) v0_ r ∧ Below w.heap.size w w' := by
  have HR0 := Aside0.mk hr0
  have HC0 := Aside0.mk hc0
  clear hr0 hc0
  have HB := Aside0.mk (Below.refl w.heap.size w)
  have H : (if 0 ≤ (wrap64 ((l0.length : Int) + 1)) then (if (wrap64 ((l0.length : Int) + 1) : Int).toNat ≤ 35184372088832 then (wide_shift.l0 k a1 (List.replicate (wrap64 ((l0.length : Int) + 1) : Int).toNat 0) l0 (l0.length : Int) 0) else (none)) else (none)) = some r := h
  clear h
  obtain ⟨ji3, hji3⟩ : ∃ j_ : Int, (wrap64 ((l0.length : Int) + 1)) = j_ := ⟨_, rfl⟩
  replace H : (if 0 ≤ (ji3) then (if (ji3 : Int).toNat ≤ 35184372088832 then (wide_shift.l0 k a1 (List.replicate (ji3 : Int).toNat 0) l0 (l0.length : Int) 0) else (none)) else (none)) = some r := by first | (rw [hji3] at H; exact H) | (simp only [hji3] at H ⊢; exact H)
  have hji3w : (IntKind.i64.wrap ((l0.length : Int) + 1)) = ji3 := (i64_w _).trans hji3
  by_cases c4 : 0 ≤ (ji3)
  · rw [if_pos c4] at H
    have c4b0 := eq_true c4
    have c4b1 : decide (0 ≤ (ji3)) = true := decide_eq_true c4
    clear c4
    by_cases c5 : (ji3 : Int).toNat ≤ 35184372088832
    · rw [if_pos c5] at H
      have c5b0 := eq_true c5
      have c5b1 : decide ((ji3 : Int).toNat ≤ 35184372088832) = true := decide_eq_true c5
      clear c5
      obtain ⟨y104, hy104⟩ : ∃ y_ : List Int, y_ = (List.replicate (ji3 : Int).toNat 0) := ⟨_, rfl⟩
      replace H : (wide_shift.l0 k a1 y104 l0 (l0.length : Int) 0) = some r := by first | (rw [hy104]; with_reducible exact H) | (have H2_ := (Option.bind_some _ _).symm.trans H; rw [hy104]; with_reducible exact H2_) | (have H2_ := (Option.bind_some _ _).symm.trans H; with_reducible exact H2_) | with_reducible exact H | (rw [hy104]; exact H) | exact H
      have Ny104 := Aside0.mk hy104
      clear hy104
      have H' := Aside0.mk H
      clear H
      go_enter Try.func60, Try.ntmps60
      go_wp2_with (first | ((with_reducible refine gate_dst (N := 11) rfl ?_); refine Kd.R_make (Kd.int .u64) _ 25 rfl (N := 11) rfl 22 _ _ rfl ji3 rfl rfl Try.underlying22 (.int .u64 0) 8 info25 rfl (by decide) (by omega) 0 (ok := fun _ => True) (okp := fun _ => True) rfl (fun _ hk => hk) trivial (of_decide_eq_true (by first | (with_reducible assumption) | assumption)) (Nat.le_trans (Nat.mul_le_mul_right _ (of_decide_eq_true (by first | (with_reducible assumption) | assumption) : ji3.toNat ≤ 35184372088832)) (by omega)) (Below.refl _ _) (Nat.le_refl _) ?_; intro v105 w6 ho7 hb hg_ hnew_; clear hg_ hnew_; (first | rw [← Ny104.out] at ho7 | (simp only [Int.reduceToNat] at ho7; rw [← Ny104.out] at ho7)); have n0_ := Aside0.mk (Kd.R_lower ho7 (below_size (by repeat (first | (with_reducible first | exact HB.out | apply below_alloc | apply pw_below_drewN | apply below_drew1) | exact HB.out)))); have n1_ := Aside0.mk (below_step (by repeat (first | (with_reducible first | exact HB.out | apply below_alloc | apply pw_below_drewN | apply below_drew1) | exact HB.out)) hb); clear HB; have HO106 := n0_; have HB := n1_; clear n0_ n1_; clear hb ho7))
      go_loopg [14] k (fun kq v14 w' => ∃ (x5_1 : List Int) (x14_1 : Int), v14 = .int .i64 x14_1 ∧ Aside0 (wide_shift.l0 kq a1 x5_1 l0 (l0.length : Int) x14_1 = some r) ∧ Aside0 (kq ≤ k) ∧ Aside0 (Kd.R (Kd.int .u64) 25 w' w.heap.size (fun _ => True) v105 x5_1) ∧ Aside0 (Below w.heap.size w w'))
      case atStart => exact ⟨(y104), (0), (by first | rfl | (simp; done) | (simp [*]; done) | (simp [nb1_, nb2_]; done)), H', ⟨Nat.le_refl _⟩, ⟨by (with_reducible repeat (first | apply Kd.R_alloc | apply Kd.R_drewN | apply Kd.R_drew)); exact HO106.out⟩, ⟨by repeat (first | (with_reducible first | exact HB.out | apply below_alloc | apply pw_below_drewN | apply below_drew1) | exact HB.out)⟩⟩
      case round =>
        clear H'
        try clear p2
        try clear c4
        try clear c4b0
        try clear c4b1
        try clear c5
        try clear c5b0
        try clear c5b1
        try clear c6
        try clear p6
        obtain ⟨x5_1, x14_1, rfl, HA, HK1, HO_5, HB⟩ := hrel
        cases gk with
        | zero => exact absurd HA.out (by simp [wide_shift.l0])
        | succ k1 =>
          have H := HA.out
          clear HA
          simp only [wide_shift.l0] at H
          by_cases c8 : x14_1 < (l0.length : Int)
          · rw [if_pos c8] at H
            have c8b0 : decide (x14_1 < (l0.length : Int)) = true := decide_eq_true c8
            clear c8
            by_cases c9 : 0 ≤ x14_1
            · rw [if_pos c9] at H
              have c9b0 : decide (0 ≤ x14_1) = true := decide_eq_true c9
              clear c9
              by_cases c10 : x14_1 < (l0.length : Int)
              · rw [if_pos c10] at H
                have c10b0 : decide (x14_1 < (l0.length : Int)) = true := decide_eq_true c10
                clear c10
                by_cases c11 : x14_1 < (x5_1.length : Int)
                · rw [if_pos c11] at H
                  have c11b0 : decide (x14_1 < (x5_1.length : Int)) = true := decide_eq_true c11
                  clear c11
                  obtain ⟨ji12, hji12⟩ : ∃ j_ : Int, (IntKind.u64.wrap (a1)) = j_ := ⟨_, rfl⟩
                  replace H : (if 0 ≤ (ji12) then ((some (x5_1.set (x14_1 : Int).toNat (Go.bits .or .u64 (rd x5_1 x14_1) (shl .u64 (rd l0 x14_1) (ji12))) : List Int)).bind fun y109 => (if a1 > 0 then (if 0 ≤ (IntKind.u64.wrap (wrap64 (64 - a1))) then (if 0 ≤ (wrap64 (x14_1 + 1)) then (if (wrap64 (x14_1 + 1)) < (x5_1.length : Int) then (wide_shift.l0 k1 a1 (y109.set ((wrap64 (x14_1 + 1)) : Int).toNat (shr .u64 (rd l0 x14_1) (IntKind.u64.wrap (wrap64 (64 - a1))))) l0 (l0.length : Int) (wrap64 (x14_1 + 1))) else (none)) else (none)) else (none)) else (wide_shift.l0 k1 a1 y109 l0 (l0.length : Int) (wrap64 (x14_1 + 1))))) else (none)) = some r := by first | (rw [hji12] at H; exact H) | (simp only [hji12] at H ⊢; exact H)
                  by_cases c13 : 0 ≤ (ji12)
                  · rw [if_pos c13] at H
                    have c13b0 := eq_true c13
                    have c13b1 : decide (0 ≤ (ji12)) = true := decide_eq_true c13
                    clear c13
                    obtain ⟨ji14, hji14⟩ : ∃ j_ : Int, (shl .u64 (rd l0 x14_1) (ji12)) = j_ := ⟨_, rfl⟩
                    replace H : ((some (x5_1.set (x14_1 : Int).toNat (Go.bits .or .u64 (rd x5_1 x14_1) (ji14)) : List Int)).bind fun y109 => (if a1 > 0 then (if 0 ≤ (IntKind.u64.wrap (wrap64 (64 - a1))) then (if 0 ≤ (wrap64 (x14_1 + 1)) then (if (wrap64 (x14_1 + 1)) < (x5_1.length : Int) then (wide_shift.l0 k1 a1 (y109.set ((wrap64 (x14_1 + 1)) : Int).toNat (shr .u64 (rd l0 x14_1) (IntKind.u64.wrap (wrap64 (64 - a1))))) l0 (l0.length : Int) (wrap64 (x14_1 + 1))) else (none)) else (none)) else (none)) else (wide_shift.l0 k1 a1 y109 l0 (l0.length : Int) (wrap64 (x14_1 + 1))))) = some r := by first | (rw [hji14] at H; exact H) | (simp only [hji14] at H ⊢; exact H)
                    have hji14_ : (IntKind.u64.wrap ((rd l0 x14_1) * 2 ^ min (ji12).toNat 64)) = ji14 := hji14
                    have hji14z : (ji12) ≤ 64 → (IntKind.u64.wrap ((rd l0 x14_1) * 2 ^ (ji12).toNat)) = ji14 := shl_small hji14
                    obtain ⟨y109, hy109⟩ : ∃ y_ : List Int, y_ = (x5_1.set (x14_1 : Int).toNat (Go.bits .or .u64 (rd x5_1 x14_1) (ji14))) := ⟨_, rfl⟩
                    replace H : (if a1 > 0 then (if 0 ≤ (IntKind.u64.wrap (wrap64 (64 - a1))) then (if 0 ≤ (wrap64 (x14_1 + 1)) then (if (wrap64 (x14_1 + 1)) < (x5_1.length : Int) then (wide_shift.l0 k1 a1 (y109.set ((wrap64 (x14_1 + 1)) : Int).toNat (shr .u64 (rd l0 x14_1) (IntKind.u64.wrap (wrap64 (64 - a1))))) l0 (l0.length : Int) (wrap64 (x14_1 + 1))) else (none)) else (none)) else (none)) else (wide_shift.l0 k1 a1 y109 l0 (l0.length : Int) (wrap64 (x14_1 + 1)))) = some r := by first | (rw [hy109]; with_reducible exact H) | (have H2_ := (Option.bind_some _ _).symm.trans H; rw [hy109]; with_reducible exact H2_) | (have H2_ := (Option.bind_some _ _).symm.trans H; with_reducible exact H2_) | with_reducible exact H | (rw [hy109]; exact H) | exact H
                    have Ny109 := Aside0.mk hy109
                    clear hy109
                    by_cases c16 : a1 > 0
                    · rw [if_pos c16] at H
                      have c16b0 : decide (0 < a1) = true := decide_eq_true c16
                      clear c16
                      obtain ⟨ji17, hji17⟩ : ∃ j_ : Int, (IntKind.u64.wrap (wrap64 (64 - a1))) = j_ := ⟨_, rfl⟩
                      replace H : (if 0 ≤ (ji17) then (if 0 ≤ (wrap64 (x14_1 + 1)) then (if (wrap64 (x14_1 + 1)) < (x5_1.length : Int) then (wide_shift.l0 k1 a1 (y109.set ((wrap64 (x14_1 + 1)) : Int).toNat (shr .u64 (rd l0 x14_1) (ji17))) l0 (l0.length : Int) (wrap64 (x14_1 + 1))) else (none)) else (none)) else (none)) = some r := by first | (rw [hji17] at H; exact H) | (simp only [hji17] at H ⊢; exact H)
                      by_cases c18 : 0 ≤ (ji17)
                      · rw [if_pos c18] at H
                        have c18b0 := eq_true c18
                        have c18b1 : decide (0 ≤ (ji17)) = true := decide_eq_true c18
                        clear c18
                        obtain ⟨ji19, hji19⟩ : ∃ j_ : Int, (shr .u64 (rd l0 x14_1) (ji17)) = j_ := ⟨_, rfl⟩
                        replace H : (if 0 ≤ (wrap64 (x14_1 + 1)) then (if (wrap64 (x14_1 + 1)) < (x5_1.length : Int) then (wide_shift.l0 k1 a1 (y109.set ((wrap64 (x14_1 + 1)) : Int).toNat (ji19)) l0 (l0.length : Int) (wrap64 (x14_1 + 1))) else (none)) else (none)) = some r := by first | (rw [hji19] at H; exact H) | (simp only [hji19] at H ⊢; exact H)
                        have hji19_ : ((rd l0 x14_1) / 2 ^ min (ji17).toNat 64) = ji19 := hji19
                        have hji19z : (ji17) ≤ 64 → ((rd l0 x14_1) / 2 ^ (ji17).toNat) = ji19 := shr_small hji19
                        obtain ⟨ji20, hji20⟩ : ∃ j_ : Int, (wrap64 (x14_1 + 1)) = j_ := ⟨_, rfl⟩
                        replace H : (if 0 ≤ (ji20) then (if (ji20) < (x5_1.length : Int) then (wide_shift.l0 k1 a1 (y109.set ((ji20) : Int).toNat (ji19)) l0 (l0.length : Int) ji20) else (none)) else (none)) = some r := by first | (rw [hji20] at H; exact H) | (simp only [hji20] at H ⊢; exact H)
                        have hji20w : (IntKind.i64.wrap (x14_1 + 1)) = ji20 := (i64_w _).trans hji20
                        by_cases c21 : 0 ≤ (ji20)
                        · rw [if_pos c21] at H
                          have c21b0 : decide (0 ≤ (ji20)) = true := decide_eq_true c21
                          clear c21
                          by_cases c22 : (ji20) < (x5_1.length : Int)
                          · rw [if_pos c22] at H
                            have c22b0 : decide ((ji20) < (x5_1.length : Int)) = true := decide_eq_true c22
                            clear c22
                            obtain ⟨y110, hy110⟩ : ∃ y_ : List Int, y_ = (y109.set ((ji20) : Int).toNat (ji19)) := ⟨_, rfl⟩
                            replace H : (wide_shift.l0 k1 a1 y110 l0 (l0.length : Int) ji20) = some r := by first | (rw [hy110]; with_reducible exact H) | (have H2_ := (Option.bind_some _ _).symm.trans H; rw [hy110]; with_reducible exact H2_) | (have H2_ := (Option.bind_some _ _).symm.trans H; with_reducible exact H2_) | with_reducible exact H | (rw [hy110]; exact H) | exact H
                            have Ny110 := Aside0.mk hy110
                            clear hy110
                            have H' := Aside0.mk H
                            clear H
                            have p107 : 0 ≤ (x14_1 : Int) := of_decide_eq_true (by first | (with_reducible assumption) | assumption)
                            have q107 : x14_1 < (l0.length : Int) := of_decide_eq_true (by first | (with_reducible assumption) | assumption)
                            obtain ⟨ad107, e107, hx107_0⟩ := Kd.at_int HR0.out x14_1 p107 q107
                            cases e107
                            replace hx107_0 := (HB.out.cell (World.block_lt_of_cell? w _ hx107_0)).trans hx107_0
                            replace p107 := eq_true p107
                            replace q107 := eq_true q107
                            obtain ⟨Ao24, co24, eo24⟩ := Kd.R_slice HO_5.out
                            subst eo24
                            have p108 : 0 ≤ (x14_1 : Int) := of_decide_eq_true (by first | (with_reducible assumption) | assumption)
                            have q108 : x14_1 < (x5_1.length : Int) := of_decide_eq_true (by first | (with_reducible assumption) | assumption)
                            obtain ⟨ad108, e108, hx108_0⟩ := Kd.at_int (Kd.R_reads' HO_5.out).2.2 x14_1 p108 q108
                            cases e108
                            replace p108 := eq_true p108
                            replace q108 := eq_true q108
                            have p15 : 0 ≤ (x14_1 : Int) := of_decide_eq_true (by first | (with_reducible assumption) | assumption)
                            have q15 : (x14_1 : Int) < ((x5_1.length : Int) : Int) := of_decide_eq_true (by first | (with_reducible assumption) | assumption)
                            obtain ⟨go15, co15, eo15, gb15, gl15, cl15, HG15⟩ := Kd.R_form HO_5.out (by omega)
                            (first | cases eo15 | (injection eo15 with ea_ en_ ec_; (first | subst ea_ | (injection ea_ with ea_; subst ea_)); subst ec_; clear en_))
                            have GB15 := Aside0.mk gb15
                            have GG15 := Aside0.mk HG15
                            clear gb15 gl15 HG15
                            (first | simp only [add_plain] at hx108_0 | skip)
                            obtain ⟨hx15_0, hf15_0⟩ := Kd.R_celln 0 HO_5.out (x14_1 : Int) p15 q15
                            replace p15 := eq_true p15
                            replace q15 := eq_true q15
                            have HP25 := Kd.R_putg HO_5.out (x14_1 : Int) (Go.bits .or .u64 (rd x5_1 x14_1) (ji14))
                            go_wp2_with (first | ((with_reducible refine gate_store (t := 25) (p := 28) rfl ?_); refine store_event (t := 25) (p := 28) (v := ?vo_w26) (w1 := (wr.setCell ⟨go15, (x14_1 : Int).toNat, none⟩ (.int .u64 (Go.bits .or .u64 (rd x5_1 x14_1) (ji14))))) ?hg ?ho ?hn ?hr ?_; (case ho => rfl); (case hg => rfl); (case hn => rfl); (case hr => first | (go_simp; done) | (go_simp; rfl)); intro w26 hw; have hg : wr.grownBy w26 (some go15) := (by rw [hw]; exact HP25.2); have hp_ : Kd.R (Kd.int .u64) 25 w26 w.heap.size (fun _ => True) (.slice (some ⟨go15, 0, none⟩) x5_1.length co24) y109 := (by rw [hw, Ny109.out]; exact HP25.1); clear HP25; have n0_ := Aside0.mk (hp_); have n1_ := Aside0.mk ((by rw [hw]; exact below_set (HB.out) GB15.out : Below w.heap.size w w26)); clear HO_5; clear HB; have HO_5 := n0_; have HB := n1_; clear n0_ n1_; clear hg hw hp_; have p23 : 0 ≤ ((ji20) : Int) := of_decide_eq_true (by first | (with_reducible assumption) | assumption); have q23 : ((ji20) : Int) < ((x5_1.length : Int) : Int) := of_decide_eq_true (by first | (with_reducible assumption) | assumption); obtain ⟨hx23_0, hf23_0⟩ := Kd.R_celln 0 HO_5.out ((ji20) : Int) p23 q23; replace p23 := eq_true p23; replace q23 := eq_true q23; obtain ⟨hy27_, hz27_⟩ := Kd.R_celln 0 HO_5.out ((ji20) : Int) (of_decide_eq_true (by first | (with_reducible assumption) | assumption)) (of_decide_eq_true (by first | (with_reducible assumption) | assumption)); have HP27 := Kd.R_putg HO_5.out ((ji20) : Int) ji19) | ((with_reducible refine gate_store (t := 25) (p := 39) rfl ?_); refine store_event (t := 25) (p := 39) (v := ?vo_w28) (w1 := (w26.setCell ⟨go15, ((ji20) : Int).toNat, none⟩ (.int .u64 ji19))) ?hg ?ho ?hn ?hr ?_; (case ho => rfl); (case hg => rfl); (case hn => rfl); (case hr => first | (go_simp; done) | (go_simp; rfl)); intro w28 hw; have hg : w26.grownBy w28 (some go15) := (by rw [hw]; exact HP27.2); have hp_ : Kd.R (Kd.int .u64) 25 w28 w.heap.size (fun _ => True) (.slice (some ⟨go15, 0, none⟩) x5_1.length co24) y110 := (by rw [hw, Ny110.out]; exact HP27.1); clear HP27; have n0_ := Aside0.mk (hp_); have n1_ := Aside0.mk ((by rw [hw]; exact below_set (HB.out) GB15.out : Below w.heap.size w w28)); clear HO_5; clear HB; have HO_5 := n0_; have HB := n1_; clear n0_ n1_; clear hg hw hp_))
                            go_roundg k1
                            case measure => have := HK1.out; omega
                            case rel => exact ⟨(y110), (ji20), (by first | rfl | (simp; done) | (simp only [← hji20] <;> (first | rfl | simp)) | (simp [*]; done) | (simp [nb1_, nb2_]; done)), H', ⟨by have := HK1.out; omega⟩, ⟨by (with_reducible repeat (first | apply Kd.R_alloc | apply Kd.R_drewN | apply Kd.R_drew)); exact HO_5.out⟩, ⟨by repeat (first | (with_reducible first | exact HB.out | apply below_alloc | apply pw_below_drewN | apply below_drew1) | exact HB.out)⟩⟩
                          · rw [if_neg c22] at H
                            exact absurd H (by simp)
                        · rw [if_neg c21] at H
                          exact absurd H (by simp)
                      · rw [if_neg c18] at H
                        exact absurd H (by simp)
                    · rw [if_neg c16] at H
                      have c16b0 : decide (0 < a1) = false := decide_eq_false c16
                      clear c16
                      have H' := Aside0.mk H
                      clear H
                      have p107 : 0 ≤ (x14_1 : Int) := of_decide_eq_true (by first | (with_reducible assumption) | assumption)
                      have q107 : x14_1 < (l0.length : Int) := of_decide_eq_true (by first | (with_reducible assumption) | assumption)
                      obtain ⟨ad107, e107, hx107_0⟩ := Kd.at_int HR0.out x14_1 p107 q107
                      cases e107
                      replace hx107_0 := (HB.out.cell (World.block_lt_of_cell? w _ hx107_0)).trans hx107_0
                      replace p107 := eq_true p107
                      replace q107 := eq_true q107
                      obtain ⟨Ao29, co29, eo29⟩ := Kd.R_slice HO_5.out
                      subst eo29
                      have p108 : 0 ≤ (x14_1 : Int) := of_decide_eq_true (by first | (with_reducible assumption) | assumption)
                      have q108 : x14_1 < (x5_1.length : Int) := of_decide_eq_true (by first | (with_reducible assumption) | assumption)
                      obtain ⟨ad108, e108, hx108_0⟩ := Kd.at_int (Kd.R_reads' HO_5.out).2.2 x14_1 p108 q108
                      cases e108
                      replace p108 := eq_true p108
                      replace q108 := eq_true q108
                      have p15 : 0 ≤ (x14_1 : Int) := of_decide_eq_true (by first | (with_reducible assumption) | assumption)
                      have q15 : (x14_1 : Int) < ((x5_1.length : Int) : Int) := of_decide_eq_true (by first | (with_reducible assumption) | assumption)
                      obtain ⟨go15, co15, eo15, gb15, gl15, cl15, HG15⟩ := Kd.R_form HO_5.out (by omega)
                      (first | cases eo15 | (injection eo15 with ea_ en_ ec_; (first | subst ea_ | (injection ea_ with ea_; subst ea_)); subst ec_; clear en_))
                      have GB15 := Aside0.mk gb15
                      have GG15 := Aside0.mk HG15
                      clear gb15 gl15 HG15
                      (first | simp only [add_plain] at hx108_0 | skip)
                      obtain ⟨hx15_0, hf15_0⟩ := Kd.R_celln 0 HO_5.out (x14_1 : Int) p15 q15
                      replace p15 := eq_true p15
                      replace q15 := eq_true q15
                      have HP30 := Kd.R_putg HO_5.out (x14_1 : Int) (Go.bits .or .u64 (rd x5_1 x14_1) (ji14))
                      go_wp2_with (first | ((with_reducible refine gate_store (t := 25) (p := 28) rfl ?_); refine store_event (t := 25) (p := 28) (v := ?vo_w31) (w1 := (wr.setCell ⟨go15, (x14_1 : Int).toNat, none⟩ (.int .u64 (Go.bits .or .u64 (rd x5_1 x14_1) (ji14))))) ?hg ?ho ?hn ?hr ?_; (case ho => rfl); (case hg => rfl); (case hn => rfl); (case hr => first | (go_simp; done) | (go_simp; rfl)); intro w31 hw; have hg : wr.grownBy w31 (some go15) := (by rw [hw]; exact HP30.2); have hp_ : Kd.R (Kd.int .u64) 25 w31 w.heap.size (fun _ => True) (.slice (some ⟨go15, 0, none⟩) x5_1.length co29) y109 := (by rw [hw, Ny109.out]; exact HP30.1); clear HP30; have n0_ := Aside0.mk (hp_); have n1_ := Aside0.mk ((by rw [hw]; exact below_set (HB.out) GB15.out : Below w.heap.size w w31)); clear HO_5; clear HB; have HO_5 := n0_; have HB := n1_; clear n0_ n1_; clear hg hw hp_))
                      go_roundg k1
                      case measure => have := HK1.out; omega
                      case rel => exact ⟨(y109), (wrap64 (x14_1 + 1)), (by first | rfl | (simp; done) | (simp [*]; done) | (simp [nb1_, nb2_]; done)), H', ⟨by have := HK1.out; omega⟩, ⟨by (with_reducible repeat (first | apply Kd.R_alloc | apply Kd.R_drewN | apply Kd.R_drew)); exact HO_5.out⟩, ⟨by repeat (first | (with_reducible first | exact HB.out | apply below_alloc | apply pw_below_drewN | apply below_drew1) | exact HB.out)⟩⟩
                  · rw [if_neg c13] at H
                    exact absurd H (by simp)
                · rw [if_neg c11] at H
                  exact absurd H (by simp)
              · rw [if_neg c10] at H
                exact absurd H (by simp)
            · rw [if_neg c9] at H
              exact absurd H (by simp)
          · rw [if_neg c8] at H
            have c8b0 : decide (x14_1 < (l0.length : Int)) = false := decide_eq_false c8
            clear c8
            obtain rfl := Option.some.inj H
            go_wp2
            go_ret
            exact ⟨_, by first | rfl | (simp [errW_none, errW_some] <;> rfl) | (simp only [← hji3]; first | rfl | (simp [errW_none, errW_some] <;> rfl)) | (simp [*, errW_none, errW_some] <;> rfl), by (with_reducible repeat (first | apply Kd.R_alloc | apply Kd.R_drewN | apply Kd.R_drew)); exact HO_5.out, by repeat (first | (with_reducible first | exact HB.out | apply below_alloc | apply pw_below_drewN | apply below_drew1) | exact HB.out)⟩
    · rw [if_neg c5] at H
      exact absurd H (by simp)
  · rw [if_neg c4] at H
    exact absurd H (by simp)
end Go.Proofs.Ytpdljoalfmgfiaa.QWd
