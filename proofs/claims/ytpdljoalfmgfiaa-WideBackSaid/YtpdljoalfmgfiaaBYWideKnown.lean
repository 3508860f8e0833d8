/- Lean functions, contracts and lemmas that this claim needs. No condition. -/
import Derived.Test.YtpdljoalfmgfiaaBYWideW10
import Derived.Test.YtpdljoalfmgfiaaBYRVals
namespace Go.Proofs.Ytpdljoalfmgfiaa.YWide
open Go.RowKit Go.Proofs.Ytpdljoalfmgfiaa.YInv Go.Proofs.Ytpdljoalfmgfiaa.YErr Go.Proofs.Ytpdljoalfmgfiaa.YRef Go.Proofs.Ytpdljoalfmgfiaa.YNum Go.Proofs.Ytpdljoalfmgfiaa.YBits Go.Proofs.Ytpdljoalfmgfiaa.XCarry Go.Proofs.Ytpdljoalfmgfiaa.QWd Go.Proofs.YtpdljoalfmgfiaaW.PrintWords Go.Proofs.YtpdljoalfmgfiaaW.PrintLast
set_option linter.unusedVariables false
set_option linter.unusedSimpArgs false
theorem evc_ {a : Act} {v : Value} : Act.eval a (.const v) = v := rfl
section
variable (w : World)
theorem int_5 : Calls Try.prog 34 #[.agg (U (lim 5))] w fun e w' => e = .returned (.tuple #[.int .i64 5, .bool true]) ∧ Below w.heap.size w w' := Int64_w (small (v := 5) (by omega)) w
theorem sign_m6 : Calls Try.prog 22 #[.agg (U (lim (-6)))] w fun e w' => e = .returned (.int .i64 (-1)) ∧ Below w.heap.size w w' := by
  have := Sign_c (small (v := -6) (by omega)) w
  exact this
theorem bits_m6 : Calls Try.prog 24 #[.agg (U (lim (-6)))] w fun e w' => e = .returned (.int .i64 3) ∧ Below w.heap.size w w' := by
  refine (Bits_c (small (v := -6) (by omega)) w).mono ?_
  rintro e w' ⟨t, h, rfl, g⟩
  obtain rfl : t = 3 := bits_one h ⟨by decide, by decide, by decide⟩
  exact ⟨rfl, g⟩
theorem cmp_56 : Calls Try.prog 20 #[.agg (U (lim 5)), .agg (U (lim (-6)))] w fun e w' => e = .returned (.int .i64 1) ∧ Below w.heap.size w w' := by
  have := Cmp_c (small (v := 5) (by omega)) (small (v := -6) (by omega)) w
  exact this
theorem eql_same (x : Int) : (binOp .eql 27 (.agg (U (lim x))) (.agg (U (lim x)))).run Try.prog w = .ok (.bool true) w := by
  rw [run_eqlW, decide_eq_true rfl]
end
set_option maxRecDepth 100000 in
set_option maxHeartbeats 32000000 in
theorem known_c (w : World) : Calls Try.prog 10 #[] w fun e w' => e = .returned (.bool true) ∧ Below w.heap.size w w' := by
  have l5 := lim_len 5
  have l6 := lim_len (-6)
  have l3 := lim_len (-3)
  have l1 := lim_len (-1)
  have l33 := lim_len 3
  have O2 := fun W => of_ W 2 (by omega)
  have O3 := fun W => of_ W 3 (by omega)
  have O5 := fun W => of_ W 5 (by omega)
  have Om2 := fun W => of_ W (-2) (by omega)
  have Om7 := fun W => of_ W (-7) (by omega)
  have Om6 := fun W => of_ W (-6) (by omega)
  have Om3 := fun W => of_ W (-3) (by omega)
  have Om1 := fun W => of_ W (-1) (by omega)
  have A := fun W => add_ W 2 3 5 (by omega) (by omega) (by omega) rfl
  have M := fun W => mul_ W (-2) 3 (-6) (by omega) (by omega) (by omega) rfl
  have D := fun W => div_ W (-7) 2 (-3) (-1) (by omega) (by omega) (by omega) (by omega) rfl rfl
  have R := fun W => Round_52 W
  have I := fun W => int_5 W
  have S6 := fun W => sign_m6 W
  have B6 := fun W => bits_m6 W
  have C56 := fun W => cmp_56 W
  have b0 := Below.refl w.heap.size w
  go_enter Try.func10, Try.ntmps10
  go_wp2_with fail
  refine (O2 _).mono ?_; rintro e w1 ⟨rfl, g⟩
  have b1 := bb b0 g
  clear g b0
  go_wp2_with fail
  refine (O3 _).mono ?_; rintro e w2 ⟨rfl, g⟩
  have b2 := bb b1 g
  clear g b1
  go_wp2_with fail
  refine (A _).mono ?_; rintro e w3 ⟨rfl, g⟩
  have b3 := bb b2 g
  clear g b2
  obtain ⟨t0, k4_0, b4, up⟩ := new1 b3 (lim 5) _ _ rfl rfl
  have z4 := b3.size
  go_wp2_with (first | (refine ldW k4_0 l5 _ rfl rfl rfl ?_) | (refine stW t0 zeros_len l5 _ _ rfl rfl rfl rfl ?_))
  clear up t0 b3
  generalize (w3.alloc (.cells #[.int .u64 0, .int .u64 0, .int .u64 0, .int .u64 0, .int .u64 0, .int .u64 0, .int .u64 0, .int .u64 0, .int .u64 0, .int .u64 0, .int .u64 0, .int .u64 0, .int .u64 0, .int .u64 0, .int .u64 0, .int .u64 0] 27)).setRow w3.heap.size (U (lim 5)) = w4 at *
  refine (Om2 _).mono ?_; rintro e w5 ⟨rfl, g⟩
  replace k4_0 := k4_0.keep g
  have b5 := bb b4 g
  clear g b4
  go_wp2_with (first | (refine ldW k4_0 l5 _ rfl rfl rfl ?_))
  refine (O3 _).mono ?_; rintro e w6 ⟨rfl, g⟩
  replace k4_0 := k4_0.keep g
  have b6 := bb b5 g
  clear g b5
  go_wp2_with (first | (refine ldW k4_0 l5 _ rfl rfl rfl ?_))
  refine (M _).mono ?_; rintro e w7 ⟨rfl, g⟩
  replace k4_0 := k4_0.keep g
  have b7 := bb b6 g
  clear g b6
  obtain ⟨t0, k8_0, b8, up⟩ := new1 b7 (lim (-6)) _ _ rfl rfl
  replace k4_0 := up _ _ k4_0
  have z8 := b7.size
  go_wp2_with (first | (refine ldW k4_0 l5 _ rfl rfl rfl ?_) | (refine ldW k8_0 l6 _ rfl rfl rfl ?_) | (refine stW t0 zeros_len l6 _ _ rfl rfl rfl rfl ?_))
  clear up t0 b7
  generalize (w7.alloc (.cells #[.int .u64 0, .int .u64 0, .int .u64 0, .int .u64 0, .int .u64 0, .int .u64 0, .int .u64 0, .int .u64 0, .int .u64 0, .int .u64 0, .int .u64 0, .int .u64 0, .int .u64 0, .int .u64 0, .int .u64 0, .int .u64 0] 27)).setRow w7.heap.size (U (lim (-6))) = w8 at *
  refine (Om7 _).mono ?_; rintro e w9 ⟨rfl, g⟩
  replace k4_0 := k4_0.keep g
  replace k8_0 := k8_0.keep g
  have b9 := bb b8 g
  clear g b8
  go_wp2_with (first | (refine ldW k4_0 l5 _ rfl rfl rfl ?_) | (refine ldW k8_0 l6 _ rfl rfl rfl ?_))
  refine (O2 _).mono ?_; rintro e w10 ⟨rfl, g⟩
  replace k4_0 := k4_0.keep g
  replace k8_0 := k8_0.keep g
  have b10 := bb b9 g
  clear g b9
  go_wp2_with (first | (refine ldW k4_0 l5 _ rfl rfl rfl ?_) | (refine ldW k8_0 l6 _ rfl rfl rfl ?_))
  refine (D _).mono ?_; rintro e w11 ⟨rfl, g⟩
  replace k4_0 := k4_0.keep g
  replace k8_0 := k8_0.keep g
  have b11 := bb b10 g
  clear g b10
  obtain ⟨t0, t1, k12_0, k12_1, b12, up⟩ := new2 b11 (lim (-3)) (lim (-1)) _ _ _ rfl rfl rfl
  replace k4_0 := up _ _ k4_0
  replace k8_0 := up _ _ k8_0
  have z12 := b11.size
  go_wp2_with (first | (refine ldW k4_0 l5 _ rfl rfl rfl ?_) | (refine ldW k8_0 l6 _ rfl rfl rfl ?_) | (refine ldW k12_0 l3 _ rfl rfl rfl ?_) | (refine ldW k12_1 l1 _ rfl rfl rfl ?_) | (refine stW t0 zeros_len l3 _ _ rfl rfl rfl rfl ?_) | (refine stW t1 zeros_len l1 _ _ rfl rfl rfl rfl ?_))
  clear up t0 t1 b11
  generalize (((w11.alloc (.cells #[.int .u64 0, .int .u64 0, .int .u64 0, .int .u64 0, .int .u64 0, .int .u64 0, .int .u64 0, .int .u64 0, .int .u64 0, .int .u64 0, .int .u64 0, .int .u64 0, .int .u64 0, .int .u64 0, .int .u64 0, .int .u64 0] 27)).alloc (.cells #[.int .u64 0, .int .u64 0, .int .u64 0, .int .u64 0, .int .u64 0, .int .u64 0, .int .u64 0, .int .u64 0, .int .u64 0, .int .u64 0, .int .u64 0, .int .u64 0, .int .u64 0, .int .u64 0, .int .u64 0, .int .u64 0] 27)).setRow w11.heap.size (U (lim (-3)))).setRow (w11.heap.size + 1) (U (lim (-1))) = w12 at *
  refine (O5 _).mono ?_; rintro e w13 ⟨rfl, g⟩
  replace k4_0 := k4_0.keep g
  replace k8_0 := k8_0.keep g
  replace k12_0 := k12_0.keep g
  replace k12_1 := k12_1.keep g
  have b13 := bb b12 g
  clear g b12
  go_wp2_with (first | (refine ldW k4_0 l5 _ rfl rfl rfl ?_) | (refine ldW k8_0 l6 _ rfl rfl rfl ?_) | (refine ldW k12_0 l3 _ rfl rfl rfl ?_) | (refine ldW k12_1 l1 _ rfl rfl rfl ?_))
  refine (O2 _).mono ?_; rintro e w14 ⟨rfl, g⟩
  replace k4_0 := k4_0.keep g
  replace k8_0 := k8_0.keep g
  replace k12_0 := k12_0.keep g
  replace k12_1 := k12_1.keep g
  have b14 := bb b13 g
  clear g b13
  go_wp2_with (first | (refine ldW k4_0 l5 _ rfl rfl rfl ?_) | (refine ldW k8_0 l6 _ rfl rfl rfl ?_) | (refine ldW k12_0 l3 _ rfl rfl rfl ?_) | (refine ldW k12_1 l1 _ rfl rfl rfl ?_))
  refine (R _).mono ?_; rintro e w15 ⟨rfl, g⟩
  replace k4_0 := k4_0.keep g
  replace k8_0 := k8_0.keep g
  replace k12_0 := k12_0.keep g
  replace k12_1 := k12_1.keep g
  have b15 := bb b14 g
  clear g b14
  obtain ⟨t0, k16_0, b16, up⟩ := new1 b15 (lim 3) _ _ rfl rfl
  replace k4_0 := up _ _ k4_0
  replace k8_0 := up _ _ k8_0
  replace k12_0 := up _ _ k12_0
  replace k12_1 := up _ _ k12_1
  have z16 := b15.size
  go_wp2_with (first | (refine ldW k4_0 l5 _ rfl rfl rfl ?_) | (refine ldW k8_0 l6 _ rfl rfl rfl ?_) | (refine ldW k12_0 l3 _ rfl rfl rfl ?_) | (refine ldW k12_1 l1 _ rfl rfl rfl ?_) | (refine ldW k16_0 l33 _ rfl rfl rfl ?_) | (refine stW t0 zeros_len l33 _ _ rfl rfl rfl rfl ?_))
  clear up t0 b15
  generalize (w15.alloc (.cells #[.int .u64 0, .int .u64 0, .int .u64 0, .int .u64 0, .int .u64 0, .int .u64 0, .int .u64 0, .int .u64 0, .int .u64 0, .int .u64 0, .int .u64 0, .int .u64 0, .int .u64 0, .int .u64 0, .int .u64 0, .int .u64 0] 27)).setRow w15.heap.size (U (lim 3)) = w16 at *
  refine (I _).mono ?_; rintro e w17 ⟨rfl, g⟩
  replace k4_0 := k4_0.keep g
  replace k8_0 := k8_0.keep g
  replace k12_0 := k12_0.keep g
  replace k12_1 := k12_1.keep g
  replace k16_0 := k16_0.keep g
  have b17 := bb b16 g
  clear g b16
  go_wp2_with (first | (refine ldW k4_0 l5 _ rfl rfl rfl ?_) | (refine ldW k8_0 l6 _ rfl rfl rfl ?_) | (refine ldW k12_0 l3 _ rfl rfl rfl ?_) | (refine ldW k12_1 l1 _ rfl rfl rfl ?_) | (refine ldW k16_0 l33 _ rfl rfl rfl ?_))
  refine region_vals (σ := Unit) [some 42, some 43, some 44, some 45, some 46, some 47, some 48, some 49, some 50, some 51, some 52, some 53, some 54, some 55, some 56, some 57, some 58, some 59, some 60, some 61, some 62, some 63, some 64, some 65, some 66, some 67, some 68, some 69, some 70, some 71, some 72, some 73, some 74, some 75, some 76, some 77, some 78, some 79, some 80, some 81, some 82, some 83, some 84, some 85, some 86, some 87, some 88, some 89, some 90, some 91, some 92, some 93, some 94, some 0] (fun _ i => ([.bool true, .bool true, .bool true, .bool true, .bool true, .bool true, .bool true, .bool true, .bool true, .bool true, .bool true, .bool true, .bool true, .bool true, .int .i64 5, .bool true, .bool true, .bool true, .agg (U (lim (-6))), .agg (U (lim (-6))), .bool true, .bool true, .bool true, .agg (U (lim (-3))), .agg (U (lim (-3))), .bool true, .bool true, .bool true, .agg (U (lim (-1))), .agg (U (lim (-1))), .bool true, .bool true, .bool true, .agg (U (lim 3)), .agg (U (lim 3)), .bool true, .bool true, .bool true, .agg (U (lim (-6))), .int .i64 (-1), .bool true, .bool true, .bool true, .agg (U (lim (-6))), .int .i64 3, .bool true, .bool true, .bool true, .agg (U (lim 5)), .agg (U (lim (-6))), .int .i64 1, .bool true, .bool true, .bool true] : List Value).getD i undef) (fun _ _ wx => Blk wx w3.heap.size (U (lim 5)) 27 ∧ Blk wx w7.heap.size (U (lim (-6))) 27 ∧ Blk wx w11.heap.size (U (lim (-3))) 27 ∧ Blk wx (w11.heap.size + 1) (U (lim (-1))) 27 ∧ Blk wx w15.heap.size (U (lim 3)) 27 ∧ Below w.heap.size w wx) () [0, 1, 2, 3, 4, 5, 6, 7, 8, 9, 10, 11, 12, 13, 14, 15, 16, 17, 18, 19, 20, 21, 22, 23, 24, 25, 26, 27, 28, 29, 30, 31, 32, 33, 34, 35, 36, 37, 38, 39, 40, 41, 42, 43, 44, 45, 46, 47, 48, 49, 50, 51, 52, 53] _ _ rfl (by kernel_rfl) (by kernel_rfl) (by kernel_rfl) (by kernel_rfl) (by kernel_rfl) ⟨k4_0.drew, k8_0.drew, k12_0.drew, k12_1.drew, k16_0.drew, b17.drew⟩ ?steps ?fin (fun _ _ _ _ _ h => h)
  case steps =>
    refine VSteps.cons rfl (fun x L s wx K kn hL hp hI hK => ?_) ?_
    · have e2 : x[2]? = some (.bool true) := (kn.old 2 (by kernel_rfl)).trans rfl
      refine want_ rfl ?_
      exact val_ (by simp [go_sem, execOp, evc_, e2]) (hK.out s _ (fun _ _ => rfl) hI)
    refine VSteps.cons rfl (fun x L s wx K kn hL hp hI hK => ?_) ?_
    · have e42 : x[42]? = some (.bool true) := kn.got 0 42 (hp ⟨0, .data⟩ (by simp) rfl) rfl
      refine want_ rfl ?_
      exact val_ (by simp [go_sem, execOp, evc_, e42]) (hK.out s _ (fun _ _ => rfl) hI)
    refine VSteps.cons rfl (fun x L s wx K kn hL hp hI hK => ?_) ?_
    · have e4 : x[4]? = some (.bool true) := (kn.old 4 (by kernel_rfl)).trans rfl
      refine want_ ((guard_ rfl rfl true (show x[43]? = some (.bool true) from kn.got 1 43 (hp ⟨1, .guard⟩ (by simp) rfl) rfl)).trans rfl) ?_
      exact val_ (by simp [go_sem, execOp, evc_, e4]) (hK.out s _ (fun _ _ => rfl) hI)
    refine VSteps.cons rfl (fun x L s wx K kn hL hp hI hK => ?_) ?_
    · have e43 : x[43]? = some (.bool true) := kn.got 1 43 (hp ⟨1, .data⟩ (by simp) rfl) rfl
      have e44 : x[44]? = some (.bool true) := kn.got 2 44 (hp ⟨2, .data⟩ (by simp) rfl) rfl
      refine want_ rfl ?_
      exact val_ (by simp [go_sem, execOp, evc_, e43, e44]) (hK.out s _ (fun _ _ => rfl) hI)
    refine VSteps.cons rfl (fun x L s wx K kn hL hp hI hK => ?_) ?_
    · have e45 : x[45]? = some (.bool true) := kn.got 3 45 (hp ⟨3, .data⟩ (by simp) rfl) rfl
      refine want_ rfl ?_
      exact val_ (by simp [go_sem, execOp, evc_, e45]) (hK.out s _ (fun _ _ => rfl) hI)
    refine VSteps.cons rfl (fun x L s wx K kn hL hp hI hK => ?_) ?_
    · have e7 : x[7]? = some (.bool true) := (kn.old 7 (by kernel_rfl)).trans rfl
      refine want_ ((guard_ rfl rfl true (show x[46]? = some (.bool true) from kn.got 4 46 (hp ⟨4, .guard⟩ (by simp) rfl) rfl)).trans rfl) ?_
      exact val_ (by simp [go_sem, execOp, evc_, e7]) (hK.out s _ (fun _ _ => rfl) hI)
    refine VSteps.cons rfl (fun x L s wx K kn hL hp hI hK => ?_) ?_
    · have e46 : x[46]? = some (.bool true) := kn.got 4 46 (hp ⟨4, .data⟩ (by simp) rfl) rfl
      have e47 : x[47]? = some (.bool true) := kn.got 5 47 (hp ⟨5, .data⟩ (by simp) rfl) rfl
      refine want_ rfl ?_
      exact val_ (by simp [go_sem, execOp, evc_, e46, e47]) (hK.out s _ (fun _ _ => rfl) hI)
    refine VSteps.cons rfl (fun x L s wx K kn hL hp hI hK => ?_) ?_
    · have e48 : x[48]? = some (.bool true) := kn.got 6 48 (hp ⟨6, .data⟩ (by simp) rfl) rfl
      refine want_ rfl ?_
      exact val_ (by simp [go_sem, execOp, evc_, e48]) (hK.out s _ (fun _ _ => rfl) hI)
    refine VSteps.cons rfl (fun x L s wx K kn hL hp hI hK => ?_) ?_
    · have e9 : x[9]? = some (.bool true) := (kn.old 9 (by kernel_rfl)).trans rfl
      refine want_ ((guard_ rfl rfl true (show x[49]? = some (.bool true) from kn.got 7 49 (hp ⟨7, .guard⟩ (by simp) rfl) rfl)).trans rfl) ?_
      exact val_ (by simp [go_sem, execOp, evc_, e9]) (hK.out s _ (fun _ _ => rfl) hI)
    refine VSteps.cons rfl (fun x L s wx K kn hL hp hI hK => ?_) ?_
    · have e49 : x[49]? = some (.bool true) := kn.got 7 49 (hp ⟨7, .data⟩ (by simp) rfl) rfl
      have e50 : x[50]? = some (.bool true) := kn.got 8 50 (hp ⟨8, .data⟩ (by simp) rfl) rfl
      refine want_ rfl ?_
      exact val_ (by simp [go_sem, execOp, evc_, e49, e50]) (hK.out s _ (fun _ _ => rfl) hI)
    refine VSteps.cons rfl (fun x L s wx K kn hL hp hI hK => ?_) ?_
    · have e51 : x[51]? = some (.bool true) := kn.got 9 51 (hp ⟨9, .data⟩ (by simp) rfl) rfl
      refine want_ rfl ?_
      exact val_ (by simp [go_sem, execOp, evc_, e51]) (hK.out s _ (fun _ _ => rfl) hI)
    refine VSteps.cons rfl (fun x L s wx K kn hL hp hI hK => ?_) ?_
    · have e11 : x[11]? = some (.bool true) := (kn.old 11 (by kernel_rfl)).trans rfl
      refine want_ ((guard_ rfl rfl true (show x[52]? = some (.bool true) from kn.got 10 52 (hp ⟨10, .guard⟩ (by simp) rfl) rfl)).trans rfl) ?_
      exact val_ (by simp [go_sem, execOp, evc_, e11]) (hK.out s _ (fun _ _ => rfl) hI)
    refine VSteps.cons rfl (fun x L s wx K kn hL hp hI hK => ?_) ?_
    · have e52 : x[52]? = some (.bool true) := kn.got 10 52 (hp ⟨10, .data⟩ (by simp) rfl) rfl
      have e53 : x[53]? = some (.bool true) := kn.got 11 53 (hp ⟨11, .data⟩ (by simp) rfl) rfl
      refine want_ rfl ?_
      exact val_ (by simp [go_sem, execOp, evc_, e52, e53]) (hK.out s _ (fun _ _ => rfl) hI)
    refine VSteps.cons rfl (fun x L s wx K kn hL hp hI hK => ?_) ?_
    · have e54 : x[54]? = some (.bool true) := kn.got 12 54 (hp ⟨12, .data⟩ (by simp) rfl) rfl
      refine want_ rfl ?_
      exact val_ (by simp [go_sem, execOp, evc_, e54]) (hK.out s _ (fun _ _ => rfl) hI)
    refine VSteps.cons rfl (fun x L s wx K kn hL hp hI hK => ?_) ?_
    · have e10 : x[10]? = some (.int .i64 5) := (kn.old 10 (by kernel_rfl)).trans rfl
      refine want_ ((guard_ rfl rfl true (show x[55]? = some (.bool true) from kn.got 13 55 (hp ⟨13, .guard⟩ (by simp) rfl) rfl)).trans rfl) ?_
      exact val_ (by simp [go_sem, execOp, evc_, e10]) (hK.out s _ (fun _ _ => rfl) hI)
    refine VSteps.cons rfl (fun x L s wx K kn hL hp hI hK => ?_) ?_
    · have e56 : x[56]? = some (.int .i64 5) := kn.got 14 56 (hp ⟨14, .data⟩ (by simp) rfl) rfl
      refine want_ ((guard_ rfl rfl true (show x[55]? = some (.bool true) from kn.got 13 55 (hp ⟨13, .guard⟩ (by simp) rfl) rfl)).trans rfl) ?_
      exact val_ (by simp [go_sem, execOp, evc_, e56]) (hK.out s _ (fun _ _ => rfl) hI)
    refine VSteps.cons rfl (fun x L s wx K kn hL hp hI hK => ?_) ?_
    · have e55 : x[55]? = some (.bool true) := kn.got 13 55 (hp ⟨13, .data⟩ (by simp) rfl) rfl
      have e57 : x[57]? = some (.bool true) := kn.got 15 57 (hp ⟨15, .data⟩ (by simp) rfl) rfl
      refine want_ rfl ?_
      exact val_ (by simp [go_sem, execOp, evc_, e55, e57]) (hK.out s _ (fun _ _ => rfl) hI)
    refine VSteps.cons rfl (fun x L s wx K kn hL hp hI hK => ?_) ?_
    · have e58 : x[58]? = some (.bool true) := kn.got 16 58 (hp ⟨16, .data⟩ (by simp) rfl) rfl
      refine want_ rfl ?_
      exact val_ (by simp [go_sem, execOp, evc_, e58]) (hK.out s _ (fun _ _ => rfl) hI)
    refine VSteps.cons rfl (fun x L s wx K kn hL hp hI hK => ?_) ?_
    · have e3 : x[3]? = some (.pointer (some ⟨w7.heap.size, 0, none⟩)) := (kn.old 3 (by kernel_rfl)).trans rfl
      refine want_ ((guard_ rfl rfl true (show x[59]? = some (.bool true) from kn.got 17 59 (hp ⟨17, .guard⟩ (by simp) rfl) rfl)).trans rfl) ?_
      exact wp_load_row 27 _ rfl w7.heap.size (ev_ e3) 27 (U (lim (-6))) (0, 0) _ hI.2.1 Try.underlying27 rfl (ofLen l6) (hK.out s _ (fun _ _ => rfl) hI)
    refine VSteps.cons rfl (fun x L s wx K kn hL hp hI hK => ?_) ?_
    · refine want_ ((guard_ rfl rfl true (show x[59]? = some (.bool true) from kn.got 17 59 (hp ⟨17, .chain⟩ (by simp) rfl) rfl)).trans rfl) ?_
      refine goesK_ Try.func33 (by kernel_rfl) rfl #[.int .i64 (-6)] rfl (by simp only [List.map_toArray, List.map_cons, List.map_nil, evc_]) ((Om6 _).mono ?_)
      rintro e w' ⟨rfl, g⟩
      obtain ⟨K0, K1, K2, K3, K4, BW⟩ := hI
      exact ⟨_, rfl, hK.out s _ (fun _ _ => rfl) ⟨K0.keep g, K1.keep g, K2.keep g, K3.keep g, K4.keep g, bb BW g⟩⟩
    refine VSteps.cons rfl (fun x L s wx K kn hL hp hI hK => ?_) ?_
    · have e60 : x[60]? = some (.agg (U (lim (-6)))) := kn.got 18 60 (hp ⟨18, .data⟩ (by simp) rfl) rfl
      have e61 : x[61]? = some (.agg (U (lim (-6)))) := kn.got 19 61 (hp ⟨19, .data⟩ (by simp) rfl) rfl
      refine want_ ((guard_ rfl rfl true (show x[59]? = some (.bool true) from kn.got 17 59 (hp ⟨17, .guard⟩ (by simp) rfl) rfl)).trans rfl) ?_
      exact val_ (by simp [go_sem, execOp, evc_, e60, e61, Try.eqGuardType27, run_eqW _ _ (lim_len _) (lim_len _)]) (hK.out s _ (fun _ _ => rfl) hI)
    refine VSteps.cons rfl (fun x L s wx K kn hL hp hI hK => ?_) ?_
    · have e59 : x[59]? = some (.bool true) := kn.got 17 59 (hp ⟨17, .data⟩ (by simp) rfl) rfl
      have e62 : x[62]? = some (.bool true) := kn.got 20 62 (hp ⟨20, .data⟩ (by simp) rfl) rfl
      refine want_ rfl ?_
      exact val_ (by simp [go_sem, execOp, evc_, e59, e62]) (hK.out s _ (fun _ _ => rfl) hI)
    refine VSteps.cons rfl (fun x L s wx K kn hL hp hI hK => ?_) ?_
    · have e63 : x[63]? = some (.bool true) := kn.got 21 63 (hp ⟨21, .data⟩ (by simp) rfl) rfl
      refine want_ rfl ?_
      exact val_ (by simp [go_sem, execOp, evc_, e63]) (hK.out s _ (fun _ _ => rfl) hI)
    refine VSteps.cons rfl (fun x L s wx K kn hL hp hI hK => ?_) ?_
    · have e5 : x[5]? = some (.pointer (some ⟨w11.heap.size, 0, none⟩)) := (kn.old 5 (by kernel_rfl)).trans rfl
      refine want_ ((guard_ rfl rfl true (show x[64]? = some (.bool true) from kn.got 22 64 (hp ⟨22, .guard⟩ (by simp) rfl) rfl)).trans rfl) ?_
      exact wp_load_row 27 _ rfl w11.heap.size (ev_ e5) 27 (U (lim (-3))) (0, 0) _ hI.2.2.1 Try.underlying27 rfl (ofLen l3) (hK.out s _ (fun _ _ => rfl) hI)
    refine VSteps.cons rfl (fun x L s wx K kn hL hp hI hK => ?_) ?_
    · refine want_ ((guard_ rfl rfl true (show x[64]? = some (.bool true) from kn.got 22 64 (hp ⟨22, .chain⟩ (by simp) rfl) rfl)).trans rfl) ?_
      refine goesK_ Try.func33 (by kernel_rfl) rfl #[.int .i64 (-3)] rfl (by simp only [List.map_toArray, List.map_cons, List.map_nil, evc_]) ((Om3 _).mono ?_)
      rintro e w' ⟨rfl, g⟩
      obtain ⟨K0, K1, K2, K3, K4, BW⟩ := hI
      exact ⟨_, rfl, hK.out s _ (fun _ _ => rfl) ⟨K0.keep g, K1.keep g, K2.keep g, K3.keep g, K4.keep g, bb BW g⟩⟩
    refine VSteps.cons rfl (fun x L s wx K kn hL hp hI hK => ?_) ?_
    · have e65 : x[65]? = some (.agg (U (lim (-3)))) := kn.got 23 65 (hp ⟨23, .data⟩ (by simp) rfl) rfl
      have e66 : x[66]? = some (.agg (U (lim (-3)))) := kn.got 24 66 (hp ⟨24, .data⟩ (by simp) rfl) rfl
      refine want_ ((guard_ rfl rfl true (show x[64]? = some (.bool true) from kn.got 22 64 (hp ⟨22, .guard⟩ (by simp) rfl) rfl)).trans rfl) ?_
      exact val_ (by simp [go_sem, execOp, evc_, e65, e66, Try.eqGuardType27, run_eqW _ _ (lim_len _) (lim_len _)]) (hK.out s _ (fun _ _ => rfl) hI)
    refine VSteps.cons rfl (fun x L s wx K kn hL hp hI hK => ?_) ?_
    · have e64 : x[64]? = some (.bool true) := kn.got 22 64 (hp ⟨22, .data⟩ (by simp) rfl) rfl
      have e67 : x[67]? = some (.bool true) := kn.got 25 67 (hp ⟨25, .data⟩ (by simp) rfl) rfl
      refine want_ rfl ?_
      exact val_ (by simp [go_sem, execOp, evc_, e64, e67]) (hK.out s _ (fun _ _ => rfl) hI)
    refine VSteps.cons rfl (fun x L s wx K kn hL hp hI hK => ?_) ?_
    · have e68 : x[68]? = some (.bool true) := kn.got 26 68 (hp ⟨26, .data⟩ (by simp) rfl) rfl
      refine want_ rfl ?_
      exact val_ (by simp [go_sem, execOp, evc_, e68]) (hK.out s _ (fun _ _ => rfl) hI)
    refine VSteps.cons rfl (fun x L s wx K kn hL hp hI hK => ?_) ?_
    · have e6 : x[6]? = some (.pointer (some ⟨(w11.heap.size + 1), 0, none⟩)) := (kn.old 6 (by kernel_rfl)).trans rfl
      refine want_ ((guard_ rfl rfl true (show x[69]? = some (.bool true) from kn.got 27 69 (hp ⟨27, .guard⟩ (by simp) rfl) rfl)).trans rfl) ?_
      exact wp_load_row 27 _ rfl (w11.heap.size + 1) (ev_ e6) 27 (U (lim (-1))) (0, 0) _ hI.2.2.2.1 Try.underlying27 rfl (ofLen l1) (hK.out s _ (fun _ _ => rfl) hI)
    refine VSteps.cons rfl (fun x L s wx K kn hL hp hI hK => ?_) ?_
    · refine want_ ((guard_ rfl rfl true (show x[69]? = some (.bool true) from kn.got 27 69 (hp ⟨27, .chain⟩ (by simp) rfl) rfl)).trans rfl) ?_
      refine goesK_ Try.func33 (by kernel_rfl) rfl #[.int .i64 (-1)] rfl (by simp only [List.map_toArray, List.map_cons, List.map_nil, evc_]) ((Om1 _).mono ?_)
      rintro e w' ⟨rfl, g⟩
      obtain ⟨K0, K1, K2, K3, K4, BW⟩ := hI
      exact ⟨_, rfl, hK.out s _ (fun _ _ => rfl) ⟨K0.keep g, K1.keep g, K2.keep g, K3.keep g, K4.keep g, bb BW g⟩⟩
    refine VSteps.cons rfl (fun x L s wx K kn hL hp hI hK => ?_) ?_
    · have e70 : x[70]? = some (.agg (U (lim (-1)))) := kn.got 28 70 (hp ⟨28, .data⟩ (by simp) rfl) rfl
      have e71 : x[71]? = some (.agg (U (lim (-1)))) := kn.got 29 71 (hp ⟨29, .data⟩ (by simp) rfl) rfl
      refine want_ ((guard_ rfl rfl true (show x[69]? = some (.bool true) from kn.got 27 69 (hp ⟨27, .guard⟩ (by simp) rfl) rfl)).trans rfl) ?_
      exact val_ (by simp [go_sem, execOp, evc_, e70, e71, Try.eqGuardType27, run_eqW _ _ (lim_len _) (lim_len _)]) (hK.out s _ (fun _ _ => rfl) hI)
    refine VSteps.cons rfl (fun x L s wx K kn hL hp hI hK => ?_) ?_
    · have e69 : x[69]? = some (.bool true) := kn.got 27 69 (hp ⟨27, .data⟩ (by simp) rfl) rfl
      have e72 : x[72]? = some (.bool true) := kn.got 30 72 (hp ⟨30, .data⟩ (by simp) rfl) rfl
      refine want_ rfl ?_
      exact val_ (by simp [go_sem, execOp, evc_, e69, e72]) (hK.out s _ (fun _ _ => rfl) hI)
    refine VSteps.cons rfl (fun x L s wx K kn hL hp hI hK => ?_) ?_
    · have e73 : x[73]? = some (.bool true) := kn.got 31 73 (hp ⟨31, .data⟩ (by simp) rfl) rfl
      refine want_ rfl ?_
      exact val_ (by simp [go_sem, execOp, evc_, e73]) (hK.out s _ (fun _ _ => rfl) hI)
    refine VSteps.cons rfl (fun x L s wx K kn hL hp hI hK => ?_) ?_
    · have e8 : x[8]? = some (.pointer (some ⟨w15.heap.size, 0, none⟩)) := (kn.old 8 (by kernel_rfl)).trans rfl
      refine want_ ((guard_ rfl rfl true (show x[74]? = some (.bool true) from kn.got 32 74 (hp ⟨32, .guard⟩ (by simp) rfl) rfl)).trans rfl) ?_
      exact wp_load_row 27 _ rfl w15.heap.size (ev_ e8) 27 (U (lim 3)) (0, 0) _ hI.2.2.2.2.1 Try.underlying27 rfl (ofLen l33) (hK.out s _ (fun _ _ => rfl) hI)
    refine VSteps.cons rfl (fun x L s wx K kn hL hp hI hK => ?_) ?_
    · refine want_ ((guard_ rfl rfl true (show x[74]? = some (.bool true) from kn.got 32 74 (hp ⟨32, .chain⟩ (by simp) rfl) rfl)).trans rfl) ?_
      refine goesK_ Try.func33 (by kernel_rfl) rfl #[.int .i64 3] rfl (by simp only [List.map_toArray, List.map_cons, List.map_nil, evc_]) ((O3 _).mono ?_)
      rintro e w' ⟨rfl, g⟩
      obtain ⟨K0, K1, K2, K3, K4, BW⟩ := hI
      exact ⟨_, rfl, hK.out s _ (fun _ _ => rfl) ⟨K0.keep g, K1.keep g, K2.keep g, K3.keep g, K4.keep g, bb BW g⟩⟩
    refine VSteps.cons rfl (fun x L s wx K kn hL hp hI hK => ?_) ?_
    · have e75 : x[75]? = some (.agg (U (lim 3))) := kn.got 33 75 (hp ⟨33, .data⟩ (by simp) rfl) rfl
      have e76 : x[76]? = some (.agg (U (lim 3))) := kn.got 34 76 (hp ⟨34, .data⟩ (by simp) rfl) rfl
      refine want_ ((guard_ rfl rfl true (show x[74]? = some (.bool true) from kn.got 32 74 (hp ⟨32, .guard⟩ (by simp) rfl) rfl)).trans rfl) ?_
      exact val_ (by simp [go_sem, execOp, evc_, e75, e76, Try.eqGuardType27, run_eqW _ _ (lim_len _) (lim_len _)]) (hK.out s _ (fun _ _ => rfl) hI)
    refine VSteps.cons rfl (fun x L s wx K kn hL hp hI hK => ?_) ?_
    · have e74 : x[74]? = some (.bool true) := kn.got 32 74 (hp ⟨32, .data⟩ (by simp) rfl) rfl
      have e77 : x[77]? = some (.bool true) := kn.got 35 77 (hp ⟨35, .data⟩ (by simp) rfl) rfl
      refine want_ rfl ?_
      exact val_ (by simp [go_sem, execOp, evc_, e74, e77]) (hK.out s _ (fun _ _ => rfl) hI)
    refine VSteps.cons rfl (fun x L s wx K kn hL hp hI hK => ?_) ?_
    · have e78 : x[78]? = some (.bool true) := kn.got 36 78 (hp ⟨36, .data⟩ (by simp) rfl) rfl
      refine want_ rfl ?_
      exact val_ (by simp [go_sem, execOp, evc_, e78]) (hK.out s _ (fun _ _ => rfl) hI)
    refine VSteps.cons rfl (fun x L s wx K kn hL hp hI hK => ?_) ?_
    · have e3 : x[3]? = some (.pointer (some ⟨w7.heap.size, 0, none⟩)) := (kn.old 3 (by kernel_rfl)).trans rfl
      refine want_ ((guard_ rfl rfl true (show x[79]? = some (.bool true) from kn.got 37 79 (hp ⟨37, .guard⟩ (by simp) rfl) rfl)).trans rfl) ?_
      exact wp_load_row 27 _ rfl w7.heap.size (ev_ e3) 27 (U (lim (-6))) (0, 0) _ hI.2.1 Try.underlying27 rfl (ofLen l6) (hK.out s _ (fun _ _ => rfl) hI)
    refine VSteps.cons rfl (fun x L s wx K kn hL hp hI hK => ?_) ?_
    · have e80 : x[80]? = some (.agg (U (lim (-6)))) := kn.got 38 80 (hp ⟨38, .data⟩ (by simp) rfl) rfl
      refine want_ ((guard_ rfl rfl true (show x[79]? = some (.bool true) from kn.got 37 79 (hp ⟨37, .chain⟩ (by simp) rfl) rfl)).trans rfl) ?_
      refine goesK_ Try.func22 (by kernel_rfl) rfl #[.agg (U (lim (-6)))] rfl (by simp only [List.map_toArray, List.map_cons, List.map_nil, evc_, ev_ e80]) ((S6 _).mono ?_)
      rintro e w' ⟨rfl, g⟩
      obtain ⟨K0, K1, K2, K3, K4, BW⟩ := hI
      exact ⟨_, rfl, hK.out s _ (fun _ _ => rfl) ⟨K0.keep g, K1.keep g, K2.keep g, K3.keep g, K4.keep g, bb BW g⟩⟩
    refine VSteps.cons rfl (fun x L s wx K kn hL hp hI hK => ?_) ?_
    · have e81 : x[81]? = some (.int .i64 (-1)) := kn.got 39 81 (hp ⟨39, .data⟩ (by simp) rfl) rfl
      refine want_ ((guard_ rfl rfl true (show x[79]? = some (.bool true) from kn.got 37 79 (hp ⟨37, .guard⟩ (by simp) rfl) rfl)).trans rfl) ?_
      exact val_ (by simp [go_sem, execOp, evc_, e81]) (hK.out s _ (fun _ _ => rfl) hI)
    refine VSteps.cons rfl (fun x L s wx K kn hL hp hI hK => ?_) ?_
    · have e79 : x[79]? = some (.bool true) := kn.got 37 79 (hp ⟨37, .data⟩ (by simp) rfl) rfl
      have e82 : x[82]? = some (.bool true) := kn.got 40 82 (hp ⟨40, .data⟩ (by simp) rfl) rfl
      refine want_ rfl ?_
      exact val_ (by simp [go_sem, execOp, evc_, e79, e82]) (hK.out s _ (fun _ _ => rfl) hI)
    refine VSteps.cons rfl (fun x L s wx K kn hL hp hI hK => ?_) ?_
    · have e83 : x[83]? = some (.bool true) := kn.got 41 83 (hp ⟨41, .data⟩ (by simp) rfl) rfl
      refine want_ rfl ?_
      exact val_ (by simp [go_sem, execOp, evc_, e83]) (hK.out s _ (fun _ _ => rfl) hI)
    refine VSteps.cons rfl (fun x L s wx K kn hL hp hI hK => ?_) ?_
    · have e3 : x[3]? = some (.pointer (some ⟨w7.heap.size, 0, none⟩)) := (kn.old 3 (by kernel_rfl)).trans rfl
      refine want_ ((guard_ rfl rfl true (show x[84]? = some (.bool true) from kn.got 42 84 (hp ⟨42, .guard⟩ (by simp) rfl) rfl)).trans rfl) ?_
      exact wp_load_row 27 _ rfl w7.heap.size (ev_ e3) 27 (U (lim (-6))) (0, 0) _ hI.2.1 Try.underlying27 rfl (ofLen l6) (hK.out s _ (fun _ _ => rfl) hI)
    refine VSteps.cons rfl (fun x L s wx K kn hL hp hI hK => ?_) ?_
    · have e85 : x[85]? = some (.agg (U (lim (-6)))) := kn.got 43 85 (hp ⟨43, .data⟩ (by simp) rfl) rfl
      refine want_ ((guard_ rfl rfl true (show x[84]? = some (.bool true) from kn.got 42 84 (hp ⟨42, .chain⟩ (by simp) rfl) rfl)).trans rfl) ?_
      refine goesK_ Try.func24 (by kernel_rfl) rfl #[.agg (U (lim (-6)))] rfl (by simp only [List.map_toArray, List.map_cons, List.map_nil, evc_, ev_ e85]) ((B6 _).mono ?_)
      rintro e w' ⟨rfl, g⟩
      obtain ⟨K0, K1, K2, K3, K4, BW⟩ := hI
      exact ⟨_, rfl, hK.out s _ (fun _ _ => rfl) ⟨K0.keep g, K1.keep g, K2.keep g, K3.keep g, K4.keep g, bb BW g⟩⟩
    refine VSteps.cons rfl (fun x L s wx K kn hL hp hI hK => ?_) ?_
    · have e86 : x[86]? = some (.int .i64 3) := kn.got 44 86 (hp ⟨44, .data⟩ (by simp) rfl) rfl
      refine want_ ((guard_ rfl rfl true (show x[84]? = some (.bool true) from kn.got 42 84 (hp ⟨42, .guard⟩ (by simp) rfl) rfl)).trans rfl) ?_
      exact val_ (by simp [go_sem, execOp, evc_, e86]) (hK.out s _ (fun _ _ => rfl) hI)
    refine VSteps.cons rfl (fun x L s wx K kn hL hp hI hK => ?_) ?_
    · have e84 : x[84]? = some (.bool true) := kn.got 42 84 (hp ⟨42, .data⟩ (by simp) rfl) rfl
      have e87 : x[87]? = some (.bool true) := kn.got 45 87 (hp ⟨45, .data⟩ (by simp) rfl) rfl
      refine want_ rfl ?_
      exact val_ (by simp [go_sem, execOp, evc_, e84, e87]) (hK.out s _ (fun _ _ => rfl) hI)
    refine VSteps.cons rfl (fun x L s wx K kn hL hp hI hK => ?_) ?_
    · have e88 : x[88]? = some (.bool true) := kn.got 46 88 (hp ⟨46, .data⟩ (by simp) rfl) rfl
      refine want_ rfl ?_
      exact val_ (by simp [go_sem, execOp, evc_, e88]) (hK.out s _ (fun _ _ => rfl) hI)
    refine VSteps.cons rfl (fun x L s wx K kn hL hp hI hK => ?_) ?_
    · have e1 : x[1]? = some (.pointer (some ⟨w3.heap.size, 0, none⟩)) := (kn.old 1 (by kernel_rfl)).trans rfl
      refine want_ ((guard_ rfl rfl true (show x[89]? = some (.bool true) from kn.got 47 89 (hp ⟨47, .guard⟩ (by simp) rfl) rfl)).trans rfl) ?_
      exact wp_load_row 27 _ rfl w3.heap.size (ev_ e1) 27 (U (lim 5)) (0, 0) _ hI.1 Try.underlying27 rfl (ofLen l5) (hK.out s _ (fun _ _ => rfl) hI)
    refine VSteps.cons rfl (fun x L s wx K kn hL hp hI hK => ?_) ?_
    · have e3 : x[3]? = some (.pointer (some ⟨w7.heap.size, 0, none⟩)) := (kn.old 3 (by kernel_rfl)).trans rfl
      refine want_ ((guard_ rfl rfl true (show x[89]? = some (.bool true) from kn.got 47 89 (hp ⟨47, .guard⟩ (by simp) rfl) rfl)).trans rfl) ?_
      exact wp_load_row 27 _ rfl w7.heap.size (ev_ e3) 27 (U (lim (-6))) (0, 0) _ hI.2.1 Try.underlying27 rfl (ofLen l6) (hK.out s _ (fun _ _ => rfl) hI)
    refine VSteps.cons rfl (fun x L s wx K kn hL hp hI hK => ?_) ?_
    · have e90 : x[90]? = some (.agg (U (lim 5))) := kn.got 48 90 (hp ⟨48, .data⟩ (by simp) rfl) rfl
      have e91 : x[91]? = some (.agg (U (lim (-6)))) := kn.got 49 91 (hp ⟨49, .data⟩ (by simp) rfl) rfl
      refine want_ ((guard_ rfl rfl true (show x[89]? = some (.bool true) from kn.got 47 89 (hp ⟨47, .chain⟩ (by simp) rfl) rfl)).trans rfl) ?_
      refine goesK_ Try.func20 (by kernel_rfl) rfl #[.agg (U (lim 5)), .agg (U (lim (-6)))] rfl (by simp only [List.map_toArray, List.map_cons, List.map_nil, evc_, ev_ e90, ev_ e91]) ((C56 _).mono ?_)
      rintro e w' ⟨rfl, g⟩
      obtain ⟨K0, K1, K2, K3, K4, BW⟩ := hI
      exact ⟨_, rfl, hK.out s _ (fun _ _ => rfl) ⟨K0.keep g, K1.keep g, K2.keep g, K3.keep g, K4.keep g, bb BW g⟩⟩
    refine VSteps.cons rfl (fun x L s wx K kn hL hp hI hK => ?_) ?_
    · have e92 : x[92]? = some (.int .i64 1) := kn.got 50 92 (hp ⟨50, .data⟩ (by simp) rfl) rfl
      refine want_ ((guard_ rfl rfl true (show x[89]? = some (.bool true) from kn.got 47 89 (hp ⟨47, .guard⟩ (by simp) rfl) rfl)).trans rfl) ?_
      exact val_ (by simp [go_sem, execOp, evc_, e92]) (hK.out s _ (fun _ _ => rfl) hI)
    refine VSteps.cons rfl (fun x L s wx K kn hL hp hI hK => ?_) ?_
    · have e89 : x[89]? = some (.bool true) := kn.got 47 89 (hp ⟨47, .data⟩ (by simp) rfl) rfl
      have e93 : x[93]? = some (.bool true) := kn.got 51 93 (hp ⟨51, .data⟩ (by simp) rfl) rfl
      refine want_ rfl ?_
      exact val_ (by simp [go_sem, execOp, evc_, e89, e93]) (hK.out s _ (fun _ _ => rfl) hI)
    refine VSteps.cons rfl (fun x L s wx K kn hL hp hI hK => ?_) ?_
    · have e94 : x[94]? = some (.bool true) := kn.got 52 94 (hp ⟨52, .data⟩ (by simp) rfl) rfl
      refine want_ rfl ?_
      exact val_ (by simp [go_sem, execOp, evc_, e94]) (hK.out s _ (fun _ _ => rfl) hI)
    exact VSteps.nil
  case fin =>
    intro s wx hI
    simp only [puts, List.getD_cons_zero, List.getD_cons_succ, List.set_cons_zero, List.set_cons_succ]
    obtain ⟨K0, K1, K2, K3, K4, BW⟩ := hI
    go_wp2_with fail
    go_ret
    exact ⟨rfl, BW⟩
end Go.Proofs.Ytpdljoalfmgfiaa.YWide
