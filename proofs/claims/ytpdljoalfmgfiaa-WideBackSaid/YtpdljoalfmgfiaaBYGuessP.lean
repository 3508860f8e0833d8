/- Lean functions, contracts and lemmas that this claim needs. No condition. -/
import Derived.Test.YtpdljoalfmgfiaaBQWdx0
import Derived.Test.YtpdljoalfmgfiaaBQWdx1
import Derived.Test.YtpdljoalfmgfiaaBQWdx2
namespace Go.Proofs.Ytpdljoalfmgfiaa.QWd
open Go.Proofs.Ytpdljoalfmgfiaa.XCarry Go.RowKit Go.Proofs.YtpdljoalfmgfiaaW.PrintWords Go.Proofs.YtpdljoalfmgfiaaW.PrintLast Go.Proofs.YtpdljoalfmgfiaaW.PrintMore
attribute [local go_sem] max2_int min2_int max_two min_two max_three min_three max_four min_four   -- for this text's walks alone
set_option linter.unusedVariables false
set_option linter.unusedSimpArgs false
mutual
def wide_guess.j0 : Nat → Int → Int → Int → Int → Int → Int → Option (Int)
  | 0, _, _, _, _, _, _ => none
  | k + 1, x2, x3, x4, x11, x12, x13 => wide_guess.l0 k x2 x3 x4 x11 x12 x13
def wide_guess.l0 : Nat → Int → Int → Int → Int → Int → Int → Option (Int)
  | 0, _, _, _, _, _, _ => none
  | k + 1, x2, x3, x4, x11, x12, x13 => if x13 = 0 then ((bits_Mul64.f x11 x4).bind fun bt115 => (if bt115.1 < x12 then (some x11) else (if bt115.1 = x12 then (if bt115.2 ≤ x2 then (some x11) else ((bits_Add64.f x12 x3 0).bind fun bt117 => (wide_guess.l0 k x2 x3 x4 (IntKind.u64.wrap (x11 - 1)) bt117.1 bt117.2))) else ((bits_Add64.f x12 x3 0).bind fun bt119 => (wide_guess.l0 k x2 x3 x4 (IntKind.u64.wrap (x11 - 1)) bt119.1 bt119.2))))) else (some x11)
end
def wide_guess.f (k : Nat) (a0 : Int) (a1 : Int) (a2 : Int) (a3 : Int) (a4 : Int) : Option (Int) := if a0 < a3 then ((bits_Div64.f k a0 a1 a3).bind fun bt111 => (wide_guess.j0 k a2 a3 a4 bt111.1 bt111.2 0)) else ((bits_Add64.f a1 a3 0).bind fun bt113 => (wide_guess.j0 k a2 a3 a4 18446744073709551615 bt113.1 bt113.2))
theorem wide_guess.mono_l : ∀ k, (∀ y0 y1 y2 y3 y4 y5, LeO (wide_guess.j0 k y0 y1 y2 y3 y4 y5) (wide_guess.j0 (k + 1) y0 y1 y2 y3 y4 y5)) ∧ (∀ y0 y1 y2 y3 y4 y5, LeO (wide_guess.l0 k y0 y1 y2 y3 y4 y5) (wide_guess.l0 (k + 1) y0 y1 y2 y3 y4 y5))
  | 0 => ⟨fun _ _ _ _ _ _ r h => by simp [wide_guess.j0] at h, fun _ _ _ _ _ _ r h => by simp [wide_guess.l0] at h⟩
  | k + 1 => by
    obtain ⟨ih0, ih1⟩ := wide_guess.mono_l k
    refine ⟨?_, ?_⟩
    · intro y0 y1 y2 y3 y4 y5
      unfold wide_guess.j0
      repeat' first
      | (with_reducible exact ih0 _ _ _ _ _ _)
      | (with_reducible exact ih1 _ _ _ _ _ _)
      | (with_reducible exact bits_Div64.mono _ _ _ _)
      | (with_reducible exact LeO.refl _)
      | (with_reducible exact LeO.none _)
      | (with_reducible refine LeO.ite ?_ ?_)
      | (with_reducible refine LeO.bind ?_ (fun _ => ?_))
      | exact ih0 _ _ _ _ _ _
      | exact ih1 _ _ _ _ _ _
      | exact bits_Div64.mono _ _ _ _
      | exact LeO.none _
      | refine LeO.ite ?_ ?_
      | refine LeO.bind ?_ (fun _ => ?_)
    · intro y0 y1 y2 y3 y4 y5
      unfold wide_guess.l0
      repeat' first
      | (with_reducible exact ih0 _ _ _ _ _ _)
      | (with_reducible exact ih1 _ _ _ _ _ _)
      | (with_reducible exact bits_Div64.mono _ _ _ _)
      | (with_reducible exact LeO.refl _)
      | (with_reducible exact LeO.none _)
      | (with_reducible refine LeO.ite ?_ ?_)
      | (with_reducible refine LeO.bind ?_ (fun _ => ?_))
      | exact ih0 _ _ _ _ _ _
      | exact ih1 _ _ _ _ _ _
      | exact bits_Div64.mono _ _ _ _
      | exact LeO.none _
      | refine LeO.ite ?_ ?_
      | refine LeO.bind ?_ (fun _ => ?_)
theorem wide_guess.mono : ∀ a0 a1 a2 a3 a4 k, LeO (wide_guess.f k a0 a1 a2 a3 a4) (wide_guess.f (k + 1) a0 a1 a2 a3 a4) := by
  intro a0 a1 a2 a3 a4 k
  obtain ⟨ih0, ih1⟩ := wide_guess.mono_l k
  unfold wide_guess.f
  repeat' first
      | (with_reducible exact ih0 _ _ _ _ _ _)
      | (with_reducible exact ih1 _ _ _ _ _ _)
      | (with_reducible exact bits_Div64.mono _ _ _ _)
      | (with_reducible exact LeO.refl _)
      | (with_reducible exact LeO.none _)
      | (with_reducible refine LeO.ite ?_ ?_)
      | (with_reducible refine LeO.bind ?_ (fun _ => ?_))
      | exact ih0 _ _ _ _ _ _
      | exact ih1 _ _ _ _ _ _
      | exact bits_Div64.mono _ _ _ _
      | exact LeO.none _
      | refine LeO.ite ?_ ?_
      | refine LeO.bind ?_ (fun _ => ?_)
set_option maxHeartbeats 8000000 in
set_option maxRecDepth 100000 in
theorem wide_guess.calls (k : Nat) (a0 : Int) (a1 : Int) (a2 : Int) (a3 : Int) (a4 : Int) (r : Int) (w : World) (h : wide_guess.f k a0 a1 a2 a3 a4 = some r) :
    Calls Try.prog 62 #[.int .u64 a0, .int .u64 a1, .int .u64 a2, .int .u64 a3, .int .u64 a4] w fun e w' => e = .returned (.int .u64 r) ∧ Drawn0 w w' := by
  have H : (if a0 < a3 then ((bits_Div64.f k a0 a1 a3).bind fun bt111 => (wide_guess.j0 k a2 a3 a4 bt111.1 bt111.2 0)) else ((bits_Add64.f a1 a3 0).bind fun bt113 => (wide_guess.j0 k a2 a3 a4 18446744073709551615 bt113.1 bt113.2))) = some r := h
  clear h
  have HC6 := Aside0.mk H
  clear H
  go_enter Try.func62, Try.ntmps62
  go_upto_if 19 with (fail)
  go_cut [11, 12, 13] (fun v11 v12 v13 wc => ∃ (kq : Nat) (x11_5 : Int) (x12_5 : Int) (x13_5 : Int), v11 = .int .u64 x11_5 ∧ v12 = .int .u64 x12_5 ∧ v13 = .int .u64 x13_5 ∧ Aside0 (wide_guess.j0 kq a2 a3 a4 x11_5 x12_5 x13_5 = some r) ∧ Aside0 (kq ≤ k) ∧ Drawn0 w wc)
  case first =>
    have H := HC6.out
    clear HC6
    by_cases c7 : a0 < a3
    · rw [if_pos c7] at H
      have c7b0 : decide (a0 < a3) = true := decide_eq_true c7
      clear c7
      (first | rw [c7b0] | (simp only [i64_w, i32_w]; rw [c7b0]) | skip)
      replace H := Option.bind_eq_some_iff.mp H
      obtain ⟨⟨t111, t112⟩, A80, H⟩ := H
      replace H : (wide_guess.j0 k a2 a3 a4 t111 t112 0) = some r := H
      have A8 := Aside0.mk A80
      clear A80
      have H' := Aside0.mk H
      clear H
      go_wp2_with (first | ((with_reducible refine gate_callee (f := 63) rfl ?_); refine goesL_ (some 24) rfl rfl Try.func63 (by kernel_rfl) rfl #[.int .u64 a0, .int .u64 a1, .int .u64 a3] rfl (by (try simp only [List.map_toArray, List.map_cons, List.map_nil]); first | done | rfl | (simp only [List.length_drop, List.length_take]; rfl)) ?_; (with_reducible refine (bits_Div64.calls k a0 a1 a3 t111 t112 _ A8.out).mono ?_); rintro e w' ⟨rfl, ⟨nd, rfl⟩⟩; refine ⟨_, rfl, ?_⟩))
      go_meet
      case rel => exact ⟨_, (t111), (t112), (0), (by first | rfl | (simp; done) | (simp [*]; done) | (simp [nb1_, nb2_]; done)), (by first | rfl | (simp; done) | (simp [*]; done) | (simp [nb1_, nb2_]; done)), (by first | rfl | (simp; done) | (simp [*]; done) | (simp [nb1_, nb2_]; done)), H', ⟨by first | omega | exact Nat.le_refl _⟩, by repeat (first | exact Drawn0.refl _ | apply Drawn0.step)⟩
    · rw [if_neg c7] at H
      have c7b0 : decide (a0 < a3) = false := decide_eq_false c7
      clear c7
      (first | rw [c7b0] | (simp only [i64_w, i32_w]; rw [c7b0]) | skip)
      replace H := Option.bind_eq_some_iff.mp H
      obtain ⟨⟨t113, t114⟩, A90, H⟩ := H
      replace H : (wide_guess.j0 k a2 a3 a4 18446744073709551615 t113 t114) = some r := H
      have A9 := Aside0.mk A90
      clear A90
      have H' := Aside0.mk H
      clear H
      go_wp2_with (first | ((with_reducible refine gate_callee (f := 39) rfl ?_); refine goesX_ (some 30) rfl rfl #[.int .u64 a1, .int .u64 a3, .int .u64 0] rfl (by (try simp only [List.map_toArray, List.map_cons, List.map_nil]); first | done | rfl | (simp only [List.length_drop, List.length_take]; rfl)) ?_; (with_reducible refine (bits_Add64.calls a1 a3 0 t113 t114 _ A9.out).mono ?_); rintro e w' ⟨rfl, ⟨nd, rfl⟩⟩; refine ⟨_, rfl, ?_⟩))
      go_meet
      case rel => exact ⟨_, (18446744073709551615), (t113), (t114), (by first | rfl | (simp; done) | (simp [*]; done) | (simp [nb1_, nb2_]; done)), (by first | rfl | (simp; done) | (simp [*]; done) | (simp [nb1_, nb2_]; done)), (by first | rfl | (simp; done) | (simp [*]; done) | (simp [nb1_, nb2_]; done)), H', ⟨by first | omega | exact Nat.le_refl _⟩, by repeat (first | exact Drawn0.refl _ | apply Drawn0.step)⟩
  case rest =>
    clear HC6
    try clear p2
    try clear c3
    try clear c6
    try clear c7
    try clear c7b0
    obtain ⟨kq, x11_5, x12_5, x13_5, rfl, rfl, rfl, HA, HJ5, ⟨mc5, rfl⟩⟩ := hcut
    cases kq with
    | zero => exact absurd HA.out (by simp [wide_guess.j0])
    | succ kj5 =>
      have H := HA.out
      clear HA
      simp only [wide_guess.j0] at H
      have H' := Aside0.mk H
      clear H
      go_wp2
      go_loopg [11, 12, 13] kj5 (fun kq v11 v12 v13 w' => ∃ (x11_2 : Int) (x12_2 : Int) (x13_2 : Int), v11 = .int .u64 x11_2 ∧ v12 = .int .u64 x12_2 ∧ v13 = .int .u64 x13_2 ∧ Aside0 (wide_guess.l0 kq a2 a3 a4 x11_2 x12_2 x13_2 = some r) ∧ Aside0 (kq ≤ kj5) ∧ Drawn0 w w')
      case atStart => exact ⟨(x11_5), (x12_5), (x13_5), (by first | rfl | (simp; done) | (simp [*]; done) | (simp [nb1_, nb2_]; done)), (by first | rfl | (simp; done) | (simp [*]; done) | (simp [nb1_, nb2_]; done)), (by first | rfl | (simp; done) | (simp [*]; done) | (simp [nb1_, nb2_]; done)), H', ⟨Nat.le_refl _⟩, by repeat (first | exact Drawn0.refl _ | apply Drawn0.step)⟩
      case round =>
        clear H'
        try clear p2
        try clear c3
        try clear c5
        try clear c6
        try clear c7
        try clear c7b0
        try clear p2
        obtain ⟨x11_2, x12_2, x13_2, rfl, rfl, rfl, HA, HK2, ⟨m2, rfl⟩⟩ := hrel
        cases gk with
        | zero => exact absurd HA.out (by simp [wide_guess.l0])
        | succ k2 =>
          have H := HA.out
          clear HA
          simp only [wide_guess.l0] at H
          by_cases c10 : x13_2 = 0
          · rw [if_pos c10] at H
            have c10b0 : (x13_2 == 0) = true := beq_iff_eq.mpr c10
            have c10b1 : (x13_2 != 0) = false := bne_eq_false_iff_eq.mpr c10
            clear c10
            replace H := Option.bind_eq_some_iff.mp H
            obtain ⟨⟨t115, t116⟩, A110, H⟩ := H
            replace H : (if t115 < x12_2 then (some x11_2) else (if t115 = x12_2 then (if t116 ≤ a2 then (some x11_2) else ((bits_Add64.f x12_2 a3 0).bind fun bt117 => (wide_guess.l0 k2 a2 a3 a4 (IntKind.u64.wrap (x11_2 - 1)) bt117.1 bt117.2))) else ((bits_Add64.f x12_2 a3 0).bind fun bt119 => (wide_guess.l0 k2 a2 a3 a4 (IntKind.u64.wrap (x11_2 - 1)) bt119.1 bt119.2)))) = some r := H
            have A11 := Aside0.mk A110
            clear A110
            by_cases c12 : t115 < x12_2
            · rw [if_pos c12] at H
              have c12b0 : decide (t115 < x12_2) = true := decide_eq_true c12
              clear c12
              obtain rfl := Option.some.inj H
              go_wp2_with (first | ((with_reducible refine gate_callee (f := 45) rfl ?_); refine goesL_ (some 38) rfl rfl Try.func45 (by kernel_rfl) rfl #[.int .u64 x11_2, .int .u64 a4] rfl (by (try simp only [List.map_toArray, List.map_cons, List.map_nil]); first | done | rfl | (simp only [List.length_drop, List.length_take]; rfl)) ?_; (with_reducible refine (bits_Mul64.calls x11_2 a4 t115 t116 _ A11.out).mono ?_); rintro e w' ⟨rfl, ⟨nd, rfl⟩⟩; refine ⟨_, rfl, ?_⟩))
              go_ret
              exact ⟨by first | rfl | (simp; done) | (simp [*]; done) | (simp [nb1_, nb2_]; done), by repeat (first | exact Drawn0.refl _ | apply Drawn0.step)⟩
            · rw [if_neg c12] at H
              have c12b0 : decide (t115 < x12_2) = false := decide_eq_false c12
              clear c12
              by_cases c13 : t115 = x12_2
              · rw [if_pos c13] at H
                have c13b0 : (t115 == x12_2) = true := beq_iff_eq.mpr c13
                have c13b1 : (t115 != x12_2) = false := bne_eq_false_iff_eq.mpr c13
                clear c13
                by_cases c14 : t116 ≤ a2
                · rw [if_pos c14] at H
                  have c14b0 : decide (t116 ≤ a2) = true := decide_eq_true c14
                  clear c14
                  obtain rfl := Option.some.inj H
                  go_wp2_with (first | ((with_reducible refine gate_callee (f := 45) rfl ?_); refine goesL_ (some 38) rfl rfl Try.func45 (by kernel_rfl) rfl #[.int .u64 x11_2, .int .u64 a4] rfl (by (try simp only [List.map_toArray, List.map_cons, List.map_nil]); first | done | rfl | (simp only [List.length_drop, List.length_take]; rfl)) ?_; (with_reducible refine (bits_Mul64.calls x11_2 a4 t115 t116 _ A11.out).mono ?_); rintro e w' ⟨rfl, ⟨nd, rfl⟩⟩; refine ⟨_, rfl, ?_⟩))
                  go_ret
                  exact ⟨by first | rfl | (simp; done) | (simp [*]; done) | (simp [nb1_, nb2_]; done), by repeat (first | exact Drawn0.refl _ | apply Drawn0.step)⟩
                · rw [if_neg c14] at H
                  have c14b0 : decide (t116 ≤ a2) = false := decide_eq_false c14
                  clear c14
                  replace H := Option.bind_eq_some_iff.mp H
                  obtain ⟨⟨t117, t118⟩, A150, H⟩ := H
                  replace H : (wide_guess.l0 k2 a2 a3 a4 (IntKind.u64.wrap (x11_2 - 1)) t117 t118) = some r := H
                  have A15 := Aside0.mk A150
                  clear A150
                  have H' := Aside0.mk H
                  clear H
                  go_wp2_with (first | ((with_reducible refine gate_callee (f := 45) rfl ?_); refine goesL_ (some 38) rfl rfl Try.func45 (by kernel_rfl) rfl #[.int .u64 x11_2, .int .u64 a4] rfl (by (try simp only [List.map_toArray, List.map_cons, List.map_nil]); first | done | rfl | (simp only [List.length_drop, List.length_take]; rfl)) ?_; (with_reducible refine (bits_Mul64.calls x11_2 a4 t115 t116 _ A11.out).mono ?_); rintro e w' ⟨rfl, ⟨nd, rfl⟩⟩; refine ⟨_, rfl, ?_⟩) | ((with_reducible refine gate_callee (f := 39) rfl ?_); refine goesX_ (some 59) rfl rfl #[.int .u64 x12_2, .int .u64 a3, .int .u64 0] rfl (by (try simp only [List.map_toArray, List.map_cons, List.map_nil]); first | done | rfl | (simp only [List.length_drop, List.length_take]; rfl)) ?_; (with_reducible refine (bits_Add64.calls x12_2 a3 0 t117 t118 _ A15.out).mono ?_); rintro e w' ⟨rfl, ⟨nd, rfl⟩⟩; refine ⟨_, rfl, ?_⟩))
                  go_roundg k2
                  case measure => have := HJ5.out; have := HK2.out; omega
                  case rel => exact ⟨(IntKind.u64.wrap (x11_2 - 1)), (t117), (t118), (by first | rfl | (simp; done) | (simp [*]; done) | (simp [nb1_, nb2_]; done)), (by first | rfl | (simp; done) | (simp [*]; done) | (simp [nb1_, nb2_]; done)), (by first | rfl | (simp; done) | (simp [*]; done) | (simp [nb1_, nb2_]; done)), H', ⟨by have := HJ5.out; have := HK2.out; omega⟩, by repeat (first | exact Drawn0.refl _ | apply Drawn0.step)⟩
              · rw [if_neg c13] at H
                have c13b0 : (t115 == x12_2) = false := beq_eq_false_iff_ne.mpr c13
                have c13b1 : (t115 != x12_2) = true := bne_iff_ne.mpr c13
                replace H := Option.bind_eq_some_iff.mp H
                obtain ⟨⟨t119, t120⟩, A160, H⟩ := H
                replace H : (wide_guess.l0 k2 a2 a3 a4 (IntKind.u64.wrap (x11_2 - 1)) t119 t120) = some r := H
                have A16 := Aside0.mk A160
                clear A160
                have H' := Aside0.mk H
                clear H
                go_wp2_with (first | ((with_reducible refine gate_callee (f := 45) rfl ?_); refine goesL_ (some 38) rfl rfl Try.func45 (by kernel_rfl) rfl #[.int .u64 x11_2, .int .u64 a4] rfl (by (try simp only [List.map_toArray, List.map_cons, List.map_nil]); first | done | rfl | (simp only [List.length_drop, List.length_take]; rfl)) ?_; (with_reducible refine (bits_Mul64.calls x11_2 a4 t115 t116 _ A11.out).mono ?_); rintro e w' ⟨rfl, ⟨nd, rfl⟩⟩; refine ⟨_, rfl, ?_⟩) | ((with_reducible refine gate_callee (f := 39) rfl ?_); refine goesX_ (some 59) rfl rfl #[.int .u64 x12_2, .int .u64 a3, .int .u64 0] rfl (by (try simp only [List.map_toArray, List.map_cons, List.map_nil]); first | done | rfl | (simp only [List.length_drop, List.length_take]; rfl)) ?_; (with_reducible refine (bits_Add64.calls x12_2 a3 0 t119 t120 _ A16.out).mono ?_); rintro e w' ⟨rfl, ⟨nd, rfl⟩⟩; refine ⟨_, rfl, ?_⟩))
                go_roundg k2
                case measure => have := HJ5.out; have := HK2.out; omega
                case rel => exact ⟨(IntKind.u64.wrap (x11_2 - 1)), (t119), (t120), (by first | rfl | (simp; done) | (simp [*]; done) | (simp [nb1_, nb2_]; done)), (by first | rfl | (simp; done) | (simp [*]; done) | (simp [nb1_, nb2_]; done)), (by first | rfl | (simp; done) | (simp [*]; done) | (simp [nb1_, nb2_]; done)), H', ⟨by have := HJ5.out; have := HK2.out; omega⟩, by repeat (first | exact Drawn0.refl _ | apply Drawn0.step)⟩
          · rw [if_neg c10] at H
            have c10b0 : (x13_2 == 0) = false := beq_eq_false_iff_ne.mpr c10
            have c10b1 : (x13_2 != 0) = true := bne_iff_ne.mpr c10
            obtain rfl := Option.some.inj H
            go_wp2
            go_ret
            exact ⟨by first | rfl | (simp; done) | (simp [*]; done) | (simp [nb1_, nb2_]; done), by repeat (first | exact Drawn0.refl _ | apply Drawn0.step)⟩
end Go.Proofs.Ytpdljoalfmgfiaa.QWd
