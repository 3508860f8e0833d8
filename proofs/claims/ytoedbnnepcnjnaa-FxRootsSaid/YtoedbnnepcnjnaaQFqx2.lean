/- Lean functions for Go functions that a statement reaches, and a proof that the calls come to them. Written by a program of this session. -/
import Derived.Test.YtoedbnnepcnjnaaQFqx0
import Derived.Test.YtoedbnnepcnjnaaQFqx1
namespace Go.Proofs.Ytoedbnnepcnjnaa.QFq
open Go.Proofs.Ytoedbnnepcnjnaa.XCarry Go.RowKit Go.Proofs.YtoedbnnepcnjnaaW.PrintWords Go.Proofs.YtoedbnnepcnjnaaW.PrintLast Go.Proofs.YtoedbnnepcnjnaaW.PrintMore
attribute [local go_sem] max2_int min2_int max_two min_two max_three min_three max_four min_four   -- for this text's walks alone
set_option linter.unusedVariables false
set_option linter.unusedSimpArgs false

/-! ### fx_signed: function 54 -/
def fx_signed.j0 : Nat → Int → Bool → Bool → Option (Int × Bool)
  | 0, _, _, _ => none
  | k + 1, x0, x1, x6 => if x6 = true then (some (wrap64 (IntKind.u64.wrap (-x0)), true)) else (if x1 = true then (some (0, false)) else (if x0 < 9223372036854775808 then (some (wrap64 (x0), true)) else (some (0, false))))
def fx_signed.f (k : Nat) (a0 : Int) (a1 : Bool) : Option (Int × Bool) := if a1 = true then (fx_signed.j0 k a0 a1 (decide (a0 ≤ 9223372036854775808))) else (fx_signed.j0 k a0 a1 false)
theorem fx_signed.mono_l : ∀ k, (∀ y0 y1 y2, LeO (fx_signed.j0 k y0 y1 y2) (fx_signed.j0 (k + 1) y0 y1 y2))
  | 0 => fun _ _ _ r h => by simp [fx_signed.j0] at h
  | k + 1 => by
    have ih0 := fx_signed.mono_l k
    · intro y0 y1 y2
      unfold fx_signed.j0
      repeat' first
      | (with_reducible exact ih0 _ _ _)
      | (with_reducible exact LeO.refl _)
      | (with_reducible exact LeO.none _)
      | (with_reducible refine LeO.ite ?_ ?_)
      | (with_reducible refine LeO.bind ?_ (fun _ => ?_))
      | exact ih0 _ _ _
      | exact LeO.none _
      | refine LeO.ite ?_ ?_
      | refine LeO.bind ?_ (fun _ => ?_)
theorem fx_signed.mono : ∀ a0 a1 k, LeO (fx_signed.f k a0 a1) (fx_signed.f (k + 1) a0 a1) := by
  intro a0 a1 k
  have ih0 := fx_signed.mono_l k
  unfold fx_signed.f
  repeat' first
      | (with_reducible exact ih0 _ _ _)
      | (with_reducible exact LeO.refl _)
      | (with_reducible exact LeO.none _)
      | (with_reducible refine LeO.ite ?_ ?_)
      | (with_reducible refine LeO.bind ?_ (fun _ => ?_))
      | exact ih0 _ _ _
      | exact LeO.none _
      | refine LeO.ite ?_ ?_
      | refine LeO.bind ?_ (fun _ => ?_)
set_option maxHeartbeats 8000000 in
set_option maxRecDepth 100000 in
theorem fx_signed.calls (k : Nat) (a0 : Int) (a1 : Bool) (r1 : Int) (r2 : Bool) (w : World) (h : fx_signed.f k a0 a1 = some (r1, r2)) :
    Calls Try.prog 54 #[.int .u64 a0, .bool a1] w fun e w' => e = .returned (.tuple #[.int .i64 r1, .bool r2]) ∧ Drawn0 w w' := by
  have H : (if a1 = true then (fx_signed.j0 k a0 a1 (decide (a0 ≤ 9223372036854775808))) else (fx_signed.j0 k a0 a1 false)) = some (r1, r2) := h
  clear h
  have HC3 := Aside0.mk H
  clear H
  go_enter Try.func54, Try.ntmps54
  go_upto_region 1 with (fail)
  go_cut [6] (fun v6 wc => ∃ (kq : Nat) (x6_2 : Bool), v6 = .bool x6_2 ∧ Aside0 (fx_signed.j0 kq a0 a1 x6_2 = some (r1, r2)) ∧ Aside0 (kq ≤ k) ∧ Drawn0 w wc)
  case first =>
    have H := HC3.out
    clear HC3
    by_cases c4 : a1 = true
    · subst c4
      have H1 : (fx_signed.j0 k a0 true (decide (a0 ≤ 9223372036854775808))) = some (r1, r2) := by rw [if_pos rfl] at H; exact H
      clear H
      have H := H1
      clear H1
      have H' := Aside0.mk H
      clear H
      go_wp2
      go_meet
      case rel => exact ⟨_, (decide (a0 ≤ 9223372036854775808)), (by first | rfl | (simp; done) | (simp [*]; done) | (simp [nb1_, nb2_]; done)), H', ⟨by first | omega | exact Nat.le_refl _⟩, by repeat (first | exact Drawn0.refl _ | apply Drawn0.step)⟩
    · replace c4 := Bool.eq_false_iff.mpr c4
      subst c4
      have H1 : (fx_signed.j0 k a0 false false) = some (r1, r2) := by rw [if_neg (show ¬ (false = true) by decide)] at H; exact H
      clear H
      have H := H1
      clear H1
      have H' := Aside0.mk H
      clear H
      go_wp2
      go_meet
      case rel => exact ⟨_, (false), (by first | rfl | (simp; done) | (simp [*]; done) | (simp [nb1_, nb2_]; done)), H', ⟨by first | omega | exact Nat.le_refl _⟩, by repeat (first | exact Drawn0.refl _ | apply Drawn0.step)⟩
  case rest =>
    clear HC3
    try clear p2
    try clear c4
    obtain ⟨kq, x6_2, rfl, HA, HJ2, ⟨mc2, rfl⟩⟩ := hcut
    cases kq with
    | zero => exact absurd HA.out (by simp [fx_signed.j0])
    | succ kj2 =>
      have H := HA.out
      clear HA
      simp only [fx_signed.j0] at H
      by_cases c5 : x6_2 = true
      · subst c5
        have H1 : (some (wrap64 (IntKind.u64.wrap (-a0)), true)) = some (r1, r2) := by rw [if_pos rfl] at H; exact H
        clear H
        have H := H1
        clear H1
        simp only [Option.some.injEq, Prod.mk.injEq] at H
        obtain ⟨rfl, rfl⟩ := H
        go_wp2
        go_ret2
        exact ⟨by first | rfl | (simp; done) | (simp [*]; done) | (simp [nb1_, nb2_]; done), by repeat (first | exact Drawn0.refl _ | apply Drawn0.step)⟩
      · replace c5 := Bool.eq_false_iff.mpr c5
        subst c5
        have H1 : (if a1 = true then (some (0, false)) else (if a0 < 9223372036854775808 then (some (wrap64 (a0), true)) else (some (0, false)))) = some (r1, r2) := by rw [if_neg (show ¬ (false = true) by decide)] at H; exact H
        clear H
        have H := H1
        clear H1
        by_cases c6 : a1 = true
        · subst c6
          have H1 : (some (0, false)) = some (r1, r2) := by rw [if_pos rfl] at H; exact H
          clear H
          have H := H1
          clear H1
          simp only [Option.some.injEq, Prod.mk.injEq] at H
          obtain ⟨rfl, rfl⟩ := H
          go_wp2
          go_ret2
          exact ⟨by first | rfl | (simp; done) | (simp [*]; done) | (simp [nb1_, nb2_]; done), by repeat (first | exact Drawn0.refl _ | apply Drawn0.step)⟩
        · replace c6 := Bool.eq_false_iff.mpr c6
          subst c6
          have H1 : (if a0 < 9223372036854775808 then (some (wrap64 (a0), true)) else (some (0, false))) = some (r1, r2) := by rw [if_neg (show ¬ (false = true) by decide)] at H; exact H
          clear H
          have H := H1
          clear H1
          by_cases c7 : a0 < 9223372036854775808
          · rw [if_pos c7] at H
            have c7b0 : decide (a0 < 9223372036854775808) = true := decide_eq_true c7
            clear c7
            simp only [Option.some.injEq, Prod.mk.injEq] at H
            obtain ⟨rfl, rfl⟩ := H
            go_wp2
            go_ret2
            exact ⟨by first | rfl | (simp; done) | (simp [*]; done) | (simp [nb1_, nb2_]; done), by repeat (first | exact Drawn0.refl _ | apply Drawn0.step)⟩
          · rw [if_neg c7] at H
            have c7b0 : decide (a0 < 9223372036854775808) = false := decide_eq_false c7
            clear c7
            simp only [Option.some.injEq, Prod.mk.injEq] at H
            obtain ⟨rfl, rfl⟩ := H
            go_wp2
            go_ret2
            exact ⟨by first | rfl | (simp; done) | (simp [*]; done) | (simp [nb1_, nb2_]; done), by repeat (first | exact Drawn0.refl _ | apply Drawn0.step)⟩

/-! ### fx_MulDiv: function 25 -/
def fx_MulDiv.j0 : Nat → Bool → Int → Bool → Option (Int × Bool)
  | 0, _, _, _ => none
  | k + 1, x8, x11, x56 => if x56 = true then (if (IntKind.u64.wrap (x11 + 1)) = 0 then (some (0, false)) else ((fx_signed.f k (IntKind.u64.wrap (x11 + 1)) x8).bind fun bt109 => (some (bt109.1, bt109.2)))) else ((fx_signed.f k x11 x8).bind fun bt111 => (some (bt111.1, bt111.2)))
def fx_MulDiv.f (k : Nat) (a0 : Int) (a1 : Int) (a2 : Int) : Option (Int × Bool) := if a2 ≤ 0 then (some (0, false)) else ((fx_size.f a0).bind fun t103 => ((fx_size.f a1).bind fun t104 => ((bits_Mul64.f t103 t104).bind fun bt105 => (if bt105.1 ≥ (IntKind.u64.wrap (a2)) then (some (0, false)) else ((bits_Div64.f k bt105.1 bt105.2 (IntKind.u64.wrap (a2))).bind fun bt107 => (if bt107.2 > (IntKind.u64.wrap ((IntKind.u64.wrap (a2)) - bt107.2)) then (fx_MulDiv.j0 k ((decide (a0 < 0)) != (decide (a1 < 0))) bt107.1 true) else (if bt107.2 = (IntKind.u64.wrap ((IntKind.u64.wrap (a2)) - bt107.2)) then (fx_MulDiv.j0 k ((decide (a0 < 0)) != (decide (a1 < 0))) bt107.1 (!((decide (a0 < 0)) != (decide (a1 < 0))))) else (fx_MulDiv.j0 k ((decide (a0 < 0)) != (decide (a1 < 0))) bt107.1 false))))))))
theorem fx_MulDiv.mono_l : ∀ k, (∀ y0 y1 y2, LeO (fx_MulDiv.j0 k y0 y1 y2) (fx_MulDiv.j0 (k + 1) y0 y1 y2))
  | 0 => fun _ _ _ r h => by simp [fx_MulDiv.j0] at h
  | k + 1 => by
    have ih0 := fx_MulDiv.mono_l k
    · intro y0 y1 y2
      unfold fx_MulDiv.j0
      repeat' first
      | (with_reducible exact ih0 _ _ _)
      | (with_reducible exact bits_Div64.mono _ _ _ _)
      | (with_reducible exact fx_signed.mono _ _ _)
      | (with_reducible exact LeO.refl _)
      | (with_reducible exact LeO.none _)
      | (with_reducible refine LeO.ite ?_ ?_)
      | (with_reducible refine LeO.bind ?_ (fun _ => ?_))
      | exact ih0 _ _ _
      | exact bits_Div64.mono _ _ _ _
      | exact fx_signed.mono _ _ _
      | exact LeO.none _
      | refine LeO.ite ?_ ?_
      | refine LeO.bind ?_ (fun _ => ?_)
theorem fx_MulDiv.mono : ∀ a0 a1 a2 k, LeO (fx_MulDiv.f k a0 a1 a2) (fx_MulDiv.f (k + 1) a0 a1 a2) := by
  intro a0 a1 a2 k
  have ih0 := fx_MulDiv.mono_l k
  unfold fx_MulDiv.f
  repeat' first
      | (with_reducible exact ih0 _ _ _)
      | (with_reducible exact bits_Div64.mono _ _ _ _)
      | (with_reducible exact fx_signed.mono _ _ _)
      | (with_reducible exact LeO.refl _)
      | (with_reducible exact LeO.none _)
      | (with_reducible refine LeO.ite ?_ ?_)
      | (with_reducible refine LeO.bind ?_ (fun _ => ?_))
      | exact ih0 _ _ _
      | exact bits_Div64.mono _ _ _ _
      | exact fx_signed.mono _ _ _
      | exact LeO.none _
      | refine LeO.ite ?_ ?_
      | refine LeO.bind ?_ (fun _ => ?_)
set_option maxHeartbeats 8000000 in
set_option maxRecDepth 100000 in
theorem fx_MulDiv.calls (k : Nat) (a0 : Int) (a1 : Int) (a2 : Int) (r1 : Int) (r2 : Bool) (w : World) (h : fx_MulDiv.f k a0 a1 a2 = some (r1, r2)) :
    Calls Try.prog 25 #[.int .i64 a0, .int .i64 a1, .int .i64 a2] w fun e w' => e = .returned (.tuple #[.int .i64 r1, .bool r2]) ∧ Drawn0 w w' := by
  have H : (if a2 ≤ 0 then (some (0, false)) else ((fx_size.f a0).bind fun t103 => ((fx_size.f a1).bind fun t104 => ((bits_Mul64.f t103 t104).bind fun bt105 => (if bt105.1 ≥ (IntKind.u64.wrap (a2)) then (some (0, false)) else ((bits_Div64.f k bt105.1 bt105.2 (IntKind.u64.wrap (a2))).bind fun bt107 => (if bt107.2 > (IntKind.u64.wrap ((IntKind.u64.wrap (a2)) - bt107.2)) then (fx_MulDiv.j0 k ((decide (a0 < 0)) != (decide (a1 < 0))) bt107.1 true) else (if bt107.2 = (IntKind.u64.wrap ((IntKind.u64.wrap (a2)) - bt107.2)) then (fx_MulDiv.j0 k ((decide (a0 < 0)) != (decide (a1 < 0))) bt107.1 (!((decide (a0 < 0)) != (decide (a1 < 0))))) else (fx_MulDiv.j0 k ((decide (a0 < 0)) != (decide (a1 < 0))) bt107.1 false))))))))) = some (r1, r2) := h
  clear h
  by_cases c4 : a2 ≤ 0
  · rw [if_pos c4] at H
    have c4b0 : decide (a2 ≤ 0) = true := decide_eq_true c4
    clear c4
    simp only [Option.some.injEq, Prod.mk.injEq] at H
    obtain ⟨rfl, rfl⟩ := H
    go_enter Try.func25, Try.ntmps25
    go_wp2
    go_ret2
    exact ⟨by first | rfl | (simp; done) | (simp [*]; done) | (simp [nb1_, nb2_]; done), by repeat (first | exact Drawn0.refl _ | apply Drawn0.step)⟩
  · rw [if_neg c4] at H
    have c4b0 : decide (a2 ≤ 0) = false := decide_eq_false c4
    clear c4
    replace H := Option.bind_eq_some_iff.mp H
    obtain ⟨t103, A50, H⟩ := H
    replace H : ((fx_size.f a1).bind fun t104 => ((bits_Mul64.f t103 t104).bind fun bt105 => (if bt105.1 ≥ (IntKind.u64.wrap (a2)) then (some (0, false)) else ((bits_Div64.f k bt105.1 bt105.2 (IntKind.u64.wrap (a2))).bind fun bt107 => (if bt107.2 > (IntKind.u64.wrap ((IntKind.u64.wrap (a2)) - bt107.2)) then (fx_MulDiv.j0 k ((decide (a0 < 0)) != (decide (a1 < 0))) bt107.1 true) else (if bt107.2 = (IntKind.u64.wrap ((IntKind.u64.wrap (a2)) - bt107.2)) then (fx_MulDiv.j0 k ((decide (a0 < 0)) != (decide (a1 < 0))) bt107.1 (!((decide (a0 < 0)) != (decide (a1 < 0))))) else (fx_MulDiv.j0 k ((decide (a0 < 0)) != (decide (a1 < 0))) bt107.1 false))))))) = some (r1, r2) := H
    have A5 := Aside0.mk A50
    clear A50
    replace H := Option.bind_eq_some_iff.mp H
    obtain ⟨t104, A60, H⟩ := H
    replace H : ((bits_Mul64.f t103 t104).bind fun bt105 => (if bt105.1 ≥ (IntKind.u64.wrap (a2)) then (some (0, false)) else ((bits_Div64.f k bt105.1 bt105.2 (IntKind.u64.wrap (a2))).bind fun bt107 => (if bt107.2 > (IntKind.u64.wrap ((IntKind.u64.wrap (a2)) - bt107.2)) then (fx_MulDiv.j0 k ((decide (a0 < 0)) != (decide (a1 < 0))) bt107.1 true) else (if bt107.2 = (IntKind.u64.wrap ((IntKind.u64.wrap (a2)) - bt107.2)) then (fx_MulDiv.j0 k ((decide (a0 < 0)) != (decide (a1 < 0))) bt107.1 (!((decide (a0 < 0)) != (decide (a1 < 0))))) else (fx_MulDiv.j0 k ((decide (a0 < 0)) != (decide (a1 < 0))) bt107.1 false)))))) = some (r1, r2) := H
    have A6 := Aside0.mk A60
    clear A60
    replace H := Option.bind_eq_some_iff.mp H
    obtain ⟨⟨t105, t106⟩, A70, H⟩ := H
    replace H : (if t105 ≥ (IntKind.u64.wrap (a2)) then (some (0, false)) else ((bits_Div64.f k t105 t106 (IntKind.u64.wrap (a2))).bind fun bt107 => (if bt107.2 > (IntKind.u64.wrap ((IntKind.u64.wrap (a2)) - bt107.2)) then (fx_MulDiv.j0 k ((decide (a0 < 0)) != (decide (a1 < 0))) bt107.1 true) else (if bt107.2 = (IntKind.u64.wrap ((IntKind.u64.wrap (a2)) - bt107.2)) then (fx_MulDiv.j0 k ((decide (a0 < 0)) != (decide (a1 < 0))) bt107.1 (!((decide (a0 < 0)) != (decide (a1 < 0))))) else (fx_MulDiv.j0 k ((decide (a0 < 0)) != (decide (a1 < 0))) bt107.1 false))))) = some (r1, r2) := H
    have A7 := Aside0.mk A70
    clear A70
    by_cases c8 : t105 ≥ (IntKind.u64.wrap (a2))
    · rw [if_pos c8] at H
      have c8b0 : decide ((IntKind.u64.wrap (a2)) ≤ t105) = true := decide_eq_true c8
      clear c8
      simp only [Option.some.injEq, Prod.mk.injEq] at H
      obtain ⟨rfl, rfl⟩ := H
      go_enter Try.func25, Try.ntmps25
      go_wp2_with (first | ((with_reducible refine gate_callee (f := 52) rfl ?_); refine goesL_ (some 23) rfl rfl Try.func52 (by kernel_rfl) rfl #[.int .i64 a0] rfl (by (try simp only [List.map_toArray, List.map_cons, List.map_nil]); first | done | rfl | (simp only [List.length_drop, List.length_take]; rfl)) ?_; (with_reducible refine (fx_size.calls a0 t103 _ A5.out).mono ?_); rintro e w' ⟨rfl, ⟨nd, rfl⟩⟩; refine ⟨_, rfl, ?_⟩) | ((with_reducible refine gate_callee (f := 52) rfl ?_); refine goesL_ (some 25) rfl rfl Try.func52 (by kernel_rfl) rfl #[.int .i64 a1] rfl (by (try simp only [List.map_toArray, List.map_cons, List.map_nil]); first | done | rfl | (simp only [List.length_drop, List.length_take]; rfl)) ?_; (with_reducible refine (fx_size.calls a1 t104 _ A6.out).mono ?_); rintro e w' ⟨rfl, ⟨nd, rfl⟩⟩; refine ⟨_, rfl, ?_⟩) | ((with_reducible refine gate_callee (f := 51) rfl ?_); refine goesL_ (some 26) rfl rfl Try.func51 (by kernel_rfl) rfl #[.int .u64 t103, .int .u64 t104] rfl (by (try simp only [List.map_toArray, List.map_cons, List.map_nil]); first | done | rfl | (simp only [List.length_drop, List.length_take]; rfl)) ?_; (with_reducible refine (bits_Mul64.calls t103 t104 t105 t106 _ A7.out).mono ?_); rintro e w' ⟨rfl, ⟨nd, rfl⟩⟩; refine ⟨_, rfl, ?_⟩))
      go_ret2
      exact ⟨by first | rfl | (simp; done) | (simp [*]; done) | (simp [nb1_, nb2_]; done), by repeat (first | exact Drawn0.refl _ | apply Drawn0.step)⟩
    · rw [if_neg c8] at H
      have c8b0 : decide ((IntKind.u64.wrap (a2)) ≤ t105) = false := decide_eq_false c8
      clear c8
      replace H := Option.bind_eq_some_iff.mp H
      obtain ⟨⟨t107, t108⟩, A90, H⟩ := H
      replace H : (if t108 > (IntKind.u64.wrap ((IntKind.u64.wrap (a2)) - t108)) then (fx_MulDiv.j0 k ((decide (a0 < 0)) != (decide (a1 < 0))) t107 true) else (if t108 = (IntKind.u64.wrap ((IntKind.u64.wrap (a2)) - t108)) then (fx_MulDiv.j0 k ((decide (a0 < 0)) != (decide (a1 < 0))) t107 (!((decide (a0 < 0)) != (decide (a1 < 0))))) else (fx_MulDiv.j0 k ((decide (a0 < 0)) != (decide (a1 < 0))) t107 false))) = some (r1, r2) := H
      have A9 := Aside0.mk A90
      clear A90
      have HC10 := Aside0.mk H
      clear H
      go_enter Try.func25, Try.ntmps25
      go_upto_region 9 with (first | ((with_reducible refine gate_callee (f := 52) rfl ?_); refine goesL_ (some 23) rfl rfl Try.func52 (by kernel_rfl) rfl #[.int .i64 a0] rfl (by (try simp only [List.map_toArray, List.map_cons, List.map_nil]); first | done | rfl | (simp only [List.length_drop, List.length_take]; rfl)) ?_; (with_reducible refine (fx_size.calls a0 t103 _ A5.out).mono ?_); rintro e w' ⟨rfl, ⟨nd, rfl⟩⟩; refine ⟨_, rfl, ?_⟩) | ((with_reducible refine gate_callee (f := 52) rfl ?_); refine goesL_ (some 25) rfl rfl Try.func52 (by kernel_rfl) rfl #[.int .i64 a1] rfl (by (try simp only [List.map_toArray, List.map_cons, List.map_nil]); first | done | rfl | (simp only [List.length_drop, List.length_take]; rfl)) ?_; (with_reducible refine (fx_size.calls a1 t104 _ A6.out).mono ?_); rintro e w' ⟨rfl, ⟨nd, rfl⟩⟩; refine ⟨_, rfl, ?_⟩) | ((with_reducible refine gate_callee (f := 51) rfl ?_); refine goesL_ (some 26) rfl rfl Try.func51 (by kernel_rfl) rfl #[.int .u64 t103, .int .u64 t104] rfl (by (try simp only [List.map_toArray, List.map_cons, List.map_nil]); first | done | rfl | (simp only [List.length_drop, List.length_take]; rfl)) ?_; (with_reducible refine (bits_Mul64.calls t103 t104 t105 t106 _ A7.out).mono ?_); rintro e w' ⟨rfl, ⟨nd, rfl⟩⟩; refine ⟨_, rfl, ?_⟩) | ((with_reducible refine gate_callee (f := 53) rfl ?_); refine goesL_ (some 38) rfl rfl Try.func53 (by kernel_rfl) rfl #[.int .u64 t105, .int .u64 t106, .int .u64 (IntKind.u64.wrap (a2))] rfl (by (try simp only [List.map_toArray, List.map_cons, List.map_nil]); first | done | rfl | (simp only [List.length_drop, List.length_take]; rfl)) ?_; (with_reducible refine (bits_Div64.calls k t105 t106 (IntKind.u64.wrap (a2)) t107 t108 _ A9.out).mono ?_); rintro e w' ⟨rfl, ⟨nd, rfl⟩⟩; refine ⟨_, rfl, ?_⟩))
      (try simp only [Act.put, List.setIfInBounds_toArray, List.set_cons_zero, List.set_cons_succ])
      go_cut [56] (fun v56 wc => ∃ (kq : Nat) (x56_9 : Bool), v56 = .bool x56_9 ∧ Aside0 (fx_MulDiv.j0 kq ((decide (a0 < 0)) != (decide (a1 < 0))) t107 x56_9 = some (r1, r2)) ∧ Aside0 (kq ≤ k) ∧ Drawn0 w wc)
      case first =>
        have H := HC10.out
        clear HC10
        by_cases c11 : t108 > (IntKind.u64.wrap ((IntKind.u64.wrap (a2)) - t108))
        · rw [if_pos c11] at H
          have c11b0 : decide ((IntKind.u64.wrap ((IntKind.u64.wrap (a2)) - t108)) < t108) = true := decide_eq_true c11
          clear c11
          (first | rw [c11b0] | (simp only [i64_w, i32_w]; rw [c11b0]) | skip)
          have H' := Aside0.mk H
          clear H
          go_wp2
          go_meet
          case rel => exact ⟨_, (true), (by first | rfl | (simp; done) | (simp [*]; done) | (simp [nb1_, nb2_]; done)), H', ⟨by first | omega | exact Nat.le_refl _⟩, by repeat (first | exact Drawn0.refl _ | apply Drawn0.step)⟩
        · rw [if_neg c11] at H
          have c11b0 : decide ((IntKind.u64.wrap ((IntKind.u64.wrap (a2)) - t108)) < t108) = false := decide_eq_false c11
          clear c11
          (first | rw [c11b0] | (simp only [i64_w, i32_w]; rw [c11b0]) | skip)
          by_cases c12 : t108 = (IntKind.u64.wrap ((IntKind.u64.wrap (a2)) - t108))
          · rw [if_pos c12] at H
            have c12b0 : (t108 == (IntKind.u64.wrap ((IntKind.u64.wrap (a2)) - t108))) = true := beq_iff_eq.mpr c12
            have c12b1 : (t108 != (IntKind.u64.wrap ((IntKind.u64.wrap (a2)) - t108))) = false := bne_eq_false_iff_eq.mpr c12
            clear c12
            have H' := Aside0.mk H
            clear H
            go_wp2
            go_meet
            case rel => exact ⟨_, (!((decide (a0 < 0)) != (decide (a1 < 0)))), (by first | rfl | (simp; done) | (simp [*]; done) | (simp [nb1_, nb2_]; done)), H', ⟨by first | omega | exact Nat.le_refl _⟩, by repeat (first | exact Drawn0.refl _ | apply Drawn0.step)⟩
          · rw [if_neg c12] at H
            have c12b0 : (t108 == (IntKind.u64.wrap ((IntKind.u64.wrap (a2)) - t108))) = false := beq_eq_false_iff_ne.mpr c12
            have c12b1 : (t108 != (IntKind.u64.wrap ((IntKind.u64.wrap (a2)) - t108))) = true := bne_iff_ne.mpr c12
            have H' := Aside0.mk H
            clear H
            go_wp2
            go_meet
            case rel => exact ⟨_, (false), (by first | rfl | (simp; done) | (simp [*]; done) | (simp [nb1_, nb2_]; done)), H', ⟨by first | omega | exact Nat.le_refl _⟩, by repeat (first | exact Drawn0.refl _ | apply Drawn0.step)⟩
      case rest =>
        clear HC10
        try clear c1
        try clear c2
        try clear p2
        try clear c4
        try clear c4b0
        try clear c5
        try clear c8
        try clear c8b0
        try clear c11
        try clear c11b0
        try clear c12
        try clear c12b0
        try clear c12b1
        obtain ⟨kq, x56_9, rfl, HA, HJ9, ⟨mc9, rfl⟩⟩ := hcut
        cases kq with
        | zero => exact absurd HA.out (by simp [fx_MulDiv.j0])
        | succ kj9 =>
          have H := HA.out
          clear HA
          simp only [fx_MulDiv.j0] at H
          by_cases c13 : x56_9 = true
          · subst c13
            have H1 : (if (IntKind.u64.wrap (t107 + 1)) = 0 then (some (0, false)) else ((fx_signed.f kj9 (IntKind.u64.wrap (t107 + 1)) ((decide (a0 < 0)) != (decide (a1 < 0)))).bind fun bt109 => (some (bt109.1, bt109.2)))) = some (r1, r2) := by rw [if_pos rfl] at H; exact H
            clear H
            have H := H1
            clear H1
            by_cases c14 : (IntKind.u64.wrap (t107 + 1)) = 0
            · rw [if_pos c14] at H
              have c14b0 : ((IntKind.u64.wrap (t107 + 1)) == 0) = true := beq_iff_eq.mpr c14
              have c14b1 : ((IntKind.u64.wrap (t107 + 1)) != 0) = false := bne_eq_false_iff_eq.mpr c14
              clear c14
              simp only [Option.some.injEq, Prod.mk.injEq] at H
              obtain ⟨rfl, rfl⟩ := H
              go_wp2
              go_ret2
              exact ⟨by first | rfl | (simp; done) | (simp [*]; done) | (simp [nb1_, nb2_]; done), by repeat (first | exact Drawn0.refl _ | apply Drawn0.step)⟩
            · rw [if_neg c14] at H
              have c14b0 : ((IntKind.u64.wrap (t107 + 1)) == 0) = false := beq_eq_false_iff_ne.mpr c14
              have c14b1 : ((IntKind.u64.wrap (t107 + 1)) != 0) = true := bne_iff_ne.mpr c14
              replace H := Option.bind_eq_some_iff.mp H
              obtain ⟨⟨t109, t110⟩, A150, H⟩ := H
              replace H : (some (t109, t110)) = some (r1, r2) := H
              have A15 := Aside0.mk A150
              clear A150
              simp only [Option.some.injEq, Prod.mk.injEq] at H
              obtain ⟨rfl, rfl⟩ := H
              go_wp2_with (first | ((with_reducible refine gate_callee (f := 54) rfl ?_); refine goesL_ (some 63) rfl rfl Try.func54 (by kernel_rfl) rfl #[.int .u64 (IntKind.u64.wrap (t107 + 1)), .bool ((decide (a0 < 0)) != (decide (a1 < 0)))] rfl (by (try simp only [List.map_toArray, List.map_cons, List.map_nil]); first | done | rfl | (simp only [List.length_drop, List.length_take]; rfl)) ?_; (with_reducible refine (fx_signed.calls kj9 (IntKind.u64.wrap (t107 + 1)) ((decide (a0 < 0)) != (decide (a1 < 0))) t109 t110 _ A15.out).mono ?_); rintro e w' ⟨rfl, ⟨nd, rfl⟩⟩; refine ⟨_, rfl, ?_⟩))
              go_ret2
              exact ⟨by first | rfl | (simp; done) | (simp [*]; done) | (simp [nb1_, nb2_]; done), by repeat (first | exact Drawn0.refl _ | apply Drawn0.step)⟩
          · replace c13 := Bool.eq_false_iff.mpr c13
            subst c13
            have H1 : ((fx_signed.f kj9 t107 ((decide (a0 < 0)) != (decide (a1 < 0)))).bind fun bt111 => (some (bt111.1, bt111.2))) = some (r1, r2) := by rw [if_neg (show ¬ (false = true) by decide)] at H; exact H
            clear H
            have H := H1
            clear H1
            replace H := Option.bind_eq_some_iff.mp H
            obtain ⟨⟨t111, t112⟩, A160, H⟩ := H
            replace H : (some (t111, t112)) = some (r1, r2) := H
            have A16 := Aside0.mk A160
            clear A160
            simp only [Option.some.injEq, Prod.mk.injEq] at H
            obtain ⟨rfl, rfl⟩ := H
            go_wp2_with (first | ((with_reducible refine gate_callee (f := 54) rfl ?_); refine goesL_ (some 63) rfl rfl Try.func54 (by kernel_rfl) rfl #[.int .u64 t107, .bool ((decide (a0 < 0)) != (decide (a1 < 0)))] rfl (by (try simp only [List.map_toArray, List.map_cons, List.map_nil]); first | done | rfl | (simp only [List.length_drop, List.length_take]; rfl)) ?_; (with_reducible refine (fx_signed.calls kj9 t107 ((decide (a0 < 0)) != (decide (a1 < 0))) t111 t112 _ A16.out).mono ?_); rintro e w' ⟨rfl, ⟨nd, rfl⟩⟩; refine ⟨_, rfl, ?_⟩))
            go_ret2
            exact ⟨by first | rfl | (simp; done) | (simp [*]; done) | (simp [nb1_, nb2_]; done), by repeat (first | exact Drawn0.refl _ | apply Drawn0.step)⟩

/-! ### fx_Root: function 31 -/
def fx_Root.l0 : Nat → Int → Int → Int → Int → Option (Int)
  | 0, _, _, _, _ => none
  | k + 1, x0, x1, x5, x6 => if x6 ≥ 0 then (if 0 ≤ (IntKind.u64.wrap (x6)) then ((bits_Mul64.f (Go.bits .or .u64 x5 (shl .u64 1 (IntKind.u64.wrap (x6)))) (Go.bits .or .u64 x5 (shl .u64 1 (IntKind.u64.wrap (x6))))).bind fun bt113 => (if bt113.1 < x0 then (fx_Root.l0 k x0 x1 (Go.bits .or .u64 x5 (shl .u64 1 (IntKind.u64.wrap (x6)))) (wrap64 (x6 - 1))) else (if bt113.1 = x0 then (if bt113.2 ≤ x1 then (fx_Root.l0 k x0 x1 (Go.bits .or .u64 x5 (shl .u64 1 (IntKind.u64.wrap (x6)))) (wrap64 (x6 - 1))) else (fx_Root.l0 k x0 x1 x5 (wrap64 (x6 - 1)))) else (fx_Root.l0 k x0 x1 x5 (wrap64 (x6 - 1)))))) else (none)) else (some x5)
def fx_Root.f (k : Nat) (a0 : Int) (a1 : Int) : Option (Int) := fx_Root.l0 k a0 a1 0 63
theorem fx_Root.mono_l : ∀ k, (∀ y0 y1 y2 y3, LeO (fx_Root.l0 k y0 y1 y2 y3) (fx_Root.l0 (k + 1) y0 y1 y2 y3))
  | 0 => fun _ _ _ _ r h => by simp [fx_Root.l0] at h
  | k + 1 => by
    have ih0 := fx_Root.mono_l k
    · intro y0 y1 y2 y3
      unfold fx_Root.l0
      repeat' first
      | (with_reducible exact ih0 _ _ _ _)
      | (with_reducible exact LeO.refl _)
      | (with_reducible exact LeO.none _)
      | (with_reducible refine LeO.ite ?_ ?_)
      | (with_reducible refine LeO.bind ?_ (fun _ => ?_))
      | exact ih0 _ _ _ _
      | exact LeO.none _
      | refine LeO.ite ?_ ?_
      | refine LeO.bind ?_ (fun _ => ?_)
theorem fx_Root.mono : ∀ a0 a1 k, LeO (fx_Root.f k a0 a1) (fx_Root.f (k + 1) a0 a1) := by
  intro a0 a1 k
  have ih0 := fx_Root.mono_l k
  unfold fx_Root.f
  repeat' first
      | (with_reducible exact ih0 _ _ _ _)
      | (with_reducible exact LeO.refl _)
      | (with_reducible exact LeO.none _)
      | (with_reducible refine LeO.ite ?_ ?_)
      | (with_reducible refine LeO.bind ?_ (fun _ => ?_))
      | exact ih0 _ _ _ _
      | exact LeO.none _
      | refine LeO.ite ?_ ?_
      | refine LeO.bind ?_ (fun _ => ?_)
set_option maxHeartbeats 8000000 in
set_option maxRecDepth 100000 in
theorem fx_Root.calls (k : Nat) (a0 : Int) (a1 : Int) (r : Int) (w : World) (h : fx_Root.f k a0 a1 = some r) :
    Calls Try.prog 31 #[.int .u64 a0, .int .u64 a1] w fun e w' => e = .returned (.int .u64 r) ∧ Drawn0 w w' := by
  have H : (fx_Root.l0 k a0 a1 0 63) = some r := h
  clear h
  have H' := Aside0.mk H
  clear H
  go_enter Try.func31, Try.ntmps31
  go_wp2
  go_loopg [5, 6] k (fun kq v5 v6 w' => ∃ (x5_1 : Int) (x6_1 : Int), v5 = .int .u64 x5_1 ∧ v6 = .int .i64 x6_1 ∧ Aside0 (fx_Root.l0 kq a0 a1 x5_1 x6_1 = some r) ∧ Aside0 (kq ≤ k) ∧ Drawn0 w w')
  case atStart => exact ⟨(0), (63), (by first | rfl | (simp; done) | (simp [*]; done) | (simp [nb1_, nb2_]; done)), (by first | rfl | (simp; done) | (simp [*]; done) | (simp [nb1_, nb2_]; done)), H', ⟨Nat.le_refl _⟩, by repeat (first | exact Drawn0.refl _ | apply Drawn0.step)⟩
  case round =>
    clear H'
    try clear p2
    obtain ⟨x5_1, x6_1, rfl, rfl, HA, HK1, ⟨m1, rfl⟩⟩ := hrel
    cases gk with
    | zero => exact absurd HA.out (by simp [fx_Root.l0])
    | succ k1 =>
      have H := HA.out
      clear HA
      simp only [fx_Root.l0] at H
      by_cases c3 : x6_1 ≥ 0
      · rw [if_pos c3] at H
        have c3b0 : decide (0 ≤ x6_1) = true := decide_eq_true c3
        clear c3
        obtain ⟨ji4, hji4⟩ : ∃ j_ : Int, (IntKind.u64.wrap (x6_1)) = j_ := ⟨_, rfl⟩
        replace H : (if 0 ≤ (ji4) then ((bits_Mul64.f (Go.bits .or .u64 x5_1 (shl .u64 1 (ji4))) (Go.bits .or .u64 x5_1 (shl .u64 1 (ji4)))).bind fun bt113 => (if bt113.1 < a0 then (fx_Root.l0 k1 a0 a1 (Go.bits .or .u64 x5_1 (shl .u64 1 (ji4))) (wrap64 (x6_1 - 1))) else (if bt113.1 = a0 then (if bt113.2 ≤ a1 then (fx_Root.l0 k1 a0 a1 (Go.bits .or .u64 x5_1 (shl .u64 1 (ji4))) (wrap64 (x6_1 - 1))) else (fx_Root.l0 k1 a0 a1 x5_1 (wrap64 (x6_1 - 1)))) else (fx_Root.l0 k1 a0 a1 x5_1 (wrap64 (x6_1 - 1)))))) else (none)) = some r := by first | (rw [hji4] at H; exact H) | (simp only [hji4] at H ⊢; exact H)
        by_cases c5 : 0 ≤ (ji4)
        · rw [if_pos c5] at H
          have c5b0 := eq_true c5
          have c5b1 : decide (0 ≤ (ji4)) = true := decide_eq_true c5
          clear c5
          obtain ⟨ji6, hji6⟩ : ∃ j_ : Int, (shl .u64 1 (ji4)) = j_ := ⟨_, rfl⟩
          replace H : ((bits_Mul64.f (Go.bits .or .u64 x5_1 (ji6)) (Go.bits .or .u64 x5_1 (ji6))).bind fun bt113 => (if bt113.1 < a0 then (fx_Root.l0 k1 a0 a1 (Go.bits .or .u64 x5_1 (ji6)) (wrap64 (x6_1 - 1))) else (if bt113.1 = a0 then (if bt113.2 ≤ a1 then (fx_Root.l0 k1 a0 a1 (Go.bits .or .u64 x5_1 (ji6)) (wrap64 (x6_1 - 1))) else (fx_Root.l0 k1 a0 a1 x5_1 (wrap64 (x6_1 - 1)))) else (fx_Root.l0 k1 a0 a1 x5_1 (wrap64 (x6_1 - 1)))))) = some r := by first | (rw [hji6] at H; exact H) | (simp only [hji6] at H ⊢; exact H)
          have hji6_ : (IntKind.u64.wrap (1 * 2 ^ min (ji4).toNat 64)) = ji6 := hji6
          have hji6z : (ji4) ≤ 64 → (IntKind.u64.wrap (1 * 2 ^ (ji4).toNat)) = ji6 := shl_small hji6
          have hji6u : (IntKind.u64.wrap (2 ^ min (ji4).toNat 64)) = ji6 := by have h_ := hji6_; rw [Int.one_mul] at h_; exact h_
          have hji6v : (ji4) ≤ 64 → (IntKind.u64.wrap (2 ^ (ji4).toNat)) = ji6 := fun hle_ => by have h_ := hji6z hle_; rw [Int.one_mul] at h_; exact h_
          replace H := Option.bind_eq_some_iff.mp H
          obtain ⟨⟨t113, t114⟩, A70, H⟩ := H
          replace H : (if t113 < a0 then (fx_Root.l0 k1 a0 a1 (Go.bits .or .u64 x5_1 (ji6)) (wrap64 (x6_1 - 1))) else (if t113 = a0 then (if t114 ≤ a1 then (fx_Root.l0 k1 a0 a1 (Go.bits .or .u64 x5_1 (ji6)) (wrap64 (x6_1 - 1))) else (fx_Root.l0 k1 a0 a1 x5_1 (wrap64 (x6_1 - 1)))) else (fx_Root.l0 k1 a0 a1 x5_1 (wrap64 (x6_1 - 1))))) = some r := H
          have A7 := Aside0.mk A70
          clear A70
          by_cases c8 : t113 < a0
          · rw [if_pos c8] at H
            have c8b0 : decide (t113 < a0) = true := decide_eq_true c8
            clear c8
            have H' := Aside0.mk H
            clear H
            go_wp2_with (first | ((with_reducible refine gate_callee (f := 51) rfl ?_); refine goesL_ (some 22) rfl rfl Try.func51 (by kernel_rfl) rfl #[.int .u64 (Go.bits .or .u64 x5_1 (ji6)), .int .u64 (Go.bits .or .u64 x5_1 (ji6))] rfl (by (try simp only [List.map_toArray, List.map_cons, List.map_nil]); first | done | (simp only [hji6]; rfl) | rfl | (simp only [List.length_drop, List.length_take]; rfl)) ?_; (with_reducible refine (bits_Mul64.calls (Go.bits .or .u64 x5_1 (ji6)) (Go.bits .or .u64 x5_1 (ji6)) t113 t114 _ A7.out).mono ?_); rintro e w' ⟨rfl, ⟨nd, rfl⟩⟩; refine ⟨_, rfl, ?_⟩))
            go_roundg k1
            case measure => have := HK1.out; omega
            case rel => exact ⟨(Go.bits .or .u64 x5_1 (ji6)), (wrap64 (x6_1 - 1)), (by first | rfl | (simp; done) | (simp only [← hji6] <;> (first | rfl | simp)) | (simp [*]; done) | (simp [nb1_, nb2_]; done)), (by first | rfl | (simp; done) | (simp [*]; done) | (simp [nb1_, nb2_]; done)), H', ⟨by have := HK1.out; omega⟩, by repeat (first | exact Drawn0.refl _ | apply Drawn0.step)⟩
          · rw [if_neg c8] at H
            have c8b0 : decide (t113 < a0) = false := decide_eq_false c8
            clear c8
            by_cases c9 : t113 = a0
            · rw [if_pos c9] at H
              have c9b0 : (t113 == a0) = true := beq_iff_eq.mpr c9
              have c9b1 : (t113 != a0) = false := bne_eq_false_iff_eq.mpr c9
              clear c9
              by_cases c10 : t114 ≤ a1
              · rw [if_pos c10] at H
                have c10b0 : decide (t114 ≤ a1) = true := decide_eq_true c10
                clear c10
                have H' := Aside0.mk H
                clear H
                go_wp2_with (first | ((with_reducible refine gate_callee (f := 51) rfl ?_); refine goesL_ (some 22) rfl rfl Try.func51 (by kernel_rfl) rfl #[.int .u64 (Go.bits .or .u64 x5_1 (ji6)), .int .u64 (Go.bits .or .u64 x5_1 (ji6))] rfl (by (try simp only [List.map_toArray, List.map_cons, List.map_nil]); first | done | (simp only [hji6]; rfl) | rfl | (simp only [List.length_drop, List.length_take]; rfl)) ?_; (with_reducible refine (bits_Mul64.calls (Go.bits .or .u64 x5_1 (ji6)) (Go.bits .or .u64 x5_1 (ji6)) t113 t114 _ A7.out).mono ?_); rintro e w' ⟨rfl, ⟨nd, rfl⟩⟩; refine ⟨_, rfl, ?_⟩))
                go_roundg k1
                case measure => have := HK1.out; omega
                case rel => exact ⟨(Go.bits .or .u64 x5_1 (ji6)), (wrap64 (x6_1 - 1)), (by first | rfl | (simp; done) | (simp only [← hji6] <;> (first | rfl | simp)) | (simp [*]; done) | (simp [nb1_, nb2_]; done)), (by first | rfl | (simp; done) | (simp [*]; done) | (simp [nb1_, nb2_]; done)), H', ⟨by have := HK1.out; omega⟩, by repeat (first | exact Drawn0.refl _ | apply Drawn0.step)⟩
              · rw [if_neg c10] at H
                have c10b0 : decide (t114 ≤ a1) = false := decide_eq_false c10
                clear c10
                have H' := Aside0.mk H
                clear H
                go_wp2_with (first | ((with_reducible refine gate_callee (f := 51) rfl ?_); refine goesL_ (some 22) rfl rfl Try.func51 (by kernel_rfl) rfl #[.int .u64 (Go.bits .or .u64 x5_1 (ji6)), .int .u64 (Go.bits .or .u64 x5_1 (ji6))] rfl (by (try simp only [List.map_toArray, List.map_cons, List.map_nil]); first | done | (simp only [hji6]; rfl) | rfl | (simp only [List.length_drop, List.length_take]; rfl)) ?_; (with_reducible refine (bits_Mul64.calls (Go.bits .or .u64 x5_1 (ji6)) (Go.bits .or .u64 x5_1 (ji6)) t113 t114 _ A7.out).mono ?_); rintro e w' ⟨rfl, ⟨nd, rfl⟩⟩; refine ⟨_, rfl, ?_⟩))
                go_roundg k1
                case measure => have := HK1.out; omega
                case rel => exact ⟨(x5_1), (wrap64 (x6_1 - 1)), (by first | rfl | (simp; done) | (simp [*]; done) | (simp [nb1_, nb2_]; done)), (by first | rfl | (simp; done) | (simp [*]; done) | (simp [nb1_, nb2_]; done)), H', ⟨by have := HK1.out; omega⟩, by repeat (first | exact Drawn0.refl _ | apply Drawn0.step)⟩
            · rw [if_neg c9] at H
              have c9b0 : (t113 == a0) = false := beq_eq_false_iff_ne.mpr c9
              have c9b1 : (t113 != a0) = true := bne_iff_ne.mpr c9
              have H' := Aside0.mk H
              clear H
              go_wp2_with (first | ((with_reducible refine gate_callee (f := 51) rfl ?_); refine goesL_ (some 22) rfl rfl Try.func51 (by kernel_rfl) rfl #[.int .u64 (Go.bits .or .u64 x5_1 (ji6)), .int .u64 (Go.bits .or .u64 x5_1 (ji6))] rfl (by (try simp only [List.map_toArray, List.map_cons, List.map_nil]); first | done | (simp only [hji6]; rfl) | rfl | (simp only [List.length_drop, List.length_take]; rfl)) ?_; (with_reducible refine (bits_Mul64.calls (Go.bits .or .u64 x5_1 (ji6)) (Go.bits .or .u64 x5_1 (ji6)) t113 t114 _ A7.out).mono ?_); rintro e w' ⟨rfl, ⟨nd, rfl⟩⟩; refine ⟨_, rfl, ?_⟩))
              go_roundg k1
              case measure => have := HK1.out; omega
              case rel => exact ⟨(x5_1), (wrap64 (x6_1 - 1)), (by first | rfl | (simp; done) | (simp [*]; done) | (simp [nb1_, nb2_]; done)), (by first | rfl | (simp; done) | (simp [*]; done) | (simp [nb1_, nb2_]; done)), H', ⟨by have := HK1.out; omega⟩, by repeat (first | exact Drawn0.refl _ | apply Drawn0.step)⟩
        · rw [if_neg c5] at H
          exact absurd H (by simp)
      · rw [if_neg c3] at H
        have c3b0 : decide (0 ≤ x6_1) = false := decide_eq_false c3
        clear c3
        obtain rfl := Option.some.inj H
        go_wp2
        go_ret
        exact ⟨by first | rfl | (simp; done) | (simp [*]; done) | (simp [nb1_, nb2_]; done), by repeat (first | exact Drawn0.refl _ | apply Drawn0.step)⟩

/-! ### fx_Sqrt: function 27 -/
def fx_Sqrt.f (k : Nat) (a0 : Int) : Option (Int) := (fx_Root.f k 0 a0).bind fun t115 => (some ((t115) % 4294967296))
theorem fx_Sqrt.mono : ∀ a0 k, LeO (fx_Sqrt.f k a0) (fx_Sqrt.f (k + 1) a0) := by
  intro a0 k
  unfold fx_Sqrt.f
  repeat' first
      | (with_reducible exact fx_Root.mono _ _ _)
      | (with_reducible exact LeO.refl _)
      | (with_reducible exact LeO.none _)
      | (with_reducible refine LeO.ite ?_ ?_)
      | (with_reducible refine LeO.bind ?_ (fun _ => ?_))
      | exact fx_Root.mono _ _ _
      | exact LeO.none _
      | refine LeO.ite ?_ ?_
      | refine LeO.bind ?_ (fun _ => ?_)
set_option maxHeartbeats 8000000 in
set_option maxRecDepth 100000 in
theorem fx_Sqrt.calls (k : Nat) (a0 : Int) (r : Int) (w : World) (h : fx_Sqrt.f k a0 = some r) :
    Calls Try.prog 27 #[.int .u64 a0] w fun e w' => e = .returned (.int .u32 r) ∧ Drawn0 w w' := by
  have H : ((fx_Root.f k 0 a0).bind fun t115 => (some ((t115) % 4294967296))) = some r := h
  clear h
  replace H := Option.bind_eq_some_iff.mp H
  obtain ⟨t115, A20, H⟩ := H
  replace H : (some ((t115) % 4294967296)) = some r := H
  have A2 := Aside0.mk A20
  clear A20
  obtain rfl := Option.some.inj H
  go_enter Try.func27, Try.ntmps27
  go_wp2_with (first | ((with_reducible refine gate_callee (f := 31) rfl ?_); refine goesL_ (some 4) rfl rfl Try.func31 (by kernel_rfl) rfl #[.int .u64 0, .int .u64 a0] rfl (by (try simp only [List.map_toArray, List.map_cons, List.map_nil]); first | done | rfl | (simp only [List.length_drop, List.length_take]; rfl)) ?_; (with_reducible refine (fx_Root.calls k 0 a0 t115 _ A2.out).mono ?_); rintro e w' ⟨rfl, ⟨nd, rfl⟩⟩; refine ⟨_, rfl, ?_⟩))
  go_ret
  exact ⟨by first | rfl | (simp; done) | (simp [*]; done) | (simp [nb1_, nb2_]; done), by repeat (first | exact Drawn0.refl _ | apply Drawn0.step)⟩

/-! ### fx_Hypot: function 26 -/
def fx_Hypot.f (k : Nat) (a0 : Int) (a1 : Int) : Option (Int × Bool) := if a0 < (-2147483648) then (some (0, false)) else (if a0 > 2147483648 then (some (0, false)) else (if a1 < (-2147483648) then (some (0, false)) else (if a1 > 2147483648 then (some (0, false)) else ((fx_Sqrt.f k (IntKind.u64.wrap ((IntKind.u64.wrap (wrap64 (a0 * a0))) + (IntKind.u64.wrap (wrap64 (a1 * a1)))))).bind fun t116 => (some (wrap64 (t116), true))))))
theorem fx_Hypot.mono : ∀ a0 a1 k, LeO (fx_Hypot.f k a0 a1) (fx_Hypot.f (k + 1) a0 a1) := by
  intro a0 a1 k
  unfold fx_Hypot.f
  repeat' first
      | (with_reducible exact fx_Sqrt.mono _ _)
      | (with_reducible exact LeO.refl _)
      | (with_reducible exact LeO.none _)
      | (with_reducible refine LeO.ite ?_ ?_)
      | (with_reducible refine LeO.bind ?_ (fun _ => ?_))
      | exact fx_Sqrt.mono _ _
      | exact LeO.none _
      | refine LeO.ite ?_ ?_
      | refine LeO.bind ?_ (fun _ => ?_)
set_option maxHeartbeats 8000000 in
set_option maxRecDepth 100000 in
theorem fx_Hypot.calls (k : Nat) (a0 : Int) (a1 : Int) (r1 : Int) (r2 : Bool) (w : World) (h : fx_Hypot.f k a0 a1 = some (r1, r2)) :
    Calls Try.prog 26 #[.int .i64 a0, .int .i64 a1] w fun e w' => e = .returned (.tuple #[.int .i64 r1, .bool r2]) ∧ Drawn0 w w' := by
  have H : (if a0 < (-2147483648) then (some (0, false)) else (if a0 > 2147483648 then (some (0, false)) else (if a1 < (-2147483648) then (some (0, false)) else (if a1 > 2147483648 then (some (0, false)) else ((fx_Sqrt.f k (IntKind.u64.wrap ((IntKind.u64.wrap (wrap64 (a0 * a0))) + (IntKind.u64.wrap (wrap64 (a1 * a1)))))).bind fun t116 => (some (wrap64 (t116), true))))))) = some (r1, r2) := h
  clear h
  by_cases c3 : a0 < (-2147483648)
  · rw [if_pos c3] at H
    have c3b0 : decide (a0 < (-2147483648)) = true := decide_eq_true c3
    clear c3
    simp only [Option.some.injEq, Prod.mk.injEq] at H
    obtain ⟨rfl, rfl⟩ := H
    go_enter Try.func26, Try.ntmps26
    go_wp2
    go_ret2
    exact ⟨by first | rfl | (simp; done) | (simp [*]; done) | (simp [nb1_, nb2_]; done), by repeat (first | exact Drawn0.refl _ | apply Drawn0.step)⟩
  · rw [if_neg c3] at H
    have c3b0 : decide (a0 < (-2147483648)) = false := decide_eq_false c3
    clear c3
    by_cases c4 : a0 > 2147483648
    · rw [if_pos c4] at H
      have c4b0 : decide (2147483648 < a0) = true := decide_eq_true c4
      clear c4
      simp only [Option.some.injEq, Prod.mk.injEq] at H
      obtain ⟨rfl, rfl⟩ := H
      go_enter Try.func26, Try.ntmps26
      go_wp2
      go_ret2
      exact ⟨by first | rfl | (simp; done) | (simp [*]; done) | (simp [nb1_, nb2_]; done), by repeat (first | exact Drawn0.refl _ | apply Drawn0.step)⟩
    · rw [if_neg c4] at H
      have c4b0 : decide (2147483648 < a0) = false := decide_eq_false c4
      clear c4
      by_cases c5 : a1 < (-2147483648)
      · rw [if_pos c5] at H
        have c5b0 : decide (a1 < (-2147483648)) = true := decide_eq_true c5
        clear c5
        simp only [Option.some.injEq, Prod.mk.injEq] at H
        obtain ⟨rfl, rfl⟩ := H
        go_enter Try.func26, Try.ntmps26
        go_wp2
        go_ret2
        exact ⟨by first | rfl | (simp; done) | (simp [*]; done) | (simp [nb1_, nb2_]; done), by repeat (first | exact Drawn0.refl _ | apply Drawn0.step)⟩
      · rw [if_neg c5] at H
        have c5b0 : decide (a1 < (-2147483648)) = false := decide_eq_false c5
        clear c5
        by_cases c6 : a1 > 2147483648
        · rw [if_pos c6] at H
          have c6b0 : decide (2147483648 < a1) = true := decide_eq_true c6
          clear c6
          simp only [Option.some.injEq, Prod.mk.injEq] at H
          obtain ⟨rfl, rfl⟩ := H
          go_enter Try.func26, Try.ntmps26
          go_wp2
          go_ret2
          exact ⟨by first | rfl | (simp; done) | (simp [*]; done) | (simp [nb1_, nb2_]; done), by repeat (first | exact Drawn0.refl _ | apply Drawn0.step)⟩
        · rw [if_neg c6] at H
          have c6b0 : decide (2147483648 < a1) = false := decide_eq_false c6
          clear c6
          replace H := Option.bind_eq_some_iff.mp H
          obtain ⟨t116, A70, H⟩ := H
          replace H : (some (wrap64 (t116), true)) = some (r1, r2) := H
          have A7 := Aside0.mk A70
          clear A70
          simp only [Option.some.injEq, Prod.mk.injEq] at H
          obtain ⟨rfl, rfl⟩ := H
          go_enter Try.func26, Try.ntmps26
          go_wp2_with (first | ((with_reducible refine gate_callee (f := 27) rfl ?_); refine goesL_ (some 29) rfl rfl Try.func27 (by kernel_rfl) rfl #[.int .u64 (IntKind.u64.wrap ((IntKind.u64.wrap (wrap64 (a0 * a0))) + (IntKind.u64.wrap (wrap64 (a1 * a1)))))] rfl (by (try simp only [List.map_toArray, List.map_cons, List.map_nil]); first | done | rfl | (simp only [List.length_drop, List.length_take]; rfl)) ?_; (with_reducible refine (fx_Sqrt.calls k (IntKind.u64.wrap ((IntKind.u64.wrap (wrap64 (a0 * a0))) + (IntKind.u64.wrap (wrap64 (a1 * a1))))) t116 _ A7.out).mono ?_); rintro e w' ⟨rfl, ⟨nd, rfl⟩⟩; refine ⟨_, rfl, ?_⟩))
          go_ret2
          exact ⟨by first | rfl | (simp; done) | (simp [*]; done) | (simp [nb1_, nb2_]; done), by repeat (first | exact Drawn0.refl _ | apply Drawn0.step)⟩

/-! ### fx_Add: function 36 -/
def fx_Add.f (a0 : Int) (a1 : Int) : Option (Int × Bool) := if ((decide (a0 < 0)) == (decide (a1 < 0))) = true then (if ((decide ((wrap64 (a0 + a1)) < 0)) != (decide (a0 < 0))) = true then (some (0, false)) else (some (wrap64 (a0 + a1), true))) else (some (wrap64 (a0 + a1), true))
set_option maxHeartbeats 8000000 in
set_option maxRecDepth 100000 in
theorem fx_Add.calls (a0 : Int) (a1 : Int) (r1 : Int) (r2 : Bool) (w : World) (h : fx_Add.f a0 a1 = some (r1, r2)) :
    Calls Try.prog 36 #[.int .i64 a0, .int .i64 a1] w fun e w' => e = .returned (.tuple #[.int .i64 r1, .bool r2]) ∧ Drawn0 w w' := by
  have H : (if ((decide (a0 < 0)) == (decide (a1 < 0))) = true then (if ((decide ((wrap64 (a0 + a1)) < 0)) != (decide (a0 < 0))) = true then (some (0, false)) else (some (wrap64 (a0 + a1), true))) else (some (wrap64 (a0 + a1), true))) = some (r1, r2) := h
  clear h
  by_cases c3 : ((decide (a0 < 0)) == (decide (a1 < 0))) = true
  · rw [if_pos c3] at H
    have c3b0 : ((decide (a0 < 0)) == (decide (a1 < 0))) = true := c3
    (try (have c3b1 : decide ((decide (a0 < 0)) = (decide (a1 < 0))) = true := by simpa using c3))
    (try (have c3b2 : ((decide (a0 < 0)) == (decide (a1 < 0))) = true := by simpa using c3))
    clear c3
    by_cases c4 : ((decide ((wrap64 (a0 + a1)) < 0)) != (decide (a0 < 0))) = true
    · rw [if_pos c4] at H
      have c4b0 : ((decide ((wrap64 (a0 + a1)) < 0)) != (decide (a0 < 0))) = true := c4
      (try (have c4b1 : decide ((decide ((wrap64 (a0 + a1)) < 0)) = (decide (a0 < 0))) = false := by simpa using c4))
      (try (have c4b2 : ((decide ((wrap64 (a0 + a1)) < 0)) == (decide (a0 < 0))) = false := by simpa using c4))
      (try (have c4b3 : ¬ ((decide ((wrap64 (a0 + a1)) < 0)) = (decide (a0 < 0))) := by simpa using c4))
      clear c4
      simp only [Option.some.injEq, Prod.mk.injEq] at H
      obtain ⟨rfl, rfl⟩ := H
      go_enter Try.func36, Try.ntmps36
      go_wp2
      go_ret2
      exact ⟨by first | rfl | (simp; done) | (simp [*]; done) | (simp [nb1_, nb2_]; done), by repeat (first | exact Drawn0.refl _ | apply Drawn0.step)⟩
    · rw [if_neg c4] at H
      have c4b0 : ((decide ((wrap64 (a0 + a1)) < 0)) != (decide (a0 < 0))) = false := by simpa using c4
      (try (have c4b1 : decide ((decide ((wrap64 (a0 + a1)) < 0)) = (decide (a0 < 0))) = true := by simpa using c4))
      (try (have c4b2 : ((decide ((wrap64 (a0 + a1)) < 0)) == (decide (a0 < 0))) = true := by simpa using c4))
      clear c4
      simp only [Option.some.injEq, Prod.mk.injEq] at H
      obtain ⟨rfl, rfl⟩ := H
      go_enter Try.func36, Try.ntmps36
      go_wp2
      go_ret2
      exact ⟨by first | rfl | (simp; done) | (simp [*]; done) | (simp [nb1_, nb2_]; done), by repeat (first | exact Drawn0.refl _ | apply Drawn0.step)⟩
  · rw [if_neg c3] at H
    have c3b0 : ((decide (a0 < 0)) == (decide (a1 < 0))) = false := by simpa using c3
    (try (have c3b1 : decide ((decide (a0 < 0)) = (decide (a1 < 0))) = false := by simpa using c3))
    (try (have c3b2 : ((decide (a0 < 0)) == (decide (a1 < 0))) = false := by simpa using c3))
    (try (have c3b3 : ¬ ((decide (a0 < 0)) = (decide (a1 < 0))) := by simpa using c3))
    clear c3
    simp only [Option.some.injEq, Prod.mk.injEq] at H
    obtain ⟨rfl, rfl⟩ := H
    go_enter Try.func36, Try.ntmps36
    go_wp2
    go_ret2
    exact ⟨by first | rfl | (simp; done) | (simp [*]; done) | (simp [nb1_, nb2_]; done), by repeat (first | exact Drawn0.refl _ | apply Drawn0.step)⟩

/-! ### leadlinelaw2_known: function 24 -/
def leadlinelaw2_known.f (k : Nat)  : Option (Bool) := (fx_MulDiv.f k 7 1 2).bind fun bt117 => ((fx_Hypot.f k 3 4).bind fun bt119 => ((fx_Add.f 9223372036854775807 1).bind fun bt121 => (if bt117.1 = 4 then (if bt117.2 = true then (if bt119.1 = 5 then (if bt119.2 = true then (if bt121.2 = true then (some false) else ((fx_Sqrt.f k 24).bind fun t123 => (if t123 = 4 then ((fx_Root.f k 1 0).bind fun t124 => (some (t124 == 4294967296))) else (some false)))) else (some false)) else (some false)) else (some false)) else (some false))))
theorem leadlinelaw2_known.mono : ∀ k, LeO (leadlinelaw2_known.f k ) (leadlinelaw2_known.f (k + 1) ) := by
  intro  k
  unfold leadlinelaw2_known.f
  repeat' first
      | (with_reducible exact fx_Hypot.mono _ _ _)
      | (with_reducible exact fx_MulDiv.mono _ _ _ _)
      | (with_reducible exact fx_Root.mono _ _ _)
      | (with_reducible exact fx_Sqrt.mono _ _)
      | (with_reducible exact LeO.refl _)
      | (with_reducible exact LeO.none _)
      | (with_reducible refine LeO.ite ?_ ?_)
      | (with_reducible refine LeO.bind ?_ (fun _ => ?_))
      | exact fx_Hypot.mono _ _ _
      | exact fx_MulDiv.mono _ _ _ _
      | exact fx_Root.mono _ _ _
      | exact fx_Sqrt.mono _ _
      | exact LeO.none _
      | refine LeO.ite ?_ ?_
      | refine LeO.bind ?_ (fun _ => ?_)
set_option maxHeartbeats 8000000 in
set_option maxRecDepth 100000 in
theorem leadlinelaw2_known.calls (k : Nat)  (r : Bool) (w : World) (h : leadlinelaw2_known.f k  = some r) :
    Calls Try.prog 24 #[] w fun e w' => e = .returned (.bool r) ∧ Drawn0 w w' := by
  have H : ((fx_MulDiv.f k 7 1 2).bind fun bt117 => ((fx_Hypot.f k 3 4).bind fun bt119 => ((fx_Add.f 9223372036854775807 1).bind fun bt121 => (if bt117.1 = 4 then (if bt117.2 = true then (if bt119.1 = 5 then (if bt119.2 = true then (if bt121.2 = true then (some false) else ((fx_Sqrt.f k 24).bind fun t123 => (if t123 = 4 then ((fx_Root.f k 1 0).bind fun t124 => (some (t124 == 4294967296))) else (some false)))) else (some false)) else (some false)) else (some false)) else (some false))))) = some r := h
  clear h
  replace H := Option.bind_eq_some_iff.mp H
  obtain ⟨⟨t117, t118⟩, A10, H⟩ := H
  replace H : ((fx_Hypot.f k 3 4).bind fun bt119 => ((fx_Add.f 9223372036854775807 1).bind fun bt121 => (if t117 = 4 then (if t118 = true then (if bt119.1 = 5 then (if bt119.2 = true then (if bt121.2 = true then (some false) else ((fx_Sqrt.f k 24).bind fun t123 => (if t123 = 4 then ((fx_Root.f k 1 0).bind fun t124 => (some (t124 == 4294967296))) else (some false)))) else (some false)) else (some false)) else (some false)) else (some false)))) = some r := H
  have A1 := Aside0.mk A10
  clear A10
  replace H := Option.bind_eq_some_iff.mp H
  obtain ⟨⟨t119, t120⟩, A20, H⟩ := H
  replace H : ((fx_Add.f 9223372036854775807 1).bind fun bt121 => (if t117 = 4 then (if t118 = true then (if t119 = 5 then (if t120 = true then (if bt121.2 = true then (some false) else ((fx_Sqrt.f k 24).bind fun t123 => (if t123 = 4 then ((fx_Root.f k 1 0).bind fun t124 => (some (t124 == 4294967296))) else (some false)))) else (some false)) else (some false)) else (some false)) else (some false))) = some r := H
  have A2 := Aside0.mk A20
  clear A20
  replace H := Option.bind_eq_some_iff.mp H
  obtain ⟨⟨t121, t122⟩, A30, H⟩ := H
  replace H : (if t117 = 4 then (if t118 = true then (if t119 = 5 then (if t120 = true then (if t122 = true then (some false) else ((fx_Sqrt.f k 24).bind fun t123 => (if t123 = 4 then ((fx_Root.f k 1 0).bind fun t124 => (some (t124 == 4294967296))) else (some false)))) else (some false)) else (some false)) else (some false)) else (some false)) = some r := H
  have A3 := Aside0.mk A30
  clear A30
  by_cases c4 : t117 = 4
  · rw [if_pos c4] at H
    have c4b0 : (t117 == 4) = true := beq_iff_eq.mpr c4
    have c4b1 : (t117 != 4) = false := bne_eq_false_iff_eq.mpr c4
    clear c4
    by_cases c5 : t118 = true
    · subst c5
      have H1 : (if t119 = 5 then (if t120 = true then (if t122 = true then (some false) else ((fx_Sqrt.f k 24).bind fun t123 => (if t123 = 4 then ((fx_Root.f k 1 0).bind fun t124 => (some (t124 == 4294967296))) else (some false)))) else (some false)) else (some false)) = some r := by rw [if_pos rfl] at H; exact H
      clear H
      have H := H1
      clear H1
      by_cases c6 : t119 = 5
      · rw [if_pos c6] at H
        have c6b0 : (t119 == 5) = true := beq_iff_eq.mpr c6
        have c6b1 : (t119 != 5) = false := bne_eq_false_iff_eq.mpr c6
        clear c6
        by_cases c7 : t120 = true
        · subst c7
          have H1 : (if t122 = true then (some false) else ((fx_Sqrt.f k 24).bind fun t123 => (if t123 = 4 then ((fx_Root.f k 1 0).bind fun t124 => (some (t124 == 4294967296))) else (some false)))) = some r := by rw [if_pos rfl] at H; exact H
          clear H
          have H := H1
          clear H1
          by_cases c8 : t122 = true
          · subst c8
            have H1 : (some false) = some r := by rw [if_pos rfl] at H; exact H
            clear H
            have H := H1
            clear H1
            obtain rfl := Option.some.inj H
            go_enter Try.func24, Try.ntmps24
            go_wp2_with (first | ((with_reducible refine gate_callee (f := 25) rfl ?_); refine goesL_ (some 8) rfl rfl Try.func25 (by kernel_rfl) rfl #[.int .i64 7, .int .i64 1, .int .i64 2] rfl (by (try simp only [List.map_toArray, List.map_cons, List.map_nil]); first | done | rfl | (simp only [List.length_drop, List.length_take]; rfl)) ?_; (with_reducible refine (fx_MulDiv.calls k 7 1 2 t117 true _ A1.out).mono ?_); rintro e w' ⟨rfl, ⟨nd, rfl⟩⟩; refine ⟨_, rfl, ?_⟩) | ((with_reducible refine gate_callee (f := 26) rfl ?_); refine goesL_ (some 12) rfl rfl Try.func26 (by kernel_rfl) rfl #[.int .i64 3, .int .i64 4] rfl (by (try simp only [List.map_toArray, List.map_cons, List.map_nil]); first | done | rfl | (simp only [List.length_drop, List.length_take]; rfl)) ?_; (with_reducible refine (fx_Hypot.calls k 3 4 t119 true _ A2.out).mono ?_); rintro e w' ⟨rfl, ⟨nd, rfl⟩⟩; refine ⟨_, rfl, ?_⟩) | ((with_reducible refine gate_callee (f := 36) rfl ?_); refine goesL_ (some 16) rfl rfl Try.func36 (by kernel_rfl) rfl #[.int .i64 9223372036854775807, .int .i64 1] rfl (by (try simp only [List.map_toArray, List.map_cons, List.map_nil]); first | done | rfl | (simp only [List.length_drop, List.length_take]; rfl)) ?_; (with_reducible refine (fx_Add.calls 9223372036854775807 1 t121 true _ A3.out).mono ?_); rintro e w' ⟨rfl, ⟨nd, rfl⟩⟩; refine ⟨_, rfl, ?_⟩))
            go_ret
            exact ⟨by first | rfl | (simp; done) | (simp [*]; done) | (simp [nb1_, nb2_]; done), by repeat (first | exact Drawn0.refl _ | apply Drawn0.step)⟩
          · replace c8 := Bool.eq_false_iff.mpr c8
            subst c8
            have H1 : ((fx_Sqrt.f k 24).bind fun t123 => (if t123 = 4 then ((fx_Root.f k 1 0).bind fun t124 => (some (t124 == 4294967296))) else (some false))) = some r := by rw [if_neg (show ¬ (false = true) by decide)] at H; exact H
            clear H
            have H := H1
            clear H1
            replace H := Option.bind_eq_some_iff.mp H
            obtain ⟨t123, A90, H⟩ := H
            replace H : (if t123 = 4 then ((fx_Root.f k 1 0).bind fun t124 => (some (t124 == 4294967296))) else (some false)) = some r := H
            have A9 := Aside0.mk A90
            clear A90
            by_cases c10 : t123 = 4
            · rw [if_pos c10] at H
              have c10b0 : (t123 == 4) = true := beq_iff_eq.mpr c10
              have c10b1 : (t123 != 4) = false := bne_eq_false_iff_eq.mpr c10
              clear c10
              replace H := Option.bind_eq_some_iff.mp H
              obtain ⟨t124, A110, H⟩ := H
              replace H : (some (t124 == 4294967296)) = some r := H
              have A11 := Aside0.mk A110
              clear A110
              obtain rfl := Option.some.inj H
              go_enter Try.func24, Try.ntmps24
              go_wp2_with (first | ((with_reducible refine gate_callee (f := 25) rfl ?_); refine goesL_ (some 8) rfl rfl Try.func25 (by kernel_rfl) rfl #[.int .i64 7, .int .i64 1, .int .i64 2] rfl (by (try simp only [List.map_toArray, List.map_cons, List.map_nil]); first | done | rfl | (simp only [List.length_drop, List.length_take]; rfl)) ?_; (with_reducible refine (fx_MulDiv.calls k 7 1 2 t117 true _ A1.out).mono ?_); rintro e w' ⟨rfl, ⟨nd, rfl⟩⟩; refine ⟨_, rfl, ?_⟩) | ((with_reducible refine gate_callee (f := 26) rfl ?_); refine goesL_ (some 12) rfl rfl Try.func26 (by kernel_rfl) rfl #[.int .i64 3, .int .i64 4] rfl (by (try simp only [List.map_toArray, List.map_cons, List.map_nil]); first | done | rfl | (simp only [List.length_drop, List.length_take]; rfl)) ?_; (with_reducible refine (fx_Hypot.calls k 3 4 t119 true _ A2.out).mono ?_); rintro e w' ⟨rfl, ⟨nd, rfl⟩⟩; refine ⟨_, rfl, ?_⟩) | ((with_reducible refine gate_callee (f := 36) rfl ?_); refine goesL_ (some 16) rfl rfl Try.func36 (by kernel_rfl) rfl #[.int .i64 9223372036854775807, .int .i64 1] rfl (by (try simp only [List.map_toArray, List.map_cons, List.map_nil]); first | done | rfl | (simp only [List.length_drop, List.length_take]; rfl)) ?_; (with_reducible refine (fx_Add.calls 9223372036854775807 1 t121 false _ A3.out).mono ?_); rintro e w' ⟨rfl, ⟨nd, rfl⟩⟩; refine ⟨_, rfl, ?_⟩) | (go_at_call 27; (with_reducible refine (fx_Sqrt.calls k 24 t123 _ A9.out).mono ?_); rintro e w' ⟨rfl, ⟨nd, rfl⟩⟩) | (go_at_call 31; (with_reducible refine (fx_Root.calls k 1 0 t124 _ A11.out).mono ?_); rintro e w' ⟨rfl, ⟨nd, rfl⟩⟩))
              go_ret
              exact ⟨by first | rfl | (simp; done) | (simp [*]; done) | (simp [nb1_, nb2_]; done), by repeat (first | exact Drawn0.refl _ | apply Drawn0.step)⟩
            · rw [if_neg c10] at H
              have c10b0 : (t123 == 4) = false := beq_eq_false_iff_ne.mpr c10
              have c10b1 : (t123 != 4) = true := bne_iff_ne.mpr c10
              obtain rfl := Option.some.inj H
              go_enter Try.func24, Try.ntmps24
              go_wp2_with (first | ((with_reducible refine gate_callee (f := 25) rfl ?_); refine goesL_ (some 8) rfl rfl Try.func25 (by kernel_rfl) rfl #[.int .i64 7, .int .i64 1, .int .i64 2] rfl (by (try simp only [List.map_toArray, List.map_cons, List.map_nil]); first | done | rfl | (simp only [List.length_drop, List.length_take]; rfl)) ?_; (with_reducible refine (fx_MulDiv.calls k 7 1 2 t117 true _ A1.out).mono ?_); rintro e w' ⟨rfl, ⟨nd, rfl⟩⟩; refine ⟨_, rfl, ?_⟩) | ((with_reducible refine gate_callee (f := 26) rfl ?_); refine goesL_ (some 12) rfl rfl Try.func26 (by kernel_rfl) rfl #[.int .i64 3, .int .i64 4] rfl (by (try simp only [List.map_toArray, List.map_cons, List.map_nil]); first | done | rfl | (simp only [List.length_drop, List.length_take]; rfl)) ?_; (with_reducible refine (fx_Hypot.calls k 3 4 t119 true _ A2.out).mono ?_); rintro e w' ⟨rfl, ⟨nd, rfl⟩⟩; refine ⟨_, rfl, ?_⟩) | ((with_reducible refine gate_callee (f := 36) rfl ?_); refine goesL_ (some 16) rfl rfl Try.func36 (by kernel_rfl) rfl #[.int .i64 9223372036854775807, .int .i64 1] rfl (by (try simp only [List.map_toArray, List.map_cons, List.map_nil]); first | done | rfl | (simp only [List.length_drop, List.length_take]; rfl)) ?_; (with_reducible refine (fx_Add.calls 9223372036854775807 1 t121 false _ A3.out).mono ?_); rintro e w' ⟨rfl, ⟨nd, rfl⟩⟩; refine ⟨_, rfl, ?_⟩) | (go_at_call 27; (with_reducible refine (fx_Sqrt.calls k 24 t123 _ A9.out).mono ?_); rintro e w' ⟨rfl, ⟨nd, rfl⟩⟩))
              go_ret
              exact ⟨by first | rfl | (simp; done) | (simp [*]; done) | (simp [nb1_, nb2_]; done), by repeat (first | exact Drawn0.refl _ | apply Drawn0.step)⟩
        · replace c7 := Bool.eq_false_iff.mpr c7
          subst c7
          have H1 : (some false) = some r := by rw [if_neg (show ¬ (false = true) by decide)] at H; exact H
          clear H
          have H := H1
          clear H1
          obtain rfl := Option.some.inj H
          go_enter Try.func24, Try.ntmps24
          go_wp2_with (first | ((with_reducible refine gate_callee (f := 25) rfl ?_); refine goesL_ (some 8) rfl rfl Try.func25 (by kernel_rfl) rfl #[.int .i64 7, .int .i64 1, .int .i64 2] rfl (by (try simp only [List.map_toArray, List.map_cons, List.map_nil]); first | done | rfl | (simp only [List.length_drop, List.length_take]; rfl)) ?_; (with_reducible refine (fx_MulDiv.calls k 7 1 2 t117 true _ A1.out).mono ?_); rintro e w' ⟨rfl, ⟨nd, rfl⟩⟩; refine ⟨_, rfl, ?_⟩) | ((with_reducible refine gate_callee (f := 26) rfl ?_); refine goesL_ (some 12) rfl rfl Try.func26 (by kernel_rfl) rfl #[.int .i64 3, .int .i64 4] rfl (by (try simp only [List.map_toArray, List.map_cons, List.map_nil]); first | done | rfl | (simp only [List.length_drop, List.length_take]; rfl)) ?_; (with_reducible refine (fx_Hypot.calls k 3 4 t119 false _ A2.out).mono ?_); rintro e w' ⟨rfl, ⟨nd, rfl⟩⟩; refine ⟨_, rfl, ?_⟩) | ((with_reducible refine gate_callee (f := 36) rfl ?_); refine goesL_ (some 16) rfl rfl Try.func36 (by kernel_rfl) rfl #[.int .i64 9223372036854775807, .int .i64 1] rfl (by (try simp only [List.map_toArray, List.map_cons, List.map_nil]); first | done | rfl | (simp only [List.length_drop, List.length_take]; rfl)) ?_; (with_reducible refine (fx_Add.calls 9223372036854775807 1 t121 t122 _ A3.out).mono ?_); rintro e w' ⟨rfl, ⟨nd, rfl⟩⟩; refine ⟨_, rfl, ?_⟩))
          go_ret
          exact ⟨by first | rfl | (simp; done) | (simp [*]; done) | (simp [nb1_, nb2_]; done), by repeat (first | exact Drawn0.refl _ | apply Drawn0.step)⟩
      · rw [if_neg c6] at H
        have c6b0 : (t119 == 5) = false := beq_eq_false_iff_ne.mpr c6
        have c6b1 : (t119 != 5) = true := bne_iff_ne.mpr c6
        obtain rfl := Option.some.inj H
        go_enter Try.func24, Try.ntmps24
        go_wp2_with (first | ((with_reducible refine gate_callee (f := 25) rfl ?_); refine goesL_ (some 8) rfl rfl Try.func25 (by kernel_rfl) rfl #[.int .i64 7, .int .i64 1, .int .i64 2] rfl (by (try simp only [List.map_toArray, List.map_cons, List.map_nil]); first | done | rfl | (simp only [List.length_drop, List.length_take]; rfl)) ?_; (with_reducible refine (fx_MulDiv.calls k 7 1 2 t117 true _ A1.out).mono ?_); rintro e w' ⟨rfl, ⟨nd, rfl⟩⟩; refine ⟨_, rfl, ?_⟩) | ((with_reducible refine gate_callee (f := 26) rfl ?_); refine goesL_ (some 12) rfl rfl Try.func26 (by kernel_rfl) rfl #[.int .i64 3, .int .i64 4] rfl (by (try simp only [List.map_toArray, List.map_cons, List.map_nil]); first | done | rfl | (simp only [List.length_drop, List.length_take]; rfl)) ?_; (with_reducible refine (fx_Hypot.calls k 3 4 t119 t120 _ A2.out).mono ?_); rintro e w' ⟨rfl, ⟨nd, rfl⟩⟩; refine ⟨_, rfl, ?_⟩) | ((with_reducible refine gate_callee (f := 36) rfl ?_); refine goesL_ (some 16) rfl rfl Try.func36 (by kernel_rfl) rfl #[.int .i64 9223372036854775807, .int .i64 1] rfl (by (try simp only [List.map_toArray, List.map_cons, List.map_nil]); first | done | rfl | (simp only [List.length_drop, List.length_take]; rfl)) ?_; (with_reducible refine (fx_Add.calls 9223372036854775807 1 t121 t122 _ A3.out).mono ?_); rintro e w' ⟨rfl, ⟨nd, rfl⟩⟩; refine ⟨_, rfl, ?_⟩))
        go_ret
        exact ⟨by first | rfl | (simp; done) | (simp [*]; done) | (simp [nb1_, nb2_]; done), by repeat (first | exact Drawn0.refl _ | apply Drawn0.step)⟩
    · replace c5 := Bool.eq_false_iff.mpr c5
      subst c5
      have H1 : (some false) = some r := by rw [if_neg (show ¬ (false = true) by decide)] at H; exact H
      clear H
      have H := H1
      clear H1
      obtain rfl := Option.some.inj H
      go_enter Try.func24, Try.ntmps24
      go_wp2_with (first | ((with_reducible refine gate_callee (f := 25) rfl ?_); refine goesL_ (some 8) rfl rfl Try.func25 (by kernel_rfl) rfl #[.int .i64 7, .int .i64 1, .int .i64 2] rfl (by (try simp only [List.map_toArray, List.map_cons, List.map_nil]); first | done | rfl | (simp only [List.length_drop, List.length_take]; rfl)) ?_; (with_reducible refine (fx_MulDiv.calls k 7 1 2 t117 false _ A1.out).mono ?_); rintro e w' ⟨rfl, ⟨nd, rfl⟩⟩; refine ⟨_, rfl, ?_⟩) | ((with_reducible refine gate_callee (f := 26) rfl ?_); refine goesL_ (some 12) rfl rfl Try.func26 (by kernel_rfl) rfl #[.int .i64 3, .int .i64 4] rfl (by (try simp only [List.map_toArray, List.map_cons, List.map_nil]); first | done | rfl | (simp only [List.length_drop, List.length_take]; rfl)) ?_; (with_reducible refine (fx_Hypot.calls k 3 4 t119 t120 _ A2.out).mono ?_); rintro e w' ⟨rfl, ⟨nd, rfl⟩⟩; refine ⟨_, rfl, ?_⟩) | ((with_reducible refine gate_callee (f := 36) rfl ?_); refine goesL_ (some 16) rfl rfl Try.func36 (by kernel_rfl) rfl #[.int .i64 9223372036854775807, .int .i64 1] rfl (by (try simp only [List.map_toArray, List.map_cons, List.map_nil]); first | done | rfl | (simp only [List.length_drop, List.length_take]; rfl)) ?_; (with_reducible refine (fx_Add.calls 9223372036854775807 1 t121 t122 _ A3.out).mono ?_); rintro e w' ⟨rfl, ⟨nd, rfl⟩⟩; refine ⟨_, rfl, ?_⟩))
      go_ret
      exact ⟨by first | rfl | (simp; done) | (simp [*]; done) | (simp [nb1_, nb2_]; done), by repeat (first | exact Drawn0.refl _ | apply Drawn0.step)⟩
  · rw [if_neg c4] at H
    have c4b0 : (t117 == 4) = false := beq_eq_false_iff_ne.mpr c4
    have c4b1 : (t117 != 4) = true := bne_iff_ne.mpr c4
    obtain rfl := Option.some.inj H
    go_enter Try.func24, Try.ntmps24
    go_wp2_with (first | ((with_reducible refine gate_callee (f := 25) rfl ?_); refine goesL_ (some 8) rfl rfl Try.func25 (by kernel_rfl) rfl #[.int .i64 7, .int .i64 1, .int .i64 2] rfl (by (try simp only [List.map_toArray, List.map_cons, List.map_nil]); first | done | rfl | (simp only [List.length_drop, List.length_take]; rfl)) ?_; (with_reducible refine (fx_MulDiv.calls k 7 1 2 t117 t118 _ A1.out).mono ?_); rintro e w' ⟨rfl, ⟨nd, rfl⟩⟩; refine ⟨_, rfl, ?_⟩) | ((with_reducible refine gate_callee (f := 26) rfl ?_); refine goesL_ (some 12) rfl rfl Try.func26 (by kernel_rfl) rfl #[.int .i64 3, .int .i64 4] rfl (by (try simp only [List.map_toArray, List.map_cons, List.map_nil]); first | done | rfl | (simp only [List.length_drop, List.length_take]; rfl)) ?_; (with_reducible refine (fx_Hypot.calls k 3 4 t119 t120 _ A2.out).mono ?_); rintro e w' ⟨rfl, ⟨nd, rfl⟩⟩; refine ⟨_, rfl, ?_⟩) | ((with_reducible refine gate_callee (f := 36) rfl ?_); refine goesL_ (some 16) rfl rfl Try.func36 (by kernel_rfl) rfl #[.int .i64 9223372036854775807, .int .i64 1] rfl (by (try simp only [List.map_toArray, List.map_cons, List.map_nil]); first | done | rfl | (simp only [List.length_drop, List.length_take]; rfl)) ?_; (with_reducible refine (fx_Add.calls 9223372036854775807 1 t121 t122 _ A3.out).mono ?_); rintro e w' ⟨rfl, ⟨nd, rfl⟩⟩; refine ⟨_, rfl, ?_⟩))
    go_ret
    exact ⟨by first | rfl | (simp; done) | (simp [*]; done) | (simp [nb1_, nb2_]; done), by repeat (first | exact Drawn0.refl _ | apply Drawn0.step)⟩

/-! ### leadlineref1_made: function 55 -/
def leadlineref1_made.f (a0 : Bool) (l1 : List Int) : Option (Bool × List Int) := if a0 = true then (some (decide (0 < l1.length), l1)) else (some (false, l1))
set_option maxHeartbeats 8000000 in
set_option maxRecDepth 100000 in
theorem leadlineref1_made.calls (a0 : Bool) (P1_ : Nat → Prop) (A1 : Option Addr) (c1 : Nat) (l1 : List Int) (r1 : Bool) (r2 : List Int) (w : World) (hs1 : Kd.V (Kd.int .u64) 42 w w.heap.size (fun k_ => P1_ k_) (.slice A1 l1.length c1) l1) (h : leadlineref1_made.f a0 l1 = some (r1, r2)) :
    Calls Try.prog 55 #[.bool a0, .slice A1 l1.length c1] w fun e w' => ∃ v1_ : Value, e = .returned (.agg #[.bool r1, v1_]) ∧ Kd.V (Kd.int .u64) 42 w' w.heap.size (fun k_ => (P1_ k_ ∨ w.heap.size ≤ k_)) v1_ r2 ∧ Below w.heap.size w w' := by
  have hu46 := Try.underlying46
  have HO1 := Aside0.mk (show Kd.V (Kd.int .u64) 42 w w.heap.size (fun k_ => (P1_ k_ ∨ w.heap.size ≤ k_)) (.slice A1 l1.length c1) l1 from Kd.V_mono hs1 (fun k_ hk => .inl hk))
  have HB := Aside0.mk (Below.refl w.heap.size w)
  have H : (if a0 = true then (some (decide (0 < l1.length), l1)) else (some (false, l1))) = some (r1, r2) := h
  clear h
  by_cases c3 : a0 = true
  · subst c3
    have H1 : (some (decide (0 < l1.length), l1)) = some (r1, r2) := by rw [if_pos rfl] at H; exact H
    clear H
    have H := H1
    clear H1
    simp only [Option.some.injEq, Prod.mk.injEq] at H
    obtain ⟨rfl, rfl⟩ := H
    go_enter Try.func55, Try.ntmps55
    go_wp2_with (first | ((with_reducible refine gate_dst (N := 4) rfl ?_); (try (refine gate_guard (by rfl) ?_; dsimp only)); refine box_event ?hg (N := 4) ?hd (cs := #[.bool false, .slice none 0 0]) (t := 46) ?hr ?_; (case hd => rfl); (case hg => rfl); (case hr => first | (go_simp; done) | (go_simp; rfl)); intro gb125 hg w4 hbox hb; have n0_ := Aside0.mk (Kd.V_below (Kd.V_elderB (by (with_reducible repeat (first | apply Kd.V_alloc | apply Kd.V_drewN | apply Kd.V_drew)); exact HO1.out) gb125 (Nat.le_of_eq hg.symm)) hb); have n1_ := Aside0.mk (below_step (by repeat (first | (with_reducible first | exact HB.out | apply below_alloc | apply pw_below_drewN | apply below_drew1) | exact HB.out)) hb); have n2_ := Aside0.mk (hbox); have n3_ := Aside0.mk ((by rw [hg]; exact (below_size (by repeat (first | (with_reducible first | exact HB.out | apply below_alloc | apply pw_below_drewN | apply below_drew1) | exact HB.out))) : w.heap.size ≤ gb125)); have n4_ := Aside0.mk ((by rw [hg]; exact (below_size (by repeat (first | (with_reducible first | exact HB.out | apply below_alloc | apply pw_below_drewN | apply below_drew1) | exact HB.out))) : w.heap.size ≤ gb125)); clear HO1; clear HB; have HO1 := n0_; have HB := n1_; have BK125 := n2_; have GW125 := n3_; have GE125 := n4_; clear n0_ n1_ n2_ n3_ n4_; clear hb hbox hg; have hcz5_0 : w4.cell? ⟨gb125, 0, none⟩ = some (.bool false) := (blk_cell BK125.out 0).trans rfl; have hcz5_1 : w4.cell? ⟨gb125, 1, none⟩ = some (.slice none 0 0) := (blk_cell BK125.out 1).trans rfl; have hfz5_0 := blk_frozen BK125.out 0; have hfz5_1 := blk_frozen BK125.out 1))
    refine bodyPost_ret (results_cell_row rfl _ _ gb125 46 #[.bool (decide (0 < l1.length)), .slice A1 l1.length c1] (0, 0) _ rfl (by (with_reducible repeat (first | refine blk_drewN ?_ _ | refine blk_drew ?_ | refine blk_alloc ?_ _)); refine blk_put (cs := #[.bool (decide (0 < l1.length)), .slice none 0 0]) ?_ 1 _ rfl; (with_reducible repeat (first | refine blk_drewN ?_ _ | refine blk_drew ?_ | refine blk_alloc ?_ _)); refine blk_put (cs := #[.bool false, .slice none 0 0]) ?_ 0 _ rfl; (with_reducible repeat (first | refine blk_drewN ?_ _ | refine blk_drew ?_ | refine blk_alloc ?_ _)); exact BK125.out) Try.underlying46 rfl (by kernel_rfl)) rfl ?_
    exact ⟨_, by first | rfl | (simp [errW_none, errW_some] <;> rfl) | (simp [*, errW_none, errW_some] <;> rfl), by (with_reducible repeat (first | apply Kd.V_alloc | apply Kd.V_drewN | apply Kd.V_drew)); exact Kd.V_mono (Kd.V_far (p := ⟨gb125, 1, none⟩) (Kd.V_far (p := ⟨gb125, 0, none⟩) (Kd.V_mono HO1.out (fun k_ hk => (⟨hk, hk.2⟩ : _ ∧ k_ ≠ gb125))) (fun _ hk => hk.2) (.bool (decide (0 < l1.length)))) (fun _ hk => hk.2) (.slice A1 l1.length c1)) (fun _ hk => hk.1.1), by repeat (first | (with_reducible first | exact HB.out | apply below_alloc | apply pw_below_drewN | apply below_drew1 | refine below_set ?_ GE125.out) | exact HB.out)⟩
  · replace c3 := Bool.eq_false_iff.mpr c3
    subst c3
    have H1 : (some (false, l1)) = some (r1, r2) := by rw [if_neg (show ¬ (false = true) by decide)] at H; exact H
    clear H
    have H := H1
    clear H1
    simp only [Option.some.injEq, Prod.mk.injEq] at H
    obtain ⟨rfl, rfl⟩ := H
    go_enter Try.func55, Try.ntmps55
    go_wp2_with (first | ((with_reducible refine gate_dst (N := 4) rfl ?_); (try (refine gate_guard (by rfl) ?_; dsimp only)); refine box_event ?hg (N := 4) ?hd (cs := #[.bool false, .slice none 0 0]) (t := 46) ?hr ?_; (case hd => rfl); (case hg => rfl); (case hr => first | (go_simp; done) | (go_simp; rfl)); intro gb125 hg w6 hbox hb; have n0_ := Aside0.mk (Kd.V_below (Kd.V_elderB (by (with_reducible repeat (first | apply Kd.V_alloc | apply Kd.V_drewN | apply Kd.V_drew)); exact HO1.out) gb125 (Nat.le_of_eq hg.symm)) hb); have n1_ := Aside0.mk (below_step (by repeat (first | (with_reducible first | exact HB.out | apply below_alloc | apply pw_below_drewN | apply below_drew1) | exact HB.out)) hb); have n2_ := Aside0.mk (hbox); have n3_ := Aside0.mk ((by rw [hg]; exact (below_size (by repeat (first | (with_reducible first | exact HB.out | apply below_alloc | apply pw_below_drewN | apply below_drew1) | exact HB.out))) : w.heap.size ≤ gb125)); have n4_ := Aside0.mk ((by rw [hg]; exact (below_size (by repeat (first | (with_reducible first | exact HB.out | apply below_alloc | apply pw_below_drewN | apply below_drew1) | exact HB.out))) : w.heap.size ≤ gb125)); clear HO1; clear HB; have HO1 := n0_; have HB := n1_; have BK125 := n2_; have GW125 := n3_; have GE125 := n4_; clear n0_ n1_ n2_ n3_ n4_; clear hb hbox hg; have hcz7_0 : w6.cell? ⟨gb125, 0, none⟩ = some (.bool false) := (blk_cell BK125.out 0).trans rfl; have hcz7_1 : w6.cell? ⟨gb125, 1, none⟩ = some (.slice none 0 0) := (blk_cell BK125.out 1).trans rfl; have hfz7_0 := blk_frozen BK125.out 0; have hfz7_1 := blk_frozen BK125.out 1))
    refine bodyPost_ret (results_cell_row rfl _ _ gb125 46 #[.bool false, .slice A1 l1.length c1] (0, 0) _ rfl (by (with_reducible repeat (first | refine blk_drewN ?_ _ | refine blk_drew ?_ | refine blk_alloc ?_ _)); refine blk_put (cs := #[.bool false, .slice none 0 0]) ?_ 1 _ rfl; (with_reducible repeat (first | refine blk_drewN ?_ _ | refine blk_drew ?_ | refine blk_alloc ?_ _)); refine blk_put (cs := #[.bool false, .slice none 0 0]) ?_ 0 _ rfl; (with_reducible repeat (first | refine blk_drewN ?_ _ | refine blk_drew ?_ | refine blk_alloc ?_ _)); exact BK125.out) Try.underlying46 rfl (by kernel_rfl)) rfl ?_
    exact ⟨_, by first | rfl | (simp [errW_none, errW_some] <;> rfl) | (simp [*, errW_none, errW_some] <;> rfl), by (with_reducible repeat (first | apply Kd.V_alloc | apply Kd.V_drewN | apply Kd.V_drew)); exact Kd.V_mono (Kd.V_far (p := ⟨gb125, 1, none⟩) (Kd.V_far (p := ⟨gb125, 0, none⟩) (Kd.V_mono HO1.out (fun k_ hk => (⟨hk, hk.2⟩ : _ ∧ k_ ≠ gb125))) (fun _ hk => hk.2) (.bool false)) (fun _ hk => hk.2) (.slice A1 l1.length c1)) (fun _ hk => hk.1.1), by repeat (first | (with_reducible first | exact HB.out | apply below_alloc | apply pw_below_drewN | apply below_drew1 | refine below_set ?_ GE125.out) | exact HB.out)⟩

end Go.Proofs.Ytoedbnnepcnjnaa.QFq
