/- Lean functions for Go functions that a statement reaches, and a proof that the calls come to them. Written by a program of this session. -/
import Derived.Test.YtoedbnnepcnjnaaQFxx0
import Derived.Test.YtoedbnnepcnjnaaQFxx1
import Derived.Test.YtoedbnnepcnjnaaQFxx2
namespace Go.Proofs.Ytoedbnnepcnjnaa.QFx
open Go.Proofs.Ytoedbnnepcnjnaa.XCarry Go.RowKit Go.Proofs.YtoedbnnepcnjnaaW.PrintWords Go.Proofs.YtoedbnnepcnjnaaW.PrintLast Go.Proofs.YtoedbnnepcnjnaaW.PrintMore
attribute [local go_sem] max2_int min2_int max_two min_two max_three min_three max_four min_four   -- for this text's walks alone
set_option linter.unusedVariables false
set_option linter.unusedSimpArgs false

/-! ### leadlinelaw2_FxHalves: function 8 -/
def leadlinelaw2_FxHalves.f (k : Nat) (a0 : Int) (a1 : Int) : Option (Bool) := (leadlinelaw2_known.f k).bind fun t125 => (if t125 = true then ((fx_MulDiv.f k (wrap64 ((wrap64 (2 * (wrap64 (a0)))) + 1)) (wrap64 ((wrap64 (a1)) + 1)) (wrap64 (2 * (wrap64 ((wrap64 (a1)) + 1))))).bind fun bt126 => ((fx_MulDiv.f k (wrap64 (a0)) 1 (wrap64 ((wrap64 (a1)) + 1))).bind fun bt128 => (if bt126.2 = true then (if bt128.2 = true then (if bt126.1 = (wrap64 ((wrap64 (a0)) + 1)) then (if (wrap64 (2 * (wrap64 ((wrap64 (a0)) - (wrap64 (bt128.1 * (wrap64 ((wrap64 (a1)) + 1)))))))) < (wrap64 ((wrap64 (a1)) + 1)) then (some (decide ((wrap64 (2 * (wrap64 ((wrap64 (a0)) - (wrap64 (bt128.1 * (wrap64 ((wrap64 (a1)) + 1)))))))) ≥ (wrap64 (-(wrap64 ((wrap64 (a1)) + 1))))))) else (some false)) else (some false)) else (some false)) else (some false)))) else (some false))
theorem leadlinelaw2_FxHalves.mono : ∀ a0 a1 k, LeO (leadlinelaw2_FxHalves.f k a0 a1) (leadlinelaw2_FxHalves.f (k + 1) a0 a1) := by
  intro a0 a1 k
  unfold leadlinelaw2_FxHalves.f
  repeat' first
      | (with_reducible exact fx_MulDiv.mono _ _ _ _)
      | (with_reducible exact leadlinelaw2_known.mono _)
      | (with_reducible exact LeO.refl _)
      | (with_reducible exact LeO.none _)
      | (with_reducible refine LeO.ite ?_ ?_)
      | (with_reducible refine LeO.bind ?_ (fun _ => ?_))
      | exact fx_MulDiv.mono _ _ _ _
      | exact leadlinelaw2_known.mono _
      | exact LeO.none _
      | refine LeO.ite ?_ ?_
      | refine LeO.bind ?_ (fun _ => ?_)
set_option maxHeartbeats 8000000 in
set_option maxRecDepth 100000 in
theorem leadlinelaw2_FxHalves.calls (k : Nat) (a0 : Int) (a1 : Int) (r : Bool) (w : World) (h : leadlinelaw2_FxHalves.f k a0 a1 = some r) :
    Calls Try.prog 8 #[.int .i32 a0, .int .u16 a1] w fun e w' => e = .returned (.bool r) ∧ Drawn0 w w' := by
  have H : ((leadlinelaw2_known.f k).bind fun t125 => (if t125 = true then ((fx_MulDiv.f k (wrap64 ((wrap64 (2 * (wrap64 (a0)))) + 1)) (wrap64 ((wrap64 (a1)) + 1)) (wrap64 (2 * (wrap64 ((wrap64 (a1)) + 1))))).bind fun bt126 => ((fx_MulDiv.f k (wrap64 (a0)) 1 (wrap64 ((wrap64 (a1)) + 1))).bind fun bt128 => (if bt126.2 = true then (if bt128.2 = true then (if bt126.1 = (wrap64 ((wrap64 (a0)) + 1)) then (if (wrap64 (2 * (wrap64 ((wrap64 (a0)) - (wrap64 (bt128.1 * (wrap64 ((wrap64 (a1)) + 1)))))))) < (wrap64 ((wrap64 (a1)) + 1)) then (some (decide ((wrap64 (2 * (wrap64 ((wrap64 (a0)) - (wrap64 (bt128.1 * (wrap64 ((wrap64 (a1)) + 1)))))))) ≥ (wrap64 (-(wrap64 ((wrap64 (a1)) + 1))))))) else (some false)) else (some false)) else (some false)) else (some false)))) else (some false))) = some r := h
  clear h
  replace H := Option.bind_eq_some_iff.mp H
  obtain ⟨t125, A30, H⟩ := H
  replace H : (if t125 = true then ((fx_MulDiv.f k (wrap64 ((wrap64 (2 * (wrap64 (a0)))) + 1)) (wrap64 ((wrap64 (a1)) + 1)) (wrap64 (2 * (wrap64 ((wrap64 (a1)) + 1))))).bind fun bt126 => ((fx_MulDiv.f k (wrap64 (a0)) 1 (wrap64 ((wrap64 (a1)) + 1))).bind fun bt128 => (if bt126.2 = true then (if bt128.2 = true then (if bt126.1 = (wrap64 ((wrap64 (a0)) + 1)) then (if (wrap64 (2 * (wrap64 ((wrap64 (a0)) - (wrap64 (bt128.1 * (wrap64 ((wrap64 (a1)) + 1)))))))) < (wrap64 ((wrap64 (a1)) + 1)) then (some (decide ((wrap64 (2 * (wrap64 ((wrap64 (a0)) - (wrap64 (bt128.1 * (wrap64 ((wrap64 (a1)) + 1)))))))) ≥ (wrap64 (-(wrap64 ((wrap64 (a1)) + 1))))))) else (some false)) else (some false)) else (some false)) else (some false)))) else (some false)) = some r := H
  have A3 := Aside0.mk A30
  clear A30
  by_cases c4 : t125 = true
  · subst c4
    have H1 : ((fx_MulDiv.f k (wrap64 ((wrap64 (2 * (wrap64 (a0)))) + 1)) (wrap64 ((wrap64 (a1)) + 1)) (wrap64 (2 * (wrap64 ((wrap64 (a1)) + 1))))).bind fun bt126 => ((fx_MulDiv.f k (wrap64 (a0)) 1 (wrap64 ((wrap64 (a1)) + 1))).bind fun bt128 => (if bt126.2 = true then (if bt128.2 = true then (if bt126.1 = (wrap64 ((wrap64 (a0)) + 1)) then (if (wrap64 (2 * (wrap64 ((wrap64 (a0)) - (wrap64 (bt128.1 * (wrap64 ((wrap64 (a1)) + 1)))))))) < (wrap64 ((wrap64 (a1)) + 1)) then (some (decide ((wrap64 (2 * (wrap64 ((wrap64 (a0)) - (wrap64 (bt128.1 * (wrap64 ((wrap64 (a1)) + 1)))))))) ≥ (wrap64 (-(wrap64 ((wrap64 (a1)) + 1))))))) else (some false)) else (some false)) else (some false)) else (some false)))) = some r := by rw [if_pos rfl] at H; exact H
    clear H
    have H := H1
    clear H1
    replace H := Option.bind_eq_some_iff.mp H
    obtain ⟨⟨t126, t127⟩, A50, H⟩ := H
    replace H : ((fx_MulDiv.f k (wrap64 (a0)) 1 (wrap64 ((wrap64 (a1)) + 1))).bind fun bt128 => (if t127 = true then (if bt128.2 = true then (if t126 = (wrap64 ((wrap64 (a0)) + 1)) then (if (wrap64 (2 * (wrap64 ((wrap64 (a0)) - (wrap64 (bt128.1 * (wrap64 ((wrap64 (a1)) + 1)))))))) < (wrap64 ((wrap64 (a1)) + 1)) then (some (decide ((wrap64 (2 * (wrap64 ((wrap64 (a0)) - (wrap64 (bt128.1 * (wrap64 ((wrap64 (a1)) + 1)))))))) ≥ (wrap64 (-(wrap64 ((wrap64 (a1)) + 1))))))) else (some false)) else (some false)) else (some false)) else (some false))) = some r := H
    have A5 := Aside0.mk A50
    clear A50
    replace H := Option.bind_eq_some_iff.mp H
    obtain ⟨⟨t128, t129⟩, A60, H⟩ := H
    replace H : (if t127 = true then (if t129 = true then (if t126 = (wrap64 ((wrap64 (a0)) + 1)) then (if (wrap64 (2 * (wrap64 ((wrap64 (a0)) - (wrap64 (t128 * (wrap64 ((wrap64 (a1)) + 1)))))))) < (wrap64 ((wrap64 (a1)) + 1)) then (some (decide ((wrap64 (2 * (wrap64 ((wrap64 (a0)) - (wrap64 (t128 * (wrap64 ((wrap64 (a1)) + 1)))))))) ≥ (wrap64 (-(wrap64 ((wrap64 (a1)) + 1))))))) else (some false)) else (some false)) else (some false)) else (some false)) = some r := H
    have A6 := Aside0.mk A60
    clear A60
    by_cases c7 : t127 = true
    · subst c7
      have H1 : (if t129 = true then (if t126 = (wrap64 ((wrap64 (a0)) + 1)) then (if (wrap64 (2 * (wrap64 ((wrap64 (a0)) - (wrap64 (t128 * (wrap64 ((wrap64 (a1)) + 1)))))))) < (wrap64 ((wrap64 (a1)) + 1)) then (some (decide ((wrap64 (2 * (wrap64 ((wrap64 (a0)) - (wrap64 (t128 * (wrap64 ((wrap64 (a1)) + 1)))))))) ≥ (wrap64 (-(wrap64 ((wrap64 (a1)) + 1))))))) else (some false)) else (some false)) else (some false)) = some r := by rw [if_pos rfl] at H; exact H
      clear H
      have H := H1
      clear H1
      by_cases c8 : t129 = true
      · subst c8
        have H1 : (if t126 = (wrap64 ((wrap64 (a0)) + 1)) then (if (wrap64 (2 * (wrap64 ((wrap64 (a0)) - (wrap64 (t128 * (wrap64 ((wrap64 (a1)) + 1)))))))) < (wrap64 ((wrap64 (a1)) + 1)) then (some (decide ((wrap64 (2 * (wrap64 ((wrap64 (a0)) - (wrap64 (t128 * (wrap64 ((wrap64 (a1)) + 1)))))))) ≥ (wrap64 (-(wrap64 ((wrap64 (a1)) + 1))))))) else (some false)) else (some false)) = some r := by rw [if_pos rfl] at H; exact H
        clear H
        have H := H1
        clear H1
        by_cases c9 : t126 = (wrap64 ((wrap64 (a0)) + 1))
        · rw [if_pos c9] at H
          have c9b0 : (t126 == (wrap64 ((wrap64 (a0)) + 1))) = true := beq_iff_eq.mpr c9
          have c9b1 : (t126 != (wrap64 ((wrap64 (a0)) + 1))) = false := bne_eq_false_iff_eq.mpr c9
          clear c9
          by_cases c10 : (wrap64 (2 * (wrap64 ((wrap64 (a0)) - (wrap64 (t128 * (wrap64 ((wrap64 (a1)) + 1)))))))) < (wrap64 ((wrap64 (a1)) + 1))
          · rw [if_pos c10] at H
            have c10b0 : decide ((wrap64 (2 * (wrap64 ((wrap64 (a0)) - (wrap64 (t128 * (wrap64 ((wrap64 (a1)) + 1)))))))) < (wrap64 ((wrap64 (a1)) + 1))) = true := decide_eq_true c10
            clear c10
            obtain rfl := Option.some.inj H
            go_enter Try.func8, Try.ntmps8
            go_wp2_with (first | ((with_reducible refine gate_callee (f := 24) rfl ?_); refine goesL_ (some 11) rfl rfl Try.func24 (by kernel_rfl) rfl #[] rfl (by (try simp only [List.map_toArray, List.map_cons, List.map_nil]); first | done | rfl | (simp only [List.length_drop, List.length_take]; rfl)) ?_; (with_reducible refine (leadlinelaw2_known.calls k  true _ A3.out).mono ?_); rintro e w' ⟨rfl, ⟨nd, rfl⟩⟩; refine ⟨_, rfl, ?_⟩) | ((with_reducible refine gate_callee (f := 25) rfl ?_); refine goesL_ (some 24) rfl rfl Try.func25 (by kernel_rfl) rfl #[.int .i64 (wrap64 ((wrap64 (2 * (wrap64 (a0)))) + 1)), .int .i64 (wrap64 ((wrap64 (a1)) + 1)), .int .i64 (wrap64 (2 * (wrap64 ((wrap64 (a1)) + 1))))] rfl (by (try simp only [List.map_toArray, List.map_cons, List.map_nil]); first | done | rfl | (simp only [List.length_drop, List.length_take]; rfl)) ?_; (with_reducible refine (fx_MulDiv.calls k (wrap64 ((wrap64 (2 * (wrap64 (a0)))) + 1)) (wrap64 ((wrap64 (a1)) + 1)) (wrap64 (2 * (wrap64 ((wrap64 (a1)) + 1)))) t126 true _ A5.out).mono ?_); rintro e w' ⟨rfl, ⟨nd, rfl⟩⟩; refine ⟨_, rfl, ?_⟩) | ((with_reducible refine gate_callee (f := 25) rfl ?_); refine goesL_ (some 31) rfl rfl Try.func25 (by kernel_rfl) rfl #[.int .i64 (wrap64 (a0)), .int .i64 1, .int .i64 (wrap64 ((wrap64 (a1)) + 1))] rfl (by (try simp only [List.map_toArray, List.map_cons, List.map_nil]); first | done | rfl | (simp only [List.length_drop, List.length_take]; rfl)) ?_; (with_reducible refine (fx_MulDiv.calls k (wrap64 (a0)) 1 (wrap64 ((wrap64 (a1)) + 1)) t128 true _ A6.out).mono ?_); rintro e w' ⟨rfl, ⟨nd, rfl⟩⟩; refine ⟨_, rfl, ?_⟩))
            go_ret
            exact ⟨by first | rfl | (simp; done) | (simp [*]; done) | (simp [nb1_, nb2_]; done), by repeat (first | exact Drawn0.refl _ | apply Drawn0.step)⟩
          · rw [if_neg c10] at H
            have c10b0 : decide ((wrap64 (2 * (wrap64 ((wrap64 (a0)) - (wrap64 (t128 * (wrap64 ((wrap64 (a1)) + 1)))))))) < (wrap64 ((wrap64 (a1)) + 1))) = false := decide_eq_false c10
            clear c10
            obtain rfl := Option.some.inj H
            go_enter Try.func8, Try.ntmps8
            go_wp2_with (first | ((with_reducible refine gate_callee (f := 24) rfl ?_); refine goesL_ (some 11) rfl rfl Try.func24 (by kernel_rfl) rfl #[] rfl (by (try simp only [List.map_toArray, List.map_cons, List.map_nil]); first | done | rfl | (simp only [List.length_drop, List.length_take]; rfl)) ?_; (with_reducible refine (leadlinelaw2_known.calls k  true _ A3.out).mono ?_); rintro e w' ⟨rfl, ⟨nd, rfl⟩⟩; refine ⟨_, rfl, ?_⟩) | ((with_reducible refine gate_callee (f := 25) rfl ?_); refine goesL_ (some 24) rfl rfl Try.func25 (by kernel_rfl) rfl #[.int .i64 (wrap64 ((wrap64 (2 * (wrap64 (a0)))) + 1)), .int .i64 (wrap64 ((wrap64 (a1)) + 1)), .int .i64 (wrap64 (2 * (wrap64 ((wrap64 (a1)) + 1))))] rfl (by (try simp only [List.map_toArray, List.map_cons, List.map_nil]); first | done | rfl | (simp only [List.length_drop, List.length_take]; rfl)) ?_; (with_reducible refine (fx_MulDiv.calls k (wrap64 ((wrap64 (2 * (wrap64 (a0)))) + 1)) (wrap64 ((wrap64 (a1)) + 1)) (wrap64 (2 * (wrap64 ((wrap64 (a1)) + 1)))) t126 true _ A5.out).mono ?_); rintro e w' ⟨rfl, ⟨nd, rfl⟩⟩; refine ⟨_, rfl, ?_⟩) | ((with_reducible refine gate_callee (f := 25) rfl ?_); refine goesL_ (some 31) rfl rfl Try.func25 (by kernel_rfl) rfl #[.int .i64 (wrap64 (a0)), .int .i64 1, .int .i64 (wrap64 ((wrap64 (a1)) + 1))] rfl (by (try simp only [List.map_toArray, List.map_cons, List.map_nil]); first | done | rfl | (simp only [List.length_drop, List.length_take]; rfl)) ?_; (with_reducible refine (fx_MulDiv.calls k (wrap64 (a0)) 1 (wrap64 ((wrap64 (a1)) + 1)) t128 true _ A6.out).mono ?_); rintro e w' ⟨rfl, ⟨nd, rfl⟩⟩; refine ⟨_, rfl, ?_⟩))
            go_ret
            exact ⟨by first | rfl | (simp; done) | (simp [*]; done) | (simp [nb1_, nb2_]; done), by repeat (first | exact Drawn0.refl _ | apply Drawn0.step)⟩
        · rw [if_neg c9] at H
          have c9b0 : (t126 == (wrap64 ((wrap64 (a0)) + 1))) = false := beq_eq_false_iff_ne.mpr c9
          have c9b1 : (t126 != (wrap64 ((wrap64 (a0)) + 1))) = true := bne_iff_ne.mpr c9
          obtain rfl := Option.some.inj H
          go_enter Try.func8, Try.ntmps8
          go_wp2_with (first | ((with_reducible refine gate_callee (f := 24) rfl ?_); refine goesL_ (some 11) rfl rfl Try.func24 (by kernel_rfl) rfl #[] rfl (by (try simp only [List.map_toArray, List.map_cons, List.map_nil]); first | done | rfl | (simp only [List.length_drop, List.length_take]; rfl)) ?_; (with_reducible refine (leadlinelaw2_known.calls k  true _ A3.out).mono ?_); rintro e w' ⟨rfl, ⟨nd, rfl⟩⟩; refine ⟨_, rfl, ?_⟩) | ((with_reducible refine gate_callee (f := 25) rfl ?_); refine goesL_ (some 24) rfl rfl Try.func25 (by kernel_rfl) rfl #[.int .i64 (wrap64 ((wrap64 (2 * (wrap64 (a0)))) + 1)), .int .i64 (wrap64 ((wrap64 (a1)) + 1)), .int .i64 (wrap64 (2 * (wrap64 ((wrap64 (a1)) + 1))))] rfl (by (try simp only [List.map_toArray, List.map_cons, List.map_nil]); first | done | rfl | (simp only [List.length_drop, List.length_take]; rfl)) ?_; (with_reducible refine (fx_MulDiv.calls k (wrap64 ((wrap64 (2 * (wrap64 (a0)))) + 1)) (wrap64 ((wrap64 (a1)) + 1)) (wrap64 (2 * (wrap64 ((wrap64 (a1)) + 1)))) t126 true _ A5.out).mono ?_); rintro e w' ⟨rfl, ⟨nd, rfl⟩⟩; refine ⟨_, rfl, ?_⟩) | ((with_reducible refine gate_callee (f := 25) rfl ?_); refine goesL_ (some 31) rfl rfl Try.func25 (by kernel_rfl) rfl #[.int .i64 (wrap64 (a0)), .int .i64 1, .int .i64 (wrap64 ((wrap64 (a1)) + 1))] rfl (by (try simp only [List.map_toArray, List.map_cons, List.map_nil]); first | done | rfl | (simp only [List.length_drop, List.length_take]; rfl)) ?_; (with_reducible refine (fx_MulDiv.calls k (wrap64 (a0)) 1 (wrap64 ((wrap64 (a1)) + 1)) t128 true _ A6.out).mono ?_); rintro e w' ⟨rfl, ⟨nd, rfl⟩⟩; refine ⟨_, rfl, ?_⟩))
          go_ret
          exact ⟨by first | rfl | (simp; done) | (simp [*]; done) | (simp [nb1_, nb2_]; done), by repeat (first | exact Drawn0.refl _ | apply Drawn0.step)⟩
      · replace c8 := Bool.eq_false_iff.mpr c8
        subst c8
        have H1 : (some false) = some r := by rw [if_neg (show ¬ (false = true) by decide)] at H; exact H
        clear H
        have H := H1
        clear H1
        obtain rfl := Option.some.inj H
        go_enter Try.func8, Try.ntmps8
        go_wp2_with (first | ((with_reducible refine gate_callee (f := 24) rfl ?_); refine goesL_ (some 11) rfl rfl Try.func24 (by kernel_rfl) rfl #[] rfl (by (try simp only [List.map_toArray, List.map_cons, List.map_nil]); first | done | rfl | (simp only [List.length_drop, List.length_take]; rfl)) ?_; (with_reducible refine (leadlinelaw2_known.calls k  true _ A3.out).mono ?_); rintro e w' ⟨rfl, ⟨nd, rfl⟩⟩; refine ⟨_, rfl, ?_⟩) | ((with_reducible refine gate_callee (f := 25) rfl ?_); refine goesL_ (some 24) rfl rfl Try.func25 (by kernel_rfl) rfl #[.int .i64 (wrap64 ((wrap64 (2 * (wrap64 (a0)))) + 1)), .int .i64 (wrap64 ((wrap64 (a1)) + 1)), .int .i64 (wrap64 (2 * (wrap64 ((wrap64 (a1)) + 1))))] rfl (by (try simp only [List.map_toArray, List.map_cons, List.map_nil]); first | done | rfl | (simp only [List.length_drop, List.length_take]; rfl)) ?_; (with_reducible refine (fx_MulDiv.calls k (wrap64 ((wrap64 (2 * (wrap64 (a0)))) + 1)) (wrap64 ((wrap64 (a1)) + 1)) (wrap64 (2 * (wrap64 ((wrap64 (a1)) + 1)))) t126 true _ A5.out).mono ?_); rintro e w' ⟨rfl, ⟨nd, rfl⟩⟩; refine ⟨_, rfl, ?_⟩) | ((with_reducible refine gate_callee (f := 25) rfl ?_); refine goesL_ (some 31) rfl rfl Try.func25 (by kernel_rfl) rfl #[.int .i64 (wrap64 (a0)), .int .i64 1, .int .i64 (wrap64 ((wrap64 (a1)) + 1))] rfl (by (try simp only [List.map_toArray, List.map_cons, List.map_nil]); first | done | rfl | (simp only [List.length_drop, List.length_take]; rfl)) ?_; (with_reducible refine (fx_MulDiv.calls k (wrap64 (a0)) 1 (wrap64 ((wrap64 (a1)) + 1)) t128 false _ A6.out).mono ?_); rintro e w' ⟨rfl, ⟨nd, rfl⟩⟩; refine ⟨_, rfl, ?_⟩))
        go_ret
        exact ⟨by first | rfl | (simp; done) | (simp [*]; done) | (simp [nb1_, nb2_]; done), by repeat (first | exact Drawn0.refl _ | apply Drawn0.step)⟩
    · replace c7 := Bool.eq_false_iff.mpr c7
      subst c7
      have H1 : (some false) = some r := by rw [if_neg (show ¬ (false = true) by decide)] at H; exact H
      clear H
      have H := H1
      clear H1
      obtain rfl := Option.some.inj H
      go_enter Try.func8, Try.ntmps8
      go_wp2_with (first | ((with_reducible refine gate_callee (f := 24) rfl ?_); refine goesL_ (some 11) rfl rfl Try.func24 (by kernel_rfl) rfl #[] rfl (by (try simp only [List.map_toArray, List.map_cons, List.map_nil]); first | done | rfl | (simp only [List.length_drop, List.length_take]; rfl)) ?_; (with_reducible refine (leadlinelaw2_known.calls k  true _ A3.out).mono ?_); rintro e w' ⟨rfl, ⟨nd, rfl⟩⟩; refine ⟨_, rfl, ?_⟩) | ((with_reducible refine gate_callee (f := 25) rfl ?_); refine goesL_ (some 24) rfl rfl Try.func25 (by kernel_rfl) rfl #[.int .i64 (wrap64 ((wrap64 (2 * (wrap64 (a0)))) + 1)), .int .i64 (wrap64 ((wrap64 (a1)) + 1)), .int .i64 (wrap64 (2 * (wrap64 ((wrap64 (a1)) + 1))))] rfl (by (try simp only [List.map_toArray, List.map_cons, List.map_nil]); first | done | rfl | (simp only [List.length_drop, List.length_take]; rfl)) ?_; (with_reducible refine (fx_MulDiv.calls k (wrap64 ((wrap64 (2 * (wrap64 (a0)))) + 1)) (wrap64 ((wrap64 (a1)) + 1)) (wrap64 (2 * (wrap64 ((wrap64 (a1)) + 1)))) t126 false _ A5.out).mono ?_); rintro e w' ⟨rfl, ⟨nd, rfl⟩⟩; refine ⟨_, rfl, ?_⟩) | ((with_reducible refine gate_callee (f := 25) rfl ?_); refine goesL_ (some 31) rfl rfl Try.func25 (by kernel_rfl) rfl #[.int .i64 (wrap64 (a0)), .int .i64 1, .int .i64 (wrap64 ((wrap64 (a1)) + 1))] rfl (by (try simp only [List.map_toArray, List.map_cons, List.map_nil]); first | done | rfl | (simp only [List.length_drop, List.length_take]; rfl)) ?_; (with_reducible refine (fx_MulDiv.calls k (wrap64 (a0)) 1 (wrap64 ((wrap64 (a1)) + 1)) t128 t129 _ A6.out).mono ?_); rintro e w' ⟨rfl, ⟨nd, rfl⟩⟩; refine ⟨_, rfl, ?_⟩))
      go_ret
      exact ⟨by first | rfl | (simp; done) | (simp [*]; done) | (simp [nb1_, nb2_]; done), by repeat (first | exact Drawn0.refl _ | apply Drawn0.step)⟩
  · replace c4 := Bool.eq_false_iff.mpr c4
    subst c4
    have H1 : (some false) = some r := by rw [if_neg (show ¬ (false = true) by decide)] at H; exact H
    clear H
    have H := H1
    clear H1
    obtain rfl := Option.some.inj H
    go_enter Try.func8, Try.ntmps8
    go_wp2_with (first | ((with_reducible refine gate_callee (f := 24) rfl ?_); refine goesL_ (some 11) rfl rfl Try.func24 (by kernel_rfl) rfl #[] rfl (by (try simp only [List.map_toArray, List.map_cons, List.map_nil]); first | done | rfl | (simp only [List.length_drop, List.length_take]; rfl)) ?_; (with_reducible refine (leadlinelaw2_known.calls k  false _ A3.out).mono ?_); rintro e w' ⟨rfl, ⟨nd, rfl⟩⟩; refine ⟨_, rfl, ?_⟩))
    go_ret
    exact ⟨by first | rfl | (simp; done) | (simp [*]; done) | (simp [nb1_, nb2_]; done), by repeat (first | exact Drawn0.refl _ | apply Drawn0.step)⟩

/-- THE ONE PURE STATEMENT of leadlinelaw2_FxHalves: yours. -/
def leadlinelaw2_FxHalves.Pure : Prop := ∀ (a0 : Int) (a1 : Int), (Lit.int .i32 a0).wf = true → (Lit.int .u16 a1).wf = true → ∃ k, leadlinelaw2_FxHalves.f k a0 a1 = some true
theorem leadlinelaw2_FxHalves.walk (P : leadlinelaw2_FxHalves.Pure) (a0 : Int) (a1 : Int) (w : World) (w0 : (Lit.int .i32 a0).wf = true) (w1 : (Lit.int .u16 a1).wf = true) :
    Calls Try.prog 8 #[.int .i32 a0, .int .u16 a1] w fun e w' => e = .returned (.bool true) ∧ Below w.heap.size w w' := by
  obtain ⟨k, h⟩ := P a0 a1 w0 w1
  refine (leadlinelaw2_FxHalves.calls k a0 a1 true w h).mono ?_
  rintro e w' ⟨rfl, hd⟩
  exact ⟨rfl, hd.below⟩

/-! ### leadlinelaw2_FxSides: function 9 -/
def leadlinelaw2_FxSides.f (k : Nat) (a0 : Int) (a1 : Int) : Option (Bool) := (leadlinelaw2_known.f k).bind fun t130 => (if t130 = true then ((fx_Hypot.f k (wrap64 (a0)) (wrap64 (a1))).bind fun bt131 => ((fx_Hypot.f k (wrap64 (-(wrap64 (a1)))) (wrap64 (a0))).bind fun bt133 => (if bt131.2 = true then (if bt133.2 = true then (if bt131.1 = bt133.1 then (if bt131.1 ≥ (mx (wrap64 (a0)) (wrap64 (-(wrap64 (a0))))) then (if bt131.1 ≥ (mx (wrap64 (a1)) (wrap64 (-(wrap64 (a1))))) then (some (decide (bt131.1 ≤ (wrap64 ((mx (wrap64 (a0)) (wrap64 (-(wrap64 (a0))))) + (mx (wrap64 (a1)) (wrap64 (-(wrap64 (a1)))))))))) else (some false)) else (some false)) else (some false)) else (some false)) else (some false)))) else (some false))
theorem leadlinelaw2_FxSides.mono : ∀ a0 a1 k, LeO (leadlinelaw2_FxSides.f k a0 a1) (leadlinelaw2_FxSides.f (k + 1) a0 a1) := by
  intro a0 a1 k
  unfold leadlinelaw2_FxSides.f
  repeat' first
      | (with_reducible exact fx_Hypot.mono _ _ _)
      | (with_reducible exact leadlinelaw2_known.mono _)
      | (with_reducible exact LeO.refl _)
      | (with_reducible exact LeO.none _)
      | (with_reducible refine LeO.ite ?_ ?_)
      | (with_reducible refine LeO.bind ?_ (fun _ => ?_))
      | exact fx_Hypot.mono _ _ _
      | exact leadlinelaw2_known.mono _
      | exact LeO.none _
      | refine LeO.ite ?_ ?_
      | refine LeO.bind ?_ (fun _ => ?_)
set_option maxHeartbeats 8000000 in
set_option maxRecDepth 100000 in
theorem leadlinelaw2_FxSides.calls (k : Nat) (a0 : Int) (a1 : Int) (r : Bool) (w : World) (h : leadlinelaw2_FxSides.f k a0 a1 = some r) :
    Calls Try.prog 9 #[.int .i32 a0, .int .i32 a1] w fun e w' => e = .returned (.bool r) ∧ Below w.heap.size w w' := by
  have HB := Aside0.mk (Below.refl w.heap.size w)
  have H : ((leadlinelaw2_known.f k).bind fun t130 => (if t130 = true then ((fx_Hypot.f k (wrap64 (a0)) (wrap64 (a1))).bind fun bt131 => ((fx_Hypot.f k (wrap64 (-(wrap64 (a1)))) (wrap64 (a0))).bind fun bt133 => (if bt131.2 = true then (if bt133.2 = true then (if bt131.1 = bt133.1 then (if bt131.1 ≥ (mx (wrap64 (a0)) (wrap64 (-(wrap64 (a0))))) then (if bt131.1 ≥ (mx (wrap64 (a1)) (wrap64 (-(wrap64 (a1))))) then (some (decide (bt131.1 ≤ (wrap64 ((mx (wrap64 (a0)) (wrap64 (-(wrap64 (a0))))) + (mx (wrap64 (a1)) (wrap64 (-(wrap64 (a1)))))))))) else (some false)) else (some false)) else (some false)) else (some false)) else (some false)))) else (some false))) = some r := h
  clear h
  replace H := Option.bind_eq_some_iff.mp H
  obtain ⟨t130, A30, H⟩ := H
  replace H : (if t130 = true then ((fx_Hypot.f k (wrap64 (a0)) (wrap64 (a1))).bind fun bt131 => ((fx_Hypot.f k (wrap64 (-(wrap64 (a1)))) (wrap64 (a0))).bind fun bt133 => (if bt131.2 = true then (if bt133.2 = true then (if bt131.1 = bt133.1 then (if bt131.1 ≥ (mx (wrap64 (a0)) (wrap64 (-(wrap64 (a0))))) then (if bt131.1 ≥ (mx (wrap64 (a1)) (wrap64 (-(wrap64 (a1))))) then (some (decide (bt131.1 ≤ (wrap64 ((mx (wrap64 (a0)) (wrap64 (-(wrap64 (a0))))) + (mx (wrap64 (a1)) (wrap64 (-(wrap64 (a1)))))))))) else (some false)) else (some false)) else (some false)) else (some false)) else (some false)))) else (some false)) = some r := H
  have A3 := Aside0.mk A30
  clear A30
  by_cases c4 : t130 = true
  · subst c4
    have H1 : ((fx_Hypot.f k (wrap64 (a0)) (wrap64 (a1))).bind fun bt131 => ((fx_Hypot.f k (wrap64 (-(wrap64 (a1)))) (wrap64 (a0))).bind fun bt133 => (if bt131.2 = true then (if bt133.2 = true then (if bt131.1 = bt133.1 then (if bt131.1 ≥ (mx (wrap64 (a0)) (wrap64 (-(wrap64 (a0))))) then (if bt131.1 ≥ (mx (wrap64 (a1)) (wrap64 (-(wrap64 (a1))))) then (some (decide (bt131.1 ≤ (wrap64 ((mx (wrap64 (a0)) (wrap64 (-(wrap64 (a0))))) + (mx (wrap64 (a1)) (wrap64 (-(wrap64 (a1)))))))))) else (some false)) else (some false)) else (some false)) else (some false)) else (some false)))) = some r := by rw [if_pos rfl] at H; exact H
    clear H
    have H := H1
    clear H1
    replace H := Option.bind_eq_some_iff.mp H
    obtain ⟨⟨t131, t132⟩, A50, H⟩ := H
    replace H : ((fx_Hypot.f k (wrap64 (-(wrap64 (a1)))) (wrap64 (a0))).bind fun bt133 => (if t132 = true then (if bt133.2 = true then (if t131 = bt133.1 then (if t131 ≥ (mx (wrap64 (a0)) (wrap64 (-(wrap64 (a0))))) then (if t131 ≥ (mx (wrap64 (a1)) (wrap64 (-(wrap64 (a1))))) then (some (decide (t131 ≤ (wrap64 ((mx (wrap64 (a0)) (wrap64 (-(wrap64 (a0))))) + (mx (wrap64 (a1)) (wrap64 (-(wrap64 (a1)))))))))) else (some false)) else (some false)) else (some false)) else (some false)) else (some false))) = some r := H
    have A5 := Aside0.mk A50
    clear A50
    replace H := Option.bind_eq_some_iff.mp H
    obtain ⟨⟨t133, t134⟩, A60, H⟩ := H
    replace H : (if t132 = true then (if t134 = true then (if t131 = t133 then (if t131 ≥ (mx (wrap64 (a0)) (wrap64 (-(wrap64 (a0))))) then (if t131 ≥ (mx (wrap64 (a1)) (wrap64 (-(wrap64 (a1))))) then (some (decide (t131 ≤ (wrap64 ((mx (wrap64 (a0)) (wrap64 (-(wrap64 (a0))))) + (mx (wrap64 (a1)) (wrap64 (-(wrap64 (a1)))))))))) else (some false)) else (some false)) else (some false)) else (some false)) else (some false)) = some r := H
    have A6 := Aside0.mk A60
    clear A60
    obtain ⟨ji7, hji7⟩ : ∃ j_ : Int, (mx (wrap64 (a0)) (wrap64 (-(wrap64 (a0))))) = j_ := ⟨_, rfl⟩
    replace H : (if t132 = true then (if t134 = true then (if t131 = t133 then (if t131 ≥ (ji7) then (if t131 ≥ (mx (wrap64 (a1)) (wrap64 (-(wrap64 (a1))))) then (some (decide (t131 ≤ (wrap64 ((ji7) + (mx (wrap64 (a1)) (wrap64 (-(wrap64 (a1)))))))))) else (some false)) else (some false)) else (some false)) else (some false)) else (some false)) = some r := by first | (rw [hji7] at H; exact H) | (simp only [hji7] at H ⊢; exact H)
    (try rw [hji7] at A3)
    (try rw [hji7] at A5)
    (try rw [hji7] at A6)
    have hji7_ : (if (wrap64 (a0)) < (wrap64 (-(wrap64 (a0)))) then (wrap64 (-(wrap64 (a0)))) else (wrap64 (a0))) = ji7 := hji7
    obtain ⟨ji8, hji8⟩ : ∃ j_ : Int, (mx (wrap64 (a1)) (wrap64 (-(wrap64 (a1))))) = j_ := ⟨_, rfl⟩
    replace H : (if t132 = true then (if t134 = true then (if t131 = t133 then (if t131 ≥ (ji7) then (if t131 ≥ (ji8) then (some (decide (t131 ≤ (wrap64 ((ji7) + (ji8)))))) else (some false)) else (some false)) else (some false)) else (some false)) else (some false)) = some r := by first | (rw [hji8] at H; exact H) | (simp only [hji8] at H ⊢; exact H)
    (try rw [hji8] at A3)
    (try rw [hji8] at A5)
    (try rw [hji8] at A6)
    have hji8_ : (if (wrap64 (a1)) < (wrap64 (-(wrap64 (a1)))) then (wrap64 (-(wrap64 (a1)))) else (wrap64 (a1))) = ji8 := hji8
    by_cases c9 : t132 = true
    · subst c9
      have H1 : (if t134 = true then (if t131 = t133 then (if t131 ≥ (ji7) then (if t131 ≥ (ji8) then (some (decide (t131 ≤ (wrap64 ((ji7) + (ji8)))))) else (some false)) else (some false)) else (some false)) else (some false)) = some r := by rw [if_pos rfl] at H; exact H
      clear H
      have H := H1
      clear H1
      by_cases c10 : t134 = true
      · subst c10
        have H1 : (if t131 = t133 then (if t131 ≥ (ji7) then (if t131 ≥ (ji8) then (some (decide (t131 ≤ (wrap64 ((ji7) + (ji8)))))) else (some false)) else (some false)) else (some false)) = some r := by rw [if_pos rfl] at H; exact H
        clear H
        have H := H1
        clear H1
        by_cases c11 : t131 = t133
        · rw [if_pos c11] at H
          have c11b0 : (t131 == t133) = true := beq_iff_eq.mpr c11
          have c11b1 : (t131 != t133) = false := bne_eq_false_iff_eq.mpr c11
          clear c11
          by_cases c12 : t131 ≥ (ji7)
          · rw [if_pos c12] at H
            have c12b0 : decide ((ji7) ≤ t131) = true := decide_eq_true c12
            clear c12
            by_cases c13 : t131 ≥ (ji8)
            · rw [if_pos c13] at H
              have c13b0 : decide ((ji8) ≤ t131) = true := decide_eq_true c13
              clear c13
              obtain rfl := Option.some.inj H
              go_enter Try.func9, Try.ntmps9
              go_wp2_with (first | ((with_reducible refine gate_callee (f := 24) rfl ?_); refine goesL_ (some 13) rfl rfl Try.func24 (by kernel_rfl) rfl #[] rfl (by (try simp only [List.map_toArray, List.map_cons, List.map_nil]); first | done | rfl | (simp only [List.length_drop, List.length_take]; rfl)) ?_; (with_reducible refine (leadlinelaw2_known.calls k  true _ A3.out).mono ?_); rintro e w' ⟨rfl, ⟨nd, rfl⟩⟩; refine ⟨_, rfl, ?_⟩) | ((with_reducible refine gate_callee (f := 26) rfl ?_); refine goesL_ (some 22) rfl rfl Try.func26 (by kernel_rfl) rfl #[.int .i64 (wrap64 (a0)), .int .i64 (wrap64 (a1))] rfl (by (try simp only [List.map_toArray, List.map_cons, List.map_nil]); first | done | rfl | (simp only [List.length_drop, List.length_take]; rfl)) ?_; (with_reducible refine (fx_Hypot.calls k (wrap64 (a0)) (wrap64 (a1)) t131 true _ A5.out).mono ?_); rintro e w' ⟨rfl, ⟨nd, rfl⟩⟩; refine ⟨_, rfl, ?_⟩) | ((with_reducible refine gate_callee (f := 26) rfl ?_); refine goesL_ (some 29) rfl rfl Try.func26 (by kernel_rfl) rfl #[.int .i64 (wrap64 (-(wrap64 (a1)))), .int .i64 (wrap64 (a0))] rfl (by (try simp only [List.map_toArray, List.map_cons, List.map_nil]); first | done | rfl | (simp only [List.length_drop, List.length_take]; rfl)) ?_; (with_reducible refine (fx_Hypot.calls k (wrap64 (-(wrap64 (a1)))) (wrap64 (a0)) t133 true _ A6.out).mono ?_); rintro e w' ⟨rfl, ⟨nd, rfl⟩⟩; refine ⟨_, rfl, ?_⟩))
              go_ret
              exact ⟨by first | rfl | (simp [errW_none, errW_some] <;> rfl) | (simp only [← hji7, ← hji8]; first | rfl | (simp [errW_none, errW_some] <;> rfl)) | (simp [*, errW_none, errW_some] <;> rfl), by repeat (first | (with_reducible first | exact HB.out | apply below_alloc | apply pw_below_drewN | apply below_drew1) | exact HB.out)⟩
            · rw [if_neg c13] at H
              have c13b0 : decide ((ji8) ≤ t131) = false := decide_eq_false c13
              clear c13
              obtain rfl := Option.some.inj H
              go_enter Try.func9, Try.ntmps9
              go_wp2_with (first | ((with_reducible refine gate_callee (f := 24) rfl ?_); refine goesL_ (some 13) rfl rfl Try.func24 (by kernel_rfl) rfl #[] rfl (by (try simp only [List.map_toArray, List.map_cons, List.map_nil]); first | done | rfl | (simp only [List.length_drop, List.length_take]; rfl)) ?_; (with_reducible refine (leadlinelaw2_known.calls k  true _ A3.out).mono ?_); rintro e w' ⟨rfl, ⟨nd, rfl⟩⟩; refine ⟨_, rfl, ?_⟩) | ((with_reducible refine gate_callee (f := 26) rfl ?_); refine goesL_ (some 22) rfl rfl Try.func26 (by kernel_rfl) rfl #[.int .i64 (wrap64 (a0)), .int .i64 (wrap64 (a1))] rfl (by (try simp only [List.map_toArray, List.map_cons, List.map_nil]); first | done | rfl | (simp only [List.length_drop, List.length_take]; rfl)) ?_; (with_reducible refine (fx_Hypot.calls k (wrap64 (a0)) (wrap64 (a1)) t131 true _ A5.out).mono ?_); rintro e w' ⟨rfl, ⟨nd, rfl⟩⟩; refine ⟨_, rfl, ?_⟩) | ((with_reducible refine gate_callee (f := 26) rfl ?_); refine goesL_ (some 29) rfl rfl Try.func26 (by kernel_rfl) rfl #[.int .i64 (wrap64 (-(wrap64 (a1)))), .int .i64 (wrap64 (a0))] rfl (by (try simp only [List.map_toArray, List.map_cons, List.map_nil]); first | done | rfl | (simp only [List.length_drop, List.length_take]; rfl)) ?_; (with_reducible refine (fx_Hypot.calls k (wrap64 (-(wrap64 (a1)))) (wrap64 (a0)) t133 true _ A6.out).mono ?_); rintro e w' ⟨rfl, ⟨nd, rfl⟩⟩; refine ⟨_, rfl, ?_⟩))
              go_ret
              exact ⟨by first | rfl | (simp [errW_none, errW_some] <;> rfl) | (simp only [← hji7, ← hji8]; first | rfl | (simp [errW_none, errW_some] <;> rfl)) | (simp [*, errW_none, errW_some] <;> rfl), by repeat (first | (with_reducible first | exact HB.out | apply below_alloc | apply pw_below_drewN | apply below_drew1) | exact HB.out)⟩
          · rw [if_neg c12] at H
            have c12b0 : decide ((ji7) ≤ t131) = false := decide_eq_false c12
            clear c12
            obtain rfl := Option.some.inj H
            go_enter Try.func9, Try.ntmps9
            go_wp2_with (first | ((with_reducible refine gate_callee (f := 24) rfl ?_); refine goesL_ (some 13) rfl rfl Try.func24 (by kernel_rfl) rfl #[] rfl (by (try simp only [List.map_toArray, List.map_cons, List.map_nil]); first | done | rfl | (simp only [List.length_drop, List.length_take]; rfl)) ?_; (with_reducible refine (leadlinelaw2_known.calls k  true _ A3.out).mono ?_); rintro e w' ⟨rfl, ⟨nd, rfl⟩⟩; refine ⟨_, rfl, ?_⟩) | ((with_reducible refine gate_callee (f := 26) rfl ?_); refine goesL_ (some 22) rfl rfl Try.func26 (by kernel_rfl) rfl #[.int .i64 (wrap64 (a0)), .int .i64 (wrap64 (a1))] rfl (by (try simp only [List.map_toArray, List.map_cons, List.map_nil]); first | done | rfl | (simp only [List.length_drop, List.length_take]; rfl)) ?_; (with_reducible refine (fx_Hypot.calls k (wrap64 (a0)) (wrap64 (a1)) t131 true _ A5.out).mono ?_); rintro e w' ⟨rfl, ⟨nd, rfl⟩⟩; refine ⟨_, rfl, ?_⟩) | ((with_reducible refine gate_callee (f := 26) rfl ?_); refine goesL_ (some 29) rfl rfl Try.func26 (by kernel_rfl) rfl #[.int .i64 (wrap64 (-(wrap64 (a1)))), .int .i64 (wrap64 (a0))] rfl (by (try simp only [List.map_toArray, List.map_cons, List.map_nil]); first | done | rfl | (simp only [List.length_drop, List.length_take]; rfl)) ?_; (with_reducible refine (fx_Hypot.calls k (wrap64 (-(wrap64 (a1)))) (wrap64 (a0)) t133 true _ A6.out).mono ?_); rintro e w' ⟨rfl, ⟨nd, rfl⟩⟩; refine ⟨_, rfl, ?_⟩))
            go_ret
            exact ⟨by first | rfl | (simp [errW_none, errW_some] <;> rfl) | (simp only [← hji7, ← hji8]; first | rfl | (simp [errW_none, errW_some] <;> rfl)) | (simp [*, errW_none, errW_some] <;> rfl), by repeat (first | (with_reducible first | exact HB.out | apply below_alloc | apply pw_below_drewN | apply below_drew1) | exact HB.out)⟩
        · rw [if_neg c11] at H
          have c11b0 : (t131 == t133) = false := beq_eq_false_iff_ne.mpr c11
          have c11b1 : (t131 != t133) = true := bne_iff_ne.mpr c11
          obtain rfl := Option.some.inj H
          go_enter Try.func9, Try.ntmps9
          go_wp2_with (first | ((with_reducible refine gate_callee (f := 24) rfl ?_); refine goesL_ (some 13) rfl rfl Try.func24 (by kernel_rfl) rfl #[] rfl (by (try simp only [List.map_toArray, List.map_cons, List.map_nil]); first | done | rfl | (simp only [List.length_drop, List.length_take]; rfl)) ?_; (with_reducible refine (leadlinelaw2_known.calls k  true _ A3.out).mono ?_); rintro e w' ⟨rfl, ⟨nd, rfl⟩⟩; refine ⟨_, rfl, ?_⟩) | ((with_reducible refine gate_callee (f := 26) rfl ?_); refine goesL_ (some 22) rfl rfl Try.func26 (by kernel_rfl) rfl #[.int .i64 (wrap64 (a0)), .int .i64 (wrap64 (a1))] rfl (by (try simp only [List.map_toArray, List.map_cons, List.map_nil]); first | done | rfl | (simp only [List.length_drop, List.length_take]; rfl)) ?_; (with_reducible refine (fx_Hypot.calls k (wrap64 (a0)) (wrap64 (a1)) t131 true _ A5.out).mono ?_); rintro e w' ⟨rfl, ⟨nd, rfl⟩⟩; refine ⟨_, rfl, ?_⟩) | ((with_reducible refine gate_callee (f := 26) rfl ?_); refine goesL_ (some 29) rfl rfl Try.func26 (by kernel_rfl) rfl #[.int .i64 (wrap64 (-(wrap64 (a1)))), .int .i64 (wrap64 (a0))] rfl (by (try simp only [List.map_toArray, List.map_cons, List.map_nil]); first | done | rfl | (simp only [List.length_drop, List.length_take]; rfl)) ?_; (with_reducible refine (fx_Hypot.calls k (wrap64 (-(wrap64 (a1)))) (wrap64 (a0)) t133 true _ A6.out).mono ?_); rintro e w' ⟨rfl, ⟨nd, rfl⟩⟩; refine ⟨_, rfl, ?_⟩))
          go_ret
          exact ⟨by first | rfl | (simp [errW_none, errW_some] <;> rfl) | (simp only [← hji7, ← hji8]; first | rfl | (simp [errW_none, errW_some] <;> rfl)) | (simp [*, errW_none, errW_some] <;> rfl), by repeat (first | (with_reducible first | exact HB.out | apply below_alloc | apply pw_below_drewN | apply below_drew1) | exact HB.out)⟩
      · replace c10 := Bool.eq_false_iff.mpr c10
        subst c10
        have H1 : (some false) = some r := by rw [if_neg (show ¬ (false = true) by decide)] at H; exact H
        clear H
        have H := H1
        clear H1
        obtain rfl := Option.some.inj H
        go_enter Try.func9, Try.ntmps9
        go_wp2_with (first | ((with_reducible refine gate_callee (f := 24) rfl ?_); refine goesL_ (some 13) rfl rfl Try.func24 (by kernel_rfl) rfl #[] rfl (by (try simp only [List.map_toArray, List.map_cons, List.map_nil]); first | done | rfl | (simp only [List.length_drop, List.length_take]; rfl)) ?_; (with_reducible refine (leadlinelaw2_known.calls k  true _ A3.out).mono ?_); rintro e w' ⟨rfl, ⟨nd, rfl⟩⟩; refine ⟨_, rfl, ?_⟩) | ((with_reducible refine gate_callee (f := 26) rfl ?_); refine goesL_ (some 22) rfl rfl Try.func26 (by kernel_rfl) rfl #[.int .i64 (wrap64 (a0)), .int .i64 (wrap64 (a1))] rfl (by (try simp only [List.map_toArray, List.map_cons, List.map_nil]); first | done | rfl | (simp only [List.length_drop, List.length_take]; rfl)) ?_; (with_reducible refine (fx_Hypot.calls k (wrap64 (a0)) (wrap64 (a1)) t131 true _ A5.out).mono ?_); rintro e w' ⟨rfl, ⟨nd, rfl⟩⟩; refine ⟨_, rfl, ?_⟩) | ((with_reducible refine gate_callee (f := 26) rfl ?_); refine goesL_ (some 29) rfl rfl Try.func26 (by kernel_rfl) rfl #[.int .i64 (wrap64 (-(wrap64 (a1)))), .int .i64 (wrap64 (a0))] rfl (by (try simp only [List.map_toArray, List.map_cons, List.map_nil]); first | done | rfl | (simp only [List.length_drop, List.length_take]; rfl)) ?_; (with_reducible refine (fx_Hypot.calls k (wrap64 (-(wrap64 (a1)))) (wrap64 (a0)) t133 false _ A6.out).mono ?_); rintro e w' ⟨rfl, ⟨nd, rfl⟩⟩; refine ⟨_, rfl, ?_⟩))
        go_ret
        exact ⟨by first | rfl | (simp [errW_none, errW_some] <;> rfl) | (simp only [← hji7, ← hji8]; first | rfl | (simp [errW_none, errW_some] <;> rfl)) | (simp [*, errW_none, errW_some] <;> rfl), by repeat (first | (with_reducible first | exact HB.out | apply below_alloc | apply pw_below_drewN | apply below_drew1) | exact HB.out)⟩
    · replace c9 := Bool.eq_false_iff.mpr c9
      subst c9
      have H1 : (some false) = some r := by rw [if_neg (show ¬ (false = true) by decide)] at H; exact H
      clear H
      have H := H1
      clear H1
      obtain rfl := Option.some.inj H
      go_enter Try.func9, Try.ntmps9
      go_wp2_with (first | ((with_reducible refine gate_callee (f := 24) rfl ?_); refine goesL_ (some 13) rfl rfl Try.func24 (by kernel_rfl) rfl #[] rfl (by (try simp only [List.map_toArray, List.map_cons, List.map_nil]); first | done | rfl | (simp only [List.length_drop, List.length_take]; rfl)) ?_; (with_reducible refine (leadlinelaw2_known.calls k  true _ A3.out).mono ?_); rintro e w' ⟨rfl, ⟨nd, rfl⟩⟩; refine ⟨_, rfl, ?_⟩) | ((with_reducible refine gate_callee (f := 26) rfl ?_); refine goesL_ (some 22) rfl rfl Try.func26 (by kernel_rfl) rfl #[.int .i64 (wrap64 (a0)), .int .i64 (wrap64 (a1))] rfl (by (try simp only [List.map_toArray, List.map_cons, List.map_nil]); first | done | rfl | (simp only [List.length_drop, List.length_take]; rfl)) ?_; (with_reducible refine (fx_Hypot.calls k (wrap64 (a0)) (wrap64 (a1)) t131 false _ A5.out).mono ?_); rintro e w' ⟨rfl, ⟨nd, rfl⟩⟩; refine ⟨_, rfl, ?_⟩) | ((with_reducible refine gate_callee (f := 26) rfl ?_); refine goesL_ (some 29) rfl rfl Try.func26 (by kernel_rfl) rfl #[.int .i64 (wrap64 (-(wrap64 (a1)))), .int .i64 (wrap64 (a0))] rfl (by (try simp only [List.map_toArray, List.map_cons, List.map_nil]); first | done | rfl | (simp only [List.length_drop, List.length_take]; rfl)) ?_; (with_reducible refine (fx_Hypot.calls k (wrap64 (-(wrap64 (a1)))) (wrap64 (a0)) t133 t134 _ A6.out).mono ?_); rintro e w' ⟨rfl, ⟨nd, rfl⟩⟩; refine ⟨_, rfl, ?_⟩))
      go_ret
      exact ⟨by first | rfl | (simp [errW_none, errW_some] <;> rfl) | (simp only [← hji7, ← hji8]; first | rfl | (simp [errW_none, errW_some] <;> rfl)) | (simp [*, errW_none, errW_some] <;> rfl), by repeat (first | (with_reducible first | exact HB.out | apply below_alloc | apply pw_below_drewN | apply below_drew1) | exact HB.out)⟩
  · replace c4 := Bool.eq_false_iff.mpr c4
    subst c4
    have H1 : (some false) = some r := by rw [if_neg (show ¬ (false = true) by decide)] at H; exact H
    clear H
    have H := H1
    clear H1
    obtain rfl := Option.some.inj H
    go_enter Try.func9, Try.ntmps9
    go_wp2_with (first | ((with_reducible refine gate_callee (f := 24) rfl ?_); refine goesL_ (some 13) rfl rfl Try.func24 (by kernel_rfl) rfl #[] rfl (by (try simp only [List.map_toArray, List.map_cons, List.map_nil]); first | done | rfl | (simp only [List.length_drop, List.length_take]; rfl)) ?_; (with_reducible refine (leadlinelaw2_known.calls k  false _ A3.out).mono ?_); rintro e w' ⟨rfl, ⟨nd, rfl⟩⟩; refine ⟨_, rfl, ?_⟩))
    go_ret
    exact ⟨by first | rfl | (simp [errW_none, errW_some] <;> rfl) | (simp [*, errW_none, errW_some] <;> rfl), by repeat (first | (with_reducible first | exact HB.out | apply below_alloc | apply pw_below_drewN | apply below_drew1) | exact HB.out)⟩

/-- THE ONE PURE STATEMENT of leadlinelaw2_FxSides: yours. -/
def leadlinelaw2_FxSides.Pure : Prop := ∀ (a0 : Int) (a1 : Int), (Lit.int .i32 a0).wf = true → (Lit.int .i32 a1).wf = true → ∃ k, leadlinelaw2_FxSides.f k a0 a1 = some true
theorem leadlinelaw2_FxSides.walk (P : leadlinelaw2_FxSides.Pure) (a0 : Int) (a1 : Int) (w : World) (w0 : (Lit.int .i32 a0).wf = true) (w1 : (Lit.int .i32 a1).wf = true) :
    Calls Try.prog 9 #[.int .i32 a0, .int .i32 a1] w fun e w' => e = .returned (.bool true) ∧ Below w.heap.size w w' := by
  obtain ⟨k, h⟩ := P a0 a1 w0 w1
  refine (leadlinelaw2_FxSides.calls k a0 a1 true w h).mono ?_
  rintro e w' ⟨rfl, hd⟩
  exact ⟨rfl, hd⟩

/-! ### leadlinelaw2_near: function 32 -/
def leadlinelaw2_near.f (a0 : Int) (a1 : Int) : Option (Int) := if (Int.tmod a1 6) = 0 then (some a0) else (if (Int.tmod a1 6) = 1 then (some (wrap64 (9223372036854775807 - (Go.bits .and .i64 a0 7)))) else (if (Int.tmod a1 6) = 2 then (some (wrap64 ((-9223372036854775808) + (Go.bits .and .i64 a0 7)))) else (if (Int.tmod a1 6) = 3 then (some (a0 / 4294967296)) else (if (Int.tmod a1 6) = 4 then (some (Go.bits .and .i64 a0 15)) else (some (wrap64 (-(Go.bits .and .i64 a0 15))))))))
set_option maxHeartbeats 8000000 in
set_option maxRecDepth 100000 in
theorem leadlinelaw2_near.calls (a0 : Int) (a1 : Int) (r : Int) (w : World) (h : leadlinelaw2_near.f a0 a1 = some r) :
    Calls Try.prog 32 #[.int .i64 a0, .int .u8 a1] w fun e w' => e = .returned (.int .i64 r) ∧ Drawn0 w w' := by
  have H : (if (Int.tmod a1 6) = 0 then (some a0) else (if (Int.tmod a1 6) = 1 then (some (wrap64 (9223372036854775807 - (Go.bits .and .i64 a0 7)))) else (if (Int.tmod a1 6) = 2 then (some (wrap64 ((-9223372036854775808) + (Go.bits .and .i64 a0 7)))) else (if (Int.tmod a1 6) = 3 then (some (a0 / 4294967296)) else (if (Int.tmod a1 6) = 4 then (some (Go.bits .and .i64 a0 15)) else (some (wrap64 (-(Go.bits .and .i64 a0 15))))))))) = some r := h
  clear h
  by_cases c3 : (Int.tmod a1 6) = 0
  · rw [if_pos c3] at H
    have c3b0 : ((Int.tmod a1 6) == 0) = true := beq_iff_eq.mpr c3
    have c3b1 : ((Int.tmod a1 6) != 0) = false := bne_eq_false_iff_eq.mpr c3
    clear c3
    obtain rfl := Option.some.inj H
    go_enter Try.func32, Try.ntmps32
    go_wp2
    go_ret
    exact ⟨by first | rfl | (simp; done) | (simp [*]; done) | (simp [nb1_, nb2_]; done), by repeat (first | exact Drawn0.refl _ | apply Drawn0.step)⟩
  · rw [if_neg c3] at H
    have c3b0 : ((Int.tmod a1 6) == 0) = false := beq_eq_false_iff_ne.mpr c3
    have c3b1 : ((Int.tmod a1 6) != 0) = true := bne_iff_ne.mpr c3
    by_cases c4 : (Int.tmod a1 6) = 1
    · rw [if_pos c4] at H
      have c4b0 : ((Int.tmod a1 6) == 1) = true := beq_iff_eq.mpr c4
      have c4b1 : ((Int.tmod a1 6) != 1) = false := bne_eq_false_iff_eq.mpr c4
      clear c4
      obtain rfl := Option.some.inj H
      go_enter Try.func32, Try.ntmps32
      go_wp2
      go_ret
      exact ⟨by first | rfl | (simp; done) | (simp [*]; done) | (simp [nb1_, nb2_]; done), by repeat (first | exact Drawn0.refl _ | apply Drawn0.step)⟩
    · rw [if_neg c4] at H
      have c4b0 : ((Int.tmod a1 6) == 1) = false := beq_eq_false_iff_ne.mpr c4
      have c4b1 : ((Int.tmod a1 6) != 1) = true := bne_iff_ne.mpr c4
      by_cases c5 : (Int.tmod a1 6) = 2
      · rw [if_pos c5] at H
        have c5b0 : ((Int.tmod a1 6) == 2) = true := beq_iff_eq.mpr c5
        have c5b1 : ((Int.tmod a1 6) != 2) = false := bne_eq_false_iff_eq.mpr c5
        clear c5
        obtain rfl := Option.some.inj H
        go_enter Try.func32, Try.ntmps32
        go_wp2
        go_ret
        exact ⟨by first | rfl | (simp; done) | (simp [*]; done) | (simp [nb1_, nb2_]; done), by repeat (first | exact Drawn0.refl _ | apply Drawn0.step)⟩
      · rw [if_neg c5] at H
        have c5b0 : ((Int.tmod a1 6) == 2) = false := beq_eq_false_iff_ne.mpr c5
        have c5b1 : ((Int.tmod a1 6) != 2) = true := bne_iff_ne.mpr c5
        by_cases c6 : (Int.tmod a1 6) = 3
        · rw [if_pos c6] at H
          have c6b0 : ((Int.tmod a1 6) == 3) = true := beq_iff_eq.mpr c6
          have c6b1 : ((Int.tmod a1 6) != 3) = false := bne_eq_false_iff_eq.mpr c6
          clear c6
          obtain rfl := Option.some.inj H
          go_enter Try.func32, Try.ntmps32
          go_wp2
          go_ret
          exact ⟨by first | rfl | (simp; done) | (simp [*]; done) | (simp [nb1_, nb2_]; done), by repeat (first | exact Drawn0.refl _ | apply Drawn0.step)⟩
        · rw [if_neg c6] at H
          have c6b0 : ((Int.tmod a1 6) == 3) = false := beq_eq_false_iff_ne.mpr c6
          have c6b1 : ((Int.tmod a1 6) != 3) = true := bne_iff_ne.mpr c6
          by_cases c7 : (Int.tmod a1 6) = 4
          · rw [if_pos c7] at H
            have c7b0 : ((Int.tmod a1 6) == 4) = true := beq_iff_eq.mpr c7
            have c7b1 : ((Int.tmod a1 6) != 4) = false := bne_eq_false_iff_eq.mpr c7
            clear c7
            obtain rfl := Option.some.inj H
            go_enter Try.func32, Try.ntmps32
            go_wp2
            go_ret
            exact ⟨by first | rfl | (simp; done) | (simp [*]; done) | (simp [nb1_, nb2_]; done), by repeat (first | exact Drawn0.refl _ | apply Drawn0.step)⟩
          · rw [if_neg c7] at H
            have c7b0 : ((Int.tmod a1 6) == 4) = false := beq_eq_false_iff_ne.mpr c7
            have c7b1 : ((Int.tmod a1 6) != 4) = true := bne_iff_ne.mpr c7
            obtain rfl := Option.some.inj H
            go_enter Try.func32, Try.ntmps32
            go_wp2
            go_ret
            exact ⟨by first | rfl | (simp; done) | (simp [*]; done) | (simp [nb1_, nb2_]; done), by repeat (first | exact Drawn0.refl _ | apply Drawn0.step)⟩

/-! ### fx_Sub: function 37 -/
def fx_Sub.f (a0 : Int) (a1 : Int) : Option (Int × Bool) := if ((decide (a0 < 0)) != (decide (a1 < 0))) = true then (if ((decide ((wrap64 (a0 - a1)) < 0)) != (decide (a0 < 0))) = true then (some (0, false)) else (some (wrap64 (a0 - a1), true))) else (some (wrap64 (a0 - a1), true))
set_option maxHeartbeats 8000000 in
set_option maxRecDepth 100000 in
theorem fx_Sub.calls (a0 : Int) (a1 : Int) (r1 : Int) (r2 : Bool) (w : World) (h : fx_Sub.f a0 a1 = some (r1, r2)) :
    Calls Try.prog 37 #[.int .i64 a0, .int .i64 a1] w fun e w' => e = .returned (.tuple #[.int .i64 r1, .bool r2]) ∧ Drawn0 w w' := by
  have H : (if ((decide (a0 < 0)) != (decide (a1 < 0))) = true then (if ((decide ((wrap64 (a0 - a1)) < 0)) != (decide (a0 < 0))) = true then (some (0, false)) else (some (wrap64 (a0 - a1), true))) else (some (wrap64 (a0 - a1), true))) = some (r1, r2) := h
  clear h
  by_cases c3 : ((decide (a0 < 0)) != (decide (a1 < 0))) = true
  · rw [if_pos c3] at H
    have c3b0 : ((decide (a0 < 0)) != (decide (a1 < 0))) = true := c3
    (try (have c3b1 : decide ((decide (a0 < 0)) = (decide (a1 < 0))) = false := by simpa using c3))
    (try (have c3b2 : ((decide (a0 < 0)) == (decide (a1 < 0))) = false := by simpa using c3))
    (try (have c3b3 : ¬ ((decide (a0 < 0)) = (decide (a1 < 0))) := by simpa using c3))
    clear c3
    by_cases c4 : ((decide ((wrap64 (a0 - a1)) < 0)) != (decide (a0 < 0))) = true
    · rw [if_pos c4] at H
      have c4b0 : ((decide ((wrap64 (a0 - a1)) < 0)) != (decide (a0 < 0))) = true := c4
      (try (have c4b1 : decide ((decide ((wrap64 (a0 - a1)) < 0)) = (decide (a0 < 0))) = false := by simpa using c4))
      (try (have c4b2 : ((decide ((wrap64 (a0 - a1)) < 0)) == (decide (a0 < 0))) = false := by simpa using c4))
      (try (have c4b3 : ¬ ((decide ((wrap64 (a0 - a1)) < 0)) = (decide (a0 < 0))) := by simpa using c4))
      clear c4
      simp only [Option.some.injEq, Prod.mk.injEq] at H
      obtain ⟨rfl, rfl⟩ := H
      go_enter Try.func37, Try.ntmps37
      go_wp2
      go_ret2
      exact ⟨by first | rfl | (simp; done) | (simp [*]; done) | (simp [nb1_, nb2_]; done), by repeat (first | exact Drawn0.refl _ | apply Drawn0.step)⟩
    · rw [if_neg c4] at H
      have c4b0 : ((decide ((wrap64 (a0 - a1)) < 0)) != (decide (a0 < 0))) = false := by simpa using c4
      (try (have c4b1 : decide ((decide ((wrap64 (a0 - a1)) < 0)) = (decide (a0 < 0))) = true := by simpa using c4))
      (try (have c4b2 : ((decide ((wrap64 (a0 - a1)) < 0)) == (decide (a0 < 0))) = true := by simpa using c4))
      clear c4
      simp only [Option.some.injEq, Prod.mk.injEq] at H
      obtain ⟨rfl, rfl⟩ := H
      go_enter Try.func37, Try.ntmps37
      go_wp2
      go_ret2
      exact ⟨by first | rfl | (simp; done) | (simp [*]; done) | (simp [nb1_, nb2_]; done), by repeat (first | exact Drawn0.refl _ | apply Drawn0.step)⟩
  · rw [if_neg c3] at H
    have c3b0 : ((decide (a0 < 0)) != (decide (a1 < 0))) = false := by simpa using c3
    (try (have c3b1 : decide ((decide (a0 < 0)) = (decide (a1 < 0))) = true := by simpa using c3))
    (try (have c3b2 : ((decide (a0 < 0)) == (decide (a1 < 0))) = true := by simpa using c3))
    clear c3
    simp only [Option.some.injEq, Prod.mk.injEq] at H
    obtain ⟨rfl, rfl⟩ := H
    go_enter Try.func37, Try.ntmps37
    go_wp2
    go_ret2
    exact ⟨by first | rfl | (simp; done) | (simp [*]; done) | (simp [nb1_, nb2_]; done), by repeat (first | exact Drawn0.refl _ | apply Drawn0.step)⟩

/-! ### fx_Mul: function 38 -/
def fx_Mul.f (k : Nat) (a0 : Int) (a1 : Int) : Option (Int × Bool) := (fx_size.f a0).bind fun t135 => ((fx_size.f a1).bind fun t136 => ((bits_Mul64.f t135 t136).bind fun bt137 => (if bt137.1 = 0 then ((fx_signed.f k bt137.2 ((decide (a0 < 0)) != (decide (a1 < 0)))).bind fun bt139 => (some (bt139.1, bt139.2))) else (some (0, false)))))
theorem fx_Mul.mono : ∀ a0 a1 k, LeO (fx_Mul.f k a0 a1) (fx_Mul.f (k + 1) a0 a1) := by
  intro a0 a1 k
  unfold fx_Mul.f
  repeat' first
      | (with_reducible exact fx_signed.mono _ _ _)
      | (with_reducible exact LeO.refl _)
      | (with_reducible exact LeO.none _)
      | (with_reducible refine LeO.ite ?_ ?_)
      | (with_reducible refine LeO.bind ?_ (fun _ => ?_))
      | exact fx_signed.mono _ _ _
      | exact LeO.none _
      | refine LeO.ite ?_ ?_
      | refine LeO.bind ?_ (fun _ => ?_)
set_option maxHeartbeats 8000000 in
set_option maxRecDepth 100000 in
theorem fx_Mul.calls (k : Nat) (a0 : Int) (a1 : Int) (r1 : Int) (r2 : Bool) (w : World) (h : fx_Mul.f k a0 a1 = some (r1, r2)) :
    Calls Try.prog 38 #[.int .i64 a0, .int .i64 a1] w fun e w' => e = .returned (.tuple #[.int .i64 r1, .bool r2]) ∧ Drawn0 w w' := by
  have H : ((fx_size.f a0).bind fun t135 => ((fx_size.f a1).bind fun t136 => ((bits_Mul64.f t135 t136).bind fun bt137 => (if bt137.1 = 0 then ((fx_signed.f k bt137.2 ((decide (a0 < 0)) != (decide (a1 < 0)))).bind fun bt139 => (some (bt139.1, bt139.2))) else (some (0, false)))))) = some (r1, r2) := h
  clear h
  replace H := Option.bind_eq_some_iff.mp H
  obtain ⟨t135, A30, H⟩ := H
  replace H : ((fx_size.f a1).bind fun t136 => ((bits_Mul64.f t135 t136).bind fun bt137 => (if bt137.1 = 0 then ((fx_signed.f k bt137.2 ((decide (a0 < 0)) != (decide (a1 < 0)))).bind fun bt139 => (some (bt139.1, bt139.2))) else (some (0, false))))) = some (r1, r2) := H
  have A3 := Aside0.mk A30
  clear A30
  replace H := Option.bind_eq_some_iff.mp H
  obtain ⟨t136, A40, H⟩ := H
  replace H : ((bits_Mul64.f t135 t136).bind fun bt137 => (if bt137.1 = 0 then ((fx_signed.f k bt137.2 ((decide (a0 < 0)) != (decide (a1 < 0)))).bind fun bt139 => (some (bt139.1, bt139.2))) else (some (0, false)))) = some (r1, r2) := H
  have A4 := Aside0.mk A40
  clear A40
  replace H := Option.bind_eq_some_iff.mp H
  obtain ⟨⟨t137, t138⟩, A50, H⟩ := H
  replace H : (if t137 = 0 then ((fx_signed.f k t138 ((decide (a0 < 0)) != (decide (a1 < 0)))).bind fun bt139 => (some (bt139.1, bt139.2))) else (some (0, false))) = some (r1, r2) := H
  have A5 := Aside0.mk A50
  clear A50
  by_cases c6 : t137 = 0
  · rw [if_pos c6] at H
    have c6b0 : (t137 == 0) = true := beq_iff_eq.mpr c6
    have c6b1 : (t137 != 0) = false := bne_eq_false_iff_eq.mpr c6
    clear c6
    replace H := Option.bind_eq_some_iff.mp H
    obtain ⟨⟨t139, t140⟩, A70, H⟩ := H
    replace H : (some (t139, t140)) = some (r1, r2) := H
    have A7 := Aside0.mk A70
    clear A70
    simp only [Option.some.injEq, Prod.mk.injEq] at H
    obtain ⟨rfl, rfl⟩ := H
    go_enter Try.func38, Try.ntmps38
    go_wp2_with (first | ((with_reducible refine gate_callee (f := 52) rfl ?_); refine goesL_ (some 10) rfl rfl Try.func52 (by kernel_rfl) rfl #[.int .i64 a0] rfl (by (try simp only [List.map_toArray, List.map_cons, List.map_nil]); first | done | rfl | (simp only [List.length_drop, List.length_take]; rfl)) ?_; (with_reducible refine (fx_size.calls a0 t135 _ A3.out).mono ?_); rintro e w' ⟨rfl, ⟨nd, rfl⟩⟩; refine ⟨_, rfl, ?_⟩) | ((with_reducible refine gate_callee (f := 52) rfl ?_); refine goesL_ (some 12) rfl rfl Try.func52 (by kernel_rfl) rfl #[.int .i64 a1] rfl (by (try simp only [List.map_toArray, List.map_cons, List.map_nil]); first | done | rfl | (simp only [List.length_drop, List.length_take]; rfl)) ?_; (with_reducible refine (fx_size.calls a1 t136 _ A4.out).mono ?_); rintro e w' ⟨rfl, ⟨nd, rfl⟩⟩; refine ⟨_, rfl, ?_⟩) | ((with_reducible refine gate_callee (f := 51) rfl ?_); refine goesL_ (some 13) rfl rfl Try.func51 (by kernel_rfl) rfl #[.int .u64 t135, .int .u64 t136] rfl (by (try simp only [List.map_toArray, List.map_cons, List.map_nil]); first | done | rfl | (simp only [List.length_drop, List.length_take]; rfl)) ?_; (with_reducible refine (bits_Mul64.calls t135 t136 t137 t138 _ A5.out).mono ?_); rintro e w' ⟨rfl, ⟨nd, rfl⟩⟩; refine ⟨_, rfl, ?_⟩) | ((with_reducible refine gate_callee (f := 54) rfl ?_); refine goesL_ (some 24) rfl rfl Try.func54 (by kernel_rfl) rfl #[.int .u64 t138, .bool ((decide (a0 < 0)) != (decide (a1 < 0)))] rfl (by (try simp only [List.map_toArray, List.map_cons, List.map_nil]); first | done | rfl | (simp only [List.length_drop, List.length_take]; rfl)) ?_; (with_reducible refine (fx_signed.calls k t138 ((decide (a0 < 0)) != (decide (a1 < 0))) t139 t140 _ A7.out).mono ?_); rintro e w' ⟨rfl, ⟨nd, rfl⟩⟩; refine ⟨_, rfl, ?_⟩))
    go_ret2
    exact ⟨by first | rfl | (simp; done) | (simp [*]; done) | (simp [nb1_, nb2_]; done), by repeat (first | exact Drawn0.refl _ | apply Drawn0.step)⟩
  · rw [if_neg c6] at H
    have c6b0 : (t137 == 0) = false := beq_eq_false_iff_ne.mpr c6
    have c6b1 : (t137 != 0) = true := bne_iff_ne.mpr c6
    simp only [Option.some.injEq, Prod.mk.injEq] at H
    obtain ⟨rfl, rfl⟩ := H
    go_enter Try.func38, Try.ntmps38
    go_wp2_with (first | ((with_reducible refine gate_callee (f := 52) rfl ?_); refine goesL_ (some 10) rfl rfl Try.func52 (by kernel_rfl) rfl #[.int .i64 a0] rfl (by (try simp only [List.map_toArray, List.map_cons, List.map_nil]); first | done | rfl | (simp only [List.length_drop, List.length_take]; rfl)) ?_; (with_reducible refine (fx_size.calls a0 t135 _ A3.out).mono ?_); rintro e w' ⟨rfl, ⟨nd, rfl⟩⟩; refine ⟨_, rfl, ?_⟩) | ((with_reducible refine gate_callee (f := 52) rfl ?_); refine goesL_ (some 12) rfl rfl Try.func52 (by kernel_rfl) rfl #[.int .i64 a1] rfl (by (try simp only [List.map_toArray, List.map_cons, List.map_nil]); first | done | rfl | (simp only [List.length_drop, List.length_take]; rfl)) ?_; (with_reducible refine (fx_size.calls a1 t136 _ A4.out).mono ?_); rintro e w' ⟨rfl, ⟨nd, rfl⟩⟩; refine ⟨_, rfl, ?_⟩) | ((with_reducible refine gate_callee (f := 51) rfl ?_); refine goesL_ (some 13) rfl rfl Try.func51 (by kernel_rfl) rfl #[.int .u64 t135, .int .u64 t136] rfl (by (try simp only [List.map_toArray, List.map_cons, List.map_nil]); first | done | rfl | (simp only [List.length_drop, List.length_take]; rfl)) ?_; (with_reducible refine (bits_Mul64.calls t135 t136 t137 t138 _ A5.out).mono ?_); rintro e w' ⟨rfl, ⟨nd, rfl⟩⟩; refine ⟨_, rfl, ?_⟩))
    go_ret2
    exact ⟨by first | rfl | (simp; done) | (simp [*]; done) | (simp [nb1_, nb2_]; done), by repeat (first | exact Drawn0.refl _ | apply Drawn0.step)⟩

/-! ### leadlinelaw2_FxBack: function 13 -/
mutual
def leadlinelaw2_FxBack.j0 : Nat → Int → Int → Option (Bool)
  | 0, _, _ => none
  | k + 1, x9, x10 => if x10 > 0 then ((fx_MulDiv.f k x9 x10 x10).bind fun bt148 => (if bt148.2 = true then (leadlinelaw2_FxBack.j1 k x9 x10 (bt148.1 != x9)) else (leadlinelaw2_FxBack.j1 k x9 x10 true))) else ((fx_Mul.f k x9 x10).bind fun bt154 => ((fx_MulDiv.f k x9 x10 1).bind fun bt156 => (if (bt154.2 == bt156.2) = true then (some (bt154.1 == bt156.1)) else (some false))))
def leadlinelaw2_FxBack.j1 : Nat → Int → Int → Bool → Option (Bool)
  | 0, _, _, _ => none
  | k + 1, x9, x10, x64 => if x64 = true then (some false) else ((fx_Mul.f k x9 x10).bind fun bt150 => ((fx_MulDiv.f k x9 x10 1).bind fun bt152 => (if (bt150.2 == bt152.2) = true then (some (bt150.1 == bt152.1)) else (some false))))
end
def leadlinelaw2_FxBack.f (k : Nat) (a0 : Int) (a1 : Int) (a2 : Int) (a3 : Int) : Option (Bool) := (leadlinelaw2_known.f k).bind fun t141 => (if t141 = true then ((leadlinelaw2_near.f a0 a2).bind fun t142 => ((leadlinelaw2_near.f a1 a3).bind fun t143 => ((fx_Add.f t142 t143).bind fun bt144 => (if bt144.2 = true then ((fx_Sub.f bt144.1 t143).bind fun bt146 => (if bt146.2 = true then (if bt146.1 = t142 then (leadlinelaw2_FxBack.j0 k t142 t143) else (some false)) else (some false))) else (leadlinelaw2_FxBack.j0 k t142 t143))))) else (some false))
theorem leadlinelaw2_FxBack.mono_l : ∀ k, (∀ y0 y1, LeO (leadlinelaw2_FxBack.j0 k y0 y1) (leadlinelaw2_FxBack.j0 (k + 1) y0 y1)) ∧ (∀ y0 y1 y2, LeO (leadlinelaw2_FxBack.j1 k y0 y1 y2) (leadlinelaw2_FxBack.j1 (k + 1) y0 y1 y2))
  | 0 => ⟨fun _ _ r h => by simp [leadlinelaw2_FxBack.j0] at h, fun _ _ _ r h => by simp [leadlinelaw2_FxBack.j1] at h⟩
  | k + 1 => by
    obtain ⟨ih0, ih1⟩ := leadlinelaw2_FxBack.mono_l k
    refine ⟨?_, ?_⟩
    · intro y0 y1
      unfold leadlinelaw2_FxBack.j0
      repeat' first
      | (with_reducible exact ih0 _ _)
      | (with_reducible exact ih1 _ _ _)
      | (with_reducible exact fx_Mul.mono _ _ _)
      | (with_reducible exact fx_MulDiv.mono _ _ _ _)
      | (with_reducible exact leadlinelaw2_known.mono _)
      | (with_reducible exact LeO.refl _)
      | (with_reducible exact LeO.none _)
      | (with_reducible refine LeO.ite ?_ ?_)
      | (with_reducible refine LeO.bind ?_ (fun _ => ?_))
      | exact ih0 _ _
      | exact ih1 _ _ _
      | exact fx_Mul.mono _ _ _
      | exact fx_MulDiv.mono _ _ _ _
      | exact leadlinelaw2_known.mono _
      | exact LeO.none _
      | refine LeO.ite ?_ ?_
      | refine LeO.bind ?_ (fun _ => ?_)
    · intro y0 y1 y2
      unfold leadlinelaw2_FxBack.j1
      repeat' first
      | (with_reducible exact ih0 _ _)
      | (with_reducible exact ih1 _ _ _)
      | (with_reducible exact fx_Mul.mono _ _ _)
      | (with_reducible exact fx_MulDiv.mono _ _ _ _)
      | (with_reducible exact leadlinelaw2_known.mono _)
      | (with_reducible exact LeO.refl _)
      | (with_reducible exact LeO.none _)
      | (with_reducible refine LeO.ite ?_ ?_)
      | (with_reducible refine LeO.bind ?_ (fun _ => ?_))
      | exact ih0 _ _
      | exact ih1 _ _ _
      | exact fx_Mul.mono _ _ _
      | exact fx_MulDiv.mono _ _ _ _
      | exact leadlinelaw2_known.mono _
      | exact LeO.none _
      | refine LeO.ite ?_ ?_
      | refine LeO.bind ?_ (fun _ => ?_)
theorem leadlinelaw2_FxBack.mono : ∀ a0 a1 a2 a3 k, LeO (leadlinelaw2_FxBack.f k a0 a1 a2 a3) (leadlinelaw2_FxBack.f (k + 1) a0 a1 a2 a3) := by
  intro a0 a1 a2 a3 k
  obtain ⟨ih0, ih1⟩ := leadlinelaw2_FxBack.mono_l k
  unfold leadlinelaw2_FxBack.f
  repeat' first
      | (with_reducible exact ih0 _ _)
      | (with_reducible exact ih1 _ _ _)
      | (with_reducible exact fx_Mul.mono _ _ _)
      | (with_reducible exact fx_MulDiv.mono _ _ _ _)
      | (with_reducible exact leadlinelaw2_known.mono _)
      | (with_reducible exact LeO.refl _)
      | (with_reducible exact LeO.none _)
      | (with_reducible refine LeO.ite ?_ ?_)
      | (with_reducible refine LeO.bind ?_ (fun _ => ?_))
      | exact ih0 _ _
      | exact ih1 _ _ _
      | exact fx_Mul.mono _ _ _
      | exact fx_MulDiv.mono _ _ _ _
      | exact leadlinelaw2_known.mono _
      | exact LeO.none _
      | refine LeO.ite ?_ ?_
      | refine LeO.bind ?_ (fun _ => ?_)
set_option maxHeartbeats 8000000 in
set_option maxRecDepth 100000 in
theorem leadlinelaw2_FxBack.calls (k : Nat) (a0 : Int) (a1 : Int) (a2 : Int) (a3 : Int) (r : Bool) (w : World) (h : leadlinelaw2_FxBack.f k a0 a1 a2 a3 = some r) :
    Calls Try.prog 13 #[.int .i64 a0, .int .i64 a1, .int .u8 a2, .int .u8 a3] w fun e w' => e = .returned (.bool r) ∧ Drawn0 w w' := by
  have H : ((leadlinelaw2_known.f k).bind fun t141 => (if t141 = true then ((leadlinelaw2_near.f a0 a2).bind fun t142 => ((leadlinelaw2_near.f a1 a3).bind fun t143 => ((fx_Add.f t142 t143).bind fun bt144 => (if bt144.2 = true then ((fx_Sub.f bt144.1 t143).bind fun bt146 => (if bt146.2 = true then (if bt146.1 = t142 then (leadlinelaw2_FxBack.j0 k t142 t143) else (some false)) else (some false))) else (leadlinelaw2_FxBack.j0 k t142 t143))))) else (some false))) = some r := h
  clear h
  replace H := Option.bind_eq_some_iff.mp H
  obtain ⟨t141, A50, H⟩ := H
  replace H : (if t141 = true then ((leadlinelaw2_near.f a0 a2).bind fun t142 => ((leadlinelaw2_near.f a1 a3).bind fun t143 => ((fx_Add.f t142 t143).bind fun bt144 => (if bt144.2 = true then ((fx_Sub.f bt144.1 t143).bind fun bt146 => (if bt146.2 = true then (if bt146.1 = t142 then (leadlinelaw2_FxBack.j0 k t142 t143) else (some false)) else (some false))) else (leadlinelaw2_FxBack.j0 k t142 t143))))) else (some false)) = some r := H
  have A5 := Aside0.mk A50
  clear A50
  by_cases c6 : t141 = true
  · subst c6
    have H1 : ((leadlinelaw2_near.f a0 a2).bind fun t142 => ((leadlinelaw2_near.f a1 a3).bind fun t143 => ((fx_Add.f t142 t143).bind fun bt144 => (if bt144.2 = true then ((fx_Sub.f bt144.1 t143).bind fun bt146 => (if bt146.2 = true then (if bt146.1 = t142 then (leadlinelaw2_FxBack.j0 k t142 t143) else (some false)) else (some false))) else (leadlinelaw2_FxBack.j0 k t142 t143))))) = some r := by rw [if_pos rfl] at H; exact H
    clear H
    have H := H1
    clear H1
    replace H := Option.bind_eq_some_iff.mp H
    obtain ⟨t142, A70, H⟩ := H
    replace H : ((leadlinelaw2_near.f a1 a3).bind fun t143 => ((fx_Add.f t142 t143).bind fun bt144 => (if bt144.2 = true then ((fx_Sub.f bt144.1 t143).bind fun bt146 => (if bt146.2 = true then (if bt146.1 = t142 then (leadlinelaw2_FxBack.j0 k t142 t143) else (some false)) else (some false))) else (leadlinelaw2_FxBack.j0 k t142 t143)))) = some r := H
    have A7 := Aside0.mk A70
    clear A70
    replace H := Option.bind_eq_some_iff.mp H
    obtain ⟨t143, A80, H⟩ := H
    replace H : ((fx_Add.f t142 t143).bind fun bt144 => (if bt144.2 = true then ((fx_Sub.f bt144.1 t143).bind fun bt146 => (if bt146.2 = true then (if bt146.1 = t142 then (leadlinelaw2_FxBack.j0 k t142 t143) else (some false)) else (some false))) else (leadlinelaw2_FxBack.j0 k t142 t143))) = some r := H
    have A8 := Aside0.mk A80
    clear A80
    replace H := Option.bind_eq_some_iff.mp H
    obtain ⟨⟨t144, t145⟩, A90, H⟩ := H
    replace H : (if t145 = true then ((fx_Sub.f t144 t143).bind fun bt146 => (if bt146.2 = true then (if bt146.1 = t142 then (leadlinelaw2_FxBack.j0 k t142 t143) else (some false)) else (some false))) else (leadlinelaw2_FxBack.j0 k t142 t143)) = some r := H
    have A9 := Aside0.mk A90
    clear A90
    have HC10 := Aside0.mk H
    clear H
    go_enter Try.func13, Try.ntmps13
    go_upto_if 35 with (first | ((with_reducible refine gate_callee (f := 24) rfl ?_); refine goesL_ (some 21) rfl rfl Try.func24 (by kernel_rfl) rfl #[] rfl (by (try simp only [List.map_toArray, List.map_cons, List.map_nil]); first | done | rfl | (simp only [List.length_drop, List.length_take]; rfl)) ?_; (with_reducible refine (leadlinelaw2_known.calls k  true _ A5.out).mono ?_); rintro e w' ⟨rfl, ⟨nd, rfl⟩⟩; refine ⟨_, rfl, ?_⟩) | ((with_reducible refine gate_callee (f := 32) rfl ?_); refine goesL_ (some 25) rfl rfl Try.func32 (by kernel_rfl) rfl #[.int .i64 a0, .int .u8 a2] rfl (by (try simp only [List.map_toArray, List.map_cons, List.map_nil]); first | done | rfl | (simp only [List.length_drop, List.length_take]; rfl)) ?_; (with_reducible refine (leadlinelaw2_near.calls a0 a2 t142 _ A7.out).mono ?_); rintro e w' ⟨rfl, ⟨nd, rfl⟩⟩; refine ⟨_, rfl, ?_⟩) | ((with_reducible refine gate_callee (f := 32) rfl ?_); refine goesL_ (some 28) rfl rfl Try.func32 (by kernel_rfl) rfl #[.int .i64 a1, .int .u8 a3] rfl (by (try simp only [List.map_toArray, List.map_cons, List.map_nil]); first | done | rfl | (simp only [List.length_drop, List.length_take]; rfl)) ?_; (with_reducible refine (leadlinelaw2_near.calls a1 a3 t143 _ A8.out).mono ?_); rintro e w' ⟨rfl, ⟨nd, rfl⟩⟩; refine ⟨_, rfl, ?_⟩) | ((with_reducible refine gate_callee (f := 36) rfl ?_); refine goesL_ (some 32) rfl rfl Try.func36 (by kernel_rfl) rfl #[.int .i64 t142, .int .i64 t143] rfl (by (try simp only [List.map_toArray, List.map_cons, List.map_nil]); first | done | rfl | (simp only [List.length_drop, List.length_take]; rfl)) ?_; (with_reducible refine (fx_Add.calls t142 t143 t144 t145 _ A9.out).mono ?_); rintro e w' ⟨rfl, ⟨nd, rfl⟩⟩; refine ⟨_, rfl, ?_⟩))
    (try simp only [Act.put, List.setIfInBounds_toArray, List.set_cons_zero, List.set_cons_succ])
    go_cut [] (fun wc => ∃ (kq : Nat), Aside0 (leadlinelaw2_FxBack.j0 kq t142 t143 = some r) ∧ Aside0 (kq ≤ k) ∧ Drawn0 w wc)
    case first =>
      have H := HC10.out
      clear HC10
      by_cases c11 : t145 = true
      · subst c11
        have H1 : ((fx_Sub.f t144 t143).bind fun bt146 => (if bt146.2 = true then (if bt146.1 = t142 then (leadlinelaw2_FxBack.j0 k t142 t143) else (some false)) else (some false))) = some r := by rw [if_pos rfl] at H; exact H
        clear H
        have H := H1
        clear H1
        replace H := Option.bind_eq_some_iff.mp H
        obtain ⟨⟨t146, t147⟩, A120, H⟩ := H
        replace H : (if t147 = true then (if t146 = t142 then (leadlinelaw2_FxBack.j0 k t142 t143) else (some false)) else (some false)) = some r := H
        have A12 := Aside0.mk A120
        clear A120
        by_cases c13 : t147 = true
        · subst c13
          have H1 : (if t146 = t142 then (leadlinelaw2_FxBack.j0 k t142 t143) else (some false)) = some r := by rw [if_pos rfl] at H; exact H
          clear H
          have H := H1
          clear H1
          by_cases c14 : t146 = t142
          · rw [if_pos c14] at H
            have c14b0 : (t146 == t142) = true := beq_iff_eq.mpr c14
            have c14b1 : (t146 != t142) = false := bne_eq_false_iff_eq.mpr c14
            clear c14
            (first | rw [c14b0] | (simp only [i64_w, i32_w]; rw [c14b0]) | skip)
            have H' := Aside0.mk H
            clear H
            go_wp2_with (first | ((with_reducible refine gate_callee (f := 37) rfl ?_); refine goesL_ (some 39) rfl rfl Try.func37 (by kernel_rfl) rfl #[.int .i64 t144, .int .i64 t143] rfl (by (try simp only [List.map_toArray, List.map_cons, List.map_nil]); first | done | rfl | (simp only [List.length_drop, List.length_take]; rfl)) ?_; (with_reducible refine (fx_Sub.calls t144 t143 t146 true _ A12.out).mono ?_); rintro e w' ⟨rfl, ⟨nd, rfl⟩⟩; refine ⟨_, rfl, ?_⟩))
            go_meet
            case rel => exact ⟨_, H', ⟨by first | omega | exact Nat.le_refl _⟩, by repeat (first | exact Drawn0.refl _ | apply Drawn0.step)⟩
          · rw [if_neg c14] at H
            have c14b0 : (t146 == t142) = false := beq_eq_false_iff_ne.mpr c14
            have c14b1 : (t146 != t142) = true := bne_iff_ne.mpr c14
            (first | rw [c14b0] | (simp only [i64_w, i32_w]; rw [c14b0]) | skip)
            obtain rfl := Option.some.inj H
            go_wp2_with (first | ((with_reducible refine gate_callee (f := 37) rfl ?_); refine goesL_ (some 39) rfl rfl Try.func37 (by kernel_rfl) rfl #[.int .i64 t144, .int .i64 t143] rfl (by (try simp only [List.map_toArray, List.map_cons, List.map_nil]); first | done | rfl | (simp only [List.length_drop, List.length_take]; rfl)) ?_; (with_reducible refine (fx_Sub.calls t144 t143 t146 true _ A12.out).mono ?_); rintro e w' ⟨rfl, ⟨nd, rfl⟩⟩; refine ⟨_, rfl, ?_⟩))
            go_ret
            exact ⟨by first | rfl | (simp; done) | (simp [*]; done) | (simp [nb1_, nb2_]; done), by repeat (first | exact Drawn0.refl _ | apply Drawn0.step)⟩
        · replace c13 := Bool.eq_false_iff.mpr c13
          subst c13
          have H1 : (some false) = some r := by rw [if_neg (show ¬ (false = true) by decide)] at H; exact H
          clear H
          have H := H1
          clear H1
          obtain rfl := Option.some.inj H
          go_wp2_with (first | ((with_reducible refine gate_callee (f := 37) rfl ?_); refine goesL_ (some 39) rfl rfl Try.func37 (by kernel_rfl) rfl #[.int .i64 t144, .int .i64 t143] rfl (by (try simp only [List.map_toArray, List.map_cons, List.map_nil]); first | done | rfl | (simp only [List.length_drop, List.length_take]; rfl)) ?_; (with_reducible refine (fx_Sub.calls t144 t143 t146 false _ A12.out).mono ?_); rintro e w' ⟨rfl, ⟨nd, rfl⟩⟩; refine ⟨_, rfl, ?_⟩))
          go_ret
          exact ⟨by first | rfl | (simp; done) | (simp [*]; done) | (simp [nb1_, nb2_]; done), by repeat (first | exact Drawn0.refl _ | apply Drawn0.step)⟩
      · replace c11 := Bool.eq_false_iff.mpr c11
        subst c11
        have H1 : (leadlinelaw2_FxBack.j0 k t142 t143) = some r := by rw [if_neg (show ¬ (false = true) by decide)] at H; exact H
        clear H
        have H := H1
        clear H1
        have H' := Aside0.mk H
        clear H
        go_wp2
        go_meet
        case rel => exact ⟨_, H', ⟨by first | omega | exact Nat.le_refl _⟩, by repeat (first | exact Drawn0.refl _ | apply Drawn0.step)⟩
    case rest =>
      clear HC10
      try clear c1
      try clear c2
      try clear p2
      try clear c3
      try clear c6
      try clear c11
      try clear c13
      try clear c14
      try clear c14b0
      try clear c14b1
      obtain ⟨kq, HA, HJ9, ⟨mc9, rfl⟩⟩ := hcut
      cases kq with
      | zero => exact absurd HA.out (by simp [leadlinelaw2_FxBack.j0])
      | succ kj9 =>
        have H := HA.out
        clear HA
        simp only [leadlinelaw2_FxBack.j0] at H
        by_cases c15 : t143 > 0
        · rw [if_pos c15] at H
          have c15b0 : decide (0 < t143) = true := decide_eq_true c15
          clear c15
          replace H := Option.bind_eq_some_iff.mp H
          obtain ⟨⟨t148, t149⟩, A160, H⟩ := H
          replace H : (if t149 = true then (leadlinelaw2_FxBack.j1 kj9 t142 t143 (t148 != t142)) else (leadlinelaw2_FxBack.j1 kj9 t142 t143 true)) = some r := H
          have A16 := Aside0.mk A160
          clear A160
          have HC17 := Aside0.mk H
          clear H
          go_upto_region 11 with (first | ((with_reducible refine gate_callee (f := 25) rfl ?_); refine goesL_ (some 55) rfl rfl Try.func25 (by kernel_rfl) rfl #[.int .i64 t142, .int .i64 t143, .int .i64 t143] rfl (by (try simp only [List.map_toArray, List.map_cons, List.map_nil]); first | done | rfl | (simp only [List.length_drop, List.length_take]; rfl)) ?_; (with_reducible refine (fx_MulDiv.calls kj9 t142 t143 t143 t148 t149 _ A16.out).mono ?_); rintro e w' ⟨rfl, ⟨nd, rfl⟩⟩; refine ⟨_, rfl, ?_⟩))
          (try simp only [Act.put, List.setIfInBounds_toArray, List.set_cons_zero, List.set_cons_succ])
          go_cut [64] (fun v64 wc => ∃ (kq : Nat) (x64_16 : Bool), v64 = .bool x64_16 ∧ Aside0 (leadlinelaw2_FxBack.j1 kq t142 t143 x64_16 = some r) ∧ Aside0 (kq ≤ kj9) ∧ Drawn0 w wc)
          case first =>
            have H := HC17.out
            clear HC17
            by_cases c18 : t149 = true
            · subst c18
              have H1 : (leadlinelaw2_FxBack.j1 kj9 t142 t143 (t148 != t142)) = some r := by rw [if_pos rfl] at H; exact H
              clear H
              have H := H1
              clear H1
              have H' := Aside0.mk H
              clear H
              go_wp2
              go_meet
              case rel => exact ⟨_, ((t148 != t142)), (by first | rfl | (simp; done) | (simp [*]; done) | (simp [nb1_, nb2_]; done)), H', ⟨by have := HJ9.out; first | omega | exact Nat.le_refl _⟩, by repeat (first | exact Drawn0.refl _ | apply Drawn0.step)⟩
            · replace c18 := Bool.eq_false_iff.mpr c18
              subst c18
              have H1 : (leadlinelaw2_FxBack.j1 kj9 t142 t143 true) = some r := by rw [if_neg (show ¬ (false = true) by decide)] at H; exact H
              clear H
              have H := H1
              clear H1
              have H' := Aside0.mk H
              clear H
              go_wp2
              go_meet
              case rel => exact ⟨_, (true), (by first | rfl | (simp; done) | (simp [*]; done) | (simp [nb1_, nb2_]; done)), H', ⟨by have := HJ9.out; first | omega | exact Nat.le_refl _⟩, by repeat (first | exact Drawn0.refl _ | apply Drawn0.step)⟩
          case rest =>
            clear HC17
            try clear c1
            try clear c2
            try clear p2
            try clear c3
            try clear c6
            try clear c9
            try clear c11
            try clear c13
            try clear c14
            try clear c14b0
            try clear c14b1
            try clear c15
            try clear c15b0
            try clear c18
            try clear p2
            obtain ⟨kq, x64_16, rfl, HA, HJ16, ⟨mc16, rfl⟩⟩ := hcut
            cases kq with
            | zero => exact absurd HA.out (by simp [leadlinelaw2_FxBack.j1])
            | succ kj16 =>
              have H := HA.out
              clear HA
              simp only [leadlinelaw2_FxBack.j1] at H
              by_cases c19 : x64_16 = true
              · subst c19
                have H1 : (some false) = some r := by rw [if_pos rfl] at H; exact H
                clear H
                have H := H1
                clear H1
                obtain rfl := Option.some.inj H
                go_wp2
                go_ret
                exact ⟨by first | rfl | (simp; done) | (simp [*]; done) | (simp [nb1_, nb2_]; done), by repeat (first | exact Drawn0.refl _ | apply Drawn0.step)⟩
              · replace c19 := Bool.eq_false_iff.mpr c19
                subst c19
                have H1 : ((fx_Mul.f kj16 t142 t143).bind fun bt150 => ((fx_MulDiv.f kj16 t142 t143 1).bind fun bt152 => (if (bt150.2 == bt152.2) = true then (some (bt150.1 == bt152.1)) else (some false)))) = some r := by rw [if_neg (show ¬ (false = true) by decide)] at H; exact H
                clear H
                have H := H1
                clear H1
                replace H := Option.bind_eq_some_iff.mp H
                obtain ⟨⟨t150, t151⟩, A200, H⟩ := H
                replace H : ((fx_MulDiv.f kj16 t142 t143 1).bind fun bt152 => (if (t151 == bt152.2) = true then (some (t150 == bt152.1)) else (some false))) = some r := H
                have A20 := Aside0.mk A200
                clear A200
                replace H := Option.bind_eq_some_iff.mp H
                obtain ⟨⟨t152, t153⟩, A210, H⟩ := H
                replace H : (if (t151 == t153) = true then (some (t150 == t152)) else (some false)) = some r := H
                have A21 := Aside0.mk A210
                clear A210
                by_cases c22 : (t151 == t153) = true
                · rw [if_pos c22] at H
                  have c22b0 : (t151 == t153) = true := c22
                  (try (have c22b1 : decide (t151 = t153) = true := by simpa using c22))
                  (try (have c22b2 : (t151 == t153) = true := by simpa using c22))
                  clear c22
                  obtain rfl := Option.some.inj H
                  go_wp2_with (first | ((with_reducible refine gate_callee (f := 38) rfl ?_); refine goesL_ (some 68) rfl rfl Try.func38 (by kernel_rfl) rfl #[.int .i64 t142, .int .i64 t143] rfl (by (try simp only [List.map_toArray, List.map_cons, List.map_nil]); first | done | rfl | (simp only [List.length_drop, List.length_take]; rfl)) ?_; (with_reducible refine (fx_Mul.calls kj16 t142 t143 t150 t151 _ A20.out).mono ?_); rintro e w' ⟨rfl, ⟨nd, rfl⟩⟩; refine ⟨_, rfl, ?_⟩) | ((with_reducible refine gate_callee (f := 25) rfl ?_); refine goesL_ (some 74) rfl rfl Try.func25 (by kernel_rfl) rfl #[.int .i64 t142, .int .i64 t143, .int .i64 1] rfl (by (try simp only [List.map_toArray, List.map_cons, List.map_nil]); first | done | rfl | (simp only [List.length_drop, List.length_take]; rfl)) ?_; (with_reducible refine (fx_MulDiv.calls kj16 t142 t143 1 t152 t153 _ A21.out).mono ?_); rintro e w' ⟨rfl, ⟨nd, rfl⟩⟩; refine ⟨_, rfl, ?_⟩))
                  go_ret
                  exact ⟨by first | rfl | (simp; done) | (simp [*]; done) | (simp [nb1_, nb2_]; done), by repeat (first | exact Drawn0.refl _ | apply Drawn0.step)⟩
                · rw [if_neg c22] at H
                  have c22b0 : (t151 == t153) = false := by simpa using c22
                  (try (have c22b1 : decide (t151 = t153) = false := by simpa using c22))
                  (try (have c22b2 : (t151 == t153) = false := by simpa using c22))
                  (try (have c22b3 : ¬ (t151 = t153) := by simpa using c22))
                  clear c22
                  obtain rfl := Option.some.inj H
                  go_wp2_with (first | ((with_reducible refine gate_callee (f := 38) rfl ?_); refine goesL_ (some 68) rfl rfl Try.func38 (by kernel_rfl) rfl #[.int .i64 t142, .int .i64 t143] rfl (by (try simp only [List.map_toArray, List.map_cons, List.map_nil]); first | done | rfl | (simp only [List.length_drop, List.length_take]; rfl)) ?_; (with_reducible refine (fx_Mul.calls kj16 t142 t143 t150 t151 _ A20.out).mono ?_); rintro e w' ⟨rfl, ⟨nd, rfl⟩⟩; refine ⟨_, rfl, ?_⟩) | ((with_reducible refine gate_callee (f := 25) rfl ?_); refine goesL_ (some 74) rfl rfl Try.func25 (by kernel_rfl) rfl #[.int .i64 t142, .int .i64 t143, .int .i64 1] rfl (by (try simp only [List.map_toArray, List.map_cons, List.map_nil]); first | done | rfl | (simp only [List.length_drop, List.length_take]; rfl)) ?_; (with_reducible refine (fx_MulDiv.calls kj16 t142 t143 1 t152 t153 _ A21.out).mono ?_); rintro e w' ⟨rfl, ⟨nd, rfl⟩⟩; refine ⟨_, rfl, ?_⟩))
                  go_ret
                  exact ⟨by first | rfl | (simp; done) | (simp [*]; done) | (simp [nb1_, nb2_]; done), by repeat (first | exact Drawn0.refl _ | apply Drawn0.step)⟩
        · rw [if_neg c15] at H
          have c15b0 : decide (0 < t143) = false := decide_eq_false c15
          clear c15
          replace H := Option.bind_eq_some_iff.mp H
          obtain ⟨⟨t154, t155⟩, A230, H⟩ := H
          replace H : ((fx_MulDiv.f kj9 t142 t143 1).bind fun bt156 => (if (t155 == bt156.2) = true then (some (t154 == bt156.1)) else (some false))) = some r := H
          have A23 := Aside0.mk A230
          clear A230
          replace H := Option.bind_eq_some_iff.mp H
          obtain ⟨⟨t156, t157⟩, A240, H⟩ := H
          replace H : (if (t155 == t157) = true then (some (t154 == t156)) else (some false)) = some r := H
          have A24 := Aside0.mk A240
          clear A240
          by_cases c25 : (t155 == t157) = true
          · rw [if_pos c25] at H
            have c25b0 : (t155 == t157) = true := c25
            (try (have c25b1 : decide (t155 = t157) = true := by simpa using c25))
            (try (have c25b2 : (t155 == t157) = true := by simpa using c25))
            clear c25
            obtain rfl := Option.some.inj H
            go_wp2_with (first | ((with_reducible refine gate_callee (f := 38) rfl ?_); refine goesL_ (some 68) rfl rfl Try.func38 (by kernel_rfl) rfl #[.int .i64 t142, .int .i64 t143] rfl (by (try simp only [List.map_toArray, List.map_cons, List.map_nil]); first | done | rfl | (simp only [List.length_drop, List.length_take]; rfl)) ?_; (with_reducible refine (fx_Mul.calls kj9 t142 t143 t154 t155 _ A23.out).mono ?_); rintro e w' ⟨rfl, ⟨nd, rfl⟩⟩; refine ⟨_, rfl, ?_⟩) | ((with_reducible refine gate_callee (f := 25) rfl ?_); refine goesL_ (some 74) rfl rfl Try.func25 (by kernel_rfl) rfl #[.int .i64 t142, .int .i64 t143, .int .i64 1] rfl (by (try simp only [List.map_toArray, List.map_cons, List.map_nil]); first | done | rfl | (simp only [List.length_drop, List.length_take]; rfl)) ?_; (with_reducible refine (fx_MulDiv.calls kj9 t142 t143 1 t156 t157 _ A24.out).mono ?_); rintro e w' ⟨rfl, ⟨nd, rfl⟩⟩; refine ⟨_, rfl, ?_⟩))
            go_ret
            exact ⟨by first | rfl | (simp; done) | (simp [*]; done) | (simp [nb1_, nb2_]; done), by repeat (first | exact Drawn0.refl _ | apply Drawn0.step)⟩
          · rw [if_neg c25] at H
            have c25b0 : (t155 == t157) = false := by simpa using c25
            (try (have c25b1 : decide (t155 = t157) = false := by simpa using c25))
            (try (have c25b2 : (t155 == t157) = false := by simpa using c25))
            (try (have c25b3 : ¬ (t155 = t157) := by simpa using c25))
            clear c25
            obtain rfl := Option.some.inj H
            go_wp2_with (first | ((with_reducible refine gate_callee (f := 38) rfl ?_); refine goesL_ (some 68) rfl rfl Try.func38 (by kernel_rfl) rfl #[.int .i64 t142, .int .i64 t143] rfl (by (try simp only [List.map_toArray, List.map_cons, List.map_nil]); first | done | rfl | (simp only [List.length_drop, List.length_take]; rfl)) ?_; (with_reducible refine (fx_Mul.calls kj9 t142 t143 t154 t155 _ A23.out).mono ?_); rintro e w' ⟨rfl, ⟨nd, rfl⟩⟩; refine ⟨_, rfl, ?_⟩) | ((with_reducible refine gate_callee (f := 25) rfl ?_); refine goesL_ (some 74) rfl rfl Try.func25 (by kernel_rfl) rfl #[.int .i64 t142, .int .i64 t143, .int .i64 1] rfl (by (try simp only [List.map_toArray, List.map_cons, List.map_nil]); first | done | rfl | (simp only [List.length_drop, List.length_take]; rfl)) ?_; (with_reducible refine (fx_MulDiv.calls kj9 t142 t143 1 t156 t157 _ A24.out).mono ?_); rintro e w' ⟨rfl, ⟨nd, rfl⟩⟩; refine ⟨_, rfl, ?_⟩))
            go_ret
            exact ⟨by first | rfl | (simp; done) | (simp [*]; done) | (simp [nb1_, nb2_]; done), by repeat (first | exact Drawn0.refl _ | apply Drawn0.step)⟩
  · replace c6 := Bool.eq_false_iff.mpr c6
    subst c6
    have H1 : (some false) = some r := by rw [if_neg (show ¬ (false = true) by decide)] at H; exact H
    clear H
    have H := H1
    clear H1
    obtain rfl := Option.some.inj H
    go_enter Try.func13, Try.ntmps13
    go_wp2_with (first | ((with_reducible refine gate_callee (f := 24) rfl ?_); refine goesL_ (some 21) rfl rfl Try.func24 (by kernel_rfl) rfl #[] rfl (by (try simp only [List.map_toArray, List.map_cons, List.map_nil]); first | done | rfl | (simp only [List.length_drop, List.length_take]; rfl)) ?_; (with_reducible refine (leadlinelaw2_known.calls k  false _ A5.out).mono ?_); rintro e w' ⟨rfl, ⟨nd, rfl⟩⟩; refine ⟨_, rfl, ?_⟩))
    go_ret
    exact ⟨by first | rfl | (simp; done) | (simp [*]; done) | (simp [nb1_, nb2_]; done), by repeat (first | exact Drawn0.refl _ | apply Drawn0.step)⟩

/-- THE ONE PURE STATEMENT of leadlinelaw2_FxBack: yours. -/
def leadlinelaw2_FxBack.Pure : Prop := ∀ (a0 : Int) (a1 : Int) (a2 : Int) (a3 : Int), (Lit.int .i64 a0).wf = true → (Lit.int .i64 a1).wf = true → (Lit.int .u8 a2).wf = true → (Lit.int .u8 a3).wf = true → ∃ k, leadlinelaw2_FxBack.f k a0 a1 a2 a3 = some true
theorem leadlinelaw2_FxBack.walk (P : leadlinelaw2_FxBack.Pure) (a0 : Int) (a1 : Int) (a2 : Int) (a3 : Int) (w : World) (w0 : (Lit.int .i64 a0).wf = true) (w1 : (Lit.int .i64 a1).wf = true) (w2 : (Lit.int .u8 a2).wf = true) (w3 : (Lit.int .u8 a3).wf = true) :
    Calls Try.prog 13 #[.int .i64 a0, .int .i64 a1, .int .u8 a2, .int .u8 a3] w fun e w' => e = .returned (.bool true) ∧ Below w.heap.size w w' := by
  obtain ⟨k, h⟩ := P a0 a1 a2 a3 w0 w1 w2 w3
  refine (leadlinelaw2_FxBack.calls k a0 a1 a2 a3 true w h).mono ?_
  rintro e w' ⟨rfl, hd⟩
  exact ⟨rfl, hd.below⟩

/-! ### leadlineref1_made: function 55 -/
def leadlineref1_made.f (a0 : Bool) (l1 : List Int) : Option (Bool × List Int) := if a0 = true then (some (decide (0 < l1.length), l1)) else (some (false, l1))
set_option maxHeartbeats 8000000 in
set_option maxRecDepth 100000 in
theorem leadlineref1_made.calls (a0 : Bool) (P1_ : Nat → Prop) (A1 : Option Addr) (c1 : Nat) (l1 : List Int) (r1 : Bool) (r2 : List Int) (w : World) (hs1 : Kd.V (Kd.int .u64) 42 w w.heap.size (fun k_ => P1_ k_) (.slice A1 l1.length c1) l1) (h : leadlineref1_made.f a0 l1 = some (r1, r2)) :
    Calls Try.prog 55 #[.bool a0, .slice A1 l1.length c1] w fun e w' => ∃ v1_ : Value, e = .returned (.agg #[.bool r1, v1_]) ∧ Kd.V (Kd.int .u64) 42 w' w.heap.size (fun k_ => (P1_ k_ ∨ w.heap.size ≤ k_)) v1_ r2 ∧ Below w.heap.size w w' := by
  have hu46 := Try.underlying46
  have HO1 := Aside0.mk (show Kd.V (Kd.int .u64) 42 w w.heap.size (fun k_ => (P1_ k_ ∨ w.heap.size ≤ k_)) (.slice A1 l1.length c1) l1 from Kd.V_mono hs1 (fun k_ hk => .inl hk))
  have HB := Aside0.mk (Below.refl w.heap.size w)
  have H : (if a0 = true then (some (decide (0 < l1.length), l1)) else (some (false, l1))) = some (r1, r2) := h
  clear h
  by_cases c3 : a0 = true
  · subst c3
    have H1 : (some (decide (0 < l1.length), l1)) = some (r1, r2) := by rw [if_pos rfl] at H; exact H
    clear H
    have H := H1
    clear H1
    simp only [Option.some.injEq, Prod.mk.injEq] at H
    obtain ⟨rfl, rfl⟩ := H
    go_enter Try.func55, Try.ntmps55
    go_wp2_with (first | ((with_reducible refine gate_dst (N := 4) rfl ?_); (try (refine gate_guard (by rfl) ?_; dsimp only)); refine box_event ?hg (N := 4) ?hd (cs := #[.bool false, .slice none 0 0]) (t := 46) ?hr ?_; (case hd => rfl); (case hg => rfl); (case hr => first | (go_simp; done) | (go_simp; rfl)); intro gb158 hg w4 hbox hb; have n0_ := Aside0.mk (Kd.V_below (Kd.V_elderB (by (with_reducible repeat (first | apply Kd.V_alloc | apply Kd.V_drewN | apply Kd.V_drew)); exact HO1.out) gb158 (Nat.le_of_eq hg.symm)) hb); have n1_ := Aside0.mk (below_step (by repeat (first | (with_reducible first | exact HB.out | apply below_alloc | apply pw_below_drewN | apply below_drew1) | exact HB.out)) hb); have n2_ := Aside0.mk (hbox); have n3_ := Aside0.mk ((by rw [hg]; exact (below_size (by repeat (first | (with_reducible first | exact HB.out | apply below_alloc | apply pw_below_drewN | apply below_drew1) | exact HB.out))) : w.heap.size ≤ gb158)); have n4_ := Aside0.mk ((by rw [hg]; exact (below_size (by repeat (first | (with_reducible first | exact HB.out | apply below_alloc | apply pw_below_drewN | apply below_drew1) | exact HB.out))) : w.heap.size ≤ gb158)); clear HO1; clear HB; have HO1 := n0_; have HB := n1_; have BK158 := n2_; have GW158 := n3_; have GE158 := n4_; clear n0_ n1_ n2_ n3_ n4_; clear hb hbox hg; have hcz5_0 : w4.cell? ⟨gb158, 0, none⟩ = some (.bool false) := (blk_cell BK158.out 0).trans rfl; have hcz5_1 : w4.cell? ⟨gb158, 1, none⟩ = some (.slice none 0 0) := (blk_cell BK158.out 1).trans rfl; have hfz5_0 := blk_frozen BK158.out 0; have hfz5_1 := blk_frozen BK158.out 1))
    refine bodyPost_ret (results_cell_row rfl _ _ gb158 46 #[.bool (decide (0 < l1.length)), .slice A1 l1.length c1] (0, 0) _ rfl (by (with_reducible repeat (first | refine blk_drewN ?_ _ | refine blk_drew ?_ | refine blk_alloc ?_ _)); refine blk_put (cs := #[.bool (decide (0 < l1.length)), .slice none 0 0]) ?_ 1 _ rfl; (with_reducible repeat (first | refine blk_drewN ?_ _ | refine blk_drew ?_ | refine blk_alloc ?_ _)); refine blk_put (cs := #[.bool false, .slice none 0 0]) ?_ 0 _ rfl; (with_reducible repeat (first | refine blk_drewN ?_ _ | refine blk_drew ?_ | refine blk_alloc ?_ _)); exact BK158.out) Try.underlying46 rfl (by kernel_rfl)) rfl ?_
    exact ⟨_, by first | rfl | (simp [errW_none, errW_some] <;> rfl) | (simp [*, errW_none, errW_some] <;> rfl), by (with_reducible repeat (first | apply Kd.V_alloc | apply Kd.V_drewN | apply Kd.V_drew)); exact Kd.V_mono (Kd.V_far (p := ⟨gb158, 1, none⟩) (Kd.V_far (p := ⟨gb158, 0, none⟩) (Kd.V_mono HO1.out (fun k_ hk => (⟨hk, hk.2⟩ : _ ∧ k_ ≠ gb158))) (fun _ hk => hk.2) (.bool (decide (0 < l1.length)))) (fun _ hk => hk.2) (.slice A1 l1.length c1)) (fun _ hk => hk.1.1), by repeat (first | (with_reducible first | exact HB.out | apply below_alloc | apply pw_below_drewN | apply below_drew1 | refine below_set ?_ GE158.out) | exact HB.out)⟩
  · replace c3 := Bool.eq_false_iff.mpr c3
    subst c3
    have H1 : (some (false, l1)) = some (r1, r2) := by rw [if_neg (show ¬ (false = true) by decide)] at H; exact H
    clear H
    have H := H1
    clear H1
    simp only [Option.some.injEq, Prod.mk.injEq] at H
    obtain ⟨rfl, rfl⟩ := H
    go_enter Try.func55, Try.ntmps55
    go_wp2_with (first | ((with_reducible refine gate_dst (N := 4) rfl ?_); (try (refine gate_guard (by rfl) ?_; dsimp only)); refine box_event ?hg (N := 4) ?hd (cs := #[.bool false, .slice none 0 0]) (t := 46) ?hr ?_; (case hd => rfl); (case hg => rfl); (case hr => first | (go_simp; done) | (go_simp; rfl)); intro gb158 hg w6 hbox hb; have n0_ := Aside0.mk (Kd.V_below (Kd.V_elderB (by (with_reducible repeat (first | apply Kd.V_alloc | apply Kd.V_drewN | apply Kd.V_drew)); exact HO1.out) gb158 (Nat.le_of_eq hg.symm)) hb); have n1_ := Aside0.mk (below_step (by repeat (first | (with_reducible first | exact HB.out | apply below_alloc | apply pw_below_drewN | apply below_drew1) | exact HB.out)) hb); have n2_ := Aside0.mk (hbox); have n3_ := Aside0.mk ((by rw [hg]; exact (below_size (by repeat (first | (with_reducible first | exact HB.out | apply below_alloc | apply pw_below_drewN | apply below_drew1) | exact HB.out))) : w.heap.size ≤ gb158)); have n4_ := Aside0.mk ((by rw [hg]; exact (below_size (by repeat (first | (with_reducible first | exact HB.out | apply below_alloc | apply pw_below_drewN | apply below_drew1) | exact HB.out))) : w.heap.size ≤ gb158)); clear HO1; clear HB; have HO1 := n0_; have HB := n1_; have BK158 := n2_; have GW158 := n3_; have GE158 := n4_; clear n0_ n1_ n2_ n3_ n4_; clear hb hbox hg; have hcz7_0 : w6.cell? ⟨gb158, 0, none⟩ = some (.bool false) := (blk_cell BK158.out 0).trans rfl; have hcz7_1 : w6.cell? ⟨gb158, 1, none⟩ = some (.slice none 0 0) := (blk_cell BK158.out 1).trans rfl; have hfz7_0 := blk_frozen BK158.out 0; have hfz7_1 := blk_frozen BK158.out 1))
    refine bodyPost_ret (results_cell_row rfl _ _ gb158 46 #[.bool false, .slice A1 l1.length c1] (0, 0) _ rfl (by (with_reducible repeat (first | refine blk_drewN ?_ _ | refine blk_drew ?_ | refine blk_alloc ?_ _)); refine blk_put (cs := #[.bool false, .slice none 0 0]) ?_ 1 _ rfl; (with_reducible repeat (first | refine blk_drewN ?_ _ | refine blk_drew ?_ | refine blk_alloc ?_ _)); refine blk_put (cs := #[.bool false, .slice none 0 0]) ?_ 0 _ rfl; (with_reducible repeat (first | refine blk_drewN ?_ _ | refine blk_drew ?_ | refine blk_alloc ?_ _)); exact BK158.out) Try.underlying46 rfl (by kernel_rfl)) rfl ?_
    exact ⟨_, by first | rfl | (simp [errW_none, errW_some] <;> rfl) | (simp [*, errW_none, errW_some] <;> rfl), by (with_reducible repeat (first | apply Kd.V_alloc | apply Kd.V_drewN | apply Kd.V_drew)); exact Kd.V_mono (Kd.V_far (p := ⟨gb158, 1, none⟩) (Kd.V_far (p := ⟨gb158, 0, none⟩) (Kd.V_mono HO1.out (fun k_ hk => (⟨hk, hk.2⟩ : _ ∧ k_ ≠ gb158))) (fun _ hk => hk.2) (.bool false)) (fun _ hk => hk.2) (.slice A1 l1.length c1)) (fun _ hk => hk.1.1), by repeat (first | (with_reducible first | exact HB.out | apply below_alloc | apply pw_below_drewN | apply below_drew1 | refine below_set ?_ GE158.out) | exact HB.out)⟩

end Go.Proofs.Ytoedbnnepcnjnaa.QFx
