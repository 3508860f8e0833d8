/- Package config, and the reference's check: what they tell. No condition. -/
import Derived.Test.YtbfflffekdadnaaDoorYSays27
import Derived.Test.YtbfflffekdadnaaDoorYBlk
import Derived.Test.YtbfflffekdadnaaDoorQCfx3
namespace Go.Proofs.YtbfflffekdadnaaDoor.YConf
open Go.RowKit Go.Extern.Stop Go.Stop Go.Extern Go.Proofs.YtbfflffekdadnaaDoor.QCf Go.Proofs.YtbfflffekdadnaaDoor.YErr Go.Proofs.YtbfflffekdadnaaDoorW.PrintWords Go.Proofs.YtbfflffekdadnaaDoorW.PrintLast
set_option linter.unusedVariables false
set_option linter.unusedSimpArgs false

theorem wid {x : Int} (h0 : -9223372036854775808 ≤ x) (h1 : x < 9223372036854775808) : wrap64 x = x := by unfold wrap64; omega
/-- A configuration that may be. -/
def ConfOk (x y su we st ga le mo ba ne de pa : Int) : Prop :=
  -4194304 ≤ x ∧ x ≤ 4194304 ∧ -4194304 ≤ y ∧ y ≤ 4194304 ∧ 2 ≤ su ∧ su ≤ 1048576 ∧ 1 ≤ st ∧ st ≤ 1048576 ∧ 1 ≤ we ∧ we ≤ 1024 ∧ 1 ≤ ga ∧ ga ≤ 4096 ∧ 1 ≤ le ∧ le < su ∧ su < mo ∧ st < mo ∧ mo ≤ 536870912 ∧
  1000 ≤ ba ∧ ba ≤ 1048576 ∧ 0 ≤ ne ∧ ne ≤ 1000000 ∧ 0 ≤ de ∧ de ≤ 1000000 ∧ 1 ≤ pa
instance (x y su we st ga le mo ba ne de pa : Int) : Decidable (ConfOk x y su we st ga le mo ba ne de pa) := by unfold ConfOk; infer_instance
def confC (x y su we st ga le mo ba ne de pa : Int) : Int := if ConfOk x y su we st ga le mo ba ne de pa then 0 else 39

/-! ### the reference -/
theorem in_tells (v a b : Int) : leadlineref28_in.f v a b = some (decide (a ≤ v ∧ v ≤ b)) := by
  unfold leadlineref28_in.f
  by_cases h : v ≥ a
  · rw [if_pos h]; congr 1; exact decide_eq_decide.2 (by omega)
  · rw [if_neg h]; congr 1; symm; exact decide_eq_false (by omega)
theorem far_tells (v m : Int) (m0 : 0 ≤ m) (m1 : m ≤ 9223372036854775807) : leadlineref10_far.f v m = some (decide (v < -m ∨ v > m)) := by
  unfold leadlineref10_far.f
  rw [wid (x := -m) (by omega) (by omega)]
  by_cases h : v > m
  · rw [if_pos h]; congr 1; symm; exact decide_eq_true (by omega)
  · rw [if_neg h]; congr 1; exact decide_eq_decide.2 (by omega)
theorem away_tells (x y : Int) : leadlineref10_Away.f x y = some (decide (x < -4194304 ∨ x > 4194304 ∨ y < -4194304 ∨ y > 4194304)) := by
  unfold leadlineref10_Away.f
  rw [far_tells x _ (by decide) (by decide), far_tells y _ (by decide) (by decide), Option.bind_some, Option.bind_some]
  by_cases h : x < -4194304 ∨ x > 4194304
  · rw [decide_eq_true h, if_pos rfl]; congr 1; symm; exact decide_eq_true (by omega)
  · rw [decide_eq_false h, if_neg (by decide)]; congr 1; exact decide_eq_decide.2 (by omega)
theorem rcheck_tells (x y su we st ga le mo ba ne de pa : Int) : leadlineref28_Check.f x y su we st ga le mo ba ne de pa = some (confC x y su we st ga le mo ba ne de pa) := by
  unfold leadlineref28_Check.f
  rw [away_tells, in_tells, in_tells, in_tells, in_tells, in_tells, in_tells, in_tells]
  simp only [Option.bind_some]
  have no : ¬ ConfOk x y su we st ga le mo ba ne de pa → (some 39 : Option Int) = some (confC x y su we st ga le mo ba ne de pa) := fun h => by unfold confC; rw [if_neg h]
  by_cases c0 : x < -4194304 ∨ x > 4194304 ∨ y < -4194304 ∨ y > 4194304
  · rw [decide_eq_true c0, if_pos rfl]; exact no (by unfold ConfOk; omega)
  rw [decide_eq_false c0, if_neg (by decide)]
  by_cases c1 : ¬(2 ≤ su ∧ su ≤ 1048576)
  · rw [decide_eq_false c1, if_neg (by decide)]; exact no (by unfold ConfOk; omega)
  rw [decide_eq_true (Classical.not_not.1 c1), if_pos rfl]
  by_cases c2 : ¬(1 ≤ we ∧ we ≤ 1024)
  · rw [decide_eq_false c2, if_neg (by decide)]; exact no (by unfold ConfOk; omega)
  rw [decide_eq_true (Classical.not_not.1 c2), if_pos rfl]
  by_cases c3 : ¬(1 ≤ st ∧ st ≤ 1048576)
  · rw [decide_eq_false c3, if_neg (by decide)]; exact no (by unfold ConfOk; omega)
  rw [decide_eq_true (Classical.not_not.1 c3), if_pos rfl]
  by_cases c4 : ¬(1 ≤ ga ∧ ga ≤ 4096)
  · rw [decide_eq_false c4, if_neg (by decide)]; exact no (by unfold ConfOk; omega)
  rw [decide_eq_true (Classical.not_not.1 c4), if_pos rfl]
  by_cases c5 : le < 1
  · rw [if_pos c5]; exact no (by unfold ConfOk; omega)
  rw [if_neg c5]
  by_cases c6 : le ≥ su
  · rw [if_pos c6]; exact no (by unfold ConfOk; omega)
  rw [if_neg c6]
  by_cases c7 : mo ≤ su
  · rw [if_pos c7]; exact no (by unfold ConfOk; omega)
  rw [if_neg c7]
  by_cases c8 : mo ≤ st
  · rw [if_pos c8]; exact no (by unfold ConfOk; omega)
  rw [if_neg c8]
  by_cases c9 : mo > 536870912
  · rw [if_pos c9]; exact no (by unfold ConfOk; omega)
  rw [if_neg c9]
  by_cases c10 : ¬(1000 ≤ ba ∧ ba ≤ 1048576)
  · rw [decide_eq_false c10, if_neg (by decide)]; exact no (by unfold ConfOk; omega)
  rw [decide_eq_true (Classical.not_not.1 c10), if_pos rfl]
  by_cases c11 : ¬(0 ≤ ne ∧ ne ≤ 1000000)
  · rw [decide_eq_false c11, if_neg (by decide)]; exact no (by unfold ConfOk; omega)
  rw [decide_eq_true (Classical.not_not.1 c11), if_pos rfl]
  by_cases c12 : ¬(0 ≤ de ∧ de ≤ 1000000)
  · rw [decide_eq_false c12, if_neg (by decide)]; exact no (by unfold ConfOk; omega)
  rw [decide_eq_true (Classical.not_not.1 c12), if_pos rfl]
  by_cases c13 : pa < 1
  · rw [if_pos c13]; exact no (by unfold ConfOk; omega)
  rw [if_neg c13]
  unfold confC
  rw [if_pos (by unfold ConfOk; omega)]
theorem rCheck_calls (x y su we st ga le mo ba ne de pa : Int) (w : World) :
    Calls Tryd.prog 20 #[.agg #[.int .i64 x, .int .i64 y, .int .i64 su, .int .i64 we, .int .i64 st, .int .i64 ga, .int .i64 le, .int .i64 mo, .int .i64 ba, .int .i64 ne, .int .i64 de, .int .u32 pa]] w fun e w' =>
      e = .returned (.int .i64 (confC x y su we st ga le mo ba ne de pa)) ∧ Below w.heap.size w w' :=
  leadlineref28_Check.calls x y su we st ga le mo ba ne de pa _ w (rcheck_tells x y su we st ga le mo ba ne de pa)

/-! ### the program's -/
/-- What one part of a configuration must be. -/
def PartOk (x y su we st ga le mo ba ne de pa : Int) : Nat → Prop
  | 0 => -4194304 ≤ x ∧ x ≤ 4194304 ∧ -4194304 ≤ y ∧ y ≤ 4194304
  | 1 => 2 ≤ su ∧ su ≤ 1048576 ∧ 1 ≤ st ∧ st ≤ 1048576
  | 2 => 1 ≤ we ∧ we ≤ 1024 ∧ 1 ≤ ga ∧ ga ≤ 4096
  | 3 => 1 ≤ le ∧ le < su
  | 4 => su < mo ∧ st < mo ∧ mo ≤ 536870912 ∧ 1000 ≤ ba ∧ ba ≤ 1048576
  | 5 => mo ≤ 536870912 ∧ 1000 ≤ ba ∧ ba ≤ 1048576
  | _ + 6 => 0 ≤ ne ∧ ne ≤ 1000000 ∧ 0 ≤ de ∧ de ≤ 1000000 ∧ 1 ≤ pa
noncomputable instance (x y su we st ga le mo ba ne de pa : Int) (k : Nat) : Decidable (PartOk x y su we st ga le mo ba ne de pa k) := Classical.propDecidable _
theorem within_tells (v a b : Int) : config_within.f v a b = some (decide (a ≤ v ∧ v ≤ b)) := by
  unfold config_within.f
  by_cases h : v ≥ a
  · rw [if_pos h]; congr 1; exact decide_eq_decide.2 (by omega)
  · rw [if_neg h]; congr 1; symm; exact decide_eq_false (by omega)
theorem farp_tells (x y : Int) : dead_Far.f x y = some (decide (x < -4194304 ∨ x > 4194304 ∨ y < -4194304 ∨ y > 4194304)) := by
  unfold dead_Far.f
  by_cases h1 : x < -4194304
  · rw [if_pos h1]; congr 1; symm; exact decide_eq_true (by omega)
  · rw [if_neg h1]
    by_cases h2 : x > 4194304
    · rw [if_pos h2]; congr 1; symm; exact decide_eq_true (by omega)
    · rw [if_neg h2]
      by_cases h3 : y < -4194304
      · rw [if_pos h3]; congr 1; symm; exact decide_eq_true (by omega)
      · rw [if_neg h3]; congr 1; exact decide_eq_decide.2 (by omega)
set_option maxHeartbeats 2000000 in
theorem part_tells (x y su we st ga le mo ba ne de pa : Int) (k : Nat) (hk : k < 7) (hs : 1 < k → 2 ≤ su ∧ su ≤ 1048576) :
    config_part.f 9 x y su we st ga le mo ba ne de pa (k : Int) = some (decide (PartOk x y su we st ga le mo ba ne de pa k)) := by
  unfold config_part.f
  rw [farp_tells]
  simp only [within_tells]
  rcases (by omega : k = 0 ∨ k = 1 ∨ k = 2 ∨ k = 3 ∨ k = 4 ∨ k = 5 ∨ k = 6) with rfl | rfl | rfl | rfl | rfl | rfl | rfl
  · rw [if_pos (by decide), Option.bind_some]; congr 1; rw [← decide_not]; exact decide_eq_decide.2 (by simp only [PartOk]; omega)
  · rw [if_neg (by decide), if_pos (by decide)]
    simp only [Option.bind_some, decide_eq_true_eq]
    split
    · congr 1; exact decide_eq_decide.2 (by simp only [PartOk]; omega)
    · congr 1; symm; exact decide_eq_false (by simp only [PartOk]; omega)
  · rw [if_neg (by decide), if_neg (by decide), if_pos (by decide)]
    simp only [Option.bind_some, decide_eq_true_eq]
    split
    · congr 1; exact decide_eq_decide.2 (by simp only [PartOk]; omega)
    · congr 1; symm; exact decide_eq_false (by simp only [PartOk]; omega)
  · have := hs (by decide)
    rw [if_neg (by decide), if_neg (by decide), if_neg (by decide), if_pos (by decide), wid (x := su - 1) (by omega) (by omega), Option.bind_some]
    congr 1; exact decide_eq_decide.2 (by simp only [PartOk]; omega)
  · rw [if_neg (by decide), if_neg (by decide), if_neg (by decide), if_neg (by decide), if_pos (by decide)]
    have J : ∀ c : Bool, config_part.j0 9 c x y su we st ga le mo ba ne de pa = some (!c && decide (mo ≤ 536870912 ∧ 1000 ≤ ba ∧ ba ≤ 1048576)) := by
      intro c
      rw [config_part.j0]
      simp only [within_tells, Option.bind_some]
      cases c
      · rw [if_neg (by decide)]
        split
        · congr 1; simp; omega
        · congr 1; simp; omega
      · rw [if_pos rfl]; rfl
    split
    · rw [J]; congr 1; symm; exact decide_eq_false (by simp only [PartOk]; omega)
    · rw [J]; congr 1
      by_cases h : mo ≤ st
      · rw [decide_eq_true h]; symm; exact decide_eq_false (by simp only [PartOk]; omega)
      · rw [decide_eq_false h, Bool.not_false, Bool.true_and]; exact decide_eq_decide.2 (by simp only [PartOk]; omega)
  · rw [if_neg (by decide), if_neg (by decide), if_neg (by decide), if_neg (by decide), if_neg (by decide), if_pos (by decide)]
    simp only [Option.bind_some]
    split
    · congr 1; exact decide_eq_decide.2 (by simp only [PartOk]; omega)
    · congr 1; symm; exact decide_eq_false (by simp only [PartOk]; omega)
  · rw [if_neg (by decide), if_neg (by decide), if_neg (by decide), if_neg (by decide), if_neg (by decide), if_neg (by decide)]
    simp only [Option.bind_some, decide_eq_true_eq]
    split
    · split
      · congr 1; exact decide_eq_decide.2 (by simp only [PartOk]; omega)
      · congr 1; symm; exact decide_eq_false (by simp only [PartOk]; omega)
    · congr 1; symm; exact decide_eq_false (by simp only [PartOk]; omega)
theorem partOk_of {x y su we st ga le mo ba ne de pa : Int} (h : ConfOk x y su we st ga le mo ba ne de pa) (k : Nat) (hk : k < 7) : PartOk x y su we st ga le mo ba ne de pa k := by
  unfold ConfOk at h
  rcases (by omega : k = 0 ∨ k = 1 ∨ k = 2 ∨ k = 3 ∨ k = 4 ∨ k = 5 ∨ k = 6) with rfl | rfl | rfl | rfl | rfl | rfl | rfl <;> simp only [PartOk] <;> omega
/-- Twelve cells. -/
theorem cells12 {w : World} {b : Nat} {v0 v1 v2 v3 v4 v5 v6 v7 v8 v9 v10 v11 : Value} {T : TypeId} (h : Blk w b #[v0, v1, v2, v3, v4, v5, v6, v7, v8, v9, v10, v11] T) :
    w.cell? ⟨b, 0, none⟩ = some v0 ∧ w.cell? ⟨b, 1, none⟩ = some v1 ∧ w.cell? ⟨b, 2, none⟩ = some v2 ∧ w.cell? ⟨b, 3, none⟩ = some v3 ∧ w.cell? ⟨b, 4, none⟩ = some v4 ∧ w.cell? ⟨b, 5, none⟩ = some v5 ∧ w.cell? ⟨b, 6, none⟩ = some v6 ∧ w.cell? ⟨b, 7, none⟩ = some v7 ∧
    w.cell? ⟨b, 8, none⟩ = some v8 ∧ w.cell? ⟨b, 9, none⟩ = some v9 ∧ w.cell? ⟨b, 10, none⟩ = some v10 ∧ w.cell? ⟨b, 11, none⟩ = some v11 :=
  ⟨h.cell 0, h.cell 1, h.cell 2, h.cell 3, h.cell 4, h.cell 5, h.cell 6, h.cell 7, h.cell 8, h.cell 9, h.cell 10, h.cell 11⟩
theorem below_both {W w w' : World} (h : Below W.heap.size W w) (g : Below w.heap.size w w') : Below W.heap.size W w' := h.trans (g.mono h.size)
set_option maxRecDepth 100000 in
set_option maxHeartbeats 4000000 in
theorem Check_calls (x y su we st ga le mo ba ne de pa : Int) (w : World) :
    Calls Tryd.prog 19 #[.agg #[.int .i64 x, .int .i64 y, .int .i64 su, .int .i64 we, .int .i64 st, .int .i64 ga, .int .i64 le, .int .i64 mo, .int .i64 ba, .int .i64 ne, .int .i64 de, .int .u32 pa]] w fun e w' =>
      ∃ v, e = .returned v ∧ ErrFrom op27 w.heap.size w' v (confC x y su we st ga le mo ba ne de pa) ∧ Below w.heap.size w w' := by
  have P : ∀ (k : Nat), k < 7 → (∀ j, j < k → PartOk x y su we st ga le mo ba ne de pa j) → ∀ W, Calls Tryd.prog 36 #[.agg #[.int .i64 x, .int .i64 y, .int .i64 su, .int .i64 we, .int .i64 st, .int .i64 ga, .int .i64 le, .int .i64 mo, .int .i64 ba, .int .i64 ne, .int .i64 de, .int .u32 pa], .int .i64 (k : Int)] W fun e w' => e = .returned (.bool (decide (PartOk x y su we st ga le mo ba ne de pa k))) ∧ Below W.heap.size W w' :=
    fun k hk hj W => config_part.calls 9 x y su we st ga le mo ba ne de pa (k : Int) _ W (part_tells x y su we st ga le mo ba ne de pa k hk (fun h => by have := hj 1 h; simp only [PartOk] at this; omega))
  have B := fun W => Wrap_from op27 39 (by decide) W
  unfold op27 at B
  have W1 : ∃ W1, W1 = w.alloc (.cells #[.int .i64 x, .int .i64 y, .int .i64 su, .int .i64 we, .int .i64 st, .int .i64 ga, .int .i64 le, .int .i64 mo, .int .i64 ba, .int .i64 ne, .int .i64 de, .int .u32 pa] 46) := ⟨_, rfl⟩
  have K0 := Blk.new w #[.int .i64 x, .int .i64 y, .int .i64 su, .int .i64 we, .int .i64 st, .int .i64 ga, .int .i64 le, .int .i64 mo, .int .i64 ba, .int .i64 ne, .int .i64 de, .int .u32 pa] 46
  have b0 : Below w.heap.size w (w.alloc (.cells #[.int .i64 x, .int .i64 y, .int .i64 su, .int .i64 we, .int .i64 st, .int .i64 ga, .int .i64 le, .int .i64 mo, .int .i64 ba, .int .i64 ne, .int .i64 de, .int .u32 pa] 46)) := (Below.refl _ _).alloc (Nat.le_refl _) _
  go_enter Tryd.func19, Tryd.ntmps19
  go_wp2
  go_loopw [4] (fun i wr => ∃ k : Nat, k ≤ 7 ∧ i = .int .i64 k ∧ (∀ j, j < k → PartOk x y su we st ga le mo ba ne de pa j) ∧ Blk wr w.heap.size #[.int .i64 x, .int .i64 y, .int .i64 su, .int .i64 we, .int .i64 st, .int .i64 ga, .int .i64 le, .int .i64 mo, .int .i64 ba, .int .i64 ne, .int .i64 de, .int .u32 pa] 46 ∧ Below w.heap.size w wr)
    (fun i _ => 7 - (intOf i).toNat)
  case atStart => exact ⟨0, by decide, rfl, fun j hj => absurd hj (by omega), K0, b0⟩
  case round =>
    obtain ⟨k, hk, rfl, hj, hK, hb⟩ := hrel
    obtain ⟨d0, d1, d2, d3, d4, d5, d6, d7, d8, d9, d10, d11⟩ := cells12 hK
    by_cases hlt : k < 7
    · have Pk := P k hlt hj
      by_cases hp : PartOk x y su we st ga le mo ba ne de pa k
      · rw [decide_eq_true hp] at Pk
        have hj' : ∀ j, j < k + 1 → PartOk x y su we st ga le mo ba ne de pa j := fun j h => by
          rcases Nat.lt_or_ge j k with h' | h'
          · exact hj j h'
          · obtain rfl : j = k := by omega
            exact hp
        have HJ := Lib.hid hj'
        clear hj hj' P hp
        go_wp2_with (first | (go_at_call 36; (with_reducible refine (Pk _).mono ?_); rintro e w3 ⟨rfl, g3⟩))
        go_roundw
        case rel => exact ⟨k + 1, by omega, by go_num, HJ.out, hK.keep g3, below_both hb g3⟩
        case measure => simp [intOf]; omega
      · rw [decide_eq_false hp] at Pk
        have hn : confC x y su we st ga le mo ba ne de pa = 39 := if_neg (fun h => hp (partOk_of h k hlt))
        have HN := Lib.hid hn
        clear hj P hp hn
        go_wp2_with (first | (go_at_call 36; (with_reducible refine (Pk _).mono ?_); rintro e w3 ⟨rfl, g3⟩) | (go_at_call 33; refine (B _).mono ?_; rintro e w4 ⟨v, rfl, hv, hb4⟩))
        go_ret
        exact ⟨_, rfl, by rw [HN.out]; exact hv.mono (below_both hb g3).size, below_both (below_both hb g3) hb4⟩
    · have hn : confC x y su we st ga le mo ba ne de pa = 0 := by
        refine if_pos ?_
        have p0 := hj 0 (by omega)
        have p1 := hj 1 (by omega)
        have p2 := hj 2 (by omega)
        have p3 := hj 3 (by omega)
        have p4 := hj 4 (by omega)
        have p6 := hj 6 (by omega)
        simp only [PartOk] at p0 p1 p2 p3 p4 p6
        unfold ConfOk
        omega
      have HN := Lib.hid hn
      clear hj P hn
      go_wp2
      go_ret
      exact ⟨_, rfl, by rw [HN.out]; exact ErrFrom.nil _ _ _, hb⟩
end Go.Proofs.YtbfflffekdadnaaDoor.YConf
