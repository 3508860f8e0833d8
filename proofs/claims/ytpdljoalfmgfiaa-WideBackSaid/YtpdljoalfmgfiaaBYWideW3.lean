/- Lean functions, contracts and lemmas that this claim needs. No condition. -/
import Derived.Test.YtpdljoalfmgfiaaBYWideW2
import Derived.Test.YtpdljoalfmgfiaaBYWideEq
namespace Go.Proofs.Ytpdljoalfmgfiaa.YWide
open Go.RowKit Go.Proofs.Ytpdljoalfmgfiaa.YInv Go.Proofs.Ytpdljoalfmgfiaa.YErr Go.Proofs.Ytpdljoalfmgfiaa.YRef Go.Proofs.Ytpdljoalfmgfiaa.YNum Go.Proofs.Ytpdljoalfmgfiaa.XCarry Go.Proofs.Ytpdljoalfmgfiaa.QWd Go.Proofs.YtpdljoalfmgfiaaW.PrintWords Go.Proofs.YtpdljoalfmgfiaaW.PrintLast
set_option linter.unusedVariables false
set_option linter.unusedSimpArgs false
theorem val_ones : ∀ n, val (List.replicate n (18446744073709551615 : Int)) = 18446744073709551616 ^ n - 1 := by
  intro n
  induction n with
  | zero => simp [val, pv]
  | succ n ih => rw [List.replicate_succ, val_cons, ih, pw_succ]; omega
theorem val_nones : ∀ n, val (List.replicate n (0 : Int)) = 0 := by
  intro n
  induction n with
  | zero => simp [val, pv]
  | succ n ih => rw [List.replicate_succ, val_cons, ih]; omega
/-- A sign, as far as k. -/
def ext (s : Int) (k : Nat) : List Int := List.replicate k s ++ List.replicate (16 - k) 0
theorem ext_len {s : Int} {k : Nat} (h : k ≤ 16) : (ext s k).length = 16 := by unfold ext; simp; omega
theorem ext_set {s : Int} {k : Nat} (h : k < 16) : (ext s k).set k s = ext s (k + 1) := by
  unfold ext
  apply List.ext_getElem?
  intro i
  simp only [List.getElem?_set, List.getElem?_append, List.length_replicate, List.getElem?_replicate, List.length_append]
  by_cases h1 : k = i
  · subst h1; simp; omega
  · by_cases h2 : i < k
    · have : i < k + 1 := by omega
      simp [h1, h2, this]
    · have h3 : ¬ i < k + 1 := by omega
      simp only [h1, h2, h3, if_false]
      by_cases h4 : i - k < 16 - k
      · rw [if_pos h4, if_pos (by omega)]
      · rw [if_neg h4, if_neg (by omega)]
theorem ext_lim {v : Int} (h0 : -9223372036854775808 ≤ v) (h1 : v ≤ 9223372036854775807) : (ext (if v < 0 then 18446744073709551615 else 0) 16).set 0 (v % 18446744073709551616) = lim v := by
  have e : (ext (if v < 0 then 18446744073709551615 else 0) 16).set 0 (v % 18446744073709551616) = (v % 18446744073709551616) :: List.replicate 15 (if v < 0 then 18446744073709551615 else 0) := by
    unfold ext; rw [List.replicate_succ]; simp
  rw [e]
  refine lim_eq (by simp) (fun x hx => ?_) ?_
  · rcases List.mem_cons.1 hx with rfl | hx
    · omega
    · rw [List.eq_of_mem_replicate hx]; split <;> omega
  · rw [val_cons]
    by_cases hv : v < 0
    · rw [if_pos hv, val_ones]; omega
    · rw [if_neg hv, val_nones]; omega
set_option maxRecDepth 100000 in
set_option maxHeartbeats 4000000 in
theorem Of_c (v : Int) (h0 : -9223372036854775808 ≤ v) (h1 : v ≤ 9223372036854775807) (w : World) : Calls Try.prog 33 #[.int .i64 v] w fun e w' => e = .returned (.agg (U (lim v))) ∧ Below w.heap.size w w' := by
  have fin := ext_lim h0 h1
  have lr := lim_len v
  generalize lim v = r at *
  obtain ⟨s, hs⟩ : ∃ s, (if v < 0 then (18446744073709551615 : Int) else 0) = s := ⟨_, rfl⟩
  rw [hs] at fin
  have es : IntKind.u64.wrap (v / 9223372036854775808) = s := by rw [YBits.u64w]; rw [← hs]; split <;> omega
  have e0 : IntKind.u64.wrap v = v % 18446744073709551616 := YBits.u64w v
  have HF := Lib.hid fin
  clear hs fin
  have k1 : Blk ((w.alloc (.cells #[.int .u64 0, .int .u64 0, .int .u64 0, .int .u64 0, .int .u64 0, .int .u64 0, .int .u64 0, .int .u64 0, .int .u64 0, .int .u64 0, .int .u64 0, .int .u64 0, .int .u64 0, .int .u64 0, .int .u64 0, .int .u64 0] 27)).alloc (.cells #[.int .u64 0, .int .u64 0, .int .u64 0, .int .u64 0, .int .u64 0, .int .u64 0, .int .u64 0, .int .u64 0, .int .u64 0, .int .u64 0, .int .u64 0, .int .u64 0, .int .u64 0, .int .u64 0, .int .u64 0, .int .u64 0] 27)) w.heap.size (U zeros) 27 := (Blk.new w (U zeros) 27).alloc _
  have k2 : Blk ((w.alloc (.cells #[.int .u64 0, .int .u64 0, .int .u64 0, .int .u64 0, .int .u64 0, .int .u64 0, .int .u64 0, .int .u64 0, .int .u64 0, .int .u64 0, .int .u64 0, .int .u64 0, .int .u64 0, .int .u64 0, .int .u64 0, .int .u64 0] 27)).alloc (.cells #[.int .u64 0, .int .u64 0, .int .u64 0, .int .u64 0, .int .u64 0, .int .u64 0, .int .u64 0, .int .u64 0, .int .u64 0, .int .u64 0, .int .u64 0, .int .u64 0, .int .u64 0, .int .u64 0, .int .u64 0, .int .u64 0] 27)) (w.heap.size + 1) (U zeros) 27 := by
    have : Blk ((w.alloc (.cells (U zeros) 27)).alloc (.cells (U zeros) 27)) (w.heap.size + 1) (U zeros) 27 := by
      have := Blk.new (w.alloc (.cells (U zeros) 27)) (U zeros) 27
      simpa using this
    exact this
  go_enter Try.func33, Try.ntmps33
  go_wp2
  go_loopw [5] (fun s5 wx => ∃ k : Nat, k ≤ 16 ∧ s5 = .int .i64 k ∧ Blk wx w.heap.size (U zeros) 27 ∧ Blk wx (w.heap.size + 1) (U (ext s k)) 27 ∧ Below w.heap.size w wx) (fun s5 _ => 16 - (intOf s5).toNat)
  case atStart => exact ⟨0, by omega, rfl, k1, k2, ((Below.refl _ _).alloc (Nat.le_refl _) _).alloc (by simp) _⟩
  case round =>
    clear k1 k2
    obtain ⟨k, hk, rfl, kZ, kA, hb⟩ := hrel
    by_cases hlt : k < 16
    · have il := ext_len (s := s) hk
      have cA : wr.cell? ⟨w.heap.size + 1, k, none⟩ = some (.int .u64 (dg (ext s k) k)) := by rw [kA.cell, U_at (by omega)]
      have fA := kA.free k
      have kA2 := kA.set k (.int .u64 s)
      rw [U_set, ext_set hlt] at kA2
      have j0 : (0 : Int) ≤ (k : Int) := by omega
      have j1 : (k : Int) < 16 := by omega
      clear il
      go_wp2
      go_roundw
      case rel => exact ⟨k + 1, by omega, by go_num, kZ.setOther (by simp) _, kA2, hb.setCell (by simp) _⟩
      case measure => simp [intOf]; omega
    · have hk16 : k = 16 := by omega
      subst hk16
      have il := ext_len (s := s) (Nat.le_refl 16)
      have cA : wr.cell? ⟨w.heap.size + 1, 0, none⟩ = some (.int .u64 (dg (ext s 16) 0)) := by rw [kA.cell, U_at (by omega)]
      have fA := kA.free 0
      have kA2 := kA.set 0 (.int .u64 (v % 18446744073709551616))
      rw [U_set, HF.out] at kA2
      have kZ2 := kZ.setOther (p := ⟨w.heap.size + 1, 0, none⟩) (by simp) (.int .u64 (v % 18446744073709551616))
      clear hlt il
      go_wp2_with (first | (refine ldW kA2 lr _ rfl rfl rfl ?_) | (refine stW kZ2 zeros_len lr _ _ rfl rfl rfl rfl ?_))
      exact bodyPost_ret (res1 Try.results33 _ rfl (put_ kZ2) lr) rfl ⟨rfl, below_row (hb.setCell (by simp) _) (by omega) _⟩
theorem amount_c {x : Int} (hx : InW x) (w : World) : Calls Try.prog 43 #[.agg (U (lim x))] w fun e w' => e = .returned (.agg (U (lim (ab x)))) ∧ Below w.heap.size w w' := by
  have la := lim_len x
  have ln := lim_len (-x)
  obtain ⟨k1, k2, b0⟩ := start2 w (lim x) _ rfl
  have Bx := fun W => below_c hx W
  have NG := fun W => neg_c x W
  unfold ab
  by_cases h : x < 0
  · rw [if_pos h]
    rw [decide_eq_true h] at Bx
    clear h
    go_enter Try.func43, Try.ntmps43
    go_wp2_with (refine ldW k1 la _ rfl rfl rfl ?_)
    refine (Bx _).mono ?_; rintro e w1 ⟨rfl, g1⟩
    have m1 := k1.keep g1
    have m2 := k2.keep g1
    have b1 := bb b0 g1
    go_wp2_with (refine ldW m1 la _ rfl rfl rfl ?_)
    refine (NG _).mono ?_; rintro e w2 ⟨rfl, g2⟩
    have n2 := m2.keep g2
    have b2 := bb b1 g2
    go_wp2_with (refine stW n2 zeros_len ln _ _ rfl rfl rfl rfl ?_)
    exact bodyPost_ret (res1 Try.results43 _ rfl (put_ n2) ln) rfl ⟨rfl, below_row b2 (by omega) _⟩
  · rw [if_neg h]
    rw [decide_eq_false h] at Bx
    clear h
    go_enter Try.func43, Try.ntmps43
    go_wp2_with (refine ldW k1 la _ rfl rfl rfl ?_)
    refine (Bx _).mono ?_; rintro e w1 ⟨rfl, g1⟩
    have m1 := k1.keep g1
    have m2 := k2.keep g1
    have b1 := bb b0 g1
    go_wp2_with (first | (refine ldW m1 la _ rfl rfl rfl ?_) | (refine stW m2 zeros_len la _ _ rfl rfl rfl rfl ?_))
    exact bodyPost_ret (res1 Try.results43 _ rfl (put_ m2) la) rfl ⟨rfl, below_row b1 (by omega) _⟩
theorem Sign_c {x : Int} (hx : InW x) (w : World) : Calls Try.prog 22 #[.agg (U (lim x))] w fun e w' => e = .returned (.int .i64 (if x = 0 then 0 else if x < 0 then -1 else 1)) ∧ Below w.heap.size w w' := by
  have la := lim_len x
  have k1 := Blk.new w (U (lim x)) 27
  have b0 := (Below.refl w.heap.size w).alloc (Nat.le_refl _) (.cells (U (lim x)) 27)
  have Bx := fun W => below_c hx W
  have EQ := fun W => run_eqlZ x W
  by_cases h : x < 0
  · rw [if_neg (by omega), if_pos h]
    rw [decide_eq_true h] at Bx
    clear h EQ
    go_enter Try.func22, Try.ntmps22
    go_wp2_with (refine ldW k1 la _ rfl rfl rfl ?_)
    refine (Bx _).mono ?_; rintro e w1 ⟨rfl, g1⟩
    go_wp2_with fail
    go_ret
    exact ⟨rfl, bb b0 g1⟩
  · rw [if_neg h]
    rw [decide_eq_false h] at Bx
    by_cases h0 : x = 0
    · rw [if_pos h0]
      have e : decide (lim x = zeros) = true := by rw [h0, zeros_lim]; simp
      rw [e] at EQ
      clear h h0 e
      go_enter Try.func22, Try.ntmps22
      go_wp2_with (refine ldW k1 la _ rfl rfl rfl ?_)
      refine (Bx _).mono ?_; rintro e w1 ⟨rfl, g1⟩
      have m1 := k1.keep g1
      go_wp2_with (refine ldW m1 la _ rfl rfl rfl ?_)
      go_ret
      exact ⟨rfl, bb b0 g1⟩
    · rw [if_neg h0]
      have e : decide (lim x = zeros) = false := by
        rw [decide_eq_false_iff_not, zeros_lim]
        exact fun h => h0 (lim_inj hx inW_0 h)
      rw [e] at EQ
      clear h h0 e
      go_enter Try.func22, Try.ntmps22
      go_wp2_with (refine ldW k1 la _ rfl rfl rfl ?_)
      refine (Bx _).mono ?_; rintro e w1 ⟨rfl, g1⟩
      have m1 := k1.keep g1
      go_wp2_with (refine ldW m1 la _ rfl rfl rfl ?_)
      go_ret
      exact ⟨rfl, bb b0 g1⟩
end Go.Proofs.Ytpdljoalfmgfiaa.YWide
