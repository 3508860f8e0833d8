/- Lean functions, contracts and lemmas that this claim needs. No condition. -/
import Derived.Test.YtfcandmhalhaeaaDoorAYWideW2
import Derived.Test.YtfcandmhalhaeaaDoorAYWideEq
namespace Go.Proofs.YtfcandmhalhaeaaDoor.YWide
open Go.RowKit Go.Proofs.YtfcandmhalhaeaaDoor.YInv Go.Proofs.YtfcandmhalhaeaaDoor.YErr Go.Proofs.YtfcandmhalhaeaaDoor.YRef Go.Proofs.YtfcandmhalhaeaaDoor.YNum Go.Proofs.YtfcandmhalhaeaaDoor.XCarry Go.Proofs.YtfcandmhalhaeaaDoor.QSy Go.Proofs.YtfcandmhalhaeaaDoorW.PrintWords Go.Proofs.YtfcandmhalhaeaaDoorW.PrintLast
set_option linter.unusedVariables false
set_option linter.unusedSimpArgs false
theorem val_ones : ∀ n, val (List.replicate n (18446744073709551615 : Int)) = 18446744073709551616 ^ n - 1 := by
  intro n
  induction n with
  | zero => simp [val, pv]
  | succ n ih => rw [List.replicate_succ, val_cons, ih, pw_succ]; omega
theorem val_nones : ∀ n, val (List.replicate n (0 : Int)) = 0 := by
  intro n
  induction n with
  | zero => simp [val, pv]
  | succ n ih => rw [List.replicate_succ, val_cons, ih]; omega
/-- A sign, as far as k. -/
def ext (s : Int) (k : Nat) : List Int := List.replicate k s ++ List.replicate (16 - k) 0
theorem ext_len {s : Int} {k : Nat} (h : k ≤ 16) : (ext s k).length = 16 := by unfold ext; simp; omega
theorem ext_set {s : Int} {k : Nat} (h : k < 16) : (ext s k).set k s = ext s (k + 1) := by
  unfold ext
  apply List.ext_getElem?
  intro i
  simp only [List.getElem?_set, List.getElem?_append, List.length_replicate, List.getElem?_replicate, List.length_append]
  by_cases h1 : k = i
  · subst h1; simp; omega
  · by_cases h2 : i < k
    · have : i < k + 1 := by omega
      simp [h1, h2, this]
    · have h3 : ¬ i < k + 1 := by omega
      simp only [h1, h2, h3, if_false]
      by_cases h4 : i - k < 16 - k
      · rw [if_pos h4, if_pos (by omega)]
      · rw [if_neg h4, if_neg (by omega)]
theorem ext_lim {v : Int} (h0 : -9223372036854775808 ≤ v) (h1 : v ≤ 9223372036854775807) : (ext (if v < 0 then 18446744073709551615 else 0) 16).set 0 (v % 18446744073709551616) = lim v := by
  have e : (ext (if v < 0 then 18446744073709551615 else 0) 16).set 0 (v % 18446744073709551616) = (v % 18446744073709551616) :: List.replicate 15 (if v < 0 then 18446744073709551615 else 0) := by
    unfold ext; rw [List.replicate_succ]; simp
  rw [e]
  refine lim_eq (by simp) (fun x hx => ?_) ?_
  · rcases List.mem_cons.1 hx with rfl | hx
    · omega
    · rw [List.eq_of_mem_replicate hx]; split <;> omega
  · rw [val_cons]
    by_cases hv : v < 0
    · rw [if_pos hv, val_ones]; omega
    · rw [if_neg hv, val_nones]; omega
set_option maxRecDepth 100000 in
set_option maxHeartbeats 4000000 in
theorem Of_c (v : Int) (h0 : -9223372036854775808 ≤ v) (h1 : v ≤ 9223372036854775807) (w : World) : Calls Tryd.prog 43 #[.int .i64 v] w fun e w' => e = .returned (.agg (U (lim v))) ∧ Below w.heap.size w w' := by
  have fin := ext_lim h0 h1
  have lr := lim_len v
  generalize lim v = r at *
  obtain ⟨s, hs⟩ : ∃ s, (if v < 0 then (18446744073709551615 : Int) else 0) = s := ⟨_, rfl⟩
  rw [hs] at fin
  have es : IntKind.u64.wrap (v / 9223372036854775808) = s := by rw [YBits.u64w]; rw [← hs]; split <;> omega
  have e0 : IntKind.u64.wrap v = v % 18446744073709551616 := YBits.u64w v
  have HF := Lib.hid fin
  clear hs fin
  have k1 : Blk ((w.alloc (.cells #[.int .u64 0, .int .u64 0, .int .u64 0, .int .u64 0, .int .u64 0, .int .u64 0, .int .u64 0, .int .u64 0, .int .u64 0, .int .u64 0, .int .u64 0, .int .u64 0, .int .u64 0, .int .u64 0, .int .u64 0, .int .u64 0] 79)).alloc (.cells #[.int .u64 0, .int .u64 0, .int .u64 0, .int .u64 0, .int .u64 0, .int .u64 0, .int .u64 0, .int .u64 0, .int .u64 0, .int .u64 0, .int .u64 0, .int .u64 0, .int .u64 0, .int .u64 0, .int .u64 0, .int .u64 0] 79)) w.heap.size (U zeros) 79 := (Blk.new w (U zeros) 79).alloc _
  have k2 : Blk ((w.alloc (.cells #[.int .u64 0, .int .u64 0, .int .u64 0, .int .u64 0, .int .u64 0, .int .u64 0, .int .u64 0, .int .u64 0, .int .u64 0, .int .u64 0, .int .u64 0, .int .u64 0, .int .u64 0, .int .u64 0, .int .u64 0, .int .u64 0] 79)).alloc (.cells #[.int .u64 0, .int .u64 0, .int .u64 0, .int .u64 0, .int .u64 0, .int .u64 0, .int .u64 0, .int .u64 0, .int .u64 0, .int .u64 0, .int .u64 0, .int .u64 0, .int .u64 0, .int .u64 0, .int .u64 0, .int .u64 0] 79)) (w.heap.size + 1) (U zeros) 79 := by
    have : Blk ((w.alloc (.cells (U zeros) 79)).alloc (.cells (U zeros) 79)) (w.heap.size + 1) (U zeros) 79 := by
      have := Blk.new (w.alloc (.cells (U zeros) 79)) (U zeros) 79
      simpa using this
    exact this
  go_enter Tryd.func43, Tryd.ntmps43
  go_wp2
  go_loopw [5] (fun s5 wx => ∃ k : Nat, k ≤ 16 ∧ s5 = .int .i64 k ∧ Blk wx w.heap.size (U zeros) 79 ∧ Blk wx (w.heap.size + 1) (U (ext s k)) 79 ∧ Below w.heap.size w wx) (fun s5 _ => 16 - (intOf s5).toNat)
  case atStart => exact ⟨0, by omega, rfl, k1, k2, ((Below.refl _ _).alloc (Nat.le_refl _) _).alloc (by simp) _⟩
  case round =>
    clear k1 k2
    obtain ⟨k, hk, rfl, kZ, kA, hb⟩ := hrel
    by_cases hlt : k < 16
    · have il := ext_len (s := s) hk
      have cA : wr.cell? ⟨w.heap.size + 1, k, none⟩ = some (.int .u64 (dg (ext s k) k)) := by rw [kA.cell, U_at (by omega)]
      have fA := kA.free k
      have kA2 := kA.set k (.int .u64 s)
      rw [U_set, ext_set hlt] at kA2
      have j0 : (0 : Int) ≤ (k : Int) := by omega
      have j1 : (k : Int) < 16 := by omega
      clear il
      go_wp2
      go_roundw
      case rel => exact ⟨k + 1, by omega, by go_num, kZ.setOther (by simp) _, kA2, hb.setCell (by simp) _⟩
      case measure => simp [intOf]; omega
    · have hk16 : k = 16 := by omega
      subst hk16
      have il := ext_len (s := s) (Nat.le_refl 16)
      have cA : wr.cell? ⟨w.heap.size + 1, 0, none⟩ = some (.int .u64 (dg (ext s 16) 0)) := by rw [kA.cell, U_at (by omega)]
      have fA := kA.free 0
      have kA2 := kA.set 0 (.int .u64 (v % 18446744073709551616))
      rw [U_set, HF.out] at kA2
      have kZ2 := kZ.setOther (p := ⟨w.heap.size + 1, 0, none⟩) (by simp) (.int .u64 (v % 18446744073709551616))
      clear hlt il
      go_wp2_with (first | (refine ldW kA2 lr _ rfl rfl rfl ?_) | (refine stW kZ2 zeros_len lr _ _ rfl rfl rfl rfl ?_))
      exact bodyPost_ret (res1 Tryd.results43 _ rfl (put_ kZ2) lr) rfl ⟨rfl, below_row (hb.setCell (by simp) _) (by omega) _⟩
theorem amount_c {x : Int} (hx : InW x) (w : World) : Calls Tryd.prog 71 #[.agg (U (lim x))] w fun e w' => e = .returned (.agg (U (lim (ab x)))) ∧ Below w.heap.size w w' := by
  have la := lim_len x
  have ln := lim_len (-x)
  obtain ⟨k1, k2, b0⟩ := start2 w (lim x) _ rfl
  have Bx := fun W => below_c hx W
  have NG := fun W => neg_c x W
  unfold ab
  by_cases h : x < 0
  · rw [if_pos h]
    rw [decide_eq_true h] at Bx
    clear h
    go_enter Tryd.func71, Tryd.ntmps71
    go_wp2_with (refine ldW k1 la _ rfl rfl rfl ?_)
    refine (Bx _).mono ?_; rintro e w1 ⟨rfl, g1⟩
    have m1 := k1.keep g1
    have m2 := k2.keep g1
    have b1 := bb b0 g1
    go_wp2_with (refine ldW m1 la _ rfl rfl rfl ?_)
    refine (NG _).mono ?_; rintro e w2 ⟨rfl, g2⟩
    have n2 := m2.keep g2
    have b2 := bb b1 g2
    go_wp2_with (refine stW n2 zeros_len ln _ _ rfl rfl rfl rfl ?_)
    exact bodyPost_ret (res1 Tryd.results71 _ rfl (put_ n2) ln) rfl ⟨rfl, below_row b2 (by omega) _⟩
  · rw [if_neg h]
    rw [decide_eq_false h] at Bx
    clear h
    go_enter Tryd.func71, Tryd.ntmps71
    go_wp2_with (refine ldW k1 la _ rfl rfl rfl ?_)
    refine (Bx _).mono ?_; rintro e w1 ⟨rfl, g1⟩
    have m1 := k1.keep g1
    have m2 := k2.keep g1
    have b1 := bb b0 g1
    go_wp2_with (first | (refine ldW m1 la _ rfl rfl rfl ?_) | (refine stW m2 zeros_len la _ _ rfl rfl rfl rfl ?_))
    exact bodyPost_ret (res1 Tryd.results71 _ rfl (put_ m2) la) rfl ⟨rfl, below_row b1 (by omega) _⟩
end Go.Proofs.YtfcandmhalhaeaaDoor.YWide
namespace Go.Proofs.YtfcandmhalhaeaaDoor.YWide
open Go.RowKit Go.Proofs.YtfcandmhalhaeaaDoor.YInv Go.Proofs.YtfcandmhalhaeaaDoor.YErr Go.Proofs.YtfcandmhalhaeaaDoor.YRef Go.Proofs.YtfcandmhalhaeaaDoor.YNum Go.Proofs.YtfcandmhalhaeaaDoor.YBits Go.Proofs.YtfcandmhalhaeaaDoor.XCarry Go.Proofs.YtfcandmhalhaeaaDoor.QSy Go.Proofs.YtfcandmhalhaeaaDoorW.PrintWords Go.Proofs.YtfcandmhalhaeaaDoorW.PrintLast
set_option linter.unusedVariables false
set_option linter.unusedSimpArgs false
theorem kdC {w : World} {b : Nat} {l : List Int} {T : TypeId} (k : Blk w b (U l) T) (n : Nat) (hn : n ≤ l.length) (hm : l.length ≤ 9223372036854775807) : Kd.C (Kd.int .u64) w (some ⟨b, 0, none⟩) (l.take n).length (l.take n) := by
  refine ⟨rfl, by rw [List.length_take]; omega, fun _ => ⟨⟨b, 0, none⟩, rfl, fun j p hj => ⟨[.int .u64 p], rfl, rfl, fun i u hu => ?_⟩⟩⟩
  rcases i with _ | i
  · have hu : Value.int .u64 p = u := by simpa using hu
    subst hu
    have e : (⟨b, 0, none⟩ : Addr).add (j * 1 + 0) = ⟨b, j, none⟩ := by unfold Addr.add; split <;> simp_all
    show w.cell? ((⟨b, 0, none⟩ : Addr).add (j * 1 + 0)) = _
    rw [e, k.cell]
    have hj' : l[j]? = some p := by
      rw [List.getElem?_take] at hj
      split at hj
      · exact hj
      · cases hj
    unfold U
    simp [hj']
  · simp at hu
theorem count_tells (K : Nat) (l : List Int) (hl : Dig l) : ∀ n : Nat, n ≤ l.length → l.length < 1099511627776 → (∀ j, n ≤ j → dg l j = 0) → wide_count.l0 (K + n + 1) l (n : Int) = some ((limbs (val l)).length : Int) := by
  intro n
  induction n with
  | zero =>
    intro h hs hz
    rw [wide_count.l0, if_neg (by omega)]
    have : val l = 0 := by
      have : ∀ k, pv l k = 0 := by
        intro k
        induction k with
        | zero => rfl
        | succ k ih => rw [pv, ih, hz k (by omega), Int.zero_mul]; rfl
      exact this _
    rw [this, limbs_nil (by omega)]
    rfl
  | succ n ih =>
    intro h hs hz
    rw [show K + (n + 1) + 1 = (K + n + 1) + 1 by omega, wide_count.l0, if_pos (by omega)]
    have ew : wrap64 (((n + 1 : Nat) : Int) - 1) = (n : Int) := by rw [wid (by omega) (by omega)]; omega
    rw [ew, if_pos (by omega), if_pos (by omega), dg_rd]
    by_cases h0 : dg l n = 0
    · rw [if_pos h0]
      exact ih (by omega) hs (fun j hj => by by_cases e : j = n; rw [e]; exact h0; exact hz j (by omega))
    · rw [if_neg h0]
      have e1 : val l = val (l.take (n + 1)) := by
        unfold val
        rw [show (l.take (n + 1)).length = n + 1 by simp; omega, pv_take _ _ _ (Nat.le_refl _)]
        have : ∀ d, pv l (n + 1 + d) = pv l (n + 1) := by
          intro d
          induction d with
          | zero => rfl
          | succ d ih => rw [← Nat.add_assoc, pv, ih, hz (n + 1 + d) (by omega), Int.zero_mul, Int.add_zero]
        rw [show l.length = n + 1 + (l.length - (n + 1)) by omega, this]
      rw [e1, limbs_of (l.take (n + 1)) (fun x hx => hl x (List.mem_of_mem_take hx)) (.inr (by
        rw [show (l.take (n + 1)).length - 1 = n by simp; omega]
        have : dg (l.take (n + 1)) n = dg l n := by simp [dg]
        rw [this]; exact h0))]
      simp; omega
theorem count_c {w : World} {b : Nat} {x : Int} (k : Blk w b (U (lim x)) 79) (h0 : 0 ≤ x) (h1 : x < 18446744073709551616 ^ 16) :
    Calls Tryd.prog 72 #[.slice (some ⟨b, 0, none⟩) 16 16] w fun e w' => e = .returned (.int .i64 ((limbs x).length : Int)) ∧ ∃ n, w' = w.drewN n := by
  have T := count_tells 16 (lim x) (lim_dig x) 16 (by rw [lim_len]; omega) (by rw [lim_len]; omega) (fun j hj => dg_out (by rw [lim_len]; omega))
  rw [val_lim, Int.emod_eq_of_lt h0 h1] at T
  have C := kdC k 16 (by rw [lim_len]; omega) (by rw [lim_len]; omega)
  have e : (lim x).take 16 = lim x := List.take_of_length_le (by rw [lim_len]; omega)
  rw [e] at C
  have := wide_count.calls (16 + 16 + 1) (some ⟨b, 0, none⟩) 16 (lim x) _ w C (by rw [lim_len]; omega) (by unfold wide_count.f; rw [lim_len]; exact T)
  rw [lim_len] at this
  refine this.mono ?_
  rintro e w' ⟨rfl, ⟨n, rfl⟩⟩
  exact ⟨rfl, n, rfl⟩
/-- So many bits. -/
def BitsIs (n : Int) (t : Nat) : Prop := 0 ≤ n ∧ n < 2 ^ t ∧ (0 < t → 2 ^ (t - 1) ≤ n)
theorem pw_two (k : Nat) : (18446744073709551616 : Int) ^ k = 2 ^ (64 * k) := by rw [Int.pow_mul]; rfl
theorem bits_limbs {n : Int} {L : Nat} (hn : 0 < n) (l0 : 0 < L) (hi : dg (limbs n) ((limbs n).length - 1) < 2 ^ L) (lo : 2 ^ (L - 1) ≤ dg (limbs n) ((limbs n).length - 1)) : BitsIs n (64 * ((limbs n).length - 1) + L) := by
  have hp : 0 < (limbs n).length := limbs_len_pos.2 hn
  obtain ⟨k, hk⟩ : ∃ k, (limbs n).length = k + 1 := ⟨(limbs n).length - 1, by omega⟩
  have e := val_limbs (Int.le_of_lt hn)
  unfold val at e
  rw [hk, pv] at e
  rw [hk, Nat.add_sub_cancel] at hi lo ⊢
  have h1 := pv_nonneg (limbs_dig n) k
  have h2 := pv_lt (limbs_dig n) k
  rw [pw_two] at e h2
  generalize dg (limbs n) k = d at *
  generalize pv (limbs n) k = p at *
  have P : (0 : Int) < 2 ^ (64 * k) := Int.pow_pos (by decide)
  refine ⟨by omega, ?_, fun _ => ?_⟩
  · rw [Int.pow_add, Int.mul_comm]
    have := Int.mul_le_mul_of_nonneg_right (show d + 1 ≤ 2 ^ L by omega) (Int.le_of_lt P)
    rw [Int.add_mul] at this
    omega
  · rw [show 64 * k + L - 1 = 64 * k + (L - 1) by omega, Int.pow_add, Int.mul_comm]
    have := Int.mul_le_mul_of_nonneg_right lo (Int.le_of_lt P)
    omega
theorem bits_zero : BitsIs 0 0 := ⟨by omega, by decide, fun h => by omega⟩
theorem limbs_lt16 {x : Int} (h1 : x < 18446744073709551616 ^ 16) : (limbs x).length ≤ 16 := limbs_len 16 h1
theorem dg_lim_limbs {x : Int} {k : Nat} (h0 : 0 ≤ x) (h1 : x < 18446744073709551616 ^ 16) : dg (lim x) k = dg (limbs x) k := by
  have e : lim x = limbs x ++ List.replicate (16 - (limbs x).length) 0 := by
    symm
    refine lim_eq (by have := limbs_lt16 h1; simp; omega) (fun y hy => ?_) ?_
    · rcases List.mem_append.1 hy with h | h
      · exact limbs_dig x y h
      · rw [List.eq_of_mem_replicate h]; omega
    · have : ∀ (l : List Int) (n : Nat), val (l ++ List.replicate n 0) = val l := by
        intro l n
        induction l with
        | nil => simpa [val, pv] using val_nones n
        | cons y l ih => rw [List.cons_append, val_cons, val_cons, ih]
      rw [this, val_limbs h0]
  rw [e]
  unfold dg
  rw [List.getD_eq_getElem?_getD, List.getD_eq_getElem?_getD]
  by_cases h : k < (limbs x).length
  · rw [List.getElem?_append_left h]
  · rw [List.getElem?_append_right (by omega), List.getElem?_eq_none (show (limbs x).length ≤ k by omega), List.getElem?_replicate]
    split <;> rfl
end Go.Proofs.YtfcandmhalhaeaaDoor.YWide
namespace Go.Proofs.YtfcandmhalhaeaaDoor.YWide
open Go.RowKit Go.Proofs.YtfcandmhalhaeaaDoor.YInv Go.Proofs.YtfcandmhalhaeaaDoor.YErr Go.Proofs.YtfcandmhalhaeaaDoor.YRef Go.Proofs.YtfcandmhalhaeaaDoor.YNum Go.Proofs.YtfcandmhalhaeaaDoor.YBits Go.Proofs.YtfcandmhalhaeaaDoor.XCarry Go.Proofs.YtfcandmhalhaeaaDoor.QSy Go.Proofs.YtfcandmhalhaeaaDoorW.PrintWords Go.Proofs.YtfcandmhalhaeaaDoorW.PrintLast
set_option linter.unusedVariables false
set_option linter.unusedSimpArgs false
theorem ex_13 {C : Prop} {R : Value → Value → Value → Value → Value → Value → Value → Value → Value → Value → Value → Value → Value → Prop} (h : ∃ x0 x1 x2 x3 x4 x5 x6 x7 x8 x9 x10 x11 x12, R x0 x1 x2 x3 x4 x5 x6 x7 x8 x9 x10 x11 x12) (k : ∀ x0 x1 x2 x3 x4 x5 x6 x7 x8 x9 x10 x11 x12, R x0 x1 x2 x3 x4 x5 x6 x7 x8 x9 x10 x11 x12 → C) : C := by
  obtain ⟨x0, h⟩ := h
  obtain ⟨x1, h⟩ := h
  obtain ⟨x2, h⟩ := h
  obtain ⟨x3, h⟩ := h
  obtain ⟨x4, h⟩ := h
  obtain ⟨x5, h⟩ := h
  obtain ⟨x6, h⟩ := h
  obtain ⟨x7, h⟩ := h
  obtain ⟨x8, h⟩ := h
  obtain ⟨x9, h⟩ := h
  obtain ⟨x10, h⟩ := h
  obtain ⟨x11, h⟩ := h
  obtain ⟨x12, h⟩ := h
  exact k x0 x1 x2 x3 x4 x5 x6 x7 x8 x9 x10 x11 x12 h
theorem ex_21 {C : Prop} {R : Value → Value → Value → Value → Value → Value → Value → Value → Value → Value → Value → Value → Value → Value → Value → Value → Value → Value → Value → Value → Value → Prop} (h : ∃ x0 x1 x2 x3 x4 x5 x6 x7 x8 x9 x10 x11 x12 x13 x14 x15 x16 x17 x18 x19 x20, R x0 x1 x2 x3 x4 x5 x6 x7 x8 x9 x10 x11 x12 x13 x14 x15 x16 x17 x18 x19 x20) (k : ∀ x0 x1 x2 x3 x4 x5 x6 x7 x8 x9 x10 x11 x12 x13 x14 x15 x16 x17 x18 x19 x20, R x0 x1 x2 x3 x4 x5 x6 x7 x8 x9 x10 x11 x12 x13 x14 x15 x16 x17 x18 x19 x20 → C) : C := by
  obtain ⟨x0, h⟩ := h
  obtain ⟨x1, h⟩ := h
  obtain ⟨x2, h⟩ := h
  obtain ⟨x3, h⟩ := h
  obtain ⟨x4, h⟩ := h
  obtain ⟨x5, h⟩ := h
  obtain ⟨x6, h⟩ := h
  obtain ⟨x7, h⟩ := h
  obtain ⟨x8, h⟩ := h
  obtain ⟨x9, h⟩ := h
  obtain ⟨x10, h⟩ := h
  obtain ⟨x11, h⟩ := h
  obtain ⟨x12, h⟩ := h
  obtain ⟨x13, h⟩ := h
  obtain ⟨x14, h⟩ := h
  obtain ⟨x15, h⟩ := h
  obtain ⟨x16, h⟩ := h
  obtain ⟨x17, h⟩ := h
  obtain ⟨x18, h⟩ := h
  obtain ⟨x19, h⟩ := h
  obtain ⟨x20, h⟩ := h
  exact k x0 x1 x2 x3 x4 x5 x6 x7 x8 x9 x10 x11 x12 x13 x14 x15 x16 x17 x18 x19 x20 h
set_option maxRecDepth 100000 in
set_option maxHeartbeats 16000000 in
theorem Int64_w {x : Int} (hx : InW x) (w : World) : Calls Tryd.prog 45 #[.agg (U (lim x))] w fun e w' => e = .returned (.tuple #[.int .i64 (fit64 x).1, .bool (fit64 x).2]) ∧ Below w.heap.size w w' := by
  have la := lim_len x
  have k1 := Blk.new w (U (lim x)) 79
  have b0 := (Below.refl w.heap.size w).alloc (Nat.le_refl _) (.cells (U (lim x)) 79)
  have d0 : dg (lim x) 0 = x % 18446744073709551616 := by rw [dg_lim x (by decide)]; simp
  have c0 : (w.alloc (.cells (U (lim x)) 79)).cell? ⟨w.heap.size, 0, none⟩ = some (.int .u64 (x % 18446744073709551616)) := by rw [k1.cell, U_at (by rw [lim_len]; decide), d0]
  obtain ⟨v, hv⟩ : ∃ v, wrap64 (x % 18446744073709551616) = v := ⟨_, rfl⟩
  have v0 : -9223372036854775808 ≤ v ∧ v ≤ 9223372036854775807 := by rw [← hv]; unfold wrap64; omega
  have OF := fun W => Of_c v v0.1 v0.2 W
  have NE := fun W => run_neqW v x W
  have F : (decide (lim v = lim x) = true ∧ fit64 x = (v, true)) ∨ (decide (lim v = lim x) = false ∧ fit64 x = (0, false)) := by
    have iv : InW v := by unfold InW; omega
    by_cases h : -9223372036854775808 ≤ x ∧ x ≤ 9223372036854775807
    · left
      have : v = x := by rw [← hv]; unfold wrap64; omega
      unfold fit64
      rw [if_pos h, this]
      exact ⟨by simp, rfl⟩
    · right
      unfold fit64
      rw [if_neg h]
      exact ⟨by rw [decide_eq_false_iff_not]; exact fun e => h (by rw [← lim_inj iv hx e]; exact v0), rfl⟩
  generalize decide (lim v = lim x) = q at *
  generalize fit64 x = r at *
  clear v0 d0
  go_enter Tryd.func45, Tryd.ntmps45
  go_wp2_with fail
  have N0 := k1.lt
  clear c0
  generalize w.alloc (.cells (U (lim x)) 79) = w2 at *
  rcases F with ⟨rfl, rfl⟩ | ⟨rfl, rfl⟩
  · refine region_steps (fun L a wx => ∃ (x0 x1 x2 x3 x4 x5 x6 x7 x8 x9 x10 x11 x12 : Value), a = { tmps := #[x0, x1, x2, x3, x4, x5, x6, x7, x8, x9, x10, x11, x12], defers := [] } ∧ x1 = .pointer (some ⟨w.heap.size, 0, none⟩) ∧ x4 = .int .i64 v ∧ (L 0 = true → x8 = .int .i64 v) ∧ (L 1 = true → x9 = .agg (U (lim v))) ∧ (L 2 = true → x10 = .agg (U (lim x))) ∧ (L 3 = true → x11 = .bool false) ∧ Blk wx w.heap.size (U (lim x)) 79 ∧ Below w2.heap.size w2 wx) [0, 1, 2, 3] (by kernel_rfl) (by kernel_rfl) (by kernel_rfl) ?start ?steps ?fin
    case start =>
      exact ⟨_, _, _, _, _, _, _, _, _, _, _, _, _, rfl, (by first | rfl | simp only [*]), (by first | rfl | simp only [*]), fun h => absurd h (by decide), fun h => absurd h (by decide), fun h => absurd h (by decide), fun h => absurd h (by decide), k1.drew, (Below.refl _ _).drew⟩
    case steps =>
      refine Steps.cons rfl (fun L a wx K hK hL hp hI => ?_) ?_
      · refine ex_13 hI (fun x0 x1 x2 x3 x4 x5 x6 x7 x8 x9 x10 x11 x12 hI => ?_)
        obtain ⟨rfl, P1, P4, H0, H1, H2, H3, K0, B2⟩ := hI
        clear hp
        subst P4
        go_simp
        exact hK.out _ _ ⟨_, _, _, _, _, _, _, _, _, _, _, _, _, rfl, (by first | exact P1 | rfl), rfl, fun _ => (by first | rfl | simp), H1, H2, H3, K0, B2⟩
      refine Steps.cons rfl (fun L a wx K hK hL hp hI => ?_) ?_
      · refine ex_13 hI (fun x0 x1 x2 x3 x4 x5 x6 x7 x8 x9 x10 x11 x12 hI => ?_)
        obtain ⟨rfl, P1, P4, H0, H1, H2, H3, K0, B2⟩ := hI
        have p0 : L 0 = true := hp ⟨0, .data⟩ (by simp) rfl
        have e0 := H0 p0
        clear hp
        subst e0
        refine wanted_ (by rfl) ?_
        refine goesK_ Tryd.func43 (by kernel_rfl) rfl #[.int .i64 v] rfl (by simp [Act.eval]) ?_
        refine (OF _).mono ?_
        rintro e w' ⟨rfl, g⟩
        refine ⟨_, rfl, ?_⟩
        (try simp only [Act.put, List.setIfInBounds_toArray, List.set_cons_zero, List.set_cons_succ])
        exact hK.out _ _ ⟨_, _, _, _, _, _, _, _, _, _, _, _, _, rfl, P1, P4, fun _ => rfl, fun _ => rfl, H2, H3, (Blk.keep K0 g), bb B2 g⟩
      refine Steps.cons rfl (fun L a wx K hK hL hp hI => ?_) ?_
      · refine ex_13 hI (fun x0 x1 x2 x3 x4 x5 x6 x7 x8 x9 x10 x11 x12 hI => ?_)
        obtain ⟨rfl, P1, P4, H0, H1, H2, H3, K0, B2⟩ := hI
        clear hp
        subst P1
        refine wanted_ (by rfl) ?_
        refine wp_load_row 79 _ rfl w.heap.size rfl 79 (U (lim x)) (0, 0) _ K0 Tryd.underlying79 rfl (ofLen la) ?_
        (try simp only [Act.put, List.setIfInBounds_toArray, List.set_cons_zero, List.set_cons_succ])
        exact hK.out _ _ ⟨_, _, _, _, _, _, _, _, _, _, _, _, _, rfl, rfl, P4, H0, H1, fun _ => rfl, H3, K0, B2⟩
      refine Steps.cons rfl (fun L a wx K hK hL hp hI => ?_) ?_
      · refine ex_13 hI (fun x0 x1 x2 x3 x4 x5 x6 x7 x8 x9 x10 x11 x12 hI => ?_)
        obtain ⟨rfl, P1, P4, H0, H1, H2, H3, K0, B2⟩ := hI
        have p1 : L 1 = true := hp ⟨1, .data⟩ (by simp) rfl
        have e1 := H1 p1
        have p2 : L 2 = true := hp ⟨2, .data⟩ (by simp) rfl
        have e2 := H2 p2
        clear hp
        subst e1 e2
        go_simp
        exact hK.out _ _ ⟨_, _, _, _, _, _, _, _, _, _, _, _, _, rfl, (by first | exact P1 | rfl), (by first | exact P4 | rfl), H0, fun _ => rfl, fun _ => rfl, fun _ => (by first | rfl | simp), K0, B2⟩
      exact Steps.nil
    case fin =>
      intro L a wx hall hI
      refine ex_13 hI (fun x0 x1 x2 x3 x4 x5 x6 x7 x8 x9 x10 x11 x12 hI => ?_)
      obtain ⟨rfl, P1, P4, H0, H1, H2, H3, K0, B2⟩ := hI
      have E0 := H0 (hall 0 (by decide))
      have E1 := H1 (hall 1 (by decide))
      have E2 := H2 (hall 2 (by decide))
      have E3 := H3 (hall 3 (by decide))
      clear hall H0 H1 H2 H3
      subst E0 E1 E2 E3 P1 P4
      go_wp2_with fail
      go_ret2
      exact ⟨rfl, bb b0 B2⟩
  · refine region_steps (fun L a wx => ∃ (x0 x1 x2 x3 x4 x5 x6 x7 x8 x9 x10 x11 x12 : Value), a = { tmps := #[x0, x1, x2, x3, x4, x5, x6, x7, x8, x9, x10, x11, x12], defers := [] } ∧ x1 = .pointer (some ⟨w.heap.size, 0, none⟩) ∧ x4 = .int .i64 v ∧ (L 0 = true → x8 = .int .i64 v) ∧ (L 1 = true → x9 = .agg (U (lim v))) ∧ (L 2 = true → x10 = .agg (U (lim x))) ∧ (L 3 = true → x11 = .bool true) ∧ Blk wx w.heap.size (U (lim x)) 79 ∧ Below w2.heap.size w2 wx) [0, 1, 2, 3] (by kernel_rfl) (by kernel_rfl) (by kernel_rfl) ?start ?steps ?fin
    case start =>
      exact ⟨_, _, _, _, _, _, _, _, _, _, _, _, _, rfl, (by first | rfl | simp only [*]), (by first | rfl | simp only [*]), fun h => absurd h (by decide), fun h => absurd h (by decide), fun h => absurd h (by decide), fun h => absurd h (by decide), k1.drew, (Below.refl _ _).drew⟩
    case steps =>
      refine Steps.cons rfl (fun L a wx K hK hL hp hI => ?_) ?_
      · refine ex_13 hI (fun x0 x1 x2 x3 x4 x5 x6 x7 x8 x9 x10 x11 x12 hI => ?_)
        obtain ⟨rfl, P1, P4, H0, H1, H2, H3, K0, B2⟩ := hI
        clear hp
        subst P4
        go_simp
        exact hK.out _ _ ⟨_, _, _, _, _, _, _, _, _, _, _, _, _, rfl, (by first | exact P1 | rfl), rfl, fun _ => (by first | rfl | simp), H1, H2, H3, K0, B2⟩
      refine Steps.cons rfl (fun L a wx K hK hL hp hI => ?_) ?_
      · refine ex_13 hI (fun x0 x1 x2 x3 x4 x5 x6 x7 x8 x9 x10 x11 x12 hI => ?_)
        obtain ⟨rfl, P1, P4, H0, H1, H2, H3, K0, B2⟩ := hI
        have p0 : L 0 = true := hp ⟨0, .data⟩ (by simp) rfl
        have e0 := H0 p0
        clear hp
        subst e0
        refine wanted_ (by rfl) ?_
        refine goesK_ Tryd.func43 (by kernel_rfl) rfl #[.int .i64 v] rfl (by simp [Act.eval]) ?_
        refine (OF _).mono ?_
        rintro e w' ⟨rfl, g⟩
        refine ⟨_, rfl, ?_⟩
        (try simp only [Act.put, List.setIfInBounds_toArray, List.set_cons_zero, List.set_cons_succ])
        exact hK.out _ _ ⟨_, _, _, _, _, _, _, _, _, _, _, _, _, rfl, P1, P4, fun _ => rfl, fun _ => rfl, H2, H3, (Blk.keep K0 g), bb B2 g⟩
      refine Steps.cons rfl (fun L a wx K hK hL hp hI => ?_) ?_
      · refine ex_13 hI (fun x0 x1 x2 x3 x4 x5 x6 x7 x8 x9 x10 x11 x12 hI => ?_)
        obtain ⟨rfl, P1, P4, H0, H1, H2, H3, K0, B2⟩ := hI
        clear hp
        subst P1
        refine wanted_ (by rfl) ?_
        refine wp_load_row 79 _ rfl w.heap.size rfl 79 (U (lim x)) (0, 0) _ K0 Tryd.underlying79 rfl (ofLen la) ?_
        (try simp only [Act.put, List.setIfInBounds_toArray, List.set_cons_zero, List.set_cons_succ])
        exact hK.out _ _ ⟨_, _, _, _, _, _, _, _, _, _, _, _, _, rfl, rfl, P4, H0, H1, fun _ => rfl, H3, K0, B2⟩
      refine Steps.cons rfl (fun L a wx K hK hL hp hI => ?_) ?_
      · refine ex_13 hI (fun x0 x1 x2 x3 x4 x5 x6 x7 x8 x9 x10 x11 x12 hI => ?_)
        obtain ⟨rfl, P1, P4, H0, H1, H2, H3, K0, B2⟩ := hI
        have p1 : L 1 = true := hp ⟨1, .data⟩ (by simp) rfl
        have e1 := H1 p1
        have p2 : L 2 = true := hp ⟨2, .data⟩ (by simp) rfl
        have e2 := H2 p2
        clear hp
        subst e1 e2
        go_simp
        exact hK.out _ _ ⟨_, _, _, _, _, _, _, _, _, _, _, _, _, rfl, (by first | exact P1 | rfl), (by first | exact P4 | rfl), H0, fun _ => rfl, fun _ => rfl, fun _ => (by first | rfl | simp), K0, B2⟩
      exact Steps.nil
    case fin =>
      intro L a wx hall hI
      refine ex_13 hI (fun x0 x1 x2 x3 x4 x5 x6 x7 x8 x9 x10 x11 x12 hI => ?_)
      obtain ⟨rfl, P1, P4, H0, H1, H2, H3, K0, B2⟩ := hI
      have E0 := H0 (hall 0 (by decide))
      have E1 := H1 (hall 1 (by decide))
      have E2 := H2 (hall 2 (by decide))
      have E3 := H3 (hall 3 (by decide))
      clear hall H0 H1 H2 H3
      subst E0 E1 E2 E3 P1 P4
      go_wp2_with fail
      go_ret2
      exact ⟨rfl, bb b0 B2⟩
set_option maxRecDepth 100000 in
set_option maxHeartbeats 16000000 in
theorem signed_p {x : Int} (h0 : 0 ≤ x) (h1 : x < 18446744073709551616 ^ 16) (w : World) : Calls Tryd.prog 75 #[.agg (U (lim x)), .bool false] w fun e w' => e = .returned (.tuple #[.agg (U (lim x)), .bool (decide (InW x))]) ∧ Below w.heap.size w w' := by
  have la := lim_len x
  have Bx := fun W => below_t x W
  have T : decide (InW x) = !top (lim x) := by
    rw [top_pos h0 h1]
    by_cases h : InW x
    · rw [decide_eq_true h, eq_comm, Bool.not_eq_true', decide_eq_false_iff_not]; unfold InW at h; omega
    · rw [decide_eq_false h, eq_comm, Bool.not_eq_false', decide_eq_true_eq]; unfold InW at h; omega
  rw [T]
  generalize top (lim x) = tx at *
  clear T
  obtain ⟨k0, k1, BW⟩ := start2 w (lim x) _ rfl
  go_enter Tryd.func75, Tryd.ntmps75
  go_wp2_with fail
  have N0 := k0.lt
  have N1 := k1.lt
  have ex : ((w.alloc (.cells (U (lim x)) 79)).alloc (.cells #[.int .u64 0, .int .u64 0, .int .u64 0, .int .u64 0, .int .u64 0, .int .u64 0, .int .u64 0, .int .u64 0, .int .u64 0, .int .u64 0, .int .u64 0, .int .u64 0, .int .u64 0, .int .u64 0, .int .u64 0, .int .u64 0] 79)) = ((w.alloc (.cells (U (lim x)) 79)).alloc (.cells (U zeros) 79)) := rfl
  rw [ex]
  clear ex
  generalize ((w.alloc (.cells (U (lim x)) 79)).alloc (.cells (U zeros) 79)) = w1 at *
  refine region_steps (fun L a wx => ∃ (x0 x1 x2 x3 x4 x5 x6 x7 x8 x9 x10 x11 x12 x13 x14 x15 x16 x17 x18 x19 x20 : Value), a = { tmps := #[x0, x1, x2, x3, x4, x5, x6, x7, x8, x9, x10, x11, x12, x13, x14, x15, x16, x17, x18, x19, x20], defers := [] } ∧ x2 = .pointer (some ⟨w.heap.size, 0, none⟩) ∧ x4 = .pointer (some ⟨(w.heap.size + 1), 0, none⟩) ∧ (L 0 = true → x17 = .agg (U (lim x))) ∧ (L 1 = true → x18 = .agg (U (lim x))) ∧ (L 2 = true → x19 = .bool tx) ∧ (L 3 = true → x20 = .bool (!tx)) ∧ (L 5 = true → x5 = .bool (!tx)) ∧ Blk wx w.heap.size (U (lim x)) 79 ∧ (L 4 = false → Blk wx (w.heap.size + 1) (U (zeros)) 79) ∧ (L 4 = true → Blk wx (w.heap.size + 1) (U (lim x)) 79) ∧ w1.heap.size ≤ wx.heap.size ∧ Below w.heap.size w wx) [0, 1, 2, 3, 4, 5] (by kernel_rfl) (by kernel_rfl) (by kernel_rfl) ?start ?steps ?fin
  case start =>
    exact ⟨_, _, _, _, _, _, _, _, _, _, _, _, _, _, _, _, _, _, _, _, _, rfl, (by first | rfl | simp only [*]), (by first | rfl | simp only [*]), fun h => absurd h (by decide), fun h => absurd h (by decide), fun h => absurd h (by decide), fun h => absurd h (by decide), fun h => absurd h (by decide), k0.drew, fun _ => k1.drew, fun h => absurd h (by decide), Nat.le_refl _, BW.drew⟩
  case steps =>
    refine Steps.cons rfl (fun L a wx K hK hL hp hI => ?_) ?_
    · refine ex_21 hI (fun x0 x1 x2 x3 x4 x5 x6 x7 x8 x9 x10 x11 x12 x13 x14 x15 x16 x17 x18 x19 x20 hI => ?_)
      obtain ⟨rfl, P2, P4, H0, H1, H2, H3, H5, K0, F1, G1, B2, BW⟩ := hI
      clear hp
      subst P2
      refine wanted_ (by rfl) ?_
      refine wp_load_row 79 _ rfl w.heap.size rfl 79 (U (lim x)) (0, 0) _ K0 Tryd.underlying79 rfl (ofLen la) ?_
      (try simp only [Act.put, List.setIfInBounds_toArray, List.set_cons_zero, List.set_cons_succ])
      exact hK.out _ _ ⟨_, _, _, _, _, _, _, _, _, _, _, _, _, _, _, _, _, _, _, _, _, rfl, rfl, P4, fun _ => rfl, H1, H2, H3, H5, K0, fun h => (F1 h), fun h => (G1 h), B2, BW⟩
    refine Steps.cons rfl (fun L a wx K hK hL hp hI => ?_) ?_
    · refine ex_21 hI (fun x0 x1 x2 x3 x4 x5 x6 x7 x8 x9 x10 x11 x12 x13 x14 x15 x16 x17 x18 x19 x20 hI => ?_)
      obtain ⟨rfl, P2, P4, H0, H1, H2, H3, H5, K0, F1, G1, B2, BW⟩ := hI
      clear hp
      subst P2
      refine wanted_ (by rfl) ?_
      refine wp_load_row 79 _ rfl w.heap.size rfl 79 (U (lim x)) (0, 0) _ K0 Tryd.underlying79 rfl (ofLen la) ?_
      (try simp only [Act.put, List.setIfInBounds_toArray, List.set_cons_zero, List.set_cons_succ])
      exact hK.out _ _ ⟨_, _, _, _, _, _, _, _, _, _, _, _, _, _, _, _, _, _, _, _, _, rfl, rfl, P4, H0, fun _ => rfl, H2, H3, H5, K0, fun h => (F1 h), fun h => (G1 h), B2, BW⟩
    refine Steps.cons rfl (fun L a wx K hK hL hp hI => ?_) ?_
    · refine ex_21 hI (fun x0 x1 x2 x3 x4 x5 x6 x7 x8 x9 x10 x11 x12 x13 x14 x15 x16 x17 x18 x19 x20 hI => ?_)
      obtain ⟨rfl, P2, P4, H0, H1, H2, H3, H5, K0, F1, G1, B2, BW⟩ := hI
      have p1 : L 1 = true := hp ⟨1, .data⟩ (by simp) rfl
      have e1 := H1 p1
      clear hp
      subst e1
      refine wanted_ (by rfl) ?_
      refine goesK_ Tryd.func58 (by kernel_rfl) rfl #[.agg (U (lim x))] rfl (by simp [Act.eval]) ?_
      refine (Bx _).mono ?_
      rintro e w' ⟨rfl, g⟩
      refine ⟨_, rfl, ?_⟩
      (try simp only [Act.put, List.setIfInBounds_toArray, List.set_cons_zero, List.set_cons_succ])
      exact hK.out _ _ ⟨_, _, _, _, _, _, _, _, _, _, _, _, _, _, _, _, _, _, _, _, _, rfl, P2, P4, H0, fun _ => rfl, fun _ => rfl, H3, H5, (Blk.keep K0 g), fun h => (Blk.keep (F1 h) g), fun h => (Blk.keep (G1 h) g), Nat.le_trans B2 g.size, bb BW g⟩
    refine Steps.cons rfl (fun L a wx K hK hL hp hI => ?_) ?_
    · refine ex_21 hI (fun x0 x1 x2 x3 x4 x5 x6 x7 x8 x9 x10 x11 x12 x13 x14 x15 x16 x17 x18 x19 x20 hI => ?_)
      obtain ⟨rfl, P2, P4, H0, H1, H2, H3, H5, K0, F1, G1, B2, BW⟩ := hI
      have p2 : L 2 = true := hp ⟨2, .data⟩ (by simp) rfl
      have e2 := H2 p2
      clear hp
      subst e2
      go_simp
      exact hK.out _ _ ⟨_, _, _, _, _, _, _, _, _, _, _, _, _, _, _, _, _, _, _, _, _, rfl, (by first | exact P2 | rfl), (by first | exact P4 | rfl), H0, H1, fun _ => rfl, fun _ => (by first | rfl | simp), H5, K0, fun h => (F1 h), fun h => (G1 h), B2, BW⟩
    refine Steps.cons rfl (fun L a wx K hK hL hp hI => ?_) ?_
    · refine ex_21 hI (fun x0 x1 x2 x3 x4 x5 x6 x7 x8 x9 x10 x11 x12 x13 x14 x15 x16 x17 x18 x19 x20 hI => ?_)
      obtain ⟨rfl, P2, P4, H0, H1, H2, H3, H5, K0, F1, G1, B2, BW⟩ := hI
      have p0 : L 0 = true := hp ⟨0, .data⟩ (by simp) rfl
      have e0 := H0 p0
      clear hp
      subst e0 P4
      have N_0 := N0
      have N_1 := N1
      refine wanted_ (by rfl) ?_
      refine wp_store_row 79 _ _ rfl (w.heap.size + 1) (U (lim x)) rfl rfl 79 (U (zeros)) (F1 hL) (ofLen la) (by rw [U_size, U_size, zeros_len, la]) (one_cell _) ?_
      (try simp only [Act.put, List.setIfInBounds_toArray, List.set_cons_zero, List.set_cons_succ])
      exact hK.out _ _ ⟨_, _, _, _, _, _, _, _, _, _, _, _, _, _, _, _, _, _, _, _, _, rfl, P2, rfl, fun _ => rfl, H1, H2, H3, H5, (far_ K0 (by omega)), fun h => absurd h (by simp [YInv.up]), fun _ => put_ (F1 hL), (by simp; exact B2), below_row BW (by omega) _⟩
    refine Steps.cons rfl (fun L a wx K hK hL hp hI => ?_) ?_
    · refine ex_21 hI (fun x0 x1 x2 x3 x4 x5 x6 x7 x8 x9 x10 x11 x12 x13 x14 x15 x16 x17 x18 x19 x20 hI => ?_)
      obtain ⟨rfl, P2, P4, H0, H1, H2, H3, H5, K0, F1, G1, B2, BW⟩ := hI
      have p3 : L 3 = true := hp ⟨3, .data⟩ (by simp) rfl
      have e3 := H3 p3
      clear hp
      subst e3
      go_simp
      exact hK.out _ _ ⟨_, _, _, _, _, _, _, _, _, _, _, _, _, _, _, _, _, _, _, _, _, rfl, (by first | exact P2 | rfl), (by first | exact P4 | rfl), H0, H1, H2, fun _ => rfl, fun _ => (by first | rfl | simp), K0, fun h => (F1 h), fun h => (G1 h), B2, BW⟩
    exact Steps.nil
  case fin =>
    intro L a wx hall hI
    refine ex_21 hI (fun x0 x1 x2 x3 x4 x5 x6 x7 x8 x9 x10 x11 x12 x13 x14 x15 x16 x17 x18 x19 x20 hI => ?_)
    obtain ⟨rfl, P2, P4, H0, H1, H2, H3, H5, K0, F1, G1, B2, BW⟩ := hI
    have E0 := H0 (hall 0 (by decide))
    have E1 := H1 (hall 1 (by decide))
    have E2 := H2 (hall 2 (by decide))
    have E3 := H3 (hall 3 (by decide))
    have E5 := H5 (hall 5 (by decide))
    have K1 := G1 (hall 4 (by decide))
    clear hall H0 H1 H2 H3 H5 F1 G1
    subst E0 E1 E2 E3 E5 P2 P4
    go_wp2_with fail
    exact bodyPost_ret (res2 Tryd.results75 _ rfl K1 la) rfl ⟨rfl, BW⟩
set_option maxRecDepth 100000 in
set_option maxHeartbeats 16000000 in
theorem signed_m {x : Int} (h0 : 0 ≤ x) (h1 : x < 18446744073709551616 ^ 16) (w : World) : Calls Tryd.prog 75 #[.agg (U (lim x)), .bool true] w fun e w' => e = .returned (.tuple #[.agg (U (lim (-x))), .bool (decide (InW (-x)))]) ∧ Below w.heap.size w w' := by
  have la := lim_len x
  have ln := lim_len (-x)
  have Bx := fun W => below_t (-x) W
  have NG := fun W => neg_c x W
  have EQ := fun W => run_eqlZ (-x) W
  have T : decide (InW (-x)) = (top (lim (-x)) || decide (lim (-x) = zeros)) := by
    rw [top_wide (by omega) (by omega)]
    by_cases hz : x = 0
    · subst hz; decide
    · have e : decide (lim (-x) = zeros) = false := by
        rw [decide_eq_false_iff_not, zeros_lim]
        intro h
        have := congrArg val h
        rw [val_lim, val_lim] at this
        omega
      rw [e, Bool.or_false, decide_eq_decide]
      unfold InW
      omega
  rw [T]
  generalize top (lim (-x)) = tx at *
  generalize decide (lim (-x) = zeros) = ez at *
  clear T
  obtain ⟨k0, k1, b0⟩ := start2 w (lim x) _ rfl
  go_enter Tryd.func75, Tryd.ntmps75
  go_wp2_with (refine ldW k0 la _ rfl rfl rfl ?_)
  refine (NG _).mono ?_; rintro e w0 ⟨rfl, g0⟩
  have j0 := k0.keep g0
  have k1 := k1.keep g0
  have b1 := bb b0 g0
  go_wp2_with (refine stW j0 la ln _ _ rfl rfl rfl rfl ?_)
  have k0 := put_ (cs := U (lim (-x))) j0
  have k1 := far_ (b := w.heap.size) (cs := U (lim (-x))) k1 (by omega)
  have BW := below_row b1 (Nat.le_refl _) (U (lim (-x)))
  have N0 := k0.lt
  have N1 := k1.lt
  clear j0 b1 b0 g0
  generalize w0.setRow w.heap.size (U (lim (-x))) = w1 at *
  cases tx
  · refine region_steps (fun L a wx => ∃ (x0 x1 x2 x3 x4 x5 x6 x7 x8 x9 x10 x11 x12 x13 x14 x15 x16 x17 x18 x19 x20 : Value), a = { tmps := #[x0, x1, x2, x3, x4, x5, x6, x7, x8, x9, x10, x11, x12, x13, x14, x15, x16, x17, x18, x19, x20], defers := [] } ∧ x2 = .pointer (some ⟨w.heap.size, 0, none⟩) ∧ x4 = .pointer (some ⟨(w.heap.size + 1), 0, none⟩) ∧ (L 0 = true → x9 = .agg (U (lim (-x)))) ∧ (L 1 = true → x10 = .agg (U (lim (-x)))) ∧ (L 2 = true → x11 = .bool false) ∧ (L 3 = true → x12 = .bool false) ∧ (L 4 = true → x13 = .agg (U (lim (-x)))) ∧ (L 5 = true → x14 = .agg #[.int .u64 0, .int .u64 0, .int .u64 0, .int .u64 0, .int .u64 0, .int .u64 0, .int .u64 0, .int .u64 0, .int .u64 0, .int .u64 0, .int .u64 0, .int .u64 0, .int .u64 0, .int .u64 0, .int .u64 0, .int .u64 0]) ∧ (L 6 = true → x15 = .bool ez) ∧ (L 7 = true → x16 = .bool ez) ∧ (L 9 = true → x5 = .bool ez) ∧ Blk wx w.heap.size (U (lim (-x))) 79 ∧ (L 8 = false → Blk wx (w.heap.size + 1) (U (zeros)) 79) ∧ (L 8 = true → Blk wx (w.heap.size + 1) (U (lim (-x))) 79) ∧ w1.heap.size ≤ wx.heap.size ∧ Below w.heap.size w wx) [0, 1, 2, 3, 4, 5, 6, 7, 8, 9] (by kernel_rfl) (by kernel_rfl) (by kernel_rfl) ?start ?steps ?fin
    case start =>
      exact ⟨_, _, _, _, _, _, _, _, _, _, _, _, _, _, _, _, _, _, _, _, _, rfl, (by first | rfl | simp only [*]), (by first | rfl | simp only [*]), fun h => absurd h (by decide), fun h => absurd h (by decide), fun h => absurd h (by decide), fun h => absurd h (by decide), fun h => absurd h (by decide), fun h => absurd h (by decide), fun h => absurd h (by decide), fun h => absurd h (by decide), fun h => absurd h (by decide), k0.drew, fun _ => k1.drew, fun h => absurd h (by decide), Nat.le_refl _, BW.drew⟩
    case steps =>
      refine Steps.cons rfl (fun L a wx K hK hL hp hI => ?_) ?_
      · refine ex_21 hI (fun x0 x1 x2 x3 x4 x5 x6 x7 x8 x9 x10 x11 x12 x13 x14 x15 x16 x17 x18 x19 x20 hI => ?_)
        obtain ⟨rfl, P2, P4, H0, H1, H2, H3, H4, H5, H6, H7, H9, K0, F1, G1, B2, BW⟩ := hI
        clear hp
        subst P2
        refine wanted_ (by rfl) ?_
        refine wp_load_row 79 _ rfl w.heap.size rfl 79 (U (lim (-x))) (0, 0) _ K0 Tryd.underlying79 rfl (ofLen ln) ?_
        (try simp only [Act.put, List.setIfInBounds_toArray, List.set_cons_zero, List.set_cons_succ])
        exact hK.out _ _ ⟨_, _, _, _, _, _, _, _, _, _, _, _, _, _, _, _, _, _, _, _, _, rfl, rfl, P4, fun _ => rfl, H1, H2, H3, H4, H5, H6, H7, H9, K0, fun h => (F1 h), fun h => (G1 h), B2, BW⟩
      refine Steps.cons rfl (fun L a wx K hK hL hp hI => ?_) ?_
      · refine ex_21 hI (fun x0 x1 x2 x3 x4 x5 x6 x7 x8 x9 x10 x11 x12 x13 x14 x15 x16 x17 x18 x19 x20 hI => ?_)
        obtain ⟨rfl, P2, P4, H0, H1, H2, H3, H4, H5, H6, H7, H9, K0, F1, G1, B2, BW⟩ := hI
        clear hp
        subst P2
        refine wanted_ (by rfl) ?_
        refine wp_load_row 79 _ rfl w.heap.size rfl 79 (U (lim (-x))) (0, 0) _ K0 Tryd.underlying79 rfl (ofLen ln) ?_
        (try simp only [Act.put, List.setIfInBounds_toArray, List.set_cons_zero, List.set_cons_succ])
        exact hK.out _ _ ⟨_, _, _, _, _, _, _, _, _, _, _, _, _, _, _, _, _, _, _, _, _, rfl, rfl, P4, H0, fun _ => rfl, H2, H3, H4, H5, H6, H7, H9, K0, fun h => (F1 h), fun h => (G1 h), B2, BW⟩
      refine Steps.cons rfl (fun L a wx K hK hL hp hI => ?_) ?_
      · refine ex_21 hI (fun x0 x1 x2 x3 x4 x5 x6 x7 x8 x9 x10 x11 x12 x13 x14 x15 x16 x17 x18 x19 x20 hI => ?_)
        obtain ⟨rfl, P2, P4, H0, H1, H2, H3, H4, H5, H6, H7, H9, K0, F1, G1, B2, BW⟩ := hI
        have p1 : L 1 = true := hp ⟨1, .data⟩ (by simp) rfl
        have e1 := H1 p1
        clear hp
        subst e1
        refine wanted_ (by rfl) ?_
        refine goesK_ Tryd.func58 (by kernel_rfl) rfl #[.agg (U (lim (-x)))] rfl (by simp [Act.eval]) ?_
        refine (Bx _).mono ?_
        rintro e w' ⟨rfl, g⟩
        refine ⟨_, rfl, ?_⟩
        (try simp only [Act.put, List.setIfInBounds_toArray, List.set_cons_zero, List.set_cons_succ])
        exact hK.out _ _ ⟨_, _, _, _, _, _, _, _, _, _, _, _, _, _, _, _, _, _, _, _, _, rfl, P2, P4, H0, fun _ => rfl, fun _ => rfl, H3, H4, H5, H6, H7, H9, (Blk.keep K0 g), fun h => (Blk.keep (F1 h) g), fun h => (Blk.keep (G1 h) g), Nat.le_trans B2 g.size, bb BW g⟩
      refine Steps.cons rfl (fun L a wx K hK hL hp hI => ?_) ?_
      · refine ex_21 hI (fun x0 x1 x2 x3 x4 x5 x6 x7 x8 x9 x10 x11 x12 x13 x14 x15 x16 x17 x18 x19 x20 hI => ?_)
        obtain ⟨rfl, P2, P4, H0, H1, H2, H3, H4, H5, H6, H7, H9, K0, F1, G1, B2, BW⟩ := hI
        have p2 : L 2 = true := hp ⟨2, .data⟩ (by simp) rfl
        have e2 := H2 p2
        clear hp
        subst e2
        go_simp
        exact hK.out _ _ ⟨_, _, _, _, _, _, _, _, _, _, _, _, _, _, _, _, _, _, _, _, _, rfl, (by first | exact P2 | rfl), (by first | exact P4 | rfl), H0, H1, fun _ => rfl, fun _ => (by first | rfl | simp), H4, H5, H6, H7, H9, K0, fun h => (F1 h), fun h => (G1 h), B2, BW⟩
      refine Steps.cons rfl (fun L a wx K hK hL hp hI => ?_) ?_
      · refine ex_21 hI (fun x0 x1 x2 x3 x4 x5 x6 x7 x8 x9 x10 x11 x12 x13 x14 x15 x16 x17 x18 x19 x20 hI => ?_)
        obtain ⟨rfl, P2, P4, H0, H1, H2, H3, H4, H5, H6, H7, H9, K0, F1, G1, B2, BW⟩ := hI
        have p3 : L 3 = true := hp ⟨3, .guard⟩ (by simp) rfl
        have e3 := H3 p3
        clear hp
        subst e3 P2
        refine wanted_ (by rfl) ?_
        refine wp_load_row 79 _ rfl w.heap.size rfl 79 (U (lim (-x))) (0, 0) _ K0 Tryd.underlying79 rfl (ofLen ln) ?_
        (try simp only [Act.put, List.setIfInBounds_toArray, List.set_cons_zero, List.set_cons_succ])
        exact hK.out _ _ ⟨_, _, _, _, _, _, _, _, _, _, _, _, _, _, _, _, _, _, _, _, _, rfl, rfl, P4, H0, H1, H2, fun _ => rfl, fun _ => rfl, H5, H6, H7, H9, K0, fun h => (F1 h), fun h => (G1 h), B2, BW⟩
      refine Steps.cons rfl (fun L a wx K hK hL hp hI => ?_) ?_
      · refine ex_21 hI (fun x0 x1 x2 x3 x4 x5 x6 x7 x8 x9 x10 x11 x12 x13 x14 x15 x16 x17 x18 x19 x20 hI => ?_)
        obtain ⟨rfl, P2, P4, H0, H1, H2, H3, H4, H5, H6, H7, H9, K0, F1, G1, B2, BW⟩ := hI
        have p3 : L 3 = true := hp ⟨3, .guard⟩ (by simp) rfl
        have e3 := H3 p3
        clear hp
        subst e3
        go_simp
        exact hK.out _ _ ⟨_, _, _, _, _, _, _, _, _, _, _, _, _, _, _, _, _, _, _, _, _, rfl, (by first | exact P2 | rfl), (by first | exact P4 | rfl), H0, H1, H2, fun _ => rfl, H4, fun _ => (by first | rfl | simp), H6, H7, H9, K0, fun h => (F1 h), fun h => (G1 h), B2, BW⟩
      refine Steps.cons rfl (fun L a wx K hK hL hp hI => ?_) ?_
      · refine ex_21 hI (fun x0 x1 x2 x3 x4 x5 x6 x7 x8 x9 x10 x11 x12 x13 x14 x15 x16 x17 x18 x19 x20 hI => ?_)
        obtain ⟨rfl, P2, P4, H0, H1, H2, H3, H4, H5, H6, H7, H9, K0, F1, G1, B2, BW⟩ := hI
        have p4 : L 4 = true := hp ⟨4, .data⟩ (by simp) rfl
        have e4 := H4 p4
        have p5 : L 5 = true := hp ⟨5, .data⟩ (by simp) rfl
        have e5 := H5 p5
        have p3 : L 3 = true := hp ⟨3, .guard⟩ (by simp) rfl
        have e3 := H3 p3
        clear hp
        subst e4 e5 e3
        go_simp
        exact hK.out _ _ ⟨_, _, _, _, _, _, _, _, _, _, _, _, _, _, _, _, _, _, _, _, _, rfl, (by first | exact P2 | rfl), (by first | exact P4 | rfl), H0, H1, H2, fun _ => rfl, fun _ => rfl, fun _ => rfl, fun _ => (by first | rfl | simp), H7, H9, K0, fun h => (F1 h), fun h => (G1 h), B2, BW⟩
      refine Steps.cons rfl (fun L a wx K hK hL hp hI => ?_) ?_
      · refine ex_21 hI (fun x0 x1 x2 x3 x4 x5 x6 x7 x8 x9 x10 x11 x12 x13 x14 x15 x16 x17 x18 x19 x20 hI => ?_)
        obtain ⟨rfl, P2, P4, H0, H1, H2, H3, H4, H5, H6, H7, H9, K0, F1, G1, B2, BW⟩ := hI
        have p3 : L 3 = true := hp ⟨3, .data⟩ (by simp) rfl
        have e3 := H3 p3
        have p6 : L 6 = true := hp ⟨6, .data⟩ (by simp) rfl
        have e6 := H6 p6
        clear hp
        subst e3 e6
        go_simp
        exact hK.out _ _ ⟨_, _, _, _, _, _, _, _, _, _, _, _, _, _, _, _, _, _, _, _, _, rfl, (by first | exact P2 | rfl), (by first | exact P4 | rfl), H0, H1, H2, fun _ => rfl, H4, H5, fun _ => rfl, fun _ => (by first | rfl | simp), H9, K0, fun h => (F1 h), fun h => (G1 h), B2, BW⟩
      refine Steps.cons rfl (fun L a wx K hK hL hp hI => ?_) ?_
      · refine ex_21 hI (fun x0 x1 x2 x3 x4 x5 x6 x7 x8 x9 x10 x11 x12 x13 x14 x15 x16 x17 x18 x19 x20 hI => ?_)
        obtain ⟨rfl, P2, P4, H0, H1, H2, H3, H4, H5, H6, H7, H9, K0, F1, G1, B2, BW⟩ := hI
        have p0 : L 0 = true := hp ⟨0, .data⟩ (by simp) rfl
        have e0 := H0 p0
        clear hp
        subst e0 P4
        have N_0 := N0
        have N_1 := N1
        refine wanted_ (by rfl) ?_
        refine wp_store_row 79 _ _ rfl (w.heap.size + 1) (U (lim (-x))) rfl rfl 79 (U (zeros)) (F1 hL) (ofLen ln) (by rw [U_size, U_size, zeros_len, ln]) (one_cell _) ?_
        (try simp only [Act.put, List.setIfInBounds_toArray, List.set_cons_zero, List.set_cons_succ])
        exact hK.out _ _ ⟨_, _, _, _, _, _, _, _, _, _, _, _, _, _, _, _, _, _, _, _, _, rfl, P2, rfl, fun _ => rfl, H1, H2, H3, H4, H5, H6, H7, H9, (far_ K0 (by omega)), fun h => absurd h (by simp [YInv.up]), fun _ => put_ (F1 hL), (by simp; exact B2), below_row BW (by omega) _⟩
      refine Steps.cons rfl (fun L a wx K hK hL hp hI => ?_) ?_
      · refine ex_21 hI (fun x0 x1 x2 x3 x4 x5 x6 x7 x8 x9 x10 x11 x12 x13 x14 x15 x16 x17 x18 x19 x20 hI => ?_)
        obtain ⟨rfl, P2, P4, H0, H1, H2, H3, H4, H5, H6, H7, H9, K0, F1, G1, B2, BW⟩ := hI
        have p7 : L 7 = true := hp ⟨7, .data⟩ (by simp) rfl
        have e7 := H7 p7
        clear hp
        subst e7
        go_simp
        exact hK.out _ _ ⟨_, _, _, _, _, _, _, _, _, _, _, _, _, _, _, _, _, _, _, _, _, rfl, (by first | exact P2 | rfl), (by first | exact P4 | rfl), H0, H1, H2, H3, H4, H5, H6, fun _ => rfl, fun _ => (by first | rfl | simp), K0, fun h => (F1 h), fun h => (G1 h), B2, BW⟩
      exact Steps.nil
    case fin =>
      intro L a wx hall hI
      refine ex_21 hI (fun x0 x1 x2 x3 x4 x5 x6 x7 x8 x9 x10 x11 x12 x13 x14 x15 x16 x17 x18 x19 x20 hI => ?_)
      obtain ⟨rfl, P2, P4, H0, H1, H2, H3, H4, H5, H6, H7, H9, K0, F1, G1, B2, BW⟩ := hI
      have E0 := H0 (hall 0 (by decide))
      have E1 := H1 (hall 1 (by decide))
      have E2 := H2 (hall 2 (by decide))
      have E3 := H3 (hall 3 (by decide))
      have E4 := H4 (hall 4 (by decide))
      have E5 := H5 (hall 5 (by decide))
      have E6 := H6 (hall 6 (by decide))
      have E7 := H7 (hall 7 (by decide))
      have E9 := H9 (hall 9 (by decide))
      have K1 := G1 (hall 8 (by decide))
      clear hall H0 H1 H2 H3 H4 H5 H6 H7 H9 F1 G1
      subst E0 E1 E2 E3 E4 E5 E6 E7 E9 P2 P4
      go_wp2_with fail
      exact bodyPost_ret (res2 Tryd.results75 _ rfl K1 ln) rfl ⟨by simp, BW⟩
  · refine region_steps (fun L a wx => ∃ (x0 x1 x2 x3 x4 x5 x6 x7 x8 x9 x10 x11 x12 x13 x14 x15 x16 x17 x18 x19 x20 : Value), a = { tmps := #[x0, x1, x2, x3, x4, x5, x6, x7, x8, x9, x10, x11, x12, x13, x14, x15, x16, x17, x18, x19, x20], defers := [] } ∧ x2 = .pointer (some ⟨w.heap.size, 0, none⟩) ∧ x4 = .pointer (some ⟨(w.heap.size + 1), 0, none⟩) ∧ (L 0 = true → x9 = .agg (U (lim (-x)))) ∧ (L 1 = true → x10 = .agg (U (lim (-x)))) ∧ (L 2 = true → x11 = .bool true) ∧ (L 3 = true → x12 = .bool true) ∧ (L 4 = true → x13 = undef) ∧ (L 5 = true → x14 = undef) ∧ (L 6 = true → x15 = undef) ∧ (L 7 = true → x16 = .bool true) ∧ (L 9 = true → x5 = .bool true) ∧ Blk wx w.heap.size (U (lim (-x))) 79 ∧ (L 8 = false → Blk wx (w.heap.size + 1) (U (zeros)) 79) ∧ (L 8 = true → Blk wx (w.heap.size + 1) (U (lim (-x))) 79) ∧ w1.heap.size ≤ wx.heap.size ∧ Below w.heap.size w wx) [0, 1, 2, 3, 4, 5, 6, 7, 8, 9] (by kernel_rfl) (by kernel_rfl) (by kernel_rfl) ?start ?steps ?fin
    case start =>
      exact ⟨_, _, _, _, _, _, _, _, _, _, _, _, _, _, _, _, _, _, _, _, _, rfl, (by first | rfl | simp only [*]), (by first | rfl | simp only [*]), fun h => absurd h (by decide), fun h => absurd h (by decide), fun h => absurd h (by decide), fun h => absurd h (by decide), fun h => absurd h (by decide), fun h => absurd h (by decide), fun h => absurd h (by decide), fun h => absurd h (by decide), fun h => absurd h (by decide), k0.drew, fun _ => k1.drew, fun h => absurd h (by decide), Nat.le_refl _, BW.drew⟩
    case steps =>
      refine Steps.cons rfl (fun L a wx K hK hL hp hI => ?_) ?_
      · refine ex_21 hI (fun x0 x1 x2 x3 x4 x5 x6 x7 x8 x9 x10 x11 x12 x13 x14 x15 x16 x17 x18 x19 x20 hI => ?_)
        obtain ⟨rfl, P2, P4, H0, H1, H2, H3, H4, H5, H6, H7, H9, K0, F1, G1, B2, BW⟩ := hI
        clear hp
        subst P2
        refine wanted_ (by rfl) ?_
        refine wp_load_row 79 _ rfl w.heap.size rfl 79 (U (lim (-x))) (0, 0) _ K0 Tryd.underlying79 rfl (ofLen ln) ?_
        (try simp only [Act.put, List.setIfInBounds_toArray, List.set_cons_zero, List.set_cons_succ])
        exact hK.out _ _ ⟨_, _, _, _, _, _, _, _, _, _, _, _, _, _, _, _, _, _, _, _, _, rfl, rfl, P4, fun _ => rfl, H1, H2, H3, H4, H5, H6, H7, H9, K0, fun h => (F1 h), fun h => (G1 h), B2, BW⟩
      refine Steps.cons rfl (fun L a wx K hK hL hp hI => ?_) ?_
      · refine ex_21 hI (fun x0 x1 x2 x3 x4 x5 x6 x7 x8 x9 x10 x11 x12 x13 x14 x15 x16 x17 x18 x19 x20 hI => ?_)
        obtain ⟨rfl, P2, P4, H0, H1, H2, H3, H4, H5, H6, H7, H9, K0, F1, G1, B2, BW⟩ := hI
        clear hp
        subst P2
        refine wanted_ (by rfl) ?_
        refine wp_load_row 79 _ rfl w.heap.size rfl 79 (U (lim (-x))) (0, 0) _ K0 Tryd.underlying79 rfl (ofLen ln) ?_
        (try simp only [Act.put, List.setIfInBounds_toArray, List.set_cons_zero, List.set_cons_succ])
        exact hK.out _ _ ⟨_, _, _, _, _, _, _, _, _, _, _, _, _, _, _, _, _, _, _, _, _, rfl, rfl, P4, H0, fun _ => rfl, H2, H3, H4, H5, H6, H7, H9, K0, fun h => (F1 h), fun h => (G1 h), B2, BW⟩
      refine Steps.cons rfl (fun L a wx K hK hL hp hI => ?_) ?_
      · refine ex_21 hI (fun x0 x1 x2 x3 x4 x5 x6 x7 x8 x9 x10 x11 x12 x13 x14 x15 x16 x17 x18 x19 x20 hI => ?_)
        obtain ⟨rfl, P2, P4, H0, H1, H2, H3, H4, H5, H6, H7, H9, K0, F1, G1, B2, BW⟩ := hI
        have p1 : L 1 = true := hp ⟨1, .data⟩ (by simp) rfl
        have e1 := H1 p1
        clear hp
        subst e1
        refine wanted_ (by rfl) ?_
        refine goesK_ Tryd.func58 (by kernel_rfl) rfl #[.agg (U (lim (-x)))] rfl (by simp [Act.eval]) ?_
        refine (Bx _).mono ?_
        rintro e w' ⟨rfl, g⟩
        refine ⟨_, rfl, ?_⟩
        (try simp only [Act.put, List.setIfInBounds_toArray, List.set_cons_zero, List.set_cons_succ])
        exact hK.out _ _ ⟨_, _, _, _, _, _, _, _, _, _, _, _, _, _, _, _, _, _, _, _, _, rfl, P2, P4, H0, fun _ => rfl, fun _ => rfl, H3, H4, H5, H6, H7, H9, (Blk.keep K0 g), fun h => (Blk.keep (F1 h) g), fun h => (Blk.keep (G1 h) g), Nat.le_trans B2 g.size, bb BW g⟩
      refine Steps.cons rfl (fun L a wx K hK hL hp hI => ?_) ?_
      · refine ex_21 hI (fun x0 x1 x2 x3 x4 x5 x6 x7 x8 x9 x10 x11 x12 x13 x14 x15 x16 x17 x18 x19 x20 hI => ?_)
        obtain ⟨rfl, P2, P4, H0, H1, H2, H3, H4, H5, H6, H7, H9, K0, F1, G1, B2, BW⟩ := hI
        have p2 : L 2 = true := hp ⟨2, .data⟩ (by simp) rfl
        have e2 := H2 p2
        clear hp
        subst e2
        go_simp
        exact hK.out _ _ ⟨_, _, _, _, _, _, _, _, _, _, _, _, _, _, _, _, _, _, _, _, _, rfl, (by first | exact P2 | rfl), (by first | exact P4 | rfl), H0, H1, fun _ => rfl, fun _ => (by first | rfl | simp), H4, H5, H6, H7, H9, K0, fun h => (F1 h), fun h => (G1 h), B2, BW⟩
      refine Steps.cons rfl (fun L a wx K hK hL hp hI => ?_) ?_
      · refine ex_21 hI (fun x0 x1 x2 x3 x4 x5 x6 x7 x8 x9 x10 x11 x12 x13 x14 x15 x16 x17 x18 x19 x20 hI => ?_)
        obtain ⟨rfl, P2, P4, H0, H1, H2, H3, H4, H5, H6, H7, H9, K0, F1, G1, B2, BW⟩ := hI
        have p3 : L 3 = true := hp ⟨3, .guard⟩ (by simp) rfl
        have e3 := H3 p3
        clear hp
        subst e3 P2
        go_simp
        exact hK.out _ _ ⟨_, _, _, _, _, _, _, _, _, _, _, _, _, _, _, _, _, _, _, _, _, rfl, rfl, (by first | exact P4 | rfl), H0, H1, H2, fun _ => rfl, fun _ => rfl, H5, H6, H7, H9, K0, fun h => (F1 h), fun h => (G1 h), B2, BW⟩
      refine Steps.cons rfl (fun L a wx K hK hL hp hI => ?_) ?_
      · refine ex_21 hI (fun x0 x1 x2 x3 x4 x5 x6 x7 x8 x9 x10 x11 x12 x13 x14 x15 x16 x17 x18 x19 x20 hI => ?_)
        obtain ⟨rfl, P2, P4, H0, H1, H2, H3, H4, H5, H6, H7, H9, K0, F1, G1, B2, BW⟩ := hI
        have p3 : L 3 = true := hp ⟨3, .guard⟩ (by simp) rfl
        have e3 := H3 p3
        clear hp
        subst e3
        go_simp
        exact hK.out _ _ ⟨_, _, _, _, _, _, _, _, _, _, _, _, _, _, _, _, _, _, _, _, _, rfl, (by first | exact P2 | rfl), (by first | exact P4 | rfl), H0, H1, H2, fun _ => rfl, H4, fun _ => rfl, H6, H7, H9, K0, fun h => (F1 h), fun h => (G1 h), B2, BW⟩
      refine Steps.cons rfl (fun L a wx K hK hL hp hI => ?_) ?_
      · refine ex_21 hI (fun x0 x1 x2 x3 x4 x5 x6 x7 x8 x9 x10 x11 x12 x13 x14 x15 x16 x17 x18 x19 x20 hI => ?_)
        obtain ⟨rfl, P2, P4, H0, H1, H2, H3, H4, H5, H6, H7, H9, K0, F1, G1, B2, BW⟩ := hI
        have p4 : L 4 = true := hp ⟨4, .data⟩ (by simp) rfl
        have e4 := H4 p4
        have p5 : L 5 = true := hp ⟨5, .data⟩ (by simp) rfl
        have e5 := H5 p5
        have p3 : L 3 = true := hp ⟨3, .guard⟩ (by simp) rfl
        have e3 := H3 p3
        clear hp
        subst e4 e5 e3
        go_simp
        exact hK.out _ _ ⟨_, _, _, _, _, _, _, _, _, _, _, _, _, _, _, _, _, _, _, _, _, rfl, (by first | exact P2 | rfl), (by first | exact P4 | rfl), H0, H1, H2, fun _ => rfl, fun _ => rfl, fun _ => rfl, fun _ => rfl, H7, H9, K0, fun h => (F1 h), fun h => (G1 h), B2, BW⟩
      refine Steps.cons rfl (fun L a wx K hK hL hp hI => ?_) ?_
      · refine ex_21 hI (fun x0 x1 x2 x3 x4 x5 x6 x7 x8 x9 x10 x11 x12 x13 x14 x15 x16 x17 x18 x19 x20 hI => ?_)
        obtain ⟨rfl, P2, P4, H0, H1, H2, H3, H4, H5, H6, H7, H9, K0, F1, G1, B2, BW⟩ := hI
        have p3 : L 3 = true := hp ⟨3, .data⟩ (by simp) rfl
        have e3 := H3 p3
        have p6 : L 6 = true := hp ⟨6, .data⟩ (by simp) rfl
        have e6 := H6 p6
        clear hp
        subst e3 e6
        go_simp
        exact hK.out _ _ ⟨_, _, _, _, _, _, _, _, _, _, _, _, _, _, _, _, _, _, _, _, _, rfl, (by first | exact P2 | rfl), (by first | exact P4 | rfl), H0, H1, H2, fun _ => rfl, H4, H5, fun _ => rfl, fun _ => (by first | rfl | simp), H9, K0, fun h => (F1 h), fun h => (G1 h), B2, BW⟩
      refine Steps.cons rfl (fun L a wx K hK hL hp hI => ?_) ?_
      · refine ex_21 hI (fun x0 x1 x2 x3 x4 x5 x6 x7 x8 x9 x10 x11 x12 x13 x14 x15 x16 x17 x18 x19 x20 hI => ?_)
        obtain ⟨rfl, P2, P4, H0, H1, H2, H3, H4, H5, H6, H7, H9, K0, F1, G1, B2, BW⟩ := hI
        have p0 : L 0 = true := hp ⟨0, .data⟩ (by simp) rfl
        have e0 := H0 p0
        clear hp
        subst e0 P4
        have N_0 := N0
        have N_1 := N1
        refine wanted_ (by rfl) ?_
        refine wp_store_row 79 _ _ rfl (w.heap.size + 1) (U (lim (-x))) rfl rfl 79 (U (zeros)) (F1 hL) (ofLen ln) (by rw [U_size, U_size, zeros_len, ln]) (one_cell _) ?_
        (try simp only [Act.put, List.setIfInBounds_toArray, List.set_cons_zero, List.set_cons_succ])
        exact hK.out _ _ ⟨_, _, _, _, _, _, _, _, _, _, _, _, _, _, _, _, _, _, _, _, _, rfl, P2, rfl, fun _ => rfl, H1, H2, H3, H4, H5, H6, H7, H9, (far_ K0 (by omega)), fun h => absurd h (by simp [YInv.up]), fun _ => put_ (F1 hL), (by simp; exact B2), below_row BW (by omega) _⟩
      refine Steps.cons rfl (fun L a wx K hK hL hp hI => ?_) ?_
      · refine ex_21 hI (fun x0 x1 x2 x3 x4 x5 x6 x7 x8 x9 x10 x11 x12 x13 x14 x15 x16 x17 x18 x19 x20 hI => ?_)
        obtain ⟨rfl, P2, P4, H0, H1, H2, H3, H4, H5, H6, H7, H9, K0, F1, G1, B2, BW⟩ := hI
        have p7 : L 7 = true := hp ⟨7, .data⟩ (by simp) rfl
        have e7 := H7 p7
        clear hp
        subst e7
        go_simp
        exact hK.out _ _ ⟨_, _, _, _, _, _, _, _, _, _, _, _, _, _, _, _, _, _, _, _, _, rfl, (by first | exact P2 | rfl), (by first | exact P4 | rfl), H0, H1, H2, H3, H4, H5, H6, fun _ => rfl, fun _ => (by first | rfl | simp), K0, fun h => (F1 h), fun h => (G1 h), B2, BW⟩
      exact Steps.nil
    case fin =>
      intro L a wx hall hI
      refine ex_21 hI (fun x0 x1 x2 x3 x4 x5 x6 x7 x8 x9 x10 x11 x12 x13 x14 x15 x16 x17 x18 x19 x20 hI => ?_)
      obtain ⟨rfl, P2, P4, H0, H1, H2, H3, H4, H5, H6, H7, H9, K0, F1, G1, B2, BW⟩ := hI
      have E0 := H0 (hall 0 (by decide))
      have E1 := H1 (hall 1 (by decide))
      have E2 := H2 (hall 2 (by decide))
      have E3 := H3 (hall 3 (by decide))
      have E4 := H4 (hall 4 (by decide))
      have E5 := H5 (hall 5 (by decide))
      have E6 := H6 (hall 6 (by decide))
      have E7 := H7 (hall 7 (by decide))
      have E9 := H9 (hall 9 (by decide))
      have K1 := G1 (hall 8 (by decide))
      clear hall H0 H1 H2 H3 H4 H5 H6 H7 H9 F1 G1
      subst E0 E1 E2 E3 E4 E5 E6 E7 E9 P2 P4
      go_wp2_with fail
      exact bodyPost_ret (res2 Tryd.results75 _ rfl K1 ln) rfl ⟨by simp, BW⟩
end Go.Proofs.YtfcandmhalhaeaaDoor.YWide
