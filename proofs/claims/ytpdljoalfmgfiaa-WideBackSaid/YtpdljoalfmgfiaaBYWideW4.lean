/- Lean functions, contracts and lemmas that this claim needs. No condition. -/
import Derived.Test.YtpdljoalfmgfiaaBYWideW3
namespace Go.Proofs.Ytpdljoalfmgfiaa.YWide
open Go.RowKit Go.Proofs.Ytpdljoalfmgfiaa.YInv Go.Proofs.Ytpdljoalfmgfiaa.YErr Go.Proofs.Ytpdljoalfmgfiaa.YRef Go.Proofs.Ytpdljoalfmgfiaa.YNum Go.Proofs.Ytpdljoalfmgfiaa.YBits Go.Proofs.Ytpdljoalfmgfiaa.XCarry Go.Proofs.Ytpdljoalfmgfiaa.QWd Go.Proofs.YtpdljoalfmgfiaaW.PrintWords Go.Proofs.YtpdljoalfmgfiaaW.PrintLast
set_option linter.unusedVariables false
set_option linter.unusedSimpArgs false
theorem kdC {w : World} {b : Nat} {l : List Int} {T : TypeId} (k : Blk w b (U l) T) (n : Nat) (hn : n ≤ l.length) (hm : l.length ≤ 9223372036854775807) : Kd.C (Kd.int .u64) w (some ⟨b, 0, none⟩) (l.take n).length (l.take n) := by
  refine ⟨rfl, by rw [List.length_take]; omega, fun _ => ⟨⟨b, 0, none⟩, rfl, fun j p hj => ⟨[.int .u64 p], rfl, rfl, fun i u hu => ?_⟩⟩⟩
  rcases i with _ | i
  · have hu : Value.int .u64 p = u := by simpa using hu
    subst hu
    have e : (⟨b, 0, none⟩ : Addr).add (j * 1 + 0) = ⟨b, j, none⟩ := by unfold Addr.add; split <;> simp_all
    show w.cell? ((⟨b, 0, none⟩ : Addr).add (j * 1 + 0)) = _
    rw [e, k.cell]
    have hj' : l[j]? = some p := by
      rw [List.getElem?_take] at hj
      split at hj
      · exact hj
      · cases hj
    unfold U
    simp [hj']
  · simp at hu
theorem count_tells (K : Nat) (l : List Int) (hl : Dig l) : ∀ n : Nat, n ≤ l.length → l.length < 1099511627776 → (∀ j, n ≤ j → dg l j = 0) → wide_count.l0 (K + n + 1) l (n : Int) = some ((limbs (val l)).length : Int) := by
  intro n
  induction n with
  | zero =>
    intro h hs hz
    rw [wide_count.l0, if_neg (by omega)]
    have : val l = 0 := by
      have : ∀ k, pv l k = 0 := by
        intro k
        induction k with
        | zero => rfl
        | succ k ih => rw [pv, ih, hz k (by omega), Int.zero_mul]; rfl
      exact this _
    rw [this, limbs_nil (by omega)]
    rfl
  | succ n ih =>
    intro h hs hz
    rw [show K + (n + 1) + 1 = (K + n + 1) + 1 by omega, wide_count.l0, if_pos (by omega)]
    have ew : wrap64 (((n + 1 : Nat) : Int) - 1) = (n : Int) := by rw [wid (by omega) (by omega)]; omega
    rw [ew, if_pos (by omega), if_pos (by omega), dg_rd]
    by_cases h0 : dg l n = 0
    · rw [if_pos h0]
      exact ih (by omega) hs (fun j hj => by by_cases e : j = n; rw [e]; exact h0; exact hz j (by omega))
    · rw [if_neg h0]
      have e1 : val l = val (l.take (n + 1)) := by
        unfold val
        rw [show (l.take (n + 1)).length = n + 1 by simp; omega, pv_take _ _ _ (Nat.le_refl _)]
        have : ∀ d, pv l (n + 1 + d) = pv l (n + 1) := by
          intro d
          induction d with
          | zero => rfl
          | succ d ih => rw [← Nat.add_assoc, pv, ih, hz (n + 1 + d) (by omega), Int.zero_mul, Int.add_zero]
        rw [show l.length = n + 1 + (l.length - (n + 1)) by omega, this]
      rw [e1, limbs_of (l.take (n + 1)) (fun x hx => hl x (List.mem_of_mem_take hx)) (.inr (by
        rw [show (l.take (n + 1)).length - 1 = n by simp; omega]
        have : dg (l.take (n + 1)) n = dg l n := by simp [dg]
        rw [this]; exact h0))]
      simp; omega
theorem count_c {w : World} {b : Nat} {x : Int} (k : Blk w b (U (lim x)) 27) (h0 : 0 ≤ x) (h1 : x < 18446744073709551616 ^ 16) :
    Calls Try.prog 44 #[.slice (some ⟨b, 0, none⟩) 16 16] w fun e w' => e = .returned (.int .i64 ((limbs x).length : Int)) ∧ ∃ n, w' = w.drewN n := by
  have T := count_tells 16 (lim x) (lim_dig x) 16 (by rw [lim_len]; omega) (by rw [lim_len]; omega) (fun j hj => dg_out (by rw [lim_len]; omega))
  rw [val_lim, Int.emod_eq_of_lt h0 h1] at T
  have C := kdC k 16 (by rw [lim_len]; omega) (by rw [lim_len]; omega)
  have e : (lim x).take 16 = lim x := List.take_of_length_le (by rw [lim_len]; omega)
  rw [e] at C
  have := wide_count.calls (16 + 16 + 1) (some ⟨b, 0, none⟩) 16 (lim x) _ w C (by rw [lim_len]; omega) (by unfold wide_count.f; rw [lim_len]; exact T)
  rw [lim_len] at this
  refine this.mono ?_
  rintro e w' ⟨rfl, ⟨n, rfl⟩⟩
  exact ⟨rfl, n, rfl⟩
/-- So many bits. -/
def BitsIs (n : Int) (t : Nat) : Prop := 0 ≤ n ∧ n < 2 ^ t ∧ (0 < t → 2 ^ (t - 1) ≤ n)
theorem bits_one {n : Int} {s t : Nat} (hs : BitsIs n s) (ht : BitsIs n t) : s = t := by
  have key : ∀ {s t : Nat}, BitsIs n s → BitsIs n t → ¬ s < t := by
    intro s t hs ht h
    have h1 := ht.2.2 (by omega)
    have h2 : (2 : Int) ^ s ≤ 2 ^ (t - 1) := by
      obtain ⟨d, hd⟩ := Nat.exists_eq_add_of_le (show s ≤ t - 1 by omega)
      rw [hd, Int.pow_add]
      have p : (1 : Int) ≤ 2 ^ d := by have : (0 : Int) < 2 ^ d := Int.pow_pos (by decide); omega
      have q : (0 : Int) ≤ 2 ^ s := Int.le_of_lt (Int.pow_pos (by decide))
      have := Int.mul_le_mul_of_nonneg_left p q
      omega
    have := hs.2.1
    omega
  have a := key hs ht
  have b := key ht hs
  omega
theorem pw_two (k : Nat) : (18446744073709551616 : Int) ^ k = 2 ^ (64 * k) := by rw [Int.pow_mul]; rfl
theorem bits_limbs {n : Int} {L : Nat} (hn : 0 < n) (l0 : 0 < L) (hi : dg (limbs n) ((limbs n).length - 1) < 2 ^ L) (lo : 2 ^ (L - 1) ≤ dg (limbs n) ((limbs n).length - 1)) : BitsIs n (64 * ((limbs n).length - 1) + L) := by
  have hp : 0 < (limbs n).length := limbs_len_pos.2 hn
  obtain ⟨k, hk⟩ : ∃ k, (limbs n).length = k + 1 := ⟨(limbs n).length - 1, by omega⟩
  have e := val_limbs (Int.le_of_lt hn)
  unfold val at e
  rw [hk, pv] at e
  rw [hk, Nat.add_sub_cancel] at hi lo ⊢
  have h1 := pv_nonneg (limbs_dig n) k
  have h2 := pv_lt (limbs_dig n) k
  rw [pw_two] at e h2
  generalize dg (limbs n) k = d at *
  generalize pv (limbs n) k = p at *
  have P : (0 : Int) < 2 ^ (64 * k) := Int.pow_pos (by decide)
  refine ⟨by omega, ?_, fun _ => ?_⟩
  · rw [Int.pow_add, Int.mul_comm]
    have := Int.mul_le_mul_of_nonneg_right (show d + 1 ≤ 2 ^ L by omega) (Int.le_of_lt P)
    rw [Int.add_mul] at this
    omega
  · rw [show 64 * k + L - 1 = 64 * k + (L - 1) by omega, Int.pow_add, Int.mul_comm]
    have := Int.mul_le_mul_of_nonneg_right lo (Int.le_of_lt P)
    omega
theorem bits_zero : BitsIs 0 0 := ⟨by omega, by decide, fun h => by omega⟩
theorem limbs_lt16 {x : Int} (h1 : x < 18446744073709551616 ^ 16) : (limbs x).length ≤ 16 := limbs_len 16 h1
theorem dg_lim_limbs {x : Int} {k : Nat} (h0 : 0 ≤ x) (h1 : x < 18446744073709551616 ^ 16) : dg (lim x) k = dg (limbs x) k := by
  have e : lim x = limbs x ++ List.replicate (16 - (limbs x).length) 0 := by
    symm
    refine lim_eq (by have := limbs_lt16 h1; simp; omega) (fun y hy => ?_) ?_
    · rcases List.mem_append.1 hy with h | h
      · exact limbs_dig x y h
      · rw [List.eq_of_mem_replicate h]; omega
    · have : ∀ (l : List Int) (n : Nat), val (l ++ List.replicate n 0) = val l := by
        intro l n
        induction l with
        | nil => simpa [val, pv] using val_nones n
        | cons y l ih => rw [List.cons_append, val_cons, val_cons, ih]
      rw [this, val_limbs h0]
  rw [e]
  unfold dg
  rw [List.getD_eq_getElem?_getD, List.getD_eq_getElem?_getD]
  by_cases h : k < (limbs x).length
  · rw [List.getElem?_append_left h]
  · rw [List.getElem?_append_right (by omega), List.getElem?_eq_none (show (limbs x).length ≤ k by omega), List.getElem?_replicate]
    split <;> rfl
set_option maxRecDepth 100000 in
set_option maxHeartbeats 4000000 in
theorem Bits_c {x : Int} (hx : InW x) (w : World) : Calls Try.prog 24 #[.agg (U (lim x))] w fun e w' => ∃ t : Nat, BitsIs (ab x) t ∧ e = .returned (.int .i64 t) ∧ Below w.heap.size w w' := by
  have la := lim_len x
  have lb := lim_len (ab x)
  have k1 := Blk.new w (U (lim x)) 27
  have b0 := (Below.refl w.heap.size w).alloc (Nat.le_refl _) (.cells (U (lim x)) 27)
  have AM := fun W => amount_c hx W
  have h0 : 0 ≤ ab x := by unfold ab; split <;> omega
  have h1 : ab x < 18446744073709551616 ^ 16 := by unfold InW at hx; unfold ab; split <;> omega
  have LL := limbs_lt16 h1
  generalize ab x = n at *
  go_enter Try.func24, Try.ntmps24
  go_wp2_with (refine ldW k1 la _ rfl rfl rfl ?_)
  refine (AM _).mono ?_; rintro e w1 ⟨rfl, g1⟩
  have b1 := bb b0 g1
  have k2 := Blk.new w1 (U zeros) 27
  have k3 := put_ (cs := U (lim n)) k2
  have b2 := below_row (b1.alloc b1.size (.cells (U zeros) 27)) b1.size (U (lim n))
  have C := count_c k3 h0 h1
  go_wp2_with (refine stW k2 zeros_len lb _ _ rfl rfl rfl rfl ?_)
  refine C.mono ?_; rintro e w2 ⟨rfl, m, rfl⟩
  have b3 := below_drewN b2 m
  have k4 := Blk.drewN k3 m
  have bz : Below w.heap.size w ((((w1.alloc (.cells (U zeros) 27)).setRow w1.heap.size (U (lim n))).drewN m)) := b3
  have kz : Blk ((((w1.alloc (.cells (U zeros) 27)).setRow w1.heap.size (U (lim n))).drewN m)) w1.heap.size (U (lim n)) 27 := k4
  generalize (((w1.alloc (.cells (U zeros) 27)).setRow w1.heap.size (U (lim n))).drewN m) = w3 at *
  by_cases hn : n = 0
  · subst hn
    rw [limbs_nil (Int.le_refl 0)]
    go_wp2_with fail
    go_ret
    exact ⟨0, bits_zero, rfl, bz⟩
  · have hp : 0 < (limbs n).length := limbs_len_pos.2 (by omega)
    have d := dg_in (lim_dig n) ((limbs n).length - 1)
    have c1 : w3.cell? ⟨w1.heap.size, (limbs n).length - 1, none⟩ = some (.int .u64 (dg (lim n) ((limbs n).length - 1))) := by rw [kz.cell, U_at (by rw [lim_len]; omega)]
    have dpos : 0 < dg (lim n) ((limbs n).length - 1) := by
      rw [dg_lim_limbs h0 h1]
      have h := dg_in (limbs_dig n) ((limbs n).length - 1)
      rcases Int.lt_or_eq_of_le h.1 with h | h
      · exact h
      · exfalso
        have e := val_limbs h0
        obtain ⟨k, hk⟩ : ∃ k, (limbs n).length = k + 1 := ⟨(limbs n).length - 1, by omega⟩
        unfold val at e
        rw [hk, pv, ← show (limbs n).length - 1 = k by omega, ← h, Int.zero_mul] at e
        have h2 := pv_lt (limbs_dig n) ((limbs n).length - 1)
        have h3 : n < 18446744073709551616 ^ ((limbs n).length - 1) := by omega
        have := limbs_len _ h3
        omega
    obtain ⟨L, hL, l0, l64, lo, hi⟩ := len64_tells 40 _ dpos d.2
    have BL := fun W => bits_Len64.calls _ _ _ W hL
    have fin : BitsIs n (64 * ((limbs n).length - 1) + L) := by
      rw [dg_lim_limbs h0 h1] at lo hi
      exact bits_limbs (by omega) l0 hi lo
    have FN := Lib.hid fin
    generalize hk : (limbs n).length = k at *
    obtain ⟨j, rfl⟩ : ∃ j, k = j + 1 := ⟨k - 1, by omega⟩
    simp only [Nat.add_sub_cancel] at *
    have j1 : (j : Int) < 16 := by omega
    have j0 : (0 : Int) ≤ (j : Int) := by omega
    have l1 : (L : Int) ≤ 64 := by omega
    have l2 : (0 : Int) ≤ (L : Int) := by omega
    clear hk fin C k2 k3 k4 b3 b2 lo hi hL dpos
    go_wp2_with fail
    refine (BL _).mono ?_; rintro e w4 ⟨rfl, ⟨n4, rfl⟩⟩
    go_wp2_with fail
    go_ret
    refine ⟨64 * j + L, FN.out, ?_, below_drewN bz n4⟩
    exact congrArg (fun z => Ending.returned (.int .i64 z)) (by omega)
end Go.Proofs.Ytpdljoalfmgfiaa.YWide
