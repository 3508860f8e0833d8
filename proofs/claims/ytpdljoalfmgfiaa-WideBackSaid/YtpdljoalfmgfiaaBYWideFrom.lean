/- Lean functions, contracts and lemmas that this claim needs. No condition. -/
import Derived.Test.YtpdljoalfmgfiaaBYWideW4
import Derived.Test.YtpdljoalfmgfiaaBYBigS
namespace Go.Proofs.Ytpdljoalfmgfiaa.YWide
open Go.RowKit Go.Proofs.Ytpdljoalfmgfiaa.YInv Go.Proofs.Ytpdljoalfmgfiaa.YErr Go.Proofs.Ytpdljoalfmgfiaa.YRef Go.Proofs.Ytpdljoalfmgfiaa.YBig Go.Proofs.Ytpdljoalfmgfiaa.YNum Go.Proofs.Ytpdljoalfmgfiaa.YBits Go.Proofs.Ytpdljoalfmgfiaa.XCarry Go.Proofs.Ytpdljoalfmgfiaa.QWd Go.Proofs.YtpdljoalfmgfiaaW.PrintWords Go.Proofs.YtpdljoalfmgfiaaW.PrintLast
set_option linter.unusedVariables false
set_option linter.unusedSimpArgs false
/-- A value that reads as a number, its limbs in blocks of which ok tells. -/
def IsBigO (w : World) (v : Value) (x : Int) (ok : Nat → Prop) : Prop := ∃ A c, v = .agg #[.bool (sg x), .slice A (mag x).length c] ∧ (mag x).length ≤ c ∧ Kd.V (Kd.int .u64) 25 w 0 ok (.slice A (mag x).length c) (mag x)
theorem IsBigO.is {w : World} {v : Value} {x : Int} {ok : Nat → Prop} (h : IsBigO w v x ok) : IsBig w v x := by
  obtain ⟨A, c, hv, hc, hV⟩ := h
  exact ⟨A, c, hv, hc, Kd.V_mono hV (fun _ _ => trivial)⟩
theorem info_big : (Try.prog.info? 30).map (·.size) = some 2 := by kernel_rfl
/-- A reference's number is trimmed and made. -/
theorem trimmed {W : World} {v : Value} {l : List Int} {N : Nat} (hV : Kd.V (Kd.int .u64) 25 W 0 (fun k => N ≤ k) v l) (hN : N ≤ W.heap.size) (hd : Dig l) (hl : l.length ≤ 1000) : Calls Try.prog 38 #[v] W fun e w' => ∃ A c, e = .returned (.slice A (limbs (val l)).length c) ∧ Kd.V (Kd.int .u64) 25 w' 0 (fun k => N ≤ k) (.slice A (limbs (val l)).length c) (limbs (val l)) ∧ Below W.heap.size W w' := by
  obtain ⟨A, c, rfl⟩ := Kd.V_slice hV
  refine (leadlineref1_trim.calls _ (fun k => N ≤ k) A c l _ W hV (trimf 1000 l hd hl (by omega))).mono ?_
  rintro e w' ⟨v, rfl, h, g⟩
  obtain ⟨A', c', rfl⟩ := Kd.V_slice h
  exact ⟨A', c', rfl, Kd.V_mono (Kd.V_lower (base' := 0) h (Nat.zero_le _)) (fun k hk => by rcases hk with hk | hk <;> omega), g⟩
theorem made_b {W : World} {A : Option Addr} {c N : Nat} {x : Int} (b : Bool) (hx : 0 ≤ x) (hV : Kd.V (Kd.int .u64) 25 W 0 (fun k => N ≤ k) (.slice A (limbs x).length c) (limbs x)) (hN : N ≤ W.heap.size) : Calls Try.prog 37 #[.bool b, .slice A (limbs x).length c] W fun e w' => ∃ A' c', e = .returned (.agg #[.bool (sg (if b = true then -x else x)), .slice A' (mag (if b = true then -x else x)).length c']) ∧ Kd.V (Kd.int .u64) 25 w' 0 (fun k => N ≤ k) (.slice A' (mag (if b = true then -x else x)).length c') (mag (if b = true then -x else x)) ∧ Below W.heap.size W w' := by
  refine (leadlineref1_made.calls b (fun k => N ≤ k) A c (limbs x) _ _ W hV (made_sg b hx)).mono ?_
  rintro e w' ⟨v, rfl, h, g⟩
  obtain ⟨A', c', rfl⟩ := Kd.V_slice h
  exact ⟨A', c', rfl, Kd.V_mono (Kd.V_lower (base' := 0) h (Nat.zero_le _)) (fun k hk => by rcases hk with hk | hk <;> omega), g⟩
section
variable {ops : Array Oper} {rest : List Oper} {o : Oper} {a : Act} {w : World} {Q : Exit → Act → World → Prop} {b : Nat} {c0 : Array Value}
theorem stB (k : Blk w b c0 30) (h0 : c0.size = 2) (s : Bool) (A : Option Addr) (n c : Nat) (x y : Operand) (hgd : o.guard = none) (ho : o.op = .store 30 x y) (hx : a.eval x = .pointer (some ⟨b, 0, none⟩)) (hy : a.eval y = .agg #[.bool s, .slice A n c]) (h : wpList Try.prog ops Q rest (a.put o.dst undef) (w.setRow b #[.bool s, .slice A n c])) : wpList Try.prog ops Q (o :: rest) a w :=
  wpList_store_row hgd 30 x y ho b #[.bool s, .slice A n c] hx hy 30 c0 k info_big (by rw [h0]; rfl) (by simp [Value.oneCell']) h
end
set_option maxRecDepth 100000 in
set_option maxHeartbeats 8000000 in
theorem From_p {x : Int} (h0 : 0 ≤ x) (h1 : InW x) (w : World) : Calls Try.prog 12 #[.agg (U (lim x))] w fun e w' => ∃ v, e = .returned v ∧ IsBigO w' v x (fun k => w.heap.size ≤ k) ∧ Below w.heap.size w w' := by
  have la := lim_len x
  have dl := lim_dig x
  have k1 := (Blk.new w (U (lim x)) 27).alloc (.cells #[.bool false, .slice none 0 0] 30)
  have k2 : Blk ((w.alloc (.cells (U (lim x)) 27)).alloc (.cells #[.bool false, .slice none 0 0] 30)) (w.heap.size + 1) #[.bool false, .slice none 0 0] 30 := by
    have := Blk.new (w.alloc (.cells (U (lim x)) 27)) #[.bool false, .slice none 0 0] 30
    simpa using this
  have b0 : Below w.heap.size w ((w.alloc (.cells (U (lim x)) 27)).alloc (.cells #[.bool false, .slice none 0 0] 30)) := ((Below.refl _ _).alloc (Nat.le_refl _) _).alloc (by simp) _
  have c15 : ((w.alloc (.cells (U (lim x)) 27)).alloc (.cells #[.bool false, .slice none 0 0] 30)).cell? ⟨w.heap.size, 15, none⟩ = some (.int .u64 (dg (lim x) 15)) := by rw [k1.cell, U_at (by rw [lim_len]; decide)]
  have d := dg_in dl 15
  have e : dg (lim x) 15 / 9223372036854775808 = 0 := by
    have t := top_lim h1
    rw [decide_eq_false (by omega)] at t
    have := of_decide_eq_false t
    omega
  have HR := kdC k1 16 (by omega) (by omega)
  rw [List.take_of_length_le (by omega), la] at HR
  have vl : val (lim x) = x := by rw [val_lim]; unfold InW at h1; exact Int.emod_eq_of_lt h0 (by omega)
  go_enter Try.func12, Try.ntmps12
  have bz := b0.size
  go_wp2_with (at_builtin; refine Kd.R_append_row (Value.int .u64) 0 (w0 := w) w.heap.size rfl _ _ 22 25 (.int .u64 0) 8 rfl Try.underlying22 info25 rfl (by decide) (.slice none 0 0) [] (lim x) (some ⟨w.heap.size, 0, none⟩) 16 16 (fun k => w.heap.size + 2 ≤ k) rfl rfl (fun k hk => by simp at hk; omega) (Kd.R_nil _ _ _ _ _) HR b0 bz (by simp) ?_; intro v1 w1 hR hB hG _)
  have k3 := k2.grown hG (by simp [Value.ownBlock])
  have z1 : w.heap.size + 2 ≤ w1.heap.size := by have := hG.size; simp at this; omega
  have TR := trimmed (N := w.heap.size + 2) (Kd.R_V (base' := 0) hR) z1 dl (by show (lim x).length ≤ 1000; omega)
  rw [show val ([] ++ lim x) = x from vl] at TR
  refine TR.mono ?_; rintro e w2 ⟨A2, c2, rfl, hV2, g2⟩
  have k4 := k3.keep g2
  have z2 := Nat.le_trans z1 g2.size
  have b2 := bb hB g2
  clear k1 k2 k3 b0 c15 d e HR hG TR hR g2 hB
  go_wp2_with fail
  refine (made_b (N := w.heap.size + 2) false h0 hV2 z2).mono ?_; rintro e w3 ⟨A3, c3, rfl, hV3, g3⟩
  have k5 := k4.keep g3
  have b3 := bb b2 g3
  go_wp2_with (refine stB k5 rfl _ _ _ _ _ _ rfl rfl rfl rfl ?_)
  refine bodyPost_ret (results_cell_row Try.results12 _ _ (w.heap.size + 1) 30 _ (0, 0) _ rfl (put_ k5) Try.underlying30 rfl info_big) rfl ⟨_, rfl, ⟨_, _, rfl, (Kd.V_at hV3).2.1, Kd.V_mono (Kd.V_step hV3 (fun k hk _ => setRow_other _ _ _ _ (by omega))) (fun k h => Nat.le_trans (by omega) h)⟩, below_row b3 (by omega) _⟩
theorem make16 (W : World) : (Instr.makeSlice 22 (.int .i64 16) (.int .i64 16)).run Try.prog W = .ok (.slice (some ⟨W.heap.size, 0, none⟩) 16 16) (W.alloc (.cells #[.int .u64 0, .int .u64 0, .int .u64 0, .int .u64 0, .int .u64 0, .int .u64 0, .int .u64 0, .int .u64 0, .int .u64 0, .int .u64 0, .int .u64 0, .int .u64 0, .int .u64 0, .int .u64 0, .int .u64 0, .int .u64 0] 25)) := by kernel_rfl
/-- A block of limbs, as a slice. -/
theorem V_blk {W : World} {g N : Nat} {l : List Int} (k : Blk W g (U l) 25) (hl : l.length = 16) (hN : N ≤ g) : Kd.V (Kd.int .u64) 25 W 0 (fun k => N ≤ k) (.slice (some ⟨g, 0, none⟩) 16 16) l := by
  have ho : W.ownsRow 0 25 1 (.slice (some ⟨g, 0, none⟩) 16 16) l.length (l.map (Value.int .u64)) := by
    rw [hl]
    exact ⟨by simp [hl], .inr ⟨g, 16, U l, rfl, Nat.zero_le _, k, by omega, by decide, by rw [U_size, hl], by simp [U]; rw [List.take_of_length_le (by simp; omega)]⟩⟩
  exact Kd.R_V (base := 0) (Kd.R_of_own ho (fun k hk => by simp [Value.ownBlock] at hk; omega))
set_option maxRecDepth 100000 in
set_option maxHeartbeats 8000000 in
theorem From_n {x : Int} (h0 : x < 0) (h1 : InW x) (w : World) : Calls Try.prog 12 #[.agg (U (lim x))] w fun e w' => ∃ v, e = .returned v ∧ IsBigO w' v x (fun k => w.heap.size ≤ k) ∧ Below w.heap.size w w' := by
  have la := lim_len x
  have da := lim_dig x
  obtain ⟨wS, hS⟩ : ∃ wS, ((w.alloc (.cells (U (lim x)) 27)).alloc (.cells #[.bool false, .slice none 0 0] 30)).alloc (.cells (U zeros) 25) = wS := ⟨_, rfl⟩
  have k1 : Blk wS w.heap.size (U (lim x)) 27 := by rw [← hS]; exact ((Blk.new w (U (lim x)) 27).alloc _).alloc _
  have k2 : Blk wS (w.heap.size + 1) #[.bool false, .slice none 0 0] 30 := by
    have := (Blk.new (w.alloc (.cells (U (lim x)) 27)) #[.bool false, .slice none 0 0] 30).alloc (.cells (U zeros) 25)
    rw [← hS]; simpa using this
  have k3 : Blk wS (w.heap.size + 1 + 1) (U zeros) 25 := by
    have := Blk.new ((w.alloc (.cells (U (lim x)) 27)).alloc (.cells #[.bool false, .slice none 0 0] 30)) (U zeros) 25
    rw [← hS]; simpa using this
  have b0 : Below w.heap.size w wS := by rw [← hS]; exact (((Below.refl _ _).alloc (Nat.le_refl _) _).alloc (by simp) _).alloc (by simp; omega) _
  have c15 : ((w.alloc (.cells (U (lim x)) 27)).alloc (.cells #[.bool false, .slice none 0 0] 30)).cell? ⟨w.heap.size, 15, none⟩ = some (.int .u64 (dg (lim x) 15)) := by rw [((Blk.new w (U (lim x)) 27).alloc _).cell, U_at (by rw [lim_len]; decide)]
  have d := dg_in da 15
  have e : dg (lim x) 15 / 9223372036854775808 = 1 := by
    have t := top_lim h1
    rw [decide_eq_true h0] at t
    have := of_decide_eq_true t
    omega
  have vl : pv (lim x) 16 = x + 18446744073709551616 ^ 16 := by
    rw [pv_lim x 16 (Nat.le_refl _)]
    unfold InW at h1
    omega
  have hxx : -x < 18446744073709551616 ^ 16 := by unfold InW at h1; omega
  have MK := make16 ((w.alloc (.cells (U (lim x)) 27)).alloc (.cells #[.bool false, .slice none 0 0] 30))
  have hS' : ((w.alloc (.cells (U (lim x)) 27)).alloc (.cells #[.bool false, .slice none 0 0] 30)).alloc (.cells #[.int .u64 0, .int .u64 0, .int .u64 0, .int .u64 0, .int .u64 0, .int .u64 0, .int .u64 0, .int .u64 0, .int .u64 0, .int .u64 0, .int .u64 0, .int .u64 0, .int .u64 0, .int .u64 0, .int .u64 0, .int .u64 0] 25) = wS := hS
  rw [hS'] at MK
  have di : ∀ k, k < 16 → dg (lim (-1 - x)) k = 18446744073709551615 - dg (lim x) k := by
    intro k hk
    rw [← inv_lim]
    unfold dg
    rw [List.getD_eq_getElem?_getD, List.getD_eq_getElem?_getD, List.getElem?_map, List.getElem?_eq_getElem (by omega)]
    rfl
  have pi : pv (lim (-1 - x)) 16 = -1 - x := by
    rw [pv_lim (-1 - x) 16 (Nat.le_refl _)]
    exact Int.emod_eq_of_lt (by omega) (by omega)
  have dz := lim_dig (-1 - x)
  clear hS hS' h1
  generalize lim (-1 - x) = ia at *
  generalize lim x = a at *
  go_enter Try.func12, Try.ntmps12
  go_wp2
  clear c15 MK d e
  go_loopw [3, 5] (fun s3 s5 wx => ∃ (k : Nat) (o : List Int) (q : Int), k ≤ 16 ∧ s5 = .int .i64 k ∧ s3 = .int .u64 q ∧ o.length = 16 ∧ Dig o ∧ 0 ≤ q ∧ q ≤ 1 ∧ pv o k + q * 18446744073709551616 ^ k = pv ia k + pv zeros k + 1 ∧
    Blk wx w.heap.size (U a) 27 ∧ Blk wx (w.heap.size + 1) #[.bool false, .slice none 0 0] 30 ∧ Blk wx (w.heap.size + 1 + 1) (U o) 25 ∧ Below w.heap.size w wx) (fun _ s5 _ => 16 - (intOf s5).toNat)
  case atStart => exact ⟨0, zeros, 1, by omega, rfl, rfl, zeros_len, zeros_dig, by omega, by omega, by simp [pv], k1, k2, k3, b0⟩
  case round =>
    clear k1 k2 k3 b0
    obtain ⟨k, o, q, hk, rfl, rfl, ho, hd, q0, q1, hv, kA, kB, kO, hb⟩ := hrel
    by_cases hlt : k < 16
    · have A := dg_in da k
      have cA : wr.cell? ⟨w.heap.size, k, none⟩ = some (.int .u64 (dg a k)) := by rw [kA.cell, U_at (by omega)]
      have cO : wr.cell? ⟨w.heap.size + 1 + 1, k, none⟩ = some (.int .u64 (dg o k)) := by rw [kO.cell, U_at (by omega)]
      have fO := kO.free k
      have NT := not64 A.1 A.2
      have I := dg_in dz k
      have AD := fun W => bits_Add64.run (18446744073709551615 - dg a k) 0 q _ _ (add64f (by omega) (by omega) (by omega) q0 q1) W
      have S := sum_step (k := k) hv (rfl : dg ia k + dg zeros k + q = _)
      have Z0 : dg zeros k = 0 := dg_zeros 16 k
      rw [Z0, di k hlt, Int.add_zero] at S
      have kO2 := (kO.set k (.int .u64 ((18446744073709551615 - dg a k + q) % 18446744073709551616)))
      rw [U_set] at kO2
      have S' : pv (o.set k ((18446744073709551615 - dg a k + q) % 18446744073709551616)) (k + 1) + (18446744073709551615 - dg a k + q) / 18446744073709551616 * 18446744073709551616 ^ (k + 1) = pv ia (k + 1) + pv zeros (k + 1) + 1 := by
        rw [pv, pv_set_le _ _ _ _ (Nat.le_refl k), dg_set, if_pos ⟨rfl, by omega⟩, pv, pv, Z0, di k hlt, S]
        omega
      have HS := Lib.hid S'
      have j0 : (0 : Int) ≤ (k : Int) := by omega
      have j1 : (k : Int) < 16 := by omega
      clear hv S S' di pi
      go_wp2
      go_roundw
      case rel => exact ⟨k + 1, _, _, by omega, by go_num, rfl, by rw [List.length_set]; exact ho, dig_set hd k (by omega) (by omega), by omega, by omega, HS.out, kA.setOther (by simp; omega) _, kB.setOther (by simp) _, kO2, hb.setCell (by simp; omega) _⟩
      case measure => simp [intOf]; omega
    · have hk16 : k = 16 := by omega
      subst hk16
      have hvo : val o = -x := by
        have e1 : val o = pv o 16 := by unfold val; rw [ho]
        have r := val_lt16 ho hd
        rw [pi, show pv zeros 16 = 0 from pv_zeros 16 16] at hv
        rw [e1] at r ⊢
        rcases (show q = 0 ∨ q = 1 by omega) with rfl | rfl <;> omega
      have z1 : w.heap.size + 1 + 1 ≤ wr.heap.size := Nat.le_of_lt kO.lt
      have TR := trimmed (N := w.heap.size + 1 + 1) (V_blk kO ho (Nat.le_refl _)) z1 hd (by omega)
      rw [hvo] at TR
      clear hv hlt di pi vl hvo kA
      go_wp2_with fail
      refine TR.mono ?_; rintro e w2 ⟨A2, c2, rfl, hV2, g2⟩
      have k4 := kB.keep g2
      have z2 := Nat.le_trans z1 g2.size
      have b2 := bb hb g2
      clear TR
      go_wp2_with fail
      refine (made_b (N := w.heap.size + 1 + 1) (x := -x) true (by omega) hV2 z2).mono ?_; rintro e w3 ⟨A3, c3, rfl, hV3, g3⟩
      have k5 := k4.keep g3
      have b3 := bb b2 g3
      have ex : (if true = true then - -x else -x) = x := by simp
      rw [ex] at hV3 ⊢
      go_wp2_with (refine stB k5 rfl _ _ _ _ _ _ rfl rfl rfl rfl ?_)
      refine bodyPost_ret (results_cell_row Try.results12 _ _ (w.heap.size + 1) 30 _ (0, 0) _ rfl (put_ k5) Try.underlying30 rfl info_big) rfl ⟨_, rfl, ⟨_, _, rfl, (Kd.V_at hV3).2.1, Kd.V_mono (Kd.V_step hV3 (fun k hk _ => setRow_other _ _ _ _ (by omega))) (fun k h => Nat.le_trans (by omega) h)⟩, below_row b3 (by omega) _⟩
theorem From_o {x : Int} (hx : InW x) (w : World) : Calls Try.prog 12 #[.agg (U (lim x))] w fun e w' => ∃ v, e = .returned v ∧ IsBigO w' v x (fun k => w.heap.size ≤ k) ∧ Below w.heap.size w w' := by
  by_cases h : 0 ≤ x
  · exact From_p h hx w
  · exact From_n (by omega) hx w
theorem From_c {x : Int} (hx : InW x) (w : World) : Calls Try.prog 12 #[.agg (U (lim x))] w fun e w' => ∃ v, e = .returned v ∧ IsBig w' v x ∧ Below w.heap.size w w' := by
  refine (From_o hx w).mono ?_
  rintro e w' ⟨v, rfl, h, g⟩
  exact ⟨v, rfl, h.is, g⟩
end Go.Proofs.Ytpdljoalfmgfiaa.YWide
