/- Lean functions, contracts and lemmas that this claim needs. No condition. -/
import Derived.Test.YtfcandmhalhaeaaDoorAYWideW7
import Derived.Test.YtfcandmhalhaeaaDoorAYBig
import Derived.Test.YtfcandmhalhaeaaDoorAYWideReg
import Derived.Test.YtfcandmhalhaeaaDoorAQSyx8
import Derived.Laws.CopyOwn
import Derived.Deep.RegionLaw
namespace Go.Proofs.YtfcandmhalhaeaaDoor.YWide
open Go.RowKit Go.Proofs.YtfcandmhalhaeaaDoor.YInv Go.Proofs.YtfcandmhalhaeaaDoor.YErr Go.Proofs.YtfcandmhalhaeaaDoor.YRef Go.Proofs.YtfcandmhalhaeaaDoor.YBig Go.Proofs.YtfcandmhalhaeaaDoor.YNum Go.Proofs.YtfcandmhalhaeaaDoor.YBits Go.Proofs.YtfcandmhalhaeaaDoor.XCarry Go.Proofs.YtfcandmhalhaeaaDoor.QSy Go.Proofs.YtfcandmhalhaeaaDoorW.PrintWords Go.Proofs.YtfcandmhalhaeaaDoorW.PrintLast
set_option linter.unusedVariables false
set_option linter.unusedSimpArgs false
/-- A value that reads as a number, its limbs in blocks of which ok tells. -/
def IsBigO (w : World) (v : Value) (x : Int) (ok : Nat → Prop) : Prop := ∃ A c, v = .agg #[.bool (sg x), .slice A (mag x).length c] ∧ (mag x).length ≤ c ∧ Kd.V (Kd.int .u64) 77 w 0 ok (.slice A (mag x).length c) (mag x)
theorem IsBigO.is {w : World} {v : Value} {x : Int} {ok : Nat → Prop} (h : IsBigO w v x ok) : IsBig w v x := by
  obtain ⟨A, c, hv, hc, hV⟩ := h
  exact ⟨A, c, hv, hc, Kd.V_mono hV (fun _ _ => trivial)⟩
section
variable {ops : Array Oper} {rest : List Oper} {o : Oper} {a : Act} {w : World} {Q : Exit → Act → World → Prop} {b : Nat} {c0 : Array Value}
end
end Go.Proofs.YtfcandmhalhaeaaDoor.YWide
namespace Go.Proofs.YtfcandmhalhaeaaDoor.YWide
open Go.RowKit Go.Proofs.YtfcandmhalhaeaaDoor.YInv Go.Proofs.YtfcandmhalhaeaaDoor.YErr Go.Proofs.YtfcandmhalhaeaaDoor.YRef Go.Proofs.YtfcandmhalhaeaaDoor.YBig Go.Proofs.YtfcandmhalhaeaaDoor.YNum Go.Proofs.YtfcandmhalhaeaaDoor.YBits Go.Proofs.YtfcandmhalhaeaaDoor.XCarry Go.Proofs.YtfcandmhalhaeaaDoor.QSy Go.Proofs.YtfcandmhalhaeaaDoorW.PrintWords Go.Proofs.YtfcandmhalhaeaaDoorW.PrintLast
set_option linter.unusedVariables false
set_option linter.unusedSimpArgs false
/-- How many bits. -/
theorem size_tells (K : Nat) {n : Int} (h0 : 0 ≤ n) (hl : (limbs n).length ≤ 100) : ∃ t : Nat, leadlineref1_size.f (K + 1) (limbs n) = some (t : Int) ∧ BitsIs n t ∧ t ≤ 6400 := by
  unfold leadlineref1_size.f
  by_cases hn : n = 0
  · subst hn
    rw [limbs_nil (Int.le_refl 0)]
    exact ⟨0, by simp, bits_zero, by omega⟩
  · have hp : 0 < (limbs n).length := limbs_len_pos.2 (by omega)
    obtain ⟨k, hk⟩ : ∃ k, (limbs n).length = k + 1 := ⟨(limbs n).length - 1, by omega⟩
    have d := dg_in (limbs_dig n) k
    have dpos : 0 < dg (limbs n) k := by
      rcases Int.lt_or_eq_of_le d.1 with h | h
      · exact h
      · exfalso
        have e := val_limbs h0
        unfold val at e
        rw [hk, pv, ← h, Int.zero_mul] at e
        have h2 := pv_lt (limbs_dig n) k
        have h3 : n < 18446744073709551616 ^ k := by omega
        have := limbs_len _ h3
        omega
    obtain ⟨L, hL, l0, l64, lo, hi⟩ := len64_tells K _ dpos d.2
    have w1 : wrap64 (((limbs n).length : Int) - 1) = (k : Int) := by unfold wrap64; omega
    have fin : BitsIs n (64 * ((limbs n).length - 1) + L) := bits_limbs (by omega) l0 (by rw [hk]; exact hi) (by rw [hk]; exact lo)
    rw [if_neg (by omega), w1, if_pos (by omega), if_pos (by omega), dg_rd, hL, Option.bind_some]
    refine ⟨64 * ((limbs n).length - 1) + L, ?_, fin, by omega⟩
    refine congrArg some ?_
    generalize (limbs n).length = m at *
    clear fin lo hi d dpos h0 hL
    unfold wrap64
    omega
theorem bits_le {n : Int} {t s : Nat} (h : BitsIs n t) (hn : n < 2 ^ s) : t ≤ s := by
  by_cases c : t ≤ s
  · exact c
  · exfalso
    have h2 := h.2.2 (by omega)
    have h3 : (2 : Int) ^ s ≤ 2 ^ (t - 1) := by
      have : ((2 ^ s : Nat) : Int) ≤ ((2 ^ (t - 1) : Nat) : Int) := Int.ofNat_le.2 (Nat.pow_le_pow_right (by omega) (by omega))
      simpa using this
    omega
theorem C_cells {w : World} {A : Option Addr} {n : Nat} {xs : List Int} (h : Kd.C (Kd.int .u64) w A n xs) (hp : 0 < xs.length) : ∃ ad, A = some ad ∧ ∀ j v, (xs.map (Value.int .u64))[j]? = some v → w.cell? (ad.add j) = some v := by
  obtain ⟨h1, _, h2⟩ := h
  obtain ⟨ad, e, hc⟩ := h2 (by omega)
  refine ⟨ad, e, fun j v hv => ?_⟩
  rw [List.getElem?_map] at hv
  cases hx : xs[j]? with
  | none => rw [hx] at hv; cases hv
  | some p =>
    rw [hx] at hv
    have hv : Value.int .u64 p = v := by simpa using hv
    obtain ⟨c, _, hr, hcell⟩ := hc j p hx
    have hr : c = [.int .u64 p] := hr
    subst hr
    have h := hcell 0 (.int .u64 p) rfl
    have e : j * (Kd.int .u64).sz + 0 = j := by show j * 1 + 0 = j; omega
    rw [e] at h
    rw [← hv]; exact h
theorem lim_limbs {x : Int} (h0 : 0 ≤ x) (h1 : x < 18446744073709551616 ^ 16) : lim x = limbs x ++ zeros.drop (limbs x).length := by
  symm
  unfold zeros
  rw [List.drop_replicate]
  refine lim_eq (by have := limbs_lt16 h1; simp; omega) (fun y hy => ?_) ?_
  · rcases List.mem_append.1 hy with h | h
    · exact limbs_dig x y h
    · rw [List.eq_of_mem_replicate h]; omega
  · have : ∀ (l : List Int) (n : Nat), val (l ++ List.replicate n 0) = val l := by
      intro l n
      induction l with
      | nil => simpa [val, pv] using val_nones n
      | cons y l ih => rw [List.cons_append, val_cons, val_cons, ih]
    rw [this, val_limbs h0]
theorem splice_mag {x : Int} (h0 : 0 ≤ x) (h1 : x < 18446744073709551616 ^ 16) : (splice (zeros.map (Value.int .u64)) 0 ((limbs x).map (Value.int .u64))).toArray = U (lim x) := by
  rw [lim_limbs h0 h1]
  simp [splice, U, List.map_drop]
theorem sz_u64 : (Tryd.prog.info? 77).map (·.size) = some 1 := by kernel_rfl
set_option maxRecDepth 100000 in
set_option maxHeartbeats 16000000 in
theorem To_C {A : Option Addr} {c : Nat} {n : Int} (s : Bool) {w : World} (C : Kd.C (Kd.int .u64) w A (limbs n).length (limbs n)) (hc : (limbs n).length ≤ c) (h0 : 0 ≤ n) (hm : n < 2 ^ 1023) : Calls Tryd.prog 76 #[.agg #[.bool s, .slice A (limbs n).length c]] w fun e w' => e = .returned (.tuple #[.agg (U (lim (if s = true then -n else n))), .bool true]) ∧ Below w.heap.size w w' := by
  have h16 : n < 18446744073709551616 ^ 16 := by rw [pw_two 16]; exact Int.lt_trans hm (by decide +kernel)
  have l16 := limbs_lt16 h16
  obtain ⟨t, hs, hb, ht⟩ := size_tells 100 h0 (show (limbs n).length ≤ 100 by omega)
  have t0 : (t : Int) < 1024 := by have := bits_le hb hm; omega
  have g1 : decide ((1024 : Int) < (t : Int)) = false := by simp; omega
  have g2 : ((t : Int) == 1024) = false := by simp; omega
  have C2 : ∀ W, Below w.heap.size w W → Kd.C (Kd.int .u64) W A (limbs n).length (limbs n) := fun W g => Kd.C_below C g
  have k1 := (Blk.new w #[.bool s, .slice A (limbs n).length c] 90).alloc (.cells (U zeros) 79)
  have k2 : Blk ((w.alloc (.cells #[.bool s, .slice A (limbs n).length c] 90)).alloc (.cells (U zeros) 79)) (w.heap.size + 1) (U zeros) 79 := by
    have := Blk.new (w.alloc (.cells #[.bool s, .slice A (limbs n).length c] 90)) (U zeros) 79
    simpa using this
  have b0 : Below w.heap.size w ((w.alloc (.cells #[.bool s, .slice A (limbs n).length c] 90)).alloc (.cells (U zeros) 79)) := ((Below.refl _ _).alloc (Nat.le_refl _) _).alloc (by simp) _
  have SZ := leadlineref1_size.calls 101 A c (limbs n) _ _ (C2 _ b0) hc hs
  have c1 := (k1.cell 1).trans (show _ = some (.slice A (limbs n).length c) from rfl)
  go_enter Tryd.func76, Tryd.ntmps76
  go_wp2_with fail
  refine SZ.mono ?_; rintro e w1 ⟨rfl, ⟨m, rfl⟩⟩
  have k1 := Blk.drewN k1 m
  have k2 := Blk.drewN k2 m
  have b1 := below_drewN b0 m
  have eW : (((w.alloc (.cells #[.bool s, .slice A (limbs n).length c] 90)).alloc (.cells #[.int .u64 0, .int .u64 0, .int .u64 0, .int .u64 0, .int .u64 0, .int .u64 0, .int .u64 0, .int .u64 0, .int .u64 0, .int .u64 0, .int .u64 0, .int .u64 0, .int .u64 0, .int .u64 0, .int .u64 0, .int .u64 0] 79)).drewN m) = (((w.alloc (.cells #[.bool s, .slice A (limbs n).length c] 90)).alloc (.cells (U zeros) 79)).drewN m) := rfl
  (try rw [eW])
  clear eW SZ b0 c1
  generalize (((w.alloc (.cells #[.bool s, .slice A (limbs n).length c] 90)).alloc (.cells (U zeros) 79)).drewN m) = W1 at *
  have gk0 := k1.lt
  have gk := k2.lt
  have k3 := Blk.new W1 (U zeros) 79
  have k1 := Blk.alloc k1 (.cells (U zeros) 79)
  have k2 := Blk.alloc k2 (.cells (U zeros) 79)
  have b2 := b1.alloc b1.size (.cells (U zeros) 79)
  have c1 := (k1.cell 1).trans (show _ = some (.slice A (limbs n).length c) from rfl)
  have c0 := (k1.cell 0).trans (show _ = some (.bool s) from rfl)
  have gg := b1.size
  have CC := C2 _ b2
  go_wp2_with fail
  go_quiet (fail)
  replace k1 := Blk.drewN k1 nq
  replace k2 := Blk.drewN k2 nq
  replace k3 := Blk.drewN k3 nq
  have b3 := below_drewN b2 nq
  have CC := C2 _ b3
  have eW : ((W1.alloc (.cells #[.int .u64 0, .int .u64 0, .int .u64 0, .int .u64 0, .int .u64 0, .int .u64 0, .int .u64 0, .int .u64 0, .int .u64 0, .int .u64 0, .int .u64 0, .int .u64 0, .int .u64 0, .int .u64 0, .int .u64 0, .int .u64 0] 79)).drewN nq) = ((W1.alloc (.cells (U zeros) 79)).drewN nq) := rfl
  (try rw [eW])
  clear eW c0 c1 b2
  go_wp2_with fail
  generalize ((W1.alloc (.cells (U zeros) 79)).drewN nq) = W2 at *
  have c0 := (k1.cell 0).trans (show _ = some (.bool s) from rfl)
  have c1 := (k1.cell 1).trans (show _ = some (.slice A (limbs n).length c) from rfl)
  have HP := C_cells CC
  have ln : ((limbs n).map (Value.int .u64)).length = Nat.min (limbs n).length 16 := by rw [List.length_map]; exact (Nat.min_eq_left l16).symm
  go_region_law (refine step_copy_splice rfl (.tmp 31) (.tmp 33) 88 88 rfl 77 Tryd.underlying88 sz_u64 (some ⟨W1.heap.size, 0, none⟩) A 16 16 (limbs n).length c rfl rfl W1.heap.size 0 (zeros.map (Value.int .u64)) 79 (by first | exact k3 | exact Blk.drew k3) ((limbs n).map (Value.int .u64)) ln (fun h => ⟨rfl, HP (by simpa using h)⟩) (by simp [zeros]; exact l16) (by intro v hv; obtain ⟨y, _, rfl⟩ := List.mem_map.1 hv; rfl) W1.heap.size W2 (by first | exact Below.refl _ _ | exact (Below.refl _ _).drew) (Nat.le_refl _) ?_; intro w4 hg4 hb4)
  all_goals
    have kW : Blk w4 W1.heap.size (U (lim n)) 79 := by
      have := hg4.out
      rw [splice_mag h0 h16] at this
      exact this
    clear hg4
    have kA := Blk.below k1 hb4 gk0
    have kB := Blk.below k2 hb4 gk
    have b4 := Below.trans b3 (hb4.mono gg)
    have c0 := (kA.cell 0).trans (show _ = some (.bool s) from rfl)
    have la := lim_len n
    have dA := lim_dig n
    clear k1 k2 k3 b3 hb4 HP ln c1 CC C2 C g1 g2
    cases s with
    | false =>
      go_wp2_with (first | (refine ldW kW la _ rfl rfl rfl ?_) | (refine stW kB zeros_len la _ _ rfl rfl rfl rfl ?_))
      exact bodyPost_ret (res2 Tryd.results76 _ rfl (put_ kB) la) rfl ⟨rfl, below_row b4 (by omega) _⟩
    | true =>
      have di : ∀ k, k < 16 → dg (lim (-1 - n)) k = 18446744073709551615 - dg (lim n) k := by
        intro k hk
        rw [← inv_lim]
        unfold dg
        rw [List.getD_eq_getElem?_getD, List.getD_eq_getElem?_getD, List.getElem?_map, List.getElem?_eq_getElem (by omega)]
        rfl
      have pi : pv (lim (-1 - n)) 16 = 18446744073709551616 ^ 16 - 1 - n := by
        rw [pv_lim (-1 - n) 16 (Nat.le_refl _)]
        omega
      have dz := lim_dig (-1 - n)
      have fin : ∀ o : List Int, ∀ q : Int, o.length = 16 → Dig o → pv o 16 + q * 18446744073709551616 ^ 16 = pv (lim (-1 - n)) 16 + pv zeros 16 + 1 → o = lim (-n) := by
        intro o q h1 h2 h3
        have e : val o = pv o 16 := by unfold val; rw [h1]
        rw [pi, show pv zeros 16 = 0 from pv_zeros 16 16] at h3
        refine lim_eq h1 h2 ?_
        rw [e, show pv o 16 = -n + (1 - q) * 18446744073709551616 ^ 16 by rw [Int.sub_mul, Int.one_mul]; omega, Int.add_mul_emod_self_right]
      have FIN := Lib.hid fin
      clear fin pi
      generalize lim (-1 - n) = ia at *
      generalize lim n = a at *
      go_wp2_with fail
      go_loopw [6, 7] (fun s6 s7 wx => ∃ (k : Nat) (o : List Int) (q : Int), k ≤ 16 ∧ s7 = .int .i64 k ∧ s6 = .int .u64 q ∧ o.length = 16 ∧ Dig o ∧ 0 ≤ q ∧ q ≤ 1 ∧ (∀ j, k ≤ j → dg o j = dg a j) ∧ pv o k + q * 18446744073709551616 ^ k = pv ia k + pv zeros k + 1 ∧
        Blk wx (w.heap.size + 1) (U zeros) 79 ∧ Blk wx W1.heap.size (U o) 79 ∧ Below w.heap.size w wx) (fun _ s7 _ => 16 - (intOf s7).toNat)
      case atStart => exact ⟨0, a, 1, by omega, rfl, rfl, la, dA, by omega, by omega, fun j _ => rfl, by simp [pv], kB, kW, b4⟩
      case round =>
        clear kA kB kW b4
        obtain ⟨k, o, q, hk, rfl, rfl, ho, hd, q0, q1, hj, hv, kB, kO, hb⟩ := hrel
        by_cases hlt : k < 16
        · have A := dg_in dA k
          have cO : wr.cell? ⟨W1.heap.size, k, none⟩ = some (.int .u64 (dg a k)) := by rw [kO.cell, U_at (by omega), hj k (Nat.le_refl _)]
          have fO := kO.free k
          have NT := not64 A.1 A.2
          have I := dg_in dz k
          have AD := fun W => bits_Add64.run (18446744073709551615 - dg a k) 0 q _ _ (add64f (by omega) (by omega) (by omega) q0 q1) W
          have S := sum_step (k := k) hv (rfl : dg ia k + dg zeros k + q = _)
          have Z0 : dg zeros k = 0 := dg_zeros 16 k
          rw [Z0, di k hlt, Int.add_zero] at S
          have kO2 := (kO.set k (.int .u64 ((18446744073709551615 - dg a k + q) % 18446744073709551616)))
          rw [U_set] at kO2
          have S' : pv (o.set k ((18446744073709551615 - dg a k + q) % 18446744073709551616)) (k + 1) + (18446744073709551615 - dg a k + q) / 18446744073709551616 * 18446744073709551616 ^ (k + 1) = pv ia (k + 1) + pv zeros (k + 1) + 1 := by
            rw [pv, pv_set_le _ _ _ _ (Nat.le_refl k), dg_set, if_pos ⟨rfl, by omega⟩, pv, pv, Z0, di k hlt, S]
            omega
          have HS := Lib.hid S'
          have HJ : Hid (∀ j, k + 1 ≤ j → dg (o.set k ((18446744073709551615 - dg a k + q) % 18446744073709551616)) j = dg a j) := Lib.hid fun j h => by rw [dg_set, if_neg (by omega)]; exact hj j (by omega)
          have j0 : (0 : Int) ≤ (k : Int) := by omega
          have j1 : (k : Int) < 16 := by omega
          clear hv S S' di hj
          go_wp2
          go_roundw
          case rel => exact ⟨k + 1, _, _, by omega, by go_num, rfl, by rw [List.length_set]; exact ho, dig_set hd k (by omega) (by omega), by omega, by omega, HJ.out, HS.out, kB.setOther (by simp; omega) _, kO2, hb.setCell (by simp; omega) _⟩
          case measure => simp [intOf]; omega
        · have hk16 : k = 16 := by omega
          subst hk16
          have e := FIN.out o q ho hd hv
          subst e
          clear hv hlt di hj
          go_wp2_with (first | (refine ldW kO ho _ rfl rfl rfl ?_) | (refine stW kB zeros_len ho _ _ rfl rfl rfl rfl ?_))
          exact bodyPost_ret (res2 Tryd.results76 _ rfl (put_ kB) ho) rfl ⟨rfl, below_row hb (by omega) _⟩
end Go.Proofs.YtfcandmhalhaeaaDoor.YWide
