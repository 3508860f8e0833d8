/- Lean functions, contracts and lemmas that this claim needs. No condition. -/
import Derived.Test.YtpdljoalfmgfiaaBYWideKnuth2
namespace Go.Proofs.Ytpdljoalfmgfiaa.YWide
open Go.RowKit Go.Proofs.Ytpdljoalfmgfiaa.YInv Go.Proofs.Ytpdljoalfmgfiaa.YErr Go.Proofs.Ytpdljoalfmgfiaa.YRef Go.Proofs.Ytpdljoalfmgfiaa.YNum Go.Proofs.Ytpdljoalfmgfiaa.YBits Go.Proofs.Ytpdljoalfmgfiaa.XCarry Go.Proofs.Ytpdljoalfmgfiaa.QWd Go.Proofs.YtpdljoalfmgfiaaW.PrintWords Go.Proofs.YtpdljoalfmgfiaaW.PrintLast
set_option linter.unusedVariables false
set_option linter.unusedSimpArgs false
theorem makeN {n : Nat} (h0 : 1 ≤ n) (h : n ≤ 16) (W : World) : (Instr.makeSlice 22 (.int .i64 ((n : Int) + 1)) (.int .i64 ((n : Int) + 1))).run Try.prog W = .ok (.slice (some ⟨W.heap.size, 0, none⟩) (n + 1) (n + 1)) (W.alloc (.cells (U (List.replicate (n + 1) 0)) 25)) := by
  rcases (show n = 1 ∨ n = 2 ∨ n = 3 ∨ n = 4 ∨ n = 5 ∨ n = 6 ∨ n = 7 ∨ n = 8 ∨ n = 9 ∨ n = 10 ∨ n = 11 ∨ n = 12 ∨ n = 13 ∨ n = 14 ∨ n = 15 ∨ n = 16 by omega) with rfl | rfl | rfl | rfl | rfl | rfl | rfl | rfl | rfl | rfl | rfl | rfl | rfl | rfl | rfl | rfl <;> kernel_rfl
/-- So many limbs are moved. -/
structure Sh (l : List Int) (n s i : Nat) (o : List Int) : Prop where
  len : o.length = n + 1
  dig : Dig o
  low : dg o i < 2 ^ s
  none : ∀ j, i < j → dg o j = 0
  sum : pv o (i + 1) = pv l i * 2 ^ s
/-- What a limb's part and its rest come to. -/
theorem part_or {v o : Int} {s : Nat} (hs : s ≤ 63) (v0 : 0 ≤ v) (v1 : v < 18446744073709551616) (o0 : 0 ≤ o) (o1 : o < 2 ^ s) (o2 : o < 18446744073709551616) :
    Go.bits .or .u64 o (IntKind.u64.wrap (v * 2 ^ s)) = 2 ^ s * (v % 2 ^ (64 - s)) + o ∧ 0 ≤ 2 ^ s * (v % 2 ^ (64 - s)) + o ∧ 2 ^ s * (v % 2 ^ (64 - s)) + o < 18446744073709551616 ∧ 0 ≤ v / 2 ^ (64 - s) ∧ v / 2 ^ (64 - s) < 2 ^ s ∧ v / 2 ^ (64 - s) < 18446744073709551616 ∧ 2 ^ s * (v % 2 ^ (64 - s)) + v / 2 ^ (64 - s) * 18446744073709551616 = v * 2 ^ s := by
  have P0 : (0 : Int) < 2 ^ s := Int.pow_pos (by decide)
  have Z0 : (0 : Int) < 2 ^ (64 - s) := Int.pow_pos (by decide)
  have PZ := split_pow (show s ≤ 64 by omega)
  obtain ⟨m1, m2, m3, m4, m5, m6⟩ := moved P0 Z0 PZ v0 v1
  have mz : (2 ^ s * (v % 2 ^ (64 - s))) % 2 ^ s = (0 : Int) := Int.mul_emod_right _ _
  have mb0 : (0 : Int) ≤ 2 ^ s * (v % 2 ^ (64 - s)) := by rw [← m1]; exact Int.emod_nonneg _ (by decide)
  have mb : 2 ^ s * (v % 2 ^ (64 - s)) < (18446744073709551616 : Int) := by rw [← m1]; exact Int.emod_lt_of_pos _ (by decide)
  have ub : 2 ^ s * (v % 2 ^ (64 - s)) + 2 ^ s ≤ (18446744073709551616 : Int) := by
    rw [← PZ]
    have := Int.mul_le_mul_of_nonneg_left (show v % 2 ^ (64 - s) + 1 ≤ 2 ^ (64 - s) from m6) (Int.le_of_lt P0)
    rw [Int.mul_add, Int.mul_one] at this
    exact this
  have z2 : v / 2 ^ (64 - s) < 18446744073709551616 := Int.lt_of_le_of_lt (Int.ediv_le_self _ v0) v1
  refine ⟨?_, ?_, ?_, m2, m3, z2, m4⟩
  · rw [or_turned, u64w, m1]
    exact orN s _ _ mb0 mz mb o0 o1 o2
  · exact Int.add_nonneg mb0 o0
  · exact Int.lt_of_lt_of_le (Int.add_lt_add_left o1 _) ub
theorem Sh.up {l o o2 : List Int} {n s i : Nat} (S : Sh l n s i o) (hl : Dig l) (hs : s ≤ 63) (a1 : o2.length = n + 1) (a2 : Dig o2) (a3 : ∀ j, j < i → dg o2 j = dg o j) (a4 : dg o2 i = Go.bits .or .u64 (dg o i) (IntKind.u64.wrap (dg l i * 2 ^ s))) (a5 : dg o2 (i + 1) = dg l i / 2 ^ (64 - s)) (a6 : ∀ j, i + 1 < j → dg o2 j = 0) : Sh l n s (i + 1) o2 := by
  have V := dg_in hl i
  have O := dg_in S.dig i
  obtain ⟨p1, p2, p3, p4, p5, p6, p7⟩ := part_or hs V.1 V.2 O.1 S.low O.2
  refine ⟨a1, a2, by rw [a5]; exact p5, a6, ?_⟩
  have eO : pv o i + dg o i * 18446744073709551616 ^ i = pv l i * 2 ^ s := S.sum
  have e2 : (2 ^ s * (dg l i % 2 ^ (64 - s)) + dg l i / 2 ^ (64 - s) * 18446744073709551616) * 18446744073709551616 ^ i = dg l i * 2 ^ s * 18446744073709551616 ^ i := by rw [p7]
  rw [Int.add_mul, Int.mul_assoc (dg l i / 2 ^ (64 - s)), ← pw_succ] at e2
  have e3 : dg l i * 18446744073709551616 ^ i * 2 ^ s = dg l i * 2 ^ s * 18446744073709551616 ^ i := Int.mul_right_comm _ _ _
  rw [pv, pv, pv, pv_low a3, a4, p1, a5, Int.add_mul, Int.add_mul, e3]
  clear a1 a2 a3 a4 a5 a6 p1 p2 p3 p4 p5 p6 p7 V O S e3
  generalize 2 ^ s * (dg l i % 2 ^ (64 - s)) * 18446744073709551616 ^ i = t1 at *
  generalize dg l i / 2 ^ (64 - s) * 18446744073709551616 ^ (i + 1) = t2 at *
  generalize dg l i * 2 ^ s * 18446744073709551616 ^ i = t3 at *
  generalize dg o i * 18446744073709551616 ^ i = t4 at *
  generalize pv l i * 2 ^ s = t5 at *
  generalize pv o i = t6 at *
  omega
set_option maxRecDepth 100000 in
set_option maxHeartbeats 8000000 in
theorem shift_w {l : List Int} {b n s c : Nat} {T : TypeId} {w : World} (k : Blk w b (U l) T) (hl : Dig l) (hn : n ≤ l.length) (n1 : 1 ≤ n) (n16 : n ≤ 16) (hs : s ≤ 63) :
    Calls Try.prog 60 #[.slice (some ⟨b, 0, none⟩) n c, .int .i64 s] w fun e w' => ∃ o, e = .returned (.slice (some ⟨w.heap.size, 0, none⟩) (n + 1) (n + 1)) ∧ o.length = n + 1 ∧ Dig o ∧ pv o (n + 1) = pv l n * 2 ^ s ∧ Blk w' w.heap.size (U o) 25 ∧ Below w.heap.size w w' := by
  have MK := makeN n1 n16 w
  have nb := k.lt
  have k0 := Blk.new w (U (List.replicate (n + 1) 0)) 25
  have k1 := k.alloc (.cells (U (List.replicate (n + 1) 0)) 25)
  have b1 := (Below.refl w.heap.size w).alloc (Nat.le_refl _) (.cells (U (List.replicate (n + 1) 0)) 25)
  have j0 : (n : Int) ≤ 16 := by omega
  have S0 : Sh l n s 0 (List.replicate (n + 1) 0) := ⟨by simp, dig_zeros _, by rw [dg_zeros]; exact Int.pow_pos (by decide), fun j _ => dg_zeros _ j, by rw [pv_zeros]; simp [pv]⟩
  go_enter Try.func60, Try.ntmps60
  go_wp2_with fail
  clear MK
  go_loopw [14] (fun s14 wx => ∃ (i : Nat) (o : List Int), i ≤ n ∧ s14 = .int .i64 i ∧ Sh l n s i o ∧ Blk wx w.heap.size (U o) 25 ∧ Blk wx b (U l) T ∧ Below w.heap.size w wx) (fun s14 _ => n - (intOf s14).toNat)
  case atStart => exact ⟨0, _, Nat.zero_le _, rfl, S0, k0, k1, b1⟩
  case round =>
    clear k k0 k1 b1 S0
    obtain ⟨i, o, hi, rfl, S, k0, k1, b1⟩ := hrel
    by_cases hlt : i < n
    · have cO : wr.cell? ⟨w.heap.size, i, none⟩ = some (.int .u64 (dg o i)) := by rw [k0.cell, U_at (by rw [S.len]; omega)]
      have cL : wr.cell? ⟨b, i, none⟩ = some (.int .u64 (dg l i)) := by rw [k1.cell, U_at (by omega)]
      have fO := k0.free i
      have V := dg_in hl i
      have O := dg_in S.dig i
      obtain ⟨p1, p2, p3, p4, p5, p6, p7⟩ := part_or hs V.1 V.2 O.1 S.low O.2
      have iS : i < o.length := by rw [S.len]; omega
      have iS1 : i + 1 < o.length := by rw [S.len]; omega
      rw [← p1] at p2 p3
      have kA := k0.set i (.int .u64 (Go.bits .or .u64 (dg o i) (IntKind.u64.wrap (dg l i * 2 ^ s))))
      rw [U_set] at kA
      have fA := kA.free (i + 1)
      have cA := (kA.cell (i + 1)).trans (U_at (by rw [List.length_set]; omega))
      have kB := kA.set (i + 1) (.int .u64 (dg l i / 2 ^ (64 - s)))
      rw [U_set] at kB
      have q1 := Blk.setOther k1 (show (⟨w.heap.size, i, none⟩ : Addr).block ≠ b by show w.heap.size ≠ b; omega) (.int .u64 (Go.bits .or .u64 (dg o i) (IntKind.u64.wrap (dg l i * 2 ^ s))))
      have bA := b1.setCell (p := ⟨w.heap.size, i, none⟩) (Nat.le_refl _) (.int .u64 (Go.bits .or .u64 (dg o i) (IntKind.u64.wrap (dg l i * 2 ^ s))))
      have iI : 0 ≤ (i : Int) := Int.natCast_nonneg i
      have iJ : (i : Int) + 1 < (n : Int) + 1 := by omega
      have dA := dig_set S.dig i p2 p3
      have HP := Lib.hid (And.intro p4 (And.intro p5 p6))
      clear p1 p4 p5 p6 p7 V O
      by_cases hs0 : 0 < s
      · have s1 : 0 < (s : Int) := by omega
        have s2 : (s : Int) ≤ 63 := by omega
        have S2 : Sh l n s (i + 1) ((o.set i (Go.bits .or .u64 (dg o i) (IntKind.u64.wrap (dg l i * 2 ^ s)))).set (i + 1) (dg l i / 2 ^ (64 - s))) :=
          S.up hl hs (by rw [List.length_set, List.length_set]; exact S.len) (dig_set dA _ HP.out.1 HP.out.2.2) (fun j hj => by rw [dg_set, if_neg (fun h => Nat.ne_of_gt (Nat.lt_succ_of_lt hj) h.1), dg_set, if_neg (fun h => Nat.ne_of_gt hj h.1)])
            (by rw [dg_set, if_neg (fun h => Nat.succ_ne_self i h.1), dg_set, if_pos ⟨rfl, iS⟩]) (by rw [dg_set, if_pos ⟨rfl, by rw [List.length_set]; exact iS1⟩])
            (fun j hj => by rw [dg_set, if_neg (fun h => Nat.ne_of_lt hj h.1), dg_set, if_neg (fun h => Nat.ne_of_lt (Nat.lt_of_succ_lt hj) h.1)]; exact S.none j (Nat.lt_of_succ_lt hj))
        clear p2 p3 dA
        go_wp2_with fail
        exact ⟨⟨i + 1, _, hlt, rfl, S2, kB, Blk.setOther q1 (by show w.heap.size ≠ b; omega) _, bA.setCell (Nat.le_refl _) _⟩, by simp [intOf]; omega⟩
      · have z : s = 0 := by omega
        subst z
        have S2 : Sh l n 0 (i + 1) (o.set i (Go.bits .or .u64 (dg o i) (IntKind.u64.wrap (dg l i * 2 ^ 0)))) :=
          S.up hl hs (by rw [List.length_set]; exact S.len) dA (fun j hj => by rw [dg_set, if_neg (fun h => Nat.ne_of_gt hj h.1)])
            (by rw [dg_set, if_pos ⟨rfl, iS⟩]) (by
              rw [dg_set, if_neg (fun h => Nat.ne_of_lt (Nat.lt_succ_self i) h.1), S.none (i + 1) (Nat.lt_succ_self i)]
              have h1 := HP.out.1
              have h2 := HP.out.2.1
              have h3 : (2 : Int) ^ 0 = 1 := rfl
              rw [h3] at h2
              omega)
            (fun j hj => by rw [dg_set, if_neg (fun h => Nat.ne_of_lt (Nat.lt_of_succ_lt hj) h.1)]; exact S.none j (Nat.lt_of_succ_lt hj))
        clear p2 p3 dA kB
        have vz : dg l i * 2 ^ 0 = dg l i := by rw [show (2 : Int) ^ 0 = 1 from rfl, Int.mul_one]
        rw [vz] at S2 kA q1 bA
        clear cA fA
        go_wp2_with fail
        exact ⟨⟨i + 1, _, hlt, rfl, S2, kA, q1, bA⟩, by simp [intOf]; omega⟩
    · have hin : i = n := by omega
      subst hin
      go_wp2_with fail
      go_ret
      exact ⟨o, rfl, S.len, S.dig, S.sum, k0, b1⟩
end Go.Proofs.Ytpdljoalfmgfiaa.YWide
