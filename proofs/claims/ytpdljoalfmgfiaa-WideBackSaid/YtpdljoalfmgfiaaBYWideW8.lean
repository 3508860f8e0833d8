/- Lean functions, contracts and lemmas that this claim needs. No condition. -/
import Derived.Test.YtpdljoalfmgfiaaBYWideW7
import Derived.Test.YtpdljoalfmgfiaaBQWdx2
namespace Go.Proofs.Ytpdljoalfmgfiaa.YWide
open Go.RowKit Go.Proofs.Ytpdljoalfmgfiaa.YInv Go.Proofs.Ytpdljoalfmgfiaa.YErr Go.Proofs.Ytpdljoalfmgfiaa.YRef Go.Proofs.Ytpdljoalfmgfiaa.YNum Go.Proofs.Ytpdljoalfmgfiaa.YBits Go.Proofs.Ytpdljoalfmgfiaa.XCarry Go.Proofs.Ytpdljoalfmgfiaa.QWd Go.Proofs.YtpdljoalfmgfiaaW.PrintWords Go.Proofs.YtpdljoalfmgfiaaW.PrintLast
set_option linter.unusedVariables false
set_option linter.unusedSimpArgs false
section
variable {w : World} {b c : Nat} {l m : List Int}
theorem res22 {fn : Func} {p q : Tmp} (h : fn.results = #[.cell p 27, .cell q 27]) (tmps : Array Value) (hp : tmps.getD p undef = .pointer (some ⟨b, 0, none⟩)) (hq : tmps.getD q undef = .pointer (some ⟨c, 0, none⟩)) (k : Blk w b (U l) 27) (hl : l.length = 16) (k' : Blk w c (U m) 27) (hm : m.length = 16) :
    (results fn tmps).run Try.prog w = .ok (.tuple #[.agg (U l), .agg (U m)]) w := by
  have hp' : tmps[p]?.getD undef = .pointer (some ⟨b, 0, none⟩) := by simpa using hp
  have hq' : tmps[q]?.getD undef = .pointer (some ⟨c, 0, none⟩) := by simpa using hq
  simp [results, h, hp', hq', asAddr, loadW k hl, loadW k' hm]
theorem res221 {fn : Func} {p q u : Tmp} (h : fn.results = #[.cell p 27, .cell q 27, .tmp u]) (tmps : Array Value) (hp : tmps.getD p undef = .pointer (some ⟨b, 0, none⟩)) (hq : tmps.getD q undef = .pointer (some ⟨c, 0, none⟩)) (k : Blk w b (U l) 27) (hl : l.length = 16) (k' : Blk w c (U m) 27) (hm : m.length = 16) :
    (results fn tmps).run Try.prog w = .ok (.tuple #[.agg (U l), .agg (U m), tmps.getD u undef]) w := by
  have hp' : tmps[p]?.getD undef = .pointer (some ⟨b, 0, none⟩) := by simpa using hp
  have hq' : tmps[q]?.getD undef = .pointer (some ⟨c, 0, none⟩) := by simpa using hq
  simp [results, h, hp', hq', asAddr, loadW k hl, loadW k' hm]
end
theorem one_lim {r : Int} (h0 : 0 ≤ r) (h1 : r < 18446744073709551616) : r :: List.replicate 15 0 = lim r := by
  refine lim_eq (by simp) (fun x hx => ?_) (by rw [val_cons, val_nones]; congr 1; omega)
  rcases List.mem_cons.1 hx with rfl | hx
  · exact ⟨h0, h1⟩
  · rw [List.eq_of_mem_replicate hx]; omega
set_option maxRecDepth 100000 in
set_option maxHeartbeats 8000000 in
theorem short_c {n v : Int} (n0 : 0 ≤ n) (n1 : n < 18446744073709551616 ^ 16) (v0 : 0 < v) (v1 : v < 18446744073709551616) (w : World) : Calls Try.prog 58 #[.agg (U (lim n)), .int .u64 v] w fun e w' => e = .returned (.tuple #[.agg (U (lim (n / v))), .agg (U (lim (n % v)))]) ∧ Below w.heap.size w w' := by
  have la := lim_len n
  have da := lim_dig n
  have lq := lim_len (n / v)
  have lr := lim_len (n % v)
  have va : pv (lim n) 16 = n := by rw [pv_lim n 16 (Nat.le_refl _), Int.emod_eq_of_lt n0 n1]
  have m0 := Int.emod_nonneg n (show v ≠ 0 by omega)
  have m1 := Int.emod_lt_of_pos n v0
  have er := one_lim m0 (by omega : n % v < 18446744073709551616)
  have fin : ∀ (o : List Int) (r : Int), o.length = 16 → Dig o → 0 ≤ r → r < v → v * pv o 16 + r = n → o = lim (n / v) ∧ r = n % v := by
    intro o r h1 h2 r0 r1 h
    have hm : n % v = r := by rw [← h, Int.add_comm, Int.add_mul_emod_self_left, Int.emod_eq_of_lt r0 r1]
    have hq : n / v = pv o 16 := by rw [← h, Int.add_comm, Int.add_mul_ediv_left _ _ (by omega), Int.ediv_eq_zero_of_lt r0 r1]; omega
    refine ⟨?_, hm.symm⟩
    rw [hq]
    refine lim_eq h1 h2 ?_
    unfold val; rw [h1]
  have FN := Lib.hid (And.intro fin (And.intro va er))
  clear fin va er m0 m1
  generalize lim (n / v) = q at *
  generalize lim (n % v) = rr at *
  generalize n % v = rm at *
  generalize lim n = a at *
  have k0 : Blk (((w.alloc (.cells (U a) 27)).alloc (.cells #[.int .u64 0, .int .u64 0, .int .u64 0, .int .u64 0, .int .u64 0, .int .u64 0, .int .u64 0, .int .u64 0, .int .u64 0, .int .u64 0, .int .u64 0, .int .u64 0, .int .u64 0, .int .u64 0, .int .u64 0, .int .u64 0] 27)).alloc (.cells #[.int .u64 0, .int .u64 0, .int .u64 0, .int .u64 0, .int .u64 0, .int .u64 0, .int .u64 0, .int .u64 0, .int .u64 0, .int .u64 0, .int .u64 0, .int .u64 0, .int .u64 0, .int .u64 0, .int .u64 0, .int .u64 0] 27)) w.heap.size (U a) 27 := ((Blk.new _ _ _).alloc _).alloc _
  obtain ⟨-, k1, k2, b0⟩ := start3 w a zeros _ rfl
  have k1 : Blk (((w.alloc (.cells (U a) 27)).alloc (.cells #[.int .u64 0, .int .u64 0, .int .u64 0, .int .u64 0, .int .u64 0, .int .u64 0, .int .u64 0, .int .u64 0, .int .u64 0, .int .u64 0, .int .u64 0, .int .u64 0, .int .u64 0, .int .u64 0, .int .u64 0, .int .u64 0] 27)).alloc (.cells #[.int .u64 0, .int .u64 0, .int .u64 0, .int .u64 0, .int .u64 0, .int .u64 0, .int .u64 0, .int .u64 0, .int .u64 0, .int .u64 0, .int .u64 0, .int .u64 0, .int .u64 0, .int .u64 0, .int .u64 0, .int .u64 0] 27)) (w.heap.size + 1) (U zeros) 27 := k1
  have k2 : Blk (((w.alloc (.cells (U a) 27)).alloc (.cells #[.int .u64 0, .int .u64 0, .int .u64 0, .int .u64 0, .int .u64 0, .int .u64 0, .int .u64 0, .int .u64 0, .int .u64 0, .int .u64 0, .int .u64 0, .int .u64 0, .int .u64 0, .int .u64 0, .int .u64 0, .int .u64 0] 27)).alloc (.cells #[.int .u64 0, .int .u64 0, .int .u64 0, .int .u64 0, .int .u64 0, .int .u64 0, .int .u64 0, .int .u64 0, .int .u64 0, .int .u64 0, .int .u64 0, .int .u64 0, .int .u64 0, .int .u64 0, .int .u64 0, .int .u64 0] 27)) (w.heap.size + 1 + 1) (U zeros) 27 := k2
  go_enter Try.func58, Try.ntmps58
  go_wp2_with fail
  go_loopw [6, 7] (fun s6 s7 wv => ∃ (k : Nat) (o : List Int) (r : Int), k ≤ 16 ∧ s7 = .int .i64 ((k : Int) - 1) ∧ s6 = .int .u64 r ∧ o.length = 16 ∧ Dig o ∧ 0 ≤ r ∧ r < v ∧ (∀ j, j < k → dg o j = dg a j) ∧ v * (pv o 16 - pv o k) + r * 18446744073709551616 ^ k = pv a 16 - pv a k ∧ Blk wv w.heap.size (U o) 27 ∧ Blk wv (w.heap.size + 1) (U zeros) 27 ∧ Blk wv (w.heap.size + 1 + 1) (U zeros) 27 ∧ Below w.heap.size w wv) (fun _ s7 _ => (intOf s7 + 1).toNat)
  case atStart => exact ⟨16, a, 0, Nat.le_refl _, rfl, rfl, la, da, by omega, v0, fun _ _ => rfl, by simp, k0, k1, k2, b0⟩
  case round =>
    clear k0 k1 k2 b0
    obtain ⟨k, o, r, hk, rfl, rfl, lo, do_, r0, r1, hz, hv, kA, kB, kC, hb⟩ := hrel
    rcases k with _ | k
    · have hv' : v * pv o 16 + r = n := by
        have := FN.out.2.1
        rw [show pv o 0 = 0 from rfl, show pv a 0 = 0 from rfl, Int.sub_zero, Int.sub_zero, this] at hv
        simpa using hv
      obtain ⟨e1, e2⟩ := FN.out.1 o r lo do_ r0 r1 hv'
      subst e1 e2
      have e3 : U rr = #[.int .u64 r, .int .u64 0, .int .u64 0, .int .u64 0, .int .u64 0, .int .u64 0, .int .u64 0, .int .u64 0, .int .u64 0, .int .u64 0, .int .u64 0, .int .u64 0, .int .u64 0, .int .u64 0, .int .u64 0, .int .u64 0] := by rw [← FN.out.2.2]; rfl
      have HE := Lib.hid e3
      clear hv hv' hz FN e3
      go_wp2_with (first | (refine ldW kA lo _ rfl rfl rfl ?_) | (refine stW kB zeros_len lo _ _ rfl rfl rfl rfl ?_; have kC2 := far_ (b := w.heap.size + 1) (cs := U o) kC (by omega); have kB2 := put_ (cs := U o) kB) | (refine stW kC2 zeros_len lr _ _ rfl rfl rfl (congrArg Value.agg HE.out.symm) ?_))
      exact bodyPost_ret (res22 Try.results58 _ rfl rfl (far_ kB2 (by omega)) lo (put_ kC2) lr) rfl ⟨rfl, below_row (below_row hb (by omega) _) (by omega) _⟩
    · have A := dg_in da k
      have e1 : ((k + 1 : Nat) : Int) - 1 = (k : Int) := by omega
      rw [e1]
      clear e1
      have dk := hz k (by omega)
      have cO : wr.cell? ⟨w.heap.size, k, none⟩ = some (.int .u64 (dg a k)) := by rw [kA.cell, U_at (by omega), dk]
      have fO := kA.free k
      have DV := fun W => bits_Div64.calls (4 + 16) r (dg a k) v _ _ W (div64_tells 4 r (dg a k) v r0 r1 A.1 A.2 v1)
      generalize ht : r * 18446744073709551616 + dg a k = t at *
      have t0 : 0 ≤ t := by omega
      have dm := Int.mul_ediv_add_emod t v
      have q0 : 0 ≤ t / v := Int.ediv_nonneg t0 (by omega)
      have q1 : t / v < 18446744073709551616 := Int.ediv_lt_of_lt_mul v0 (by
        have := Int.mul_le_mul_of_nonneg_right (show r + 1 ≤ v by omega) (show (0 : Int) ≤ 18446744073709551616 by decide)
        rw [Int.mul_comm 18446744073709551616 v]; omega)
      have m0 := Int.emod_nonneg t (show v ≠ 0 by omega)
      have m1 := Int.emod_lt_of_pos t v0
      have kA2 := kA.set k (.int .u64 (t / v))
      rw [U_set] at kA2
      have st : v * (pv (o.set k (t / v)) 16 - pv (o.set k (t / v)) k) + t % v * 18446744073709551616 ^ k = pv a 16 - pv a k := by
        have e1 : pv (o.set k (t / v)) 16 = pv o 16 + (t / v - dg o k) * 18446744073709551616 ^ k := by
          have := val_set o k (t / v) (by omega)
          unfold val at this
          rwa [List.length_set, lo] at this
        have e2 : pv o (k + 1) = pv o k + dg o k * 18446744073709551616 ^ k := rfl
        have e3 : pv a (k + 1) = pv a k + dg a k * 18446744073709551616 ^ k := rfl
        rw [e2, e3, pw_succ, dk] at hv
        rw [e1, pv_set_le _ _ _ _ (Nat.le_refl k), dk]
        generalize (18446744073709551616 : Int) ^ k = P at *
        have f1 : v * (pv o 16 + (t / v - dg a k) * P - pv o k) + t % v * P = v * (pv o 16 - (pv o k + dg a k * P)) + (v * (t / v) + t % v) * P := by grind
        have f2 : r * (18446744073709551616 * P) + dg a k * P = t * P := by rw [← ht]; grind
        rw [f1, dm]
        omega
      have HS := Lib.hid (And.intro st (And.intro hz (And.intro q0 (And.intro q1 (And.intro m0 m1)))))
      have j0 : (0 : Int) ≤ (k : Int) := by omega
      have j1 : (k : Int) < 16 := by omega
      generalize t / v = tq at *
      generalize t % v = tr at *
      clear st hz q0 q1 m0 m1 dm t0 ht hv dk A r0 r1
      go_wp2_with fail
      refine (DV _).mono ?_; rintro e w4 ⟨rfl, ⟨m4, rfl⟩⟩
      go_wp2_with fail
      go_roundw
      case rel => exact ⟨k, _, _, by omega, by go_num, rfl, by rw [List.length_set]; exact lo, dig_set do_ k HS.out.2.2.1 HS.out.2.2.2.1, HS.out.2.2.2.2.1, HS.out.2.2.2.2.2, fun j hj => by rw [dg_set, if_neg (by omega)]; exact HS.out.2.1 j (by omega), HS.out.1, Blk.drewN kA2 _, Blk.drewN (kB.setOther (by simp) _) _, Blk.drewN (kC.setOther (by simp; omega) _) _, below_drewN (hb.setCell (by simp) _) _⟩
      case measure => (simp [intOf]; try omega)
end Go.Proofs.Ytpdljoalfmgfiaa.YWide
