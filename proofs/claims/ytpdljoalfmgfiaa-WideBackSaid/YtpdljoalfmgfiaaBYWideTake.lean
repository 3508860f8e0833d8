/- Lean functions, contracts and lemmas that this claim needs. No condition. -/
import Derived.Test.YtpdljoalfmgfiaaBYWideW4
import Derived.Test.YtpdljoalfmgfiaaBYWideGuess
import Derived.Test.YtpdljoalfmgfiaaBQWdx2
namespace Go.Proofs.Ytpdljoalfmgfiaa.YWide
open Go.RowKit Go.Proofs.Ytpdljoalfmgfiaa.YInv Go.Proofs.Ytpdljoalfmgfiaa.YErr Go.Proofs.Ytpdljoalfmgfiaa.YRef Go.Proofs.Ytpdljoalfmgfiaa.YNum Go.Proofs.Ytpdljoalfmgfiaa.YBits Go.Proofs.Ytpdljoalfmgfiaa.XCarry Go.Proofs.Ytpdljoalfmgfiaa.QWd Go.Proofs.YtpdljoalfmgfiaaW.PrintWords Go.Proofs.YtpdljoalfmgfiaaW.PrintLast
set_option linter.unusedVariables false
set_option linter.unusedSimpArgs false
/-- A window's value. -/
def wv (l : List Int) (i : Nat) : Nat → Int
  | 0 => 0
  | k + 1 => wv l i k + dg l (i + k) * 18446744073709551616 ^ k
theorem wv_congr {l l' : List Int} {i k : Nat} (h : ∀ j, j < k → dg l (i + j) = dg l' (i + j)) : wv l i k = wv l' i k := by
  induction k with
  | zero => rfl
  | succ k ih => rw [wv, wv, ih (fun j hj => h j (by omega)), h k (by omega)]
theorem wv_set {l : List Int} {i k : Nat} (x : Int) (hk : i + k < l.length) : wv (l.set (i + k) x) i (k + 1) = wv l i k + x * 18446744073709551616 ^ k := by
  rw [wv, dg_set, if_pos ⟨rfl, hk⟩]
  rw [wv_congr (l := l.set (i + k) x) (l' := l) (fun j hj => by rw [dg_set, if_neg (by omega)])]
theorem wv_nonneg {l : List Int} (hl : Dig l) (i k : Nat) : 0 ≤ wv l i k := by
  induction k with
  | zero => exact Int.le_refl _
  | succ k ih => have := Int.mul_nonneg (dg_in hl (i + k)).1 (show (0 : Int) ≤ 18446744073709551616 ^ k by have := pw_pos k; omega); rw [wv]; omega
theorem wv_lt {l : List Int} (hl : Dig l) (i k : Nat) : wv l i k < 18446744073709551616 ^ k := by
  induction k with
  | zero => simp [wv]
  | succ k ih =>
    have h1 := (dg_in hl (i + k)).2
    have hp := pw_pos k
    have : dg l (i + k) * 18446744073709551616 ^ k ≤ 18446744073709551615 * 18446744073709551616 ^ k := Int.mul_le_mul_of_nonneg_right (by omega) (by omega)
    rw [wv, pw_succ]; omega
/-- Nothing that was there is touched but one block. -/
def Touch (w w' : World) (p : Nat) : Prop := w'.os = w.os ∧ w'.tape = w.tape ∧ w'.output = w.output ∧ w.heap.size ≤ w'.heap.size ∧ ∀ k, k < w.heap.size → k ≠ p → w'.heap[k]? = w.heap[k]?
theorem Touch.refl (w : World) (p : Nat) : Touch w w p := ⟨rfl, rfl, rfl, Nat.le_refl _, fun _ _ _ => rfl⟩
theorem Touch.trans {w w' w2 : World} {p : Nat} (h : Touch w w' p) (g : Touch w' w2 p) : Touch w w2 p :=
  ⟨g.1.trans h.1, g.2.1.trans h.2.1, g.2.2.1.trans h.2.2.1, Nat.le_trans h.2.2.2.1 g.2.2.2.1, fun k hk hp => (g.2.2.2.2 k (Nat.lt_of_lt_of_le hk h.2.2.2.1) hp).trans (h.2.2.2.2 k hk hp)⟩
theorem Touch.of {w w' : World} {p : Nat} (h : Below w.heap.size w w') : Touch w w' p := ⟨h.os, h.tape, h.output, h.size, fun k hk _ => h.block k hk⟩
theorem Touch.set {w w' : World} {p : Nat} (h : Touch w w' p) (j : Nat) (v : Value) : Touch w (w'.setCell ⟨p, j, none⟩ v) p :=
  ⟨h.1, h.2.1, h.2.2.1, by simp; exact h.2.2.2.1, fun k hk hp => (Below.heap_setCell w' ⟨p, j, none⟩ v k hp).trans (h.2.2.2.2 k hk hp)⟩
theorem Touch.drewN {w w' : World} {p : Nat} (h : Touch w w' p) (n : Nat) : Touch w (w'.drewN n) p := ⟨h.1, h.2.1, h.2.2.1, h.2.2.2.1, h.2.2.2.2⟩
theorem Touch.blk {w w' : World} {p q : Nat} {cs : Array Value} {T : TypeId} (h : Touch w w' p) (k : Blk w q cs T) (hn : q ≠ p) : Blk w' q cs T := (h.2.2.2.2 q k.lt hn).trans k
theorem Touch.below {W w w' : World} {p : Nat} (h : Touch w w' p) (b : Below W.heap.size W w) (hp : W.heap.size ≤ p) : Below W.heap.size W w' :=
  ⟨h.1.trans b.os, h.2.1.trans b.tape, h.2.2.1.trans b.output, Nat.le_trans b.size h.2.2.2.1, fun k hk => (h.2.2.2.2 k (Nat.lt_of_lt_of_le hk b.size) (by omega)).trans (b.block k hk)⟩
theorem sub_ex {x y c : Int} (hx0 : 0 ≤ x) (hx : x < 18446744073709551616) (hy0 : 0 ≤ y) (hy : y < 18446744073709551616) (c0 : 0 ≤ c) (c1 : c ≤ 1) :
    ∃ d b : Int, bits_Sub64.f x y c = some (d, b) ∧ 0 ≤ d ∧ d < 18446744073709551616 ∧ 0 ≤ b ∧ b ≤ 1 ∧ d + y + c = x + b * 18446744073709551616 := by
  refine ⟨_, _, sub64f hx0 hy0 hy c0 c1, by omega, by omega, by split <;> omega, by split <;> omega, ?_⟩
  split <;> omega
theorem mul_ex {x y : Int} (hx0 : 0 ≤ x) (hx : x < 18446744073709551616) (hy0 : 0 ≤ y) (hy : y < 18446744073709551616) :
    ∃ h l : Int, bits_Mul64.f x y = some (h, l) ∧ 0 ≤ h ∧ h ≤ 18446744073709551614 ∧ 0 ≤ l ∧ l < 18446744073709551616 ∧ x * y = h * 18446744073709551616 + l := by
  have p0 : 0 ≤ x * y := Int.mul_nonneg hx0 hy0
  have p1 : x * y ≤ 18446744073709551615 * 18446744073709551615 := Int.mul_le_mul (by omega) (by omega) hy0 (by decide)
  refine ⟨_, _, mul64_tells hx0 hx hy0 hy, ?_⟩
  generalize x * y = p at *
  omega
theorem add_ex {x y c : Int} (hx0 : 0 ≤ x) (hx : x < 18446744073709551616) (hy0 : 0 ≤ y) (hy : y < 18446744073709551616) (c0 : 0 ≤ c) (c1 : c ≤ 1) :
    ∃ d b : Int, bits_Add64.f x y c = some (d, b) ∧ 0 ≤ d ∧ d < 18446744073709551616 ∧ 0 ≤ b ∧ b ≤ 1 ∧ d + b * 18446744073709551616 = x + y + c := by
  refine ⟨_, _, add64f hx0 hy0 hy c0 c1, by omega, by omega, by omega, by omega, by omega⟩
theorem take_alg {W V q x y u br ca h l s o d b P : Int} (hW : W + q * V = y + (br + ca) * P) (hm : q * x = h * 18446744073709551616 + l) (ha : s + o * 18446744073709551616 = l + ca + 0) (hs : d + s + br = u + b * 18446744073709551616) :
    W + d * P + q * (V + x * P) = y + u * P + (b + (h + o)) * (18446744073709551616 * P) := by
  have e1 : q * (V + x * P) = q * V + (q * x) * P := by rw [Int.mul_add, ← Int.mul_assoc]
  have e2 : (d + q * x) * P = (u + b * 18446744073709551616 + h * 18446744073709551616 + o * 18446744073709551616 - br - ca) * P := by rw [show d + q * x = u + b * 18446744073709551616 + h * 18446744073709551616 + o * 18446744073709551616 - br - ca by omega]
  have e3 : (b + (h + o)) * (18446744073709551616 * P) = (b * 18446744073709551616 + h * 18446744073709551616 + o * 18446744073709551616) * P := by
    rw [← Int.mul_assoc]
    congr 1
    omega
  rw [e1, e3]
  have e4 : d * P + q * x * P = (d + q * x) * P := by rw [Int.add_mul]
  have e5 : (u + b * 18446744073709551616 + h * 18446744073709551616 + o * 18446744073709551616 - br - ca) * P = u * P + (b * 18446744073709551616 + h * 18446744073709551616 + o * 18446744073709551616) * P - (br + ca) * P := by
    rw [← Int.add_mul, ← Int.sub_mul]
    congr 1
    omega
  omega
theorem cell_off {w : World} {b i k : Nat} {l : List Int} {T : TypeId} (h : Blk w b (U l) T) (hk : i + k < l.length) : w.cell? ⟨b, i + k, none⟩ = some (.int .u64 (dg l (i + k))) := by rw [h.cell, U_at hk]
/-- What take leaves behind. -/
def TookIt (lu vv : List Int) (bu i m : Nat) (T : TypeId) (w : World) (e : Ending) (w' : World) : Prop := ∃ lu', e = .returned (.int .u64 (wv lu i (m + 1) / pv vv m)) ∧ lu'.length = lu.length ∧ Dig lu' ∧ (∀ j, j < i ∨ i + m < j → dg lu' j = dg lu j) ∧ wv lu' i (m + 1) = wv lu i (m + 1) % pv vv m ∧ Blk w' bu (U lu') T ∧ Touch w w' bu
set_option maxRecDepth 100000 in
set_option maxHeartbeats 16000000 in
theorem take_w {lu vv : List Int} {bu bv i m cu cv : Nat} {T Tv : TypeId} {q : Int} {w : World} (ku : Blk w bu (U lu) T) (kv : Blk w bv (U vv) Tv) (hne : bv ≠ bu) (him : i + m < lu.length) (hmv : m ≤ vv.length) (m16 : m ≤ 16) (i17 : i ≤ 17) (du : Dig lu) (dv : Dig vv) (q0 : 0 ≤ q) (q1 : q < 18446744073709551616) (vp : 0 < pv vv m)
    (hq0 : wv lu i (m + 1) / pv vv m ≤ q) (hq1 : q ≤ wv lu i (m + 1) / pv vv m + 1) :
    Calls Try.prog 61 #[.slice (some ⟨bu, i, none⟩) (m + 1) cu, .slice (some ⟨bv, 0, none⟩) m cv, .int .u64 q] w fun e w' => TookIt lu vv bu i m T w e w' := by
  have mI : (m : Int) ≤ 16 := by omega
  have m0 : 0 ≤ (m : Int) := by omega
  go_enter Try.func61, Try.ntmps61
  go_wp2_with fail
  go_loopw [7, 8, 18] (fun s7 s8 s18 wx => ∃ (k : Nat) (o : List Int) (br ca : Int), k ≤ m ∧ s18 = .int .i64 k ∧ s7 = .int .u64 br ∧ s8 = .int .u64 ca ∧ 0 ≤ br ∧ br ≤ 1 ∧ 0 ≤ ca ∧ ca < 18446744073709551616 ∧ o.length = lu.length ∧ Dig o ∧ (∀ j, j < i ∨ i + k ≤ j → dg o j = dg lu j) ∧ wv o i k + q * pv vv k = wv lu i k + (br + ca) * 18446744073709551616 ^ k ∧ Blk wx bu (U o) T ∧ Touch w wx bu) (fun _ _ s18 _ => m - (intOf s18).toNat)
  case atStart => exact ⟨0, lu, 0, 0, Nat.zero_le _, rfl, rfl, rfl, by omega, by omega, by omega, by omega, rfl, du, fun _ _ => rfl, by simp [wv, pv], ku, Touch.refl _ _⟩
  case round =>
    obtain ⟨k, o, br, ca, hk, rfl, rfl, rfl, br0, br1, ca0, ca1, ho, dO, hout, hv, kO, tc⟩ := hrel
    have k0 : 0 ≤ (k : Int) := by omega
    by_cases hlt : k < m
    · have j1 : (k : Int) < (m : Int) := by omega
      have j2 : (k : Int) < (m : Int) + 1 := by omega
      have kvw := tc.blk kv hne
      have cV : wr.cell? ⟨bv, k, none⟩ = some (.int .u64 (dg vv k)) := by rw [kvw.cell, U_at (by omega)]
      have cU : wr.cell? ⟨bu, i + k, none⟩ = some (.int .u64 (dg lu (i + k))) := by rw [cell_off kO (by omega), hout (i + k) (.inr (Nat.le_refl _))]
      have fU := kO.free (i + k)
      have V := dg_in dv k
      have X := dg_in du (i + k)
      obtain ⟨h, l, em, h0, h1, l0, l1, hm⟩ := mul_ex q0 q1 V.1 V.2
      obtain ⟨s, o1, ea, s0, s1, o0, o2, ha⟩ := add_ex l0 l1 ca0 ca1 (show (0 : Int) ≤ 0 by omega) (show (0 : Int) ≤ 1 by omega)
      obtain ⟨d, b, es, d0, d1, b0, b1, hs⟩ := sub_ex X.1 X.2 s0 s1 br0 br1
      have MU := fun W => bits_Mul64.calls q (dg vv k) _ _ W em
      have AD := fun W => bits_Add64.run l ca 0 _ _ ea W
      have SB := fun W => bits_Sub64.run (dg lu (i + k)) s br _ _ es W
      have kO2 := kO.set (i + k) (.int .u64 d)
      rw [U_set] at kO2
      have HV := Lib.hid (take_alg (V := pv vv k) hv hm ha hs)
      have HW := Lib.hid (wv_set (l := o) (i := i) (k := k) d (by omega))
      have ho1 : 0 ≤ h + o1 := by omega
      have ho2 : h + o1 < 18446744073709551616 := by omega
      clear em ea es hm ha hs hv
      generalize hx : dg vv k = x at *
      have HX := Lib.hid hx
      clear hx
      go_wp2_with fail
      refine (MU _).mono ?_; rintro e w9 ⟨rfl, ⟨n9, rfl⟩⟩
      go_wp2_with fail
      exact ⟨⟨k + 1, o.set (i + k) d, b, h + o1, by omega, by go_num, rfl, rfl, b0, b1, ho1, ho2, by rw [List.length_set]; exact ho, dig_set dO _ d0 d1, fun j hj => by rw [dg_set, if_neg (by omega)]; exact hout j (by omega), by rw [HW.out, pv, HX.out, wv, pw_succ]; exact HV.out, by rw [← U_set]; exact (kO.drewN n9).set _ _, (tc.drewN n9).set _ _⟩, by simp [intOf]; omega⟩
    · have hkm : k = m := by omega
      subst hkm
      have cU : wr.cell? ⟨bu, i + k, none⟩ = some (.int .u64 (dg lu (i + k))) := by rw [cell_off kO (by omega), hout (i + k) (.inr (Nat.le_refl _))]
      have fU := kO.free (i + k)
      have X := dg_in du (i + k)
      obtain ⟨d, b, es, d0, d1, b0, b1, hs⟩ := sub_ex X.1 X.2 ca0 ca1 br0 br1
      have SB := fun W => bits_Sub64.run (dg lu (i + k)) ca br _ _ es W
      have HW := wv_set (l := o) (i := i) (k := k) d (by omega)
      have TOT : wv (o.set (i + k) d) i (k + 1) + q * pv vv k = wv lu i (k + 1) + b * 18446744073709551616 ^ (k + 1) := by
        rw [HW, wv, pw_succ]
        have e2 : (d + ca + br) * 18446744073709551616 ^ k = (dg lu (i + k) + b * 18446744073709551616) * 18446744073709551616 ^ k := by rw [hs]
        rw [Int.add_mul, Int.add_mul, Int.add_mul, Int.mul_assoc b] at e2
        rw [Int.add_mul] at hv
        omega
      have dO2 : Dig (o.set (i + k) d) := dig_set dO _ d0 d1
      have ho2 : (o.set (i + k) d).length = lu.length := by rw [List.length_set]; exact ho
      have hout2 : ∀ j, j < i ∨ i + k < j → dg (o.set (i + k) d) j = dg lu j := fun j hj => by rw [dg_set, if_neg (by omega)]; exact hout j (by omega)
      have w0 := wv_nonneg dO2 i (k + 1)
      have w1 := wv_lt dO2 i (k + 1)
      have y0 := wv_nonneg du i (k + 1)
      have y1 := wv_lt du i (k + 1)
      have e1 := Int.mul_ediv_add_emod (wv lu i (k + 1)) (pv vv k)
      have e2 := Int.emod_nonneg (wv lu i (k + 1)) (show pv vv k ≠ 0 by omega)
      have e3 := Int.emod_lt_of_pos (wv lu i (k + 1)) vp
      have FIN0 : b = 0 → q = wv lu i (k + 1) / pv vv k ∧ wv (o.set (i + k) d) i (k + 1) = wv lu i (k + 1) % pv vv k := by
        intro hb
        subst hb
        rw [Int.zero_mul, Int.add_zero] at TOT
        have e4 : q ≤ wv lu i (k + 1) / pv vv k := (Int.le_ediv_iff_mul_le vp).2 (by omega)
        have e5 : q = wv lu i (k + 1) / pv vv k := by omega
        refine ⟨e5, ?_⟩
        rw [e5, Int.mul_comm] at TOT
        omega
      have FIN1 : b = 1 → q - 1 = wv lu i (k + 1) / pv vv k ∧ 1 ≤ q ∧ (wv (o.set (i + k) d) i (k + 1) + pv vv k) = wv lu i (k + 1) % pv vv k + 18446744073709551616 ^ (k + 1) := by
        intro hb
        subst hb
        rw [Int.one_mul] at TOT
        have e4 : q ≠ wv lu i (k + 1) / pv vv k := by
          intro e5
          rw [e5, Int.mul_comm] at TOT
          omega
        have e5 : q = wv lu i (k + 1) / pv vv k + 1 := by omega
        have e6 : 0 ≤ wv lu i (k + 1) / pv vv k := Int.ediv_nonneg y0 (by omega)
        refine ⟨by omega, by omega, ?_⟩
        rw [e5, Int.add_mul, Int.one_mul, Int.mul_comm (wv lu i (k + 1) / pv vv k)] at TOT
        omega
      have kO2 := kO.set (i + k) (.int .u64 d)
      rw [U_set] at kO2
      have tc2 := tc.set (i + k) (.int .u64 d)
      have F0 := Lib.hid FIN0
      have F1 := Lib.hid FIN1
      clear FIN0 FIN1 TOT HW es hs e1 e2 e3 w0 w1 y0 y1 hv hq0 hq1 hout
      generalize ho : o.set (i + k) d = o2 at *
      have HO := Lib.hid ho
      clear ho
      rcases (show b = 0 ∨ b = 1 by omega) with rfl | rfl
      · go_wp2_with fail
        go_ret
        obtain ⟨r1, r2⟩ := F0.out (by trivial)
        exact ⟨o2, by rw [← r1]; rfl, ho2, dO2, hout2, r2, kO2, tc2⟩
      · go_wp2_with fail
        go_loopw [8, 72] (fun s8 s72 wx => ∃ (j : Nat) (o : List Int) (ca : Int), j ≤ k ∧ s72 = .int .i64 j ∧ s8 = .int .u64 ca ∧ 0 ≤ ca ∧ ca ≤ 1 ∧ o.length = lu.length ∧ Dig o ∧ (∀ t, t < i ∨ i + j ≤ t → dg o t = dg o2 t) ∧ wv o i j + ca * 18446744073709551616 ^ j = wv o2 i j + pv vv j ∧ Blk wx bu (U o) T ∧ Touch w wx bu) (fun _ s72 _ => k - (intOf s72).toNat)
        case atStart => exact ⟨0, o2, 0, Nat.zero_le _, rfl, rfl, by omega, by omega, ho2, dO2, fun _ _ => rfl, by simp [wv, pv], kO2, tc2⟩
        case round =>
          clear kO tc kO2 tc2 HO F0
          obtain ⟨j, o, ca, hj, rfl, rfl, ca0, ca1, ho, dO, hout, hv, kO, tc⟩ := hrel
          have j0 : 0 ≤ (j : Int) := by omega
          by_cases hlt : j < k
          · have j1 : (j : Int) < (k : Int) := by omega
            have j2 : (j : Int) < (k : Int) + 1 := by omega
            have kvw := tc.blk kv hne
            have cV : wr.cell? ⟨bv, j, none⟩ = some (.int .u64 (dg vv j)) := by rw [kvw.cell, U_at (by omega)]
            have cU : wr.cell? ⟨bu, i + j, none⟩ = some (.int .u64 (dg o2 (i + j))) := by rw [cell_off kO (by omega), hout (i + j) (.inr (Nat.le_refl _))]
            have fU := kO.free (i + j)
            have V := dg_in dv j
            have X := dg_in dO2 (i + j)
            obtain ⟨s, c, ea, s0, s1, c0, c1, ha⟩ := add_ex X.1 X.2 V.1 V.2 ca0 ca1
            have AD := fun W => bits_Add64.run (dg o2 (i + j)) (dg vv j) ca _ _ ea W
            have HW := wv_set (l := o) (i := i) (k := j) s (by omega)
            have TOT : wv (o.set (i + j) s) i (j + 1) + c * 18446744073709551616 ^ (j + 1) = wv o2 i (j + 1) + pv vv (j + 1) := by
              rw [HW, wv, pv, pw_succ]
              have e2 : (s + c * 18446744073709551616) * 18446744073709551616 ^ j = (dg o2 (i + j) + dg vv j + ca) * 18446744073709551616 ^ j := by rw [ha]
              rw [Int.add_mul, Int.add_mul, Int.add_mul, Int.mul_assoc c] at e2
              omega
            have HT := Lib.hid TOT
            have kO3 := kO.set (i + j) (.int .u64 s)
            rw [U_set] at kO3
            clear TOT HW ea ha hv
            go_wp2_with fail
            exact ⟨⟨j + 1, o.set (i + j) s, c, by omega, by go_num, rfl, c0, c1, by rw [List.length_set]; exact ho, dig_set dO _ s0 s1, fun t ht => by rw [dg_set, if_neg (by omega)]; exact hout t (by omega), HT.out, kO3, tc.set _ _⟩, by simp [intOf]; omega⟩
          · have hjk : j = k := by omega
            subst hjk
            have cU : wr.cell? ⟨bu, i + j, none⟩ = some (.int .u64 (dg o2 (i + j))) := by rw [cell_off kO (by omega), hout (i + j) (.inr (Nat.le_refl _))]
            have fU := kO.free (i + j)
            have X := dg_in dO2 (i + j)
            obtain ⟨r1, r2, r3⟩ := F1.out (by trivial)
            have dN : 0 ≤ (dg o2 (i + j) + ca) % 18446744073709551616 ∧ (dg o2 (i + j) + ca) % 18446744073709551616 < 18446744073709551616 := by omega
            have dO3 : Dig (o.set (i + j) ((dg o2 (i + j) + ca) % 18446744073709551616)) := dig_set dO _ dN.1 dN.2
            have HW := wv_set (l := o) (i := i) (k := j) ((dg o2 (i + j) + ca) % 18446744073709551616) (by omega)
            have w0 := wv_nonneg dO3 i (j + 1)
            have w1 := wv_lt dO3 i (j + 1)
            have m0' := Int.emod_nonneg (wv lu i (j + 1)) (show pv vv j ≠ 0 by omega)
            have m1' := Int.emod_lt_of_pos (wv lu i (j + 1)) vp
            have RES : wv (o.set (i + j) ((dg o2 (i + j) + ca) % 18446744073709551616)) i (j + 1) = wv lu i (j + 1) % pv vv j := by
              have e1 := Int.mul_ediv_add_emod (dg o2 (i + j) + ca) 18446744073709551616
              have e2 : (dg o2 (i + j) + ca) * 18446744073709551616 ^ j = (18446744073709551616 * ((dg o2 (i + j) + ca) / 18446744073709551616) + (dg o2 (i + j) + ca) % 18446744073709551616) * 18446744073709551616 ^ j := by rw [e1]
              rw [Int.add_mul, Int.add_mul, Int.mul_comm 18446744073709551616 ((dg o2 (i + j) + ca) / 18446744073709551616), Int.mul_assoc] at e2
              rw [← pw_succ] at e2
              have pvl := pv_lt dv j
              have r4 : wv o2 i (j + 1) = wv o2 i j + dg o2 (i + j) * 18446744073709551616 ^ j := rfl
              have c2 : (dg o2 (i + j) + ca) / 18446744073709551616 = 0 ∨ (dg o2 (i + j) + ca) / 18446744073709551616 = 1 := by omega
              have pj := pw_pos (j + 1)
              have pjj : pv vv j < 18446744073709551616 ^ (j + 1) := by rw [pw_succ]; have := pw_pos j; omega
              rcases c2 with c2 | c2 <;> rw [c2] at e2 <;> omega
            have kO3 := kO.set (i + j) (.int .u64 ((dg o2 (i + j) + ca) % 18446744073709551616))
            rw [U_set] at kO3
            have HR := Lib.hid RES
            have R1 := Lib.hid r1
            have q2 : (1 : Int) ≤ q := r2
            have ho3 : ∀ t, t < i ∨ i + j < t → dg (o.set (i + j) ((dg o2 (i + j) + ca) % 18446744073709551616)) t = dg lu t := fun t ht => by rw [dg_set, if_neg (by omega), hout t (by omega)]; exact hout2 t ht
            clear RES HW r1 r3 w0 w1 m0' m1' hv hout F1
            have WR : IntKind.u64.wrap (dg o2 (i + j) + ca) = (dg o2 (i + j) + ca) % 18446744073709551616 := YBits.u64w _
            go_wp2_with fail
            (try rw [WR])
            go_ret
            exact ⟨o.set (i + j) ((dg o2 (i + j) + ca) % 18446744073709551616), by rw [← R1.out]; rfl, by rw [List.length_set]; exact ho, dO3, ho3, HR.out, kO3, tc.set _ _⟩
end Go.Proofs.Ytpdljoalfmgfiaa.YWide
