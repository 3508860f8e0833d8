/- Lean functions, contracts and lemmas that this claim needs. No condition. -/
import Derived.Test.YtaiolioggjknfaaDoorLYBig
import Derived.Test.YtaiolioggjknfaaDoorLYBlk
import Derived.Test.YtaiolioggjknfaaDoorLYInv
import Derived.Laws.Rows
import Derived.Deep.RegionHeld3
namespace Go.Proofs.YtaiolioggjknfaaDoor.YBig
open Go.RowKit Go.Proofs.YtaiolioggjknfaaDoor.QSn Go.Proofs.YtaiolioggjknfaaDoor.YBits Go.Proofs.YtaiolioggjknfaaDoor.YRef Go.Proofs.YtaiolioggjknfaaDoorW.PrintWords Go.Proofs.YtaiolioggjknfaaDoorW.PrintLast Go.Proofs.YtaiolioggjknfaaDoor.YInv Go.Proofs.YtaiolioggjknfaaDoor.YErr
set_option linter.unusedVariables false
set_option linter.unusedSimpArgs false
/-- A value that reads as a number, whose memory is of the blocks told. -/
def IsB (ok : Nat → Prop) (w : World) (v : Value) (x : Int) : Prop := ∃ A c, v = .agg #[.bool (sg x), .slice A (mag x).length c] ∧ (mag x).length ≤ c ∧ Kd.V (Kd.int .u64) 78 w 0 ok (.slice A (mag x).length c) (mag x)
section
variable {ok ok' : Nat → Prop} {w w' : World} {v : Value} {x : Int}
theorem IsB.big (h : IsB ok w v x) : IsBig w v x := by
  obtain ⟨A, c, hv, hc, h⟩ := h
  exact ⟨A, c, hv, hc, Kd.V_mono h (fun _ _ => trivial)⟩
theorem IsB.mono (h : IsB ok w v x) (hk : ∀ k, ok k → k < w.heap.size → ok' k) : IsB ok' w v x := by
  obtain ⟨A, c, hv, hc, h⟩ := h
  exact ⟨A, c, hv, hc, Kd.V_mono (Kd.V_bound h) (fun k hk' => hk k hk'.1 hk'.2)⟩
theorem IsB.below (h : IsB ok w v x) (hb : Below w.heap.size w w') : IsB ok w' v x := by
  obtain ⟨A, c, hv, hc, h⟩ := h
  exact ⟨A, c, hv, hc, Kd.V_below h hb⟩
theorem IsB.far (h : IsB ok w v x) {p : Addr} (hk : ∀ k, ok k → k ≠ p.block) (u : Value) : IsB ok (w.setCell p u) v x := by
  obtain ⟨A, c, hv, hc, h⟩ := h
  exact ⟨A, c, hv, hc, Kd.V_far h hk u⟩
theorem isB_of {base : Nat} (h : Kd.V (Kd.int .u64) 78 w base ok v (mag x)) : IsB ok w (.agg #[.bool (sg x), v]) x := by
  obtain ⟨A, c, rfl⟩ := Kd.V_slice h
  exact ⟨A, c, rfl, (Kd.V_at h).2.1, Kd.V_lower (base' := 0) h (Nat.zero_le _)⟩
end
theorem Add_b {v u : Value} {x y : Int} {W : World} (hv : IsBig W v x) (hu : IsBig W u y) (sx : Small x) (sy : Small y) :
    Calls Tryd.prog 79 #[v, u] W fun e w' => ∃ r, e = .returned r ∧ IsB (fun k => W.heap.size ≤ k) w' r (x + y) ∧ Below W.heap.size W w' := by
  obtain ⟨A, c, rfl, hc, hv⟩ := hv
  obtain ⟨A', c', rfl, hc', hu⟩ := hu
  refine (leadlineref1_Add.calls 2000 (sg x) A c (mag x) (sg y) A' c' (mag y) _ _ W (IsBig.C hv) hc (IsBig.C hu) hc' (Add_tells 0 sx sy)).mono ?_
  rintro e w' ⟨v, rfl, hv, hb⟩
  exact ⟨_, rfl, isB_of (w := w') hv, hb⟩
theorem Of_b (a : Int) (h0 : -9223372036854775808 ≤ a) (h1 : a ≤ 9223372036854775807) (W : World) :
    Calls Tryd.prog 52 #[.int .i64 a] W fun e w' => ∃ v, e = .returned v ∧ IsB (fun k => W.heap.size ≤ k) w' v a ∧ Below W.heap.size W w' := by
  refine (leadlineref1_Of.calls 2000 a _ _ W (Of_tells 0 h0 h1)).mono ?_
  rintro e w' ⟨v, rfl, hv, hb⟩
  exact ⟨_, rfl, isB_of (w := w') hv, hb⟩
theorem Sub_b {ok : Nat → Prop} {v u : Value} {x y : Int} {W : World} (hv : IsBig W v x) (hu : IsB ok W u y) (sx : Small x) (sy : Small y) :
    Calls Tryd.prog 88 #[v, u] W fun e w' => ∃ r, e = .returned r ∧ IsB (fun k => ok k ∨ W.heap.size ≤ k) w' r (x - y) ∧ Below W.heap.size W w' := by
  obtain ⟨A, c, rfl, hc, hv⟩ := hv
  obtain ⟨A', c', rfl, hc', hu⟩ := hu
  refine (leadlineref1_Sub.calls 2000 (sg x) A c (mag x) (sg y) ok A' c' (mag y) _ _ W (IsBig.C hv) hc hu (Sub_tells 0 sx sy)).mono ?_
  rintro e w' ⟨v, rfl, hv, hb⟩
  exact ⟨_, rfl, isB_of (w := w') hv, hb⟩
theorem Div_b {ok : Nat → Prop} {v u : Value} {x y : Int} {W : World} (hv : IsB ok W v x) (hu : IsBig W u y) (sx : Small x) (y0 : 0 < y) (y1 : y < 18446744073709551616) :
    Calls Tryd.prog 86 #[v, u] W fun e w' => ∃ q r, e = .returned (.tuple #[q, r]) ∧ IsB (fun k => ok k ∨ W.heap.size ≤ k) w' q (Int.tdiv x y) ∧ IsB (fun k => ok k ∨ W.heap.size ≤ k) w' r (Int.tmod x y) ∧ Below W.heap.size W w' := by
  obtain ⟨A, c, rfl, hc, hv⟩ := hv
  obtain ⟨A', c', rfl, hc', hu⟩ := hu
  refine (leadlineref1_Div.calls 2000 (sg x) ok A c (mag x) (sg y) A' c' (mag y) _ _ _ _ W hv (IsBig.C hu) hc' (Div_tells 0 sx y0 y1)).mono ?_
  rintro e w' ⟨q, r, rfl, hq, hr, hb⟩
  exact ⟨_, _, rfl, isB_of (w := w') hq, isB_of (w := w') hr, hb⟩
/-- The blocks that a number may lie in: none of those of the variables that are there. -/
def okL (rb : Nat) (L : Nat → Bool) (b6 b7 : Nat) (k : Nat) : Prop := (L 12 = true → k ≠ b6) ∧ (L 13 = true → k ≠ b7) ∧ k ≠ rb
theorem Blk.set2 {w : World} {b : Nat} {u v u' v' : Value} {T : TypeId} (h : Blk w b #[u, v] T) : Blk ((w.setCell ⟨b, 0, none⟩ u').setCell ⟨b, 1, none⟩ v') b #[u', v'] T := (h.set 0 u').set 1 v'
theorem below_set2 {W w : World} {b : Nat} {u v : Value} (h : Below W.heap.size W w) (hb : W.heap.size ≤ b) : Below W.heap.size W ((w.setCell ⟨b, 0, none⟩ u).setCell ⟨b, 1, none⟩ v) := (h.setCell (p := ⟨b, 0, none⟩) hb u).setCell (p := ⟨b, 1, none⟩) hb v
theorem Blk.far2 {w : World} {b g : Nat} {cs : Array Value} {T : TypeId} {u v : Value} (h : Blk w b cs T) (hb : g ≠ b) : Blk ((w.setCell ⟨g, 0, none⟩ u).setCell ⟨g, 1, none⟩ v) b cs T := (h.setOther (p := ⟨g, 0, none⟩) hb u).setOther (p := ⟨g, 1, none⟩) hb v
theorem IsB.far2 {ok : Nat → Prop} {w : World} {v : Value} {x : Int} {b : Nat} {u u' : Value} (h : IsB ok w v x) (hk : ∀ k, ok k → k ≠ b) : IsB ok ((w.setCell ⟨b, 0, none⟩ u).setCell ⟨b, 1, none⟩ u') v x := (h.far (p := ⟨b, 0, none⟩) hk u).far (p := ⟨b, 1, none⟩) hk u'
theorem floor_of (n m : Int) (hm : 0 < m) : n / m = if Int.tmod n m < 0 then Int.tdiv n m - 1 else Int.tdiv n m := by
  rcases Int.lt_or_le n 0 with h | h
  · have e1 : Int.tmod n m = -((-n) % m) := by rw [show n = -(-n) by omega, Int.neg_tmod, Int.tmod_eq_emod_of_nonneg (by omega)]; simp
    have e2 : Int.tdiv n m = -((-n) / m) := by rw [show n = -(-n) by omega, Int.neg_tdiv, Int.tdiv_eq_ediv_of_nonneg (by omega)]; simp
    have d := Int.mul_ediv_add_emod (-n) m
    have m0 := Int.emod_nonneg (-n) (show m ≠ 0 by omega)
    have m1 := Int.emod_lt_of_pos (-n) hm
    have d' := Int.mul_ediv_add_emod n m
    have m0' := Int.emod_nonneg n (show m ≠ 0 by omega)
    have m1' := Int.emod_lt_of_pos n hm
    rw [e1, e2]
    generalize (-n) / m = q at *
    generalize (-n) % m = r at *
    generalize n / m = q' at *
    generalize n % m = r' at *
    have e : m * (q' + q) = m * q' + m * q := Int.mul_add ..
    have h1 : -(2 * m) < m * (q' + q) := by omega
    have h2 : m * (q' + q) ≤ 0 := by omega
    have h3 : q' + q ≤ 0 := by
      rcases Int.lt_or_le 0 (q' + q) with h | h
      · have := Int.mul_le_mul_of_nonneg_left (show 1 ≤ q' + q by omega) (show 0 ≤ m by omega); omega
      · exact h
    have h4 : -1 ≤ q' + q := by
      rcases Int.lt_or_le (q' + q) (-1) with h | h
      · have := Int.mul_le_mul_of_nonneg_left (show q' + q ≤ -2 by omega) (show 0 ≤ m by omega); omega
      · exact h
    by_cases hr : r = 0
    · rw [if_neg (by omega)]
      have h5 : q' + q = 0 ∨ q' + q = -1 := by omega
      rcases h5 with h5 | h5 <;> rw [h5] at e <;> omega
    · rw [if_pos (by omega)]
      have h5 : q' + q = 0 ∨ q' + q = -1 := by omega
      rcases h5 with h5 | h5 <;> rw [h5] at e <;> omega
  · rw [Int.tmod_eq_emod_of_nonneg h, Int.tdiv_eq_ediv_of_nonneg h, if_neg (by have := Int.emod_nonneg n (show m ≠ 0 by omega); omega)]
theorem tdiv_small (n m : Int) (hm : 0 < m) : -(if n < 0 then -n else n) ≤ Int.tdiv n m ∧ Int.tdiv n m ≤ (if n < 0 then -n else n) := by
  rcases Int.lt_or_le n 0 with h | h
  · have e2 : Int.tdiv n m = -((-n) / m) := by rw [show n = -(-n) by omega, Int.neg_tdiv, Int.tdiv_eq_ediv_of_nonneg (by omega)]; simp
    have a := Int.ediv_le_self m (show 0 ≤ -n by omega)
    have b := Int.ediv_nonneg (show 0 ≤ -n by omega) (show 0 ≤ m by omega)
    rw [if_pos h, e2]
    omega
  · have a := Int.ediv_le_self m h
    have b := Int.ediv_nonneg h (show 0 ≤ m by omega)
    rw [if_neg (by omega), Int.tdiv_eq_ediv_of_nonneg h]
    omega
theorem undrew {w w' : World} (h : Below w.drew.heap.size w.drew w') : Below w.heap.size w w' := ⟨h.os, h.tape, h.output, h.size, h.block⟩
theorem below_new (w : World) (o : Obj) : Below w.heap.size w (w.alloc o) := (Below.refl _ _).alloc (Nat.le_refl _) _
theorem below_both {W w w' : World} (h : Below W.heap.size W w) (g : Below w.heap.size w w') : Below W.heap.size W w' := h.trans (g.mono h.size)
def RInv (x y : Int) (W w1 W2 : World) (A1 A2 A3 : Option Addr) (c1 c2 c3 : Nat) (L : Nat → Bool) (a : Act) (w : World) : Prop := ∃ (t6 t7 t9 t10 t11 t12 t13 t14 t15 t16 t17 t18 t19 t20 : Value) (b6 b7 : Nat) (Aq Ar : Option Addr) (cq cr : Nat), a = { tmps := #[.agg #[.bool (sg x), .slice A1 (mag x).length c1], .agg #[.bool (sg y), .slice A2 (mag y).length c2], .pointer (some ⟨W.heap.size, 0, none⟩), .pointer (some ⟨W.heap.size + 1, 0, none⟩), .pointer (some ⟨W.heap.size + 1 + 1, 0, none⟩), .pointer (some ⟨w1.heap.size, 0, none⟩), t6, t7, .agg #[.bool (sg 2), .slice A3 (mag 2).length c3], t9, t10, t11, t12, t13, t14, t15, t16, t17, t18, t19, t20, undef, undef, undef, undef, undef, undef, undef], defers := [] } ∧
    Below W2.heap.size W2 w ∧
    (L 0 = true → t10 = .agg #[.bool (sg 2), .slice A3 (mag 2).length c3]) ∧
    (L 1 = true → t11 = .agg #[.bool (sg x), .slice A1 (mag x).length c1]) ∧
    (L 2 = true → L 4 = false → IsBig w t12 (2 * x)) ∧
    (L 3 = true → t13 = .agg #[.bool (sg y), .slice A2 (mag y).length c2]) ∧
    (L 4 = true → L 8 = false → IsB (okL (W.heap.size + 1 + 1) L b6 b7) w t14 (2 * x + y)) ∧
    (L 5 = true → t15 = .agg #[.bool (sg 2), .slice A3 (mag 2).length c3]) ∧
    (L 6 = true → t16 = .agg #[.bool (sg y), .slice A2 (mag y).length c2]) ∧
    (L 7 = true → L 8 = false → IsBig w t17 (2 * y)) ∧
    (L 8 = true → t18 = .tuple #[.agg #[.bool (sg (Int.tdiv (2 * x + y) (2 * y))), .slice Aq (mag (Int.tdiv (2 * x + y) (2 * y))).length cq], .agg #[.bool (sg (Int.tmod (2 * x + y) (2 * y))), .slice Ar (mag (Int.tmod (2 * x + y) (2 * y))).length cr]] ∧ IsB (okL (W.heap.size + 1 + 1) L b6 b7) w (.agg #[.bool (sg (Int.tdiv (2 * x + y) (2 * y))), .slice Aq (mag (Int.tdiv (2 * x + y) (2 * y))).length cq]) (Int.tdiv (2 * x + y) (2 * y)) ∧ IsB (okL (W.heap.size + 1 + 1) L b6 b7) w (.agg #[.bool (sg (Int.tmod (2 * x + y) (2 * y))), .slice Ar (mag (Int.tmod (2 * x + y) (2 * y))).length cr]) (Int.tmod (2 * x + y) (2 * y))) ∧
    (L 9 = true → L 8 = true ∧ t9 = .tuple #[.agg #[.bool (sg (Int.tdiv (2 * x + y) (2 * y))), .slice Aq (mag (Int.tdiv (2 * x + y) (2 * y))).length cq], .agg #[.bool (sg (Int.tmod (2 * x + y) (2 * y))), .slice Ar (mag (Int.tmod (2 * x + y) (2 * y))).length cr]]) ∧
    (L 10 = true → L 8 = true ∧ t19 = .agg #[.bool (sg (Int.tdiv (2 * x + y) (2 * y))), .slice Aq (mag (Int.tdiv (2 * x + y) (2 * y))).length cq]) ∧
    (L 11 = true → L 8 = true ∧ t20 = .agg #[.bool (sg (Int.tmod (2 * x + y) (2 * y))), .slice Ar (mag (Int.tmod (2 * x + y) (2 * y))).length cr]) ∧
    (L 12 = true → t6 = .pointer (some ⟨b6, 0, none⟩) ∧ W2.heap.size ≤ b6 ∧ Blk w b6 (if L 14 = true then #[.bool (sg (Int.tdiv (2 * x + y) (2 * y))), .slice Aq (mag (Int.tdiv (2 * x + y) (2 * y))).length cq] else #[.bool false, .slice none 0 0]) 95) ∧
    (L 13 = true → t7 = .pointer (some ⟨b7, 0, none⟩) ∧ W2.heap.size ≤ b7 ∧ Blk w b7 (if L 15 = true then #[.bool (sg (Int.tmod (2 * x + y) (2 * y))), .slice Ar (mag (Int.tmod (2 * x + y) (2 * y))).length cr] else #[.bool false, .slice none 0 0]) 95) ∧
    (L 12 = true → L 13 = true → b6 ≠ b7) ∧
    (L 14 = true → L 8 = true ∧ L 12 = true) ∧
    (L 15 = true → L 8 = true ∧ L 13 = true)
theorem keepB2 {W w' : World} {p : Addr} {v : Value} (hb : Below W.heap.size W w') (h : W.cell? p = some v) : w'.cell? p = some v := (hb.cell (World.block_lt_of_cell? W p h)).trans h
set_option maxRecDepth 100000 in
set_option maxHeartbeats 4000000 in
theorem Round_c {a b : Value} {x y : Int} {W : World} (ha : IsBig W a x) (hb : IsBig W b y) (x0 : -(2 ^ 200) ≤ x) (x1 : x ≤ 2 ^ 200) (y0 : 0 < y) (y1 : y < 9223372036854775808) :
    Calls Tryd.prog 76 #[a, b] W fun e w' => ∃ r, e = .returned r ∧ IsBig w' r ((2 * x + y) / (2 * y)) ∧ Below W.heap.size W w' := by
  obtain ⟨A1, c1, rfl, hc1, hV1⟩ := ha
  obtain ⟨A2, c2, rfl, hc2, hV2⟩ := hb
  have O := Of_c 2 (by decide) (by decide)
  go_enter Tryd.func76, Tryd.ntmps76
  go_wp2_with (first | (go_at_call 52; refine (O _).mono ?_; rintro e w1 ⟨v, rfl, h2, g1⟩; obtain ⟨A3, c3, rfl, hc3, hV3⟩ := h2))
  have i2 : IsBig w1 (.agg #[.bool (sg 2), .slice A3 (mag 2).length c3]) 2 := ⟨A3, c3, rfl, hc3, hV3⟩
  have g0 : Below W.heap.size W w1 := by
    refine Below.trans ?_ (g1.mono (by simp; omega))
    repeat (first | exact Below.refl _ _ | refine Below.alloc ?_ (by simp; try omega) _)
  have ix : IsBig w1 (.agg #[.bool (sg x), .slice A1 (mag x).length c1]) x := IsBig.below ⟨A1, c1, rfl, hc1, hV1⟩ g0
  have iy : IsBig w1 (.agg #[.bool (sg y), .slice A2 (mag y).length c2]) y := IsBig.below ⟨A2, c2, rfl, hc2, hV2⟩ g0
  have hsz : W.heap.size + 1 + 1 + 1 ≤ w1.heap.size := by have := g1.size; simpa using this
  have e1 : w1.cell? ⟨W.heap.size, 0, none⟩ = some (.bool (sg x)) := (g1.cell (p := ⟨W.heap.size, 0, none⟩) (by show W.heap.size < _; simp; omega)).trans (by go_simp)
  have e2 : w1.cell? ⟨W.heap.size, 1, none⟩ = some (.slice A1 (mag x).length c1) := (g1.cell (p := ⟨W.heap.size, 1, none⟩) (by show W.heap.size < _; simp; omega)).trans (by go_simp)
  have e3 : w1.cell? ⟨W.heap.size + 1, 0, none⟩ = some (.bool (sg y)) := (g1.cell (p := ⟨W.heap.size + 1, 0, none⟩) (by show W.heap.size + 1 < _; simp)).trans (by go_simp)
  have e4 : w1.cell? ⟨W.heap.size + 1, 1, none⟩ = some (.slice A2 (mag y).length c2) := (g1.cell (p := ⟨W.heap.size + 1, 1, none⟩) (by show W.heap.size + 1 < _; simp)).trans (by go_simp)
  have e5 : Blk w1 (W.heap.size + 1 + 1) #[.bool false, .slice none 0 0] 95 := Blk.below (w := (((W.alloc (Obj.cells #[.bool (sg x), .slice A1 (mag x).length c1] 95)).alloc (Obj.cells #[.bool (sg y), .slice A2 (mag y).length c2] 95)).alloc (Obj.cells #[.bool false, .slice none 0 0] 95))) (by have := Blk.new ((W.alloc (Obj.cells #[.bool (sg x), .slice A1 (mag x).length c1] 95)).alloc (Obj.cells #[.bool (sg y), .slice A2 (mag y).length c2] 95)) #[.bool false, .slice none 0 0] 95; simpa using this) g1 (by simp)
  have e6 := e5.alloc (.cells #[.bool (sg 2), .slice A3 (mag 2).length c3] 95)
  have ce1 : (w1.alloc (.cells #[.bool (sg 2), .slice A3 (mag 2).length c3] 95)).cell? ⟨w1.heap.size, 0, none⟩ = some (.bool (sg 2)) := by go_simp
  have ce2 : (w1.alloc (.cells #[.bool (sg 2), .slice A3 (mag 2).length c3] 95)).cell? ⟨w1.heap.size, 1, none⟩ = some (.slice A3 (mag 2).length c3) := by go_simp
  have gA : Below w1.heap.size w1 (w1.alloc (.cells #[.bool (sg 2), .slice A3 (mag 2).length c3] 95)) := (Below.refl _ _).alloc (Nat.le_refl _) _
  have ce3 := keepB2 gA e1
  have ce4 := keepB2 gA e2
  have ce5 := keepB2 gA e3
  have ce6 := keepB2 gA e4
  have j2 := i2.below gA
  have jx := ix.below gA
  have jy := iy.below gA
  have g0A := below_both g0 gA
  have hs2 : (w1.alloc (.cells #[.bool (sg 2), .slice A3 (mag 2).length c3] 95)).heap.size = w1.heap.size + 1 := by simp
  generalize w1.alloc (.cells #[.bool (sg 2), .slice A3 (mag 2).length c3] 95) = W2 at *
  clear hV1 hV2 hV3
  have sx : Small x := small_256 (by omega) (by omega)
  have sy : Small y := small_256 (by omega) (by omega)
  have s2 : Small 2 := small_256 (by decide) (by decide)
  have s2x : Small (2 * x) := small_256 (by omega) (by omega)
  have s2xy : Small (2 * x + y) := small_256 (by omega) (by omega)
  have y2 : 0 < 2 * y := by omega
  have y3 : 2 * y < 18446744073709551616 := by omega
  refine region_steps (RInv x y W w1 W2 A1 A2 A3 c1 c2 c3) [0, 1, 2, 3, 4, 5, 6, 7, 8, 9, 10, 11, 12, 13, 14, 15] (by kernel_rfl) (by kernel_rfl) (by kernel_rfl) ?start ?steps ?fin
  case start =>
    exact ⟨_, _, _, _, _, _, _, _, _, _, _, _, _, _, 0, 0, none, none, 0, 0, rfl, (Below.refl _ _).drew, fun h => absurd h (by decide), fun h => absurd h (by decide), fun h => absurd h (by decide), fun h => absurd h (by decide), fun h => absurd h (by decide), fun h => absurd h (by decide), fun h => absurd h (by decide), fun h => absurd h (by decide), fun h => absurd h (by decide), fun h => absurd h (by decide), fun h => absurd h (by decide), fun h => absurd h (by decide), fun h => absurd h (by decide), fun h => absurd h (by decide), fun h => absurd h (by decide), fun h => absurd h (by decide), fun h => absurd h (by decide)⟩
  case fin =>
    intro L a w2 hall hI
    obtain ⟨t6, t7, t9, t10, t11, t12, t13, t14, t15, t16, t17, t18, t19, t20, b6, b7, Aq, Ar, cq, cr, rfl, hB, h0, h1, h2, h3, h4, h5, h6, h7, h8, h9, h10, h11, h12, h13, h14, h15, h16⟩ := hI
    obtain ⟨-, iq, ir⟩ := h8 (hall 8 (by simp))
    obtain ⟨e12, q12, B12⟩ := h12 (hall 12 (by simp))
    obtain ⟨e13, q13, B13⟩ := h13 (hall 13 (by simp))
    have l14 := hall 14 (by simp)
    have l15 := hall 15 (by simp)
    have hne := h14 (hall 12 (by simp)) (hall 13 (by simp))
    rw [if_pos l14] at B12
    rw [if_pos l15] at B13
    subst e12 e13
    clear h0 h1 h2 h3 h4 h5 h6 h7 h8 h9 h10 h11 h12 h13 h14 h15 h16
    have B4 : Blk w2 (W.heap.size + 1 + 1) #[.bool false, .slice none 0 0] 95 := e6.below hB (by omega)
    have iq := iq.mono (ok' := fun k => k ≠ W.heap.size + 1 + 1) (fun k hk _ => hk.2.2)
    have hlo : W.heap.size ≤ W2.heap.size := by omega
    have q4 : W.heap.size + 1 + 1 < W2.heap.size := by omega
    have g2 := below_both g0A hB
    have hfl := floor_of (2 * x + y) (2 * y) y2
    have bq := tdiv_small (2 * x + y) (2 * y) y2
    have sq : Small (Int.tdiv (2 * x + y) (2 * y)) := small_256 (by omega) (by omega)
    clear l14 l15 hall i2 ix iy e1 e2 e3 e4 e5 e6 ce1 ce2 ce3 ce4 ce5 ce6 j2 jx jy sx sy s2 s2x s2xy gA g0 hB hs2
    generalize Int.tdiv (2 * x + y) (2 * y) = Q at *
    generalize Int.tmod (2 * x + y) (2 * y) = R at *
    have c60 := B12.cell 0
    have c61 := B12.cell 1
    have c70 := B13.cell 0
    have c71 := B13.cell 1
    have c40 := B4.cell 0
    have c41 := B4.cell 1
    have f40 := B4.free 0
    have f41 := B4.free 1
    simp at c60 c61 c70 c71 c40 c41
    have SG := Sign_c ir.big
    by_cases hR : R < 0
    · rw [if_neg (by omega), if_pos hR] at SG
      rw [if_pos hR] at hfl
      go_wp2_with (first | (go_at_call 87; refine SG.mono ?_; rintro e w3 ⟨rfl, g3⟩; have d60 := keepB2 g3 c60; have d61 := keepB2 g3 c61; have k4 := Blk.keep B4 g3; have k6 := Blk.keep B12 g3; have jq := iq.below g3; have g3' := below_both g2 g3))
      have s1 : Small 1 := small_256 (by decide) (by decide)
      have O1 := Of_b 1 (by decide) (by decide)
      go_region_held3 (fun w' => w'.cell? ⟨b6, 0, none⟩ = some (.bool (sg Q)) ∧ w'.cell? ⟨b6, 1, none⟩ = some (.slice Aq (mag Q).length cq))
        (first | exact ⟨d60, d61⟩ | exact ⟨keepB2 gO d60, keepB2 gO d61⟩ | exact ⟨keepB2 gS u0, keepB2 gS u1⟩ | exact ⟨v0, v1⟩)
        (first
          | (go_at_call 52; (with_reducible refine (O1 _).mono ?_); rintro e w4 ⟨v4, rfl, i4, gO⟩
             have u0 := keepB2 gO d60
             have u1 := keepB2 gO d61)
          | (go_at_call 88; (with_reducible refine (Sub_b (jq.big.below (undrew gO)) i4 sq s1).mono ?_); rintro e w5 ⟨v5, rfl, i5, gS⟩
             obtain ⟨A5, c5, rfl, hc5, hV5⟩ := id i5
             have k4' : Blk w3.drew (W.heap.size + 1 + 1) #[.bool false, .slice none 0 0] 95 := k4
             have k5 := Blk.keep (Blk.keep k4' gO) gS
             have d40 := k5.cell 0
             have d41 := k5.cell 1
             have df0 := k5.free 0
             have df1 := k5.free 1
             simp at d40 d41
             have n6 : W.heap.size + 1 + 1 ≠ b6 := by omega
             have v0 := ((World.cell?_setCell_far (w5.setCell ⟨W.heap.size + 1 + 1, 0, none⟩ (.bool (sg (Q - 1)))) ⟨W.heap.size + 1 + 1, 1, none⟩ ⟨b6, 0, none⟩ (.slice A5 (mag (Q - 1)).length c5) n6).trans (World.cell?_setCell_far w5 ⟨W.heap.size + 1 + 1, 0, none⟩ ⟨b6, 0, none⟩ (.bool (sg (Q - 1))) n6)).trans (keepB2 gS u0)
             have v1 := ((World.cell?_setCell_far (w5.setCell ⟨W.heap.size + 1 + 1, 0, none⟩ (.bool (sg (Q - 1)))) ⟨W.heap.size + 1 + 1, 1, none⟩ ⟨b6, 1, none⟩ (.slice A5 (mag (Q - 1)).length c5) n6).trans (World.cell?_setCell_far w5 ⟨W.heap.size + 1 + 1, 0, none⟩ ⟨b6, 1, none⟩ (.bool (sg (Q - 1))) n6)).trans (keepB2 gS u1)))
      go_wp2
      have okn : ∀ k, (w3.drew.heap.size ≤ k ∨ w4.heap.size ≤ k) → k ≠ W.heap.size + 1 + 1 := by
        intro k hk
        have z0 : w3.heap.size ≤ w4.heap.size := gO.size
        have z1 := Blk.lt k4
        rcases hk with hk | hk
        · have hk' : w3.heap.size ≤ k := hk
          omega
        · omega
      refine bodyPost_ret (v := .agg #[.bool (sg (Q - 1)), .slice A5 (mag (Q - 1)).length c5]) ?_ rfl ⟨_, rfl, (by rw [hfl]; exact (i5.far2 (b := W.heap.size + 1 + 1) (fun k hk => okn k hk)).big), below_set2 (below_both (below_both g3' (undrew gO)) gS) (by omega)⟩
      exact results_cell_row rfl _ _ (W.heap.size + 1 + 1) _ _ _ _ rfl (Blk.set2 k5) Tryd.underlying95 rfl (by kernel_rfl)
    · have SG' : Calls Tryd.prog 87 #[.agg #[.bool (sg R), .slice Ar (mag R).length cr]] w2 fun e w' => e = .returned (.int .i64 (if R = 0 then 0 else 1)) ∧ Below w2.heap.size w2 w' := by
        rw [if_neg hR] at SG
        exact SG
      rw [if_neg hR] at hfl
      have hz : decide ((if R = 0 then (0 : Int) else 1) < 0) = false := by split <;> decide
      go_wp2_with (first | (go_at_call 87; refine SG'.mono ?_; rintro e w3 ⟨rfl, g3⟩; have d60 := keepB2 g3 c60; have d61 := keepB2 g3 c61; have k4 := Blk.keep B4 g3; have jq := iq.below g3; have g3' := below_both g2 g3; have d40 := keepB2 g3 c40; have d41 := keepB2 g3 c41; have df0 := Blk.free k4 0; have df1 := Blk.free k4 1))
      all_goals
        refine bodyPost_ret (v := .agg #[.bool (sg Q), .slice Aq (mag Q).length cq]) ?_ rfl ⟨_, rfl, (jq.far2 (b := W.heap.size + 1 + 1) (fun k hk => hk)).big, below_set2 g3' (by omega)⟩
        exact results_cell_row rfl _ _ (W.heap.size + 1 + 1) _ _ _ _ rfl (Blk.set2 k4) Tryd.underlying95 rfl (by kernel_rfl)
  case steps =>
    refine Steps.cons rfl (fun L a w K hK hL hp hI => ?_) ?_
    · obtain ⟨t6, t7, t9, t10, t11, t12, t13, t14, t15, t16, t17, t18, t19, t20, b6, b7, Aq, Ar, cq, cr, rfl, hB, h0, h1, h2, h3, h4, h5, h6, h7, h8, h9, h10, h11, h12, h13, h14, h15, h16⟩ := hI
      have u0 := (keepB2 hB ce1)
      have u1 := (keepB2 hB ce2)
      go_simp
      exact hK.out _ _ ⟨_, _, _, _, _, _, _, _, _, _, _, _, _, _, b6, b7, Aq, Ar, cq, cr, rfl, hB, fun _ => rfl, h1, h2, h3, h4, h5, h6, h7, h8, h9, h10, h11, h12, h13, h14, h15, h16⟩
    refine Steps.cons rfl (fun L a w K hK hL hp hI => ?_) ?_
    · obtain ⟨t6, t7, t9, t10, t11, t12, t13, t14, t15, t16, t17, t18, t19, t20, b6, b7, Aq, Ar, cq, cr, rfl, hB, h0, h1, h2, h3, h4, h5, h6, h7, h8, h9, h10, h11, h12, h13, h14, h15, h16⟩ := hI
      have u0 := (keepB2 hB ce3)
      have u1 := (keepB2 hB ce4)
      go_simp
      exact hK.out _ _ ⟨_, _, _, _, _, _, _, _, _, _, _, _, _, _, b6, b7, Aq, Ar, cq, cr, rfl, hB, h0, fun _ => rfl, h2, h3, h4, h5, h6, h7, h8, h9, h10, h11, h12, h13, h14, h15, h16⟩
    refine Steps.cons rfl (fun L a w K hK hL hp hI => ?_) ?_
    · obtain ⟨t6, t7, t9, t10, t11, t12, t13, t14, t15, t16, t17, t18, t19, t20, b6, b7, Aq, Ar, cq, cr, rfl, hB, h0, h1, h2, h3, h4, h5, h6, h7, h8, h9, h10, h11, h12, h13, h14, h15, h16⟩ := hI
      have p0 : L 0 = true := hp ⟨0, .data⟩ (by simp) rfl
      have p1 : L 1 = true := hp ⟨1, .data⟩ (by simp) rfl
      have e0 := h0 p0
      have e1 := h1 p1
      subst e0 e1
      go_simp
      refine (Mul_c (j2.below hB) (jx.below hB) s2 sx).mono ?_
      rintro e w' ⟨r, rfl, iA, g⟩
      exact hK.out _ _ ⟨_, _, _, _, _, _, _, _, _, _, _, _, _, _, b6, b7, Aq, Ar, cq, cr, rfl, below_both hB g, h0, h1, fun _ _ => iA, h3, fun a b => (h4 a b).below g, h5, h6, fun a b => (h7 a b).below g, fun a => ⟨(h8 a).1, (h8 a).2.1.below g, (h8 a).2.2.below g⟩, h9, h10, h11, fun a => ⟨(h12 a).1, (h12 a).2.1, (h12 a).2.2.keep g⟩, fun a => ⟨(h13 a).1, (h13 a).2.1, (h13 a).2.2.keep g⟩, h14, h15, h16⟩
    refine Steps.cons rfl (fun L a w K hK hL hp hI => ?_) ?_
    · obtain ⟨t6, t7, t9, t10, t11, t12, t13, t14, t15, t16, t17, t18, t19, t20, b6, b7, Aq, Ar, cq, cr, rfl, hB, h0, h1, h2, h3, h4, h5, h6, h7, h8, h9, h10, h11, h12, h13, h14, h15, h16⟩ := hI
      have u0 := (keepB2 hB ce5)
      have u1 := (keepB2 hB ce6)
      go_simp
      exact hK.out _ _ ⟨_, _, _, _, _, _, _, _, _, _, _, _, _, _, b6, b7, Aq, Ar, cq, cr, rfl, hB, h0, h1, h2, fun _ => rfl, h4, h5, h6, h7, h8, h9, h10, h11, h12, h13, h14, h15, h16⟩
    refine Steps.cons rfl (fun L a w K hK hL hp hI => ?_) ?_
    · obtain ⟨t6, t7, t9, t10, t11, t12, t13, t14, t15, t16, t17, t18, t19, t20, b6, b7, Aq, Ar, cq, cr, rfl, hB, h0, h1, h2, h3, h4, h5, h6, h7, h8, h9, h10, h11, h12, h13, h14, h15, h16⟩ := hI
      have p0 : L 2 = true := hp ⟨2, .data⟩ (by simp) rfl
      have p1 : L 3 = true := hp ⟨3, .data⟩ (by simp) rfl
      have e1 := h3 p1
      subst e1
      go_simp
      refine (Add_b (h2 p0 hL) (jy.below hB) s2x sy).mono ?_
      rintro e w' ⟨r, rfl, iB, g⟩
      exact hK.out _ _ ⟨_, _, _, _, _, _, _, _, _, _, _, _, _, _, b6, b7, Aq, Ar, cq, cr, rfl, below_both hB g, h0, h1, fun a b => absurd b (by simp [YInv.up]), h3, fun _ _ => iB.mono (fun k hk _ => ⟨fun h e => absurd (h12 h).2.2.lt (by omega), fun h e => absurd (h13 h).2.2.lt (by omega), by have := hB.size; omega⟩), h5, h6, fun a b => (h7 a b).below g, fun a => ⟨(h8 a).1, (h8 a).2.1.below g, (h8 a).2.2.below g⟩, h9, h10, h11, fun a => ⟨(h12 a).1, (h12 a).2.1, (h12 a).2.2.keep g⟩, fun a => ⟨(h13 a).1, (h13 a).2.1, (h13 a).2.2.keep g⟩, h14, h15, h16⟩
    refine Steps.cons rfl (fun L a w K hK hL hp hI => ?_) ?_
    · obtain ⟨t6, t7, t9, t10, t11, t12, t13, t14, t15, t16, t17, t18, t19, t20, b6, b7, Aq, Ar, cq, cr, rfl, hB, h0, h1, h2, h3, h4, h5, h6, h7, h8, h9, h10, h11, h12, h13, h14, h15, h16⟩ := hI
      have u0 := (keepB2 hB ce1)
      have u1 := (keepB2 hB ce2)
      go_simp
      exact hK.out _ _ ⟨_, _, _, _, _, _, _, _, _, _, _, _, _, _, b6, b7, Aq, Ar, cq, cr, rfl, hB, h0, h1, h2, h3, h4, fun _ => rfl, h6, h7, h8, h9, h10, h11, h12, h13, h14, h15, h16⟩
    refine Steps.cons rfl (fun L a w K hK hL hp hI => ?_) ?_
    · obtain ⟨t6, t7, t9, t10, t11, t12, t13, t14, t15, t16, t17, t18, t19, t20, b6, b7, Aq, Ar, cq, cr, rfl, hB, h0, h1, h2, h3, h4, h5, h6, h7, h8, h9, h10, h11, h12, h13, h14, h15, h16⟩ := hI
      have u0 := (keepB2 hB ce5)
      have u1 := (keepB2 hB ce6)
      go_simp
      exact hK.out _ _ ⟨_, _, _, _, _, _, _, _, _, _, _, _, _, _, b6, b7, Aq, Ar, cq, cr, rfl, hB, h0, h1, h2, h3, h4, h5, fun _ => rfl, h7, h8, h9, h10, h11, h12, h13, h14, h15, h16⟩
    refine Steps.cons rfl (fun L a w K hK hL hp hI => ?_) ?_
    · obtain ⟨t6, t7, t9, t10, t11, t12, t13, t14, t15, t16, t17, t18, t19, t20, b6, b7, Aq, Ar, cq, cr, rfl, hB, h0, h1, h2, h3, h4, h5, h6, h7, h8, h9, h10, h11, h12, h13, h14, h15, h16⟩ := hI
      have p0 : L 5 = true := hp ⟨5, .data⟩ (by simp) rfl
      have p1 : L 6 = true := hp ⟨6, .data⟩ (by simp) rfl
      have e0 := h5 p0
      have e1 := h6 p1
      subst e0 e1
      go_simp
      refine (Mul_c (j2.below hB) (jy.below hB) s2 sy).mono ?_
      rintro e w' ⟨r, rfl, iC, g⟩
      exact hK.out _ _ ⟨_, _, _, _, _, _, _, _, _, _, _, _, _, _, b6, b7, Aq, Ar, cq, cr, rfl, below_both hB g, h0, h1, fun a b => (h2 a b).below g, h3, fun a b => (h4 a b).below g, h5, h6, fun _ _ => iC, fun a => ⟨(h8 a).1, (h8 a).2.1.below g, (h8 a).2.2.below g⟩, h9, h10, h11, fun a => ⟨(h12 a).1, (h12 a).2.1, (h12 a).2.2.keep g⟩, fun a => ⟨(h13 a).1, (h13 a).2.1, (h13 a).2.2.keep g⟩, h14, h15, h16⟩
    refine Steps.cons rfl (fun L a w K hK hL hp hI => ?_) ?_
    · obtain ⟨t6, t7, t9, t10, t11, t12, t13, t14, t15, t16, t17, t18, t19, t20, b6, b7, Aq, Ar, cq, cr, rfl, hB, h0, h1, h2, h3, h4, h5, h6, h7, h8, h9, h10, h11, h12, h13, h14, h15, h16⟩ := hI
      have p0 : L 4 = true := hp ⟨4, .data⟩ (by simp) rfl
      have p1 : L 7 = true := hp ⟨7, .data⟩ (by simp) rfl
      go_simp
      refine (Div_b (h4 p0 hL) (h7 p1 hL) s2xy y2 y3).mono ?_
      rintro e w' ⟨q, r, rfl, iq, ir, g⟩
      have okk : ∀ k, (okL (W.heap.size + 1 + 1) L b6 b7 k ∨ w.heap.size ≤ k) → k < w'.heap.size → okL (W.heap.size + 1 + 1) L b6 b7 k := by
        rintro k (hk | hk) _
        · exact hk
        · exact ⟨fun h e => absurd (h12 h).2.2.lt (by omega), fun h e => absurd (h13 h).2.2.lt (by omega), by have := hB.size; omega⟩
      have iq := iq.mono okk
      have ir := ir.mono okk
      have n14 : ¬ L 14 = true := fun h => absurd (h15 h).1 (by simp [hL])
      have n15 : ¬ L 15 = true := fun h => absurd (h16 h).1 (by simp [hL])
      skip
      obtain ⟨Aq', cq', rfl, hcq', hVq'⟩ := id iq
      obtain ⟨Ar', cr', rfl, hcr', hVr'⟩ := id ir
      exact hK.out _ _ ⟨_, _, _, _, _, _, _, _, _, _, _, _, _, _, b6, b7, Aq', Ar', cq', cr', rfl, below_both hB g, h0, h1, fun a b => (h2 a b).below g, h3, fun a b => absurd b (by simp [YInv.up]), h5, h6, fun a b => absurd b (by simp [YInv.up]), fun _ => ⟨rfl, iq, ir⟩, fun a => absurd (h9 a).1 (by simp [hL]), fun a => absurd (h10 a).1 (by simp [hL]), fun a => absurd (h11 a).1 (by simp [hL]), fun a => ⟨(h12 a).1, (h12 a).2.1, by have := (h12 a).2.2.keep g; rw [if_neg n14] at this; rw [if_neg (show ¬ YInv.up L 8 14 = true from n14)]; exact this⟩, fun a => ⟨(h13 a).1, (h13 a).2.1, by have := (h13 a).2.2.keep g; rw [if_neg n15] at this; rw [if_neg (show ¬ YInv.up L 8 15 = true from n15)]; exact this⟩, h14, fun a => absurd (h15 a).1 (by simp [hL]), fun a => absurd (h16 a).1 (by simp [hL])⟩
    refine Steps.cons rfl (fun L a w K hK hL hp hI => ?_) ?_
    · obtain ⟨t6, t7, t9, t10, t11, t12, t13, t14, t15, t16, t17, t18, t19, t20, b6, b7, Aq, Ar, cq, cr, rfl, hB, h0, h1, h2, h3, h4, h5, h6, h7, h8, h9, h10, h11, h12, h13, h14, h15, h16⟩ := hI
      have p0 : L 8 = true := hp ⟨8, .data⟩ (by simp) rfl
      have e0 := (h8 p0).1
      subst e0
      go_simp
      exact hK.out _ _ ⟨_, _, _, _, _, _, _, _, _, _, _, _, _, _, b6, b7, Aq, Ar, cq, cr, rfl, hB, h0, h1, h2, h3, h4, h5, h6, h7, h8, fun _ => ⟨p0, rfl⟩, h10, h11, h12, h13, h14, h15, h16⟩
    refine Steps.cons rfl (fun L a w K hK hL hp hI => ?_) ?_
    · obtain ⟨t6, t7, t9, t10, t11, t12, t13, t14, t15, t16, t17, t18, t19, t20, b6, b7, Aq, Ar, cq, cr, rfl, hB, h0, h1, h2, h3, h4, h5, h6, h7, h8, h9, h10, h11, h12, h13, h14, h15, h16⟩ := hI
      have p0 : L 9 = true := hp ⟨9, .data⟩ (by simp) rfl
      have e0 := (h9 p0).2
      have e8 := (h8 (h9 p0).1).1
      subst e0 e8
      go_simp
      exact hK.out _ _ ⟨_, _, _, _, _, _, _, _, _, _, _, _, _, _, b6, b7, Aq, Ar, cq, cr, rfl, hB, h0, h1, h2, h3, h4, h5, h6, h7, h8, h9, fun _ => ⟨(h9 p0).1, rfl⟩, h11, h12, h13, h14, h15, h16⟩
    refine Steps.cons rfl (fun L a w K hK hL hp hI => ?_) ?_
    · obtain ⟨t6, t7, t9, t10, t11, t12, t13, t14, t15, t16, t17, t18, t19, t20, b6, b7, Aq, Ar, cq, cr, rfl, hB, h0, h1, h2, h3, h4, h5, h6, h7, h8, h9, h10, h11, h12, h13, h14, h15, h16⟩ := hI
      have p0 : L 9 = true := hp ⟨9, .data⟩ (by simp) rfl
      have e0 := (h9 p0).2
      have e8 := (h8 (h9 p0).1).1
      subst e0 e8
      go_simp
      exact hK.out _ _ ⟨_, _, _, _, _, _, _, _, _, _, _, _, _, _, b6, b7, Aq, Ar, cq, cr, rfl, hB, h0, h1, h2, h3, h4, h5, h6, h7, h8, h9, h10, fun _ => ⟨(h9 p0).1, rfl⟩, h12, h13, h14, h15, h16⟩
    refine Steps.cons rfl (fun L a w K hK hL hp hI => ?_) ?_
    · obtain ⟨t6, t7, t9, t10, t11, t12, t13, t14, t15, t16, t17, t18, t19, t20, b6, b7, Aq, Ar, cq, cr, rfl, hB, h0, h1, h2, h3, h4, h5, h6, h7, h8, h9, h10, h11, h12, h13, h14, h15, h16⟩ := hI
      have hst : ¬ L 14 = true := fun h => absurd (h15 h).2 (by simp [hL])
      go_simp
      exact hK.out _ _ ⟨_, _, _, _, _, _, _, _, _, _, _, _, _, _, w.heap.size, b7, Aq, Ar, cq, cr, rfl, below_both hB (below_new _ _), h0, h1, fun a b => (h2 a b).below (below_new _ _), h3, fun a b => ((h4 a b).mono (fun k hk lt => ⟨fun h e => by omega, hk.2⟩)).below (below_new _ _), h5, h6, fun a b => (h7 a b).below (below_new _ _), fun a => ⟨(h8 a).1, ((h8 a).2.1.mono (fun k hk lt => ⟨fun h e => by omega, hk.2⟩)).below (below_new _ _), ((h8 a).2.2.mono (fun k hk lt => ⟨fun h e => by omega, hk.2⟩)).below (below_new _ _)⟩, h9, h10, h11, fun _ => ⟨rfl, hB.size, by rw [if_neg (show ¬ YInv.up L 12 14 = true from hst)]; exact Blk.new _ _ _⟩, fun a => ⟨(h13 a).1, (h13 a).2.1, (h13 a).2.2.keep (below_new _ _)⟩, fun _ a => Nat.ne_of_gt (h13 a).2.2.lt, fun a => ⟨(h15 a).1, rfl⟩, h16⟩
    refine Steps.cons rfl (fun L a w K hK hL hp hI => ?_) ?_
    · obtain ⟨t6, t7, t9, t10, t11, t12, t13, t14, t15, t16, t17, t18, t19, t20, b6, b7, Aq, Ar, cq, cr, rfl, hB, h0, h1, h2, h3, h4, h5, h6, h7, h8, h9, h10, h11, h12, h13, h14, h15, h16⟩ := hI
      have hst : ¬ L 15 = true := fun h => absurd (h16 h).2 (by simp [hL])
      go_simp
      exact hK.out _ _ ⟨_, _, _, _, _, _, _, _, _, _, _, _, _, _, b6, w.heap.size, Aq, Ar, cq, cr, rfl, below_both hB (below_new _ _), h0, h1, fun a b => (h2 a b).below (below_new _ _), h3, fun a b => ((h4 a b).mono (fun k hk lt => ⟨hk.1, fun h e => by omega, hk.2.2⟩)).below (below_new _ _), h5, h6, fun a b => (h7 a b).below (below_new _ _), fun a => ⟨(h8 a).1, ((h8 a).2.1.mono (fun k hk lt => ⟨hk.1, fun h e => by omega, hk.2.2⟩)).below (below_new _ _), ((h8 a).2.2.mono (fun k hk lt => ⟨hk.1, fun h e => by omega, hk.2.2⟩)).below (below_new _ _)⟩, h9, h10, h11, fun a => ⟨(h12 a).1, (h12 a).2.1, (h12 a).2.2.keep (below_new _ _)⟩, fun _ => ⟨rfl, hB.size, by rw [if_neg (show ¬ YInv.up L 13 15 = true from hst)]; exact Blk.new _ _ _⟩, fun a _ => Nat.ne_of_lt (h12 a).2.2.lt, h15, fun a => ⟨(h16 a).1, rfl⟩⟩
    refine Steps.cons rfl (fun L a w K hK hL hp hI => ?_) ?_
    · obtain ⟨t6, t7, t9, t10, t11, t12, t13, t14, t15, t16, t17, t18, t19, t20, b6, b7, Aq, Ar, cq, cr, rfl, hB, h0, h1, h2, h3, h4, h5, h6, h7, h8, h9, h10, h11, h12, h13, h14, h15, h16⟩ := hI
      have p0 : L 10 = true := hp ⟨10, .data⟩ (by simp) rfl
      have p1 : L 12 = true := hp ⟨12, .data⟩ (by simp) rfl
      have p4 : L 4 = true := hp ⟨4, .phase⟩ (by simp) rfl
      have p8 : L 8 = true := hp ⟨8, .phase⟩ (by simp) rfl
      have e0 := (h10 p0).2
      obtain ⟨e1, q1, q2⟩ := h12 p1
      have e8 := (h8 p8).1
      subst e0 e1 e8
      clear hp
      rw [if_neg (by simp [hL])] at q2
      have u0 := q2.cell 0
      have u1 := q2.cell 1
      have f0 := q2.free 0
      have f1 := q2.free 1
      simp at u0 u1
      go_simp
      exact hK.out _ _ ⟨_, _, _, _, _, _, _, _, _, _, _, _, _, _, b6, b7, Aq, Ar, cq, cr, rfl, below_set2 hB q1, h0, h1, fun a b => absurd (show L 4 = false from b) (by rw [p4]; decide), h3, fun a b => absurd (show L 8 = false from b) (by rw [p8]; decide), h5, h6, fun a b => absurd (show L 8 = false from b) (by rw [p8]; decide), fun a => ⟨(h8 a).1, (h8 a).2.1.far2 (fun k hk => hk.1 p1), (h8 a).2.2.far2 (fun k hk => hk.1 p1)⟩, h9, h10, h11, fun a => ⟨rfl, q1, by rw [if_pos (show YInv.up L 14 14 = true from rfl)]; exact Blk.set2 q2⟩, fun a => ⟨(h13 a).1, (h13 a).2.1, Blk.far2 (h13 a).2.2 (h14 p1 a)⟩, h14, fun _ => ⟨p8, p1⟩, h16⟩
    refine Steps.cons rfl (fun L a w K hK hL hp hI => ?_) ?_
    · obtain ⟨t6, t7, t9, t10, t11, t12, t13, t14, t15, t16, t17, t18, t19, t20, b6, b7, Aq, Ar, cq, cr, rfl, hB, h0, h1, h2, h3, h4, h5, h6, h7, h8, h9, h10, h11, h12, h13, h14, h15, h16⟩ := hI
      have p0 : L 11 = true := hp ⟨11, .data⟩ (by simp) rfl
      have p1 : L 13 = true := hp ⟨13, .data⟩ (by simp) rfl
      have p4 : L 4 = true := hp ⟨4, .phase⟩ (by simp) rfl
      have p8 : L 8 = true := hp ⟨8, .phase⟩ (by simp) rfl
      have e0 := (h11 p0).2
      obtain ⟨e1, q1, q2⟩ := h13 p1
      have e8 := (h8 p8).1
      subst e0 e1 e8
      clear hp
      rw [if_neg (by simp [hL])] at q2
      have u0 := q2.cell 0
      have u1 := q2.cell 1
      have f0 := q2.free 0
      have f1 := q2.free 1
      simp at u0 u1
      go_simp
      exact hK.out _ _ ⟨_, _, _, _, _, _, _, _, _, _, _, _, _, _, b6, b7, Aq, Ar, cq, cr, rfl, below_set2 hB q1, h0, h1, fun a b => absurd (show L 4 = false from b) (by rw [p4]; decide), h3, fun a b => absurd (show L 8 = false from b) (by rw [p8]; decide), h5, h6, fun a b => absurd (show L 8 = false from b) (by rw [p8]; decide), fun a => ⟨(h8 a).1, (h8 a).2.1.far2 (fun k hk => hk.2.1 p1), (h8 a).2.2.far2 (fun k hk => hk.2.1 p1)⟩, h9, h10, h11, fun a => ⟨(h12 a).1, (h12 a).2.1, Blk.far2 (h12 a).2.2 (Ne.symm (h14 a p1))⟩, fun a => ⟨rfl, q1, by rw [if_pos (show YInv.up L 15 15 = true from rfl)]; exact Blk.set2 q2⟩, h14, h15, fun _ => ⟨p8, p1⟩⟩
    exact Steps.nil
end Go.Proofs.YtaiolioggjknfaaDoor.YBig
