/- Lean functions, contracts and lemmas that this claim needs. No condition. -/
import Derived.Test.YtfcandmhalhaeaaDoorAYWideW
namespace Go.Proofs.YtfcandmhalhaeaaDoor.YWide
open Go.RowKit Go.Proofs.YtfcandmhalhaeaaDoor.YInv Go.Proofs.YtfcandmhalhaeaaDoor.YErr Go.Proofs.YtfcandmhalhaeaaDoor.YRef Go.Proofs.YtfcandmhalhaeaaDoor.YNum Go.Proofs.YtfcandmhalhaeaaDoor.XCarry Go.Proofs.YtfcandmhalhaeaaDoor.QSy Go.Proofs.YtfcandmhalhaeaaDoorW.PrintWords Go.Proofs.YtfcandmhalhaeaaDoorW.PrintLast
set_option linter.unusedVariables false
set_option linter.unusedSimpArgs false
theorem bb {W w w' : World} (h : Below W.heap.size W w) (g : Below w.heap.size w w') : Below W.heap.size W w' := h.trans (g.mono h.size)
/-- Two numbers lie in memory. -/
def H2 (W : World) (b0 : Nat) (l0 : List Int) (b1 : Nat) (l1 : List Int) (w : World) : Prop := Blk w b0 (U l0) 79 ∧ Blk w b1 (U l1) 79 ∧ Below W.heap.size W w
def H3 (W : World) (b0 : Nat) (l0 : List Int) (b1 : Nat) (l1 : List Int) (b2 : Nat) (l2 : List Int) (w : World) : Prop := Blk w b0 (U l0) 79 ∧ Blk w b1 (U l1) 79 ∧ Blk w b2 (U l2) 79 ∧ Below W.heap.size W w
section
variable {W w w' : World} {b b0 b1 b2 : Nat} {l l0 l1 l2 : List Int}
theorem at_ (k : Blk w b (U l) 79) : w.rangeAt b 0 (U l).toList := by
  intro j v hj
  rw [Nat.zero_add, k.cell, ← hj, Array.getElem?_toList]
theorem s2 (h : H2 W b0 l0 b1 l1 w) : w.rangeAt b0 0 (U l0).toList ∧ w.rangeAt b1 0 (U l1).toList ∧ H2 W b0 l0 b1 l1 w := ⟨at_ h.1, at_ h.2.1, h⟩
theorem s3 (h : H3 W b0 l0 b1 l1 b2 l2 w) : w.rangeAt b0 0 (U l0).toList ∧ w.rangeAt b1 0 (U l1).toList ∧ w.rangeAt b2 0 (U l2).toList ∧ H3 W b0 l0 b1 l1 b2 l2 w := ⟨at_ h.1, at_ h.2.1, at_ h.2.2.1, h⟩
theorem nU (x : Int) : (Tryd.prog.info? 79).map (·.size) = some (U (lim x)).toList.length := by rw [Array.length_toList, U_size, lim_len]; exact info_w
/-- Two numbers are boxed, and a third place is laid. -/
theorem start3 (w : World) (a b : List Int) : ∀ w', w' = ((w.alloc (.cells (U a) 79)).alloc (.cells (U b) 79)).alloc (.cells (U zeros) 79) →
    Blk w' w.heap.size (U a) 79 ∧ Blk w' (w.heap.size + 1) (U b) 79 ∧ Blk w' (w.heap.size + 1 + 1) (U zeros) 79 ∧ Below w.heap.size w w' := by
  rintro w' rfl
  refine ⟨((Blk.new _ _ _).alloc _).alloc _, ?_, ?_, (((Below.refl _ _).alloc (Nat.le_refl _) _).alloc (by simp) _).alloc (by simp; omega) _⟩
  · have := (Blk.new (w.alloc (.cells (U a) 79)) (U b) 79).alloc (.cells (U zeros) 79)
    simpa using this
  · have := Blk.new ((w.alloc (.cells (U a) 79)).alloc (.cells (U b) 79)) (U zeros) 79
    simpa using this
theorem start2 (w : World) (a : List Int) : ∀ w', w' = (w.alloc (.cells (U a) 79)).alloc (.cells (U zeros) 79) →
    Blk w' w.heap.size (U a) 79 ∧ Blk w' (w.heap.size + 1) (U zeros) 79 ∧ Below w.heap.size w w' := by
  rintro w' rfl
  refine ⟨(Blk.new _ _ _).alloc _, ?_, ((Below.refl _ _).alloc (Nat.le_refl _) _).alloc (by simp) _⟩
  have := Blk.new (w.alloc (.cells (U a) 79)) (U zeros) 79
  simpa using this
end
section
variable {W w : World} {b0 b1 b2 : Nat} {l0 l1 l2 : List Int}
theorem H3.drew (h : H3 W b0 l0 b1 l1 b2 l2 w) : H3 W b0 l0 b1 l1 b2 l2 w.drew := ⟨h.1.drew, h.2.1.drew, h.2.2.1.drew, below_drewN h.2.2.2 1⟩
theorem H2.drew (h : H2 W b0 l0 b1 l1 w) : H2 W b0 l0 b1 l1 w.drew := ⟨h.1.drew, h.2.1.drew, below_drewN h.2.2 1⟩
end
theorem wanted_ {c : Bool} {X Y : Prop} (h : c = true) (hx : X) : if c = true then X else Y := by rw [if_pos h]; exact hx
/-- A call, whatever is next. -/
theorem goesK_ {P : Program} {K : Act → World → Prop} {Q : Exit → Act → World → Prop} {oi : Oper} {a : Act} {w : World} {f : FuncId} {fn : Func} {xs_ : Array Operand} {ts : Array TypeId} (hf : P.funcs[f]? = some fn) (hname : (fn.name == "runtime.NumGoroutine") = false) (hb : fn.body.isSome = true) (args : Array Value)
    (hop : oi.op = .call { callee := .value (.func f), args := xs_, argTypes := ts }) (hargs : xs_.map a.eval = args)
    (h : Calls P f args w fun e w' => ∃ v, e = .returned v ∧ K (a.put oi.dst v) w') : Oper.wp P oi a w K Q := by
  have he := enters_ hf hname hb args w
  have hrun : (execOp a.eval oi).run P w = .ok (.enter f args) w := by
    unfold execOp
    simp [hop, resolve, Deferred.ofValue, invoke, Act.eval, hargs, he]
  unfold Oper.wp
  rw [hrun, Oper.upon_enter]
  refine h.mono fun e w'' hh => ?_
  obtain ⟨v, rfl, hk⟩ := hh
  exact hk
theorem up_true {L : Nat → Bool} {i j : Nat} (h : L j = true) : YInv.up L i j = true := by
  unfold YInv.up
  split
  · rfl
  · exact h
/-- A number, or that there is none. -/
def cl (z : Int) : Int := if InW z then z else 0
theorem top_wide {z : Int} (h0 : -(18446744073709551616 ^ 16) ≤ z) (h1 : z < 18446744073709551616 ^ 16) : top (lim z) = decide ((z < 0 ∧ -(18446744073709551616 ^ 16) ≤ 2 * z) ∨ 18446744073709551616 ^ 16 ≤ 2 * z) := by
  unfold top
  rw [dg_lim z (by decide), decide_eq_decide]
  constructor
  · intro h; omega
  · intro h; omega
theorem top_sum {x y : Int} (hx : InW x) (hy : InW y) : (top (lim x) = top (lim y) ∧ top (lim (x + y)) ≠ top (lim x) ∧ decide (InW (x + y)) = false) ∨ (¬ (top (lim x) = top (lim y) ∧ top (lim (x + y)) ≠ top (lim x)) ∧ decide (InW (x + y)) = true) := by
  rw [top_lim hx, top_lim hy, top_wide (by unfold InW at *; omega) (by unfold InW at *; omega)]
  unfold InW at hx hy
  by_cases h : InW (x + y)
  · right
    refine ⟨fun ⟨h1, h2⟩ => ?_, decide_eq_true h⟩
    unfold InW at h
    rw [decide_eq_decide] at h1
    rw [ne_eq, decide_eq_decide] at h2
    omega
  · left
    unfold InW at h
    refine ⟨?_, ?_, decide_eq_false (by unfold InW; omega)⟩
    · rw [decide_eq_decide]; omega
    · rw [ne_eq, decide_eq_decide]; omega
theorem ex_28 {C : Prop} {R : Value → Value → Value → Value → Value → Value → Value → Value → Value → Value → Value → Value → Value → Value → Value → Value → Value → Value → Value → Value → Value → Value → Value → Value → Value → Value → Value → Value → Prop} (h : ∃ x0 x1 x2 x3 x4 x5 x6 x7 x8 x9 x10 x11 x12 x13 x14 x15 x16 x17 x18 x19 x20 x21 x22 x23 x24 x25 x26 x27, R x0 x1 x2 x3 x4 x5 x6 x7 x8 x9 x10 x11 x12 x13 x14 x15 x16 x17 x18 x19 x20 x21 x22 x23 x24 x25 x26 x27) (k : ∀ x0 x1 x2 x3 x4 x5 x6 x7 x8 x9 x10 x11 x12 x13 x14 x15 x16 x17 x18 x19 x20 x21 x22 x23 x24 x25 x26 x27, R x0 x1 x2 x3 x4 x5 x6 x7 x8 x9 x10 x11 x12 x13 x14 x15 x16 x17 x18 x19 x20 x21 x22 x23 x24 x25 x26 x27 → C) : C := by
  obtain ⟨x0, h⟩ := h
  obtain ⟨x1, h⟩ := h
  obtain ⟨x2, h⟩ := h
  obtain ⟨x3, h⟩ := h
  obtain ⟨x4, h⟩ := h
  obtain ⟨x5, h⟩ := h
  obtain ⟨x6, h⟩ := h
  obtain ⟨x7, h⟩ := h
  obtain ⟨x8, h⟩ := h
  obtain ⟨x9, h⟩ := h
  obtain ⟨x10, h⟩ := h
  obtain ⟨x11, h⟩ := h
  obtain ⟨x12, h⟩ := h
  obtain ⟨x13, h⟩ := h
  obtain ⟨x14, h⟩ := h
  obtain ⟨x15, h⟩ := h
  obtain ⟨x16, h⟩ := h
  obtain ⟨x17, h⟩ := h
  obtain ⟨x18, h⟩ := h
  obtain ⟨x19, h⟩ := h
  obtain ⟨x20, h⟩ := h
  obtain ⟨x21, h⟩ := h
  obtain ⟨x22, h⟩ := h
  obtain ⟨x23, h⟩ := h
  obtain ⟨x24, h⟩ := h
  obtain ⟨x25, h⟩ := h
  obtain ⟨x26, h⟩ := h
  obtain ⟨x27, h⟩ := h
  exact k x0 x1 x2 x3 x4 x5 x6 x7 x8 x9 x10 x11 x12 x13 x14 x15 x16 x17 x18 x19 x20 x21 x22 x23 x24 x25 x26 x27 h
set_option maxRecDepth 100000 in
set_option maxHeartbeats 16000000 in
theorem Add_c {x y : Int} (hx : InW x) (hy : InW y) (w : World) : Calls Tryd.prog 42 #[.agg (U (lim x)), .agg (U (lim y))] w fun e w' => e = .returned (.tuple #[.agg (U (lim (cl (x + y)))), .bool (decide (InW (x + y)))]) ∧ Below w.heap.size w w' := by
  have la := lim_len x
  have lb := lim_len y
  have lc := lim_len (x + y)
  have P := fun W => plus_c x y 0 (by omega) (by omega) W
  rw [Int.add_zero] at P
  have T0 := top_sum hx hy
  have Bx := fun W => below_t x W
  have By := fun W => below_t y W
  have Bz := fun W => below_t (x + y) W
  have fin : (decide (InW (x + y)) = true → lim (cl (x + y)) = lim (x + y)) ∧ (decide (InW (x + y)) = false → lim (cl (x + y)) = zeros) := by
    unfold cl
    refine ⟨fun h => ?_, fun h => ?_⟩
    · rw [if_pos (of_decide_eq_true h)]
    · rw [if_neg (of_decide_eq_false h), zeros_lim]
  generalize decide (InW (x + y)) = ok at *
  generalize top (lim x) = tx at *
  generalize top (lim y) = ty at *
  generalize top (lim (x + y)) = tz at *
  generalize lim (cl (x + y)) = r at *
  obtain ⟨k0, k1, k2, b0⟩ := start3 w (lim x) (lim y) _ rfl
  have T : ok = !(tx == ty && tz != tx) := by revert T0; cases tx <;> cases ty <;> cases tz <;> cases ok <;> simp
  clear T0
  go_enter Tryd.func42, Tryd.ntmps42
  go_wp2_with (first | (refine ldW k0 la _ rfl rfl rfl ?_) | (refine ldW k1 lb _ rfl rfl rfl ?_))
  refine (P _).mono ?_; rintro e w1 ⟨rfl, g1⟩
  have b1 := bb b0 g1
  have k3 := Blk.new w1 (U zeros) 79
  have z1 := b1.size
  have m0 := (k0.keep g1)
  have m1 := (k1.keep g1)
  have m2 := (k2.keep g1)
  go_wp2_with (refine stW k3 zeros_len lc _ _ rfl rfl rfl rfl ?_)
  have H0 : H3 w w.heap.size (lim x) (w.heap.size + 1) (lim y) w1.heap.size (lim (x + y)) ((w1.alloc (.cells #[.int .u64 0, .int .u64 0, .int .u64 0, .int .u64 0, .int .u64 0, .int .u64 0, .int .u64 0, .int .u64 0, .int .u64 0, .int .u64 0, .int .u64 0, .int .u64 0, .int .u64 0, .int .u64 0, .int .u64 0, .int .u64 0] 79)).setRow w1.heap.size (U (lim (x + y)))) :=
    ⟨far_ (m0.alloc _) (Nat.ne_of_lt m0.lt), far_ (m1.alloc _) (Nat.ne_of_lt m1.lt), put_ k3, below_row (b1.alloc z1 _) z1 _⟩
  have m2' : Blk ((w1.alloc (.cells #[.int .u64 0, .int .u64 0, .int .u64 0, .int .u64 0, .int .u64 0, .int .u64 0, .int .u64 0, .int .u64 0, .int .u64 0, .int .u64 0, .int .u64 0, .int .u64 0, .int .u64 0, .int .u64 0, .int .u64 0, .int .u64 0] 79)).setRow w1.heap.size (U (lim (x + y)))) (w.heap.size + 1 + 1) (U zeros) 79 := far_ (m2.alloc _) (Nat.ne_of_lt m2.lt)
  clear k0 k1 k2 b0 g1 b1 k3 m0 m1 m2 P
  generalize (w1.alloc (.cells #[.int .u64 0, .int .u64 0, .int .u64 0, .int .u64 0, .int .u64 0, .int .u64 0, .int .u64 0, .int .u64 0, .int .u64 0, .int .u64 0, .int .u64 0, .int .u64 0, .int .u64 0, .int .u64 0, .int .u64 0, .int .u64 0] 79)).setRow w1.heap.size (U (lim (x + y))) = w2 at *
  by_cases h : tx = ty
  · subst h
    refine region_steps (fun L a wx => ∃ (x0 x1 x2 x3 x4 x5 x6 x7 x8 x9 x10 x11 x12 x13 x14 x15 x16 x17 x18 x19 x20 x21 x22 x23 x24 x25 x26 x27 : Value), a = { tmps := #[x0, x1, x2, x3, x4, x5, x6, x7, x8, x9, x10, x11, x12, x13, x14, x15, x16, x17, x18, x19, x20, x21, x22, x23, x24, x25, x26, x27], defers := [] } ∧ x2 = .pointer (some ⟨w.heap.size, 0, none⟩) ∧ x3 = .pointer (some ⟨(w.heap.size + 1), 0, none⟩) ∧ x4 = .pointer (some ⟨(w.heap.size + 1 + 1), 0, none⟩) ∧ x5 = .bool false ∧ x6 = .pointer (some ⟨w1.heap.size, 0, none⟩) ∧ (L 0 = true → x14 = .agg (U (lim x))) ∧ (L 1 = true → x15 = .bool tx) ∧ (L 2 = true → x16 = .agg (U (lim y))) ∧ (L 3 = true → x17 = .bool tx) ∧ (L 4 = true → x18 = .bool true) ∧ (L 5 = true → x19 = .bool true) ∧ (L 6 = true → x20 = .agg (U (lim (x + y)))) ∧ (L 7 = true → x21 = .bool tz) ∧ (L 8 = true → x22 = .agg (U (lim x))) ∧ (L 9 = true → x23 = .bool tx) ∧ (L 10 = true → x24 = .bool (tz != tx)) ∧ (L 11 = true → x25 = .bool (tz != tx)) ∧ Blk wx w.heap.size (U (lim x)) 79 ∧ Blk wx (w.heap.size + 1) (U (lim y)) 79 ∧ Blk wx w1.heap.size (U (lim (x + y))) 79 ∧ Blk wx (w.heap.size + 1 + 1) (U (zeros)) 79 ∧ Below w2.heap.size w2 wx) [0, 1, 2, 3, 4, 5, 6, 7, 8, 9, 10, 11] (by kernel_rfl) (by kernel_rfl) (by kernel_rfl) ?start ?steps ?fin
    case start =>
      exact ⟨_, _, _, _, _, _, _, _, _, _, _, _, _, _, _, _, _, _, _, _, _, _, _, _, _, _, _, _, rfl, (by first | rfl | simp only [*]), (by first | rfl | simp only [*]), (by first | rfl | simp only [*]), (by first | rfl | simp only [*]), (by first | rfl | simp only [*]), fun h => absurd h (by decide), fun h => absurd h (by decide), fun h => absurd h (by decide), fun h => absurd h (by decide), fun h => absurd h (by decide), fun h => absurd h (by decide), fun h => absurd h (by decide), fun h => absurd h (by decide), fun h => absurd h (by decide), fun h => absurd h (by decide), fun h => absurd h (by decide), fun h => absurd h (by decide), H0.1.drew, H0.2.1.drew, H0.2.2.1.drew, m2'.drew, (Below.refl _ _).drew⟩
    case steps =>
      refine Steps.cons rfl (fun L a wx K hK hL hp hI => ?_) ?_
      · refine ex_28 hI (fun x0 x1 x2 x3 x4 x5 x6 x7 x8 x9 x10 x11 x12 x13 x14 x15 x16 x17 x18 x19 x20 x21 x22 x23 x24 x25 x26 x27 hI => ?_)
        obtain ⟨rfl, P2, P3, P4, P5, P6, H0, H1, H2, H3, H4, H5, H6, H7, H8, H9, H10, H11, K0, K1, K2, K3, B2⟩ := hI
        clear hp
        subst P2
        refine wanted_ (by rfl) ?_
        refine wp_load_row 79 _ rfl w.heap.size rfl 79 (U (lim x)) (0, 0) _ K0 Tryd.underlying79 rfl (ofLen la) ?_
        (try simp only [Act.put, List.setIfInBounds_toArray, List.set_cons_zero, List.set_cons_succ])
        exact hK.out _ _ ⟨_, _, _, _, _, _, _, _, _, _, _, _, _, _, _, _, _, _, _, _, _, _, _, _, _, _, _, _, rfl, rfl, P3, P4, P5, P6, fun _ => rfl, H1, H2, H3, H4, H5, H6, H7, H8, H9, H10, H11, K0, K1, K2, K3, B2⟩
      refine Steps.cons rfl (fun L a wx K hK hL hp hI => ?_) ?_
      · refine ex_28 hI (fun x0 x1 x2 x3 x4 x5 x6 x7 x8 x9 x10 x11 x12 x13 x14 x15 x16 x17 x18 x19 x20 x21 x22 x23 x24 x25 x26 x27 hI => ?_)
        obtain ⟨rfl, P2, P3, P4, P5, P6, H0, H1, H2, H3, H4, H5, H6, H7, H8, H9, H10, H11, K0, K1, K2, K3, B2⟩ := hI
        have p0 : L 0 = true := hp ⟨0, .data⟩ (by simp) rfl
        have e0 := H0 p0
        clear hp
        subst e0
        refine wanted_ (by rfl) ?_
        refine goesK_ Tryd.func58 (by kernel_rfl) rfl #[.agg (U (lim x))] rfl (by simp [Act.eval]) ?_
        refine (Bx _).mono ?_
        rintro e w' ⟨rfl, g⟩
        refine ⟨_, rfl, ?_⟩
        (try simp only [Act.put, List.setIfInBounds_toArray, List.set_cons_zero, List.set_cons_succ])
        exact hK.out _ _ ⟨_, _, _, _, _, _, _, _, _, _, _, _, _, _, _, _, _, _, _, _, _, _, _, _, _, _, _, _, rfl, P2, P3, P4, P5, P6, fun _ => rfl, fun _ => rfl, H2, H3, H4, H5, H6, H7, H8, H9, H10, H11, (Blk.keep K0 g), (Blk.keep K1 g), (Blk.keep K2 g), (Blk.keep K3 g), bb B2 g⟩
      refine Steps.cons rfl (fun L a wx K hK hL hp hI => ?_) ?_
      · refine ex_28 hI (fun x0 x1 x2 x3 x4 x5 x6 x7 x8 x9 x10 x11 x12 x13 x14 x15 x16 x17 x18 x19 x20 x21 x22 x23 x24 x25 x26 x27 hI => ?_)
        obtain ⟨rfl, P2, P3, P4, P5, P6, H0, H1, H2, H3, H4, H5, H6, H7, H8, H9, H10, H11, K0, K1, K2, K3, B2⟩ := hI
        clear hp
        subst P3
        refine wanted_ (by rfl) ?_
        refine wp_load_row 79 _ rfl (w.heap.size + 1) rfl 79 (U (lim y)) (0, 0) _ K1 Tryd.underlying79 rfl (ofLen lb) ?_
        (try simp only [Act.put, List.setIfInBounds_toArray, List.set_cons_zero, List.set_cons_succ])
        exact hK.out _ _ ⟨_, _, _, _, _, _, _, _, _, _, _, _, _, _, _, _, _, _, _, _, _, _, _, _, _, _, _, _, rfl, P2, rfl, P4, P5, P6, H0, H1, fun _ => rfl, H3, H4, H5, H6, H7, H8, H9, H10, H11, K0, K1, K2, K3, B2⟩
      refine Steps.cons rfl (fun L a wx K hK hL hp hI => ?_) ?_
      · refine ex_28 hI (fun x0 x1 x2 x3 x4 x5 x6 x7 x8 x9 x10 x11 x12 x13 x14 x15 x16 x17 x18 x19 x20 x21 x22 x23 x24 x25 x26 x27 hI => ?_)
        obtain ⟨rfl, P2, P3, P4, P5, P6, H0, H1, H2, H3, H4, H5, H6, H7, H8, H9, H10, H11, K0, K1, K2, K3, B2⟩ := hI
        have p2 : L 2 = true := hp ⟨2, .data⟩ (by simp) rfl
        have e2 := H2 p2
        clear hp
        subst e2
        refine wanted_ (by rfl) ?_
        refine goesK_ Tryd.func58 (by kernel_rfl) rfl #[.agg (U (lim y))] rfl (by simp [Act.eval]) ?_
        refine (By _).mono ?_
        rintro e w' ⟨rfl, g⟩
        refine ⟨_, rfl, ?_⟩
        (try simp only [Act.put, List.setIfInBounds_toArray, List.set_cons_zero, List.set_cons_succ])
        exact hK.out _ _ ⟨_, _, _, _, _, _, _, _, _, _, _, _, _, _, _, _, _, _, _, _, _, _, _, _, _, _, _, _, rfl, P2, P3, P4, P5, P6, H0, H1, fun _ => rfl, fun _ => rfl, H4, H5, H6, H7, H8, H9, H10, H11, (Blk.keep K0 g), (Blk.keep K1 g), (Blk.keep K2 g), (Blk.keep K3 g), bb B2 g⟩
      refine Steps.cons rfl (fun L a wx K hK hL hp hI => ?_) ?_
      · refine ex_28 hI (fun x0 x1 x2 x3 x4 x5 x6 x7 x8 x9 x10 x11 x12 x13 x14 x15 x16 x17 x18 x19 x20 x21 x22 x23 x24 x25 x26 x27 hI => ?_)
        obtain ⟨rfl, P2, P3, P4, P5, P6, H0, H1, H2, H3, H4, H5, H6, H7, H8, H9, H10, H11, K0, K1, K2, K3, B2⟩ := hI
        have p1 : L 1 = true := hp ⟨1, .data⟩ (by simp) rfl
        have e1 := H1 p1
        have p3 : L 3 = true := hp ⟨3, .data⟩ (by simp) rfl
        have e3 := H3 p3
        clear hp
        subst e1 e3
        go_simp
        exact hK.out _ _ ⟨_, _, _, _, _, _, _, _, _, _, _, _, _, _, _, _, _, _, _, _, _, _, _, _, _, _, _, _, rfl, (by first | exact P2 | rfl), (by first | exact P3 | rfl), (by first | exact P4 | rfl), (by first | exact P5 | rfl), (by first | exact P6 | rfl), H0, fun _ => rfl, H2, fun _ => rfl, fun _ => (by first | rfl | simp), H5, H6, H7, H8, H9, H10, H11, K0, K1, K2, K3, B2⟩
      refine Steps.cons rfl (fun L a wx K hK hL hp hI => ?_) ?_
      · refine ex_28 hI (fun x0 x1 x2 x3 x4 x5 x6 x7 x8 x9 x10 x11 x12 x13 x14 x15 x16 x17 x18 x19 x20 x21 x22 x23 x24 x25 x26 x27 hI => ?_)
        obtain ⟨rfl, P2, P3, P4, P5, P6, H0, H1, H2, H3, H4, H5, H6, H7, H8, H9, H10, H11, K0, K1, K2, K3, B2⟩ := hI
        have p4 : L 4 = true := hp ⟨4, .data⟩ (by simp) rfl
        have e4 := H4 p4
        clear hp
        subst e4
        go_simp
        exact hK.out _ _ ⟨_, _, _, _, _, _, _, _, _, _, _, _, _, _, _, _, _, _, _, _, _, _, _, _, _, _, _, _, rfl, (by first | exact P2 | rfl), (by first | exact P3 | rfl), (by first | exact P4 | rfl), (by first | exact P5 | rfl), (by first | exact P6 | rfl), H0, H1, H2, H3, fun _ => rfl, fun _ => (by first | rfl | simp), H6, H7, H8, H9, H10, H11, K0, K1, K2, K3, B2⟩
      refine Steps.cons rfl (fun L a wx K hK hL hp hI => ?_) ?_
      · refine ex_28 hI (fun x0 x1 x2 x3 x4 x5 x6 x7 x8 x9 x10 x11 x12 x13 x14 x15 x16 x17 x18 x19 x20 x21 x22 x23 x24 x25 x26 x27 hI => ?_)
        obtain ⟨rfl, P2, P3, P4, P5, P6, H0, H1, H2, H3, H4, H5, H6, H7, H8, H9, H10, H11, K0, K1, K2, K3, B2⟩ := hI
        have p5 : L 5 = true := hp ⟨5, .guard⟩ (by simp) rfl
        have e5 := H5 p5
        clear hp
        subst e5 P6
        refine wanted_ (by rfl) ?_
        refine wp_load_row 79 _ rfl w1.heap.size rfl 79 (U (lim (x + y))) (0, 0) _ K2 Tryd.underlying79 rfl (ofLen lc) ?_
        (try simp only [Act.put, List.setIfInBounds_toArray, List.set_cons_zero, List.set_cons_succ])
        exact hK.out _ _ ⟨_, _, _, _, _, _, _, _, _, _, _, _, _, _, _, _, _, _, _, _, _, _, _, _, _, _, _, _, rfl, P2, P3, P4, P5, rfl, H0, H1, H2, H3, H4, fun _ => rfl, fun _ => rfl, H7, H8, H9, H10, H11, K0, K1, K2, K3, B2⟩
      refine Steps.cons rfl (fun L a wx K hK hL hp hI => ?_) ?_
      · refine ex_28 hI (fun x0 x1 x2 x3 x4 x5 x6 x7 x8 x9 x10 x11 x12 x13 x14 x15 x16 x17 x18 x19 x20 x21 x22 x23 x24 x25 x26 x27 hI => ?_)
        obtain ⟨rfl, P2, P3, P4, P5, P6, H0, H1, H2, H3, H4, H5, H6, H7, H8, H9, H10, H11, K0, K1, K2, K3, B2⟩ := hI
        have p6 : L 6 = true := hp ⟨6, .data⟩ (by simp) rfl
        have e6 := H6 p6
        have p5 : L 5 = true := hp ⟨5, .chain⟩ (by simp) rfl
        have e5 := H5 p5
        clear hp
        subst e6 e5
        refine wanted_ (by rfl) ?_
        refine goesK_ Tryd.func58 (by kernel_rfl) rfl #[.agg (U (lim (x + y)))] rfl (by simp [Act.eval]) ?_
        refine (Bz _).mono ?_
        rintro e w' ⟨rfl, g⟩
        refine ⟨_, rfl, ?_⟩
        (try simp only [Act.put, List.setIfInBounds_toArray, List.set_cons_zero, List.set_cons_succ])
        exact hK.out _ _ ⟨_, _, _, _, _, _, _, _, _, _, _, _, _, _, _, _, _, _, _, _, _, _, _, _, _, _, _, _, rfl, P2, P3, P4, P5, P6, H0, H1, H2, H3, H4, fun _ => rfl, fun _ => rfl, fun _ => rfl, H8, H9, H10, H11, (Blk.keep K0 g), (Blk.keep K1 g), (Blk.keep K2 g), (Blk.keep K3 g), bb B2 g⟩
      refine Steps.cons rfl (fun L a wx K hK hL hp hI => ?_) ?_
      · refine ex_28 hI (fun x0 x1 x2 x3 x4 x5 x6 x7 x8 x9 x10 x11 x12 x13 x14 x15 x16 x17 x18 x19 x20 x21 x22 x23 x24 x25 x26 x27 hI => ?_)
        obtain ⟨rfl, P2, P3, P4, P5, P6, H0, H1, H2, H3, H4, H5, H6, H7, H8, H9, H10, H11, K0, K1, K2, K3, B2⟩ := hI
        have p5 : L 5 = true := hp ⟨5, .guard⟩ (by simp) rfl
        have e5 := H5 p5
        clear hp
        subst e5 P2
        refine wanted_ (by rfl) ?_
        refine wp_load_row 79 _ rfl w.heap.size rfl 79 (U (lim x)) (0, 0) _ K0 Tryd.underlying79 rfl (ofLen la) ?_
        (try simp only [Act.put, List.setIfInBounds_toArray, List.set_cons_zero, List.set_cons_succ])
        exact hK.out _ _ ⟨_, _, _, _, _, _, _, _, _, _, _, _, _, _, _, _, _, _, _, _, _, _, _, _, _, _, _, _, rfl, rfl, P3, P4, P5, P6, H0, H1, H2, H3, H4, fun _ => rfl, H6, H7, fun _ => rfl, H9, H10, H11, K0, K1, K2, K3, B2⟩
      refine Steps.cons rfl (fun L a wx K hK hL hp hI => ?_) ?_
      · refine ex_28 hI (fun x0 x1 x2 x3 x4 x5 x6 x7 x8 x9 x10 x11 x12 x13 x14 x15 x16 x17 x18 x19 x20 x21 x22 x23 x24 x25 x26 x27 hI => ?_)
        obtain ⟨rfl, P2, P3, P4, P5, P6, H0, H1, H2, H3, H4, H5, H6, H7, H8, H9, H10, H11, K0, K1, K2, K3, B2⟩ := hI
        have p8 : L 8 = true := hp ⟨8, .data⟩ (by simp) rfl
        have e8 := H8 p8
        have p5 : L 5 = true := hp ⟨5, .guard⟩ (by simp) rfl
        have e5 := H5 p5
        clear hp
        subst e8 e5
        refine wanted_ (by rfl) ?_
        refine goesK_ Tryd.func58 (by kernel_rfl) rfl #[.agg (U (lim x))] rfl (by simp [Act.eval]) ?_
        refine (Bx _).mono ?_
        rintro e w' ⟨rfl, g⟩
        refine ⟨_, rfl, ?_⟩
        (try simp only [Act.put, List.setIfInBounds_toArray, List.set_cons_zero, List.set_cons_succ])
        exact hK.out _ _ ⟨_, _, _, _, _, _, _, _, _, _, _, _, _, _, _, _, _, _, _, _, _, _, _, _, _, _, _, _, rfl, P2, P3, P4, P5, P6, H0, H1, H2, H3, H4, fun _ => rfl, H6, H7, fun _ => rfl, fun _ => rfl, H10, H11, (Blk.keep K0 g), (Blk.keep K1 g), (Blk.keep K2 g), (Blk.keep K3 g), bb B2 g⟩
      refine Steps.cons rfl (fun L a wx K hK hL hp hI => ?_) ?_
      · refine ex_28 hI (fun x0 x1 x2 x3 x4 x5 x6 x7 x8 x9 x10 x11 x12 x13 x14 x15 x16 x17 x18 x19 x20 x21 x22 x23 x24 x25 x26 x27 hI => ?_)
        obtain ⟨rfl, P2, P3, P4, P5, P6, H0, H1, H2, H3, H4, H5, H6, H7, H8, H9, H10, H11, K0, K1, K2, K3, B2⟩ := hI
        have p7 : L 7 = true := hp ⟨7, .data⟩ (by simp) rfl
        have e7 := H7 p7
        have p9 : L 9 = true := hp ⟨9, .data⟩ (by simp) rfl
        have e9 := H9 p9
        have p5 : L 5 = true := hp ⟨5, .guard⟩ (by simp) rfl
        have e5 := H5 p5
        clear hp
        subst e7 e9 e5
        go_simp
        exact hK.out _ _ ⟨_, _, _, _, _, _, _, _, _, _, _, _, _, _, _, _, _, _, _, _, _, _, _, _, _, _, _, _, rfl, (by first | exact P2 | rfl), (by first | exact P3 | rfl), (by first | exact P4 | rfl), (by first | exact P5 | rfl), (by first | exact P6 | rfl), H0, H1, H2, H3, H4, fun _ => rfl, H6, fun _ => rfl, H8, fun _ => rfl, fun _ => (by first | rfl | simp), H11, K0, K1, K2, K3, B2⟩
      refine Steps.cons rfl (fun L a wx K hK hL hp hI => ?_) ?_
      · refine ex_28 hI (fun x0 x1 x2 x3 x4 x5 x6 x7 x8 x9 x10 x11 x12 x13 x14 x15 x16 x17 x18 x19 x20 x21 x22 x23 x24 x25 x26 x27 hI => ?_)
        obtain ⟨rfl, P2, P3, P4, P5, P6, H0, H1, H2, H3, H4, H5, H6, H7, H8, H9, H10, H11, K0, K1, K2, K3, B2⟩ := hI
        have p5 : L 5 = true := hp ⟨5, .data⟩ (by simp) rfl
        have e5 := H5 p5
        have p10 : L 10 = true := hp ⟨10, .data⟩ (by simp) rfl
        have e10 := H10 p10
        clear hp
        subst e5 e10
        go_simp
        exact hK.out _ _ ⟨_, _, _, _, _, _, _, _, _, _, _, _, _, _, _, _, _, _, _, _, _, _, _, _, _, _, _, _, rfl, (by first | exact P2 | rfl), (by first | exact P3 | rfl), (by first | exact P4 | rfl), (by first | exact P5 | rfl), (by first | exact P6 | rfl), H0, H1, H2, H3, H4, fun _ => rfl, H6, H7, H8, H9, fun _ => rfl, fun _ => (by first | rfl | simp), K0, K1, K2, K3, B2⟩
      exact Steps.nil
    case fin =>
      intro L a wx hall hI
      refine ex_28 hI (fun x0 x1 x2 x3 x4 x5 x6 x7 x8 x9 x10 x11 x12 x13 x14 x15 x16 x17 x18 x19 x20 x21 x22 x23 x24 x25 x26 x27 hI => ?_)
      obtain ⟨rfl, P2, P3, P4, P5, P6, H0, H1, H2, H3, H4, H5, H6, H7, H8, H9, H10, H11, K0, K1, K2, K3, B2⟩ := hI
      have E0 := H0 (hall 0 (by decide))
      have E1 := H1 (hall 1 (by decide))
      have E2 := H2 (hall 2 (by decide))
      have E3 := H3 (hall 3 (by decide))
      have E4 := H4 (hall 4 (by decide))
      have E5 := H5 (hall 5 (by decide))
      have E6 := H6 (hall 6 (by decide))
      have E7 := H7 (hall 7 (by decide))
      have E8 := H8 (hall 8 (by decide))
      have E9 := H9 (hall 9 (by decide))
      have E10 := H10 (hall 10 (by decide))
      have E11 := H11 (hall 11 (by decide))
      clear hall H0 H1 H2 H3 H4 H5 H6 H7 H8 H9 H10 H11
      subst E0 E1 E2 E3 E4 E5 E6 E7 E8 E9 E10 E11 P2 P3 P4 P5 P6
      cases tz <;> cases tx
      · obtain rfl : ok = true := by simpa using T
        have FN := Lib.hid fin
        clear fin T
        go_wp2_with (first | (refine ldW K2 lc _ rfl rfl rfl ?_) | (refine stW K3 zeros_len lc _ _ rfl rfl rfl rfl ?_))
        have fin := FN.out
        rw [fin.1 (by first | rfl | trivial)]
        exact bodyPost_ret (res2 Tryd.results42 _ rfl (put_ K3) lc) rfl ⟨rfl, below_row (bb H0.2.2.2 B2) (by omega) _⟩
      · obtain rfl : ok = false := by simpa using T
        have FN := Lib.hid fin
        clear fin T
        go_wp2_with (first | (refine ldW K2 lc _ rfl rfl rfl ?_) | (refine stW K3 zeros_len zeros_len _ _ rfl rfl rfl rfl ?_))
        have fin := FN.out
        rw [fin.2 (by first | rfl | trivial)]
        exact bodyPost_ret (res2 Tryd.results42 _ rfl (put_ K3) zeros_len) rfl ⟨rfl, below_row (bb H0.2.2.2 B2) (by omega) _⟩
      · obtain rfl : ok = false := by simpa using T
        have FN := Lib.hid fin
        clear fin T
        go_wp2_with (first | (refine ldW K2 lc _ rfl rfl rfl ?_) | (refine stW K3 zeros_len zeros_len _ _ rfl rfl rfl rfl ?_))
        have fin := FN.out
        rw [fin.2 (by first | rfl | trivial)]
        exact bodyPost_ret (res2 Tryd.results42 _ rfl (put_ K3) zeros_len) rfl ⟨rfl, below_row (bb H0.2.2.2 B2) (by omega) _⟩
      · obtain rfl : ok = true := by simpa using T
        have FN := Lib.hid fin
        clear fin T
        go_wp2_with (first | (refine ldW K2 lc _ rfl rfl rfl ?_) | (refine stW K3 zeros_len lc _ _ rfl rfl rfl rfl ?_))
        have fin := FN.out
        rw [fin.1 (by first | rfl | trivial)]
        exact bodyPost_ret (res2 Tryd.results42 _ rfl (put_ K3) lc) rfl ⟨rfl, below_row (bb H0.2.2.2 B2) (by omega) _⟩
  · obtain rfl : ty = (!tx) := by revert h; cases tx <;> cases ty <;> simp
    refine region_steps (fun L a wx => ∃ (x0 x1 x2 x3 x4 x5 x6 x7 x8 x9 x10 x11 x12 x13 x14 x15 x16 x17 x18 x19 x20 x21 x22 x23 x24 x25 x26 x27 : Value), a = { tmps := #[x0, x1, x2, x3, x4, x5, x6, x7, x8, x9, x10, x11, x12, x13, x14, x15, x16, x17, x18, x19, x20, x21, x22, x23, x24, x25, x26, x27], defers := [] } ∧ x2 = .pointer (some ⟨w.heap.size, 0, none⟩) ∧ x3 = .pointer (some ⟨(w.heap.size + 1), 0, none⟩) ∧ x4 = .pointer (some ⟨(w.heap.size + 1 + 1), 0, none⟩) ∧ x5 = .bool false ∧ x6 = .pointer (some ⟨w1.heap.size, 0, none⟩) ∧ (L 0 = true → x14 = .agg (U (lim x))) ∧ (L 1 = true → x15 = .bool tx) ∧ (L 2 = true → x16 = .agg (U (lim y))) ∧ (L 3 = true → x17 = .bool (!tx)) ∧ (L 4 = true → x18 = .bool false) ∧ (L 5 = true → x19 = .bool false) ∧ (L 6 = true → x20 = undef) ∧ (L 7 = true → x21 = undef) ∧ (L 8 = true → x22 = undef) ∧ (L 9 = true → x23 = undef) ∧ (L 10 = true → x24 = undef) ∧ (L 11 = true → x25 = .bool false) ∧ Blk wx w.heap.size (U (lim x)) 79 ∧ Blk wx (w.heap.size + 1) (U (lim y)) 79 ∧ Blk wx w1.heap.size (U (lim (x + y))) 79 ∧ Blk wx (w.heap.size + 1 + 1) (U (zeros)) 79 ∧ Below w2.heap.size w2 wx) [0, 1, 2, 3, 4, 5, 6, 7, 8, 9, 10, 11] (by kernel_rfl) (by kernel_rfl) (by kernel_rfl) ?start ?steps ?fin
    case start =>
      exact ⟨_, _, _, _, _, _, _, _, _, _, _, _, _, _, _, _, _, _, _, _, _, _, _, _, _, _, _, _, rfl, (by first | rfl | simp only [*]), (by first | rfl | simp only [*]), (by first | rfl | simp only [*]), (by first | rfl | simp only [*]), (by first | rfl | simp only [*]), fun h => absurd h (by decide), fun h => absurd h (by decide), fun h => absurd h (by decide), fun h => absurd h (by decide), fun h => absurd h (by decide), fun h => absurd h (by decide), fun h => absurd h (by decide), fun h => absurd h (by decide), fun h => absurd h (by decide), fun h => absurd h (by decide), fun h => absurd h (by decide), fun h => absurd h (by decide), H0.1.drew, H0.2.1.drew, H0.2.2.1.drew, m2'.drew, (Below.refl _ _).drew⟩
    case steps =>
      refine Steps.cons rfl (fun L a wx K hK hL hp hI => ?_) ?_
      · refine ex_28 hI (fun x0 x1 x2 x3 x4 x5 x6 x7 x8 x9 x10 x11 x12 x13 x14 x15 x16 x17 x18 x19 x20 x21 x22 x23 x24 x25 x26 x27 hI => ?_)
        obtain ⟨rfl, P2, P3, P4, P5, P6, H0, H1, H2, H3, H4, H5, H6, H7, H8, H9, H10, H11, K0, K1, K2, K3, B2⟩ := hI
        clear hp
        subst P2
        refine wanted_ (by rfl) ?_
        refine wp_load_row 79 _ rfl w.heap.size rfl 79 (U (lim x)) (0, 0) _ K0 Tryd.underlying79 rfl (ofLen la) ?_
        (try simp only [Act.put, List.setIfInBounds_toArray, List.set_cons_zero, List.set_cons_succ])
        exact hK.out _ _ ⟨_, _, _, _, _, _, _, _, _, _, _, _, _, _, _, _, _, _, _, _, _, _, _, _, _, _, _, _, rfl, rfl, P3, P4, P5, P6, fun _ => rfl, H1, H2, H3, H4, H5, H6, H7, H8, H9, H10, H11, K0, K1, K2, K3, B2⟩
      refine Steps.cons rfl (fun L a wx K hK hL hp hI => ?_) ?_
      · refine ex_28 hI (fun x0 x1 x2 x3 x4 x5 x6 x7 x8 x9 x10 x11 x12 x13 x14 x15 x16 x17 x18 x19 x20 x21 x22 x23 x24 x25 x26 x27 hI => ?_)
        obtain ⟨rfl, P2, P3, P4, P5, P6, H0, H1, H2, H3, H4, H5, H6, H7, H8, H9, H10, H11, K0, K1, K2, K3, B2⟩ := hI
        have p0 : L 0 = true := hp ⟨0, .data⟩ (by simp) rfl
        have e0 := H0 p0
        clear hp
        subst e0
        refine wanted_ (by rfl) ?_
        refine goesK_ Tryd.func58 (by kernel_rfl) rfl #[.agg (U (lim x))] rfl (by simp [Act.eval]) ?_
        refine (Bx _).mono ?_
        rintro e w' ⟨rfl, g⟩
        refine ⟨_, rfl, ?_⟩
        (try simp only [Act.put, List.setIfInBounds_toArray, List.set_cons_zero, List.set_cons_succ])
        exact hK.out _ _ ⟨_, _, _, _, _, _, _, _, _, _, _, _, _, _, _, _, _, _, _, _, _, _, _, _, _, _, _, _, rfl, P2, P3, P4, P5, P6, fun _ => rfl, fun _ => rfl, H2, H3, H4, H5, H6, H7, H8, H9, H10, H11, (Blk.keep K0 g), (Blk.keep K1 g), (Blk.keep K2 g), (Blk.keep K3 g), bb B2 g⟩
      refine Steps.cons rfl (fun L a wx K hK hL hp hI => ?_) ?_
      · refine ex_28 hI (fun x0 x1 x2 x3 x4 x5 x6 x7 x8 x9 x10 x11 x12 x13 x14 x15 x16 x17 x18 x19 x20 x21 x22 x23 x24 x25 x26 x27 hI => ?_)
        obtain ⟨rfl, P2, P3, P4, P5, P6, H0, H1, H2, H3, H4, H5, H6, H7, H8, H9, H10, H11, K0, K1, K2, K3, B2⟩ := hI
        clear hp
        subst P3
        refine wanted_ (by rfl) ?_
        refine wp_load_row 79 _ rfl (w.heap.size + 1) rfl 79 (U (lim y)) (0, 0) _ K1 Tryd.underlying79 rfl (ofLen lb) ?_
        (try simp only [Act.put, List.setIfInBounds_toArray, List.set_cons_zero, List.set_cons_succ])
        exact hK.out _ _ ⟨_, _, _, _, _, _, _, _, _, _, _, _, _, _, _, _, _, _, _, _, _, _, _, _, _, _, _, _, rfl, P2, rfl, P4, P5, P6, H0, H1, fun _ => rfl, H3, H4, H5, H6, H7, H8, H9, H10, H11, K0, K1, K2, K3, B2⟩
      refine Steps.cons rfl (fun L a wx K hK hL hp hI => ?_) ?_
      · refine ex_28 hI (fun x0 x1 x2 x3 x4 x5 x6 x7 x8 x9 x10 x11 x12 x13 x14 x15 x16 x17 x18 x19 x20 x21 x22 x23 x24 x25 x26 x27 hI => ?_)
        obtain ⟨rfl, P2, P3, P4, P5, P6, H0, H1, H2, H3, H4, H5, H6, H7, H8, H9, H10, H11, K0, K1, K2, K3, B2⟩ := hI
        have p2 : L 2 = true := hp ⟨2, .data⟩ (by simp) rfl
        have e2 := H2 p2
        clear hp
        subst e2
        refine wanted_ (by rfl) ?_
        refine goesK_ Tryd.func58 (by kernel_rfl) rfl #[.agg (U (lim y))] rfl (by simp [Act.eval]) ?_
        refine (By _).mono ?_
        rintro e w' ⟨rfl, g⟩
        refine ⟨_, rfl, ?_⟩
        (try simp only [Act.put, List.setIfInBounds_toArray, List.set_cons_zero, List.set_cons_succ])
        exact hK.out _ _ ⟨_, _, _, _, _, _, _, _, _, _, _, _, _, _, _, _, _, _, _, _, _, _, _, _, _, _, _, _, rfl, P2, P3, P4, P5, P6, H0, H1, fun _ => rfl, fun _ => rfl, H4, H5, H6, H7, H8, H9, H10, H11, (Blk.keep K0 g), (Blk.keep K1 g), (Blk.keep K2 g), (Blk.keep K3 g), bb B2 g⟩
      refine Steps.cons rfl (fun L a wx K hK hL hp hI => ?_) ?_
      · refine ex_28 hI (fun x0 x1 x2 x3 x4 x5 x6 x7 x8 x9 x10 x11 x12 x13 x14 x15 x16 x17 x18 x19 x20 x21 x22 x23 x24 x25 x26 x27 hI => ?_)
        obtain ⟨rfl, P2, P3, P4, P5, P6, H0, H1, H2, H3, H4, H5, H6, H7, H8, H9, H10, H11, K0, K1, K2, K3, B2⟩ := hI
        have p1 : L 1 = true := hp ⟨1, .data⟩ (by simp) rfl
        have e1 := H1 p1
        have p3 : L 3 = true := hp ⟨3, .data⟩ (by simp) rfl
        have e3 := H3 p3
        clear hp
        subst e1 e3
        go_simp
        exact hK.out _ _ ⟨_, _, _, _, _, _, _, _, _, _, _, _, _, _, _, _, _, _, _, _, _, _, _, _, _, _, _, _, rfl, (by first | exact P2 | rfl), (by first | exact P3 | rfl), (by first | exact P4 | rfl), (by first | exact P5 | rfl), (by first | exact P6 | rfl), H0, fun _ => rfl, H2, fun _ => rfl, fun _ => (by first | rfl | simp), H5, H6, H7, H8, H9, H10, H11, K0, K1, K2, K3, B2⟩
      refine Steps.cons rfl (fun L a wx K hK hL hp hI => ?_) ?_
      · refine ex_28 hI (fun x0 x1 x2 x3 x4 x5 x6 x7 x8 x9 x10 x11 x12 x13 x14 x15 x16 x17 x18 x19 x20 x21 x22 x23 x24 x25 x26 x27 hI => ?_)
        obtain ⟨rfl, P2, P3, P4, P5, P6, H0, H1, H2, H3, H4, H5, H6, H7, H8, H9, H10, H11, K0, K1, K2, K3, B2⟩ := hI
        have p4 : L 4 = true := hp ⟨4, .data⟩ (by simp) rfl
        have e4 := H4 p4
        clear hp
        subst e4
        go_simp
        exact hK.out _ _ ⟨_, _, _, _, _, _, _, _, _, _, _, _, _, _, _, _, _, _, _, _, _, _, _, _, _, _, _, _, rfl, (by first | exact P2 | rfl), (by first | exact P3 | rfl), (by first | exact P4 | rfl), (by first | exact P5 | rfl), (by first | exact P6 | rfl), H0, H1, H2, H3, fun _ => rfl, fun _ => (by first | rfl | simp), H6, H7, H8, H9, H10, H11, K0, K1, K2, K3, B2⟩
      refine Steps.cons rfl (fun L a wx K hK hL hp hI => ?_) ?_
      · refine ex_28 hI (fun x0 x1 x2 x3 x4 x5 x6 x7 x8 x9 x10 x11 x12 x13 x14 x15 x16 x17 x18 x19 x20 x21 x22 x23 x24 x25 x26 x27 hI => ?_)
        obtain ⟨rfl, P2, P3, P4, P5, P6, H0, H1, H2, H3, H4, H5, H6, H7, H8, H9, H10, H11, K0, K1, K2, K3, B2⟩ := hI
        have p5 : L 5 = true := hp ⟨5, .guard⟩ (by simp) rfl
        have e5 := H5 p5
        clear hp
        subst e5 P6
        go_simp
        exact hK.out _ _ ⟨_, _, _, _, _, _, _, _, _, _, _, _, _, _, _, _, _, _, _, _, _, _, _, _, _, _, _, _, rfl, (by first | exact P2 | rfl), (by first | exact P3 | rfl), (by first | exact P4 | rfl), (by first | exact P5 | rfl), rfl, H0, H1, H2, H3, H4, fun _ => rfl, fun _ => rfl, H7, H8, H9, H10, H11, K0, K1, K2, K3, B2⟩
      refine Steps.cons rfl (fun L a wx K hK hL hp hI => ?_) ?_
      · refine ex_28 hI (fun x0 x1 x2 x3 x4 x5 x6 x7 x8 x9 x10 x11 x12 x13 x14 x15 x16 x17 x18 x19 x20 x21 x22 x23 x24 x25 x26 x27 hI => ?_)
        obtain ⟨rfl, P2, P3, P4, P5, P6, H0, H1, H2, H3, H4, H5, H6, H7, H8, H9, H10, H11, K0, K1, K2, K3, B2⟩ := hI
        have p6 : L 6 = true := hp ⟨6, .data⟩ (by simp) rfl
        have e6 := H6 p6
        have p5 : L 5 = true := hp ⟨5, .chain⟩ (by simp) rfl
        have e5 := H5 p5
        clear hp
        subst e6 e5
        go_simp
        exact hK.out _ _ ⟨_, _, _, _, _, _, _, _, _, _, _, _, _, _, _, _, _, _, _, _, _, _, _, _, _, _, _, _, rfl, (by first | exact P2 | rfl), (by first | exact P3 | rfl), (by first | exact P4 | rfl), (by first | exact P5 | rfl), (by first | exact P6 | rfl), H0, H1, H2, H3, H4, fun _ => rfl, fun _ => rfl, fun _ => rfl, H8, H9, H10, H11, K0, K1, K2, K3, B2⟩
      refine Steps.cons rfl (fun L a wx K hK hL hp hI => ?_) ?_
      · refine ex_28 hI (fun x0 x1 x2 x3 x4 x5 x6 x7 x8 x9 x10 x11 x12 x13 x14 x15 x16 x17 x18 x19 x20 x21 x22 x23 x24 x25 x26 x27 hI => ?_)
        obtain ⟨rfl, P2, P3, P4, P5, P6, H0, H1, H2, H3, H4, H5, H6, H7, H8, H9, H10, H11, K0, K1, K2, K3, B2⟩ := hI
        have p5 : L 5 = true := hp ⟨5, .guard⟩ (by simp) rfl
        have e5 := H5 p5
        clear hp
        subst e5 P2
        go_simp
        exact hK.out _ _ ⟨_, _, _, _, _, _, _, _, _, _, _, _, _, _, _, _, _, _, _, _, _, _, _, _, _, _, _, _, rfl, rfl, (by first | exact P3 | rfl), (by first | exact P4 | rfl), (by first | exact P5 | rfl), (by first | exact P6 | rfl), H0, H1, H2, H3, H4, fun _ => rfl, H6, H7, fun _ => rfl, H9, H10, H11, K0, K1, K2, K3, B2⟩
      refine Steps.cons rfl (fun L a wx K hK hL hp hI => ?_) ?_
      · refine ex_28 hI (fun x0 x1 x2 x3 x4 x5 x6 x7 x8 x9 x10 x11 x12 x13 x14 x15 x16 x17 x18 x19 x20 x21 x22 x23 x24 x25 x26 x27 hI => ?_)
        obtain ⟨rfl, P2, P3, P4, P5, P6, H0, H1, H2, H3, H4, H5, H6, H7, H8, H9, H10, H11, K0, K1, K2, K3, B2⟩ := hI
        have p8 : L 8 = true := hp ⟨8, .data⟩ (by simp) rfl
        have e8 := H8 p8
        have p5 : L 5 = true := hp ⟨5, .guard⟩ (by simp) rfl
        have e5 := H5 p5
        clear hp
        subst e8 e5
        go_simp
        exact hK.out _ _ ⟨_, _, _, _, _, _, _, _, _, _, _, _, _, _, _, _, _, _, _, _, _, _, _, _, _, _, _, _, rfl, (by first | exact P2 | rfl), (by first | exact P3 | rfl), (by first | exact P4 | rfl), (by first | exact P5 | rfl), (by first | exact P6 | rfl), H0, H1, H2, H3, H4, fun _ => rfl, H6, H7, fun _ => rfl, fun _ => rfl, H10, H11, K0, K1, K2, K3, B2⟩
      refine Steps.cons rfl (fun L a wx K hK hL hp hI => ?_) ?_
      · refine ex_28 hI (fun x0 x1 x2 x3 x4 x5 x6 x7 x8 x9 x10 x11 x12 x13 x14 x15 x16 x17 x18 x19 x20 x21 x22 x23 x24 x25 x26 x27 hI => ?_)
        obtain ⟨rfl, P2, P3, P4, P5, P6, H0, H1, H2, H3, H4, H5, H6, H7, H8, H9, H10, H11, K0, K1, K2, K3, B2⟩ := hI
        have p7 : L 7 = true := hp ⟨7, .data⟩ (by simp) rfl
        have e7 := H7 p7
        have p9 : L 9 = true := hp ⟨9, .data⟩ (by simp) rfl
        have e9 := H9 p9
        have p5 : L 5 = true := hp ⟨5, .guard⟩ (by simp) rfl
        have e5 := H5 p5
        clear hp
        subst e7 e9 e5
        go_simp
        exact hK.out _ _ ⟨_, _, _, _, _, _, _, _, _, _, _, _, _, _, _, _, _, _, _, _, _, _, _, _, _, _, _, _, rfl, (by first | exact P2 | rfl), (by first | exact P3 | rfl), (by first | exact P4 | rfl), (by first | exact P5 | rfl), (by first | exact P6 | rfl), H0, H1, H2, H3, H4, fun _ => rfl, H6, fun _ => rfl, H8, fun _ => rfl, fun _ => rfl, H11, K0, K1, K2, K3, B2⟩
      refine Steps.cons rfl (fun L a wx K hK hL hp hI => ?_) ?_
      · refine ex_28 hI (fun x0 x1 x2 x3 x4 x5 x6 x7 x8 x9 x10 x11 x12 x13 x14 x15 x16 x17 x18 x19 x20 x21 x22 x23 x24 x25 x26 x27 hI => ?_)
        obtain ⟨rfl, P2, P3, P4, P5, P6, H0, H1, H2, H3, H4, H5, H6, H7, H8, H9, H10, H11, K0, K1, K2, K3, B2⟩ := hI
        have p5 : L 5 = true := hp ⟨5, .data⟩ (by simp) rfl
        have e5 := H5 p5
        have p10 : L 10 = true := hp ⟨10, .data⟩ (by simp) rfl
        have e10 := H10 p10
        clear hp
        subst e5 e10
        go_simp
        exact hK.out _ _ ⟨_, _, _, _, _, _, _, _, _, _, _, _, _, _, _, _, _, _, _, _, _, _, _, _, _, _, _, _, rfl, (by first | exact P2 | rfl), (by first | exact P3 | rfl), (by first | exact P4 | rfl), (by first | exact P5 | rfl), (by first | exact P6 | rfl), H0, H1, H2, H3, H4, fun _ => rfl, H6, H7, H8, H9, fun _ => rfl, fun _ => (by first | rfl | simp), K0, K1, K2, K3, B2⟩
      exact Steps.nil
    case fin =>
      intro L a wx hall hI
      refine ex_28 hI (fun x0 x1 x2 x3 x4 x5 x6 x7 x8 x9 x10 x11 x12 x13 x14 x15 x16 x17 x18 x19 x20 x21 x22 x23 x24 x25 x26 x27 hI => ?_)
      obtain ⟨rfl, P2, P3, P4, P5, P6, H0, H1, H2, H3, H4, H5, H6, H7, H8, H9, H10, H11, K0, K1, K2, K3, B2⟩ := hI
      have E0 := H0 (hall 0 (by decide))
      have E1 := H1 (hall 1 (by decide))
      have E2 := H2 (hall 2 (by decide))
      have E3 := H3 (hall 3 (by decide))
      have E4 := H4 (hall 4 (by decide))
      have E5 := H5 (hall 5 (by decide))
      have E6 := H6 (hall 6 (by decide))
      have E7 := H7 (hall 7 (by decide))
      have E8 := H8 (hall 8 (by decide))
      have E9 := H9 (hall 9 (by decide))
      have E10 := H10 (hall 10 (by decide))
      have E11 := H11 (hall 11 (by decide))
      clear hall H0 H1 H2 H3 H4 H5 H6 H7 H8 H9 H10 H11
      subst E0 E1 E2 E3 E4 E5 E6 E7 E8 E9 E10 E11 P2 P3 P4 P5 P6
      obtain rfl : ok = true := by revert T; cases tx <;> simp
      have FN := Lib.hid fin
      clear fin T
      go_wp2_with (first | (refine ldW K2 lc _ rfl rfl rfl ?_) | (refine stW K3 zeros_len lc _ _ rfl rfl rfl rfl ?_))
      have fin := FN.out
      rw [fin.1 (by first | rfl | trivial)]
      exact bodyPost_ret (res2 Tryd.results42 _ rfl (put_ K3) lc) rfl ⟨rfl, below_row (bb H0.2.2.2 B2) (by omega) _⟩
end Go.Proofs.YtfcandmhalhaeaaDoor.YWide
