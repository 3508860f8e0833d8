/- Lean functions, contracts and lemmas that this claim needs. No condition. -/
import Derived.Test.YtfcandmhalhaeaaDoorAYBlk
import Derived.Test.YtfcandmhalhaeaaDoorAYInv
import Derived.Test.YtfcandmhalhaeaaDoorAYNum
import Derived.Test.YtfcandmhalhaeaaDoorAQSyx1
import Derived.Laws.Rows
import Derived.Laws.ResultCell
import Derived.Deep.QuietTactic
import Derived.BigQuiet
import Derived.Deep.RegionHeld3
import Derived.StillTailTactics
import Derived.BigRegion
import Derived.Outline
import Derived.IntWalk
import Derived.Lib.Hide
import Derived.Laws.BitsAllLaws
namespace Go.Proofs.YtfcandmhalhaeaaDoor.YWide
open Go.RowKit Go.Proofs.YtfcandmhalhaeaaDoor.YErr Go.Proofs.YtfcandmhalhaeaaDoor.YRef Go.Proofs.YtfcandmhalhaeaaDoor.YNum Go.Proofs.YtfcandmhalhaeaaDoor.XCarry Go.Proofs.YtfcandmhalhaeaaDoor.QSy Go.Proofs.YtfcandmhalhaeaaDoorW.PrintWords Go.Proofs.YtfcandmhalhaeaaDoorW.PrintLast
set_option linter.unusedVariables false
set_option linter.unusedSimpArgs false
/-- Limbs in memory. -/
def U (l : List Int) : Array Value := (l.map (Value.int .u64)).toArray
theorem U_size (l : List Int) : (U l).size = l.length := by simp [U]
theorem U_at {l : List Int} {i : Nat} (h : i < l.length) : (U l)[i]? = some (.int .u64 (dg l i)) := by simp [U, dg, h]
theorem U_set (l : List Int) (i : Nat) (x : Int) : (U l).setIfInBounds i (.int .u64 x) = U (l.set i x) := by
  unfold U
  rw [List.map_set]
  simp
theorem info_w : (Tryd.prog.info? 79).map (·.size) = some 16 := by kernel_rfl
section
variable {ops : Array Oper} {rest : List Oper} {o : Oper} {a : Act} {w : World} {Q : Exit → Act → World → Prop} {b : Nat} {l l0 : List Int}
theorem ofLen {l : List Int} (hl : l.length = 16) : (Tryd.prog.info? 79).map (·.size) = some (U l).size := by rw [U_size, hl]; exact info_w
theorem one_cell (l : List Int) : (U l).all (·.oneCell') = true := by
  rw [Array.all_eq_true_iff_forall_mem]
  intro v hv
  obtain ⟨x, _, rfl⟩ := List.mem_map.1 (by simpa [U] using hv)
  rfl
/-- A whole number is loaded. -/
theorem ldW (k : Blk w b (U l) 79) (hl : l.length = 16) (x : Operand) (hgd : o.guard = none) (ho : o.op = .load 79 x) (hx : a.eval x = .pointer (some ⟨b, 0, none⟩)) (h : wpList Tryd.prog ops Q rest (a.put o.dst (.agg (U l))) w) : wpList Tryd.prog ops Q (o :: rest) a w :=
  wpList_load_row hgd 79 x ho b hx 79 (U l) (0, 0) _ k Tryd.underlying79 rfl (ofLen hl) h
/-- A whole number is stored. -/
theorem stW (k : Blk w b (U l0) 79) (h0 : l0.length = 16) (hl : l.length = 16) (x y : Operand) (hgd : o.guard = none) (ho : o.op = .store 79 x y) (hx : a.eval x = .pointer (some ⟨b, 0, none⟩)) (hy : a.eval y = .agg (U l)) (h : wpList Tryd.prog ops Q rest (a.put o.dst undef) (w.setRow b (U l))) : wpList Tryd.prog ops Q (o :: rest) a w :=
  wpList_store_row hgd 79 x y ho b (U l) hx hy 79 (U l0) k (ofLen hl) (by rw [U_size, U_size, h0, hl]) (one_cell l) h
theorem put_ {T : TypeId} {c cs : Array Value} (k : Blk w b c T) : Blk (w.setRow b cs) b cs T := setRow_heap _ _ _ _ _ _ k
theorem far_ {T : TypeId} {g : Nat} {c cs : Array Value} (k : Blk w g c T) (h : g ≠ b) : Blk (w.setRow b cs) g c T := (setRow_other _ _ _ _ h).trans k
theorem below_row {W : World} (h : Below W.heap.size W w) (hb : W.heap.size ≤ b) (cs : Array Value) : Below W.heap.size W (w.setRow b cs) :=
  ⟨h.os, h.tape, h.output, by simp; exact h.size, fun k hk => (setRow_other _ _ _ _ (by omega)).trans (h.block k hk)⟩
theorem loadW (k : Blk w b (U l) 79) (hl : l.length = 16) : (loadVar 79 ⟨b, 0, none⟩).run Tryd.prog w = .ok (.agg (U l)) w :=
  run_loadVar_row w b 79 79 (U l) (0, 0) _ k Tryd.underlying79 rfl (ofLen hl)
theorem res1 {fn : Func} {p : Tmp} (h : fn.results = #[.cell p 79]) (tmps : Array Value) (hp : tmps.getD p undef = .pointer (some ⟨b, 0, none⟩)) (k : Blk w b (U l) 79) (hl : l.length = 16) : (results fn tmps).run Tryd.prog w = .ok (.agg (U l)) w :=
  results_cell_row h tmps w b 79 (U l) (0, 0) _ hp k Tryd.underlying79 rfl (ofLen hl)
theorem res2 {fn : Func} {p u : Tmp} (h : fn.results = #[.cell p 79, .tmp u]) (tmps : Array Value) (hp : tmps.getD p undef = .pointer (some ⟨b, 0, none⟩)) (k : Blk w b (U l) 79) (hl : l.length = 16) : (results fn tmps).run Tryd.prog w = .ok (.tuple #[.agg (U l), tmps.getD u undef]) w := by
  rw [results_cell_tmp h, hp]
  simp only [asAddr, Sem.run_pure, Result.andThen_ok, loadW k hl]
end
def zeros : List Int := List.replicate 16 0
theorem zeros_len : zeros.length = 16 := rfl
theorem zeros_dig : Dig zeros := dig_zeros 16
theorem zeros_lim : zeros = lim 0 := by decide
theorem below_t (x : Int) (w : World) : Calls Tryd.prog 58 #[.agg (U (lim x))] w fun e w' => e = .returned (.bool (top (lim x))) ∧ Below w.heap.size w w' := by
  have k := Blk.new w (U (lim x)) 79
  have c15 : (w.alloc (.cells (U (lim x)) 79)).cell? ⟨w.heap.size, 15, none⟩ = some (.int .u64 (dg (lim x) 15)) := by rw [k.cell, U_at (by rw [lim_len]; decide)]
  have d := dg_in (lim_dig x) 15
  have e : (dg (lim x) 15 / 9223372036854775808 == 1) = top (lim x) := by
    unfold top
    by_cases hc : 9223372036854775808 ≤ dg (lim x) 15
    · rw [decide_eq_true hc, beq_iff_eq]; omega
    · rw [decide_eq_false hc, beq_eq_false_iff_ne]; omega
  have E := Lib.hid e
  clear k d e
  generalize hl : lim x = l at *
  go_enter Tryd.func58, Tryd.ntmps58
  go_wp2
  go_ret
  exact ⟨by rw [← E.out]; rfl, (Below.refl _ _).alloc (Nat.le_refl _) _⟩
theorem below_c {x : Int} (h : InW x) (w : World) : Calls Tryd.prog 58 #[.agg (U (lim x))] w fun e w' => e = .returned (.bool (decide (x < 0))) ∧ Below w.heap.size w w' := by
  have := below_t x w
  rwa [top_lim h] at this
/-- What goes over. -/
def car (x y c : Int) : Int := (x % 18446744073709551616 ^ 16 + y % 18446744073709551616 ^ 16 + c) / 18446744073709551616 ^ 16
set_option maxHeartbeats 4000000 in
theorem plus_c (x y c : Int) (c0 : 0 ≤ c) (c1 : c ≤ 1) (w : World) : Calls Tryd.prog 57 #[.agg (U (lim x)), .agg (U (lim y)), .int .u64 c] w fun e w' => e = .returned (.tuple #[.agg (U (lim (x + y + c))), .int .u64 (car x y c)]) ∧ Below w.heap.size w w' := by
  have la := lim_len x
  have lb := lim_len y
  have da := lim_dig x
  have db := lim_dig y
  have fin : ∀ o : List Int, ∀ q : Int, o.length = 16 → Dig o → pv o 16 + q * 18446744073709551616 ^ 16 = pv (lim x) 16 + pv (lim y) 16 + c → o = lim (x + y + c) ∧ q = car x y c := by
    intro o q h1 h2 h3
    have e : val o = pv o 16 := by unfold val; rw [h1]
    have hv := val_lt16 h1 h2
    rw [e] at hv
    rw [pv_lim x 16 (Nat.le_refl _), pv_lim y 16 (Nat.le_refl _)] at h3
    refine ⟨lim_eq h1 h2 (by rw [e]; omega), ?_⟩
    unfold car
    omega
  generalize lim x = a at *
  generalize lim y = b at *
  go_enter Tryd.func57, Tryd.ntmps57
  go_wp2
  have fz : Blk ((((w.alloc (.cells (U a) 79)).alloc (.cells (U b) 79)).alloc (.cells (U zeros) 79)).alloc (.cells (U zeros) 79)) w.heap.size (U a) 79 := (((Blk.new _ _ _).alloc _).alloc _).alloc _
  have fb : Blk ((((w.alloc (.cells (U a) 79)).alloc (.cells (U b) 79)).alloc (.cells (U zeros) 79)).alloc (.cells (U zeros) 79)) (w.heap.size + 1) (U b) 79 := by
    have := ((Blk.new (w.alloc (.cells (U a) 79)) (U b) 79).alloc (.cells (U zeros) 79)).alloc (.cells (U zeros) 79)
    simpa using this
  have fc : Blk ((((w.alloc (.cells (U a) 79)).alloc (.cells (U b) 79)).alloc (.cells (U zeros) 79)).alloc (.cells (U zeros) 79)) (w.heap.size + 1 + 1) (U zeros) 79 := by
    have := (Blk.new ((w.alloc (.cells (U a) 79)).alloc (.cells (U b) 79)) (U zeros) 79).alloc (.cells (U zeros) 79)
    simpa using this
  have fd : Blk ((((w.alloc (.cells (U a) 79)).alloc (.cells (U b) 79)).alloc (.cells (U zeros) 79)).alloc (.cells (U zeros) 79)) (w.heap.size + 1 + 1 + 1) (U zeros) 79 := by
    have := (Blk.new (((w.alloc (.cells (U a) 79)).alloc (.cells (U b) 79)).alloc (.cells (U zeros) 79)) (U zeros) 79)
    simpa using this
  go_loopw [2, 10] (fun s2 s10 wx => ∃ (k : Nat) (o : List Int) (q : Int), k ≤ 16 ∧ s10 = .int .i64 k ∧ s2 = .int .u64 q ∧ o.length = 16 ∧ Dig o ∧ 0 ≤ q ∧ q ≤ 1 ∧ pv o k + q * 18446744073709551616 ^ k = pv a k + pv b k + c ∧
    Blk wx w.heap.size (U a) 79 ∧ Blk wx (w.heap.size + 1) (U b) 79 ∧ Blk wx (w.heap.size + 1 + 1) (U zeros) 79 ∧ Blk wx (w.heap.size + 1 + 1 + 1) (U o) 79 ∧ Below w.heap.size w wx) (fun _ s10 _ => 16 - (intOf s10).toNat)
  case atStart => exact ⟨0, zeros, c, by omega, rfl, rfl, zeros_len, zeros_dig, c0, c1, by simp [pv], fz, fb, fc, fd, ((((Below.refl _ _).alloc (Nat.le_refl _) _).alloc (by simp) _).alloc (by simp; omega) _).alloc (by simp; omega) _⟩
  case round =>
    clear fz fb fc fd
    obtain ⟨k, o, q, hk, rfl, rfl, ho, hd, q0, q1, hv, kA, kB, kZ, kO, hb⟩ := hrel
    by_cases hlt : k < 16
    · have A := dg_in da k
      have B := dg_in db k
      have cA : wr.cell? ⟨w.heap.size, k, none⟩ = some (.int .u64 (dg a k)) := by rw [kA.cell, U_at (by omega)]
      have cB : wr.cell? ⟨w.heap.size + 1, k, none⟩ = some (.int .u64 (dg b k)) := by rw [kB.cell, U_at (by omega)]
      have cO : wr.cell? ⟨w.heap.size + 1 + 1 + 1, k, none⟩ = some (.int .u64 (dg o k)) := by rw [kO.cell, U_at (by omega)]
      have fO := kO.free k
      have AD := fun W => bits_Add64.run (dg a k) (dg b k) q _ _ (add64f A.1 B.1 B.2 q0 q1) W
      have S := sum_step (k := k) hv (rfl : dg a k + dg b k + q = _)
      have kO2 := (kO.set k (.int .u64 ((dg a k + dg b k + q) % 18446744073709551616)))
      rw [U_set] at kO2
      have S' : pv (o.set k ((dg a k + dg b k + q) % 18446744073709551616)) (k + 1) + (dg a k + dg b k + q) / 18446744073709551616 * 18446744073709551616 ^ (k + 1) = pv a (k + 1) + pv b (k + 1) + c := by
        rw [pv, pv_set_le _ _ _ _ (Nat.le_refl k), dg_set, if_pos ⟨rfl, by omega⟩, pv, pv, S, Int.add_mul]
        omega
      have HS := Lib.hid S'
      have j0 : (0 : Int) ≤ (k : Int) := by omega
      have j1 : (k : Int) < 16 := by omega
      clear hv S S'
      go_wp2
      go_region
      go_wp2
      go_roundw
      case rel => exact ⟨k + 1, _, _, by omega, by go_num, rfl, by rw [List.length_set]; exact ho, dig_set hd k (by omega) (by omega), by omega, by omega, HS.out, Blk.drew (kA.setOther (by simp; omega) _), Blk.drew (kB.setOther (by simp; omega) _), Blk.drew (kZ.setOther (by simp) _), Blk.drew kO2, below_drewN ((hb.setCell (by simp; omega) _)) 1⟩
      case measure => simp [intOf]; omega
    · have hk16 : k = 16 := by omega
      subst hk16
      obtain ⟨e, e'⟩ := fin o q ho hd hv
      subst e e'
      clear hv hlt fin
      go_wp2_with (first | (refine ldW kO ho _ rfl rfl rfl ?_) | (refine stW kZ zeros_len ho _ _ rfl rfl rfl rfl ?_))
      exact bodyPost_ret (res2 Tryd.results57 _ rfl (put_ kZ) ho) rfl ⟨rfl, below_row hb (by omega) _⟩
/-- An array's limb, by value. -/
theorem run_limb (l : List Int) (hl : l.length = 16) (k : Nat) (hk : k < 16) (w : World) : (Instr.index 79 (.agg (U l)) (.int .i64 (k : Int))).run Tryd.prog w = .ok (.int .u64 (dg l k)) w := by
  have e : (U l)[k]? = some (.int .u64 (dg l k)) := U_at (by omega)
  have hs : (U l).size = 16 := by rw [U_size, hl]
  have hz : ∀ w, (Go.sizeOf 77).run Tryd.prog w = .ok 1 w := fun w => by kernel_rfl
  have ha : ∀ w, (isAgg 77).run Tryd.prog w = .ok false w := fun w => by kernel_rfl
  simp [Instr.index, run_underlying Tryd.underlying79, asIntOf, hz, ha, part, hk, e, go_sem]
theorem not64 {x : Int} (h0 : 0 ≤ x) (h1 : x < 18446744073709551616) : Go.bits .xor .u64 (if IntKind.u64.signed = true then -1 else IntKind.u64.max) x = 18446744073709551615 - x := by
  obtain ⟨a, rfl⟩ := Int.eq_ofNat_of_zero_le h0
  have e1 : (if IntKind.u64.signed = true then (-1 : Int) else IntKind.u64.max) = ((18446744073709551615 : Nat) : Int) := by decide
  rw [e1]
  show IntKind.u64.wrap ((BitVec.ofInt 64 ((18446744073709551615 : Nat) : Int) ^^^ BitVec.ofInt 64 (a : Int)).toNat : Int) = _
  have h1' : BitVec.ofInt 64 ((18446744073709551615 : Nat) : Int) = BitVec.allOnes 64 := by decide
  have h2 : (BitVec.ofInt 64 (a : Int)).toNat = a := by rw [BitVec.toNat_ofInt]; omega
  rw [h1', BitVec.allOnes_xor, BitVec.toNat_not, h2, YBits.u64w]
  omega
/-- Other bits, as far as k. -/
def invk (l : List Int) (k : Nat) : List Int := (l.take k).map (fun x => 18446744073709551615 - x) ++ l.drop k
theorem invk_len (l : List Int) (k : Nat) : (invk l k).length = l.length := by unfold invk; simp; omega
theorem invk_set {l : List Int} {k : Nat} (h : k < l.length) : (invk l k).set k (18446744073709551615 - dg l k) = invk l (k + 1) := by
  unfold invk dg
  apply List.ext_getElem?
  intro i
  simp only [List.getElem?_set, List.getElem?_append, List.length_map, List.length_take, List.length_append, List.length_drop, List.getElem?_map, List.getElem?_take, List.getElem?_drop]
  have m1 : min k l.length = k := by omega
  have m2 : min (k + 1) l.length = k + 1 := by omega
  rw [m1, m2]
  by_cases h1 : k = i
  · subst h1
    have : k < k + (l.length - k) := by omega
    simp [h, this]
  · by_cases h2 : i < k
    · have h3 : i < k + 1 := by omega
      simp [h1, h2, h3]
    · have h3 : ¬ i < k + 1 := by omega
      have e1 : k + (i - k) = i := by omega
      have e2 : k + 1 + (i - (k + 1)) = i := by omega
      simp [h1, h2, h3, e1, e2]
theorem invk_0 (l : List Int) : invk l 0 = l := by simp [invk]
theorem invk_16 {l : List Int} (h : l.length = 16) : invk l 16 = l.map (fun x => 18446744073709551615 - x) := by
  unfold invk; rw [List.take_of_length_le (by omega), List.drop_of_length_le (by omega), List.append_nil]
set_option maxHeartbeats 4000000 in
theorem inverse_c (x : Int) (w : World) : Calls Tryd.prog 88 #[.agg (U (lim x))] w fun e w' => e = .returned (.agg (U (lim (-1 - x)))) ∧ Below w.heap.size w w' := by
  have la := lim_len x
  have da := lim_dig x
  have fin : invk (lim x) 16 = lim (-1 - x) := by rw [invk_16 la, inv_lim]
  have lfin := lim_len (-1 - x)
  generalize lim (-1 - x) = r at *
  generalize lim x = a at *
  have k1 := (Blk.new w (U a) 79).alloc (.cells (U zeros) 79)
  have k2 : Blk ((w.alloc (.cells (U a) 79)).alloc (.cells (U zeros) 79)) (w.heap.size + 1) (U zeros) 79 := by
    have := Blk.new (w.alloc (.cells (U a) 79)) (U zeros) 79
    simpa using this
  go_enter Tryd.func88, Tryd.ntmps88
  go_wp2_with (refine ldW k1 la _ rfl rfl rfl ?_)
  go_loopw [6] (fun s6 wx => ∃ k : Nat, k ≤ 16 ∧ s6 = .int .i64 k ∧ Blk wx w.heap.size (U (invk a k)) 79 ∧ Blk wx (w.heap.size + 1) (U zeros) 79 ∧ Below w.heap.size w wx) (fun s6 _ => 16 - (intOf s6).toNat)
  case atStart => exact ⟨0, by omega, rfl, by rw [invk_0]; exact k1, k2, ((Below.refl _ _).alloc (Nat.le_refl _) _).alloc (by simp) _⟩
  case round =>
    clear k1 k2
    obtain ⟨k, hk, rfl, kA, kZ, hb⟩ := hrel
    by_cases hlt : k < 16
    · have A := dg_in da k
      have il := invk_len a k
      have cA : wr.cell? ⟨w.heap.size, k, none⟩ = some (.int .u64 (dg (invk a k) k)) := by rw [kA.cell, U_at (by omega)]
      have fA := kA.free k
      have RL := run_limb a la k hlt
      have NT := not64 A.1 A.2
      have kA2 := kA.set k (.int .u64 (18446744073709551615 - dg a k))
      rw [U_set, invk_set (by omega)] at kA2
      have j0 : (0 : Int) ≤ (k : Int) := by omega
      have j1 : (k : Int) < 16 := by omega
      clear il fin
      go_wp2
      go_roundw
      case rel => exact ⟨k + 1, by omega, by go_num, kA2, kZ.setOther (by simp) _, hb.setCell (by simp) _⟩
      case measure => simp [intOf]; omega
    · have hk16 : k = 16 := by omega
      subst hk16
      rw [fin] at kA
      clear hlt fin
      go_wp2_with (first | (refine ldW kA lfin _ rfl rfl rfl ?_) | (refine stW kZ zeros_len lfin _ _ rfl rfl rfl rfl ?_))
      exact bodyPost_ret (res1 Tryd.results88 _ rfl (put_ kZ) lfin) rfl ⟨rfl, below_row hb (by omega) _⟩
theorem plus_0 (y : Int) (w : World) : Calls Tryd.prog 57 #[.agg #[.int .u64 0, .int .u64 0, .int .u64 0, .int .u64 0, .int .u64 0, .int .u64 0, .int .u64 0, .int .u64 0, .int .u64 0, .int .u64 0, .int .u64 0, .int .u64 0, .int .u64 0, .int .u64 0, .int .u64 0, .int .u64 0], .agg (U (lim y)), .int .u64 1] w fun e w' => e = .returned (.tuple #[.agg (U (lim (y + 1))), .int .u64 (car 0 y 1)]) ∧ Below w.heap.size w w' := by
  have := plus_c 0 y 1 (by omega) (by omega) w
  rw [show 0 + y + 1 = y + 1 by omega, ← zeros_lim] at this
  exact this
set_option maxHeartbeats 4000000 in
theorem neg_c (x : Int) (w : World) : Calls Tryd.prog 84 #[.agg (U (lim x))] w fun e w' => e = .returned (.agg (U (lim (-x)))) ∧ Below w.heap.size w w' := by
  have la := lim_len x
  have lr := lim_len (-x)
  have k1 := (Blk.new w (U (lim x)) 79).alloc (.cells (U zeros) 79)
  have k2 : Blk ((w.alloc (.cells (U (lim x)) 79)).alloc (.cells (U zeros) 79)) (w.heap.size + 1) (U zeros) 79 := by
    have := Blk.new (w.alloc (.cells (U (lim x)) 79)) (U zeros) 79
    simpa using this
  have b0 : Below w.heap.size w ((w.alloc (.cells (U (lim x)) 79)).alloc (.cells (U zeros) 79)) := ((Below.refl _ _).alloc (Nat.le_refl _) _).alloc (by simp) _
  have P := fun W => plus_0 (-1 - x) W
  rw [show -1 - x + 1 = -x by omega] at P
  go_enter Tryd.func84, Tryd.ntmps84
  go_wp2_with (refine ldW k1 la _ rfl rfl rfl ?_)
  refine (inverse_c x _).mono ?_; rintro e w1 ⟨rfl, b1⟩
  have k3 := k2.keep b1
  have b1' := b0.trans (b1.mono b0.size)
  go_wp2_with fail
  refine (P _).mono ?_; rintro e w2 ⟨rfl, b2⟩
  have k4 := k3.keep b2
  have b2' := b1'.trans (b2.mono b1'.size)
  have k5 := Blk.new w2 (U zeros) 79
  have k6 := k4.alloc (.cells (U zeros) 79)
  have ne := k4.lt
  have z2 := b2'.size
  go_wp2_with (first | (refine stW k5 zeros_len lr _ _ rfl rfl rfl rfl ?_) | (refine ldW (put_ k5) lr _ rfl rfl rfl ?_) | (refine stW (far_ k6 (Nat.ne_of_lt ne)) zeros_len lr _ _ rfl rfl rfl rfl ?_))
  exact bodyPost_ret (res1 Tryd.results84 _ rfl (put_ (far_ k6 (Nat.ne_of_lt ne))) lr) rfl ⟨rfl, below_row (below_row (b2'.alloc z2 _) (by omega) _) (by omega) _⟩
end Go.Proofs.YtfcandmhalhaeaaDoor.YWide
