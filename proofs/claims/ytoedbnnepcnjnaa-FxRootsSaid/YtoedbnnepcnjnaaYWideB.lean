/- Numbers of sixteen limbs in memory; how many bits. No condition. -/
import Derived.Test.YtoedbnnepcnjnaaYBlk
import Derived.Test.YtoedbnnepcnjnaaYInv
import Derived.Test.YtoedbnnepcnjnaaYNum
import Derived.Test.YtoedbnnepcnjnaaQFqx3
import Derived.Laws.Rows
import Derived.Laws.ResultCell
import Derived.Deep.QuietTactic
import Derived.BigQuiet
import Derived.Deep.RegionHeld3
import Derived.StillTailTactics
import Derived.BigRegion
import Derived.Outline
import Derived.IntWalk
import Derived.Lib.Hide
import Derived.Laws.BitsAllLaws
namespace Go.Proofs.Ytoedbnnepcnjnaa.YWide
open Go.RowKit Go.Proofs.Ytoedbnnepcnjnaa.YInv Go.Proofs.Ytoedbnnepcnjnaa.YBits Go.Proofs.Ytoedbnnepcnjnaa.YErr Go.Proofs.Ytoedbnnepcnjnaa.YRef Go.Proofs.Ytoedbnnepcnjnaa.YNum Go.Proofs.Ytoedbnnepcnjnaa.XCarry Go.Proofs.Ytoedbnnepcnjnaa.QFq Go.Proofs.YtoedbnnepcnjnaaW.PrintWords Go.Proofs.YtoedbnnepcnjnaaW.PrintLast
set_option linter.unusedVariables false
set_option linter.unusedSimpArgs false

/-- Limbs in memory. -/
def U (l : List Int) : Array Value := (l.map (Value.int .u64)).toArray
theorem U_size (l : List Int) : (U l).size = l.length := by simp [U]
theorem U_at {l : List Int} {i : Nat} (h : i < l.length) : (U l)[i]? = some (.int .u64 (dg l i)) := by simp [U, dg, h]
theorem U_set (l : List Int) (i : Nat) (x : Int) : (U l).setIfInBounds i (.int .u64 x) = U (l.set i x) := by
  unfold U
  rw [List.map_set]
  simp
theorem info_w : (Try.prog.info? 50).map (·.size) = some 16 := by kernel_rfl
theorem sz_lim (x : Int) : (Try.prog.info? 50).map (·.size) = some (U (lim x)).size := by rw [U_size, lim_len]; exact info_w
section
variable {ops : Array Oper} {rest : List Oper} {o : Oper} {a : Act} {w : World} {Q : Exit → Act → World → Prop} {b : Nat} {l l0 : List Int}
theorem ofLen {l : List Int} (hl : l.length = 16) : (Try.prog.info? 50).map (·.size) = some (U l).size := by rw [U_size, hl]; exact info_w
theorem one_cell (l : List Int) : (U l).all (·.oneCell') = true := by
  rw [Array.all_eq_true_iff_forall_mem]
  intro v hv
  obtain ⟨x, _, rfl⟩ := List.mem_map.1 (by simpa [U] using hv)
  rfl
/-- A whole number is loaded. -/
theorem ldW (k : Blk w b (U l) 50) (hl : l.length = 16) (x : Operand) (hgd : o.guard = none) (ho : o.op = .load 50 x) (hx : a.eval x = .pointer (some ⟨b, 0, none⟩)) (h : wpList Try.prog ops Q rest (a.put o.dst (.agg (U l))) w) : wpList Try.prog ops Q (o :: rest) a w :=
  wpList_load_row hgd 50 x ho b hx 50 (U l) (0, 0) _ k Try.underlying50 rfl (ofLen hl) h
/-- A whole number is stored. -/
theorem stW (k : Blk w b (U l0) 50) (h0 : l0.length = 16) (hl : l.length = 16) (x y : Operand) (hgd : o.guard = none) (ho : o.op = .store 50 x y) (hx : a.eval x = .pointer (some ⟨b, 0, none⟩)) (hy : a.eval y = .agg (U l)) (h : wpList Try.prog ops Q rest (a.put o.dst undef) (w.setRow b (U l))) : wpList Try.prog ops Q (o :: rest) a w :=
  wpList_store_row hgd 50 x y ho b (U l) hx hy 50 (U l0) k (ofLen hl) (by rw [U_size, U_size, h0, hl]) (one_cell l) h
theorem put_ {T : TypeId} {c cs : Array Value} (k : Blk w b c T) : Blk (w.setRow b cs) b cs T := setRow_heap _ _ _ _ _ _ k
theorem far_ {T : TypeId} {g : Nat} {c cs : Array Value} (k : Blk w g c T) (h : g ≠ b) : Blk (w.setRow b cs) g c T := (setRow_other _ _ _ _ h).trans k
theorem below_row {W : World} (h : Below W.heap.size W w) (hb : W.heap.size ≤ b) (cs : Array Value) : Below W.heap.size W (w.setRow b cs) :=
  ⟨h.os, h.tape, h.output, by simp; exact h.size, fun k hk => (setRow_other _ _ _ _ (by omega)).trans (h.block k hk)⟩
theorem loadW (k : Blk w b (U l) 50) (hl : l.length = 16) : (loadVar 50 ⟨b, 0, none⟩).run Try.prog w = .ok (.agg (U l)) w :=
  run_loadVar_row w b 50 50 (U l) (0, 0) _ k Try.underlying50 rfl (ofLen hl)
theorem res1 {fn : Func} {p : Tmp} (h : fn.results = #[.cell p 50]) (tmps : Array Value) (hp : tmps.getD p undef = .pointer (some ⟨b, 0, none⟩)) (k : Blk w b (U l) 50) (hl : l.length = 16) : (results fn tmps).run Try.prog w = .ok (.agg (U l)) w :=
  results_cell_row h tmps w b 50 (U l) (0, 0) _ hp k Try.underlying50 rfl (ofLen hl)
theorem res2 {fn : Func} {p u : Tmp} (h : fn.results = #[.cell p 50, .tmp u]) (tmps : Array Value) (hp : tmps.getD p undef = .pointer (some ⟨b, 0, none⟩)) (k : Blk w b (U l) 50) (hl : l.length = 16) : (results fn tmps).run Try.prog w = .ok (.tuple #[.agg (U l), tmps.getD u undef]) w := by
  rw [results_cell_tmp h, hp]
  simp only [asAddr, Sem.run_pure, Result.andThen_ok, loadW k hl]
end
def zeros : List Int := List.replicate 16 0
theorem zeros_len : zeros.length = 16 := rfl
theorem zeros_dig : Dig zeros := dig_zeros 16
theorem zeros_lim : zeros = lim 0 := by decide
theorem not64 {x : Int} (h0 : 0 ≤ x) (h1 : x < 18446744073709551616) : Go.bits .xor .u64 (if IntKind.u64.signed = true then -1 else IntKind.u64.max) x = 18446744073709551615 - x := by
  obtain ⟨a, rfl⟩ := Int.eq_ofNat_of_zero_le h0
  have e1 : (if IntKind.u64.signed = true then (-1 : Int) else IntKind.u64.max) = ((18446744073709551615 : Nat) : Int) := by decide
  rw [e1]
  show IntKind.u64.wrap ((BitVec.ofInt 64 ((18446744073709551615 : Nat) : Int) ^^^ BitVec.ofInt 64 (a : Int)).toNat : Int) = _
  have h1' : BitVec.ofInt 64 ((18446744073709551615 : Nat) : Int) = BitVec.allOnes 64 := by decide
  have h2 : (BitVec.ofInt 64 (a : Int)).toNat = a := by rw [BitVec.toNat_ofInt]; omega
  rw [h1', BitVec.allOnes_xor, BitVec.toNat_not, h2, YBits.u64w]
  omega
theorem bb {W w w' : World} (h : Below W.heap.size W w) (g : Below w.heap.size w w') : Below W.heap.size W w' := h.trans (g.mono h.size)
theorem bbd {W w w' : World} {n : Nat} (h : Below W.heap.size W w) (g : Below (w.drewN n).heap.size (w.drewN n) w') : Below W.heap.size W w' := h.trans ((show Below w.heap.size w w' from ⟨g.os, g.tape, g.output, g.size, g.block⟩).mono h.size)
theorem val_nones : ∀ n, val (List.replicate n (0 : Int)) = 0 := by
  intro n
  induction n with
  | zero => simp [val, pv]
  | succ n ih => rw [List.replicate_succ, val_cons, ih]; omega
theorem kdC {w : World} {b : Nat} {l : List Int} {T : TypeId} (k : Blk w b (U l) T) (n : Nat) (hn : n ≤ l.length) (hm : l.length ≤ 9223372036854775807) : Kd.C (Kd.int .u64) w (some ⟨b, 0, none⟩) (l.take n).length (l.take n) := by
  refine ⟨rfl, by rw [List.length_take]; omega, fun _ => ⟨⟨b, 0, none⟩, rfl, fun j p hj => ⟨[.int .u64 p], rfl, rfl, fun i u hu => ?_⟩⟩⟩
  rcases i with _ | i
  · have hu : Value.int .u64 p = u := by simpa using hu
    subst hu
    have e : (⟨b, 0, none⟩ : Addr).add (j * 1 + 0) = ⟨b, j, none⟩ := by unfold Addr.add; split <;> simp_all
    show w.cell? ((⟨b, 0, none⟩ : Addr).add (j * 1 + 0)) = _
    rw [e, k.cell]
    have hj' : l[j]? = some p := by
      rw [List.getElem?_take] at hj
      split at hj
      · exact hj
      · cases hj
    unfold U
    simp [hj']
  · simp at hu
/-- So many bits. -/
def BitsIs (n : Int) (t : Nat) : Prop := 0 ≤ n ∧ n < 2 ^ t ∧ (0 < t → 2 ^ (t - 1) ≤ n)
theorem bits_one {n : Int} {s t : Nat} (hs : BitsIs n s) (ht : BitsIs n t) : s = t := by
  have key : ∀ {s t : Nat}, BitsIs n s → BitsIs n t → ¬ s < t := by
    intro s t hs ht h
    have h1 := ht.2.2 (by omega)
    have h2 : (2 : Int) ^ s ≤ 2 ^ (t - 1) := by
      obtain ⟨d, hd⟩ := Nat.exists_eq_add_of_le (show s ≤ t - 1 by omega)
      rw [hd, Int.pow_add]
      have p : (1 : Int) ≤ 2 ^ d := by have : (0 : Int) < 2 ^ d := Int.pow_pos (by decide); omega
      have q : (0 : Int) ≤ 2 ^ s := Int.le_of_lt (Int.pow_pos (by decide))
      have := Int.mul_le_mul_of_nonneg_left p q
      omega
    have := hs.2.1
    omega
  have a := key hs ht
  have b := key ht hs
  omega
theorem pw_two (k : Nat) : (18446744073709551616 : Int) ^ k = 2 ^ (64 * k) := by rw [Int.pow_mul]; rfl
theorem bits_limbs {n : Int} {L : Nat} (hn : 0 < n) (l0 : 0 < L) (hi : dg (limbs n) ((limbs n).length - 1) < 2 ^ L) (lo : 2 ^ (L - 1) ≤ dg (limbs n) ((limbs n).length - 1)) : BitsIs n (64 * ((limbs n).length - 1) + L) := by
  have hp : 0 < (limbs n).length := limbs_len_pos.2 hn
  obtain ⟨k, hk⟩ : ∃ k, (limbs n).length = k + 1 := ⟨(limbs n).length - 1, by omega⟩
  have e := val_limbs (Int.le_of_lt hn)
  unfold val at e
  rw [hk, pv] at e
  rw [hk, Nat.add_sub_cancel] at hi lo ⊢
  have h1 := pv_nonneg (limbs_dig n) k
  have h2 := pv_lt (limbs_dig n) k
  rw [pw_two] at e h2
  generalize dg (limbs n) k = d at *
  generalize pv (limbs n) k = p at *
  have P : (0 : Int) < 2 ^ (64 * k) := Int.pow_pos (by decide)
  refine ⟨by omega, ?_, fun _ => ?_⟩
  · rw [Int.pow_add, Int.mul_comm]
    have := Int.mul_le_mul_of_nonneg_right (show d + 1 ≤ 2 ^ L by omega) (Int.le_of_lt P)
    rw [Int.add_mul] at this
    omega
  · rw [show 64 * k + L - 1 = 64 * k + (L - 1) by omega, Int.pow_add, Int.mul_comm]
    have := Int.mul_le_mul_of_nonneg_right lo (Int.le_of_lt P)
    omega
theorem bits_zero : BitsIs 0 0 := ⟨by omega, by decide, fun h => by omega⟩
theorem limbs_lt16 {x : Int} (h1 : x < 18446744073709551616 ^ 16) : (limbs x).length ≤ 16 := limbs_len 16 h1
theorem dg_lim_limbs {x : Int} {k : Nat} (h0 : 0 ≤ x) (h1 : x < 18446744073709551616 ^ 16) : dg (lim x) k = dg (limbs x) k := by
  have e : lim x = limbs x ++ List.replicate (16 - (limbs x).length) 0 := by
    symm
    refine lim_eq (by have := limbs_lt16 h1; simp; omega) (fun y hy => ?_) ?_
    · rcases List.mem_append.1 hy with h | h
      · exact limbs_dig x y h
      · rw [List.eq_of_mem_replicate h]; omega
    · have : ∀ (l : List Int) (n : Nat), val (l ++ List.replicate n 0) = val l := by
        intro l n
        induction l with
        | nil => simpa [val, pv] using val_nones n
        | cons y l ih => rw [List.cons_append, val_cons, val_cons, ih]
      rw [this, val_limbs h0]
  rw [e]
  unfold dg
  rw [List.getD_eq_getElem?_getD, List.getD_eq_getElem?_getD]
  by_cases h : k < (limbs x).length
  · rw [List.getElem?_append_left h]
  · rw [List.getElem?_append_right (by omega), List.getElem?_eq_none (show (limbs x).length ≤ k by omega), List.getElem?_replicate]
    split <;> rfl
end Go.Proofs.Ytoedbnnepcnjnaa.YWide
