/- The law functions' chain of layer 4: the error of some ops. No condition. -/
import Derived.Test.YtobcgomfbkcaeaaDoorYFaultKnown
namespace Go.Proofs.YtobcgomfbkcaeaaDoor.YErr
open Go.RowKit Go.Extern.Stop Go.Stop Go.Extern
set_option linter.unusedVariables false
set_option linter.unusedSimpArgs false

def chainE (x : Int) : List ByteArray → E
  | [] => .num x
  | op :: l => .wrap op (chainE x l)
theorem chain_lead (x : Int) (l : List ByteArray) : (chainE x l).lead = x := by
  induction l with
  | nil => rfl
  | cons op l ih => exact ih
theorem chain_ops (x : Int) (l : List ByteArray) : (chainE x l).ops = l := by
  induction l with
  | nil => rfl
  | cons op l ih => simp [chainE, E.ops, ih]
theorem chain_has (x m : Int) (l : List ByteArray) : (chainE x l).has m = decide (x = m) := by
  induction l with
  | nil => rfl
  | cons op l ih => exact ih
theorem chain_ok {x : Int} (h0 : 1 ≤ x) (h1 : x ≤ 60) (l : List ByteArray) : (chainE x l).ok := by
  induction l with
  | nil => exact ⟨h0, h1⟩
  | cons op l ih => exact ih
/-- The strings lie there. -/
def LiesS (w : World) (A : Option Addr) (l : List ByteArray) : Prop := 0 < l.length → ∃ b off, A = some ⟨b, off, none⟩ ∧ ∀ i, i < l.length → w.cell? ⟨b, off + i, none⟩ = some (.string (l.getD i ByteArray.empty))
theorem LiesS.keep {w w' : World} {A : Option Addr} {l : List ByteArray} (h : LiesS w A l) (g : Below w.heap.size w w') : LiesS w' A l := by
  intro hp
  obtain ⟨b, off, hA, hc⟩ := h hp
  exact ⟨b, off, hA, fun i hi => keep4 g (hc i hi)⟩
theorem drop_get (l : List ByteArray) (j : Nat) (h : j < l.length) : l.drop j = l.getD j ByteArray.empty :: l.drop (j + 1) := by
  rw [List.drop_eq_getElem_cons h]
  simp [List.getD, h]
set_option maxRecDepth 100000 in
set_option maxHeartbeats 8000000 in
theorem chain_calls (A : Option Addr) (c : Nat) (l : List ByteArray) (n : Int) (w : World) (hl : LiesS w A l) (ll : l.length ≤ 20) (n0 : 0 ≤ n) (n1 : n ≤ 255) :
    Calls Tryd.prog 8 #[.slice A l.length c, .int .u8 n] w fun r w' => ∃ v, r = .returned v ∧ At w' v (chainE (n % 60 + 1) l) ∧ Below w.heap.size w w' := by
  have q2 : 0 ≤ n % 60 := by omega
  have q3 : n % 60 < 60 := by omega
  have ll' : (l.length : Int) ≤ 20 := by omega
  go_enter Tryd.func8, Tryd.ntmps8
  go_wp2_with fail
  go_loopw [5, 6] (fun e i wr => ∃ k : Nat, k ≤ l.length ∧ i = .int .i64 ((k : Int) - 1) ∧ At wr e (chainE (n % 60 + 1) (l.drop k)) ∧ Below w.heap.size w wr) (fun _ i _ => (intOf i + 1).toNat)
  case atStart => exact ⟨l.length, Nat.le_refl _, rfl, by rw [List.drop_length]; rfl, Below.refl _ _⟩
  case round =>
    obtain ⟨k, hk, rfl, hat, hb⟩ := hrel
    cases k with
    | zero =>
      go_wp2_with fail
      go_ret
      exact ⟨_, rfl, hat, hb⟩
    | succ j =>
      have ej : ((j + 1 : Nat) : Int) - 1 = (j : Int) := by omega
      rw [ej]
      clear ej
      obtain ⟨b, off, rfl, hc⟩ := hl (by omega)
      have q := keep4 hb (hc j (by omega))
      clear hc hl
      have hj : (j : Int) < (l.length : Int) := by omega
      have WR := Wrap_tree (l.getD j ByteArray.empty) hat
      have ed := drop_get l j (by omega)
      generalize l.getD j ByteArray.empty = S at *
      go_wp2_with fail
      refine WR.mono ?_; rintro r w2 ⟨v2, rfl, a2, g2⟩
      have b2 := bb4 hb g2
      clear WR
      go_wp2_with fail
      go_roundw
      case rel => exact ⟨j, by omega, by go_num, by rw [ed]; exact a2, b2⟩
      case measure => simp [intOf]
end Go.Proofs.YtobcgomfbkcaeaaDoor.YErr
