/- The law FaultDeep of layer 4: the walk. Condition: errors.errorType holds its type's handle. -/
import Derived.Test.YtobcgomfbkcaeaaDoorYFaultJoin
namespace Go.Proofs.YtobcgomfbkcaeaaDoor.YErr
open Go.RowKit Go.Extern.Stop Go.Stop Go.Extern
set_option linter.unusedVariables false
set_option linter.unusedSimpArgs false

/-- The error behind so many rounds. -/
def deep (op : ByteArray) (a b : Int) : Nat → E
  | 0 => .wrap op (.num a)
  | n + 1 => .wrap op (.two (deep op a b n) (.num b))
theorem deep_lead (op : ByteArray) (a b : Int) (n : Nat) : (deep op a b n).lead = a := by
  induction n with
  | zero => rfl
  | succ n ih => exact ih
theorem deep_ops (op : ByteArray) (a b : Int) (n : Nat) : (deep op a b n).ops.length = n + 1 := by
  induction n with
  | zero => rfl
  | succ n ih => simp [deep, E.ops, ih]
theorem deep_has (op : ByteArray) (a b m : Int) (n : Nat) : (deep op a b n).has m = (decide (a = m) || (decide (0 < n) && decide (b = m))) := by
  induction n with
  | zero => simp [deep, E.has]
  | succ n ih =>
    have : (deep op a b (n + 1)).has m = ((deep op a b n).has m || decide (b = m)) := rfl
    rw [this, ih]
    cases decide (a = m) <;> cases decide (b = m) <;> simp
set_option maxRecDepth 100000 in
set_option maxHeartbeats 8000000 in
theorem FaultDeep_calls (op : ByteArray) (n m t : Int) (w : World) (hg : Laid w) (n0 : 0 ≤ n) (n1 : n ≤ 255) (m0 : 0 ≤ m) (m1 : m ≤ 255) (t0 : 0 ≤ t) (t1 : t ≤ 255) :
    Calls Tryd.prog 6 #[.string op, .int .u8 n, .int .u8 m, .int .u8 t] w fun r w' => r = .returned (.bool true) ∧ Below w.heap.size w w' := by
  have K := known_calls w hg
  have q0 : 0 ≤ t % 10 := by omega
  have q1 : t % 10 < 10 := by omega
  have q2 : 0 ≤ n % 60 := by omega
  have q3 : n % 60 < 60 := by omega
  have q4 : 0 ≤ m % 60 := by omega
  have q5 : m % 60 < 60 := by omega
  go_enter Tryd.func6, Tryd.ntmps6
  go_wp2_with fail
  refine K.mono ?_; rintro r w1 ⟨rfl, b1⟩
  clear K
  have WR := Wrap_tree op (show At w1 (.iface 27 (.int .i64 (n % 60 + 1))) (.num (n % 60 + 1)) from rfl)
  go_wp2_with fail
  · go_ret
    exact ⟨rfl, b1⟩
  refine WR.mono ?_; rintro r w2 ⟨v, rfl, a2, g2⟩
  clear WR
  have b2 := bb4 b1 g2
  go_wp2_with fail
  go_loopw [11, 12] (fun e i wr => ∃ k : Nat, i = .int .i64 k ∧ (k : Int) ≤ t % 10 ∧ At wr e (deep op (n % 60 + 1) (m % 60 + 1) k) ∧ Below w.heap.size w wr) (fun _ i _ => 10 - (intOf i).toNat)
  case atStart => exact ⟨0, rfl, q0, a2, b2⟩
  case round =>
    obtain ⟨k, rfl, hk, hat, hb⟩ := hrel
    clear a2 g2 b2 b1
    obtain ⟨te, ue, rfl⟩ := hat.some
    by_cases hlt : (k : Int) < t % 10
    · have hb3 := hb.alloc hb.size (.cells #[.iface te ue, .iface 27 (.int .i64 (m % 60 + 1))] 25)
      have hat3 := hat.alloc (.cells #[.iface te ue, .iface 27 (.int .i64 (m % 60 + 1))] 25)
      have J := Join_is (Q := fun r w' => ∃ v, r = .returned v ∧ At w' v (.two (deep op (n % 60 + 1) (m % 60 + 1) k) (.num (m % 60 + 1))) ∧ Below (wr.alloc (.cells #[.iface te ue, .iface 27 (.int .i64 (m % 60 + 1))] 25)).heap.size (wr.alloc (.cells #[.iface te ue, .iface 27 (.int .i64 (m % 60 + 1))] 25)) w')
        ((Join_pair wr.heap.size 2 _ _ _ _ _ _ (wr.alloc (.cells #[.iface te ue, .iface 27 (.int .i64 (m % 60 + 1))] 25)) hat3 (show At _ (.iface 27 (.int .i64 (m % 60 + 1))) (.num (m % 60 + 1)) from rfl) (by go_simp) (by go_simp)).mono (fun r w' ⟨v, h1, h2, h3⟩ => ⟨v, h1, v, h1, h2, h3⟩))
      go_wp2_with fail
      refine J.mono ?_; rintro r w4 ⟨v4, rfl, a4, g4⟩
      have b4 := hb3.trans (g4.mono hb3.size)
      clear J hb3 hat3 g4
      have WR := Wrap_tree op a4
      go_wp2_with fail
      refine WR.mono ?_; rintro r w5 ⟨v5, rfl, a5, g5⟩
      have b5 := bb4 b4 g5
      go_wp2_with fail
      go_roundw
      case rel => exact ⟨k + 1, by go_num, by omega, a5, b5⟩
      case measure => simp [intOf]; omega
    · have hK : (k : Int) = t % 10 := by omega
      have C := Code_tree (hg.keep hb) hat
      rw [deep_lead] at C
      go_wp2_with fail
      refine C.mono ?_; rintro r w3 ⟨rfl, g3⟩
      have b3 := bb4 hb g3
      have a3 := hat.below g3
      clear C hat hb g3
      have I1 := Is_tree (n % 60 + 1) a3
      have x1 : (deep op (n % 60 + 1) (m % 60 + 1) k).has (n % 60 + 1) = true := by rw [deep_has]; simp
      rw [x1] at I1
      clear x1
      go_wp2_with fail
      refine I1.mono ?_; rintro r w' ⟨rfl, rfl⟩
      have O := Ops_tree a3 (by rw [deep_ops]; omega)
      go_wp2_with fail
      refine O.mono ?_; rintro r w4 ⟨o, rfl, s4, g4⟩
      have b4 := bb4 b3 g4
      have a4 := a3.below g4
      obtain ⟨h, _⟩ | ⟨g, cap, rfl, _, _, hc, hm, hs⟩ := s4.form
      · have := congrArg List.length h
        rw [deep_ops] at this
        cases this
      rw [deep_ops] at *
      clear hs s4 I1 O b3 a3 g4
      have x99 : (deep op (n % 60 + 1) (m % 60 + 1) k).has 99 = false := by
        rw [deep_has, decide_eq_false (show ¬ n % 60 + 1 = 99 by omega), decide_eq_false (show ¬ m % 60 + 1 = 99 by omega)]; simp
      have I2 := Is_tree (m % 60 + 1) a4
      have I3 := Is_tree 99 a4
      rw [x99] at I3
      rw [deep_has] at I2
      have hK1 : ((k + 1 : Nat) : Int) = t % 10 + 1 := by omega
      clear x99
      by_cases ht : 0 < t % 10
      · have e1 : (decide (n % 60 + 1 = m % 60 + 1) || (decide (0 < k) && decide (m % 60 + 1 = m % 60 + 1))) = true := by
          rw [decide_eq_true (show 0 < k by omega)]; simp
        rw [e1] at I2
        clear e1
        go_wp2_with fail
        refine I2.mono ?_; rintro r w' ⟨rfl, rfl⟩
        go_wp2_with fail
        refine I3.mono ?_; rintro r w' ⟨rfl, rfl⟩
        go_wp2_with fail
        go_ret
        exact ⟨rfl, b4⟩
      · have ht0 : t % 10 = 0 := by omega
        have e1 : (decide (n % 60 + 1 = m % 60 + 1) || (decide (0 < k) && decide (m % 60 + 1 = m % 60 + 1))) = decide (n % 60 = m % 60) := by
          rw [decide_eq_false (show ¬ 0 < k by omega), show decide (n % 60 + 1 = m % 60 + 1) = decide (n % 60 = m % 60) from decide_eq_decide.2 (by omega)]; simp
        rw [e1] at I2
        clear e1
        by_cases he : n % 60 = m % 60
        · rw [decide_eq_true he] at I2
          go_wp2_with fail
          refine I2.mono ?_; rintro r w' ⟨rfl, rfl⟩
          go_wp2_with fail
          refine I3.mono ?_; rintro r w' ⟨rfl, rfl⟩
          go_wp2_with fail
          go_ret
          exact ⟨rfl, b4⟩
        · rw [decide_eq_false he] at I2
          go_wp2_with fail
          refine I2.mono ?_; rintro r w' ⟨rfl, rfl⟩
          go_wp2_with fail
          refine I3.mono ?_; rintro r w' ⟨rfl, rfl⟩
          go_wp2_with fail
          go_ret
          refine ⟨?_, b4⟩
          show Ending.returned (Value.bool (!(n % 60 == m % 60))) = _
          rw [show (n % 60 == m % 60) = false by simp [he]]
          rfl
theorem FaultDeep_law (op : ByteArray) (n m t : Int) (w : World) (hg : Laid w) (hs : op.size ≤ reachBytes) (w1 : (Lit.int .u8 n).wf = true) (w2 : (Lit.int .u8 m).wf = true) (w3 : (Lit.int .u8 t).wf = true) :
    Calls Tryd.prog 6 #[.string op, .int .u8 n, .int .u8 m, .int .u8 t] w fun r w' => r = .returned (.bool true) ∧ Below w.heap.size w w' :=
  FaultDeep_calls op n m t w hg (wf8 w1).1 (wf8 w1).2 (wf8 w2).1 (wf8 w2).2 (wf8 w3).1 (wf8 w3).2
end Go.Proofs.YtobcgomfbkcaeaaDoor.YErr
