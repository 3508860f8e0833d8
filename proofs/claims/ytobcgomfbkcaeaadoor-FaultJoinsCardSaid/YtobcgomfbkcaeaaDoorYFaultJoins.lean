/- The law FaultJoins of layer 4: the walk. Condition: errors.errorType holds its type's handle. -/
import Derived.Test.YtobcgomfbkcaeaaDoorYFaultJoin
import Derived.Test.YtobcgomfbkcaeaaDoorYFaultChain
import Derived.Deep.QuietTactic
import Derived.BigQuiet
import Derived.Lib.Hide
namespace Go.Proofs.YtobcgomfbkcaeaaDoor.YErr
open Go.RowKit Go.Extern.Stop Go.Stop Go.Extern
set_option linter.unusedVariables false
set_option linter.unusedSimpArgs false

theorem below_drewQ {B n : Nat} {a w : World} (h : Below B a w) : Below B a (w.drewN n) := by
  induction n with
  | zero => exact h
  | succ n ih => rw [← World.drew_drewN]; exact ih.drew
theorem tail_none (w : World) : Calls Tryd.prog 16 #[.slice none 0 0] w fun r w' => r = .returned .nilIface ∧ w' = w :=
  Join_is ((Join_none w).mono fun r w' ⟨h1, h2⟩ => ⟨_, h1, h1, h2⟩)
theorem tail_nn (b : Nat) (w : World) (h0 : w.cell? ⟨b, 0, none⟩ = some .nilIface) (h1 : w.cell? ⟨b, 1, none⟩ = some .nilIface) : Calls Tryd.prog 16 #[.slice (some ⟨b, 0, none⟩) 2 2] w fun r w' => r = .returned .nilIface ∧ w' = w :=
  Join_is ((Join_nn b 2 w h0 h1).mono fun r w' ⟨h1, h2⟩ => ⟨_, h1, h1, h2⟩)
theorem tail_n (b : Nat) (w : World) (h0 : w.cell? ⟨b, 0, none⟩ = some .nilIface) : Calls Tryd.prog 16 #[.slice (some ⟨b, 0, none⟩) 1 1] w fun r w' => r = .returned .nilIface ∧ w' = w :=
  Join_is ((Join_n b 1 w h0).mono fun r w' ⟨h1, h2⟩ => ⟨_, h1, h1, h2⟩)

set_option maxRecDepth 100000 in
set_option maxHeartbeats 16000000 in
theorem FaultJoins_calls (A1 A2 : Option Addr) (c1 c2 : Nat) (a b : List ByteArray) (n m : Int) (op : ByteArray) (w : World) (hg : Laid w) (ha : LiesS w A1 a) (hb : LiesS w A2 b) (n0 : 0 ≤ n) (n1 : n ≤ 255) (m0 : 0 ≤ m) (m1 : m ≤ 255) :
    Calls Tryd.prog 5 #[.slice A1 a.length c1, .slice A2 b.length c2, .int .u8 n, .int .u8 m, .string op] w fun r w' => r = .returned (.bool true) ∧ Below w.heap.size w w' := by
  have K := known_calls w hg
  have q2 : 0 ≤ n % 60 := by omega
  have q3 : n % 60 < 60 := by omega
  have q4 : 0 ≤ m % 60 := by omega
  have q5 : m % 60 < 60 := by omega
  by_cases hla : 10 < a.length
  · have hla' : (10 : Int) < a.length := by omega
    go_enter Tryd.func5, Tryd.ntmps5
    go_wp2_with fail
    refine K.mono ?_; rintro r w1 ⟨rfl, b1⟩
    go_wp2_with fail
    go_ret
    exact ⟨rfl, b1⟩
  by_cases hlb : 10 < b.length
  · have hla' : ¬ (10 : Int) < a.length := by omega
    have hlb' : (10 : Int) < b.length := by omega
    go_enter Tryd.func5, Tryd.ntmps5
    go_wp2_with fail
    refine K.mono ?_; rintro r w1 ⟨rfl, b1⟩
    go_wp2_with fail
    go_ret
    exact ⟨rfl, b1⟩
  have hla' : ¬ (10 : Int) < a.length := by omega
  have hlb' : ¬ (10 : Int) < b.length := by omega
  go_enter Tryd.func5, Tryd.ntmps5
  go_wp2_with fail
  refine K.mono ?_; rintro r w1 ⟨rfl, b1⟩
  clear K
  have C1 := chain_calls A1 c1 a n w1 (ha.keep b1) (by omega) n0 n1
  go_wp2_with fail
  refine C1.mono ?_; rintro r w2 ⟨v2, rfl, a2, g2⟩
  have b2 := bb4 b1 g2
  clear C1 b1
  have C2 := chain_calls A2 c2 b m w2 (hb.keep b2) (by omega) m0 m1
  go_wp2_with fail
  refine C2.mono ?_; rintro r w3 ⟨v3, rfl, a3, g3⟩
  have b3 := bb4 b2 g3
  have a2 := a2.below g3
  clear C2 b2 g2 g3
  obtain ⟨t2, u2, rfl⟩ := a2.some
  obtain ⟨t3, u3', rfl⟩ := a3.some
  have hb3 := b3.alloc b3.size (.cells #[.nilIface, .iface t2 u2, .nilIface, .iface t3 u3'] 25)
  have x2 := a2.alloc (.cells #[.nilIface, .iface t2 u2, .nilIface, .iface t3 u3'] 25)
  have x3 := a3.alloc (.cells #[.nilIface, .iface t2 u2, .nilIface, .iface t3 u3'] 25)
  have J := Join_is (Q := fun r w' => ∃ v, r = .returned v ∧ At w' v (.two (chainE (n % 60 + 1) a) (chainE (m % 60 + 1) b)) ∧ Below (w3.alloc (.cells #[.nilIface, .iface t2 u2, .nilIface, .iface t3 u3'] 25)).heap.size (w3.alloc (.cells #[.nilIface, .iface t2 u2, .nilIface, .iface t3 u3'] 25)) w')
    ((Join_four w3.heap.size 4 _ _ _ _ _ _ (w3.alloc (.cells #[.nilIface, .iface t2 u2, .nilIface, .iface t3 u3'] 25)) x2 x3 (by go_simp) (by go_simp) (by go_simp) (by go_simp)).mono (fun r w' ⟨v, h1, h2, h3⟩ => ⟨v, h1, v, h1, h2, h3⟩))
  go_wp2_with fail
  refine J.mono ?_; rintro r w4 ⟨v4, rfl, a4, g4⟩
  have b4 := hb3.trans (g4.mono hb3.size)
  clear J hb3 x2 x3 a2 a3 g4 b3
  have WR := Wrap_tree op a4
  go_wp2_with fail
  refine WR.mono ?_; rintro r w5 ⟨v5, rfl, a5, g5⟩
  have b5 := bb4 b4 g5
  have a4 := a4.below g5
  clear WR g5 b4
  have hops : (E.two (chainE (n % 60 + 1) a) (chainE (m % 60 + 1) b)).ops = a := chain_ops _ a
  have hops2 : (E.wrap op (E.two (chainE (n % 60 + 1) a) (chainE (m % 60 + 1) b))).ops = op :: a := congrArg (op :: ·) hops
  have O1 := Ops_tree a4 (by rw [hops]; omega)
  rw [hops] at O1
  go_wp2_with fail
  refine O1.mono ?_; rintro r w6 ⟨o, rfl, s6, g6⟩
  have b6 := bb4 b5 g6
  have a5 := a5.below g6
  clear O1 b5 a4
  have O2 := Ops_tree a5 (by rw [hops2]; simp; omega)
  rw [hops2] at O2
  go_wp2_with fail
  refine O2.mono ?_; rintro r w7 ⟨p, rfl, s7, g7⟩
  have b7 := bb4 b6 g7
  have a5 := a5.below g7
  clear O2 hops hops2
  have C := Code_tree (hg.keep b7) a5
  have hlead : (E.wrap op (E.two (chainE (n % 60 + 1) a) (chainE (m % 60 + 1) b))).lead = n % 60 + 1 := chain_lead _ a
  rw [hlead] at C
  clear hlead
  go_wp2_with fail
  refine C.mono ?_; rintro r w8 ⟨rfl, g8⟩
  have b8 := bb4 b7 g8
  have a5 := a5.below g8
  clear C b7 b6
  have hh : ∀ k, (E.wrap op (E.two (chainE (n % 60 + 1) a) (chainE (m % 60 + 1) b))).has k = (decide (n % 60 + 1 = k) || decide (m % 60 + 1 = k)) := fun k => by
    show ((chainE (n % 60 + 1) a).has k || (chainE (m % 60 + 1) b).has k) = _
    rw [chain_has, chain_has]
  have I1 := Is_tree (n % 60 + 1) a5
  have I2 := Is_tree (m % 60 + 1) a5
  rw [hh, decide_eq_true rfl, Bool.true_or] at I1
  rw [hh, decide_eq_true (rfl : m % 60 + 1 = m % 60 + 1), Bool.or_true] at I2
  clear hh a5
  -- the second list's form
  obtain ⟨h, _⟩ | ⟨g2, cap2, rfl, _, z2, hc2, hm2, hs2⟩ := s7.form
  · cases h
  have hs2 := fun i hi => keep4 g8 (hs2 i hi)
  have p0 := hs2 0 (by simp)
  have p0 : w8.cell? ⟨g2, 0, none⟩ = some (.string op) := p0
  have lp : (op :: a).length = a.length + 1 := rfl
  rw [lp] at *
  clear s7
  have ja := ha.keep b8
  clear ha hb
  obtain ⟨ea, rfl⟩ | ⟨g1, cap1, rfl, _, z1, hc1, hm1, hs1⟩ := s6.form
  · subst ea
    simp only [List.length_nil] at *
    go_wp2_with fail
    refine I1.mono ?_; rintro r w' ⟨rfl, rfl⟩
    go_wp2_with fail
    refine I2.mono ?_; rintro r w' ⟨rfl, rfl⟩
    go_wp2_with fail
    refine wp_loop_rounds 1 ?_
    rw [rounds_succ]
    go_wp2_with fail
    refine (tail_none w').mono ?_; rintro r w' ⟨rfl, rfl⟩
    go_wp2_with fail
    refine (tail_nn _ _ (by go_simp) (by go_simp)).mono ?_; rintro r w9 ⟨rfl, rfl⟩
    go_wp2_with fail
    refine (tail_n _ _ (by go_simp)).mono ?_; rintro r w9 ⟨rfl, rfl⟩
    go_wp2_with fail
    refine (Ops_nil _).mono ?_; rintro r w9 ⟨rfl, rfl⟩
    go_wp2_with fail
    go_ret
    exact ⟨rfl, (b8.alloc b8.size _).alloc (by have := b8.size; simp; omega) _⟩
  · have la : (a.length : Int) ≤ 10 := by omega
    have hs1 := fun i hi => keep4 g8 (keep4 g7 (hs1 i hi))
    clear s6 z1 z2 g7 g8
    have HS := Lib.hid (And.intro hs1 (And.intro hs2 ja))
    clear hs1 hs2 ja
    go_wp2_with fail
    refine I1.mono ?_; rintro r w' ⟨rfl, rfl⟩
    go_wp2_with fail
    refine I2.mono ?_; rintro r w' ⟨rfl, rfl⟩
    clear I1 I2
    go_wp2_with fail
    go_loopw [17] (fun i wr => ∃ k : Nat, k ≤ a.length ∧ i = .int .i64 k ∧ Below w.heap.size w wr ∧ (∀ i, i < a.length → wr.cell? ⟨g1, i, none⟩ = some (.string (a.getD i ByteArray.empty))) ∧ (∀ i, i < a.length + 1 → wr.cell? ⟨g2, i, none⟩ = some (.string ((op :: a).getD i ByteArray.empty))) ∧ LiesS wr A1 a) (fun i _ => a.length - (intOf i).toNat)
    case atStart => exact ⟨0, Nat.zero_le _, rfl, b8, HS.out.1, HS.out.2.1, HS.out.2.2⟩
    case round =>
      obtain ⟨k, hk, rfl, bk, r1, r2, r3⟩ := hrel
      clear HS p0 b8
      by_cases hlt : k < a.length
      · obtain ⟨bl, off, rfl, r4⟩ := id r3 (by omega)
        have e1 := r1 k hlt
        have e2 : wr.cell? ⟨g2, k + 1, none⟩ = some (.string (a.getD k ByteArray.empty)) := r2 (k + 1) (by omega)
        have e3 := r4 k hlt
        have k1 : IntKind.i64.wrap ((k : Int) + 1) = (k : Int) + 1 := IntWalk.i64_in _ (by omega)
        have k2 : (0 : Int) ≤ (k : Int) + 1 := by omega
        have k3 : ((k : Int) + 1).toNat = k + 1 := by omega
        have k4 : (k : Int) < (a.length : Int) := by omega
        have k5 : (k : Int) + 1 < ((a.length + 1 : Nat) : Int) := by omega
        have R := Lib.hid (And.intro r1 (And.intro r2 r3))
        have BK := Lib.hid bk
        clear r1 r2 r3 r4 bk
        generalize a.getD k ByteArray.empty = S at *
        go_wp2_with fail
        go_quiet (fail)
        go_wp2_with fail
        go_roundw
        case rel => exact ⟨k + 1, by omega, by go_num, (below_drewQ BK.out), R.out.1, R.out.2.1, R.out.2.2⟩
        case measure => simp [intOf]; omega
      · have hk' : k = a.length := by omega
        subst hk'
        clear r1 r2 r3
        go_wp2_with fail
        refine (tail_none wr).mono ?_; rintro r w' ⟨rfl, rfl⟩
        go_wp2_with fail
        refine (tail_nn _ _ (by go_simp) (by go_simp)).mono ?_; rintro r w9 ⟨rfl, rfl⟩
        go_wp2_with fail
        refine (tail_n _ _ (by go_simp)).mono ?_; rintro r w9 ⟨rfl, rfl⟩
        go_wp2_with fail
        refine (Ops_nil _).mono ?_; rintro r w9 ⟨rfl, rfl⟩
        go_wp2_with fail
        go_ret
        exact ⟨rfl, (bk.alloc bk.size _).alloc (by have := bk.size; simp; omega) _⟩
theorem FaultJoins_law (A1 : Option Addr) (c1 : Nat) (a : List ByteArray) (A2 : Option Addr) (c2 : Nat) (b : List ByteArray) (n m : Int) (op : ByteArray) (w : World) (hg : Laid w) (y1 : a.length ≤ c1) (z1 : c1 ≤ maxLen) (ha : LiesS w A1 a) (y2 : b.length ≤ c2) (z2 : c2 ≤ maxLen) (hb : LiesS w A2 b) (w1 : (Lit.int .u8 n).wf = true) (w2 : (Lit.int .u8 m).wf = true) (hs : op.size ≤ reachBytes) :
    Calls Tryd.prog 5 #[.slice A1 a.length c1, .slice A2 b.length c2, .int .u8 n, .int .u8 m, .string op] w fun r w' => r = .returned (.bool true) ∧ Below w.heap.size w w' :=
  FaultJoins_calls A1 A2 c1 c2 a b n m op w hg ha hb (wf8 w1).1 (wf8 w1).2 (wf8 w2).1 (wf8 w2).2
end Go.Proofs.YtobcgomfbkcaeaaDoor.YErr
