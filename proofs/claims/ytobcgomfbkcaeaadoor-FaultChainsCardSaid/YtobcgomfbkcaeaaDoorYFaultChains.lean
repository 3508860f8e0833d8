/- The law FaultChains of layer 4: the walk. Condition: errors.errorType holds its type's handle. -/
import Derived.Test.YtobcgomfbkcaeaaDoorYFaultChain
import Derived.Deep.QuietTactic
import Derived.BigQuiet
import Derived.Lib.Hide
namespace Go.Proofs.YtobcgomfbkcaeaaDoor.YErr
open Go.RowKit Go.Extern.Stop Go.Stop Go.Extern
set_option linter.unusedVariables false
set_option linter.unusedSimpArgs false

theorem below_drewC {B n : Nat} {a w : World} (h : Below B a w) : Below B a (w.drewN n) := by
  induction n with
  | zero => exact h
  | succ n ih => rw [← World.drew_drewN]; exact ih.drew
/-- The text ahead of the number. -/
def preN (l : List ByteArray) : Nat → ByteArray
  | 0 => ⟨#[]⟩
  | k + 1 => preN l k ++ l.getD k ByteArray.empty ++ ⟨#[58, 32]⟩
theorem ba_assoc (a b c : ByteArray) : a ++ b ++ c = a ++ (b ++ c) := by
  apply ByteArray.ext
  simp [ByteArray.data_append, Array.append_assoc]
theorem ba_nil (a : ByteArray) : (⟨#[]⟩ : ByteArray) ++ a = a := by
  apply ByteArray.ext
  simp [ByteArray.data_append]
theorem pre_text (x : Int) (l : List ByteArray) (k : Nat) (hk : k ≤ l.length) : preN l k ++ (chainE x (l.drop k)).text = (chainE x l).text := by
  induction k with
  | zero => exact ba_nil _
  | succ k ih =>
    rw [← ih (by omega), drop_get l k (by omega)]
    show preN l k ++ l.getD k ByteArray.empty ++ ⟨#[58, 32]⟩ ++ _ = preN l k ++ (l.getD k ByteArray.empty ++ ⟨#[58, 32]⟩ ++ _)
    simp only [ba_assoc]
theorem pre_all (x : Int) (l : List ByteArray) : (chainE x l).text = preN l l.length ++ estr x := by
  rw [← pre_text x l l.length (Nat.le_refl _), List.drop_length]
  rfl
theorem pre_size (l : List ByteArray) (k : Nat) (h : ∀ j, j < k → (l.getD j ByteArray.empty).size ≤ 60) : (preN l k).size ≤ 62 * k := by
  induction k with
  | zero => exact Nat.le_refl _
  | succ k ih =>
    have e2 : (ByteArray.mk #[58, 32]).size = 2 := rfl
    have := ih (fun j hj => h j (by omega))
    have := h k (by omega)
    show (preN l k ++ l.getD k ByteArray.empty ++ ⟨#[58, 32]⟩).size ≤ _
    rw [ByteArray.size_append, ByteArray.size_append, e2]
    omega
set_option maxRecDepth 100000 in
set_option maxHeartbeats 16000000 in
theorem FaultChains_calls (A1 : Option Addr) (c1 : Nat) (l : List ByteArray) (n m : Int) (w : World) (hg : Laid w) (ha : LiesS w A1 l) (n0 : 0 ≤ n) (n1 : n ≤ 255) (m0 : 0 ≤ m) (m1 : m ≤ 255) :
    Calls Tryd.prog 3 #[.slice A1 l.length c1, .int .u8 n, .int .u8 m] w fun r w' => r = .returned (.bool true) ∧ Below w.heap.size w w' := by
  have K := known_calls w hg
  have q2 : 0 ≤ n % 60 := by omega
  have q3 : n % 60 < 60 := by omega
  have q4 : 0 ≤ m % 60 := by omega
  have q5 : m % 60 < 60 := by omega
  by_cases hla : 20 < l.length
  · have hla' : (20 : Int) < l.length := by omega
    go_enter Tryd.func3, Tryd.ntmps3
    go_wp2_with fail
    refine K.mono ?_; rintro r w1 ⟨rfl, b1⟩
    go_wp2_with fail
    go_ret
    exact ⟨rfl, b1⟩
  have hla' : ¬ (20 : Int) < l.length := by omega
  have hla2 : (l.length : Int) ≤ 20 := by omega
  go_enter Tryd.func3, Tryd.ntmps3
  go_wp2_with fail
  refine K.mono ?_; rintro r w1 ⟨rfl, b1⟩
  clear K
  have ja := ha.keep b1
  go_wp2_with fail
  go_loopw [7, 8] (fun tx i wr => wr = w1 ∧ ∃ k : Nat, k ≤ l.length ∧ i = .int .i64 k ∧ tx = .string (preN l k) ∧ ∀ j, j < k → (l.getD j ByteArray.empty).size ≤ 60) (fun _ i _ => l.length - (intOf i).toNat)
  case atStart => exact ⟨rfl, 0, Nat.zero_le _, rfl, rfl, fun j hj => absurd hj (by omega)⟩
  case round =>
    obtain ⟨rfl, k, hk, rfl, rfl, hall⟩ := hrel
    by_cases hlt : k < l.length
    · obtain ⟨bl, off, rfl, r4⟩ := ja (by omega)
      have q := r4 k hlt
      have k4 : (k : Int) < (l.length : Int) := by omega
      have psz := pre_size l k hall
      have pre1 : preN l (k + 1) = preN l k ++ l.getD k ByteArray.empty ++ ⟨#[58, 32]⟩ := rfl
      have H := Lib.hid (And.intro hall (And.intro ja (And.intro ha pre1)))
      clear r4 hall ja ha pre1
      by_cases h60 : (l.getD k ByteArray.empty).size ≤ 60
      · have n1 : ¬ 9223372036854775807 < (preN l k).size + (l.getD k ByteArray.empty).size := by omega
        have n2 : ¬ 9223372036854775807 < (preN l k).size + (l.getD k ByteArray.empty).size + 2 := by omega
        have h60' : ¬ (60 : Int) < (l.getD k ByteArray.empty).size := by omega
        have H2 := Lib.hid h60
        clear h60 psz
        have HH := Lib.hid (And.intro H H2)
        clear H H2
        generalize hS : l.getD k ByteArray.empty = S at q n1 n2 h60'
        generalize hT : preN l k = T at *
        have HS := Lib.hid (And.intro hS hT)
        clear hS hT
        go_wp2_with fail
        go_roundw
        case rel =>
          obtain ⟨H, H2⟩ := HH.out
          obtain ⟨hS, hT⟩ := HS.out
          refine ⟨by first | rfl | trivial, k + 1, by omega, by go_num, ?_, fun j hj => ?_⟩
          · rw [H.out.2.2.2]; (try simp only [hS, hT])
          · by_cases hjk : j = k
            · subst hjk; exact H2.out
            · exact H.out.1 j (by omega)
        case measure => simp [intOf]; omega
      · have h60' : (60 : Int) < (l.getD k ByteArray.empty).size := by omega
        generalize l.getD k ByteArray.empty = S at q h60'
        go_wp2_with fail
        go_ret
        exact ⟨rfl, b1⟩
    · have hk' : k = l.length := by omega
      subst hk'
      have psz := pre_size l l.length hall
      have psz1 : (preN l l.length).size ≤ 1240 := by omega
      clear hall psz
      have C1 := chain_calls A1 c1 l n wr ja (by omega) n0 n1
      have hpre := Lib.hid (pre_all (n % 60 + 1) l)
      generalize preN l l.length = T at *
      go_wp2_with fail
      refine C1.mono ?_; rintro r w2 ⟨v2, rfl, a2, g2⟩
      have b2 := bb4 b1 g2
      clear C1 ja
      have C := Code_tree (hg.keep b2) a2
      rw [chain_lead] at C
      go_wp2_with fail
      refine C.mono ?_; rintro r w3 ⟨rfl, g3⟩
      have b3 := bb4 b2 g3
      have a3 := a2.below g3
      clear C a2
      have es := estr_size (n % 60 + 1) (by omega) (by omega)
      have TX := Text_tree (chain_ok (by omega) (by omega) l) (by rw [hpre.out, ByteArray.size_append]; omega) a3
      rw [hpre.out] at TX
      have EN := fun W => Error_num (n % 60 + 1) (by omega) (by omega) W
      have n3 : ¬ 9223372036854775807 < T.size + (estr (n % 60 + 1)).size := by omega
      clear es psz1
      go_wp2_with fail
      refine TX.mono ?_; rintro r w4 ⟨rfl, g4⟩
      have b4 := bb4 b3 g4
      have a4 := a3.below g4
      clear TX
      go_wp2_with fail
      refine (EN _).mono ?_; rintro r w' ⟨rfl, rfl⟩
      clear EN hpre
      have I1 := Is_tree (n % 60 + 1) a4
      rw [chain_has, decide_eq_true rfl] at I1
      have I2 := Is_tree (m % 60 + 1) a4
      rw [chain_has] at I2
      generalize estr (n % 60 + 1) = ES at *
      go_wp2_with fail
      refine I1.mono ?_; rintro r w' ⟨rfl, rfl⟩
      have O := Ops_tree a4 (by rw [chain_ops]; omega)
      rw [chain_ops] at O
      have B4 := Lib.hid b4
      clear I1 b3 b2 g2 g3 g4 a3 b4
      have tail : ∀ X : Bool, X = decide (m % 60 = n % 60) → True := fun _ _ => trivial
      have hIb : decide (n % 60 + 1 = m % 60 + 1) = decide (m % 60 = n % 60) := decide_eq_decide.2 (by omega)
      rw [hIb] at I2
      clear hIb tail
      by_cases he : m % 60 = n % 60
      all_goals
        first | rw [decide_eq_true he, he] at I2 | rw [decide_eq_false he] at I2
        go_wp2_with fail
        refine I2.mono ?_; rintro r w' ⟨rfl, rfl⟩
        clear I2
        go_wp2_with fail
        refine O.mono ?_; rintro r w5 ⟨o, rfl, s5, g5⟩
        have b5 := bb4 B4.out g5
        have j5 := (ha.keep B4.out).keep g5
        clear O B4 ha a4
        obtain ⟨el, rfl⟩ | ⟨g1, cap1, rfl, _, z1, hc1, hm1, hs1⟩ := s5.form
        · subst el
          simp only [List.length_nil] at *
          go_wp2_with fail
          refine wp_loop_rounds 1 ?_
          rw [rounds_succ]
          go_wp2_with fail
          go_ret
          exact ⟨rfl, b5⟩
        · have HS := Lib.hid (And.intro hs1 j5)
          clear hs1 j5 s5 z1
          go_wp2_with fail
          go_loopw [12] (fun i wr => ∃ k : Nat, k ≤ l.length ∧ i = .int .i64 k ∧ Below w.heap.size w wr ∧ (∀ i, i < l.length → wr.cell? ⟨g1, i, none⟩ = some (.string (l.getD i ByteArray.empty))) ∧ LiesS wr A1 l) (fun i _ => l.length - (intOf i).toNat)
          case atStart => exact ⟨0, Nat.zero_le _, rfl, b5, HS.out.1, HS.out.2⟩
          case round =>
            obtain ⟨k, hk, rfl, bk, r1, r3⟩ := hrel
            clear HS b5
            by_cases hlt : k < l.length
            · obtain ⟨bl, off, rfl, r4⟩ := id r3 (by omega)
              have e1 := r1 k hlt
              have e3 := r4 k hlt
              have k4 : (k : Int) < (l.length : Int) := by omega
              have R := Lib.hid (And.intro r1 r3)
              have BK := Lib.hid bk
              clear r1 r3 r4 bk
              generalize l.getD k ByteArray.empty = S at *
              go_wp2_with fail
              go_quiet (fail)
              go_wp2_with fail
              go_roundw
              case rel => exact ⟨k + 1, by omega, by go_num, (below_drewC BK.out), R.out.1, R.out.2⟩
              case measure => simp [intOf]; omega
            · have hk' : k = l.length := by omega
              subst hk'
              clear r1 r3
              go_wp2_with fail
              go_ret
              exact ⟨rfl, bk⟩
theorem FaultChains_law (A1 : Option Addr) (c1 : Nat) (a : List ByteArray) (n m : Int) (w : World) (hg : Laid w) (y1 : a.length ≤ c1) (z1 : c1 ≤ maxLen) (ha : LiesS w A1 a) (w1 : (Lit.int .u8 n).wf = true) (w2 : (Lit.int .u8 m).wf = true) :
    Calls Tryd.prog 3 #[.slice A1 a.length c1, .int .u8 n, .int .u8 m] w fun r w' => r = .returned (.bool true) ∧ Below w.heap.size w w' :=
  FaultChains_calls A1 c1 a n m w hg ha (wf8 w1).1 (wf8 w1).2 (wf8 w2).1 (wf8 w2).2
end Go.Proofs.YtobcgomfbkcaeaaDoor.YErr
