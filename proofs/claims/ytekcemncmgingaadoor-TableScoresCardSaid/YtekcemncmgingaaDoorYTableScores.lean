/- The law TableScores of layer 24: the walk. Condition: errors.errorType holds its type's handle. -/
import Derived.Test.YtekcemncmgingaaDoorYTable4
import Derived.Test.YtekcemncmgingaaDoorYTableFull
namespace Go.Proofs.YtekcemncmgingaaDoor.YErr
open Go.RowKit Go.Extern.Stop Go.Stop Go.Extern
set_option linter.unusedVariables false
set_option linter.unusedSimpArgs false
/-- The bools lie there. -/
def LiesB (w : World) (A : Option Addr) (l : List Bool) : Prop := 0 < l.length → ∃ b off, A = some ⟨b, off, none⟩ ∧ ∀ i, i < l.length → w.cell? ⟨b, off + i, none⟩ = some (.bool (l.getD i false))
theorem LiesB.keep {w w' : World} {A : Option Addr} {l : List Bool} (h : LiesB w A l) (g : Below w.heap.size w w') : LiesB w' A l := by
  intro hp
  obtain ⟨b, off, hA, hc⟩ := h hp
  exact ⟨b, off, hA, fun i hi => (g.cell (World.block_lt_of_cell? w ⟨b, off + i, none⟩ (hc i hi))).trans (hc i hi)⟩
/-- A slot with a score. -/
def Sl.at (id sc : Int) : Sl := ⟨true, id, false, sc, Option.none, 0, 0⟩
theorem bare_at (id sc : Int) : (Sl.at id sc).bare := ⟨rfl, rfl, rfl⟩
set_option maxRecDepth 100000 in
set_option maxHeartbeats 16000000 in
theorem Scores_0 (A1 : Option Addr) (c1 : Nat) (l : List Bool) (k : Int) (w : World) (hg : Laid w) (hl : LiesB w A1 l) (ll : l.length ≤ 40) (k0 : 0 ≤ k) (k1 : k ≤ 255) (hk : k % 2 = 0) :
    Calls Tryd.prog 3 #[.slice A1 l.length c1, .int .u8 k] w fun r w' => r = .returned (.bool true) ∧ Below w.heap.size w w' := by
  have K := known24 w hg
  have ll' : (l.length : Int) ≤ 40 := by omega
  go_enter Tryd.func3, Tryd.ntmps3
  go_wp2_with fail
  refine K.mono ?_; rintro r w0 ⟨rfl, B0⟩
  clear K
  go_wp2_with fail
  refine (New_c w0).mono ?_; rintro r w1 ⟨rfl, T, h0⟩
  have B1 := bbT B0 h0
  have hp : w.heap.size ≤ w0.heap.size := B0.size
  generalize w0.heap.size = p at *
  go_wp2_with fail
  refine (See_free0 T none_th (Slot_FFF (id := 1) T none_th none_th none_th)).mono ?_; rintro r w2 ⟨rfl, T2, h2⟩
  have B2 := One.below h2 B1 hp
  go_wp2_with fail
  refine (See_free1 T2 (new_th _) none_th (Slot_NFF (id := 2) T2 (new_th _) (show ¬ (Sl.new 1).id = 2 by decide) none_th none_th)).mono ?_; rintro r w3 ⟨rfl, T3, h3⟩
  have B3 := One.below h3 B2 hp
  clear T T2 h0 h2 h3 B1 B2
  have T3 : Tb w3 p (Sl.at 1 0) (Sl.at 2 0) Sl.none := T3
  go_wp2_with fail
  go_loopw [6, 7] (fun s i wr => ∃ (j : Nat) (sc : Int), j ≤ l.length ∧ i = .int .i64 j ∧ s = .int .i64 sc ∧ -8 ≤ sc ∧ sc ≤ 8 ∧ Tb wr p (Sl.at 1 sc) (Sl.at 2 0) Sl.none ∧ Below w.heap.size w wr) (fun _ i _ => l.length - (intOf i).toNat)
  case atStart => exact ⟨0, 0, Nat.zero_le _, rfl, rfl, by omega, by omega, T3, B3⟩
  case round =>
    obtain ⟨j, sc, hj, rfl, rfl, s0, s1, T, B⟩ := hrel
    clear T3 B3
    by_cases hlt : j < l.length
    · obtain ⟨bl, off, rfl, hc⟩ := (hl.keep B) (by omega)
      have q := hc j hlt
      have hj' : (j : Int) < (l.length : Int) := by omega
      clear hc
      have qi := qual_in (l.getD j false) s0 s1
      generalize hx : l.getD j false = x at q qi
      have SC : Calls Tryd.prog 11 #[.pointer (some ⟨p, 0, none⟩), .int .i64 0, .bool x] wr fun r w' => r = .returned (.tuple #[.int .i64 (qual sc x), .nilIface]) ∧ Tb w' p (Sl.at 1 (qual sc x)) (Sl.at 2 0) Sl.none ∧ One wr w' p := Score_ok0 T rfl s0 s1 x
      go_wp2_with fail
      refine SC.mono ?_; rintro r w4 ⟨rfl, T4, h4⟩
      clear SC T
      have B4 := One.below h4 B hp
      have R := rquality sc x s0 s1 w4
      have LB := (hl.keep B4)
      obtain ⟨bl', off', e1, hc'⟩ := LB (by omega)
      cases e1
      have q4 := (hc' j hlt)
      rw [hx] at q4
      clear hc' LB q
      go_wp2_with fail
      refine R.mono ?_; rintro r w5 ⟨rfl, rfl⟩
      clear R
      generalize qual sc x = S at *
      go_wp2_with fail
      exact ⟨⟨j + 1, S, by omega, by go_num, rfl, qi.1, qi.2, T4, B4⟩, by simp [intOf]; omega⟩
    · have hj2 : j = l.length := by omega
      subst hj2
      go_wp2_with fail
      refine (Get_0 T rfl (bare_at _ _)).mono ?_; rintro r w4 ⟨rfl, g4⟩
      have B4 := bbT B g4
      replace T := T.keep g4
      go_wp2_with fail
      have F := Blk.new w4 #[.int .u8 (Sl.at 1 sc).id, .bool (Sl.at 1 sc).pl, .int .i64 (Sl.at 1 sc).sc, .slice Option.none 0 0] 34
      refine (Get_1 (Blk.alloc T _) rfl (bare_at _ _)).mono ?_; rintro r w5 ⟨rfl, g5⟩
      have F := (Blk.keep F g5).alloc (.cells #[.int .u8 (Sl.at 2 0).id, .bool (Sl.at 2 0).pl, .int .i64 (Sl.at 2 0).sc, .slice Option.none 0 0] 34)
      have G := Blk.new w5 #[.int .u8 (Sl.at 2 0).id, .bool (Sl.at 2 0).pl, .int .i64 (Sl.at 2 0).sc, .slice Option.none 0 0] 34
      have y0 := (Blk.cell F 2).trans (show _ = some (.int .i64 sc) from rfl)
      have y1 := (Blk.cell G 2).trans (show _ = some (.int .i64 0) from rfl)
      have B5 : Below w.heap.size w (w4.alloc (.cells #[.int .u8 (Sl.at 1 sc).id, .bool (Sl.at 1 sc).pl, .int .i64 (Sl.at 1 sc).sc, .slice Option.none 0 0] 34)) := B4.alloc B4.size _
      have B6 := bbT B5 g5
      have B7 := B6.alloc B6.size (.cells #[.int .u8 (Sl.at 2 0).id, .bool (Sl.at 2 0).pl, .int .i64 (Sl.at 2 0).sc, .slice Option.none 0 0] 34)
      clear F G B5 B6 g5
      go_wp2_with fail
      go_ret
      exact ⟨rfl, B7⟩
set_option maxRecDepth 100000 in
set_option maxHeartbeats 16000000 in
theorem Scores_1 (A1 : Option Addr) (c1 : Nat) (l : List Bool) (k : Int) (w : World) (hg : Laid w) (hl : LiesB w A1 l) (ll : l.length ≤ 40) (k0 : 0 ≤ k) (k1 : k ≤ 255) (hk : k % 2 = 1) :
    Calls Tryd.prog 3 #[.slice A1 l.length c1, .int .u8 k] w fun r w' => r = .returned (.bool true) ∧ Below w.heap.size w w' := by
  have K := known24 w hg
  have ll' : (l.length : Int) ≤ 40 := by omega
  go_enter Tryd.func3, Tryd.ntmps3
  go_wp2_with fail
  refine K.mono ?_; rintro r w0 ⟨rfl, B0⟩
  clear K
  go_wp2_with fail
  refine (New_c w0).mono ?_; rintro r w1 ⟨rfl, T, h0⟩
  have B1 := bbT B0 h0
  have hp : w.heap.size ≤ w0.heap.size := B0.size
  generalize w0.heap.size = p at *
  go_wp2_with fail
  refine (See_free0 T none_th (Slot_FFF (id := 1) T none_th none_th none_th)).mono ?_; rintro r w2 ⟨rfl, T2, h2⟩
  have B2 := One.below h2 B1 hp
  go_wp2_with fail
  refine (See_free1 T2 (new_th _) none_th (Slot_NFF (id := 2) T2 (new_th _) (show ¬ (Sl.new 1).id = 2 by decide) none_th none_th)).mono ?_; rintro r w3 ⟨rfl, T3, h3⟩
  have B3 := One.below h3 B2 hp
  clear T T2 h0 h2 h3 B1 B2
  have T3 : Tb w3 p (Sl.at 1 0) (Sl.at 2 0) Sl.none := T3
  go_wp2_with fail
  go_loopw [6, 7] (fun s i wr => ∃ (j : Nat) (sc : Int), j ≤ l.length ∧ i = .int .i64 j ∧ s = .int .i64 sc ∧ -8 ≤ sc ∧ sc ≤ 8 ∧ Tb wr p (Sl.at 1 0) (Sl.at 2 sc) Sl.none ∧ Below w.heap.size w wr) (fun _ i _ => l.length - (intOf i).toNat)
  case atStart => exact ⟨0, 0, Nat.zero_le _, rfl, rfl, by omega, by omega, T3, B3⟩
  case round =>
    obtain ⟨j, sc, hj, rfl, rfl, s0, s1, T, B⟩ := hrel
    clear T3 B3
    by_cases hlt : j < l.length
    · obtain ⟨bl, off, rfl, hc⟩ := (hl.keep B) (by omega)
      have q := hc j hlt
      have hj' : (j : Int) < (l.length : Int) := by omega
      clear hc
      have qi := qual_in (l.getD j false) s0 s1
      generalize hx : l.getD j false = x at q qi
      have SC : Calls Tryd.prog 11 #[.pointer (some ⟨p, 0, none⟩), .int .i64 1, .bool x] wr fun r w' => r = .returned (.tuple #[.int .i64 (qual sc x), .nilIface]) ∧ Tb w' p (Sl.at 1 0) (Sl.at 2 (qual sc x)) Sl.none ∧ One wr w' p := Score_ok1 T rfl s0 s1 x
      go_wp2_with fail
      refine SC.mono ?_; rintro r w4 ⟨rfl, T4, h4⟩
      clear SC T
      have B4 := One.below h4 B hp
      have R := rquality sc x s0 s1 w4
      have LB := (hl.keep B4)
      obtain ⟨bl', off', e1, hc'⟩ := LB (by omega)
      cases e1
      have q4 := (hc' j hlt)
      rw [hx] at q4
      clear hc' LB q
      go_wp2_with fail
      refine R.mono ?_; rintro r w5 ⟨rfl, rfl⟩
      clear R
      generalize qual sc x = S at *
      go_wp2_with fail
      exact ⟨⟨j + 1, S, by omega, by go_num, rfl, qi.1, qi.2, T4, B4⟩, by simp [intOf]; omega⟩
    · have hj2 : j = l.length := by omega
      subst hj2
      go_wp2_with fail
      refine (Get_1 T rfl (bare_at _ _)).mono ?_; rintro r w4 ⟨rfl, g4⟩
      have B4 := bbT B g4
      replace T := T.keep g4
      go_wp2_with fail
      have F := Blk.new w4 #[.int .u8 (Sl.at 2 sc).id, .bool (Sl.at 2 sc).pl, .int .i64 (Sl.at 2 sc).sc, .slice Option.none 0 0] 34
      refine (Get_0 (Blk.alloc T _) rfl (bare_at _ _)).mono ?_; rintro r w5 ⟨rfl, g5⟩
      have F := (Blk.keep F g5).alloc (.cells #[.int .u8 (Sl.at 1 0).id, .bool (Sl.at 1 0).pl, .int .i64 (Sl.at 1 0).sc, .slice Option.none 0 0] 34)
      have G := Blk.new w5 #[.int .u8 (Sl.at 1 0).id, .bool (Sl.at 1 0).pl, .int .i64 (Sl.at 1 0).sc, .slice Option.none 0 0] 34
      have y0 := (Blk.cell F 2).trans (show _ = some (.int .i64 sc) from rfl)
      have y1 := (Blk.cell G 2).trans (show _ = some (.int .i64 0) from rfl)
      have B5 : Below w.heap.size w (w4.alloc (.cells #[.int .u8 (Sl.at 2 sc).id, .bool (Sl.at 2 sc).pl, .int .i64 (Sl.at 2 sc).sc, .slice Option.none 0 0] 34)) := B4.alloc B4.size _
      have B6 := bbT B5 g5
      have B7 := B6.alloc B6.size (.cells #[.int .u8 (Sl.at 1 0).id, .bool (Sl.at 1 0).pl, .int .i64 (Sl.at 1 0).sc, .slice Option.none 0 0] 34)
      clear F G B5 B6 g5
      go_wp2_with fail
      go_ret
      exact ⟨rfl, B7⟩
theorem TableScores_law (A1 : Option Addr) (c1 : Nat) (l : List Bool) (k : Int) (w : World) (hg : Laid w) (y : l.length ≤ c1) (z : c1 ≤ maxLen) (hl : LiesB w A1 l) (w1 : (Lit.int .u8 k).wf = true) :
    Calls Tryd.prog 3 #[.slice A1 l.length c1, .int .u8 k] w fun r w' => r = .returned (.bool true) ∧ Below w.heap.size w w' := by
  obtain ⟨k0, k1⟩ := wf8 w1
  by_cases ll : l.length ≤ 40
  · have hk : k % 2 = 0 ∨ k % 2 = 1 := by omega
    rcases hk with hk | hk
    · exact Scores_0 A1 c1 l k w hg hl ll k0 k1 hk
    · exact Scores_1 A1 c1 l k w hg hl ll k0 k1 hk
  · have K := known24 w hg
    have ll' : (40 : Int) < l.length := by omega
    go_enter Tryd.func3, Tryd.ntmps3
    go_wp2_with fail
    refine K.mono ?_; rintro r w0 ⟨rfl, B0⟩
    go_wp2_with fail
    go_ret
    exact ⟨rfl, B0⟩
end Go.Proofs.YtekcemncmgingaaDoor.YErr
