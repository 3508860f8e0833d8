/- Package table: beacons that came in: cloned, whether they may be, whether they are of a free slot. No condition. -/
import Derived.Test.YtekcemncmgingaaDoorYTPlay
namespace Go.Proofs.YtekcemncmgingaaDoor.YErr
open Go.RowKit Go.Extern.Stop Go.Stop Go.Extern
set_option linter.unusedVariables false
set_option linter.unusedSimpArgs false
theorem eqnilc (c : Nat) (w : World) : (binOp .eql 32 (.slice none 0 c) (.slice none 0 0)).run Tryd.prog w = .ok (.bool true) w := by kernel_rfl
theorem Rng.none_ {w : World} {n c : Nat} {L : List Int} (R : Rng w none n c L) : n = 0 ∧ L = [] := by
  have h0 : n = 0 := by
    rcases Nat.eq_zero_or_pos n with h | h
    · exact h
    · obtain ⟨_, _, e, _⟩ := R.2.2 h
      cases e
  subst h0
  exact ⟨rfl, List.eq_nil_of_length_eq_zero (by simpa using R.1)⟩
theorem Rng.at_ {w : World} {n c : Nat} {L : List Int} {ad : Addr} (R : Rng w (some ad) n c L) : ∀ j u, (L.map (Value.int .i64))[j]? = some u → w.cell? (ad.add j) = some u := by
  intro j u hj
  have hjl : j < L.length := by
    have := (List.getElem?_eq_some_iff.1 hj).1
    simpa using this
  obtain ⟨g', o', e, S⟩ := R.2.2 (by have := R.1; omega)
  cases e
  rw [addr_add, S j hjl, ← hj]
  simp [List.getD, hjl]

set_option maxRecDepth 100000 in
set_option maxHeartbeats 8000000 in
theorem Clone_rng {w : World} {n c : Nat} {A : Option Addr} {L : List Int} (R : Rng w A n c L) (hn : n ≤ 100) : Calls Tryd.prog 49 #[.slice A n c] w fun r w' => ∃ A' c', r = .returned (.slice A' n c') ∧ Own w' w.heap.size A' n c' L ∧ Below w.heap.size w w' := by
  rcases A with _ | ad
  · obtain ⟨rfl, rfl⟩ := R.none_
    have e := eqnilc c
    go_enter Tryd.func49, Tryd.ntmps49
    go_wp2
    go_ret
    exact ⟨_, _, rfl, Own.nil _ _, Below.refl _ _⟩
  · obtain ⟨i0, hi, hz0, hz1, hz2⟩ := info_parts infoSeen
    have e := eqsome
    have b1 : Below w.heap.size w (w.alloc (.cells #[] 49)) := (Below.refl _ _).alloc (Nat.le_refl _) _
    have own : (w.alloc (.cells #[] 49)).ownsRow w.heap.size 49 3 (.slice (some ⟨w.heap.size, 0, none⟩) 0 0) 0 [] :=
      ⟨rfl, .inr ⟨w.heap.size, 0, #[], rfl, Nat.le_refl _, heap_alloc_new w _, Nat.le_refl _, by unfold maxLen; omega, rfl, rfl⟩⟩
    have R1 := R.keep b1
    have hsz := b1.size
    have HL := Lib.hid R.1
    generalize hW : w.alloc (.cells #[] 49) = W at *
    have HC := Lib.hid R1.at_
    clear R R1
    go_enter Tryd.func49, Tryd.ntmps49
    go_wp2_with (first
      | (at_builtin; refine wpList_append_own _ rfl (.tmp 5) (.tmp 6) 32 rfl w.heap.size 49 i0 (.agg #[.int .i64 0, .int .i64 0, .int .i64 0]) 3 24 Tryd.underlying32 hi hz0 hz1 hz2 rfl (by decide) (.slice (some ⟨w.heap.size, 0, none⟩) 0 0) 0 [] rfl own ad n c (L.map (Value.int .i64)) rfl ?p1 ?p2 ?p3 ?p4 ?p5 ?p6 ?_)
      | go_in)
    case p1 => simpa using HL.out
    case p2 => exact HC.out
    case p3 => intro u hu; obtain ⟨x, _, rfl⟩ := List.mem_map.1 hu; rfl
    case p4 => unfold maxLen; omega
    case p5 => omega
    case p6 => exact hsz
    intro v' w3 hown3 hgrow _
    have hb3 : Below w.heap.size w w3 := b1.grown hgrow hsz (fun k h => (World.ownsRow.lt own k h).1)
    go_wp2
    go_ret
    have h3 : w3.ownsRow w.heap.size 49 3 v' n (L.map (Value.int .i64)) := by simpa using hown3
    obtain ⟨A', c', rfl⟩ := own_sl h3
    exact ⟨A', c', rfl, h3, hb3⟩

set_option maxRecDepth 100000 in
set_option maxHeartbeats 8000000 in
theorem clone_rng {w : World} {n c : Nat} {A : Option Addr} {L : List Int} (S : Rng w A n c L) (hn : n ≤ 100) (i : Int) (pl : Bool) (sc : Int) : Calls Tryd.prog 35 #[.agg #[.int .u8 i, .bool pl, .int .i64 sc, .slice A n c]] w fun r w' => ∃ A' c', r = .returned (.agg #[.int .u8 i, .bool pl, .int .i64 sc, .slice A' n c']) ∧ Own w' w.heap.size A' n c' L ∧ Below w.heap.size w w' := by
  have b0 : Below w.heap.size w ((w.alloc (.cells #[.int .u8 i, .bool pl, .int .i64 sc, .slice A n c] 34)).alloc (.cells #[.int .u8 0, .bool false, .int .i64 0, .slice none 0 0] 34)) := ((Below.refl _ _).alloc (Nat.le_refl _) _).alloc (by simp) _
  have k0 := (Blk.new w #[.int .u8 i, .bool pl, .int .i64 sc, .slice A n c] 34).alloc (.cells #[.int .u8 0, .bool false, .int .i64 0, .slice none 0 0] 34)
  have k1 : Blk ((w.alloc (.cells #[.int .u8 i, .bool pl, .int .i64 sc, .slice A n c] 34)).alloc (.cells #[.int .u8 0, .bool false, .int .i64 0, .slice none 0 0] 34)) (w.heap.size + 1) #[.int .u8 0, .bool false, .int .i64 0, .slice none 0 0] 34 := by
    have := Blk.new (w.alloc (.cells #[.int .u8 i, .bool pl, .int .i64 sc, .slice A n c] 34)) #[.int .u8 0, .bool false, .int .i64 0, .slice none 0 0] 34
    simpa using this
  have CL := Clone_rng (S.keep b0) hn
  have hz : w.heap.size + 2 ≤ ((w.alloc (.cells #[.int .u8 i, .bool pl, .int .i64 sc, .slice A n c] 34)).alloc (.cells #[.int .u8 0, .bool false, .int .i64 0, .slice none 0 0] 34)).heap.size := by simp
  go_enter Tryd.func35, Tryd.ntmps35
  go_wp2_with fail
  refine CL.mono ?_; rintro r w1 ⟨A', c', rfl, S1, g⟩
  replace S1 := Own.mono S1 hz
  replace k0 := k0.keep g
  replace k1 := k1.keep g
  have b1 := bbT b0 g
  clear b0 g CL hz
  have q3 := (Blk.cell k0 3).trans (show _ = some _ from rfl)
  have f3 := Blk.free k0 3
  have k2 : Blk (w1.setCell ⟨w.heap.size, 3, none⟩ (.slice A' n c')) w.heap.size #[.int .u8 i, .bool pl, .int .i64 sc, .slice A' n c'] 34 := Blk.set k0 3 _
  have k3 := Blk.setOther k1 (p := ⟨w.heap.size, 3, none⟩) (by simp) (.slice A' n c')
  have b2 := b1.setCell (p := ⟨w.heap.size, 3, none⟩) (Nat.le_refl _) (.slice A' n c')
  have S2 : Own (w1.setCell ⟨w.heap.size, 3, none⟩ (.slice A' n c')) (w.heap.size + 2) A' n c' L := Own.far S1 (fun k hk => Below.heap_setCell _ _ _ _ (by simp; omega))
  go_wp2_with (first | (refine ldB k2 _ rfl rfl rfl rfl ?_) | (refine stBs k3 rfl _ _ rfl rfl rfl rfl ?_))
  have K : Blk ((w1.setCell ⟨w.heap.size, 3, none⟩ (.slice A' n c')).setRow (w.heap.size + 1) #[.int .u8 i, .bool pl, .int .i64 sc, .slice A' n c']) (w.heap.size + 1) #[.int .u8 i, .bool pl, .int .i64 sc, .slice A' n c'] 34 := setRow_heap5 k3
  refine bodyPost_ret (v := .agg #[.int .u8 i, .bool pl, .int .i64 sc, .slice A' n c']) (results_cell_row rfl _ _ (w.heap.size + 1) 34 _ (0, 0) _ rfl K Tryd.underlying34 rfl info_b) rfl ⟨A', c', rfl, Own.mono (Own.far S2 (fun k hk => setRow_other _ _ _ _ (by omega))) (by omega), ?_⟩
  exact ⟨b2.os, b2.tape, b2.output, by simp; have := b2.size; simpa using this, fun k hk => (setRow_other _ _ _ _ (by omega)).trans (b2.block k hk)⟩

def rightB (m : Ms) : Bool := decide (-8 ≤ m.sc) && decide (m.sc ≤ 8) && decide (m.n ≤ 8) && (!m.pl || decide (m.n = 0))
def freeB (m : Ms) : Bool := decide (m.id = 0) && !m.pl && decide (m.sc = 0) && decide (m.n = 0)

set_option maxRecDepth 100000 in
set_option maxHeartbeats 8000000 in
theorem right_c (m : Ms) (A : Option Addr) (c : Nat) (w : World) : Calls Tryd.prog 44 #[.agg #[.int .u8 m.id, .bool m.pl, .int .i64 m.sc, .slice A m.n c]] w fun r w' => r = .returned (.bool (rightB m)) ∧ Below w.heap.size w w' := by
  have B1 : ∀ cs : Array Value, Below w.heap.size w (w.alloc (.cells cs 34)) := fun cs => (Below.refl _ _).alloc (Nat.le_refl _) _
  by_cases h1 : -8 ≤ m.sc
  · have a1 : decide (-8 ≤ m.sc) = true := by simpa using h1
    by_cases h2 : m.sc ≤ 8
    · have a2 : decide (m.sc ≤ 8) = true := by simpa using h2
      by_cases h3 : m.n ≤ 8
      · have a3 : decide ((m.n : Int) ≤ 8) = true := by simp; omega
        have a4 : decide (m.n ≤ 8) = true := by simpa using h3
        cases hp : m.pl with
        | false =>
          go_enter Tryd.func44, Tryd.ntmps44
          go_wp2
          go_ret
          exact ⟨by simp [rightB, a1, a2, a4, hp], B1 _⟩
        | true =>
          by_cases h5 : m.n = 0
          · have a5 : ((m.n : Int) == 0) = true := by simpa using h5
            have a6 : decide (m.n = 0) = true := by simpa using h5
            clear h5
            go_enter Tryd.func44, Tryd.ntmps44
            go_wp2
            go_ret
            exact ⟨by simp [rightB, a1, a2, a4, hp, a6], B1 _⟩
          · have a5 : ((m.n : Int) == 0) = false := by simpa using h5
            have a6 : decide (m.n = 0) = false := by simpa using h5
            clear h5
            go_enter Tryd.func44, Tryd.ntmps44
            go_wp2
            go_ret
            exact ⟨by simp [rightB, a1, a2, a4, hp, a6], B1 _⟩
      · have a3 : decide ((m.n : Int) ≤ 8) = false := by simp; omega
        have a4 : decide (m.n ≤ 8) = false := by simpa using h3
        go_enter Tryd.func44, Tryd.ntmps44
        go_wp2
        go_ret
        exact ⟨by simp [rightB, a1, a2, a4], B1 _⟩
    · have a2 : decide (m.sc ≤ 8) = false := by simpa using h2
      go_enter Tryd.func44, Tryd.ntmps44
      go_wp2
      go_ret
      exact ⟨by simp [rightB, a1, a2], B1 _⟩
  · have a1 : decide (-8 ≤ m.sc) = false := by simpa using h1
    go_enter Tryd.func44, Tryd.ntmps44
    go_wp2
    go_ret
    exact ⟨by simp [rightB, a1], B1 _⟩

set_option maxRecDepth 100000 in
set_option maxHeartbeats 8000000 in
theorem free_c (m : Ms) (A : Option Addr) (c : Nat) (w : World) : Calls Tryd.prog 45 #[.agg #[.int .u8 m.id, .bool m.pl, .int .i64 m.sc, .slice A m.n c]] w fun r w' => r = .returned (.bool (freeB m)) ∧ Below w.heap.size w w' := by
  have B1 : ∀ cs : Array Value, Below w.heap.size w (w.alloc (.cells cs 34)) := fun cs => (Below.refl _ _).alloc (Nat.le_refl _) _
  by_cases h1 : m.id = 0
  · have a1 : (m.id == 0) = true := by simpa using h1
    have b1 : decide (m.id = 0) = true := by simpa using h1
    clear h1
    cases hp : m.pl with
    | true =>
      go_enter Tryd.func45, Tryd.ntmps45
      go_wp2
      go_ret
      exact ⟨by simp [freeB, b1, hp], B1 _⟩
    | false =>
      by_cases h2 : m.sc = 0
      · have a2 : (m.sc == 0) = true := by simpa using h2
        have b2 : decide (m.sc = 0) = true := by simpa using h2
        clear h2
        by_cases h5 : m.n = 0
        · have a5 : ((m.n : Int) == 0) = true := by simpa using h5
          have a6 : decide (m.n = 0) = true := by simpa using h5
          clear h5
          go_enter Tryd.func45, Tryd.ntmps45
          go_wp2
          go_ret
          exact ⟨by simp [freeB, b1, b2, hp, a6], B1 _⟩
        · have a5 : ((m.n : Int) == 0) = false := by simpa using h5
          have a6 : decide (m.n = 0) = false := by simpa using h5
          clear h5
          go_enter Tryd.func45, Tryd.ntmps45
          go_wp2
          go_ret
          exact ⟨by simp [freeB, b1, b2, hp, a6], B1 _⟩
      · have a2 : (m.sc == 0) = false := by simpa using h2
        have b2 : decide (m.sc = 0) = false := by simpa using h2
        clear h2
        go_enter Tryd.func45, Tryd.ntmps45
        go_wp2
        go_ret
        exact ⟨by simp [freeB, b1, b2, hp], B1 _⟩
  · have a1 : (m.id == 0) = false := by simpa using h1
    have b1 : decide (m.id = 0) = false := by simpa using h1
    clear h1
    go_enter Tryd.func45, Tryd.ntmps45
    go_wp2
    go_ret
    exact ⟨by simp [freeB, b1], B1 _⟩

set_option maxRecDepth 100000 in
set_option maxHeartbeats 8000000 in
theorem rfree_c (m : Ms) (A : Option Addr) (c : Nat) (w : World) : Calls Tryd.prog 46 #[.agg #[.int .u8 m.id, .bool m.pl, .int .i64 m.sc, .slice A m.n c]] w fun r w' => r = .returned (.bool (freeB m)) ∧ Below w.heap.size w w' := by
  have B1 : ∀ cs : Array Value, Below w.heap.size w (w.alloc (.cells cs 34)) := fun cs => (Below.refl _ _).alloc (Nat.le_refl _) _
  by_cases h1 : m.id = 0
  · have a1 : (m.id == 0) = true := by simpa using h1
    have b1 : decide (m.id = 0) = true := by simpa using h1
    clear h1
    cases hp : m.pl with
    | true =>
      go_enter Tryd.func46, Tryd.ntmps46
      go_wp2
      go_ret
      exact ⟨by simp [freeB, b1, hp], B1 _⟩
    | false =>
      by_cases h2 : m.sc = 0
      · have a2 : (m.sc == 0) = true := by simpa using h2
        have b2 : decide (m.sc = 0) = true := by simpa using h2
        clear h2
        by_cases h5 : m.n = 0
        · have a5 : ((m.n : Int) == 0) = true := by simpa using h5
          have a6 : decide (m.n = 0) = true := by simpa using h5
          clear h5
          go_enter Tryd.func46, Tryd.ntmps46
          go_wp2
          go_ret
          exact ⟨by simp [freeB, b1, b2, hp, a6], B1 _⟩
        · have a5 : ((m.n : Int) == 0) = false := by simpa using h5
          have a6 : decide (m.n = 0) = false := by simpa using h5
          clear h5
          go_enter Tryd.func46, Tryd.ntmps46
          go_wp2
          go_ret
          exact ⟨by simp [freeB, b1, b2, hp, a6], B1 _⟩
      · have a2 : (m.sc == 0) = false := by simpa using h2
        have b2 : decide (m.sc = 0) = false := by simpa using h2
        clear h2
        go_enter Tryd.func46, Tryd.ntmps46
        go_wp2
        go_ret
        exact ⟨by simp [freeB, b1, b2, hp], B1 _⟩
  · have a1 : (m.id == 0) = false := by simpa using h1
    have b1 : decide (m.id = 0) = false := by simpa using h1
    clear h1
    go_enter Tryd.func46, Tryd.ntmps46
    go_wp2
    go_ret
    exact ⟨by simp [freeB, b1], B1 _⟩

set_option maxRecDepth 100000 in
set_option maxHeartbeats 8000000 in
theorem bad1_c (m : Ms) (A : Option Addr) (c : Nat) (w : World) : Calls Tryd.prog 43 #[.agg #[.int .u8 m.id, .bool m.pl, .int .i64 m.sc, .slice A m.n c]] w fun r w' => r = .returned (.bool (!rightB m)) ∧ Below w.heap.size w w' := by
  have B1 : ∀ cs : Array Value, Below w.heap.size w (w.alloc (.cells cs 34)) := fun cs => (Below.refl _ _).alloc (Nat.le_refl _) _
  have K := Blk.new w #[.int .u8 m.id, .bool m.pl, .int .i64 m.sc, .slice A m.n c] 34
  have RC := right_c m A c (w.alloc (.cells #[.int .u8 m.id, .bool m.pl, .int .i64 m.sc, .slice A m.n c] 34))
  go_enter Tryd.func43, Tryd.ntmps43
  go_wp2_with (first | (refine ldB K _ rfl rfl rfl rfl ?_) | (go_at_call 44; (with_reducible refine RC.mono ?_); rintro e w1 ⟨rfl, g⟩))
  go_ret
  exact ⟨rfl, bbT (B1 _) g⟩

set_option maxRecDepth 100000 in
set_option maxHeartbeats 8000000 in
theorem Index_c {w : World} {A : Option Addr} {c : Nat} {l : List Ms} (X : 0 < l.length → ∃ g o, A = some ⟨g, o, none⟩ ∧ BcsAt w g o l) (hl : l.length ≤ 10) : Calls Tryd.prog 52 #[.slice A l.length c, .func (.func 43) #[] #[]] w fun r w' => ∃ k : Int, r = .returned (.int .i64 k) ∧ decide (0 ≤ k) = !l.all rightB ∧ Below w.heap.size w w' := by
  have HX := Lib.hid X
  clear X
  have hl' : (l.length : Int) ≤ 10 := by omega
  have BC := bad1_c
  go_enter Tryd.func52, Tryd.ntmps52
  go_wp2
  go_loopw [8] (fun i wr => ∃ j : Nat, j ≤ l.length ∧ i = .int .i64 j ∧ (∀ k (h : k < l.length), k < j → rightB l[k] = true) ∧ Below w.heap.size w wr) (fun i _ => l.length - (intOf i).toNat)
  case atStart => exact ⟨0, Nat.zero_le _, rfl, fun k _ h => absurd h (Nat.not_lt_zero _), Below.refl _ _⟩
  case round =>
    obtain ⟨j, hj, rfl, hR, bb⟩ := hrel
    have HR := Lib.hid hR
    clear hR
    by_cases hlt : j < l.length
    · obtain ⟨g, o, rfl, XX⟩ := HX.out (by omega)
      obtain ⟨A', d, e0, e1, e2, e3, R⟩ := (XX j hlt).keep bb
      have hlt' : (j : Int) < (l.length : Int) := by omega
      have hj0 : (0 : Int) ≤ (j : Int) := by omega
      clear XX
      generalize hm : l[j] = m at *
      have Hm := Lib.hid hm
      clear hm R
      have BC1 := BC m A' d wr
      clear BC
      cases hr : rightB m with
      | true =>
        rw [hr] at BC1
        have Hr := Lib.hid hr
        clear hr
        go_wp2_with (first | (go_at_call 43; (with_reducible refine BC1.mono ?_); rintro e w1 ⟨rfl, g1⟩))
        exact ⟨⟨j + 1, by omega, by go_num, fun k hk hkj => (by
          by_cases h : k < j
          · exact HR.out k hk h
          · have : k = j := by omega
            subst this
            rw [Hm.out]; exact Hr.out), bbT bb g1⟩, by simp [intOf]; omega⟩
      | false =>
        rw [hr] at BC1
        have Hr := Lib.hid hr
        clear hr
        go_wp2_with (first | (go_at_call 43; (with_reducible refine BC1.mono ?_); rintro e w1 ⟨rfl, g1⟩))
        go_ret
        refine ⟨_, rfl, ?_, bbT bb g1⟩
        have : l.all rightB = false := by
          rw [Bool.eq_false_iff]
          intro h
          have := List.all_eq_true.1 h l[j] (List.getElem_mem hlt)
          rw [Hm.out, Hr.out] at this
          cases this
        rw [this]
        simp
    · obtain rfl : j = l.length := by omega
      go_wp2_with fail
      go_ret
      refine ⟨_, rfl, ?_, bb⟩
      have : l.all rightB = true := by
        rw [List.all_eq_true]
        intro x hx
        obtain ⟨k, hk, rfl⟩ := List.getElem_of_mem hx
        exact HR.out k hk hk
      rw [this]
      simp
set_option maxRecDepth 100000 in
set_option maxHeartbeats 8000000 in
theorem Contains_c {w : World} {A : Option Addr} {c : Nat} {l : List Ms} (X : 0 < l.length → ∃ g o, A = some ⟨g, o, none⟩ ∧ BcsAt w g o l) (hl : l.length ≤ 10) : Calls Tryd.prog 42 #[.slice A l.length c, .func (.func 43) #[] #[]] w fun r w' => r = .returned (.bool (!l.all rightB)) ∧ Below w.heap.size w w' := by
  have I := Index_c (c := c) X hl
  generalize (!l.all rightB) = B at *
  clear X
  go_enter Tryd.func42, Tryd.ntmps42
  go_wp2_with fail
  refine I.mono ?_; rintro r w1 ⟨k, rfl, hk, g⟩
  have Hk := Lib.hid hk
  clear hk I
  go_wp2_with fail
  go_ret
  exact ⟨by rw [← Hk.out]; rfl, g⟩

end Go.Proofs.YtekcemncmgingaaDoor.YErr
