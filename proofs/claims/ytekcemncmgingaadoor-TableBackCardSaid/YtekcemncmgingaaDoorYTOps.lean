/- Package table and the document's table: each operation at what is known of three slots. No condition. -/
import Derived.Test.YtekcemncmgingaaDoorYTRadd
namespace Go.Proofs.YtekcemncmgingaaDoor.YErr
open Go.RowKit Go.Extern.Stop Go.Stop Go.Extern
set_option linter.unusedVariables false
set_option linter.unusedSimpArgs false
structure T3 where
  a : Ms
  b : Ms
  c : Ms
def T3.get (s : T3) (k : Nat) : Ms := if k = 0 then s.a else if k = 1 then s.b else s.c
def T3.put (s : T3) (k : Nat) (m : Ms) : T3 := if k = 0 then ⟨m, s.b, s.c⟩ else if k = 1 then ⟨s.a, m, s.c⟩ else ⟨s.a, s.b, m⟩
def T3.find (s : T3) (id : Int) : Option Nat := if s.a.th = true ∧ s.a.id = id then some 0 else if s.b.th = true ∧ s.b.id = id then some 1 else if s.c.th = true ∧ s.c.id = id then some 2 else none
def T3.free (s : T3) : Option Nat := if s.a.th = false then some 0 else if s.b.th = false then some 1 else if s.c.th = false then some 2 else none
def T3.zero : T3 := ⟨Ms.zero, Ms.zero, Ms.zero⟩
def T3.list (s : T3) : List Ms := [s.a, s.b, s.c]
/-- What every slot is like. -/
def Good (m : Ms) : Prop := -8 ≤ m.sc ∧ m.sc ≤ 8 ∧ m.n ≤ 8
def T3.good (s : T3) : Prop := Good s.a ∧ Good s.b ∧ Good s.c
theorem T3.good.get {s : T3} (h : s.good) (k : Nat) : Good (s.get k) := by unfold T3.get; split; exact h.1; split; exact h.2.1; exact h.2.2
theorem T3.good.put {s : T3} (h : s.good) (k : Nat) {m : Ms} (hm : Good m) : (s.put k m).good := by unfold T3.put; split; exact ⟨hm, h.2⟩; split; exact ⟨h.1, hm, h.2.2⟩; exact ⟨h.1, h.2.1, hm⟩
theorem Good.zero : Good Ms.zero := ⟨by decide, by decide, by decide⟩
theorem Good.new (i : Int) : Good (Ms.new i) := ⟨by show (-8 : Int) ≤ 0; decide, by show (0 : Int) ≤ 8; decide, Nat.zero_le _⟩
def sl (m : Ms) (A : Option Addr) (c : Nat) : Sl := ⟨m.th, m.id, m.pl, m.sc, A, m.n, c⟩
/-- The program's table lies there, its ranges behind block B. -/
def PT (w : World) (p B : Nat) (s : T3) : Prop := ∃ A0 c0 A1 c1 A2 c2, Tb w p (sl s.a A0 c0) (sl s.b A1 c1) (sl s.c A2 c2) ∧ Own w B A0 s.a.n c0 s.a.L ∧ Own w B A1 s.b.n c1 s.b.L ∧ Own w B A2 s.c.n c2 s.c.L
/-- The document's table lies there, its ranges behind block B. -/
def RT (w : World) (p B : Nat) (s : T3) : Prop := ∃ A0 c0 A1 c1 A2 c2, Rt w p (sl s.a A0 c0) (sl s.b A1 c1) (sl s.c A2 c2) ∧ Own w B A0 s.a.n c0 s.a.L ∧ Own w B A1 s.b.n c1 s.b.L ∧ Own w B A2 s.c.n c2 s.c.L
theorem PT.keep {w w' : World} {p B : Nat} {s : T3} (h : PT w p B s) (g : Below w.heap.size w w') : PT w' p B s := by
  obtain ⟨A0, c0, A1, c1, A2, c2, T, S0, S1, S2⟩ := h
  exact ⟨A0, c0, A1, c1, A2, c2, T.keep g, S0.keep g, S1.keep g, S2.keep g⟩
theorem RT.keep {w w' : World} {p B : Nat} {s : T3} (h : RT w p B s) (g : Below w.heap.size w w') : RT w' p B s := by
  obtain ⟨A0, c0, A1, c1, A2, c2, T, S0, S1, S2⟩ := h
  exact ⟨A0, c0, A1, c1, A2, c2, T.keep g, S0.keep g, S1.keep g, S2.keep g⟩
theorem PT.one {w w' : World} {p q B : Nat} {s : T3} (h : PT w p B s) (g : One w w' q) (hq : q < B) (hp : p ≠ q) : PT w' p B s := by
  obtain ⟨A0, c0, A1, c1, A2, c2, T, S0, S1, S2⟩ := h
  exact ⟨A0, c0, A1, c1, A2, c2, (g.2.2.2.2 p (Blk.lt T) hp).trans T, S0.one hq g, S1.one hq g, S2.one hq g⟩
theorem RT.one {w w' : World} {p q B : Nat} {s : T3} (h : RT w p B s) (g : One w w' q) (hq : q < B) (hp : p ≠ q) : RT w' p B s := by
  obtain ⟨A0, c0, A1, c1, A2, c2, T, S0, S1, S2⟩ := h
  exact ⟨A0, c0, A1, c1, A2, c2, (g.2.2.2.2 p (Blk.lt T) hp).trans T, S0.one hq g, S1.one hq g, S2.one hq g⟩
theorem PT.lt {w : World} {p B : Nat} {s : T3} (h : PT w p B s) : p < w.heap.size := by
  obtain ⟨A0, c0, A1, c1, A2, c2, T, _⟩ := h
  exact Blk.lt T
theorem RT.lt {w : World} {p B : Nat} {s : T3} (h : RT w p B s) : p < w.heap.size := by
  obtain ⟨A0, c0, A1, c1, A2, c2, T, _⟩ := h
  exact Blk.lt T
theorem PT.new {w : World} {p B : Nat} (T : Tb w p Sl.none Sl.none Sl.none) : PT w p B T3.zero := ⟨none, 0, none, 0, none, 0, T, Own.nil _ _, Own.nil _ _, Own.nil _ _⟩
theorem RT.new {w : World} {p B : Nat} (T : Rt w p Sl.none Sl.none Sl.none) : RT w p B T3.zero := ⟨none, 0, none, 0, none, 0, T, Own.nil _ _, Own.nil _ _, Own.nil _ _⟩
def slotN (s : T3) (id : Int) : Nat := (s.find id).getD 0
def slotB (s : T3) (id : Int) : Bool := (s.find id).isSome

theorem Slot_t {w : World} {p B : Nat} {s : T3} (h : PT w p B s) (id : Int) : Calls Tryd.prog 24 #[.pointer (some ⟨p, 0, none⟩), .int .u8 id] w fun r w' => r = .returned (.tuple #[.int .i64 (slotN s id), .bool (slotB s id)]) ∧ Below w.heap.size w w' := by
  obtain ⟨A0, c0, A1, c1, A2, c2, T, S0, S1, S2⟩ := h
  cases ha : s.a.th with
  | false =>
    cases hb : s.b.th with
    | false =>
      cases hc : s.c.th with
      | false =>
        have e : s.find id = none := by simp [T3.find, ha, hb, hc]
        unfold slotN slotB; rw [e]
        exact Slot_FFF T ha hb hc
      | true =>
        by_cases ic : s.c.id = id
        · have e : s.find id = some 2 := by simp [T3.find, ha, hb, hc, ic]
          unfold slotN slotB; rw [e]
          exact Slot_FFY T ha hb hc ic
        · have e : s.find id = none := by simp [T3.find, ha, hb, hc, ic]
          unfold slotN slotB; rw [e]
          exact Slot_FFN T ha hb hc ic
    | true =>
      by_cases ib : s.b.id = id
      · have e : s.find id = some 1 := by simp [T3.find, ha, hb, ib]
        unfold slotN slotB; rw [e]
        exact Slot_FY T ha hb ib
      · cases hc : s.c.th with
        | false =>
          have e : s.find id = none := by simp [T3.find, ha, hb, ib, hc]
          unfold slotN slotB; rw [e]
          exact Slot_FNF T ha hb ib hc
        | true =>
          by_cases ic : s.c.id = id
          · have e : s.find id = some 2 := by simp [T3.find, ha, hb, ib, hc, ic]
            unfold slotN slotB; rw [e]
            exact Slot_FNY T ha hb ib hc ic
          · have e : s.find id = none := by simp [T3.find, ha, hb, ib, hc, ic]
            unfold slotN slotB; rw [e]
            exact Slot_FNN T ha hb ib hc ic
  | true =>
    by_cases ia : s.a.id = id
    · have e : s.find id = some 0 := by simp [T3.find, ha, ia]
      unfold slotN slotB; rw [e]
      exact Slot_Y T ha ia
    · cases hb : s.b.th with
      | false =>
        cases hc : s.c.th with
        | false =>
          have e : s.find id = none := by simp [T3.find, ha, ia, hb, hc]
          unfold slotN slotB; rw [e]
          exact Slot_NFF T ha ia hb hc
        | true =>
          by_cases ic : s.c.id = id
          · have e : s.find id = some 2 := by simp [T3.find, ha, ia, hb, hc, ic]
            unfold slotN slotB; rw [e]
            exact Slot_NFY T ha ia hb hc ic
          · have e : s.find id = none := by simp [T3.find, ha, ia, hb, hc, ic]
            unfold slotN slotB; rw [e]
            exact Slot_NFN T ha ia hb hc ic
      | true =>
        by_cases ib : s.b.id = id
        · have e : s.find id = some 1 := by simp [T3.find, ha, ia, hb, ib]
          unfold slotN slotB; rw [e]
          exact Slot_NY T ha ia hb ib
        · cases hc : s.c.th with
          | false =>
            have e : s.find id = none := by simp [T3.find, ha, ia, hb, ib, hc]
            unfold slotN slotB; rw [e]
            exact Slot_NNF T ha ia hb ib hc
          | true =>
            by_cases ic : s.c.id = id
            · have e : s.find id = some 2 := by simp [T3.find, ha, ia, hb, ib, hc, ic]
              unfold slotN slotB; rw [e]
              exact Slot_NNY T ha ia hb ib hc ic
            · have e : s.find id = none := by simp [T3.find, ha, ia, hb, ib, hc, ic]
              unfold slotN slotB; rw [e]
              exact Slot_NNN T ha ia hb ib hc ic

theorem RSlot_t {w : World} {p B : Nat} {s : T3} (h : RT w p B s) (id : Int) : Calls Tryd.prog 25 #[.pointer (some ⟨p, 0, none⟩), .int .u8 id] w fun r w' => r = .returned (.tuple #[.int .i64 (slotN s id), .bool (slotB s id)]) ∧ w' = w := by
  obtain ⟨A0, c0, A1, c1, A2, c2, T, S0, S1, S2⟩ := h
  cases ha : s.a.th with
  | false =>
    cases hb : s.b.th with
    | false =>
      cases hc : s.c.th with
      | false =>
        have e : s.find id = none := by simp [T3.find, ha, hb, hc]
        unfold slotN slotB; rw [e]
        exact RSlot_FFF T ha hb hc
      | true =>
        by_cases ic : s.c.id = id
        · have e : s.find id = some 2 := by simp [T3.find, ha, hb, hc, ic]
          unfold slotN slotB; rw [e]
          exact RSlot_FFY T ha hb hc ic
        · have e : s.find id = none := by simp [T3.find, ha, hb, hc, ic]
          unfold slotN slotB; rw [e]
          exact RSlot_FFN T ha hb hc ic
    | true =>
      by_cases ib : s.b.id = id
      · have e : s.find id = some 1 := by simp [T3.find, ha, hb, ib]
        unfold slotN slotB; rw [e]
        exact RSlot_FY T ha hb ib
      · cases hc : s.c.th with
        | false =>
          have e : s.find id = none := by simp [T3.find, ha, hb, ib, hc]
          unfold slotN slotB; rw [e]
          exact RSlot_FNF T ha hb ib hc
        | true =>
          by_cases ic : s.c.id = id
          · have e : s.find id = some 2 := by simp [T3.find, ha, hb, ib, hc, ic]
            unfold slotN slotB; rw [e]
            exact RSlot_FNY T ha hb ib hc ic
          · have e : s.find id = none := by simp [T3.find, ha, hb, ib, hc, ic]
            unfold slotN slotB; rw [e]
            exact RSlot_FNN T ha hb ib hc ic
  | true =>
    by_cases ia : s.a.id = id
    · have e : s.find id = some 0 := by simp [T3.find, ha, ia]
      unfold slotN slotB; rw [e]
      exact RSlot_Y T ha ia
    · cases hb : s.b.th with
      | false =>
        cases hc : s.c.th with
        | false =>
          have e : s.find id = none := by simp [T3.find, ha, ia, hb, hc]
          unfold slotN slotB; rw [e]
          exact RSlot_NFF T ha ia hb hc
        | true =>
          by_cases ic : s.c.id = id
          · have e : s.find id = some 2 := by simp [T3.find, ha, ia, hb, hc, ic]
            unfold slotN slotB; rw [e]
            exact RSlot_NFY T ha ia hb hc ic
          · have e : s.find id = none := by simp [T3.find, ha, ia, hb, hc, ic]
            unfold slotN slotB; rw [e]
            exact RSlot_NFN T ha ia hb hc ic
      | true =>
        by_cases ib : s.b.id = id
        · have e : s.find id = some 1 := by simp [T3.find, ha, ia, hb, ib]
          unfold slotN slotB; rw [e]
          exact RSlot_NY T ha ia hb ib
        · cases hc : s.c.th with
          | false =>
            have e : s.find id = none := by simp [T3.find, ha, ia, hb, ib, hc]
            unfold slotN slotB; rw [e]
            exact RSlot_NNF T ha ia hb ib hc
          | true =>
            by_cases ic : s.c.id = id
            · have e : s.find id = some 2 := by simp [T3.find, ha, ia, hb, ib, hc, ic]
              unfold slotN slotB; rw [e]
              exact RSlot_NNY T ha ia hb ib hc ic
            · have e : s.find id = none := by simp [T3.find, ha, ia, hb, ib, hc, ic]
              unfold slotN slotB; rw [e]
              exact RSlot_NNN T ha ia hb ib hc ic

def seeK (s : T3) (id : Int) : Nat := match s.find id with | some k => k | none => (match s.free with | some k => k | none => 0)
def seeC (s : T3) (id : Int) : Int := match s.find id with | some _ => 0 | none => (match s.free with | some _ => 0 | none => 35)
def seeS (s : T3) (id : Int) : T3 := match s.find id with | some _ => s | none => (match s.free with | some k => s.put k (Ms.new id) | none => s)
theorem seeS_good {s : T3} (h : s.good) (id : Int) : (seeS s id).good := by
  unfold seeS
  split
  · exact h
  · split
    · exact h.put _ (Good.new id)
    · exact h
def dropC (s : T3) (id : Int) : Int := match s.find id with | some _ => 0 | none => 36
def dropS (s : T3) (id : Int) : T3 := match s.find id with | some k => s.put k Ms.zero | none => s
theorem dropS_good {s : T3} (h : s.good) (id : Int) : (dropS s id).good := by
  unfold dropS
  split
  · exact h.put _ Good.zero
  · exact h
theorem find_cases (s : T3) (id : Int) : s.find id = some 0 ∨ s.find id = some 1 ∨ s.find id = some 2 ∨ s.find id = none := by
  unfold T3.find
  split; simp; split; simp; split <;> simp
theorem slot_some {s : T3} {id : Int} {k : Nat} (e : s.find id = some k) : slotN s id = k ∧ slotB s id = true := by unfold slotN slotB; rw [e]; exact ⟨rfl, rfl⟩
theorem slot_none {s : T3} {id : Int} (e : s.find id = none) : slotN s id = 0 ∧ slotB s id = false := by unfold slotN slotB; rw [e]; exact ⟨rfl, rfl⟩

theorem See_t {w : World} {p B : Nat} {s : T3} (h : PT w p B s) (hp : p < B) (id : Int) : Calls Tryd.prog 10 #[.pointer (some ⟨p, 0, none⟩), .int .u8 id] w fun r w' => ∃ v, r = .returned (.tuple #[.int .i64 (seeK s id), v]) ∧ ErrIs op24 w' v (seeC s id) ∧ PT w' p B (seeS s id) ∧ One w w' p := by
  have hS := Slot_t h id
  rcases find_cases s id with e | ho
  · obtain ⟨e1, e2⟩ := slot_some e
    rw [e1, e2] at hS
    refine (See_found (k := 0) hS).mono ?_
    rintro r w' ⟨rfl, g⟩
    unfold seeK seeC seeS
    rw [e]
    exact ⟨_, rfl, ErrIs.nil _ _, h.keep g, One.of g⟩
  rcases ho with e | ho
  · obtain ⟨e1, e2⟩ := slot_some e
    rw [e1, e2] at hS
    refine (See_found (k := 1) hS).mono ?_
    rintro r w' ⟨rfl, g⟩
    unfold seeK seeC seeS
    rw [e]
    exact ⟨_, rfl, ErrIs.nil _ _, h.keep g, One.of g⟩
  rcases ho with e | ho
  · obtain ⟨e1, e2⟩ := slot_some e
    rw [e1, e2] at hS
    refine (See_found (k := 2) hS).mono ?_
    rintro r w' ⟨rfl, g⟩
    unfold seeK seeC seeS
    rw [e]
    exact ⟨_, rfl, ErrIs.nil _ _, h.keep g, One.of g⟩
  have e := ho
  obtain ⟨e1, e2⟩ := slot_none e
  rw [e1, e2] at hS
  unfold seeK seeC seeS
  rw [e]
  obtain ⟨A0, c0, A1, c1, A2, c2, T, S0, S1, S2⟩ := (show _ from h)
  cases ha : s.a.th with
  | false =>
    have f : s.free = some 0 := by simp [T3.free, ha]
    rw [f]
    refine (See_free0 T ha hS).mono ?_
    rintro r w' ⟨rfl, T', g⟩
    exact ⟨_, rfl, ErrIs.nil _ _, ⟨none, 0, A1, c1, A2, c2, T', Own.nil _ _, S1.one hp g, S2.one hp g⟩, g⟩
  | true =>
    cases hb : s.b.th with
    | false =>
      have f : s.free = some 1 := by simp [T3.free, ha, hb]
      rw [f]
      refine (See_free1 T ha hb hS).mono ?_
      rintro r w' ⟨rfl, T', g⟩
      exact ⟨_, rfl, ErrIs.nil _ _, ⟨A0, c0, none, 0, A2, c2, T', S0.one hp g, Own.nil _ _, S2.one hp g⟩, g⟩
    | true =>
      cases hc : s.c.th with
      | false =>
        have f : s.free = some 2 := by simp [T3.free, ha, hb, hc]
        rw [f]
        refine (See_free2 T ha hb hc hS).mono ?_
        rintro r w' ⟨rfl, T', g⟩
        exact ⟨_, rfl, ErrIs.nil _ _, ⟨A0, c0, A1, c1, none, 0, T', S0.one hp g, S1.one hp g, Own.nil _ _⟩, g⟩
      | true =>
        have f : s.free = none := by simp [T3.free, ha, hb, hc]
        rw [f]
        refine (See_full T ha hb hc hS).mono ?_
        rintro r w' ⟨v, rfl, hv, g⟩
        exact ⟨v, rfl, hv, h.keep g, One.of g⟩

theorem Drop_t {w : World} {p B : Nat} {s : T3} (h : PT w p B s) (hp : p < B) (id : Int) : Calls Tryd.prog 15 #[.pointer (some ⟨p, 0, none⟩), .int .u8 id] w fun r w' => ∃ v, r = .returned v ∧ ErrIs op24 w' v (dropC s id) ∧ PT w' p B (dropS s id) ∧ One w w' p := by
  have hS := Slot_t h id
  obtain ⟨A0, c0, A1, c1, A2, c2, T, S0, S1, S2⟩ := (show _ from h)
  rcases find_cases s id with e | ho
  · obtain ⟨e1, e2⟩ := slot_some e
    rw [e1, e2] at hS
    unfold dropC dropS
    rw [e]
    refine (Drop_0 T hS).mono ?_
    rintro r w' ⟨rfl, T', g⟩
    exact ⟨_, rfl, ErrIs.nil _ _, ⟨none, 0, A1, c1, A2, c2, T', Own.nil _ _, S1.one hp g, S2.one hp g⟩, g⟩
  rcases ho with e | ho
  · obtain ⟨e1, e2⟩ := slot_some e
    rw [e1, e2] at hS
    unfold dropC dropS
    rw [e]
    refine (Drop_1 T hS).mono ?_
    rintro r w' ⟨rfl, T', g⟩
    exact ⟨_, rfl, ErrIs.nil _ _, ⟨A0, c0, none, 0, A2, c2, T', S0.one hp g, Own.nil _ _, S2.one hp g⟩, g⟩
  rcases ho with e | ho
  · obtain ⟨e1, e2⟩ := slot_some e
    rw [e1, e2] at hS
    unfold dropC dropS
    rw [e]
    refine (Drop_2 T hS).mono ?_
    rintro r w' ⟨rfl, T', g⟩
    exact ⟨_, rfl, ErrIs.nil _ _, ⟨A0, c0, A1, c1, none, 0, T', S0.one hp g, S1.one hp g, Own.nil _ _⟩, g⟩
  have e := ho
  obtain ⟨e1, e2⟩ := slot_none e
  rw [e1, e2] at hS
  unfold dropC dropS
  rw [e]
  refine (Drop_none hS).mono ?_
  rintro r w' ⟨v, rfl, hv, g⟩
  exact ⟨v, rfl, hv, h.keep g, One.of g⟩

theorem RSee_t {w : World} {p B : Nat} {s : T3} (h : RT w p B s) (hp : p < B) (id : Int) : Calls Tryd.prog 23 #[.pointer (some ⟨p, 0, none⟩), .int .u8 id] w fun r w' => r = .returned (.tuple #[.int .i64 (seeK s id), .int .i64 (seeC s id)]) ∧ RT w' p B (seeS s id) ∧ One w w' p := by
  have hS := RSlot_t h id
  rcases find_cases s id with e | ho
  · obtain ⟨e1, e2⟩ := slot_some e
    rw [e1, e2] at hS
    refine (RSee_found (k := 0) hS).mono ?_
    rintro r w' ⟨rfl, rfl⟩
    unfold seeK seeC seeS
    rw [e]
    exact ⟨rfl, h, One.refl _ _⟩
  rcases ho with e | ho
  · obtain ⟨e1, e2⟩ := slot_some e
    rw [e1, e2] at hS
    refine (RSee_found (k := 1) hS).mono ?_
    rintro r w' ⟨rfl, rfl⟩
    unfold seeK seeC seeS
    rw [e]
    exact ⟨rfl, h, One.refl _ _⟩
  rcases ho with e | ho
  · obtain ⟨e1, e2⟩ := slot_some e
    rw [e1, e2] at hS
    refine (RSee_found (k := 2) hS).mono ?_
    rintro r w' ⟨rfl, rfl⟩
    unfold seeK seeC seeS
    rw [e]
    exact ⟨rfl, h, One.refl _ _⟩
  have e := ho
  obtain ⟨e1, e2⟩ := slot_none e
  rw [e1, e2] at hS
  unfold seeK seeC seeS
  rw [e]
  obtain ⟨A0, c0, A1, c1, A2, c2, T, S0, S1, S2⟩ := (show _ from h)
  cases ha : s.a.th with
  | false =>
    have f : s.free = some 0 := by simp [T3.free, ha]
    rw [f]
    refine (RSee_free0 T ha hS).mono ?_
    rintro r w' ⟨rfl, T', g⟩
    exact ⟨rfl, ⟨none, 0, A1, c1, A2, c2, T', Own.nil _ _, S1.one hp g, S2.one hp g⟩, g⟩
  | true =>
    cases hb : s.b.th with
    | false =>
      have f : s.free = some 1 := by simp [T3.free, ha, hb]
      rw [f]
      refine (RSee_free1 T ha hb hS).mono ?_
      rintro r w' ⟨rfl, T', g⟩
      exact ⟨rfl, ⟨A0, c0, none, 0, A2, c2, T', S0.one hp g, Own.nil _ _, S2.one hp g⟩, g⟩
    | true =>
      cases hc : s.c.th with
      | false =>
        have f : s.free = some 2 := by simp [T3.free, ha, hb, hc]
        rw [f]
        refine (RSee_free2 T ha hb hc hS).mono ?_
        rintro r w' ⟨rfl, T', g⟩
        exact ⟨rfl, ⟨A0, c0, A1, c1, none, 0, T', S0.one hp g, S1.one hp g, Own.nil _ _⟩, g⟩
      | true =>
        have f : s.free = none := by simp [T3.free, ha, hb, hc]
        rw [f]
        refine (RSee_full T ha hb hc hS).mono ?_
        rintro r w' ⟨rfl, rfl⟩
        exact ⟨rfl, h, One.refl _ _⟩

theorem RDrop_t {w : World} {p B : Nat} {s : T3} (h : RT w p B s) (hp : p < B) (id : Int) : Calls Tryd.prog 22 #[.pointer (some ⟨p, 0, none⟩), .int .u8 id] w fun r w' => r = .returned (.int .i64 (dropC s id)) ∧ RT w' p B (dropS s id) ∧ One w w' p := by
  have hS := RSlot_t h id
  obtain ⟨A0, c0, A1, c1, A2, c2, T, S0, S1, S2⟩ := (show _ from h)
  rcases find_cases s id with e | ho
  · obtain ⟨e1, e2⟩ := slot_some e
    rw [e1, e2] at hS
    unfold dropC dropS
    rw [e]
    refine (RDrop_0 T hS).mono ?_
    rintro r w' ⟨rfl, T', g⟩
    exact ⟨rfl, ⟨none, 0, A1, c1, A2, c2, T', Own.nil _ _, S1.one hp g, S2.one hp g⟩, g⟩
  rcases ho with e | ho
  · obtain ⟨e1, e2⟩ := slot_some e
    rw [e1, e2] at hS
    unfold dropC dropS
    rw [e]
    refine (RDrop_1 T hS).mono ?_
    rintro r w' ⟨rfl, T', g⟩
    exact ⟨rfl, ⟨A0, c0, none, 0, A2, c2, T', S0.one hp g, Own.nil _ _, S2.one hp g⟩, g⟩
  rcases ho with e | ho
  · obtain ⟨e1, e2⟩ := slot_some e
    rw [e1, e2] at hS
    unfold dropC dropS
    rw [e]
    refine (RDrop_2 T hS).mono ?_
    rintro r w' ⟨rfl, T', g⟩
    exact ⟨rfl, ⟨A0, c0, A1, c1, none, 0, T', S0.one hp g, S1.one hp g, Own.nil _ _⟩, g⟩
  have e := ho
  obtain ⟨e1, e2⟩ := slot_none e
  rw [e1, e2] at hS
  unfold dropC dropS
  rw [e]
  refine (RDrop_none hS).mono ?_
  rintro r w' ⟨rfl, rfl⟩
  exact ⟨rfl, h, One.refl _ _⟩

/-- Is there a beacon in a slot, whatever its number? -/
def hasB (s : T3) (k : Int) : Bool := if k = 0 then s.a.th else if k = 1 then s.b.th else if k = 2 then s.c.th else false
theorem has_at {s : T3} {k : Int} (h : hasB s k = true) : (k = 0 ∧ s.a.th = true) ∨ (k = 1 ∧ s.b.th = true) ∨ (k = 2 ∧ s.c.th = true) := by
  unfold hasB at h
  split at h
  · exact .inl ⟨by assumption, h⟩
  · split at h
    · exact .inr (.inl ⟨by assumption, h⟩)
    · split at h
      · exact .inr (.inr ⟨by assumption, h⟩)
      · cases h

set_option maxRecDepth 100000 in
set_option maxHeartbeats 8000000 in
theorem is_out {p : Nat} {k : Int} {w : World} (h : k < 0 ∨ 3 ≤ k) : Calls Tryd.prog 33 #[.pointer (some ⟨p, 0, none⟩), .int .i64 k] w fun r w' => r = .returned (.bool false) ∧ w' = w := by
  rcases h with h | h
  · have e : decide (0 ≤ k) = false := by simpa using h
    go_enter Tryd.func33, Tryd.ntmps33
    go_wp2
    go_ret
    exact ⟨rfl, rfl⟩
  · have e0 : decide (0 ≤ k) = true := by simp; omega
    have e : decide (k < 3) = false := by simpa using h
    go_enter Tryd.func33, Tryd.ntmps33
    go_wp2
    go_ret
    exact ⟨rfl, rfl⟩

theorem is_t {w : World} {p B : Nat} {s : T3} (h : PT w p B s) (k : Int) : Calls Tryd.prog 33 #[.pointer (some ⟨p, 0, none⟩), .int .i64 k] w fun r w' => r = .returned (.bool (hasB s k)) ∧ w' = w := by
  obtain ⟨A0, c0, A1, c1, A2, c2, T, S0, S1, S2⟩ := (show _ from h)
  unfold hasB
  by_cases h0 : k = 0
  · subst h0; exact is_0 T
  by_cases h1 : k = 1
  · subst h1; exact is_1 T
  by_cases h2 : k = 2
  · subst h2; exact is_2 T
  rw [if_neg h0, if_neg h1, if_neg h2]
  exact is_out (by omega)

theorem RHas_t {w : World} {p B : Nat} {s : T3} (h : RT w p B s) (k : Int) : Calls Tryd.prog 40 #[.pointer (some ⟨p, 0, none⟩), .int .i64 k] w fun r w' => r = .returned (.bool (hasB s k)) ∧ w' = w := by
  obtain ⟨A0, c0, A1, c1, A2, c2, T, S0, S1, S2⟩ := (show _ from h)
  unfold hasB
  by_cases h0 : k = 0
  · subst h0; exact RHas_0 T
  by_cases h1 : k = 1
  · subst h1; exact RHas_1 T
  by_cases h2 : k = 2
  · subst h2; exact RHas_2 T
  rw [if_neg h0, if_neg h1, if_neg h2]
  exact RHas_out (a := sl s.a A0 c0) (b := sl s.b A1 c1) (c := sl s.c A2 c2) (by omega)

set_option maxRecDepth 100000 in
set_option maxHeartbeats 8000000 in
theorem open_no {p : Nat} {k : Int} {w : World} (hI : ∀ W, Below w.heap.size w W → Calls Tryd.prog 33 #[.pointer (some ⟨p, 0, none⟩), .int .i64 k] W fun r w' => r = .returned (.bool false) ∧ w' = W) : Calls Tryd.prog 38 #[.pointer (some ⟨p, 0, none⟩), .int .i64 k] w fun r w' => ∃ v, r = .returned v ∧ ErrIs op24 w' v 36 ∧ Below w.heap.size w w' := by
  go_enter Tryd.func38, Tryd.ntmps38
  go_wp2_with fail
  refine (hI _ (Below.refl _ _)).mono ?_; rintro r w1 ⟨rfl, rfl⟩
  go_wp2_with fail
  refine (bad_c 36 (by decide) _).mono ?_; rintro r w2 ⟨v, rfl, hv, g2⟩
  go_wp2_with fail
  go_ret
  exact ⟨v, rfl, hv, g2⟩

set_option maxRecDepth 100000 in
set_option maxHeartbeats 8000000 in
theorem Score_no {p : Nat} {k : Int} {w : World} (x : Bool) (hI : ∀ W, Below w.heap.size w W → Calls Tryd.prog 33 #[.pointer (some ⟨p, 0, none⟩), .int .i64 k] W fun r w' => r = .returned (.bool false) ∧ w' = W) : Calls Tryd.prog 11 #[.pointer (some ⟨p, 0, none⟩), .int .i64 k, .bool x] w fun r w' => ∃ v, r = .returned (.tuple #[.int .i64 0, v]) ∧ ErrIs op24 w' v 36 ∧ Below w.heap.size w w' := by
  go_enter Tryd.func11, Tryd.ntmps11
  go_wp2_with fail
  refine (hI _ (Below.refl _ _)).mono ?_; rintro r w1 ⟨rfl, rfl⟩
  go_wp2_with fail
  refine (bad_c 36 (by decide) _).mono ?_; rintro r w2 ⟨v, rfl, hv, g2⟩
  go_wp2_with fail
  go_ret2
  exact ⟨v, rfl, hv, g2⟩

set_option maxRecDepth 100000 in
set_option maxHeartbeats 8000000 in
theorem Set_err {p : Nat} {k c : Int} {w : World} (hc : c ≠ 0) (hO : ∀ W, Below w.heap.size w W → Calls Tryd.prog 38 #[.pointer (some ⟨p, 0, none⟩), .int .i64 k] W fun r w' => ∃ v, r = .returned v ∧ ErrIs op24 w' v c ∧ Below W.heap.size W w') : Calls Tryd.prog 16 #[.pointer (some ⟨p, 0, none⟩), .int .i64 k] w fun r w' => ∃ v, r = .returned v ∧ ErrIs op24 w' v c ∧ Below w.heap.size w w' := by
  go_enter Tryd.func16, Tryd.ntmps16
  go_wp2_with fail
  refine (hO _ (Below.refl _ _)).mono ?_; rintro r w1 ⟨v, rfl, hv, g⟩
  obtain ⟨u, rfl⟩ := hv.some hc
  go_wp2_with fail
  go_ret
  exact ⟨_, rfl, hv, g⟩

set_option maxRecDepth 100000 in
set_option maxHeartbeats 8000000 in
theorem Keep_err {p : Nat} {k c x y r : Int} {w : World} (hc : c ≠ 0) (hO : ∀ W, Below w.heap.size w W → Calls Tryd.prog 38 #[.pointer (some ⟨p, 0, none⟩), .int .i64 k] W fun r w' => ∃ v, r = .returned v ∧ ErrIs op24 w' v c ∧ Below W.heap.size W w') : Calls Tryd.prog 17 #[.pointer (some ⟨p, 0, none⟩), .int .i64 k, .agg #[.int .i64 x, .int .i64 y], .int .i64 r] w fun e w' => ∃ v, e = .returned v ∧ ErrIs op24 w' v c ∧ Below w.heap.size w w' := by
  have B1 : Below w.heap.size w (w.alloc (.cells #[.int .i64 x, .int .i64 y] 46)) := (Below.refl _ _).alloc (Nat.le_refl _) _
  have O := hO _ B1
  go_enter Tryd.func17, Tryd.ntmps17
  go_wp2_with fail
  refine O.mono ?_; rintro r w1 ⟨v, rfl, hv, g⟩
  obtain ⟨u, rfl⟩ := hv.some hc
  go_wp2_with fail
  go_ret
  exact ⟨_, rfl, hv, bbT B1 g⟩

set_option maxRecDepth 100000 in
set_option maxHeartbeats 8000000 in
theorem Keep_okB0 {a b c : Sl} {p B : Nat} {L : List Int} {w : World} (T : Tb w p a b c) (h : a.th = true) (hp : a.pl = false) (S : Own w B a.sa a.sn a.cp L) (hB : p < B) (hW : B ≤ w.heap.size) (hn : a.sn ≤ 8) (x y r : Int) : Calls Tryd.prog 17 #[.pointer (some ⟨p, 0, none⟩), .int .i64 0, .agg #[.int .i64 x, .int .i64 y], .int .i64 r] w fun e w' => e = .returned .nilIface ∧ (∃ A' c', Tb w' p ⟨a.th, a.id, a.pl, a.sc, A', more a.sn, c'⟩ b c ∧ Own w' B A' (more a.sn) c' (kept a.sn L ++ [x, y, r])) ∧ One w w' p := by
  have O := fun W (g : Below w.heap.size w W) => open_ok0 (T.keep g) h hp
  have AD := fun W (g : Below w.heap.size w W) => Add_own (S.keep g) hn x y r
  have zp := Blk.lt T
  go_enter Tryd.func17, Tryd.ntmps17
  go_wp2_with fail
  refine (O _ (by repeat (first | exact Below.refl _ _ | refine Below.drew ?_ | refine Below.alloc ?_ (by simp <;> omega) _))).mono ?_; rintro r w1 ⟨rfl, e1⟩
  subst e1
  have T1 := Blk.keep T (show Below w.heap.size w (w.alloc (.cells #[.int .i64 x, .int .i64 y] 46)) from (by repeat (first | exact Below.refl _ _ | refine Below.drew ?_ | refine Below.alloc ?_ (by simp <;> omega) _)))
  have q4 := (Blk.cell T1 4).trans (show _ = some (.slice a.sa a.sn a.cp) from rfl)
  clear T1 O
  go_wp2_with fail
  go_region_law (first
    | (go_simp; go_at_call 39; refine (AD _ (by repeat (first | exact Below.refl _ _ | refine Below.drew ?_ | refine Below.alloc ?_ (by simp <;> omega) _))).mono ?_; rintro e w4 ⟨A', c', rfl, S4, g4⟩
       have B4 : Below w.heap.size w w4 := Below.trans (by repeat (first | exact Below.refl _ _ | refine Below.drew ?_ | refine Below.alloc ?_ (by simp <;> omega) _)) (g4.mono (by simp <;> omega))
       have q4' := (Blk.cell (Blk.keep T B4) 4).trans (show _ = some _ from rfl)
       have f4 := Blk.free (Blk.keep T B4) 4
       have S5 := Own.mono S4 (show B ≤ _ by simp <;> omega)))
  all_goals go_wp2
  all_goals go_ret
  all_goals exact ⟨rfl, ⟨A', c', Blk.set (Blk.keep T B4) 4 _, Own.far S5 (fun k hk => Below.heap_setCell _ _ _ _ (by simp; omega))⟩, One.set (One.of B4) 4 _⟩

set_option maxRecDepth 100000 in
set_option maxHeartbeats 8000000 in
theorem RKeep_okB0 {a b c : Sl} {p B : Nat} {L : List Int} {w : World} (T : Rt w p a b c) (h : a.th = true) (hp : a.pl = false) (S : Own w B a.sa a.sn a.cp L) (hB : p < B) (hW : B ≤ w.heap.size) (hn : a.sn ≤ 8) (x y r : Int) : Calls Tryd.prog 19 #[.pointer (some ⟨p, 0, none⟩), .int .i64 0, .agg #[.int .i64 x, .int .i64 y], .int .i64 r] w fun e w' => e = .returned (.int .i64 0) ∧ (∃ A' c', Rt w' p ⟨a.th, a.id, a.pl, a.sc, A', more a.sn, c'⟩ b c ∧ Own w' B A' (more a.sn) c' (kept a.sn L ++ [x, y, r])) ∧ One w w' p := by
  have O := fun W (g : Below w.heap.size w W) => RHas_0 (Rt.keep T g)
  rw [h] at O
  have AD := fun W (g : Below w.heap.size w W) => RAdd_own (S.keep g) hn x y r
  have zp := Blk.lt T
  go_enter Tryd.func19, Tryd.ntmps19
  go_wp2_with fail
  refine (O _ (by repeat (first | exact Below.refl _ _ | refine Below.drew ?_ | refine Below.alloc ?_ (by simp <;> omega) _))).mono ?_; rintro r w1 ⟨rfl, e1⟩
  subst e1
  have T1 := Blk.keep T (show Below w.heap.size w (w.alloc (.cells #[.int .i64 x, .int .i64 y] 46)) from (by repeat (first | exact Below.refl _ _ | refine Below.drew ?_ | refine Below.alloc ?_ (by simp <;> omega) _)))
  have q1 := (Blk.cell T1 1).trans (show _ = some (.bool a.pl) from rfl)
  have q4 := (Blk.cell T1 3).trans (show _ = some (.slice a.sa a.sn a.cp) from rfl)
  clear T1 O
  go_wp2_with fail
  go_region_law (first
    | (go_simp; go_at_call 41; refine (AD _ (by repeat (first | exact Below.refl _ _ | refine Below.drew ?_ | refine Below.alloc ?_ (by simp <;> omega) _))).mono ?_; rintro e w4 ⟨A', c', rfl, S4, g4⟩
       have B4 : Below w.heap.size w w4 := Below.trans (by repeat (first | exact Below.refl _ _ | refine Below.drew ?_ | refine Below.alloc ?_ (by simp <;> omega) _)) (g4.mono (by simp <;> omega))
       have q4' := (Blk.cell (Blk.keep T B4) 3).trans (show _ = some _ from rfl)
       have f4 := Blk.free (Blk.keep T B4) 3
       have S5 := Own.mono S4 (show B ≤ _ by simp <;> omega)))
  all_goals go_wp2
  all_goals go_ret
  all_goals exact ⟨rfl, ⟨A', c', Blk.set (Blk.keep T B4) 3 _, Own.far S5 (fun k hk => Below.heap_setCell _ _ _ _ (by simp; omega))⟩, One.set (One.of B4) 3 _⟩

set_option maxRecDepth 100000 in
set_option maxHeartbeats 8000000 in
theorem Keep_okB1 {a b c : Sl} {p B : Nat} {L : List Int} {w : World} (T : Tb w p a b c) (h : b.th = true) (hp : b.pl = false) (S : Own w B b.sa b.sn b.cp L) (hB : p < B) (hW : B ≤ w.heap.size) (hn : b.sn ≤ 8) (x y r : Int) : Calls Tryd.prog 17 #[.pointer (some ⟨p, 0, none⟩), .int .i64 1, .agg #[.int .i64 x, .int .i64 y], .int .i64 r] w fun e w' => e = .returned .nilIface ∧ (∃ A' c', Tb w' p a ⟨b.th, b.id, b.pl, b.sc, A', more b.sn, c'⟩ c ∧ Own w' B A' (more b.sn) c' (kept b.sn L ++ [x, y, r])) ∧ One w w' p := by
  have O := fun W (g : Below w.heap.size w W) => open_ok1 (T.keep g) h hp
  have AD := fun W (g : Below w.heap.size w W) => Add_own (S.keep g) hn x y r
  have zp := Blk.lt T
  go_enter Tryd.func17, Tryd.ntmps17
  go_wp2_with fail
  refine (O _ (by repeat (first | exact Below.refl _ _ | refine Below.drew ?_ | refine Below.alloc ?_ (by simp <;> omega) _))).mono ?_; rintro r w1 ⟨rfl, e1⟩
  subst e1
  have T1 := Blk.keep T (show Below w.heap.size w (w.alloc (.cells #[.int .i64 x, .int .i64 y] 46)) from (by repeat (first | exact Below.refl _ _ | refine Below.drew ?_ | refine Below.alloc ?_ (by simp <;> omega) _)))
  have q4 := (Blk.cell T1 9).trans (show _ = some (.slice b.sa b.sn b.cp) from rfl)
  clear T1 O
  go_wp2_with fail
  go_region_law (first
    | (go_simp; go_at_call 39; refine (AD _ (by repeat (first | exact Below.refl _ _ | refine Below.drew ?_ | refine Below.alloc ?_ (by simp <;> omega) _))).mono ?_; rintro e w4 ⟨A', c', rfl, S4, g4⟩
       have B4 : Below w.heap.size w w4 := Below.trans (by repeat (first | exact Below.refl _ _ | refine Below.drew ?_ | refine Below.alloc ?_ (by simp <;> omega) _)) (g4.mono (by simp <;> omega))
       have q4' := (Blk.cell (Blk.keep T B4) 9).trans (show _ = some _ from rfl)
       have f4 := Blk.free (Blk.keep T B4) 9
       have S5 := Own.mono S4 (show B ≤ _ by simp <;> omega)))
  all_goals go_wp2
  all_goals go_ret
  all_goals exact ⟨rfl, ⟨A', c', Blk.set (Blk.keep T B4) 9 _, Own.far S5 (fun k hk => Below.heap_setCell _ _ _ _ (by simp; omega))⟩, One.set (One.of B4) 9 _⟩

set_option maxRecDepth 100000 in
set_option maxHeartbeats 8000000 in
theorem RKeep_okB1 {a b c : Sl} {p B : Nat} {L : List Int} {w : World} (T : Rt w p a b c) (h : b.th = true) (hp : b.pl = false) (S : Own w B b.sa b.sn b.cp L) (hB : p < B) (hW : B ≤ w.heap.size) (hn : b.sn ≤ 8) (x y r : Int) : Calls Tryd.prog 19 #[.pointer (some ⟨p, 0, none⟩), .int .i64 1, .agg #[.int .i64 x, .int .i64 y], .int .i64 r] w fun e w' => e = .returned (.int .i64 0) ∧ (∃ A' c', Rt w' p a ⟨b.th, b.id, b.pl, b.sc, A', more b.sn, c'⟩ c ∧ Own w' B A' (more b.sn) c' (kept b.sn L ++ [x, y, r])) ∧ One w w' p := by
  have O := fun W (g : Below w.heap.size w W) => RHas_1 (Rt.keep T g)
  rw [h] at O
  have AD := fun W (g : Below w.heap.size w W) => RAdd_own (S.keep g) hn x y r
  have zp := Blk.lt T
  go_enter Tryd.func19, Tryd.ntmps19
  go_wp2_with fail
  refine (O _ (by repeat (first | exact Below.refl _ _ | refine Below.drew ?_ | refine Below.alloc ?_ (by simp <;> omega) _))).mono ?_; rintro r w1 ⟨rfl, e1⟩
  subst e1
  have T1 := Blk.keep T (show Below w.heap.size w (w.alloc (.cells #[.int .i64 x, .int .i64 y] 46)) from (by repeat (first | exact Below.refl _ _ | refine Below.drew ?_ | refine Below.alloc ?_ (by simp <;> omega) _)))
  have q1 := (Blk.cell T1 5).trans (show _ = some (.bool b.pl) from rfl)
  have q4 := (Blk.cell T1 7).trans (show _ = some (.slice b.sa b.sn b.cp) from rfl)
  clear T1 O
  go_wp2_with fail
  go_region_law (first
    | (go_simp; go_at_call 41; refine (AD _ (by repeat (first | exact Below.refl _ _ | refine Below.drew ?_ | refine Below.alloc ?_ (by simp <;> omega) _))).mono ?_; rintro e w4 ⟨A', c', rfl, S4, g4⟩
       have B4 : Below w.heap.size w w4 := Below.trans (by repeat (first | exact Below.refl _ _ | refine Below.drew ?_ | refine Below.alloc ?_ (by simp <;> omega) _)) (g4.mono (by simp <;> omega))
       have q4' := (Blk.cell (Blk.keep T B4) 7).trans (show _ = some _ from rfl)
       have f4 := Blk.free (Blk.keep T B4) 7
       have S5 := Own.mono S4 (show B ≤ _ by simp <;> omega)))
  all_goals go_wp2
  all_goals go_ret
  all_goals exact ⟨rfl, ⟨A', c', Blk.set (Blk.keep T B4) 7 _, Own.far S5 (fun k hk => Below.heap_setCell _ _ _ _ (by simp; omega))⟩, One.set (One.of B4) 7 _⟩

set_option maxRecDepth 100000 in
set_option maxHeartbeats 8000000 in
theorem Keep_okB2 {a b c : Sl} {p B : Nat} {L : List Int} {w : World} (T : Tb w p a b c) (h : c.th = true) (hp : c.pl = false) (S : Own w B c.sa c.sn c.cp L) (hB : p < B) (hW : B ≤ w.heap.size) (hn : c.sn ≤ 8) (x y r : Int) : Calls Tryd.prog 17 #[.pointer (some ⟨p, 0, none⟩), .int .i64 2, .agg #[.int .i64 x, .int .i64 y], .int .i64 r] w fun e w' => e = .returned .nilIface ∧ (∃ A' c', Tb w' p a b ⟨c.th, c.id, c.pl, c.sc, A', more c.sn, c'⟩ ∧ Own w' B A' (more c.sn) c' (kept c.sn L ++ [x, y, r])) ∧ One w w' p := by
  have O := fun W (g : Below w.heap.size w W) => open_ok2 (T.keep g) h hp
  have AD := fun W (g : Below w.heap.size w W) => Add_own (S.keep g) hn x y r
  have zp := Blk.lt T
  go_enter Tryd.func17, Tryd.ntmps17
  go_wp2_with fail
  refine (O _ (by repeat (first | exact Below.refl _ _ | refine Below.drew ?_ | refine Below.alloc ?_ (by simp <;> omega) _))).mono ?_; rintro r w1 ⟨rfl, e1⟩
  subst e1
  have T1 := Blk.keep T (show Below w.heap.size w (w.alloc (.cells #[.int .i64 x, .int .i64 y] 46)) from (by repeat (first | exact Below.refl _ _ | refine Below.drew ?_ | refine Below.alloc ?_ (by simp <;> omega) _)))
  have q4 := (Blk.cell T1 14).trans (show _ = some (.slice c.sa c.sn c.cp) from rfl)
  clear T1 O
  go_wp2_with fail
  go_region_law (first
    | (go_simp; go_at_call 39; refine (AD _ (by repeat (first | exact Below.refl _ _ | refine Below.drew ?_ | refine Below.alloc ?_ (by simp <;> omega) _))).mono ?_; rintro e w4 ⟨A', c', rfl, S4, g4⟩
       have B4 : Below w.heap.size w w4 := Below.trans (by repeat (first | exact Below.refl _ _ | refine Below.drew ?_ | refine Below.alloc ?_ (by simp <;> omega) _)) (g4.mono (by simp <;> omega))
       have q4' := (Blk.cell (Blk.keep T B4) 14).trans (show _ = some _ from rfl)
       have f4 := Blk.free (Blk.keep T B4) 14
       have S5 := Own.mono S4 (show B ≤ _ by simp <;> omega)))
  all_goals go_wp2
  all_goals go_ret
  all_goals exact ⟨rfl, ⟨A', c', Blk.set (Blk.keep T B4) 14 _, Own.far S5 (fun k hk => Below.heap_setCell _ _ _ _ (by simp; omega))⟩, One.set (One.of B4) 14 _⟩

set_option maxRecDepth 100000 in
set_option maxHeartbeats 8000000 in
theorem RKeep_okB2 {a b c : Sl} {p B : Nat} {L : List Int} {w : World} (T : Rt w p a b c) (h : c.th = true) (hp : c.pl = false) (S : Own w B c.sa c.sn c.cp L) (hB : p < B) (hW : B ≤ w.heap.size) (hn : c.sn ≤ 8) (x y r : Int) : Calls Tryd.prog 19 #[.pointer (some ⟨p, 0, none⟩), .int .i64 2, .agg #[.int .i64 x, .int .i64 y], .int .i64 r] w fun e w' => e = .returned (.int .i64 0) ∧ (∃ A' c', Rt w' p a b ⟨c.th, c.id, c.pl, c.sc, A', more c.sn, c'⟩ ∧ Own w' B A' (more c.sn) c' (kept c.sn L ++ [x, y, r])) ∧ One w w' p := by
  have O := fun W (g : Below w.heap.size w W) => RHas_2 (Rt.keep T g)
  rw [h] at O
  have AD := fun W (g : Below w.heap.size w W) => RAdd_own (S.keep g) hn x y r
  have zp := Blk.lt T
  go_enter Tryd.func19, Tryd.ntmps19
  go_wp2_with fail
  refine (O _ (by repeat (first | exact Below.refl _ _ | refine Below.drew ?_ | refine Below.alloc ?_ (by simp <;> omega) _))).mono ?_; rintro r w1 ⟨rfl, e1⟩
  subst e1
  have T1 := Blk.keep T (show Below w.heap.size w (w.alloc (.cells #[.int .i64 x, .int .i64 y] 46)) from (by repeat (first | exact Below.refl _ _ | refine Below.drew ?_ | refine Below.alloc ?_ (by simp <;> omega) _)))
  have q1 := (Blk.cell T1 9).trans (show _ = some (.bool c.pl) from rfl)
  have q4 := (Blk.cell T1 11).trans (show _ = some (.slice c.sa c.sn c.cp) from rfl)
  clear T1 O
  go_wp2_with fail
  go_region_law (first
    | (go_simp; go_at_call 41; refine (AD _ (by repeat (first | exact Below.refl _ _ | refine Below.drew ?_ | refine Below.alloc ?_ (by simp <;> omega) _))).mono ?_; rintro e w4 ⟨A', c', rfl, S4, g4⟩
       have B4 : Below w.heap.size w w4 := Below.trans (by repeat (first | exact Below.refl _ _ | refine Below.drew ?_ | refine Below.alloc ?_ (by simp <;> omega) _)) (g4.mono (by simp <;> omega))
       have q4' := (Blk.cell (Blk.keep T B4) 11).trans (show _ = some _ from rfl)
       have f4 := Blk.free (Blk.keep T B4) 11
       have S5 := Own.mono S4 (show B ≤ _ by simp <;> omega)))
  all_goals go_wp2
  all_goals go_ret
  all_goals exact ⟨rfl, ⟨A', c', Blk.set (Blk.keep T B4) 11 _, Own.far S5 (fun k hk => Below.heap_setCell _ _ _ _ (by simp; omega))⟩, One.set (One.of B4) 11 _⟩

def keepC (s : T3) (k : Int) : Int := if hasB s k = true then (if (s.get k.toNat).pl = true then 37 else 0) else 36
def keepS (s : T3) (k x y r : Int) : T3 := if hasB s k = true then (if (s.get k.toNat).pl = true then s else s.put k.toNat { (s.get k.toNat) with n := more (s.get k.toNat).n, L := kept (s.get k.toNat).n (s.get k.toNat).L ++ [x, y, r] }) else s
def setS (s : T3) (k : Int) : T3 := if hasB s k = true then (if (s.get k.toNat).pl = true then s else s.put k.toNat { (s.get k.toNat) with pl := true, n := 0, L := [] }) else s
def scoreC (s : T3) (k : Int) : Int := if hasB s k = true then 0 else 36
def scoreV (s : T3) (k : Int) (x : Bool) : Int := if hasB s k = true then qual (s.get k.toNat).sc x else 0
def scoreS (s : T3) (k : Int) (x : Bool) : T3 := if hasB s k = true then s.put k.toNat { (s.get k.toNat) with sc := qual (s.get k.toNat).sc x } else s
theorem keepS_good {s : T3} (h : s.good) (k x y r : Int) : (keepS s k x y r).good := by
  unfold keepS
  split
  · split
    · exact h
    · obtain ⟨h1, h2, h3⟩ := h.get k.toNat
      refine h.put _ ⟨h1, h2, ?_⟩
      show more _ ≤ 8
      unfold more; split <;> omega
  · exact h
theorem setS_good {s : T3} (h : s.good) (k : Int) : (setS s k).good := by
  unfold setS
  split
  · split
    · exact h
    · obtain ⟨h1, h2, h3⟩ := h.get k.toNat
      exact h.put _ ⟨h1, h2, Nat.zero_le _⟩
  · exact h
theorem scoreS_good {s : T3} (h : s.good) (k : Int) (x : Bool) : (scoreS s k x).good := by
  unfold scoreS
  split
  · obtain ⟨h1, h2, h3⟩ := h.get k.toNat
    have := qual_in x h1 h2
    exact h.put _ ⟨this.1, this.2, h3⟩
  · exact h

set_option maxRecDepth 100000 in
set_option maxHeartbeats 8000000 in
theorem Score_ok2 {a b c : Sl} {p : Nat} {w : World} (T : Tb w p a b c) (h : c.th = true) (h0 : -8 ≤ c.sc) (h1 : c.sc ≤ 8) (x : Bool) : Calls Tryd.prog 11 #[.pointer (some ⟨p, 0, none⟩), .int .i64 2, .bool x] w fun r w' => r = .returned (.tuple #[.int .i64 (qual c.sc x), .nilIface]) ∧ Tb w' p a b ⟨c.th, c.id, c.pl, qual c.sc x, c.sa, c.sn, c.cp⟩ ∧ One w w' p := by
  have I := is_2 T
  rw [h] at I
  have Q := fun W => quality c.sc x h0 h1 W
  have q := (Blk.cell T 13).trans (show (tcs a b c)[13]? = some (.int .i64 c.sc) from rfl)
  have f := Blk.free T 13
  go_enter Tryd.func11, Tryd.ntmps11
  go_wp2_with fail
  refine I.mono ?_; rintro r w1 ⟨rfl, rfl⟩
  go_wp2_with fail
  have T1 := Blk.drew (Blk.set T 13 (.int .i64 (qual c.sc x)))
  have O1 := (One.set (One.refl w1 p) 13 (.int .i64 (qual c.sc x))).trans (One.of (p := p) (Below.refl _ _).drew)
  go_region_law (first | (go_simp; go_at_call 34; refine (Q _).mono ?_; rintro e w4 ⟨rfl, rfl⟩))
  all_goals go_wp2
  all_goals go_ret2
  all_goals exact ⟨rfl, T1, O1⟩

set_option maxRecDepth 100000 in
set_option maxHeartbeats 8000000 in
theorem RKeep_there0 {a b c : Sl} {p : Nat} {x y r : Int} {w : World} (T : Rt w p a b c) (h : a.th = true) (hp : a.pl = true) : Calls Tryd.prog 19 #[.pointer (some ⟨p, 0, none⟩), .int .i64 0, .agg #[.int .i64 x, .int .i64 y], .int .i64 r] w fun e w' => e = .returned (.int .i64 37) ∧ Below w.heap.size w w' := by
  have B1 : Below w.heap.size w (w.alloc (.cells #[.int .i64 x, .int .i64 y] 46)) := (Below.refl _ _).alloc (Nat.le_refl _) _
  have O := RHas_0 (Rt.keep T B1)
  rw [h] at O
  have q1 := (Blk.cell (Rt.keep T B1) 1).trans (show _ = some (.bool a.pl) from rfl)
  go_enter Tryd.func19, Tryd.ntmps19
  go_wp2_with fail
  refine O.mono ?_; rintro r w1 ⟨rfl, e1⟩
  subst e1
  go_wp2_with fail
  go_ret
  exact ⟨rfl, B1⟩

set_option maxRecDepth 100000 in
set_option maxHeartbeats 8000000 in
theorem RKeep_there1 {a b c : Sl} {p : Nat} {x y r : Int} {w : World} (T : Rt w p a b c) (h : b.th = true) (hp : b.pl = true) : Calls Tryd.prog 19 #[.pointer (some ⟨p, 0, none⟩), .int .i64 1, .agg #[.int .i64 x, .int .i64 y], .int .i64 r] w fun e w' => e = .returned (.int .i64 37) ∧ Below w.heap.size w w' := by
  have B1 : Below w.heap.size w (w.alloc (.cells #[.int .i64 x, .int .i64 y] 46)) := (Below.refl _ _).alloc (Nat.le_refl _) _
  have O := RHas_1 (Rt.keep T B1)
  rw [h] at O
  have q1 := (Blk.cell (Rt.keep T B1) 5).trans (show _ = some (.bool b.pl) from rfl)
  go_enter Tryd.func19, Tryd.ntmps19
  go_wp2_with fail
  refine O.mono ?_; rintro r w1 ⟨rfl, e1⟩
  subst e1
  go_wp2_with fail
  go_ret
  exact ⟨rfl, B1⟩

set_option maxRecDepth 100000 in
set_option maxHeartbeats 8000000 in
theorem RKeep_there2 {a b c : Sl} {p : Nat} {x y r : Int} {w : World} (T : Rt w p a b c) (h : c.th = true) (hp : c.pl = true) : Calls Tryd.prog 19 #[.pointer (some ⟨p, 0, none⟩), .int .i64 2, .agg #[.int .i64 x, .int .i64 y], .int .i64 r] w fun e w' => e = .returned (.int .i64 37) ∧ Below w.heap.size w w' := by
  have B1 : Below w.heap.size w (w.alloc (.cells #[.int .i64 x, .int .i64 y] 46)) := (Below.refl _ _).alloc (Nat.le_refl _) _
  have O := RHas_2 (Rt.keep T B1)
  rw [h] at O
  have q1 := (Blk.cell (Rt.keep T B1) 9).trans (show _ = some (.bool c.pl) from rfl)
  go_enter Tryd.func19, Tryd.ntmps19
  go_wp2_with fail
  refine O.mono ?_; rintro r w1 ⟨rfl, e1⟩
  subst e1
  go_wp2_with fail
  go_ret
  exact ⟨rfl, B1⟩

theorem Keep_t {w : World} {p B : Nat} {s : T3} (h : PT w p B s) (G : s.good) (hp : p < B) (hW : B ≤ w.heap.size) (k x y r : Int) : Calls Tryd.prog 17 #[.pointer (some ⟨p, 0, none⟩), .int .i64 k, .agg #[.int .i64 x, .int .i64 y], .int .i64 r] w fun e w' => ∃ v, e = .returned v ∧ ErrIs op24 w' v (keepC s k) ∧ PT w' p B (keepS s k x y r) ∧ One w w' p := by
  unfold keepC keepS
  cases hh : hasB s k with
  | false =>
    have hI := fun W (g : Below w.heap.size w W) => is_t (h.keep g) k
    rw [hh] at hI
    have hO := fun W (g : Below w.heap.size w W) => open_no (w := W) (fun W' g' => hI W' (bbT g g'))
    refine (Keep_err (by decide) hO).mono ?_
    rintro e w' ⟨v, rfl, hv, g⟩
    exact ⟨v, rfl, hv, h.keep g, One.of g⟩
  | true =>
    simp only [if_true]
    obtain ⟨A0, c0, A1, c1, A2, c2, T, S0, S1, S2⟩ := (show _ from h)
    rcases has_at hh with ⟨rfl, ht⟩ | ⟨rfl, ht⟩ | ⟨rfl, ht⟩
    · have eg : s.get (Int.toNat 0) = s.a := rfl
      simp only [eg]
      have Gk := G.get 0
      have Gk : Good s.a := Gk
      cases hpl : s.a.pl with
      | true =>
        simp only [if_true]
        have hO := fun W (g : Below w.heap.size w W) => open_there0 (T.keep g) ht hpl
        refine (Keep_err (by decide) hO).mono ?_
        rintro e w' ⟨v, rfl, hv, g⟩
        exact ⟨v, rfl, hv, h.keep g, One.of g⟩
      | false =>
        simp only [Bool.false_eq_true, if_false]
        refine (Keep_okB0 T ht hpl S0 hp hW Gk.2.2 x y r).mono ?_
        rintro e w' ⟨rfl, ⟨A', c', T', S'⟩, g⟩
        rw [show (sl s.a A0 c0).pl = false from hpl] at T'
        exact ⟨_, rfl, ErrIs.nil _ _, ⟨A', c', A1, c1, A2, c2, T', S', S1.one hp g, S2.one hp g⟩, g⟩
    · have eg : s.get (Int.toNat 1) = s.b := rfl
      simp only [eg]
      have Gk := G.get 1
      have Gk : Good s.b := Gk
      cases hpl : s.b.pl with
      | true =>
        simp only [if_true]
        have hO := fun W (g : Below w.heap.size w W) => open_there1 (T.keep g) ht hpl
        refine (Keep_err (by decide) hO).mono ?_
        rintro e w' ⟨v, rfl, hv, g⟩
        exact ⟨v, rfl, hv, h.keep g, One.of g⟩
      | false =>
        simp only [Bool.false_eq_true, if_false]
        refine (Keep_okB1 T ht hpl S1 hp hW Gk.2.2 x y r).mono ?_
        rintro e w' ⟨rfl, ⟨A', c', T', S'⟩, g⟩
        rw [show (sl s.b A1 c1).pl = false from hpl] at T'
        exact ⟨_, rfl, ErrIs.nil _ _, ⟨A0, c0, A', c', A2, c2, T', S0.one hp g, S', S2.one hp g⟩, g⟩
    · have eg : s.get (Int.toNat 2) = s.c := rfl
      simp only [eg]
      have Gk := G.get 2
      have Gk : Good s.c := Gk
      cases hpl : s.c.pl with
      | true =>
        simp only [if_true]
        have hO := fun W (g : Below w.heap.size w W) => open_there2 (T.keep g) ht hpl
        refine (Keep_err (by decide) hO).mono ?_
        rintro e w' ⟨v, rfl, hv, g⟩
        exact ⟨v, rfl, hv, h.keep g, One.of g⟩
      | false =>
        simp only [Bool.false_eq_true, if_false]
        refine (Keep_okB2 T ht hpl S2 hp hW Gk.2.2 x y r).mono ?_
        rintro e w' ⟨rfl, ⟨A', c', T', S'⟩, g⟩
        rw [show (sl s.c A2 c2).pl = false from hpl] at T'
        exact ⟨_, rfl, ErrIs.nil _ _, ⟨A0, c0, A1, c1, A', c', T', S0.one hp g, S1.one hp g, S'⟩, g⟩

theorem RKeep_t {w : World} {p B : Nat} {s : T3} (h : RT w p B s) (G : s.good) (hp : p < B) (hW : B ≤ w.heap.size) (k x y r : Int) : Calls Tryd.prog 19 #[.pointer (some ⟨p, 0, none⟩), .int .i64 k, .agg #[.int .i64 x, .int .i64 y], .int .i64 r] w fun e w' => e = .returned (.int .i64 (keepC s k)) ∧ RT w' p B (keepS s k x y r) ∧ One w w' p := by
  unfold keepC keepS
  cases hh : hasB s k with
  | false =>
    have hH := fun W (g : Below w.heap.size w W) => RHas_t (h.keep g) k
    rw [hh] at hH
    refine (RKeep_none hH).mono ?_
    rintro e w' ⟨rfl, g⟩
    exact ⟨rfl, h.keep g, One.of g⟩
  | true =>
    simp only [if_true]
    obtain ⟨A0, c0, A1, c1, A2, c2, T, S0, S1, S2⟩ := (show _ from h)
    rcases has_at hh with ⟨rfl, ht⟩ | ⟨rfl, ht⟩ | ⟨rfl, ht⟩
    · have eg : s.get (Int.toNat 0) = s.a := rfl
      simp only [eg]
      have Gk := G.get 0
      have Gk : Good s.a := Gk
      cases hpl : s.a.pl with
      | true =>
        simp only [if_true]
        refine (RKeep_there0 (x := x) (y := y) (r := r) T ht hpl).mono ?_
        rintro e w' ⟨rfl, g⟩
        exact ⟨rfl, h.keep g, One.of g⟩
      | false =>
        simp only [Bool.false_eq_true, if_false]
        refine (RKeep_okB0 T ht hpl S0 hp hW Gk.2.2 x y r).mono ?_
        rintro e w' ⟨rfl, ⟨A', c', T', S'⟩, g⟩
        rw [show (sl s.a A0 c0).pl = false from hpl] at T'
        exact ⟨rfl, ⟨A', c', A1, c1, A2, c2, T', S', S1.one hp g, S2.one hp g⟩, g⟩
    · have eg : s.get (Int.toNat 1) = s.b := rfl
      simp only [eg]
      have Gk := G.get 1
      have Gk : Good s.b := Gk
      cases hpl : s.b.pl with
      | true =>
        simp only [if_true]
        refine (RKeep_there1 (x := x) (y := y) (r := r) T ht hpl).mono ?_
        rintro e w' ⟨rfl, g⟩
        exact ⟨rfl, h.keep g, One.of g⟩
      | false =>
        simp only [Bool.false_eq_true, if_false]
        refine (RKeep_okB1 T ht hpl S1 hp hW Gk.2.2 x y r).mono ?_
        rintro e w' ⟨rfl, ⟨A', c', T', S'⟩, g⟩
        rw [show (sl s.b A1 c1).pl = false from hpl] at T'
        exact ⟨rfl, ⟨A0, c0, A', c', A2, c2, T', S0.one hp g, S', S2.one hp g⟩, g⟩
    · have eg : s.get (Int.toNat 2) = s.c := rfl
      simp only [eg]
      have Gk := G.get 2
      have Gk : Good s.c := Gk
      cases hpl : s.c.pl with
      | true =>
        simp only [if_true]
        refine (RKeep_there2 (x := x) (y := y) (r := r) T ht hpl).mono ?_
        rintro e w' ⟨rfl, g⟩
        exact ⟨rfl, h.keep g, One.of g⟩
      | false =>
        simp only [Bool.false_eq_true, if_false]
        refine (RKeep_okB2 T ht hpl S2 hp hW Gk.2.2 x y r).mono ?_
        rintro e w' ⟨rfl, ⟨A', c', T', S'⟩, g⟩
        rw [show (sl s.c A2 c2).pl = false from hpl] at T'
        exact ⟨rfl, ⟨A0, c0, A1, c1, A', c', T', S0.one hp g, S1.one hp g, S'⟩, g⟩

theorem Set_t {w : World} {p B : Nat} {s : T3} (h : PT w p B s) (G : s.good) (hp : p < B) (k : Int) : Calls Tryd.prog 16 #[.pointer (some ⟨p, 0, none⟩), .int .i64 k] w fun e w' => ∃ v, e = .returned v ∧ ErrIs op24 w' v (keepC s k) ∧ PT w' p B (setS s k) ∧ One w w' p := by
  unfold keepC setS
  cases hh : hasB s k with
  | false =>
    have hI := fun W (g : Below w.heap.size w W) => is_t (h.keep g) k
    rw [hh] at hI
    have hO := fun W (g : Below w.heap.size w W) => open_no (w := W) (fun W' g' => hI W' (bbT g g'))
    refine (Set_err (by decide) hO).mono ?_
    rintro e w' ⟨v, rfl, hv, g⟩
    exact ⟨v, rfl, hv, h.keep g, One.of g⟩
  | true =>
    simp only [if_true]
    obtain ⟨A0, c0, A1, c1, A2, c2, T, S0, S1, S2⟩ := (show _ from h)
    rcases has_at hh with ⟨rfl, ht⟩ | ⟨rfl, ht⟩ | ⟨rfl, ht⟩
    · have eg : s.get (Int.toNat 0) = s.a := rfl
      simp only [eg]
      have Gk := G.get 0
      have Gk : Good s.a := Gk
      cases hpl : s.a.pl with
      | true =>
        simp only [if_true]
        have hO := fun W (g : Below w.heap.size w W) => open_there0 (T.keep g) ht hpl
        refine (Set_err (by decide) hO).mono ?_
        rintro e w' ⟨v, rfl, hv, g⟩
        exact ⟨v, rfl, hv, h.keep g, One.of g⟩
      | false =>
        simp only [Bool.false_eq_true, if_false]
        refine (Set_ok0 T ht hpl).mono ?_
        rintro e w' ⟨rfl, T', g⟩
        exact ⟨_, rfl, ErrIs.nil _ _, ⟨none, 0, A1, c1, A2, c2, T', Own.nil _ _, S1.one hp g, S2.one hp g⟩, g⟩
    · have eg : s.get (Int.toNat 1) = s.b := rfl
      simp only [eg]
      have Gk := G.get 1
      have Gk : Good s.b := Gk
      cases hpl : s.b.pl with
      | true =>
        simp only [if_true]
        have hO := fun W (g : Below w.heap.size w W) => open_there1 (T.keep g) ht hpl
        refine (Set_err (by decide) hO).mono ?_
        rintro e w' ⟨v, rfl, hv, g⟩
        exact ⟨v, rfl, hv, h.keep g, One.of g⟩
      | false =>
        simp only [Bool.false_eq_true, if_false]
        refine (Set_ok1 T ht hpl).mono ?_
        rintro e w' ⟨rfl, T', g⟩
        exact ⟨_, rfl, ErrIs.nil _ _, ⟨A0, c0, none, 0, A2, c2, T', S0.one hp g, Own.nil _ _, S2.one hp g⟩, g⟩
    · have eg : s.get (Int.toNat 2) = s.c := rfl
      simp only [eg]
      have Gk := G.get 2
      have Gk : Good s.c := Gk
      cases hpl : s.c.pl with
      | true =>
        simp only [if_true]
        have hO := fun W (g : Below w.heap.size w W) => open_there2 (T.keep g) ht hpl
        refine (Set_err (by decide) hO).mono ?_
        rintro e w' ⟨v, rfl, hv, g⟩
        exact ⟨v, rfl, hv, h.keep g, One.of g⟩
      | false =>
        simp only [Bool.false_eq_true, if_false]
        refine (Set_ok2 T ht hpl).mono ?_
        rintro e w' ⟨rfl, T', g⟩
        exact ⟨_, rfl, ErrIs.nil _ _, ⟨A0, c0, A1, c1, none, 0, T', S0.one hp g, S1.one hp g, Own.nil _ _⟩, g⟩

theorem RSet_t {w : World} {p B : Nat} {s : T3} (h : RT w p B s) (G : s.good) (hp : p < B) (k : Int) : Calls Tryd.prog 20 #[.pointer (some ⟨p, 0, none⟩), .int .i64 k] w fun e w' => e = .returned (.int .i64 (keepC s k)) ∧ RT w' p B (setS s k) ∧ One w w' p := by
  unfold keepC setS
  cases hh : hasB s k with
  | false =>
    have hH := fun W (g : Below w.heap.size w W) => RHas_t (h.keep g) k
    rw [hh] at hH
    refine (RSet_none (hH _ (Below.refl _ _))).mono ?_
    rintro e w' ⟨rfl, rfl⟩
    exact ⟨rfl, h, One.refl _ _⟩
  | true =>
    simp only [if_true]
    obtain ⟨A0, c0, A1, c1, A2, c2, T, S0, S1, S2⟩ := (show _ from h)
    rcases has_at hh with ⟨rfl, ht⟩ | ⟨rfl, ht⟩ | ⟨rfl, ht⟩
    · have eg : s.get (Int.toNat 0) = s.a := rfl
      simp only [eg]
      have Gk := G.get 0
      have Gk : Good s.a := Gk
      cases hpl : s.a.pl with
      | true =>
        simp only [if_true]
        refine (RSet_there0 T ht hpl).mono ?_
        rintro e w' ⟨rfl, rfl⟩
        exact ⟨rfl, h, One.refl _ _⟩
      | false =>
        simp only [Bool.false_eq_true, if_false]
        refine (RSet_ok0 T ht hpl).mono ?_
        rintro e w' ⟨rfl, T', g⟩
        exact ⟨rfl, ⟨none, 0, A1, c1, A2, c2, T', Own.nil _ _, S1.one hp g, S2.one hp g⟩, g⟩
    · have eg : s.get (Int.toNat 1) = s.b := rfl
      simp only [eg]
      have Gk := G.get 1
      have Gk : Good s.b := Gk
      cases hpl : s.b.pl with
      | true =>
        simp only [if_true]
        refine (RSet_there1 T ht hpl).mono ?_
        rintro e w' ⟨rfl, rfl⟩
        exact ⟨rfl, h, One.refl _ _⟩
      | false =>
        simp only [Bool.false_eq_true, if_false]
        refine (RSet_ok1 T ht hpl).mono ?_
        rintro e w' ⟨rfl, T', g⟩
        exact ⟨rfl, ⟨A0, c0, none, 0, A2, c2, T', S0.one hp g, Own.nil _ _, S2.one hp g⟩, g⟩
    · have eg : s.get (Int.toNat 2) = s.c := rfl
      simp only [eg]
      have Gk := G.get 2
      have Gk : Good s.c := Gk
      cases hpl : s.c.pl with
      | true =>
        simp only [if_true]
        refine (RSet_there2 T ht hpl).mono ?_
        rintro e w' ⟨rfl, rfl⟩
        exact ⟨rfl, h, One.refl _ _⟩
      | false =>
        simp only [Bool.false_eq_true, if_false]
        refine (RSet_ok2 T ht hpl).mono ?_
        rintro e w' ⟨rfl, T', g⟩
        exact ⟨rfl, ⟨A0, c0, A1, c1, none, 0, T', S0.one hp g, S1.one hp g, Own.nil _ _⟩, g⟩

theorem Score_t {w : World} {p B : Nat} {s : T3} (h : PT w p B s) (G : s.good) (hp : p < B) (k : Int) (x : Bool) : Calls Tryd.prog 11 #[.pointer (some ⟨p, 0, none⟩), .int .i64 k, .bool x] w fun e w' => ∃ v, e = .returned (.tuple #[.int .i64 (scoreV s k x), v]) ∧ ErrIs op24 w' v (scoreC s k) ∧ PT w' p B (scoreS s k x) ∧ One w w' p := by
  unfold scoreC scoreV scoreS
  cases hh : hasB s k with
  | false =>
    have hI := fun W (g : Below w.heap.size w W) => is_t (h.keep g) k
    rw [hh] at hI
    refine (Score_no x hI).mono ?_
    rintro e w' ⟨v, rfl, hv, g⟩
    exact ⟨v, rfl, hv, h.keep g, One.of g⟩
  | true =>
    simp only [if_true]
    obtain ⟨A0, c0, A1, c1, A2, c2, T, S0, S1, S2⟩ := (show _ from h)
    rcases has_at hh with ⟨rfl, ht⟩ | ⟨rfl, ht⟩ | ⟨rfl, ht⟩
    · have eg : s.get (Int.toNat 0) = s.a := rfl
      simp only [eg]
      have Gk := G.get 0
      have Gk : Good s.a := Gk
      refine (Score_ok0 T ht Gk.1 Gk.2.1 x).mono ?_
      rintro e w' ⟨rfl, T', g⟩
      exact ⟨_, rfl, ErrIs.nil _ _, ⟨A0, c0, A1, c1, A2, c2, T', S0.one hp g, S1.one hp g, S2.one hp g⟩, g⟩
    · have eg : s.get (Int.toNat 1) = s.b := rfl
      simp only [eg]
      have Gk := G.get 1
      have Gk : Good s.b := Gk
      refine (Score_ok1 T ht Gk.1 Gk.2.1 x).mono ?_
      rintro e w' ⟨rfl, T', g⟩
      exact ⟨_, rfl, ErrIs.nil _ _, ⟨A0, c0, A1, c1, A2, c2, T', S0.one hp g, S1.one hp g, S2.one hp g⟩, g⟩
    · have eg : s.get (Int.toNat 2) = s.c := rfl
      simp only [eg]
      have Gk := G.get 2
      have Gk : Good s.c := Gk
      refine (Score_ok2 T ht Gk.1 Gk.2.1 x).mono ?_
      rintro e w' ⟨rfl, T', g⟩
      exact ⟨_, rfl, ErrIs.nil _ _, ⟨A0, c0, A1, c1, A2, c2, T', S0.one hp g, S1.one hp g, S2.one hp g⟩, g⟩

theorem RScore_t {w : World} {p B : Nat} {s : T3} (h : RT w p B s) (G : s.good) (hp : p < B) (k : Int) (x : Bool) : Calls Tryd.prog 21 #[.pointer (some ⟨p, 0, none⟩), .int .i64 k, .bool x] w fun e w' => e = .returned (.tuple #[.int .i64 (scoreV s k x), .int .i64 (scoreC s k)]) ∧ RT w' p B (scoreS s k x) ∧ One w w' p := by
  unfold scoreC scoreV scoreS
  cases hh : hasB s k with
  | false =>
    have hH := fun W (g : Below w.heap.size w W) => RHas_t (h.keep g) k
    rw [hh] at hH
    refine (RScore_none x (hH _ (Below.refl _ _))).mono ?_
    rintro e w' ⟨rfl, rfl⟩
    exact ⟨rfl, h, One.refl _ _⟩
  | true =>
    simp only [if_true]
    obtain ⟨A0, c0, A1, c1, A2, c2, T, S0, S1, S2⟩ := (show _ from h)
    rcases has_at hh with ⟨rfl, ht⟩ | ⟨rfl, ht⟩ | ⟨rfl, ht⟩
    · have eg : s.get (Int.toNat 0) = s.a := rfl
      simp only [eg]
      have Gk := G.get 0
      have Gk : Good s.a := Gk
      refine (RScore_ok0 T ht Gk.1 Gk.2.1 x).mono ?_
      rintro e w' ⟨rfl, T', g⟩
      exact ⟨rfl, ⟨A0, c0, A1, c1, A2, c2, T', S0.one hp g, S1.one hp g, S2.one hp g⟩, g⟩
    · have eg : s.get (Int.toNat 1) = s.b := rfl
      simp only [eg]
      have Gk := G.get 1
      have Gk : Good s.b := Gk
      refine (RScore_ok1 T ht Gk.1 Gk.2.1 x).mono ?_
      rintro e w' ⟨rfl, T', g⟩
      exact ⟨rfl, ⟨A0, c0, A1, c1, A2, c2, T', S0.one hp g, S1.one hp g, S2.one hp g⟩, g⟩
    · have eg : s.get (Int.toNat 2) = s.c := rfl
      simp only [eg]
      have Gk := G.get 2
      have Gk : Good s.c := Gk
      refine (RScore_ok2 T ht Gk.1 Gk.2.1 x).mono ?_
      rintro e w' ⟨rfl, T', g⟩
      exact ⟨rfl, ⟨A0, c0, A1, c1, A2, c2, T', S0.one hp g, S1.one hp g, S2.one hp g⟩, g⟩

end Go.Proofs.YtekcemncmgingaaDoor.YErr
