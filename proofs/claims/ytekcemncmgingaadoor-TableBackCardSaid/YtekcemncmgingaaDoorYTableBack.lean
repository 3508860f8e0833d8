/- The law TableBack of layer 24: the walk. Condition: errors.errorType holds its type's handle. -/
import Derived.Test.YtekcemncmgingaaDoorYTBack3
import Derived.Test.YtekcemncmgingaaDoorYTablePlays
namespace Go.Proofs.YtekcemncmgingaaDoor.YErr
open Go.RowKit Go.Extern.Stop Go.Stop Go.Extern
set_option linter.unusedVariables false
set_option linter.unusedSimpArgs false
/-- A slot of a table that acts made: none, or one whose number is no nought; a placed one without ranges. -/
def Sound (m : Ms) : Prop := -8 ≤ m.sc ∧ m.sc ≤ 8 ∧ m.n ≤ 8 ∧ (m.th = false → m = Ms.zero) ∧ (m.th = true → m.id ≠ 0) ∧ (m.pl = true → m.n = 0)
def Apart (x y : Ms) : Prop := x.th = true → y.th = true → x.id ≠ y.id
def T3.sound (s : T3) : Prop := Sound s.a ∧ Sound s.b ∧ Sound s.c ∧ Apart s.a s.b ∧ Apart s.a s.c ∧ Apart s.b s.c
theorem T3.sound.good {s : T3} (h : s.sound) : s.good := ⟨⟨h.1.1, h.1.2.1, h.1.2.2.1⟩, ⟨h.2.1.1, h.2.1.2.1, h.2.1.2.2.1⟩, ⟨h.2.2.1.1, h.2.2.1.2.1, h.2.2.1.2.2.1⟩⟩
theorem Sound.zero : Sound Ms.zero := ⟨by decide, by decide, by decide, fun _ => rfl, (fun h => by cases h), (fun h => by cases h)⟩
theorem Sound.new {i : Int} (h : i ≠ 0) : Sound (Ms.new i) := ⟨by show (-8 : Int) ≤ 0; decide, by show (0 : Int) ≤ 8; decide, Nat.zero_le _, (fun h => by cases h), fun _ => h, (fun h => by cases h)⟩
/-- A slot with the same number: there it stays, apart it stays. -/
theorem sound_same {s : T3} (h : s.sound) (k : Nat) {m : Ms} (hm : Sound m) (ht : m.th = (s.get k).th) (hi : m.id = (s.get k).id) : (s.put k m).sound := by
  obtain ⟨h0, h1, h2, a01, a02, a12⟩ := h
  unfold T3.get at ht hi
  unfold T3.put
  split at ht
  · rename_i e; rw [if_pos e] at hi; rw [if_pos e]
    exact ⟨hm, h1, h2, fun u v => by rw [hi]; exact a01 (by rw [← ht]; exact u) v, fun u v => by rw [hi]; exact a02 (by rw [← ht]; exact u) v, a12⟩
  · split at ht
    · rename_i e1 e; rw [if_neg e1, if_pos e] at hi; rw [if_neg e1, if_pos e]
      exact ⟨h0, hm, h2, fun u v => by rw [hi]; exact a01 u (by rw [← ht]; exact v), a02, fun u v => by rw [hi]; exact a12 (by rw [← ht]; exact u) v⟩
    · rename_i e1 e; rw [if_neg e1, if_neg e] at hi; rw [if_neg e1, if_neg e]
      exact ⟨h0, h1, hm, a01, fun u v => by rw [hi]; exact a02 u (by rw [← ht]; exact v), fun u v => by rw [hi]; exact a12 u (by rw [← ht]; exact v)⟩
theorem sound_zero {s : T3} (h : s.sound) (k : Nat) : (s.put k Ms.zero).sound := by
  obtain ⟨h0, h1, h2, a01, a02, a12⟩ := h
  unfold T3.put
  split
  · exact ⟨Sound.zero, h1, h2, (fun u => by cases u), (fun u => by cases u), a12⟩
  · split
    · exact ⟨h0, Sound.zero, h2, (fun _ u => by cases u), a02, (fun u => by cases u)⟩
    · exact ⟨h0, h1, Sound.zero, a01, (fun _ u => by cases u), (fun _ u => by cases u)⟩
theorem find_none {s : T3} {id : Int} (h : s.find id = none) : (s.a.th = true → s.a.id ≠ id) ∧ (s.b.th = true → s.b.id ≠ id) ∧ (s.c.th = true → s.c.id ≠ id) := by
  unfold T3.find at h
  split at h
  · cases h
  · split at h
    · cases h
    · split at h
      · cases h
      · rename_i x y z
        exact ⟨fun u v => x ⟨u, v⟩, fun u v => y ⟨u, v⟩, fun u v => z ⟨u, v⟩⟩
theorem sound_new {s : T3} (h : s.sound) {id : Int} (hid : id ≠ 0) (hf : s.find id = none) (k : Nat) : (s.put k (Ms.new id)).sound := by
  obtain ⟨f0, f1, f2⟩ := find_none hf
  obtain ⟨h0, h1, h2, a01, a02, a12⟩ := h
  unfold T3.put
  split
  · exact ⟨Sound.new hid, h1, h2, fun _ u e => f1 u e.symm, fun _ u e => f2 u e.symm, a12⟩
  · split
    · exact ⟨h0, Sound.new hid, h2, fun u _ e => f0 u e, a02, fun _ u e => f2 u e.symm⟩
    · exact ⟨h0, h1, Sound.new hid, a01, fun u _ e => f0 u e, fun u _ e => f1 u e⟩
theorem seeS_sound {s : T3} (h : s.sound) {id : Int} (hid : id ≠ 0) : (seeS s id).sound := by
  unfold seeS
  split
  · exact h
  · rename_i hf
    split
    · exact sound_new h hid hf _
    · exact h
theorem dropS_sound {s : T3} (h : s.sound) (id : Int) : (dropS s id).sound := by
  unfold dropS
  split
  · exact sound_zero h _
  · exact h
theorem T3.sound.get {s : T3} (h : s.sound) (k : Nat) : Sound (s.get k) := by unfold T3.get; split; exact h.1; split; exact h.2.1; exact h.2.2.1
theorem has_th {s : T3} {k : Int} (h : hasB s k = true) : (s.get k.toNat).th = true := by
  rcases has_at h with ⟨rfl, ht⟩ | ⟨rfl, ht⟩ | ⟨rfl, ht⟩ <;> exact ht
theorem keepS_sound {s : T3} (h : s.sound) (k x y r : Int) : (keepS s k x y r).sound := by
  unfold keepS
  split
  · rename_i hh
    split
    · exact h
    · rename_i hp
      have ht := has_th hh
      obtain ⟨h1, h2, h3, h4, h5, h6⟩ := h.get k.toNat
      refine sound_same h _ ⟨h1, h2, ?_, fun u => absurd (ht.symm.trans u) (by decide), h5, fun u => absurd u hp⟩ rfl rfl
      show more _ ≤ 8
      unfold more; split <;> omega
  · exact h
theorem setS_sound {s : T3} (h : s.sound) (k : Int) : (setS s k).sound := by
  unfold setS
  split
  · rename_i hh
    split
    · exact h
    · have ht := has_th hh
      obtain ⟨h1, h2, h3, h4, h5, h6⟩ := h.get k.toNat
      exact sound_same h _ ⟨h1, h2, Nat.zero_le _, fun u => absurd (ht.symm.trans u) (by decide), h5, fun _ => rfl⟩ rfl rfl
  · exact h
theorem scoreS_sound {s : T3} (h : s.sound) (k : Int) (x : Bool) : (scoreS s k x).sound := by
  unfold scoreS
  split
  · rename_i hh
    have ht := has_th hh
    obtain ⟨h1, h2, h3, h4, h5, h6⟩ := h.get k.toNat
    have := qual_in x h1 h2
    exact sound_same h _ ⟨this.1, this.2, h3, fun u => absurd (ht.symm.trans u) (by decide), h5, h6⟩ rfl rfl
  · exact h
theorem Sound.right {m : Ms} (h : Sound m) : rightB m = true := by
  obtain ⟨h1, h2, h3, h4, h5, h6⟩ := h
  unfold rightB
  cases hp : m.pl with
  | true => have := h6 hp; simp; omega
  | false => simp; omega
theorem Sound.free {m : Ms} (h : Sound m) : freeB m = !m.th := by
  obtain ⟨h1, h2, h3, h4, h5, h6⟩ := h
  cases ht : m.th with
  | false => rw [h4 ht]; rfl
  | true =>
    have := h5 ht
    unfold freeB
    simp [this]
theorem Ms.eta (m : Ms) (h : m.th = true) : { m with th := true } = m := by cases m; cases h; rfl
/-- What a table tells is the table again. -/
theorem ofRun_list {s : T3} (h : s.sound) : ofRun s.list 3 = some s := by
  obtain ⟨a, b, c⟩ := s
  obtain ⟨h0, h1, h2, a01, a02, a12⟩ := h
  have h0 : Sound a := h0
  have h1 : Sound b := h1
  have h2 : Sound c := h2
  have a01 : Apart a b := a01
  have a02 : Apart a c := a02
  have a12 : Apart b c := a12
  have e0 := h0.free
  have e1 := h1.free
  have e2 := h2.free
  have z0 := h0.2.2.2.1
  have z1 := h1.2.2.2.1
  have z2 := h2.2.2.2.1
  clear h0 h1 h2
  unfold Apart at a01 a02 a12
  have run : ∀ (s : T3) (m : Ms) (j : Nat), (m.th = false → m = Ms.zero) → freeB m = !m.th → (m.th = true → s.find m.id = none) → (if freeB m = true then some s else if slotB s m.id = true then none else some (s.put j { m with th := true })) = some (if m.th = true then s.put j m else s) := by
    intro s m j hz hf hs
    cases ht : m.th with
    | false => rw [hf, ht]; rfl
    | true =>
      rw [hf, ht, (slot_none (hs ht)).2, Ms.eta m ht]
      rfl
  have s0 := run T3.zero a 0 z0 e0 (fun _ => by simp [T3.find, T3.zero, Ms.zero])
  have f0 : (if a.th = true then T3.zero.put 0 a else T3.zero) = ⟨a, Ms.zero, Ms.zero⟩ := by
    cases ha : a.th with
    | true => rfl
    | false => rw [z0 ha]; rfl
  have s1 := run ⟨a, Ms.zero, Ms.zero⟩ b 1 z1 e1 (fun hb => by
    have : ¬ (a.th = true ∧ a.id = b.id) := fun h => a01 h.1 hb h.2
    unfold T3.find
    rw [if_neg this, if_neg (by simp [Ms.zero]), if_neg (by simp [Ms.zero])])
  have f1 : (if b.th = true then (T3.mk a Ms.zero Ms.zero).put 1 b else ⟨a, Ms.zero, Ms.zero⟩) = ⟨a, b, Ms.zero⟩ := by
    cases hb : b.th with
    | true => rfl
    | false => rw [z1 hb]; rfl
  have s2 := run ⟨a, b, Ms.zero⟩ c 2 z2 e2 (fun hc => by
    have u0 : ¬ (a.th = true ∧ a.id = c.id) := fun h => a02 h.1 hc h.2
    have u1 : ¬ (b.th = true ∧ b.id = c.id) := fun h => a12 h.1 hc h.2
    unfold T3.find
    rw [if_neg u0, if_neg u1, if_neg (by simp [Ms.zero])])
  have f2 : (if c.th = true then (T3.mk a b Ms.zero).put 2 c else ⟨a, b, Ms.zero⟩) = ⟨a, b, c⟩ := by
    cases hc : c.th with
    | true => rfl
    | false => rw [z2 hc]; rfl
  rw [f0] at s0
  rw [f1] at s1
  rw [f2] at s2
  have r1 : ofRun (T3.list ⟨a, b, c⟩) 1 = some ⟨a, Ms.zero, Ms.zero⟩ := s0
  have r2 : ofRun (T3.list ⟨a, b, c⟩) 2 = some ⟨a, b, Ms.zero⟩ := by
    show (match ofRun (T3.list ⟨a, b, c⟩) 1 with | none => none | some s => _) = _
    rw [r1]
    exact s1
  show (match ofRun (T3.list ⟨a, b, c⟩) 2 with | none => none | some s => _) = _
  rw [r2]
  exact s2
theorem list_right {s : T3} (h : s.sound) : ofC s.list = 0 := ofC_0 rfl (by simp [T3.list, h.1.right, h.2.1.right, h.2.2.1.right]) (ofRun_list h)

theorem ofRun_good {l : List Ms} (h : ∀ m ∈ l, rightB m = true) : ∀ j s, ofRun l j = some s → s.good
  | 0, s, e => by
    obtain rfl := Option.some.inj e
    exact ⟨Good.zero, Good.zero, Good.zero⟩
  | j + 1, s, e => by
    have e : (match ofRun l j with | none => none | some s => if freeB (l.getD j Ms.zero) = true then some s else if slotB s (l.getD j Ms.zero).id = true then none else some (s.put j { (l.getD j Ms.zero) with th := true })) = some s := e
    cases hr : ofRun l j with
    | none => rw [hr] at e; cases e
    | some t =>
      have ht := ofRun_good h j t hr
      rw [hr] at e
      have e : (if freeB (l.getD j Ms.zero) = true then some t else if slotB t (l.getD j Ms.zero).id = true then none else some (t.put j { (l.getD j Ms.zero) with th := true })) = some s := e
      split at e
      · obtain rfl := Option.some.inj e
        exact ht
      · split at e
        · cases e
        · obtain rfl := Option.some.inj e
          refine ht.put _ ?_
          by_cases hj : j < l.length
          · have hm := h l[j] (List.getElem_mem hj)
            have hg : l.getD j Ms.zero = l[j] := by simp [List.getD, hj]
            rw [hg]
            unfold rightB at hm
            simp at hm
            exact ⟨hm.1.1.1, hm.1.1.2, hm.1.2⟩
          · have hg : l.getD j Ms.zero = Ms.zero := by simp [List.getD, hj]
            rw [hg]
            exact ⟨by decide, by decide, by decide⟩
theorem ofC_right {l : List Ms} (h : ofC l = 0) : ∀ m ∈ l, rightB m = true := by
  unfold ofC at h
  split at h
  · rename_i hh
    exact List.all_eq_true.1 hh.2
  · cases h
theorem seeC_two (s : T3) (id : Int) : seeC s id = 0 ∨ seeC s id = 35 := by
  unfold seeC
  split
  · exact .inl rfl
  · split
    · exact .inl rfl
    · exact .inr rfl
def LiesR (w : World) (A : Option Addr) (l : List Ms) : Prop := 0 < l.length → ∃ g o, A = some ⟨g, o, none⟩ ∧ BcsAt w g o l
theorem LiesR.keep {w w' : World} {A : Option Addr} {l : List Ms} (h : LiesR w A l) (b : Below w.heap.size w w') : LiesR w' A l := fun hp => by
  obtain ⟨g, o, e, X⟩ := h hp
  exact ⟨g, o, e, X.keep b⟩

set_option maxRecDepth 100000 in
set_option maxHeartbeats 16000000 in
theorem Back_walk (A1 : Option Addr) (c1 : Nat) (l : List Ac) (A2 : Option Addr) (c2 : Nat) (rw_ : List Ms) (w : World) (hg : Laid w) (hl : LiesA w A1 l) (hw : ∀ x ∈ l, AcWf x) (ll : l.length ≤ 40) (hr : LiesR w A2 rw_) (lr : rw_.length ≤ 6) :
    Calls Tryd.prog 7 #[.slice A1 l.length c1, .slice A2 rw_.length c2] w fun r w' => r = .returned (.bool true) ∧ Below w.heap.size w w' := by
  have K := known24 w hg
  have ll' : (l.length : Int) ≤ 40 := by omega
  have lr' : (rw_.length : Int) ≤ 6 := by omega
  have HL := Lib.hid hl
  have HW := Lib.hid hw
  have HR := Lib.hid hr
  have LR := Lib.hid lr
  clear hl hw hr lr
  go_enter Tryd.func7, Tryd.ntmps7
  go_wp2_with fail
  refine K.mono ?_; rintro r w0 ⟨rfl, B0⟩
  clear K
  go_wp2_with fail
  go_loop [5] (fun i => ∃ j : Nat, j ≤ rw_.length ∧ i = .int .i64 j ∧ ∀ k (h : k < rw_.length), k < j → rw_[k].n ≤ 12) (fun i => rw_.length - (intOf i).toNat)
  case atStart => exact ⟨0, Nat.zero_le _, rfl, fun k _ h => absurd h (Nat.not_lt_zero _)⟩
  case round =>
    obtain ⟨j, hj, rfl, hn⟩ := hrel
    have HN := Lib.hid hn
    clear hn
    by_cases hlt : j < rw_.length
    · obtain ⟨g, o, rfl, X⟩ := (HR.out.keep B0) (by omega)
      obtain ⟨A', d, _, _, _, q3, _⟩ := X j hlt
      have hj' : (j : Int) < (rw_.length : Int) := by omega
      have hj0 : (0 : Int) ≤ (j : Int) := by omega
      clear X
      generalize hm : rw_[j] = m at *
      have Hm := Lib.hid hm
      clear hm
      by_cases h12 : 12 < m.n
      · have t1 : decide (12 < (m.n : Int)) = true := by simp; omega
        clear h12
        go_wp2_with fail
        go_ret
        exact ⟨rfl, B0⟩
      · have t1 : decide (12 < (m.n : Int)) = false := by simp; omega
        have H12 := Lib.hid h12
        clear h12
        go_wp2_with fail
        exact ⟨⟨j + 1, by omega, by go_num, fun k hk hkj => (by
          by_cases h : k < j
          · exact HN.out k hk h
          · have : k = j := by omega
            subst this
            rw [Hm.out]; have := H12.out; omega)⟩, by simp [intOf]; omega⟩
    · obtain rfl : j = rw_.length := by omega
      have hn : ∀ m ∈ rw_, m.n ≤ 100 := fun m hm => by
        obtain ⟨k, hk, rfl⟩ := List.getElem_of_mem hm
        have := HN.out k hk hk
        omega
      have HNN := Lib.hid hn
      clear HN hn
      go_wp2_with fail
      refine (New_c w0).mono ?_; rintro r w1 ⟨rfl, T, h0⟩
      have B1 := bbT B0 h0
      have hp : w.heap.size ≤ w0.heap.size := B0.size
      have z1 : w0.heap.size + 1 ≤ w1.heap.size := Blk.lt T
      have P0 : PT w1 w0.heap.size (w0.heap.size + 1) T3.zero := PT.new T
      clear T h0 B0
      generalize w0.heap.size = p at *
      go_wp2_with fail
      go_loopw [7] (fun i wr => ∃ (j : Nat) (s : T3), j ≤ l.length ∧ i = .int .i64 j ∧ s.sound ∧ PT wr p (p + 1) s ∧ p + 1 ≤ wr.heap.size ∧ Below w.heap.size w wr) (fun i _ => l.length - (intOf i).toNat)
      case atStart => exact ⟨0, T3.zero, Nat.zero_le _, rfl, ⟨Sound.zero, Sound.zero, Sound.zero, (fun h => by cases h), (fun h => by cases h), (fun h => by cases h)⟩, P0, z1, B1⟩
      case round =>
        obtain ⟨j, s, hj, rfl, SO, P, hz, B⟩ := hrel
        clear P0 z1 B1
        by_cases hlt : j < l.length
        · obtain ⟨bl, off, rfl, hc⟩ := (HL.out.keep B) (by omega)
          obtain ⟨q0, q1, q2, q3, q4, q5, q6⟩ := hc j hlt
          obtain ⟨⟨x0, x1⟩, ⟨x2, x3⟩, ⟨x4, x5⟩⟩ := HW.out l[j] (List.getElem_mem hlt)
          clear hc
          have hj' : (j : Int) < (l.length : Int) := by omega
          have hj0 : (0 : Int) ≤ (j : Int) := by omega
          generalize l[j] = x at *
          obtain ⟨k0, w3, hw3, k3, b3⟩ := newA wr x
          go_upto_region 15 with (first | (refine stAc k0 rfl _ _ rfl rfl rfl rfl ?_))
          rw [← hw3]
          replace P := P.keep b3
          replace B := bbT B b3
          have hz3 : p + 1 ≤ w3.heap.size := Nat.le_trans hz b3.size
          clear b3 hw3 k0 q0 q1 q2 q3 q4 q5 q6
          have hxz : p + 1 ≤ wr.heap.size := hz
          clear hz
          generalize wr.heap.size = xb at *
          have l1 := (Blk.cell k3 1).trans (show _ = some (.int .u8 x.id) from rfl)
          have idn : x.id % 5 + 1 ≠ 0 := by omega
          have hp1 : p < p + 1 := by omega
          have hx : xb ≠ p := by omega
          have S1 := See_t P hp1 (x.id % 5 + 1)
          have SO1 := seeS_sound SO idn
          have IDN := Lib.hid idn
          clear idn
          go_wp2_with fail
          have idz := Lib.hid (show (0 : Int) = 0 from rfl)
          generalize x.id % 5 + 1 = id' at *
          refine S1.mono ?_; rintro e w4 ⟨v, rfl, E4, P4, o4⟩
          have k4 := One.blk o4 k3 hx
          have B4 := One.below o4 B hp
          have hz4 : p + 1 ≤ w4.heap.size := Nat.le_trans hz3 o4.2.2.2.1
          clear S1 P B k3 l1 hz3 SO
          rcases seeC_two s id' with hc | hc
          · rw [hc] at E4
            obtain rfl := E4.none
            clear E4 hc
            generalize seeS s id' = s' at *
            generalize seeK s id' = k at *
            have l0 := (Blk.cell k4 0).trans (show _ = some (.int .u8 x.what) from rfl)
            have hwh0 : 0 ≤ x.what % 4 := by omega
            have hwh1 : x.what % 4 < 4 := by omega
            rcases (show x.what % 4 = 0 ∨ x.what % 4 = 1 ∨ x.what % 4 = 2 ∨ x.what % 4 = 3 by omega) with h | h | h | h
            · have l3 := (Blk.cell k4 3).trans (show _ = some (.int .i64 x.x) from rfl)
              have l4 := (Blk.cell k4 4).trans (show _ = some (.int .i64 x.y) from rfl)
              have l5 := (Blk.cell k4 5).trans (show _ = some (.int .i64 x.r) from rfl)
              have KP := Keep_t P4 SO1.good hp1 hz4 (k : Int) x.x x.y x.r
              have SS := keepS_sound SO1 (k : Int) x.x x.y x.r
              go_wp2_with fail
              refine KP.mono ?_; rintro e w5 ⟨v5, rfl, _, P5, o5⟩
              go_wp2_with fail
              exact ⟨⟨j + 1, _, by omega, by go_num, SS, P5, Nat.le_trans hz4 o5.2.2.2.1, One.below o5 B4 hp⟩, by simp [intOf]; omega⟩
            · have KP := Set_t P4 SO1.good hp1 (k : Int)
              have SS := setS_sound SO1 (k : Int)
              go_wp2_with fail
              refine KP.mono ?_; rintro e w5 ⟨v5, rfl, _, P5, o5⟩
              go_wp2_with fail
              exact ⟨⟨j + 1, _, by omega, by go_num, SS, P5, Nat.le_trans hz4 o5.2.2.2.1, One.below o5 B4 hp⟩, by simp [intOf]; omega⟩
            · have l6 := (Blk.cell k4 6).trans (show _ = some (.bool x.on) from rfl)
              have KP := Score_t P4 SO1.good hp1 (k : Int) x.on
              have SS := scoreS_sound SO1 (k : Int) x.on
              go_wp2_with fail
              refine KP.mono ?_; rintro e w5 ⟨v5, rfl, _, P5, o5⟩
              go_wp2_with fail
              exact ⟨⟨j + 1, _, by omega, by go_num, SS, P5, Nat.le_trans hz4 o5.2.2.2.1, One.below o5 B4 hp⟩, by simp [intOf]; omega⟩
            · go_wp2_with fail
              exact ⟨⟨j + 1, _, by omega, by go_num, SO1, P4, hz4, B4⟩, by simp [intOf]; omega⟩
          · rw [hc] at E4
            obtain ⟨u, rfl⟩ := E4.some (by decide)
            clear E4 hc
            generalize seeS s id' = s' at *
            generalize seeK s id' = k at *
            have l1 := (Blk.cell k4 1).trans (show _ = some (.int .u8 x.id) from rfl)
            have KP := Drop_t P4 hp1 (x.id % 4 + 1)
            have SS := dropS_sound SO1 (x.id % 4 + 1)
            go_wp2_with fail
            refine KP.mono ?_; rintro e w5 ⟨v5, rfl, _, P5, o5⟩
            go_wp2_with fail
            exact ⟨⟨j + 1, _, by omega, by go_num, SS, P5, Nat.le_trans hz4 o5.2.2.2.1, One.below o5 B4 hp⟩, by simp [intOf]; omega⟩
        · obtain rfl : j = l.length := by omega
          have AL := All_t P SO.good
          go_wp2_with fail
          refine AL.mono ?_; rintro e v1 ⟨g1, cap1, rfl, hcap1, X1, b1⟩
          have OF1 := Of_c (w := v1) (A := some ⟨g1, 0, none⟩) (c := cap1) (l := s.list) (fun _ => ⟨g1, 0, rfl, X1⟩) (by simp [T3.list]) (fun m hm => by
            have h : Good m := by
              simp [T3.list] at hm
              rcases hm with rfl | rfl | rfl
              · exact SO.good.1
              · exact SO.good.2.1
              · exact SO.good.2.2
            have := h.2.2; omega)
          have OF1 : Calls Tryd.prog 28 #[.slice (some ⟨g1, 0, none⟩) 3 cap1] v1 (OfPost s.list v1) := OF1
          replace P := P.keep b1
          replace B := bbT B b1
          clear AL b1 X1
          go_wp2_with fail
          refine OF1.mono ?_; rintro e v2 ⟨b2, h2⟩
          have h2' : ∃ pu, e = .returned (.tuple #[.pointer (some ⟨pu, 0, none⟩), .nilIface]) ∧ PT v2 pu (pu + 1) s := by
            rcases h2 with ⟨hne, _⟩ | ⟨_, pu, s', hs', he, _, hP⟩
            · exact absurd (list_right SO) hne
            · rw [ofRun_list SO] at hs'
              obtain rfl := Option.some.inj hs'
              exact ⟨pu, he, hP⟩
          obtain ⟨pu, rfl, PU⟩ := h2'
          replace P := P.keep b2
          replace B := bbT B b2
          clear h2 b2 OF1
          have OF2 := Of_c (w := v2) (c := c2) (HR.out.keep B) (by have := LR.out; omega) HNN.out
          go_wp2_with fail
          refine OF2.mono ?_; rintro e v3 ⟨b3, h3⟩
          have H3 := Lib.hid h3
          clear h3 OF2
          replace P := P.keep b3
          replace PU := PU.keep b3
          replace B := bbT B b3
          have OF3 := ROf_c (w := v3) (c := c2) (HR.out.keep B) (by have := LR.out; omega) HNN.out
          by_cases hC : ofC rw_ = 0
          · have h3' : ∃ pv sv, ofRun rw_ 3 = some sv ∧ e = .returned (.tuple #[.pointer (some ⟨pv, 0, none⟩), .nilIface]) ∧ PT v3 pv (pv + 1) sv := by
              rcases H3.out with ⟨hne, _⟩ | ⟨_, pv, sv, hs, he, _, hP⟩
              · exact absurd hC hne
              · exact ⟨pv, sv, hs, he, hP⟩
            obtain ⟨pv, sv, hsv, rfl, PV⟩ := h3'
            clear H3 b3
            go_wp2_with fail
            refine OF3.mono ?_; rintro e v4 ⟨b4, h4⟩
            have h4' : ∃ pw, e = .returned (.tuple #[.pointer (some ⟨pw, 0, none⟩), .int .i64 0]) ∧ RT v4 pw (pw + 1) sv := by
              rcases h4 with ⟨hne, _⟩ | ⟨_, pw, sw, hs, he, _, hP⟩
              · exact absurd hC hne
              · rw [hsv] at hs
                obtain rfl := Option.some.inj hs
                exact ⟨pw, he, hP⟩
            have gs := ofRun_good (ofC_right hC) 3 sv hsv
            obtain ⟨pw, rfl, PW⟩ := h4'
            replace P := P.keep b4
            replace PU := PU.keep b4
            replace PV := PV.keep b4
            replace B := bbT B b4
            clear h4 b4 OF3 hC hsv
            have AU := All_t PU SO.good
            go_wp2_with fail
            refine AU.mono ?_; rintro e v5 ⟨g5, cap5, rfl, hcap5, X5, b5⟩
            replace P := P.keep b5
            replace PU := PU.keep b5
            replace PV := PV.keep b5
            replace PW := PW.keep b5
            replace B := bbT B b5
            have AT := All_t P SO.good
            go_wp2_with fail
            refine AT.mono ?_; rintro e v6 ⟨g6, cap6, rfl, hcap6, X6, b6⟩
            have BE := Beacons_3 (X5.keep b6) X6 hcap5 hcap6 SO.good
            replace PV := PV.keep b6
            replace PW := PW.keep b6
            replace B := bbT B b6
            go_wp2_with fail
            refine BE.mono ?_; rintro e v7 ⟨rfl, kk, rfl⟩
            replace B := below_drewN B kk
            have SY := says24 0 _ (hg.below B) (ErrIs.nil op24 (v6.drewN kk))
            simp only [decide_true] at SY
            go_wp2_with fail
            refine SY.mono ?_; rintro e v8 ⟨rfl, b8⟩
            replace B := bbT B b8
            have SM := same_t ((PV.keep (below_drewN (Below.refl _ _) kk)).keep b8) ((PW.keep (below_drewN (Below.refl _ _) kk)).keep b8) gs
            go_wp2_with fail
            refine SM.mono ?_; rintro e v9 ⟨rfl, b9⟩
            go_wp2_with fail
            go_ret
            exact ⟨rfl, bbT B b9⟩
          · have h3' : ∃ v, e = .returned (.tuple #[.pointer none, v]) ∧ ErrIs op24 v3 v (ofC rw_) := by
              rcases H3.out with ⟨_, v, he, hv⟩ | ⟨h0, _⟩
              · exact ⟨v, he, hv⟩
              · exact absurd h0 hC
            obtain ⟨v, rfl, EV⟩ := h3'
            clear H3 b3
            obtain ⟨u, rfl⟩ := EV.some hC
            go_wp2_with fail
            refine OF3.mono ?_; rintro e v4 ⟨b4, h4⟩
            have h4' : e = .returned (.tuple #[.pointer none, .int .i64 (ofC rw_)]) := by
              rcases h4 with ⟨_, he⟩ | ⟨h0, _⟩
              · exact he
              · exact absurd h0 hC
            subst h4'
            replace P := P.keep b4
            replace PU := PU.keep b4
            replace B := bbT B b4
            replace EV := EV.below b4
            clear h4 b4 OF3
            have hCb : (ofC rw_ == 0) = false := by simpa using hC
            have hCn : (ofC rw_ != 0) = true := by simpa using hC
            generalize ofC rw_ = CC at *
            clear hC
            have AU := All_t PU SO.good
            go_wp2_with fail
            refine AU.mono ?_; rintro e v5 ⟨g5, cap5, rfl, hcap5, X5, b5⟩
            replace P := P.keep b5
            replace PU := PU.keep b5
            replace EV := EV.below b5
            replace B := bbT B b5
            have AT := All_t P SO.good
            go_wp2_with fail
            refine AT.mono ?_; rintro e v6 ⟨g6, cap6, rfl, hcap6, X6, b6⟩
            have BE := Beacons_3 (X5.keep b6) X6 hcap5 hcap6 SO.good
            replace EV := EV.below b6
            replace B := bbT B b6
            go_wp2_with fail
            refine BE.mono ?_; rintro e v7 ⟨rfl, kk, rfl⟩
            replace B := below_drewN B kk
            have SY := says24 CC _ (hg.below B) (EV.below (below_drewN (Below.refl _ _) kk))
            simp only [decide_true] at SY
            go_wp2_with fail
            refine SY.mono ?_; rintro e v8 ⟨rfl, b8⟩
            replace B := bbT B b8
            go_wp2_with fail
            go_ret
            exact ⟨rfl, B⟩

set_option maxRecDepth 100000 in
set_option maxHeartbeats 16000000 in
theorem TableBack_law (A1 : Option Addr) (c1 : Nat) (l : List Ac) (A2 : Option Addr) (c2 : Nat) (rw_ : List Ms) (w : World) (hg : Laid w) (y : l.length ≤ c1) (z : c1 ≤ maxLen) (hw : ∀ x ∈ l, AcWf x) (hl : LiesA w A1 l) (y2 : rw_.length ≤ c2) (z2 : c2 ≤ maxLen) (hr : LiesR w A2 rw_) :
    Calls Tryd.prog 7 #[.slice A1 l.length c1, .slice A2 rw_.length c2] w fun r w' => r = .returned (.bool true) ∧ Below w.heap.size w w' := by
  by_cases ll : l.length ≤ 40
  · by_cases lr : rw_.length ≤ 6
    · exact Back_walk A1 c1 l A2 c2 rw_ w hg hl hw ll hr lr
    · have K := known24 w hg
      have ll' : decide (40 < (l.length : Int)) = false := by simp; omega
      have lr' : decide (6 < (rw_.length : Int)) = true := by simp; omega
      clear hl hw hr ll lr
      go_enter Tryd.func7, Tryd.ntmps7
      go_wp2_with fail
      refine K.mono ?_; rintro r w0 ⟨rfl, B0⟩
      go_wp2_with fail
      go_ret
      exact ⟨rfl, B0⟩
  · have K := known24 w hg
    have ll' : decide (40 < (l.length : Int)) = true := by simp; omega
    clear hl hw hr ll
    go_enter Tryd.func7, Tryd.ntmps7
    go_wp2_with fail
    refine K.mono ?_; rintro r w0 ⟨rfl, B0⟩
    go_wp2_with fail
    go_ret
    exact ⟨rfl, B0⟩

end Go.Proofs.YtekcemncmgingaaDoor.YErr
