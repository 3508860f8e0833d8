/- The document's table: Of beacons that came in. No condition. -/
import Derived.Test.YtekcemncmgingaaDoorYTBack2
namespace Go.Proofs.YtekcemncmgingaaDoor.YErr
open Go.RowKit Go.Extern.Stop Go.Stop Go.Extern
set_option linter.unusedVariables false
set_option linter.unusedSimpArgs false
/-- What the document's Of tells. -/
def ROfPost (l : List Ms) (w : World) (e : Ending) (w' : World) : Prop :=
  Below w.heap.size w w' ∧ ((ofC l ≠ 0 ∧ e = .returned (.tuple #[.pointer none, .int .i64 (ofC l)])) ∨
    (ofC l = 0 ∧ ∃ p s, ofRun l 3 = some s ∧ e = .returned (.tuple #[.pointer (some ⟨p, 0, none⟩), .int .i64 0]) ∧ w.heap.size ≤ p ∧ RT w' p (p + 1) s))
theorem run_append_rng' {w : World} (ty : TypeId) (base : Nat) (v : Value) (n : Nat) (xs : List Value) (hown : w.ownsRow base 49 3 v n xs) {A : Option Addr} {m c : Nat} {L : List Int} (R : Rng w A m c L) (hm : n + m ≤ 1000) (hb : base ≤ w.heap.size) :
    ∃ v' w', (Builtin.append_ #[32, 32] ty #[v, .slice A m c]).run Tryd.prog w = .ok v' w' ∧ w'.ownsRow base 49 3 v' (n + m) (xs ++ L.map (Value.int .i64)) ∧ w.grownBy w' v.ownBlock := by
  obtain ⟨i0, hi, hz0, hz1, hz2⟩ := info_parts infoSeen
  rcases A with _ | ad
  · obtain ⟨rfl, rfl⟩ := R.none_
    refine ⟨v, w, ?_, by simpa using hown, gro_refl _ _⟩
    rcases hown.2 with ⟨rfl, rfl⟩ | ⟨g, cap, cur, rfl, _, _, hnc, _⟩
    · simp [Builtin.append_, run_underlying Tryd.underlying32, sizeOf, typeInfo, hi, Builtin.lenOf, Builtin.firstCells]
    · simp [Builtin.append_, run_underlying Tryd.underlying32, sizeOf, typeInfo, hi, Builtin.lenOf, Builtin.firstCells, hnc, storeCells]
  · obtain ⟨v', w', hr, h2, h3, _, _⟩ := run_append_own_at (P := Tryd.prog) w base 32 ty 49 i0 (.agg #[.int .i64 0, .int .i64 0, .int .i64 0]) 3 24 Tryd.underlying32 hi hz0 hz1 hz2 rfl (by decide) v n xs hown ad m c (L.map (Value.int .i64)) (by simpa using R.1) R.at_ (fun u hu => by obtain ⟨x, _, rfl⟩ := List.mem_map.1 hu; rfl) (by unfold maxLen; omega) (by omega) hb
    exact ⟨v', w', hr, h2, h3⟩
theorem step_append_rng' {w : World} {ops : Array Oper} {o : Oper} {a : Act} {K : Act → World → Prop} {Q : Exit → Act → World → Prop} {E : Prop} (hgd : o.guard = Option.none) (s x : Operand)
    (ho : o.op = .call { callee := .builtin .append, args := #[s, x], argTypes := #[32, 32] }) (base : Nat) (v : Value) (n : Nat) (xs : List Value) (hs : a.eval s = v) (hown : w.ownsRow base 49 3 v n xs) {A : Option Addr} {m c : Nat} {L : List Int} (hx : a.eval x = .slice A m c) (R : Rng w A m c L) (hm : n + m ≤ 1000) (hb : base ≤ w.heap.size)
    (h : ∀ v' w', w'.ownsRow base 49 3 v' (n + m) (xs ++ L.map (Value.int .i64)) → w.grownBy w' v.ownBlock → K (a.put o.dst v') w') :
    if Region.wanted o (yielded ops a.tmps) = true then Oper.wp Tryd.prog o a w K Q else E := by
  have hw : Region.wanted o (yielded ops a.tmps) = true := by simp [Region.wanted, hgd]
  rw [if_pos hw]
  obtain ⟨v', w', hrun, h2, h3⟩ := run_append_rng' (w := w) o.type base v n xs hown R hm hb
  unfold Oper.wp execOp
  simp only [ho, resolve, invoke, builtin, Sem.run_bind, Sem.run_pure, Result.andThen_ok, List.map_toArray, List.map_cons, List.map_nil, hs, hx, hrun]
  exact h v' w' h2 h3
theorem right_ways (m : Ms) : (rightB m = false ∧ m.sc < -8) ∨ (rightB m = false ∧ ¬ m.sc < -8 ∧ 8 < m.sc) ∨ (rightB m = false ∧ ¬ m.sc < -8 ∧ ¬ 8 < m.sc ∧ 8 < m.n) ∨ (rightB m = false ∧ ¬ m.sc < -8 ∧ ¬ 8 < m.sc ∧ ¬ 8 < m.n ∧ m.pl = true ∧ 0 < m.n) ∨ (rightB m = true ∧ ¬ m.sc < -8 ∧ ¬ 8 < m.sc ∧ ¬ 8 < m.n ∧ m.pl = true ∧ ¬ 0 < m.n) ∨ (rightB m = true ∧ ¬ m.sc < -8 ∧ ¬ 8 < m.sc ∧ ¬ 8 < m.n ∧ m.pl = false) := by
  unfold rightB
  by_cases h1 : m.sc < -8
  · left; exact ⟨by simp; omega, h1⟩
  · by_cases h2 : 8 < m.sc
    · right; left; exact ⟨by simp; omega, h1, h2⟩
    · by_cases h3 : 8 < m.n
      · right; right; left; exact ⟨by simp; omega, h1, h2, h3⟩
      · cases hp : m.pl with
        | true =>
          by_cases h4 : 0 < m.n
          · right; right; right; left; exact ⟨by simp; omega, h1, h2, h3, rfl, h4⟩
          · right; right; right; right; left; exact ⟨by simp; omega, h1, h2, h3, rfl, h4⟩
        | false => right; right; right; right; right; exact ⟨by simp; omega, h1, h2, h3, rfl⟩

set_option maxRecDepth 100000 in
set_option maxHeartbeats 16000000 in
theorem ROf_c {w : World} {A : Option Addr} {c : Nat} {l : List Ms} (X : 0 < l.length → ∃ g o, A = some ⟨g, o, none⟩ ∧ BcsAt w g o l) (hl : l.length ≤ 10) (hn : ∀ m ∈ l, m.n ≤ 100) : Calls Tryd.prog 30 #[.slice A l.length c] w (ROfPost l w) := by
  by_cases h3 : l.length = 3
  · obtain ⟨g, o, rfl, XB⟩ := X (by omega)
    have H3 := Lib.hid h3
    have HX := Lib.hid XB
    have HN := Lib.hid hn
    have e4 : ((l.length : Int) != 3) = false := by simp; omega
    have l3 : (l.length : Int) = 3 := by omega
    have L3 := Lib.hid l3
    clear h3 l3 XB hn X
    go_enter Tryd.func30, Tryd.ntmps30
    go_wp2_with fail
    clear e4
    go_loop [4] (fun i => ∃ j : Nat, j ≤ 3 ∧ i = .int .i64 j ∧ (∀ k (h : k < l.length), k < j → rightB l[k] = true)) (fun i => 3 - (intOf i).toNat)
    case atStart => exact ⟨0, by decide, rfl, fun k _ h => absurd h (Nat.not_lt_zero _)⟩
    case round =>
      obtain ⟨j, hj, rfl, hR⟩ := hrel
      have HR := Lib.hid hR
      clear hR
      by_cases hlt : j < 3
      · have hjl : j < l.length := by rw [H3.out]; exact hlt
        obtain ⟨A', d, q0, q1, q2, q3, R⟩ := HX.out j hjl
        have hj' : (j : Int) < (l.length : Int) := by have := L3.out; omega
        have hj0 : (0 : Int) ≤ (j : Int) := by omega
        generalize hm : l[j] = m at *
        have Hm := Lib.hid hm
        clear hm R
        have bad_ : rightB m = false → ofC l = 27 := fun h => ofC_27 (fun h' => by
          have := List.all_eq_true.1 h'.2 l[j] (List.getElem_mem hjl)
          rw [Hm.out, h] at this
          cases this)
        have good_ : rightB m = true → ∀ k (h : k < l.length), k < j + 1 → rightB l[k] = true := fun h k hk hkj => by
          by_cases h' : k < j
          · exact HR.out k hk h'
          · have : k = j := by omega
            subst this
            rw [Hm.out]; exact h
        have hm' := right_ways m
        rcases hm' with ⟨hr, s1⟩ | ⟨hr, s1, s2⟩ | ⟨hr, s1, s2, s3⟩ | ⟨hr, s1, s2, s3, s4, s5⟩ | ⟨hr, s1, s2, s3, s4, s5⟩ | ⟨hr, s1, s2, s3, s4⟩
        · have t1 : decide (m.sc < -8) = true := by simpa using s1
          have HC := Lib.hid (bad_ hr)
          clear bad_ good_ hr
          clear s1
          go_wp2_with fail
          go_ret2
          exact ⟨Below.refl _ _, .inl ⟨by rw [HC.out]; decide, by rw [HC.out]; rfl⟩⟩
        · have t1 : decide (m.sc < -8) = false := by simpa using s1
          have t2 : decide (8 < m.sc) = true := by simpa using s2
          have HC := Lib.hid (bad_ hr)
          clear bad_ good_ hr
          clear s1
          go_wp2_with fail
          go_ret2
          exact ⟨Below.refl _ _, .inl ⟨by rw [HC.out]; decide, by rw [HC.out]; rfl⟩⟩
        · have t1 : decide (m.sc < -8) = false := by simpa using s1
          have t2 : decide (8 < m.sc) = false := by simpa using s2
          have t3 : decide (8 < (m.n : Int)) = true := by simp; omega
          have HC := Lib.hid (bad_ hr)
          clear bad_ good_ hr
          clear s1
          go_wp2_with fail
          go_ret2
          exact ⟨Below.refl _ _, .inl ⟨by rw [HC.out]; decide, by rw [HC.out]; rfl⟩⟩
        · have t1 : decide (m.sc < -8) = false := by simpa using s1
          have t2 : decide (8 < m.sc) = false := by simpa using s2
          have t3 : decide (8 < (m.n : Int)) = false := by simp; omega
          have t5 : decide (0 < (m.n : Int)) = true := by simp; omega
          have t6 : decide (0 < m.n) = true := by simp; omega
          have HC := Lib.hid (bad_ hr)
          rw [s4] at q1
          clear bad_ good_ hr
          clear s1
          go_wp2_with fail
          go_ret2
          exact ⟨Below.refl _ _, .inl ⟨by rw [HC.out]; decide, by rw [HC.out]; rfl⟩⟩
        · have t1 : decide (m.sc < -8) = false := by simpa using s1
          have t2 : decide (8 < m.sc) = false := by simpa using s2
          have t3 : decide (8 < (m.n : Int)) = false := by simp; omega
          have t5 : decide (0 < (m.n : Int)) = false := by simp; omega
          have t6 : decide (0 < m.n) = false := by simp; omega
          have HG := Lib.hid (good_ hr)
          rw [s4] at q1
          clear bad_ good_ hr
          clear s1
          go_wp2_with fail
          exact ⟨⟨j + 1, by omega, by go_num, HG.out⟩, by simp [intOf]; omega⟩
        · have t1 : decide (m.sc < -8) = false := by simpa using s1
          have t2 : decide (8 < m.sc) = false := by simpa using s2
          have t3 : decide (8 < (m.n : Int)) = false := by simp; omega
          have HG := Lib.hid (good_ hr)
          rw [s4] at q1
          clear bad_ good_ hr
          clear s1
          go_wp2_with fail
          exact ⟨⟨j + 1, by omega, by go_num, HG.out⟩, by simp [intOf]; omega⟩
      · obtain rfl : j = 3 := by omega
        have ha : l.all rightB = true := by
          rw [List.all_eq_true]
          intro x hx
          obtain ⟨k, hk, rfl⟩ := List.getElem_of_mem hx
          exact HR.out k hk (by have := H3.out; omega)
        have Ha := Lib.hid ha
        have l3' := L3.out
        clear ha HR
        go_wp2_with fail
        clear l3'
        have TQ : Rt (w.alloc (.cells (rcs Sl.none Sl.none Sl.none) 56)) w.heap.size Sl.none Sl.none Sl.none := Blk.new _ _ _
        have P0 : RT (w.alloc (.cells (rcs Sl.none Sl.none Sl.none) 56)) w.heap.size (w.heap.size + 1) T3.zero := RT.new TQ
        have B2 : Below w.heap.size w (w.alloc (.cells (rcs Sl.none Sl.none Sl.none) 56)) := (Below.refl _ _).alloc (Nat.le_refl _) _
        have z0 : w.heap.size + 1 ≤ (w.alloc (.cells (rcs Sl.none Sl.none Sl.none) 56)).heap.size := by simp
        simp only [rcs, Sl.none] at P0 B2 z0
        clear TQ
        generalize (w.alloc (.cells _ 56)) = w2 at *
        have hpw : w.heap.size ≤ w.heap.size := Nat.le_refl _
        generalize hpp : w.heap.size = p at P0 z0 hpw ⊢
        go_loopw [6] (fun i wr => ∃ (j : Nat) (s : T3), j ≤ 3 ∧ i = .int .i64 j ∧ ofRun l j = some s ∧ RT wr p (p + 1) s ∧ p + 1 ≤ wr.heap.size ∧ Below w.heap.size w wr) (fun i _ => 3 - (intOf i).toNat)
        case atStart => exact ⟨0, T3.zero, by decide, rfl, rfl, P0, z0, B2⟩
        case round =>
          obtain ⟨j, s, hj, rfl, hR, P, hz, B⟩ := hrel
          have HR := Lib.hid hR
          have hwp : w.heap.size ≤ p := by omega
          clear P0 z0 B2 hR hpp hpw
          by_cases hlt : j < 3
          · have hjl : j < l.length := by rw [H3.out]; exact hlt
            have HB := HX.out j hjl
            obtain ⟨A', d, q0, q1, q2, q3, R⟩ := HB.keep B
            have hm100 := HN.out l[j] (List.getElem_mem hjl)
            have hgd : l.getD j Ms.zero = l[j] := by simp [List.getD, hjl]
            have hstep : ofRun l (j + 1) = if freeB l[j] = true then some s else if slotB s l[j].id = true then none else some (s.put j { l[j] with th := true }) := by
              show (match ofRun l j with | none => none | some s => _) = _
              rw [HR.out]
              simp only [hgd]
            generalize l[j] = m at *
            have HS := Lib.hid hstep
            have hj' : (j : Int) < (l.length : Int) := by have := L3.out; omega
            have hj0 : (0 : Int) ≤ (j : Int) := by omega
            clear hstep hgd
            have FC := rfree_c m A' d
            cases hf : freeB m with
            | true =>
              rw [hf] at FC
              have Hf := Lib.hid hf
              clear hf HB
              go_wp2_with (first | (go_at_call 46; (with_reducible refine (FC _).mono ?_); rintro e w4 ⟨rfl, g4⟩))
              have hs : ofRun l (j + 1) = some s := by rw [HS.out, if_pos Hf.out]
              have hz4 : p + 1 ≤ w4.heap.size := Nat.le_trans hz g4.size
              exact ⟨⟨j + 1, s, by omega, by go_num, hs, P.keep g4, hz4, bbT B g4⟩, by simp [intOf]; omega⟩
            | false =>
              rw [hf] at FC
              have Hf := Lib.hid hf
              clear hf
              go_wp2_with fail
              refine (FC _).mono ?_; rintro e w4 ⟨rfl, g4⟩
              replace P := P.keep g4
              replace B := bbT B g4
              have hz4 : p + 1 ≤ w4.heap.size := Nat.le_trans hz g4.size
              clear FC q0 q1 q2 q3 g4 hz R
              have SL := RSlot_t P m.id
              cases hsb : slotB s m.id with
              | true =>
                have hC := ofC_37 (l := l) H3.out Ha.out (j := j + 1) (by omega) (by rw [HS.out, Hf.out, hsb]; rfl)
                have HC := Lib.hid hC
                rw [hsb] at SL
                generalize slotN s m.id = N at *
                clear hC hsb
                obtain ⟨A2, d2, q0, q1, q2, q3, R⟩ := HB.keep B
                clear HB q1 q2 q3 R
                go_wp2_with fail
                refine SL.mono ?_; rintro e w5 ⟨rfl, e5⟩
                subst e5
                go_wp2_with fail
                go_ret2
                exact ⟨B, .inl ⟨by rw [HC.out]; decide, by rw [HC.out]; rfl⟩⟩
              | false =>
                have hs : ofRun l (j + 1) = some (s.put j { m with th := true }) := by rw [HS.out, Hf.out, hsb]; rfl
                have Hs := Lib.hid hs
                rw [hsb] at SL
                generalize slotN s m.id = N at *
                clear hs hsb
                obtain ⟨A2, d2, p0, p1, p2, p3, R⟩ := HB
                have q0 := (B.cell (World.block_lt_of_cell? w _ p0)).trans p0
                have q1 := (B.cell (World.block_lt_of_cell? w _ p1)).trans p1
                have q2 := (B.cell (World.block_lt_of_cell? w _ p2)).trans p2
                have q3 := (B.cell (World.block_lt_of_cell? w _ p3)).trans p3
                have P3 := Lib.hid p3
                clear p0 p1 p2 p3
                obtain ⟨A0, c0, A1, c1, A3, c3, T, S0, S1, S2⟩ := (show _ from P)
                go_wp2_with fail
                refine SL.mono ?_; rintro e w5 ⟨rfl, e5⟩
                have e5' := e5.symm
                clear e5
                subst e5'
                go_wp2_with fail
                rcases (show j = 0 ∨ j = 1 ∨ j = 2 by omega) with rfl | rfl | rfl
                · simp only [Nat.reduceMul, Nat.add_zero, Nat.add_assoc, Nat.reduceAdd] at q0 q1 q2 q3
                  have y0 : _ = some _ := (Blk.cell T 0).trans (show _ = some _ from rfl)
                  have f0 := Blk.free T 0
                  have y1 : _ = some _ := (Blk.cell T 1).trans (show _ = some _ from rfl)
                  have f1 := Blk.free T 1
                  have y2 : _ = some _ := (Blk.cell T 2).trans (show _ = some _ from rfl)
                  have f2 := Blk.free T 2
                  have y3 : _ = some _ := (Blk.cell T 3).trans (show _ = some _ from rfl)
                  have f3 := Blk.free T 3
                  have y12 : _ = some _ := (Blk.cell T 12).trans (show _ = some _ from rfl)
                  have f12 := Blk.free T 12
                  go_cut [] (fun wx => Rt wx p ⟨true, m.id, m.pl, m.sc, A2, m.n, d2⟩ (sl s.b A1 c1) (sl s.c A3 c3) ∧ One w4 wx p)
                  case first =>
                    go_region
                    all_goals go_wp2_with fail
                    all_goals go_meet
                    all_goals first
                      | exact ⟨Blk.set (Blk.set (Blk.set (Blk.set (Blk.set (Blk.drew T) 0 (.int .u8 m.id)) 1 (.bool m.pl)) 2 (.int .i64 m.sc)) 3 (.slice A2 m.n d2)) 12 (.bool true), One.set (One.set (One.set (One.set (One.set (One.of (Below.refl _ _).drew) 0 (.int .u8 m.id)) 1 (.bool m.pl)) 2 (.int .i64 m.sc)) 3 (.slice A2 m.n d2)) 12 (.bool true)⟩
                      | exact ⟨Blk.set (Blk.set (Blk.set (Blk.set (Blk.set (Blk.drew T) 12 (.bool true)) 0 (.int .u8 m.id)) 1 (.bool m.pl)) 2 (.int .i64 m.sc)) 3 (.slice A2 m.n d2), One.set (One.set (One.set (One.set (One.set (One.of (Below.refl _ _).drew) 12 (.bool true)) 0 (.int .u8 m.id)) 1 (.bool m.pl)) 2 (.int .i64 m.sc)) 3 (.slice A2 m.n d2)⟩
                  case rest =>
                    obtain ⟨T5, O5⟩ := hcut
                    clear y0 f0 y1 f1 y2 f2 y3 f3 y12 f12 q0 q1 q2 q3
                    have i1 : (0 : Int) < (l.length : Int) := by have := L3.out; omega
                    have B5 := One.below O5 B hwp
                    have q3' := (B5.cell (World.block_lt_of_cell? w _ P3.out)).trans P3.out
                    simp only [Nat.reduceMul, Nat.add_zero, Nat.add_assoc, Nat.reduceAdd] at q3'
                    have RA := fun W (b : Below wc.heap.size wc W) => R.keep (bbT B5 b)
                    have hz5 : p + 1 ≤ wc.heap.size := Nat.le_trans hz4 O5.2.2.2.1
                    go_wp2_with fail
                    go_region_law (first
                      | (refine step_append_rng' rfl (.const (.slice none 0 0)) (.tmp 101) rfl (p + 1) (.slice none 0 0) 0 [] rfl (World.ownsRow_nil _ _ _ _) rfl (RA _ (by repeat (first | exact Below.refl _ _ | refine Below.drew ?_))) (by omega) (by simp <;> omega) ?_
                         intro v w6 own6 g6
                         obtain ⟨A5, c5, rfl⟩ := own_sl own6
                         have B6 : Below wc.heap.size wc w6 := Below.grown (by repeat (first | exact Below.refl _ _ | refine Below.drew ?_)) g6 (by simp) (fun k h => by simp [Value.ownBlock] at h)
                         have y3 : _ = some _ := (Blk.cell (Blk.keep T5 B6) 3).trans (show _ = some _ from rfl)
                         have f3 := Blk.free (Blk.keep T5 B6) 3))
                    all_goals go_wp2_with fail
                    all_goals
                      have S6 : Own w6 (p + 1) A5 m.n c5 m.L := by (have := own6; unfold Own; simpa using this)
                      have T6 := Blk.set (Blk.keep T5 B6) 3 (.slice A5 m.n c5)
                      have O6 := One.set (One.refl w6 p) 3 (.slice A5 m.n c5)
                      have P6 : RT _ p (p + 1) (s.put 0 { m with th := true }) := ⟨A5, c5, A1, c1, A3, c3, T6, S6.one (Nat.lt_succ_self _) O6, ((S1.one (Nat.lt_succ_self _) O5).keep B6).one (Nat.lt_succ_self _) O6, ((S2.one (Nat.lt_succ_self _) O5).keep B6).one (Nat.lt_succ_self _) O6⟩
                      have B7 := One.below O6 (bbT B5 B6) hwp
                      have hz6 := Nat.le_trans hz5 B6.size
                      exact ⟨⟨0 + 1, _, by omega, by go_num, Hs.out, P6, by simp; omega, B7⟩, by simp [intOf]⟩
                · simp only [Nat.reduceMul, Nat.add_zero, Nat.add_assoc, Nat.reduceAdd] at q0 q1 q2 q3
                  have y4 : _ = some _ := (Blk.cell T 4).trans (show _ = some _ from rfl)
                  have f4 := Blk.free T 4
                  have y5 : _ = some _ := (Blk.cell T 5).trans (show _ = some _ from rfl)
                  have f5 := Blk.free T 5
                  have y6 : _ = some _ := (Blk.cell T 6).trans (show _ = some _ from rfl)
                  have f6 := Blk.free T 6
                  have y7 : _ = some _ := (Blk.cell T 7).trans (show _ = some _ from rfl)
                  have f7 := Blk.free T 7
                  have y13 : _ = some _ := (Blk.cell T 13).trans (show _ = some _ from rfl)
                  have f13 := Blk.free T 13
                  go_cut [] (fun wx => Rt wx p (sl s.a A0 c0) ⟨true, m.id, m.pl, m.sc, A2, m.n, d2⟩ (sl s.c A3 c3) ∧ One w4 wx p)
                  case first =>
                    go_region
                    all_goals go_wp2_with fail
                    all_goals go_meet
                    all_goals first
                      | exact ⟨Blk.set (Blk.set (Blk.set (Blk.set (Blk.set (Blk.drew T) 4 (.int .u8 m.id)) 5 (.bool m.pl)) 6 (.int .i64 m.sc)) 7 (.slice A2 m.n d2)) 13 (.bool true), One.set (One.set (One.set (One.set (One.set (One.of (Below.refl _ _).drew) 4 (.int .u8 m.id)) 5 (.bool m.pl)) 6 (.int .i64 m.sc)) 7 (.slice A2 m.n d2)) 13 (.bool true)⟩
                      | exact ⟨Blk.set (Blk.set (Blk.set (Blk.set (Blk.set (Blk.drew T) 13 (.bool true)) 4 (.int .u8 m.id)) 5 (.bool m.pl)) 6 (.int .i64 m.sc)) 7 (.slice A2 m.n d2), One.set (One.set (One.set (One.set (One.set (One.of (Below.refl _ _).drew) 13 (.bool true)) 4 (.int .u8 m.id)) 5 (.bool m.pl)) 6 (.int .i64 m.sc)) 7 (.slice A2 m.n d2)⟩
                  case rest =>
                    obtain ⟨T5, O5⟩ := hcut
                    clear y4 f4 y5 f5 y6 f6 y7 f7 y13 f13 q0 q1 q2 q3
                    have i1 : (1 : Int) < (l.length : Int) := by have := L3.out; omega
                    have B5 := One.below O5 B hwp
                    have q3' := (B5.cell (World.block_lt_of_cell? w _ P3.out)).trans P3.out
                    simp only [Nat.reduceMul, Nat.add_zero, Nat.add_assoc, Nat.reduceAdd] at q3'
                    have RA := fun W (b : Below wc.heap.size wc W) => R.keep (bbT B5 b)
                    have hz5 : p + 1 ≤ wc.heap.size := Nat.le_trans hz4 O5.2.2.2.1
                    go_wp2_with fail
                    go_region_law (first
                      | (refine step_append_rng' rfl (.const (.slice none 0 0)) (.tmp 101) rfl (p + 1) (.slice none 0 0) 0 [] rfl (World.ownsRow_nil _ _ _ _) rfl (RA _ (by repeat (first | exact Below.refl _ _ | refine Below.drew ?_))) (by omega) (by simp <;> omega) ?_
                         intro v w6 own6 g6
                         obtain ⟨A5, c5, rfl⟩ := own_sl own6
                         have B6 : Below wc.heap.size wc w6 := Below.grown (by repeat (first | exact Below.refl _ _ | refine Below.drew ?_)) g6 (by simp) (fun k h => by simp [Value.ownBlock] at h)
                         have y3 : _ = some _ := (Blk.cell (Blk.keep T5 B6) 7).trans (show _ = some _ from rfl)
                         have f3 := Blk.free (Blk.keep T5 B6) 7))
                    all_goals go_wp2_with fail
                    all_goals
                      have S6 : Own w6 (p + 1) A5 m.n c5 m.L := by (have := own6; unfold Own; simpa using this)
                      have T6 := Blk.set (Blk.keep T5 B6) 7 (.slice A5 m.n c5)
                      have O6 := One.set (One.refl w6 p) 7 (.slice A5 m.n c5)
                      have P6 : RT _ p (p + 1) (s.put 1 { m with th := true }) := ⟨A0, c0, A5, c5, A3, c3, T6, ((S0.one (Nat.lt_succ_self _) O5).keep B6).one (Nat.lt_succ_self _) O6, S6.one (Nat.lt_succ_self _) O6, ((S2.one (Nat.lt_succ_self _) O5).keep B6).one (Nat.lt_succ_self _) O6⟩
                      have B7 := One.below O6 (bbT B5 B6) hwp
                      have hz6 := Nat.le_trans hz5 B6.size
                      exact ⟨⟨1 + 1, _, by omega, by go_num, Hs.out, P6, by simp; omega, B7⟩, by simp [intOf]⟩
                · simp only [Nat.reduceMul, Nat.add_zero, Nat.add_assoc, Nat.reduceAdd] at q0 q1 q2 q3
                  have y8 : _ = some _ := (Blk.cell T 8).trans (show _ = some _ from rfl)
                  have f8 := Blk.free T 8
                  have y9 : _ = some _ := (Blk.cell T 9).trans (show _ = some _ from rfl)
                  have f9 := Blk.free T 9
                  have y10 : _ = some _ := (Blk.cell T 10).trans (show _ = some _ from rfl)
                  have f10 := Blk.free T 10
                  have y11 : _ = some _ := (Blk.cell T 11).trans (show _ = some _ from rfl)
                  have f11 := Blk.free T 11
                  have y14 : _ = some _ := (Blk.cell T 14).trans (show _ = some _ from rfl)
                  have f14 := Blk.free T 14
                  go_cut [] (fun wx => Rt wx p (sl s.a A0 c0) (sl s.b A1 c1) ⟨true, m.id, m.pl, m.sc, A2, m.n, d2⟩ ∧ One w4 wx p)
                  case first =>
                    go_region
                    all_goals go_wp2_with fail
                    all_goals go_meet
                    all_goals first
                      | exact ⟨Blk.set (Blk.set (Blk.set (Blk.set (Blk.set (Blk.drew T) 8 (.int .u8 m.id)) 9 (.bool m.pl)) 10 (.int .i64 m.sc)) 11 (.slice A2 m.n d2)) 14 (.bool true), One.set (One.set (One.set (One.set (One.set (One.of (Below.refl _ _).drew) 8 (.int .u8 m.id)) 9 (.bool m.pl)) 10 (.int .i64 m.sc)) 11 (.slice A2 m.n d2)) 14 (.bool true)⟩
                      | exact ⟨Blk.set (Blk.set (Blk.set (Blk.set (Blk.set (Blk.drew T) 14 (.bool true)) 8 (.int .u8 m.id)) 9 (.bool m.pl)) 10 (.int .i64 m.sc)) 11 (.slice A2 m.n d2), One.set (One.set (One.set (One.set (One.set (One.of (Below.refl _ _).drew) 14 (.bool true)) 8 (.int .u8 m.id)) 9 (.bool m.pl)) 10 (.int .i64 m.sc)) 11 (.slice A2 m.n d2)⟩
                  case rest =>
                    obtain ⟨T5, O5⟩ := hcut
                    clear y8 f8 y9 f9 y10 f10 y11 f11 y14 f14 q0 q1 q2 q3
                    have i1 : (2 : Int) < (l.length : Int) := by have := L3.out; omega
                    have B5 := One.below O5 B hwp
                    have q3' := (B5.cell (World.block_lt_of_cell? w _ P3.out)).trans P3.out
                    simp only [Nat.reduceMul, Nat.add_zero, Nat.add_assoc, Nat.reduceAdd] at q3'
                    have RA := fun W (b : Below wc.heap.size wc W) => R.keep (bbT B5 b)
                    have hz5 : p + 1 ≤ wc.heap.size := Nat.le_trans hz4 O5.2.2.2.1
                    go_wp2_with fail
                    go_region_law (first
                      | (refine step_append_rng' rfl (.const (.slice none 0 0)) (.tmp 101) rfl (p + 1) (.slice none 0 0) 0 [] rfl (World.ownsRow_nil _ _ _ _) rfl (RA _ (by repeat (first | exact Below.refl _ _ | refine Below.drew ?_))) (by omega) (by simp <;> omega) ?_
                         intro v w6 own6 g6
                         obtain ⟨A5, c5, rfl⟩ := own_sl own6
                         have B6 : Below wc.heap.size wc w6 := Below.grown (by repeat (first | exact Below.refl _ _ | refine Below.drew ?_)) g6 (by simp) (fun k h => by simp [Value.ownBlock] at h)
                         have y3 : _ = some _ := (Blk.cell (Blk.keep T5 B6) 11).trans (show _ = some _ from rfl)
                         have f3 := Blk.free (Blk.keep T5 B6) 11))
                    all_goals go_wp2_with fail
                    all_goals
                      have S6 : Own w6 (p + 1) A5 m.n c5 m.L := by (have := own6; unfold Own; simpa using this)
                      have T6 := Blk.set (Blk.keep T5 B6) 11 (.slice A5 m.n c5)
                      have O6 := One.set (One.refl w6 p) 11 (.slice A5 m.n c5)
                      have P6 : RT _ p (p + 1) (s.put 2 { m with th := true }) := ⟨A0, c0, A1, c1, A5, c5, T6, ((S0.one (Nat.lt_succ_self _) O5).keep B6).one (Nat.lt_succ_self _) O6, ((S1.one (Nat.lt_succ_self _) O5).keep B6).one (Nat.lt_succ_self _) O6, S6.one (Nat.lt_succ_self _) O6⟩
                      have B7 := One.below O6 (bbT B5 B6) hwp
                      have hz6 := Nat.le_trans hz5 B6.size
                      exact ⟨⟨2 + 1, _, by omega, by go_num, Hs.out, P6, by simp; omega, B7⟩, by simp [intOf]⟩
          · obtain rfl : j = 3 := by omega
            have hC := ofC_0 H3.out Ha.out HR.out
            have HC := Lib.hid hC
            have l3' := L3.out
            clear hC
            go_wp2_with fail
            go_ret2
            exact ⟨B, .inr ⟨HC.out, p, s, HR.out, rfl, hwp, P⟩⟩
  · have hC := ofC_27 (l := l) (fun h => h3 h.1)
    have HC := Lib.hid hC
    have e4 : ((l.length : Int) != 3) = true := by simp; omega
    clear hC hn X h3
    go_enter Tryd.func30, Tryd.ntmps30
    go_wp2_with fail
    go_ret2
    exact ⟨Below.refl _ _, .inl ⟨by rw [HC.out]; decide, by rw [HC.out]; rfl⟩⟩

end Go.Proofs.YtekcemncmgingaaDoor.YErr
