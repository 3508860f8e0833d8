/- Package table: Of beacons that came in. No condition. -/
import Derived.Test.YtekcemncmgingaaDoorYTBack1
import Derived.Deep.RegionLaw
import Derived.Deep.DeepCutAuto
namespace Go.Proofs.YtekcemncmgingaaDoor.YErr
open Go.RowKit Go.Extern.Stop Go.Stop Go.Extern
set_option linter.unusedVariables false
set_option linter.unusedSimpArgs false
/-- The table of the first j beacons; none: one's number is there already. -/
def ofRun (l : List Ms) : Nat → Option T3
  | 0 => some T3.zero
  | j + 1 => match ofRun l j with
    | none => none
    | some s => if freeB (l.getD j Ms.zero) = true then some s else if slotB s (l.getD j Ms.zero).id = true then none else some (s.put j { (l.getD j Ms.zero) with th := true })
def ofC (l : List Ms) : Int := if l.length = 3 ∧ l.all rightB = true then (match ofRun l 3 with | none => 37 | some _ => 0) else 27
theorem ofRun_none {l : List Ms} {j : Nat} (h : ofRun l j = none) : ∀ k, ofRun l (j + k) = none
  | 0 => h
  | k + 1 => by
    show (match ofRun l (j + k) with | none => none | some s => _) = none
    rw [ofRun_none h k]
theorem ofC_37 {l : List Ms} (h3 : l.length = 3) (ha : l.all rightB = true) {j : Nat} (hj : j ≤ 3) (h : ofRun l j = none) : ofC l = 37 := by
  have := ofRun_none h (3 - j)
  rw [show j + (3 - j) = 3 by omega] at this
  unfold ofC
  rw [if_pos ⟨h3, ha⟩, this]
theorem ofC_0 {l : List Ms} (h3 : l.length = 3) (ha : l.all rightB = true) {s : T3} (h : ofRun l 3 = some s) : ofC l = 0 := by
  unfold ofC
  rw [if_pos ⟨h3, ha⟩, h]
theorem ofC_27 {l : List Ms} (h : ¬ (l.length = 3 ∧ l.all rightB = true)) : ofC l = 27 := by
  unfold ofC
  rw [if_neg h]
/-- What Of tells. -/
def OfPost (l : List Ms) (w : World) (e : Ending) (w' : World) : Prop :=
  Below w.heap.size w w' ∧ ((ofC l ≠ 0 ∧ ∃ v, e = .returned (.tuple #[.pointer none, v]) ∧ ErrIs op24 w' v (ofC l)) ∨
    (ofC l = 0 ∧ ∃ p s, ofRun l 3 = some s ∧ e = .returned (.tuple #[.pointer (some ⟨p, 0, none⟩), .nilIface]) ∧ w.heap.size ≤ p ∧ PT w' p (p + 1) s))
theorem put_th (s : T3) (j : Nat) (m : Ms) : s.put j { m with th := true } = s.put j ⟨true, m.id, m.pl, m.sc, m.n, m.L⟩ := rfl

set_option maxRecDepth 100000 in
set_option maxHeartbeats 16000000 in
theorem Of_c {w : World} {A : Option Addr} {c : Nat} {l : List Ms} (X : 0 < l.length → ∃ g o, A = some ⟨g, o, none⟩ ∧ BcsAt w g o l) (hl : l.length ≤ 10) (hn : ∀ m ∈ l, m.n ≤ 100) : Calls Tryd.prog 28 #[.slice A l.length c] w (OfPost l w) := by
  by_cases h3 : l.length = 3
  · have CC := Contains_c (c := c) X hl
    obtain ⟨g, o, rfl, XB⟩ := X (by omega)
    cases ha : l.all rightB with
    | false =>
      have hC := ofC_27 (l := l) (by rw [ha]; simp)
      rw [ha] at CC
      have HC := Lib.hid hC
      have e3 : ((l.length : Int) == 3) = true := by simp; omega
      have e4 : ((l.length : Int) != 3) = false := by simp; omega
      have BD := bad_c 27 (by decide)
      clear ha hC XB hn X h3
      go_enter Tryd.func28, Tryd.ntmps28
      go_wp2_with fail
      refine CC.mono ?_; rintro r w1 ⟨rfl, g1⟩
      go_wp2_with fail
      refine (BD _).mono ?_; rintro r w2 ⟨v, rfl, hv, g2⟩
      go_wp2_with fail
      go_ret2
      exact ⟨bbT g1 g2, .inl ⟨by rw [HC.out]; decide, v, rfl, by rw [HC.out]; exact hv⟩⟩
    | true =>
      rw [ha] at CC
      have Ha := Lib.hid ha
      have H3 := Lib.hid h3
      have HX := Lib.hid XB
      have HN := Lib.hid hn
      have e3 : ((l.length : Int) == 3) = true := by simp; omega
      have e4 : ((l.length : Int) != 3) = false := by simp; omega
      have l3 : (l.length : Int) = 3 := by omega
      have L3 := Lib.hid l3
      clear ha h3 l3 XB hn X
      go_enter Tryd.func28, Tryd.ntmps28
      go_wp2_with fail
      refine CC.mono ?_; rintro r w1 ⟨rfl, g1⟩
      clear CC
      go_wp2_with fail
      refine (New_c w1).mono ?_; rintro r w2 ⟨rfl, T, g2⟩
      have B2 := bbT g1 g2
      have hpw : w.heap.size ≤ w1.heap.size := g1.size
      clear g1 g2
      generalize w1.heap.size = p at *
      have P0 : PT w2 p (p + 1) T3.zero := PT.new T
      have z0 : p + 1 ≤ w2.heap.size := Blk.lt T
      clear T
      go_wp2_with fail
      go_loopw [20] (fun i wr => ∃ (j : Nat) (s : T3), j ≤ 3 ∧ i = .int .i64 j ∧ ofRun l j = some s ∧ PT wr p (p + 1) s ∧ p + 1 ≤ wr.heap.size ∧ Below w.heap.size w wr) (fun i _ => 3 - (intOf i).toNat)
      case atStart => exact ⟨0, T3.zero, by decide, rfl, rfl, P0, z0, B2⟩
      case round =>
        obtain ⟨j, s, hj, rfl, hR, P, hz, B⟩ := hrel
        have HR := Lib.hid hR
        clear P0 z0 B2 hR
        by_cases hlt : j < 3
        · have hjl : j < l.length := by rw [H3.out]; exact hlt
          obtain ⟨A', d, q0, q1, q2, q3, R⟩ := (HX.out j hjl).keep B
          have hm100 := HN.out l[j] (List.getElem_mem hjl)
          have hgd : l.getD j Ms.zero = l[j] := by simp [List.getD, hjl]
          have hstep : ofRun l (j + 1) = if freeB l[j] = true then some s else if slotB s l[j].id = true then none else some (s.put j { l[j] with th := true }) := by
            show (match ofRun l j with | none => none | some s => _) = _
            rw [HR.out]
            simp only [hgd]
          generalize l[j] = m at *
          have HS := Lib.hid hstep
          have hj' : (j : Int) < (l.length : Int) := by have := L3.out; omega
          have hj0 : (0 : Int) ≤ (j : Int) := by omega
          clear hstep hgd
          obtain ⟨kz, w3, hw3, k3, b3, z3⟩ := newB wr m.id m.pl m.sc A' m.n d
          go_upto_region 7 with (first | (refine stBs kz rfl _ _ rfl rfl rfl rfl ?_))
          rw [← hw3]
          replace P := P.keep b3
          replace B := bbT B b3
          replace R := R.keep b3
          have hz3 : p + 1 ≤ w3.heap.size := Nat.le_trans hz b3.size
          have hpx : p + 1 ≤ wr.heap.size := hz
          clear hw3 kz q0 q1 q2 q3 b3 z3 hz
          generalize wr.heap.size = xb at *
          have FC := free_c m A' d
          have q0 := (Blk.cell k3 0).trans (show _ = some (.int .u8 m.id) from rfl)
          have q1 := (Blk.cell k3 1).trans (show _ = some (.bool m.pl) from rfl)
          have q2 := (Blk.cell k3 2).trans (show _ = some (.int .i64 m.sc) from rfl)
          have q3 := (Blk.cell k3 3).trans (show _ = some (.slice A' m.n d) from rfl)
          cases hf : freeB m with
          | true =>
            rw [hf] at FC
            have Hf := Lib.hid hf
            clear hf
            go_wp2_with (first | (go_at_call 45; (with_reducible refine (FC _).mono ?_); rintro e w4 ⟨rfl, g4⟩))
            have hs : ofRun l (j + 1) = some s := by rw [HS.out, if_pos Hf.out]
            have hz4 : p + 1 ≤ w4.heap.size := Nat.le_trans hz3 g4.size
            exact ⟨⟨j + 1, s, by omega, by go_num, hs, P.keep g4, hz4, bbT B g4⟩, by simp [intOf]; omega⟩
          | false =>
            rw [hf] at FC
            have Hf := Lib.hid hf
            clear hf
            go_wp2_with fail
            refine (FC _).mono ?_; rintro e w4 ⟨rfl, g4⟩
            replace P := P.keep g4
            replace B := bbT B g4
            replace R := R.keep g4
            replace k3 := k3.keep g4
            have hz4 : p + 1 ≤ w4.heap.size := Nat.le_trans hz3 g4.size
            clear FC q0 q1 q2 q3 g4 hz3
            have q0 := (Blk.cell k3 0).trans (show _ = some (.int .u8 m.id) from rfl)
            have SL := Slot_t P m.id
            have SB := slotB s m.id
            cases hsb : slotB s m.id with
            | true =>
              have hC := ofC_37 (l := l) H3.out Ha.out (j := j + 1) (by omega) (by rw [HS.out, Hf.out, hsb]; rfl)
              have HC := Lib.hid hC
              rw [hsb] at SL
              generalize slotN s m.id = N at *
              clear hC hsb
              have BD := bad_c 37 (by decide)
              go_wp2_with fail
              refine SL.mono ?_; rintro e w5 ⟨rfl, g5⟩
              go_wp2_with fail
              refine (BD _).mono ?_; rintro r w6 ⟨v, rfl, hv, g6⟩
              go_wp2_with fail
              go_ret2
              exact ⟨bbT (bbT B g5) g6, .inl ⟨by rw [HC.out]; decide, v, rfl, by rw [HC.out]; exact hv⟩⟩
            | false =>
              have hs : ofRun l (j + 1) = some (s.put j { m with th := true }) := by rw [HS.out, Hf.out, hsb]; rfl
              have Hs := Lib.hid hs
              rw [hsb] at SL
              generalize slotN s m.id = N at *
              clear hs hsb
              go_wp2_with fail
              refine SL.mono ?_; rintro e w5 ⟨rfl, g5⟩
              replace P := P.keep g5
              replace B := bbT B g5
              replace R := R.keep g5
              replace k3 := k3.keep g5
              have hz5 : p + 1 ≤ w5.heap.size := Nat.le_trans hz4 g5.size
              clear SL q0 g5 hz4
              have q0 := (Blk.cell k3 0).trans (show _ = some (.int .u8 m.id) from rfl)
              have q1 := (Blk.cell k3 1).trans (show _ = some (.bool m.pl) from rfl)
              have q2 := (Blk.cell k3 2).trans (show _ = some (.int .i64 m.sc) from rfl)
              have q3 := (Blk.cell k3 3).trans (show _ = some (.slice A' m.n d) from rfl)
              have CL := fun W (b : Below w5.heap.size w5 W) => clone_rng (R.keep b) hm100 m.id m.pl m.sc
              obtain ⟨A0, c0, A1, c1, A2, c2, T, S0, S1, S2⟩ := (show _ from P)
              go_wp2_with fail
              rcases (show j = 0 ∨ j = 1 ∨ j = 2 by omega) with rfl | rfl | rfl
              · go_region_law (first
                  | (go_simp; go_at_call 35; ((with_reducible refine (CL _ (by repeat (first | exact Below.refl _ _ | refine Below.drew ?_ | refine Below.alloc ?_ (by simp <;> omega) _))).mono ?_); rintro e w6 ⟨A3, c3, rfl, S3, g6⟩)
                     have B5 : Below w5.heap.size w5 w6 := by first | exact g6 | exact bbT (Below.drew (Below.refl _ _)) g6
                     have S4 := Own.mono S3 (show p + 1 ≤ _ by simp <;> omega)
                     have y0 : _ = some _ := (Blk.cell (Blk.keep T B5) 0).trans (show _ = some _ from rfl)
                     have f0 := Blk.free (Blk.keep T B5) 0
                     have y1 : _ = some _ := (Blk.cell (Blk.keep T B5) 1).trans (show _ = some _ from rfl)
                     have f1 := Blk.free (Blk.keep T B5) 1
                     have y2 : _ = some _ := (Blk.cell (Blk.keep T B5) 2).trans (show _ = some _ from rfl)
                     have f2 := Blk.free (Blk.keep T B5) 2
                     have y3 : _ = some _ := (Blk.cell (Blk.keep T B5) 3).trans (show _ = some _ from rfl)
                     have f3 := Blk.free (Blk.keep T B5) 3
                     have y4 : _ = some _ := (Blk.cell (Blk.keep T B5) 4).trans (show _ = some _ from rfl)
                     have f4 := Blk.free (Blk.keep T B5) 4))
                all_goals go_wp2_with fail
                all_goals
                  have T6 := Blk.set (Blk.set (Blk.set (Blk.set (Blk.set (Blk.keep T B5) 0 (.bool true)) 1 (.int .u8 m.id)) 2 (.bool m.pl)) 3 (.int .i64 m.sc)) 4 (.slice A3 m.n c3)
                  have O6 := One.set (One.set (One.set (One.set (One.set (One.refl w6 p) 0 (.bool true)) 1 (.int .u8 m.id)) 2 (.bool m.pl)) 3 (.int .i64 m.sc)) 4 (.slice A3 m.n c3)
                  have O7 := One.set (One.set (One.set (One.set (One.set (One.of (p := p) B5) 0 (.bool true)) 1 (.int .u8 m.id)) 2 (.bool m.pl)) 3 (.int .i64 m.sc)) 4 (.slice A3 m.n c3)
                  have Q6 : PT _ p (p + 1) (s.put 0 { m with th := true }) := ⟨A3, c3, A1, c1, A2, c2, T6, S4.one (Nat.lt_succ_self _) O6, (S1.keep B5).one (Nat.lt_succ_self _) O6, (S2.keep B5).one (Nat.lt_succ_self _) O6⟩
                  have B6 := One.below O7 B hpw
                  have hz6 : p + 1 ≤ w6.heap.size := Nat.le_trans hz5 B5.size
                  first | exact ⟨⟨0 + 1, _, by omega, by go_num, Hs.out, Q6, by simp; omega, B6⟩, by simp [intOf]⟩ | (trace_state; sorry)
              · go_region_law (first
                  | (go_simp; go_at_call 35; ((with_reducible refine (CL _ (by repeat (first | exact Below.refl _ _ | refine Below.drew ?_ | refine Below.alloc ?_ (by simp <;> omega) _))).mono ?_); rintro e w6 ⟨A3, c3, rfl, S3, g6⟩)
                     have B5 : Below w5.heap.size w5 w6 := by first | exact g6 | exact bbT (Below.drew (Below.refl _ _)) g6
                     have S4 := Own.mono S3 (show p + 1 ≤ _ by simp <;> omega)
                     have y0 : _ = some _ := (Blk.cell (Blk.keep T B5) 5).trans (show _ = some _ from rfl)
                     have f0 := Blk.free (Blk.keep T B5) 5
                     have y1 : _ = some _ := (Blk.cell (Blk.keep T B5) 6).trans (show _ = some _ from rfl)
                     have f1 := Blk.free (Blk.keep T B5) 6
                     have y2 : _ = some _ := (Blk.cell (Blk.keep T B5) 7).trans (show _ = some _ from rfl)
                     have f2 := Blk.free (Blk.keep T B5) 7
                     have y3 : _ = some _ := (Blk.cell (Blk.keep T B5) 8).trans (show _ = some _ from rfl)
                     have f3 := Blk.free (Blk.keep T B5) 8
                     have y4 : _ = some _ := (Blk.cell (Blk.keep T B5) 9).trans (show _ = some _ from rfl)
                     have f4 := Blk.free (Blk.keep T B5) 9))
                all_goals go_wp2_with fail
                all_goals
                  have T6 := Blk.set (Blk.set (Blk.set (Blk.set (Blk.set (Blk.keep T B5) 5 (.bool true)) 6 (.int .u8 m.id)) 7 (.bool m.pl)) 8 (.int .i64 m.sc)) 9 (.slice A3 m.n c3)
                  have O6 := One.set (One.set (One.set (One.set (One.set (One.refl w6 p) 5 (.bool true)) 6 (.int .u8 m.id)) 7 (.bool m.pl)) 8 (.int .i64 m.sc)) 9 (.slice A3 m.n c3)
                  have O7 := One.set (One.set (One.set (One.set (One.set (One.of (p := p) B5) 5 (.bool true)) 6 (.int .u8 m.id)) 7 (.bool m.pl)) 8 (.int .i64 m.sc)) 9 (.slice A3 m.n c3)
                  have Q6 : PT _ p (p + 1) (s.put 1 { m with th := true }) := ⟨A0, c0, A3, c3, A2, c2, T6, (S0.keep B5).one (Nat.lt_succ_self _) O6, S4.one (Nat.lt_succ_self _) O6, (S2.keep B5).one (Nat.lt_succ_self _) O6⟩
                  have B6 := One.below O7 B hpw
                  have hz6 : p + 1 ≤ w6.heap.size := Nat.le_trans hz5 B5.size
                  first | exact ⟨⟨1 + 1, _, by omega, by go_num, Hs.out, Q6, by simp; omega, B6⟩, by simp [intOf]⟩ | (trace_state; sorry)
              · go_region_law (first
                  | (go_simp; go_at_call 35; ((with_reducible refine (CL _ (by repeat (first | exact Below.refl _ _ | refine Below.drew ?_ | refine Below.alloc ?_ (by simp <;> omega) _))).mono ?_); rintro e w6 ⟨A3, c3, rfl, S3, g6⟩)
                     have B5 : Below w5.heap.size w5 w6 := by first | exact g6 | exact bbT (Below.drew (Below.refl _ _)) g6
                     have S4 := Own.mono S3 (show p + 1 ≤ _ by simp <;> omega)
                     have y0 : _ = some _ := (Blk.cell (Blk.keep T B5) 10).trans (show _ = some _ from rfl)
                     have f0 := Blk.free (Blk.keep T B5) 10
                     have y1 : _ = some _ := (Blk.cell (Blk.keep T B5) 11).trans (show _ = some _ from rfl)
                     have f1 := Blk.free (Blk.keep T B5) 11
                     have y2 : _ = some _ := (Blk.cell (Blk.keep T B5) 12).trans (show _ = some _ from rfl)
                     have f2 := Blk.free (Blk.keep T B5) 12
                     have y3 : _ = some _ := (Blk.cell (Blk.keep T B5) 13).trans (show _ = some _ from rfl)
                     have f3 := Blk.free (Blk.keep T B5) 13
                     have y4 : _ = some _ := (Blk.cell (Blk.keep T B5) 14).trans (show _ = some _ from rfl)
                     have f4 := Blk.free (Blk.keep T B5) 14))
                all_goals go_wp2_with fail
                all_goals
                  have T6 := Blk.set (Blk.set (Blk.set (Blk.set (Blk.set (Blk.keep T B5) 10 (.bool true)) 11 (.int .u8 m.id)) 12 (.bool m.pl)) 13 (.int .i64 m.sc)) 14 (.slice A3 m.n c3)
                  have O6 := One.set (One.set (One.set (One.set (One.set (One.refl w6 p) 10 (.bool true)) 11 (.int .u8 m.id)) 12 (.bool m.pl)) 13 (.int .i64 m.sc)) 14 (.slice A3 m.n c3)
                  have O7 := One.set (One.set (One.set (One.set (One.set (One.of (p := p) B5) 10 (.bool true)) 11 (.int .u8 m.id)) 12 (.bool m.pl)) 13 (.int .i64 m.sc)) 14 (.slice A3 m.n c3)
                  have Q6 : PT _ p (p + 1) (s.put 2 { m with th := true }) := ⟨A0, c0, A1, c1, A3, c3, T6, (S0.keep B5).one (Nat.lt_succ_self _) O6, (S1.keep B5).one (Nat.lt_succ_self _) O6, S4.one (Nat.lt_succ_self _) O6⟩
                  have B6 := One.below O7 B hpw
                  have hz6 : p + 1 ≤ w6.heap.size := Nat.le_trans hz5 B5.size
                  first | exact ⟨⟨2 + 1, _, by omega, by go_num, Hs.out, Q6, by simp; omega, B6⟩, by simp [intOf]⟩ | (trace_state; sorry)
        · obtain rfl : j = 3 := by omega
          have hC := ofC_0 H3.out Ha.out HR.out
          have HC := Lib.hid hC
          have l3' := L3.out
          clear hC
          go_wp2_with fail
          go_ret2
          exact ⟨B, .inr ⟨HC.out, p, s, HR.out, rfl, hpw, P⟩⟩
  · have hC := ofC_27 (l := l) (fun h => h3 h.1)
    have HC := Lib.hid hC
    have e3 : ((l.length : Int) == 3) = false := by simp; omega
    have e4 : ((l.length : Int) != 3) = true := by simp; omega
    have BD := bad_c 27 (by decide)
    clear hC hn X h3
    go_enter Tryd.func28, Tryd.ntmps28
    go_wp2_with fail
    refine (BD _).mono ?_; rintro r w2 ⟨v, rfl, hv, g2⟩
    go_wp2_with fail
    go_ret2
    exact ⟨g2, .inl ⟨by rw [HC.out]; decide, v, rfl, by rw [HC.out]; exact hv⟩⟩

end Go.Proofs.YtekcemncmgingaaDoor.YErr
