/- The law TableKeeps of layer 24: the walk. Condition: errors.errorType holds its type's handle. -/
import Derived.Test.YtekcemncmgingaaDoorYTable9
import Derived.Test.YtekcemncmgingaaDoorYTableFull
import Derived.Maps.Own
import Derived.Maps.OwnOps
namespace Go.Proofs.YtekcemncmgingaaDoor.YErr
open Go.RowKit Go.Extern.Stop Go.Stop Go.Extern Go.Maps
set_option linter.unusedVariables false
set_option linter.unusedSimpArgs false
theorem lawB : Keyed Tryd.prog 4 := bool_keyed Tryd.underlying4
theorem zeroI (w : World) : (zeroValue 3).run Tryd.prog w = .ok (.int .i64 0) w := by kernel_rfl
/-- The answers by whether a beacon is placed. -/
def ans (H : Type) : DataW H := ((DataW.map []).put (.bool true) (.lit (.int .i64 37))).put (.bool false) (.lit (.int .i64 0))
theorem ans_t {H : Type} {c : Int} (h : (ans H).atKey (.bool true) (.lit (.int .i64 0)) = .lit (.int .i64 c)) : c = 37 := by
  have e : (ans H).atKey (.bool true) (.lit (.int .i64 0)) = .lit (.int .i64 37) := by rfl
  rw [e] at h
  injection h with h
  injection h with _ h
  exact h.symm
theorem ans_f {H : Type} {c : Int} (h : (ans H).atKey (.bool false) (.lit (.int .i64 0)) = .lit (.int .i64 c)) : c = 0 := by
  have e : (ans H).atKey (.bool false) (.lit (.int .i64 0)) = .lit (.int .i64 0) := by rfl
  rw [e] at h
  injection h with h
  injection h with _ h
  exact h.symm
theorem wpList_insert_own {H : Type} {P : Program} (w : World) {ops : Array Oper} {rest : List Oper} {o : Oper} {a : Act} {Q : Exit → Act → World → Prop}
    (hg : o.guard = none) (m x v : Operand) (t : TypeId) (hop : o.op = Op.insert t m x v)
    (k e : TypeId) (K : Keyed P k) (ht : P.underlying t = some (.map k e)) (R : Value → Option (DataW H × List MemPlace)) (b n : Nat) (D : DataW H)
    (hm : a.eval m = .map (some b)) (hown : w.ownsMap P k R b n D) (hn : n < maxLen) (key val : Value) (kl : Lit) (hx : a.eval x = key) (hv : a.eval v = val) (hkey : keyOf P k key = some kl)
    (d : DataW H) (ps : List MemPlace) (hval : R val = some (d, ps))
    (hK : ∀ w', w'.ownsMap P k R b (n + 1) (D.put kl d) → w.grownBy w' (some b) → wpList P ops Q rest (a.put o.dst undef) w') :
    wpList P ops Q (o :: rest) a w := by
  refine wpList_plain hg fun K' hK' => ?_
  obtain ⟨w', hrun, r1, r2⟩ := hown.update K ht hn hkey hval
  unfold Oper.wp
  simp [execOp, hop, hm, hx, hv, hrun, Result.andThen]
  exact hK' _ _ (hK w' r1 r2)
def LiesK (k : IntKind) (w : World) (A : Option Addr) (zs : List Int) : Prop := 0 < zs.length → ∃ b off, A = some ⟨b, off, none⟩ ∧ ∀ i, i < zs.length → w.cell? ⟨b, off + i, none⟩ = some (.int k (zs.getD i 0))
theorem LiesK.keep {k : IntKind} {w w' : World} {A : Option Addr} {l : List Int} (h : LiesK k w A l) (g : Below w.heap.size w w') : LiesK k w' A l := by
  intro hp
  obtain ⟨b, off, hA, hc⟩ := h hp
  exact ⟨b, off, hA, fun i hi => (g.cell (World.block_lt_of_cell? w ⟨b, off + i, none⟩ (hc i hi))).trans (hc i hi)⟩

set_option maxRecDepth 100000 in
set_option maxHeartbeats 16000000 in
theorem Keep_there0 {a b c : Sl} {p : Nat} {w : World} (T : Tb w p a b c) (h : a.th = true) (hp : a.pl = true) (x y r : Int) : Calls Tryd.prog 17 #[.pointer (some ⟨p, 0, none⟩), .int .i64 0, .agg #[.int .i64 x, .int .i64 y], .int .i64 r] w fun e w' => ∃ v, e = .returned v ∧ ErrIs op24 w' v 37 ∧ Below w.heap.size w w' := by
  have B1 : Below w.heap.size w (w.alloc (.cells #[.int .i64 x, .int .i64 y] 46)) := (Below.refl _ _).alloc (Nat.le_refl _) _
  have O := open_there0 (T.keep B1) h hp
  go_enter Tryd.func17, Tryd.ntmps17
  go_wp2_with fail
  refine O.mono ?_; rintro r w1 ⟨v, rfl, hv, g⟩
  obtain ⟨u, rfl⟩ := hv.some (by decide)
  go_wp2_with fail
  go_ret
  exact ⟨_, rfl, hv, bbT B1 g⟩

set_option maxRecDepth 100000 in
set_option maxHeartbeats 16000000 in
theorem Keeps_walk (A1 : Option Addr) (c1 : Nat) (l : List Int) (k : Int) (q : Nat) (w : World) (hg : Laid w) (hl : LiesK .i64 w A1 l) (ll : l.length ≤ 20) (k0 : 0 ≤ k) (k1 : k ≤ 255) (hk : k % 24 = (q : Int)) :
    Calls Tryd.prog 5 #[.slice A1 l.length c1, .int .u8 k] w fun r w' => r = .returned (.bool true) ∧ Below w.heap.size w w' := by
  have K := known24 w hg
  have hmm := @run_makeMap Tryd.prog
  have ll' : (l.length : Int) ≤ 20 := by omega
  go_enter Tryd.func5, Tryd.ntmps5
  go_wp2_with fail
  refine K.mono ?_; rintro r w0 ⟨rfl, B0⟩
  clear K
  go_wp2_with fail
  refine (New_c w0).mono ?_; rintro r w1 ⟨rfl, T, h0⟩
  have B1 := bbT B0 h0
  have hp : w.heap.size ≤ w0.heap.size := B0.size
  generalize w0.heap.size = p at *
  go_wp2_with fail
  refine (See_free0 T none_th (Slot_FFF (id := 9) T none_th none_th none_th)).mono ?_; rintro r w2 ⟨rfl, T2, h2⟩
  have B2 := One.below h2 B1 hp
  clear T h0 h2 B1
  have T2 : Tb w2 p ⟨true, 9, false, 0, none, 0, 0⟩ Sl.none Sl.none := T2
  go_wp2_with fail
  go_loopw [8, 9, 10] (fun n pl i wr => ∃ (j : Nat) (A' : Option Addr) (k c' : Nat) (L : List Int) (pb : Bool), j ≤ l.length ∧ i = .int .i64 j ∧ pl = .bool pb ∧ n = .int .i64 k ∧ k ≤ 8 ∧ (pb = true ↔ q < j) ∧ (pb = true → k = 0) ∧ Tb wr p ⟨true, 9, pb, 0, A', k, c'⟩ Sl.none Sl.none ∧ Own wr (p + 1) A' k c' L ∧ Below w.heap.size w wr) (fun _ _ i _ => l.length - (intOf i).toNat)
  case atStart => exact ⟨0, none, 0, 0, [], false, Nat.zero_le _, rfl, rfl, rfl, by omega, by simp, by simp, T2, Own.nil _ _, B2⟩
  case round =>
    obtain ⟨j, A', k, c', L, pb, hj, rfl, rfl, rfl, k8, hpb, hk0, T, S, B⟩ := hrel
    clear T2 B2
    by_cases hlt : j < l.length
    · obtain ⟨bl, off, rfl, hc⟩ := (hl.keep B) (by omega)
      have q0 := hc j hlt
      have hj' : (j : Int) < (l.length : Int) := by omega
      clear hc
      generalize hx : l.getD j 0 = x at q0
      cases pb with
      | false =>
        have hqj : ¬ q < j := fun h => by simpa using hpb.2 h
        by_cases hjq : j = q
        · subst hjq
          clear hpb hk0 hqj
          have ejj : ((j : Int) == (j : Int)) = true := by simp
          go_wp2_with fail
          refine (Set_ok0 T rfl rfl).mono ?_; rintro r wS ⟨rfl, TS, hS⟩
          have BS := One.below hS B hp
          clear T S hS B
          have T : Tb wS p ⟨true, 9, true, 0, none, 0, 0⟩ Sl.none Sl.none := TS
          have S := Own.nil wS (p + 1)
          have B := BS
          clear TS BS
          obtain ⟨bl', off', e1, hc'⟩ := (hl.keep B) (by omega)
          cases e1
          have q1 := hc' j hlt
          rw [hx] at q1
          clear hc' q0
          go_wp2_with fail
          refine (Keep_there0 T rfl rfl (j : Int) 0 x).mono ?_; rintro r wK ⟨v, rfl, hv, gK⟩
          replace T := T.keep gK
          replace S := S.keep gK
          replace B := bbT B gK
          clear gK
          have own0 := World.ownsMap_made (H := Unit) wK Tryd.prog 4 (plainElem (H := Unit) Tryd.prog 3)
          have B0m := B.alloc B.size (.map #[] 0)
          have T0m := Blk.alloc T (.map #[] 0)
          go_wp2_with (first
              | (at_lookup; refine wpList_lookup_own_int _ rfl _ _ 47 rfl 4 3 .i64 lawB Tryd.underlying47 Tryd.underlying3 (zeroI _) wK.heap.size 2 _ rfl own2 _ _ rfl (keyOf_bool_mk Tryd.underlying4 _) ?_; intro cc hat hwc)
              | (refine wpList_insert_own _ rfl _ _ _ 47 rfl 4 3 lawB Tryd.underlying47 _ wK.heap.size 0 _ rfl own0 (by unfold maxLen; omega) _ _ _ rfl rfl (keyOf_bool_mk Tryd.underlying4 _) _ [] (plainElem_int Tryd.underlying3 (by decide)) ?_; intro u1 own1 gr1)
              | (refine wpList_insert_own _ rfl _ _ _ 47 rfl 4 3 lawB Tryd.underlying47 _ wK.heap.size 1 _ rfl own1 (by unfold maxLen; omega) _ _ _ rfl rfl (keyOf_bool_mk Tryd.underlying4 _) _ [] (plainElem_int Tryd.underlying3 (by decide)) ?_; intro u2 own2 gr2))
          obtain rfl : cc = 37 := ans_t hat
          have BKa := (Below.refl wK.heap.size wK).alloc (Nat.le_refl _) (.map #[] 0)
          have BKb := BKa.grown gr1 BKa.size (fun j hj => by cases hj; exact Nat.le_refl _)
          have BKc := BKb.grown gr2 BKb.size (fun j hj => by cases hj; exact Nat.le_refl _)
          replace T := T.keep BKc
          replace S := S.keep BKc
          replace B := bbT B BKc
          replace hv := hv.below BKc
          clear BKa BKb BKc T0m B0m gr1 gr2 own0 own1 own2 hat hwc
          have SY := says24 37 u2 (hg.below B) hv
          rw [show decide ((37 : Int) = 37) = true from rfl] at SY
          refine SY.mono ?_; rintro r u3 ⟨rfl, g3⟩
          clear SY
          replace T := T.keep g3
          replace S := S.keep g3
          replace B := bbT B g3
          clear g3
          go_wp2_with fail
          refine (Get_own0 T rfl S (show 0 ≤ 100 by omega)).mono ?_; rintro r u4 ⟨A3, c3, rfl, S3, g4⟩
          replace T := T.keep g4
          replace S := S.keep g4
          replace B := bbT B g4
          clear g4
          have F := Blk.new u4 #[.int .u8 9, .bool true, .int .i64 0, .slice A3 0 c3] 34
          have BF := (Below.refl u4.heap.size u4).alloc (Nat.le_refl _) (.cells #[.int .u8 9, .bool true, .int .i64 0, .slice A3 0 c3] 34)
          replace T := T.keep BF
          replace S := S.keep BF
          replace S3 := S3.keep BF
          replace B := bbT B BF
          obtain ⟨bl', off', e1, hc'⟩ := (hl.keep B) (by omega)
          cases e1
          have q4 := hc' j hlt
          rw [hx] at q4
          clear hc' BF
          have y1 := (Blk.cell F 1).trans (show _ = some (.bool true) from rfl)
          have y3 := (Blk.cell F 3).trans (show _ = some (.slice A3 0 c3) from rfl)
          clear F
          go_wp2_with fail
          go_quiet (fail)
          go_wp2_with fail
          exact ⟨⟨j + 1, _, 0, _, _, true, by omega, by go_num, rfl, rfl, by omega, (by (simp; try omega)), by simp, Blk.drewN T _, Own.far S (fun _ _ => rfl), below_drewN B _⟩, by simp [intOf]; omega⟩
        · have ejj : ((j : Int) == (q : Int)) = false := by rw [beq_eq_false_iff_ne]; omega
          clear hpb hk0
          go_wp2_with fail
          refine (Keep_ok0 T rfl rfl S k8 (j : Int) 0 x).mono ?_; rintro r wK ⟨rfl, ⟨A2, c2, TK, SK⟩, h4⟩
          have B4 := One.below h4 B hp
          clear T S h4 B
          have T := TK
          have S := SK
          have B := B4
          clear TK SK B4
          have hSl := S.len
          by_cases h8 : k = 8
          · subst h8
            have T : Tb wK p ⟨true, 9, false, 0, A2, 8, c2⟩ Sl.none Sl.none := T
            have S : Own wK (p + 1) A2 8 c2 (kept 8 L ++ [(j : Int), 0, x]) := S
            have hkL : (kept 8 L).length = 21 := by
              have := S.len
              simp at this
              omega
            have own0 := World.ownsMap_made (H := Unit) wK Tryd.prog 4 (plainElem (H := Unit) Tryd.prog 3)
            have B0m := B.alloc B.size (.map #[] 0)
            have T0m := Blk.alloc T (.map #[] 0)
            go_wp2_with (first
                | (at_lookup; refine wpList_lookup_own_int _ rfl _ _ 47 rfl 4 3 .i64 lawB Tryd.underlying47 Tryd.underlying3 (zeroI _) wK.heap.size 2 _ rfl own2 _ _ rfl (keyOf_bool_mk Tryd.underlying4 _) ?_; intro cc hat hwc)
                | (refine wpList_insert_own _ rfl _ _ _ 47 rfl 4 3 lawB Tryd.underlying47 _ wK.heap.size 0 _ rfl own0 (by unfold maxLen; omega) _ _ _ rfl rfl (keyOf_bool_mk Tryd.underlying4 _) _ [] (plainElem_int Tryd.underlying3 (by decide)) ?_; intro u1 own1 gr1)
                | (refine wpList_insert_own _ rfl _ _ _ 47 rfl 4 3 lawB Tryd.underlying47 _ wK.heap.size 1 _ rfl own1 (by unfold maxLen; omega) _ _ _ rfl rfl (keyOf_bool_mk Tryd.underlying4 _) _ [] (plainElem_int Tryd.underlying3 (by decide)) ?_; intro u2 own2 gr2))
            obtain rfl : cc = 0 := ans_f hat
            have BKa := (Below.refl wK.heap.size wK).alloc (Nat.le_refl _) (.map #[] 0)
            have BKb := BKa.grown gr1 BKa.size (fun j hj => by cases hj; exact Nat.le_refl _)
            have BKc := BKb.grown gr2 BKb.size (fun j hj => by cases hj; exact Nat.le_refl _)
            replace T := T.keep BKc
            replace S := S.keep BKc
            replace B := bbT B BKc
            clear BKa BKb BKc T0m B0m gr1 gr2 own0 own1 own2 hat hwc
            have SY := says24 0 u2 (hg.below B) (ErrIs.nil _ _)
            rw [show decide ((0 : Int) = 0) = true from rfl] at SY
            refine SY.mono ?_; rintro r u3 ⟨rfl, g3⟩
            clear SY
            replace T := T.keep g3
            replace S := S.keep g3
            replace B := bbT B g3
            clear g3
            go_wp2_with fail
            refine (Get_own0 T rfl S (show 8 ≤ 100 by omega)).mono ?_; rintro r u4 ⟨A3, c3, rfl, S3, g4⟩
            replace T := T.keep g4
            replace S := S.keep g4
            replace B := bbT B g4
            clear g4
            have F := Blk.new u4 #[.int .u8 9, .bool false, .int .i64 0, .slice A3 8 c3] 34
            have BF := (Below.refl u4.heap.size u4).alloc (Nat.le_refl _) (.cells #[.int .u8 9, .bool false, .int .i64 0, .slice A3 8 c3] 34)
            replace T := T.keep BF
            replace S := S.keep BF
            replace S3 := S3.keep BF
            replace B := bbT B BF
            obtain ⟨bl', off', e1, hc'⟩ := (hl.keep B) (by omega)
            cases e1
            have q4 := hc' j hlt
            rw [hx] at q4
            clear hc' BF
            have y1 := (Blk.cell F 1).trans (show _ = some (.bool false) from rfl)
            have y3 := (Blk.cell F 3).trans (show _ = some (.slice A3 8 c3) from rfl)
            rcases S3.form with ⟨_, hz, _, _⟩ | ⟨gg, rfl, _, hnc, hSA⟩
            · exact absurd hz (by simp)
            have hR := hSA 23 (by simp [hkL])
            rw [show (kept 8 L ++ [(j : Int), 0, x]).getD 23 0 = x by (rw [List.getD_eq_getElem?_getD, List.getElem?_append_right (Nat.le_trans (Nat.le_of_eq hkL) (by decide)), hkL]; try rfl), Nat.zero_add] at hR
            clear hSA
            clear F
            go_wp2_with fail
            go_quiet (fail)
            go_wp2_with fail
            exact ⟨⟨j + 1, _, 8, _, _, false, by omega, by go_num, rfl, by go_num, by omega, (by (simp; try omega)), by simp, Blk.drewN T _, Own.far S (fun _ _ => rfl), below_drewN B _⟩, by simp [intOf]; omega⟩
          · have em : more k = k + 1 := by unfold more; rw [if_neg h8]
            have ek : kept k L = L := by unfold kept; rw [if_neg h8]
            have T : Tb wK p ⟨true, 9, false, 0, A2, k + 1, c2⟩ Sl.none Sl.none := by rw [← em]; exact T
            have S : Own wK (p + 1) A2 (k + 1) c2 (L ++ [(j : Int), 0, x]) := by rw [← em, ← ek]; exact S
            have hkL : L.length = k * 3 := by
              have := S.len
              simp at this
              omega
            have k7 : (k : Int) + 1 ≤ 8 := by omega
            have kz : 0 ≤ (k : Int) := by omega
            clear em ek h8
            have own0 := World.ownsMap_made (H := Unit) wK Tryd.prog 4 (plainElem (H := Unit) Tryd.prog 3)
            have B0m := B.alloc B.size (.map #[] 0)
            have T0m := Blk.alloc T (.map #[] 0)
            go_wp2_with (first
                | (at_lookup; refine wpList_lookup_own_int _ rfl _ _ 47 rfl 4 3 .i64 lawB Tryd.underlying47 Tryd.underlying3 (zeroI _) wK.heap.size 2 _ rfl own2 _ _ rfl (keyOf_bool_mk Tryd.underlying4 _) ?_; intro cc hat hwc)
                | (refine wpList_insert_own _ rfl _ _ _ 47 rfl 4 3 lawB Tryd.underlying47 _ wK.heap.size 0 _ rfl own0 (by unfold maxLen; omega) _ _ _ rfl rfl (keyOf_bool_mk Tryd.underlying4 _) _ [] (plainElem_int Tryd.underlying3 (by decide)) ?_; intro u1 own1 gr1)
                | (refine wpList_insert_own _ rfl _ _ _ 47 rfl 4 3 lawB Tryd.underlying47 _ wK.heap.size 1 _ rfl own1 (by unfold maxLen; omega) _ _ _ rfl rfl (keyOf_bool_mk Tryd.underlying4 _) _ [] (plainElem_int Tryd.underlying3 (by decide)) ?_; intro u2 own2 gr2))
            obtain rfl : cc = 0 := ans_f hat
            have BKa := (Below.refl wK.heap.size wK).alloc (Nat.le_refl _) (.map #[] 0)
            have BKb := BKa.grown gr1 BKa.size (fun j hj => by cases hj; exact Nat.le_refl _)
            have BKc := BKb.grown gr2 BKb.size (fun j hj => by cases hj; exact Nat.le_refl _)
            replace T := T.keep BKc
            replace S := S.keep BKc
            replace B := bbT B BKc
            clear BKa BKb BKc T0m B0m gr1 gr2 own0 own1 own2 hat hwc
            have SY := says24 0 u2 (hg.below B) (ErrIs.nil _ _)
            rw [show decide ((0 : Int) = 0) = true from rfl] at SY
            refine SY.mono ?_; rintro r u3 ⟨rfl, g3⟩
            clear SY
            replace T := T.keep g3
            replace S := S.keep g3
            replace B := bbT B g3
            clear g3
            go_wp2_with fail
            refine (Get_own0 T rfl S (show k + 1 ≤ 100 by omega)).mono ?_; rintro r u4 ⟨A3, c3, rfl, S3, g4⟩
            replace T := T.keep g4
            replace S := S.keep g4
            replace B := bbT B g4
            clear g4
            have F := Blk.new u4 #[.int .u8 9, .bool false, .int .i64 0, .slice A3 (k + 1) c3] 34
            have BF := (Below.refl u4.heap.size u4).alloc (Nat.le_refl _) (.cells #[.int .u8 9, .bool false, .int .i64 0, .slice A3 (k + 1) c3] 34)
            replace T := T.keep BF
            replace S := S.keep BF
            replace S3 := S3.keep BF
            replace B := bbT B BF
            obtain ⟨bl', off', e1, hc'⟩ := (hl.keep B) (by omega)
            cases e1
            have q4 := hc' j hlt
            rw [hx] at q4
            clear hc' BF
            have y1 := (Blk.cell F 1).trans (show _ = some (.bool false) from rfl)
            have y3 := (Blk.cell F 3).trans (show _ = some (.slice A3 (k + 1) c3) from rfl)
            rcases S3.form with ⟨_, hz, _, _⟩ | ⟨gg, rfl, _, hnc, hSA⟩
            · exact absurd hz (by simp)
            have hR := hSA (k * 3 + 2) (by simp [hkL])
            rw [show (L ++ [(j : Int), 0, x]).getD (k * 3 + 2) 0 = x by rw [List.getD_eq_getElem?_getD, List.getElem?_append_right (by omega), hkL, Nat.add_sub_cancel_left] <;> rfl, Nat.zero_add] at hR
            clear hSA
            clear F
            go_wp2_with fail
            go_quiet (fail)
            go_wp2_with fail
            exact ⟨⟨j + 1, _, k + 1, _, _, false, by omega, by go_num, rfl, by go_num, by omega, (by (simp; try omega)), by simp, Blk.drewN T _, Own.far S (fun _ _ => rfl), below_drewN B _⟩, by simp [intOf]; omega⟩
      | true =>
        have hqj : q < j := hpb.1 rfl
        have hkz : k = 0 := hk0 rfl
        subst hkz
        have ejj : ((j : Int) == (q : Int)) = false := by rw [beq_eq_false_iff_ne]; omega
        clear hpb hk0
        go_wp2_with fail
        refine (Keep_there0 T rfl rfl (j : Int) 0 x).mono ?_; rintro r wK ⟨v, rfl, hv, gK⟩
        replace T := T.keep gK
        replace S := S.keep gK
        replace B := bbT B gK
        clear gK
        have own0 := World.ownsMap_made (H := Unit) wK Tryd.prog 4 (plainElem (H := Unit) Tryd.prog 3)
        have B0m := B.alloc B.size (.map #[] 0)
        have T0m := Blk.alloc T (.map #[] 0)
        go_wp2_with (first
            | (at_lookup; refine wpList_lookup_own_int _ rfl _ _ 47 rfl 4 3 .i64 lawB Tryd.underlying47 Tryd.underlying3 (zeroI _) wK.heap.size 2 _ rfl own2 _ _ rfl (keyOf_bool_mk Tryd.underlying4 _) ?_; intro cc hat hwc)
            | (refine wpList_insert_own _ rfl _ _ _ 47 rfl 4 3 lawB Tryd.underlying47 _ wK.heap.size 0 _ rfl own0 (by unfold maxLen; omega) _ _ _ rfl rfl (keyOf_bool_mk Tryd.underlying4 _) _ [] (plainElem_int Tryd.underlying3 (by decide)) ?_; intro u1 own1 gr1)
            | (refine wpList_insert_own _ rfl _ _ _ 47 rfl 4 3 lawB Tryd.underlying47 _ wK.heap.size 1 _ rfl own1 (by unfold maxLen; omega) _ _ _ rfl rfl (keyOf_bool_mk Tryd.underlying4 _) _ [] (plainElem_int Tryd.underlying3 (by decide)) ?_; intro u2 own2 gr2))
        obtain rfl : cc = 37 := ans_t hat
        have BKa := (Below.refl wK.heap.size wK).alloc (Nat.le_refl _) (.map #[] 0)
        have BKb := BKa.grown gr1 BKa.size (fun j hj => by cases hj; exact Nat.le_refl _)
        have BKc := BKb.grown gr2 BKb.size (fun j hj => by cases hj; exact Nat.le_refl _)
        replace T := T.keep BKc
        replace S := S.keep BKc
        replace B := bbT B BKc
        replace hv := hv.below BKc
        clear BKa BKb BKc T0m B0m gr1 gr2 own0 own1 own2 hat hwc
        have SY := says24 37 u2 (hg.below B) hv
        rw [show decide ((37 : Int) = 37) = true from rfl] at SY
        refine SY.mono ?_; rintro r u3 ⟨rfl, g3⟩
        clear SY
        replace T := T.keep g3
        replace S := S.keep g3
        replace B := bbT B g3
        clear g3
        go_wp2_with fail
        refine (Get_own0 T rfl S (show 0 ≤ 100 by omega)).mono ?_; rintro r u4 ⟨A3, c3, rfl, S3, g4⟩
        replace T := T.keep g4
        replace S := S.keep g4
        replace B := bbT B g4
        clear g4
        have F := Blk.new u4 #[.int .u8 9, .bool true, .int .i64 0, .slice A3 0 c3] 34
        have BF := (Below.refl u4.heap.size u4).alloc (Nat.le_refl _) (.cells #[.int .u8 9, .bool true, .int .i64 0, .slice A3 0 c3] 34)
        replace T := T.keep BF
        replace S := S.keep BF
        replace S3 := S3.keep BF
        replace B := bbT B BF
        obtain ⟨bl', off', e1, hc'⟩ := (hl.keep B) (by omega)
        cases e1
        have q4 := hc' j hlt
        rw [hx] at q4
        clear hc' BF
        have y1 := (Blk.cell F 1).trans (show _ = some (.bool true) from rfl)
        have y3 := (Blk.cell F 3).trans (show _ = some (.slice A3 0 c3) from rfl)
        clear F
        go_wp2_with fail
        go_quiet (fail)
        go_wp2_with fail
        exact ⟨⟨j + 1, _, 0, _, _, true, by omega, by go_num, rfl, rfl, by omega, (by (simp; try omega)), by simp, Blk.drewN T _, Own.far S (fun _ _ => rfl), below_drewN B _⟩, by simp [intOf]; omega⟩
    · have hj2 : j = l.length := by omega
      subst hj2
      clear T S hpb hk0
      go_wp2_with fail
      go_ret
      exact ⟨rfl, B⟩

theorem TableKeeps_law (A1 : Option Addr) (c1 : Nat) (l : List Int) (k : Int) (w : World) (hg : Laid w) (y : l.length ≤ c1) (z : c1 ≤ maxLen) (wl : ∀ n ∈ l, (Lit.int .i64 n).wf = true) (hl : LiesK .i64 w A1 l) (w1 : (Lit.int .u8 k).wf = true) :
    Calls Tryd.prog 5 #[.slice A1 l.length c1, .int .u8 k] w fun r w' => r = .returned (.bool true) ∧ Below w.heap.size w w' := by
  obtain ⟨k0, k1⟩ := wf8 w1
  by_cases ll : l.length ≤ 20
  · obtain ⟨q, hq⟩ : ∃ q : Nat, k % 24 = (q : Int) := ⟨(k % 24).toNat, by omega⟩
    exact Keeps_walk A1 c1 l k q w hg hl ll k0 k1 hq
  · have K := known24 w hg
    have ll' : (20 : Int) < l.length := by omega
    go_enter Tryd.func5, Tryd.ntmps5
    go_wp2_with fail
    refine K.mono ?_; rintro r w0 ⟨rfl, B0⟩
    go_wp2_with fail
    go_ret
    exact ⟨rfl, B0⟩
end Go.Proofs.YtekcemncmgingaaDoor.YErr
