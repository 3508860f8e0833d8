/- Lean functions, contracts and lemmas that this claim needs. No condition. -/
import Derived.Test.YtfcandmhalhaeaaDoorAYSymF
import Derived.Test.YtfcandmhalhaeaaDoorAYSCopy
import Derived.Test.YtfcandmhalhaeaaDoorAYSays5
import Derived.Deep.QuietTactic
import Derived.Deep.RegionHeld3
import Derived.Deep.RegionLaw
import Derived.BigQuiet
namespace Go.Proofs.YtfcandmhalhaeaaDoor.YSym
open Go.RowKit Go.Proofs.YtfcandmhalhaeaaDoor.YErr Go.Proofs.YtfcandmhalhaeaaDoor.QSy Go.Proofs.YtfcandmhalhaeaaDoorW.PrintWords Go.Proofs.YtfcandmhalhaeaaDoorW.PrintLast
set_option linter.unusedVariables false
set_option linter.unusedSimpArgs false
set_option maxRecDepth 100000 in
set_option maxHeartbeats 8000000 in
theorem bad_c (c : Int) (hc : c ≠ 0) (w : World) : Calls Tryd.prog 38 #[.int .i64 c] w fun e w' => ∃ v, e = .returned v ∧ ErrFrom op5 w.heap.size w' v c ∧ Below w.heap.size w w' := by
  have B := Wrap_from op5 c hc w
  unfold op5 at *
  go_enter Tryd.func38, Tryd.ntmps38
  go_wp2_with fail
  refine B.mono ?_; rintro e w1 ⟨v, rfl, hv, g⟩
  go_wp2_with fail
  go_ret
  exact ⟨v, rfl, hv, g⟩
def inE (n : Int) (l q : List Int) : Int := if rightB n l = true then (if (∀ x ∈ q, 0 ≤ x ∧ x < n) then 0 else 20) else 23
set_option maxRecDepth 100000 in
set_option maxHeartbeats 8000000 in
theorem in_c {n : Int} {w : World} {A B : Option Addr} {c d : Nat} {l q : List Int} (R : Rd w A l) (hc : l.length ≤ c) (hl : l.length ≤ 1000) (S : Rd w B q) (hq : q.length ≤ 10) :
    Calls Tryd.prog 36 #[.agg #[.int .i64 n, .slice A l.length c], .slice B q.length d] w fun e w' => ∃ v, e = .returned v ∧ ErrFrom op5 w.heap.size w' v (inE n l q) ∧ Below w.heap.size w w' := by
  have k0 := Blk.new w #[.int .i64 n, .slice A l.length c] 24
  have b0 : Below w.heap.size w (w.alloc (.cells #[.int .i64 n, .slice A l.length c] 24)) := (Below.refl _ _).alloc (Nat.le_refl _) _
  have RT := Right_c (n := n) (R.keep b0) hc hl
  have BD := fun (c : Int) (h : c ≠ 0) W => bad_c c h W
  replace S := S.keep b0
  go_enter Tryd.func36, Tryd.ntmps36
  go_wp2_with fail
  refine RT.mono ?_; rintro e w1 ⟨rfl, g1⟩
  have b1 := bb b0 g1
  replace S := S.keep g1
  replace k0 := k0.keep g1
  have c0 := (k0.cell 0).trans (show _ = some (.int .i64 n) from rfl)
  clear RT R k0 g1 b0
  by_cases hr : rightB n l = true
  · rw [hr]
    have HI := Lib.hid (show inE n l q = if (∀ x ∈ q, 0 ≤ x ∧ x < n) then 0 else 20 by unfold inE; rw [if_pos hr])
    have hq2 : (q.length : Int) ≤ 10 := by omega
    have HQ := Lib.hid hq
    have HS := Lib.hid S
    clear hq S hr BD hl hc
    have BD := fun W => bad_c 20 (by decide) W
    go_wp2_with fail
    go_loop [13] (fun i => ∃ j : Nat, j ≤ q.length ∧ i = .int .i64 j ∧ (∀ k (h : k < q.length), k < j → 0 ≤ q[k] ∧ q[k] < n)) (fun i => q.length - (intOf i).toNat)
    case atStart => exact ⟨0, Nat.zero_le _, rfl, fun k _ h => absurd h (Nat.not_lt_zero _)⟩
    case round =>
      obtain ⟨j, hj, rfl, hR⟩ := hrel
      have HR := Lib.hid hR
      clear hR
      by_cases hlt : j < q.length
      · obtain ⟨g, o, rfl, hS⟩ := HS.out (by omega)
        have q0 := hS j hlt
        rw [show q.getD j 0 = q[j] by simp [List.getD, hlt]] at q0
        have hj0 : (0 : Int) ≤ (j : Int) := by omega
        have hj1 : (j : Int) < (q.length : Int) := by omega
        clear hS
        generalize hm : q[j] = m at *
        by_cases h0 : m < 0
        · have HB : ¬ (∀ x ∈ q, 0 ≤ x ∧ x < n) := fun h => by have := (h _ (List.getElem_mem hlt)).1; omega
          have HE := Lib.hid (HI.out.trans (if_neg HB))
          have t0 : decide (m < 0) = true := by simpa using h0
          clear HB hm h0
          go_wp2_with fail
          refine (BD _).mono ?_; rintro e w2 ⟨v, rfl, hv, g2⟩
          go_wp2_with fail
          go_ret
          exact ⟨v, rfl, by rw [HE.out]; exact hv.mono b1.size, bb b1 g2⟩
        · have t0 : decide (m < 0) = false := by simpa using h0
          by_cases h1 : n ≤ m
          · have HB : ¬ (∀ x ∈ q, 0 ≤ x ∧ x < n) := fun h => by have := (h _ (List.getElem_mem hlt)).2; omega
            have HE := Lib.hid (HI.out.trans (if_neg HB))
            have t1 : decide (n ≤ m) = true := by simpa using h1
            clear HB hm h0 h1
            go_wp2_with fail
            refine (BD _).mono ?_; rintro e w2 ⟨v, rfl, hv, g2⟩
            go_wp2_with fail
            go_ret
            exact ⟨v, rfl, by rw [HE.out]; exact hv.mono b1.size, bb b1 g2⟩
          · have t1 : decide (n ≤ m) = false := by simpa using h1
            have HN := Lib.hid (show ∀ k (h : k < q.length), k < j + 1 → 0 ≤ q[k] ∧ q[k] < n from fun k h hk => by
              by_cases h' : k < j
              · exact HR.out k h h'
              · obtain rfl : k = j := by omega
                rw [hm]; omega)
            clear hm h0 h1
            go_wp2_with fail
            exact ⟨⟨j + 1, by omega, by go_num, HN.out⟩, by simp [intOf]; omega⟩
      · obtain rfl : j = q.length := by omega
        have HB : ∀ x ∈ q, 0 ≤ x ∧ x < n := fun x hx => by
          obtain ⟨k, hk, rfl⟩ := List.getElem_of_mem hx
          exact HR.out k hk hk
        have HE := Lib.hid (HI.out.trans (if_pos HB))
        clear HB
        go_wp2_with fail
        go_ret
        exact ⟨_, rfl, by rw [HE.out]; exact ErrFrom.nil _ _ _, b1⟩
  · have hr : rightB n l = false := by simpa using hr
    have HE := Lib.hid (show inE n l q = 23 by unfold inE; rw [if_neg (by rw [hr]; decide)])
    rw [hr]
    have BD := fun W => bad_c 23 (by decide) W
    go_wp2_with fail
    refine (BD _).mono ?_; rintro e w2 ⟨v, rfl, hv, g2⟩
    go_wp2_with fail
    go_ret
    exact ⟨v, rfl, by rw [HE.out]; exact hv.mono b1.size, bb b1 g2⟩
set_option maxRecDepth 100000 in
set_option maxHeartbeats 8000000 in
theorem clone_c {n : Int} {w : World} {A : Option Addr} {c : Nat} {l : List Int} (R : Rd w A l) (hl : l.length ≤ 1000) :
    Calls Tryd.prog 39 #[.agg #[.int .i64 n, .slice A l.length c]] w fun e w' => ∃ A' c', e = .returned (.agg #[.int .i64 n, .slice A' l.length c']) ∧ OwnI w' w.heap.size A' c' l ∧ Below w.heap.size w w' := by
  have k0 := (Blk.new w #[.int .i64 n, .slice A l.length c] 24).alloc (.cells #[.int .i64 0, .slice none 0 0] 24)
  have k1 : Blk ((w.alloc (.cells #[.int .i64 n, .slice A l.length c] 24)).alloc (.cells #[.int .i64 0, .slice none 0 0] 24)) (w.heap.size + 1) #[.int .i64 0, .slice none 0 0] 24 := by
    have := Blk.new (w.alloc (.cells #[.int .i64 n, .slice A l.length c] 24)) #[.int .i64 0, .slice none 0 0] 24
    simpa using this
  have b0 : Below w.heap.size w ((w.alloc (.cells #[.int .i64 n, .slice A l.length c] 24)).alloc (.cells #[.int .i64 0, .slice none 0 0] 24)) := ((Below.refl _ _).alloc (Nat.le_refl _) _).alloc (by simp) _
  have CL := fun W h => Clone_i (c := c) (Rd.keep (w' := W) R h) hl
  have c0 := (k0.cell 0).trans (show _ = some (.int .i64 n) from rfl)
  have c1 := (k0.cell 1).trans (show _ = some (.slice A l.length c) from rfl)
  have hs0 : w.heap.size + 2 ≤ ((w.alloc (.cells #[.int .i64 n, .slice A l.length c] 24)).alloc (.cells #[.int .i64 0, .slice none 0 0] 24)).heap.size := by simp
  go_enter Tryd.func39, Tryd.ntmps39
  go_wp2_with fail
  generalize (w.alloc (.cells #[.int .i64 n, .slice A l.length c] 24)).alloc (.cells #[.int .i64 0, .slice none 0 0] 24) = W0 at *
  go_region_law (first | (go_simp; go_at_call 55; refine (CL _ (by repeat (first | exact b0 | refine Below.drew ?_))).mono ?_; rintro e w4 ⟨A', c', rfl, own, g4⟩; have k4 := Blk.keep (show Blk _ _ _ _ by exact k1) g4; have z0 := (k4.cell 0).trans (show _ = some (.int .i64 0) from rfl); have z1 := (k4.cell 1).trans (show _ = some (.slice none 0 0) from rfl); have y0 := k4.free 0; have y1 := k4.free 1; have k5 := Blk.keep (show Blk _ _ _ _ by exact k0) g4; have x0 := (k5.cell 0).trans (show _ = some (.int .i64 n) from rfl)))
  all_goals
    have b4 : Below w.heap.size w w4 := bb (by repeat (first | exact b0 | refine Below.drew ?_)) g4
    have ow2 : OwnI w4 (w.heap.size + 2) A' c' l := OwnI.mono own (by exact hs0)
    have P := put2 (.int .i64 n) (.slice A' l.length c') k4 b4 (by omega)
    generalize (w4.setCell ⟨w.heap.size + 1, 0, none⟩ (.int .i64 n)).setCell ⟨w.heap.size + 1, 1, none⟩ (.slice A' l.length c') = W5 at *
    go_wp2_with fail
    refine bodyPost_ret (v := .agg #[.int .i64 n, .slice A' l.length c']) (results_cell_row rfl _ _ (w.heap.size + 1) 24 _ (0, 0) _ rfl P.blk Tryd.underlying24 rfl info_sym) rfl ⟨A', c', rfl, (P.own ow2 (ow2.ne (by omega))).mono (by omega), P.below⟩
/-- What At tells. -/
def atV (n : Int) (l : List Int) (i j : Int) : Int := if inE n l [i, j] = 0 then l.getD (pl n.toNat i.toNat j.toNat) 0 else 0
set_option maxRecDepth 100000 in
set_option maxHeartbeats 8000000 in
theorem SAt_c {n : Int} {w : World} {A : Option Addr} {c : Nat} {l : List Int} (R : Rd w A l) (hc : l.length ≤ c) (hl : l.length ≤ 1000) (i j : Int) :
    Calls Tryd.prog 12 #[.agg #[.int .i64 n, .slice A l.length c], .int .i64 i, .int .i64 j] w fun e w' => ∃ v, e = .returned (.tuple #[.int .i64 (atV n l i j), v]) ∧ ErrFrom op5 w.heap.size w' v (inE n l [i, j]) ∧ Below w.heap.size w w' := by
  have k0 := (Blk.new w #[.int .i64 n, .slice A l.length c] 24).alloc (.cells #[.int .i64 i, .int .i64 j] 3)
  have kq : Blk ((w.alloc (.cells #[.int .i64 n, .slice A l.length c] 24)).alloc (.cells #[.int .i64 i, .int .i64 j] 3)) (w.heap.size + 1) #[.int .i64 i, .int .i64 j] 3 := by
    have := Blk.new (w.alloc (.cells #[.int .i64 n, .slice A l.length c] 24)) #[.int .i64 i, .int .i64 j] 3
    simpa using this
  have b0 : Below w.heap.size w ((w.alloc (.cells #[.int .i64 n, .slice A l.length c] 24)).alloc (.cells #[.int .i64 i, .int .i64 j] 3)) := ((Below.refl _ _).alloc (Nat.le_refl _) _).alloc (by simp) _
  have S : Rd ((w.alloc (.cells #[.int .i64 n, .slice A l.length c] 24)).alloc (.cells #[.int .i64 i, .int .i64 j] 3)) (some ⟨w.heap.size + 1, 0, none⟩) [i, j] := fun _ => ⟨_, _, rfl, fun k hk => by
    rw [Nat.zero_add, kq.cell]
    match k, hk with
    | 0, _ => rfl
    | 1, _ => rfl⟩
  have IN := in_c (n := n) (d := 2) (R.keep b0) hc hl S (by simp)
  replace R := R.keep b0
  go_enter Tryd.func12, Tryd.ntmps12
  go_wp2_with fail
  refine IN.mono ?_; rintro e w1 ⟨v, rfl, hv, g1⟩
  replace R := R.keep g1
  have b1 := bb b0 g1
  replace k0 := k0.keep g1
  replace hv := hv.mono b0.size
  clear IN S kq g1 b0
  by_cases h0 : inE n l [i, j] = 0
  · rw [h0] at hv
    obtain rfl := hv.none
    unfold inE at h0
    have hr : rightB n l = true := by
      cases h : rightB n l with
      | true => rfl
      | false => rw [h] at h0; simp at h0
    rw [if_pos hr] at h0
    obtain ⟨m, rfl, hm, hlen, _⟩ := rightB_nat hr
    have hij : (0 ≤ i ∧ i < m) ∧ 0 ≤ j ∧ j < m := by
      by_cases h : ∀ x ∈ [i, j], 0 ≤ x ∧ x < (m : Int)
      · exact ⟨h i (by simp), h j (by simp)⟩
      · rw [if_neg h] at h0; cases h0
    obtain ⟨i, rfl⟩ : ∃ k : Nat, i = k := ⟨i.toNat, by omega⟩
    obtain ⟨j, rfl⟩ : ∃ k : Nat, j = k := ⟨j.toNat, by omega⟩
    have hp : pl m i j < tri m := pl_lt hm (by omega) (by omega)
    obtain ⟨g, o, rfl, hR⟩ := R (by omega)
    have q0 := hR (pl m i j) (by omega)
    have PL := fun W => place_c hm (show i ≤ m by omega) (show j ≤ m by omega) W
    have c0 := (k0.cell 0).trans (show _ = some (.int .i64 (m : Int)) from rfl)
    have c1 := (k0.cell 1).trans (show _ = some (.slice (some ⟨g, o, none⟩) l.length c) from rfl)
    have p0 : (0 : Int) ≤ ((pl m i j : Nat) : Int) := by omega
    have p1 : ((pl m i j : Nat) : Int) < (l.length : Int) := by omega
    have HE := Lib.hid (show inE m l [(i : Int), (j : Int)] = 0 by unfold inE; rw [if_pos hr, if_pos (by intro x hx; simp at hx; omega)])
    clear h0 hr hR k0 R hl hc
    generalize hx : l.getD (pl m i j) 0 = x at *
    have HX := Lib.hid (show atV m l i j = x by unfold atV; rw [if_pos HE.out]; exact hx)
    clear hx
    generalize pl m i j = p at *
    go_wp2_with fail
    go_region_law (first | (go_simp; go_at_call 37; refine (PL _).mono ?_; rintro e w4 ⟨rfl, n4, rfl⟩))
    all_goals go_wp2_with fail
    all_goals go_ret2
    all_goals exact ⟨.nilIface, by rw [HX.out]; rfl, by rw [HE.out]; exact ErrFrom.nil _ _ _, by repeat (first | exact b1 | refine below_drewN ?_ _ | refine Below.drew ?_)⟩
  · obtain ⟨a, rfl⟩ := hv.is.some h0
    have HE := Lib.hid (show atV n l i j = 0 by unfold atV; rw [if_neg h0])
    clear h0 R k0
    go_wp2_with fail
    go_ret2
    exact ⟨_, by rw [HE.out]; rfl, hv, b1⟩
end Go.Proofs.YtfcandmhalhaeaaDoor.YSym
