/- Whether both tables tell the same (leadlinelaw24.same): yes, where the same is known of their slots. No condition. -/
import Derived.Test.YtekcemncmgingaaDoorYTOps
namespace Go.Proofs.YtekcemncmgingaaDoor.YErr
open Go.RowKit Go.Extern.Stop Go.Stop Go.Extern
set_option linter.unusedVariables false
set_option linter.unusedSimpArgs false
theorem bc_blk {W : World} {g c : Nat} {A : Option Addr} {m : Ms} (k : Blk W g #[.int .u8 m.id, .bool m.pl, .int .i64 m.sc, .slice A m.n c] 34) (R : Rng W A m.n c m.L) : BcsAt W g 0 [m] := by
  intro j hj
  have : j = 0 := by simp at hj; exact hj
  subst this
  exact ⟨A, c, k.cell 0, k.cell 1, k.cell 2, k.cell 3, R⟩
theorem Beacons_1 {W : World} {g g' : Nat} {m : Ms} (X : BcsAt W g 0 [m]) (X' : BcsAt W g' 0 [m]) (hn : m.n ≤ 100) : Calls Tryd.prog 31 #[.slice (some ⟨g, 0, none⟩) 1 1, .slice (some ⟨g', 0, none⟩) 1 1] W fun r w' => r = .returned (.bool true) ∧ ∃ k, w' = W.drewN k :=
  Beacons_c (l := [m]) X X' (by simp) (Nat.le_refl _) (Nat.le_refl _) (fun x hx => by obtain rfl := List.mem_singleton.1 hx; exact hn)
theorem Beacons_3 {W : World} {g o c g' o' c' : Nat} {s : T3} (X : BcsAt W g o s.list) (X' : BcsAt W g' o' s.list) (hc : 3 ≤ c) (hc' : 3 ≤ c') (G : s.good) : Calls Tryd.prog 31 #[.slice (some ⟨g, o, none⟩) 3 c, .slice (some ⟨g', o', none⟩) 3 c'] W fun r w' => r = .returned (.bool true) ∧ ∃ k, w' = W.drewN k := by
  have := Beacons_c (c := c) (c' := c') (l := s.list) X X' (by simp [T3.list]) hc hc' (fun x hx => by
    have h : Good x := by
      simp [T3.list] at hx
      rcases hx with rfl | rfl | rfl
      · exact G.1
      · exact G.2.1
      · exact G.2.2
    have := h.2.2; omega)
  exact this
theorem All_t {w : World} {p B : Nat} {s : T3} (h : PT w p B s) (G : s.good) : Calls Tryd.prog 29 #[.pointer (some ⟨p, 0, none⟩)] w fun r w' => ∃ g cap, r = .returned (.slice (some ⟨g, 0, none⟩) 3 cap) ∧ 3 ≤ cap ∧ BcsAt w' g 0 s.list ∧ Below w.heap.size w w' := by
  obtain ⟨A0, c0, A1, c1, A2, c2, T, S0, S1, S2⟩ := h
  exact All_own T S0 S1 S2 (by have := G.1.2.2; show s.a.n ≤ 100; omega) (by have := G.2.1.2.2; show s.b.n ≤ 100; omega) (by have := G.2.2.2.2; show s.c.n ≤ 100; omega)
theorem RT.bcs {w : World} {p B : Nat} {s : T3} (h : RT w p B s) : BcsAt w p 0 s.list := by
  obtain ⟨A0, c0, A1, c1, A2, c2, T, S0, S1, S2⟩ := h
  intro j hj
  have hj3 : j < 3 := by simpa [T3.list] using hj
  match j, hj, hj3 with
  | 0, hj, _ => exact ⟨A0, c0, Blk.cell T 0, Blk.cell T 1, Blk.cell T 2, Blk.cell T 3, S0.rng⟩
  | 1, hj, _ => exact ⟨A1, c1, Blk.cell T 4, Blk.cell T 5, Blk.cell T 6, Blk.cell T 7, S1.rng⟩
  | 2, hj, _ => exact ⟨A2, c2, Blk.cell T 8, Blk.cell T 9, Blk.cell T 10, Blk.cell T 11, S2.rng⟩
set_option maxRecDepth 100000 in
set_option maxHeartbeats 8000000 in
theorem Get_no {p : Nat} {k : Int} {w : World} (hI : ∀ W, Below w.heap.size w W → Calls Tryd.prog 33 #[.pointer (some ⟨p, 0, none⟩), .int .i64 k] W fun r w' => r = .returned (.bool false) ∧ w' = W) : Calls Tryd.prog 13 #[.pointer (some ⟨p, 0, none⟩), .int .i64 k] w fun r w' => r = .returned (.tuple #[.agg #[.int .u8 0, .bool false, .int .i64 0, .slice none 0 0], .bool false]) ∧ Below w.heap.size w w' := by
  have K0 := Blk.new w #[.int .u8 0, .bool false, .int .i64 0, .slice none 0 0] 34
  have B0 : Below w.heap.size w (w.alloc (.cells #[.int .u8 0, .bool false, .int .i64 0, .slice none 0 0] 34)) := (Below.refl _ _).alloc (Nat.le_refl _) _
  have I := hI _ B0
  go_enter Tryd.func13, Tryd.ntmps13
  go_wp2_with fail
  refine I.mono ?_; rintro r w1 ⟨rfl, e1⟩
  subst e1
  go_wp2_with (first | (refine stBs K0 rfl _ _ rfl rfl rfl rfl ?_))
  have K2 := setRow_heap5 (cs := #[.int .u8 0, .bool false, .int .i64 0, .slice none 0 0]) K0
  refine bodyPost_ret (v := .tuple #[.agg #[.int .u8 0, .bool false, .int .i64 0, .slice none 0 0], .bool false]) ?_ rfl ⟨rfl, ?_⟩
  · rw [results_cell_tmp rfl]
    have r0 := (Blk.cell K2 0).trans (show (#[.int .u8 0, .bool false, .int .i64 0, .slice none 0 0] : Array Value)[0]? = some (.int .u8 0) from rfl)
    have r1 := (Blk.cell K2 1).trans (show (#[.int .u8 0, .bool false, .int .i64 0, .slice none 0 0] : Array Value)[1]? = some (.bool false) from rfl)
    have r2 := (Blk.cell K2 2).trans (show (#[.int .u8 0, .bool false, .int .i64 0, .slice none 0 0] : Array Value)[2]? = some (.int .i64 0) from rfl)
    have r3 := (Blk.cell K2 3).trans (show (#[.int .u8 0, .bool false, .int .i64 0, .slice none 0 0] : Array Value)[3]? = some (.slice none 0 0) from rfl)
    go_simp
  · exact ⟨B0.os, B0.tape, B0.output, by simp, fun k hk => (setRow_other _ _ _ _ (by omega)).trans (B0.block k hk)⟩
/-- A beacon by value. -/
def bcv (m : Ms) (A : Option Addr) (c : Nat) : Value := .agg #[.int .u8 m.id, .bool m.pl, .int .i64 m.sc, .slice A m.n c]
/-- A new place for a beacon, stored into at once. -/
theorem newB (w : World) (i : Int) (pl : Bool) (sc : Int) (A : Option Addr) (n c : Nat) : Blk (w.alloc (.cells #[.int .u8 0, .bool false, .int .i64 0, .slice none 0 0] 34)) w.heap.size #[.int .u8 0, .bool false, .int .i64 0, .slice none 0 0] 34 ∧
    ∃ w', w' = (w.alloc (.cells #[.int .u8 0, .bool false, .int .i64 0, .slice none 0 0] 34)).setRow w.heap.size #[.int .u8 i, .bool pl, .int .i64 sc, .slice A n c] ∧ Blk w' w.heap.size #[.int .u8 i, .bool pl, .int .i64 sc, .slice A n c] 34 ∧ Below w.heap.size w w' ∧ w.heap.size < w'.heap.size := by
  have K0 := Blk.new w #[.int .u8 0, .bool false, .int .i64 0, .slice none 0 0] 34
  have B0 : Below w.heap.size w (w.alloc (.cells #[.int .u8 0, .bool false, .int .i64 0, .slice none 0 0] 34)) := (Below.refl _ _).alloc (Nat.le_refl _) _
  have K2 := setRow_heap5 (cs := #[.int .u8 i, .bool pl, .int .i64 sc, .slice A n c]) K0
  exact ⟨K0, _, rfl, K2, ⟨B0.os, B0.tape, B0.output, by simp, fun k hk => (setRow_other _ _ _ _ (by omega)).trans (B0.block k hk)⟩, Blk.lt K2⟩
theorem two_new (w : World) (o : Obj) (cs : Array Value) (T : TypeId) : Blk ((w.alloc o).alloc (.cells cs T)) (w.heap.size + 1) cs T := by
  have := Blk.new (w.alloc o) cs T
  simpa using this
theorem Get_f {w : World} {p B : Nat} {s : T3} (h : PT w p B s) (k : Int) (hh : hasB s k = false) : Calls Tryd.prog 13 #[.pointer (some ⟨p, 0, none⟩), .int .i64 k] w fun r w' => r = .returned (.tuple #[.agg #[.int .u8 0, .bool false, .int .i64 0, .slice none 0 0], .bool false]) ∧ Below w.heap.size w w' := by
  have hI := fun W (g : Below w.heap.size w W) => is_t (h.keep g) k
  rw [hh] at hI
  exact Get_no hI
theorem Get_t {w : World} {p B : Nat} {s : T3} (h : PT w p B s) (G : s.good) (k : Int) (hh : hasB s k = true) : Calls Tryd.prog 13 #[.pointer (some ⟨p, 0, none⟩), .int .i64 k] w fun r w' => ∃ A' c', r = .returned (.tuple #[.agg #[.int .u8 (s.get k.toNat).id, .bool (s.get k.toNat).pl, .int .i64 (s.get k.toNat).sc, .slice A' (s.get k.toNat).n c'], .bool true]) ∧ Own w' w.heap.size A' (s.get k.toNat).n c' (s.get k.toNat).L ∧ Below w.heap.size w w' := by
  have Gk := (G.get k.toNat).2.2
  obtain ⟨A0, c0, A1, c1, A2, c2, T, S0, S1, S2⟩ := h
  rcases has_at hh with ⟨rfl, ht⟩ | ⟨rfl, ht⟩ | ⟨rfl, ht⟩
  · exact Get_own0 T ht S0 (by have : s.a.n ≤ 8 := Gk; show s.a.n ≤ 100; omega)
  · exact Get_own1 T ht S1 (by have : s.b.n ≤ 8 := Gk; show s.b.n ≤ 100; omega)
  · exact Get_own2 T ht S2 (by have : s.c.n ≤ 8 := Gk; show s.c.n ≤ 100; omega)
theorem has_nat {s : T3} {k : Int} (h : hasB s k = true) : ∃ n : Nat, k = n ∧ n < 3 := by
  rcases has_at h with ⟨rfl, _⟩ | ⟨rfl, _⟩ | ⟨rfl, _⟩
  · exact ⟨0, rfl, by decide⟩
  · exact ⟨1, rfl, by decide⟩
  · exact ⟨2, rfl, by decide⟩
/-- A slot's cells of the document's table. -/
theorem RT.cells {w : World} {p B : Nat} {s : T3} (h : RT w p B s) {n : Nat} (hn : n < 3) : ∃ A c, w.cell? ⟨p, n * 4, none⟩ = some (.int .u8 (s.get n).id) ∧ w.cell? ⟨p, n * 4 + 1, none⟩ = some (.bool (s.get n).pl) ∧ w.cell? ⟨p, n * 4 + 2, none⟩ = some (.int .i64 (s.get n).sc) ∧ w.cell? ⟨p, n * 4 + 3, none⟩ = some (.slice A (s.get n).n c) ∧ Rng w A (s.get n).n c (s.get n).L := by
  have X := h.bcs
  match n, hn with
  | 0, _ => obtain ⟨A, c, h0⟩ := X 0 (by simp [T3.list]); exact ⟨A, c, h0⟩
  | 1, _ => obtain ⟨A, c, h0⟩ := X 1 (by simp [T3.list]); exact ⟨A, c, h0⟩
  | 2, _ => obtain ⟨A, c, h0⟩ := X 2 (by simp [T3.list]); exact ⟨A, c, h0⟩
set_option maxRecDepth 100000 in
set_option maxHeartbeats 8000000 in
theorem same_t {w : World} {p q B C : Nat} {s : T3} (h : PT w p B s) (h' : RT w q C s) (G : s.good) : Calls Tryd.prog 26 #[.pointer (some ⟨p, 0, none⟩), .pointer (some ⟨q, 0, none⟩)] w fun r w' => r = .returned (.bool true) ∧ Below w.heap.size w w' := by
  have AL := fun W (g : Below w.heap.size w W) => All_t (h.keep g) G
  have B3 := fun (W : World) (g cap : Nat) (X : BcsAt W g 0 s.list) (hc : 3 ≤ cap) (b : Below w.heap.size w W) => Beacons_3 X (h'.keep b).bcs hc (Nat.le_refl 3) G
  go_enter Tryd.func26, Tryd.ntmps26
  go_wp2_with fail
  go_region_law (first
    | (go_simp; go_at_call 29; ((with_reducible refine (AL _ (by repeat (first | exact Below.refl _ _ | refine Below.drew ?_))).mono ?_); rintro e w4 ⟨g, cap, rfl, hc3, X, b4⟩))
    | (go_simp; go_at_call 31; ((with_reducible refine (B3 w4 g cap X hc3 (by first | exact b4 | exact bbT (Below.drew (Below.refl _ _)) b4)).mono ?_); rintro e w5 ⟨rfl, kk, rfl⟩)))
  all_goals
    have b5 : Below w.heap.size w (w4.drewN kk) := below_drewN (by first | exact b4 | exact bbT (Below.drew (Below.refl _ _)) b4) kk
    clear AL B3 X
    generalize w4.drewN kk = w6 at *
    go_wp2_with fail
    go_loopw [5] (fun i wr => ∃ j : Nat, j ≤ 5 ∧ i = .int .i64 ((j : Int) - 1) ∧ Below w.heap.size w wr) (fun i _ => 5 - (intOf i + 1).toNat)
    case atStart => exact ⟨0, Nat.zero_le _, rfl, b5⟩
    case round =>
      obtain ⟨j, hj, rfl, bb⟩ := hrel
      clear b5 b4
      by_cases hlt : j < 5
      · have hle : decide ((j : Int) - 1 ≤ 3) = true := by simp; omega
        cases hh : hasB s ((j : Int) - 1) with
        | false =>
          have GF := Get_f (h.keep bb) _ hh
          go_wp2_with fail
          refine GF.mono ?_; rintro r w7 ⟨rfl, g7⟩
          clear GF
          have b7 := bbT bb g7
          obtain ⟨k0, w8, hw8, k8, b8, z8⟩ := newB w7 0 false 0 none 0 0
          have b9 := bbT b7 b8
          go_wp2_with (first | (refine stBs k0 rfl _ _ rfl rfl rfl rfl ?_))
          rw [← hw8]
          clear hw8 k0
          have RH := fun n => RHas_t (h'.keep (below_drewN b9 n)) ((j : Int) - 1)
          rw [hh] at RH
          go_quiet ((go_at_call 40; exact Calls.quiet_of_same (RH _)))
          go_wp2_with fail
          go_roundw
          case rel => exact ⟨j + 1, by omega, by go_num, below_drewN b9 _⟩
          case measure => simp [intOf]; omega
        | true =>
          obtain ⟨n, hn, hn3⟩ := has_nat hh
          have hle : decide ((n : Int) ≤ 3) = true := by simp; omega
          have n3 : (n : Int) < 3 := by omega
          have n0 : (0 : Int) ≤ (n : Int) := by omega
          have zq0 := h'.lt
          rw [hn] at hh
          have GT := Get_t (h.keep bb) G _ hh
          rw [Int.toNat_natCast] at GT
          simp only [hn]
          go_wp2_with fail
          refine GT.mono ?_; rintro r w7 ⟨A', c', rfl, S7, g7⟩
          clear GT
          have b7 := bbT bb g7
          obtain ⟨k0, w8, hw8, k8, b8, z8⟩ := newB w7 (s.get n).id (s.get n).pl (s.get n).sc A' (s.get n).n c'
          have b9 := bbT b7 b8
          have R8 := (S7.keep b8).rng
          have gn := (G.get n).2.2
          obtain ⟨A3, c3, r0, r1, r2, r3, R3⟩ := (h'.keep b9).cells hn3
          have RH := fun W (b : Below w8.heap.size w8 W) => RHas_t (h'.keep (bbT b9 b)) (n : Int)
          rw [hh] at RH
          generalize s.get n = m at *
          go_wp2_with (first | (refine stBs k0 rfl _ _ rfl rfl rfl rfl ?_))
          rw [← hw8]
          clear hw8 k0 S7
          have BC := fun (W : World) (g g' : Nat) (kA : Blk W g #[.int .u8 m.id, .bool m.pl, .int .i64 m.sc, .slice A' m.n c'] 34) (kB : Blk W g' #[.int .u8 m.id, .bool m.pl, .int .i64 m.sc, .slice A3 m.n c3] 34) (b : Below w8.heap.size w8 W) => Beacons_1 (bc_blk kA (R8.keep b)) (bc_blk kB (R3.keep b)) (show m.n ≤ 100 by omega)
          have l0 := (Blk.cell k8 0).trans (show _ = some (.int .u8 m.id) from rfl)
          have l1 := (Blk.cell k8 1).trans (show _ = some (.bool m.pl) from rfl)
          have l2 := (Blk.cell k8 2).trans (show _ = some (.int .i64 m.sc) from rfl)
          have l3 := (Blk.cell k8 3).trans (show _ = some (.slice A' m.n c') from rfl)
          have zq := (h'.keep b9).lt
          clear R8 R3 b7 b8 gn bb g7 zq0
          go_region_law (first
            | (go_simp; go_at_call 40; ((with_reducible refine (RH _ (by repeat (first | exact Below.refl _ _ | refine Below.drew ?_))).mono ?_); rintro e w9 ⟨rfl, e9⟩; subst e9))
            | (go_simp; go_at_call 31; refine (BC _ _ _ (by first | exact Blk.drew (Blk.alloc (Blk.new w8 _ _) _) | exact Blk.drew (two_new w8 _ _ _)) (by first | exact Blk.drew (Blk.alloc (Blk.new w8 _ _) _) | exact Blk.drew (two_new w8 _ _ _)) (by repeat (first | exact Below.refl _ _ | refine Below.drew ?_ | refine Below.alloc ?_ (by simp <;> omega) _))).mono ?_; rintro e w10 ⟨rfl, kk, rfl⟩))
          all_goals go_wp2_with fail
          all_goals go_roundw
          all_goals first
            | (show _ < _; simp [intOf]; omega)
            | exact ⟨j + 1, by omega, by rw [show (((j + 1 : Nat) : Int) - 1) = (n : Int) + 1 by omega], by repeat (first | exact b9 | refine below_drewN ?_ _ | refine Below.drew ?_ | refine Below.alloc ?_ (by have := b9.size; simp <;> omega) _)⟩
      · have hle : decide ((j : Int) - 1 ≤ 3) = false := by simp; omega
        go_wp2_with fail
        go_ret
        exact ⟨rfl, bb⟩
end Go.Proofs.YtekcemncmgingaaDoor.YErr
