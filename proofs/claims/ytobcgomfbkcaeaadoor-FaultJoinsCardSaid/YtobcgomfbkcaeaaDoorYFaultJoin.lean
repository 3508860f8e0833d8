/- errors.Join and fault.Join: of two errors, of two among none, of none. No condition. -/
import Derived.Test.YtobcgomfbkcaeaaDoorYFaultKnown
namespace Go.Proofs.YtobcgomfbkcaeaaDoor.YErr
open Go.RowKit Go.Extern.Stop Go.Stop Go.Extern
set_option linter.unusedVariables false
set_option linter.unusedSimpArgs false

theorem make2 (W : World) : (Instr.makeSlice 49 (.int .i64 0) (.int .i64 2)).run Tryd.prog W = .ok (.slice (some ⟨W.heap.size, 0, none⟩) 0 2) (W.alloc (.cells #[.nilIface, .nilIface] 25)) := by kernel_rfl
/-- What a round of Join's puts. -/
theorem put_round {w W : World} {g p k : Nat} {cs : Array Value} {T1 T2 : TypeId} {s s' u x : Value} (G : Blk W g cs T1) (P : Blk W p #[s] T2) (hne : g ≠ p) (hx : cs[k]? = some x) (hb : Below w.heap.size w W) (zg : w.heap.size ≤ g) (zp : w.heap.size ≤ p) :
    (W.alloc (.cells #[u] T1)).cell? ⟨g, k, none⟩ = some x ∧ (W.alloc (.cells #[u] T1)).frozen? ⟨g, k, none⟩ = false ∧
    ((W.alloc (.cells #[u] T1)).setCell ⟨g, k, none⟩ u).cell? ⟨p, 0, none⟩ = some s ∧ ((W.alloc (.cells #[u] T1)).setCell ⟨g, k, none⟩ u).frozen? ⟨p, 0, none⟩ = false ∧
    Blk (((W.alloc (.cells #[u] T1)).setCell ⟨g, k, none⟩ u).setCell ⟨p, 0, none⟩ s') g (cs.setIfInBounds k u) T1 ∧
    Blk (((W.alloc (.cells #[u] T1)).setCell ⟨g, k, none⟩ u).setCell ⟨p, 0, none⟩ s') p #[s'] T2 ∧
    Below w.heap.size w (((W.alloc (.cells #[u] T1)).setCell ⟨g, k, none⟩ u).setCell ⟨p, 0, none⟩ s') := by
  have G1 := G.alloc (.cells #[u] T1)
  have P1 := P.alloc (.cells #[u] T1)
  have P2 := P1.setOther (p := ⟨g, k, none⟩) hne u
  have G2 := (G1.set k u).setOther (p := ⟨p, 0, none⟩) (Ne.symm hne) s'
  have P3 := P2.set 0 s'
  have b1 := hb.alloc hb.size (.cells #[u] T1)
  have b2 := Below.setCell b1 (show w.heap.size ≤ (⟨g, k, none⟩ : Addr).block from zg) u
  have b3 := Below.setCell b2 (show w.heap.size ≤ (⟨p, 0, none⟩ : Addr).block from zp) s'
  exact ⟨(G1.cell k).trans hx, G1.free k, P2.cell 0, P2.free 0, G2, P3, b3⟩

set_option maxRecDepth 100000 in
set_option maxHeartbeats 8000000 in
theorem Join_pair (b c : Nat) (tx ty : TypeId) (vx v_y : Value) (x y : E) (w : World) (ax : At w (.iface tx vx) x) (ay : At w (.iface ty v_y) y) (h0 : w.cell? ⟨b, 0, none⟩ = some (.iface tx vx)) (h1 : w.cell? ⟨b, 1, none⟩ = some (.iface ty v_y)) :
    Calls Tryd.prog 21 #[.slice (some ⟨b, 0, none⟩) 2 c] w fun r w' => ∃ v, r = .returned v ∧ At w' v (.two x y) ∧ Below w.heap.size w w' := by
  have mk := make2
  have lb := lt_cell h0
  have lb' : b < w.heap.size := lb
  have ne1 : w.heap.size ≠ w.heap.size + 1 := by omega
  go_enter Tryd.func21, Tryd.ntmps21
  go_wp2
  refine wp_loop_rounds 3 ?_
  rw [rounds_succ]
  go_wp2
  rw [rounds_succ]
  go_wp2
  rw [rounds_succ]
  go_wp2
  have b0 : Below w.heap.size w ((w.alloc (.cells #[.nilIface, .nilIface] 25)).alloc (.cells #[.slice (some ⟨w.heap.size, 0, none⟩) 0 2] 71)) := ((Below.refl _ _).alloc (Nat.le_refl _) _).alloc (by simp) _
  have G0 : Blk ((w.alloc (.cells #[.nilIface, .nilIface] 25)).alloc (.cells #[.slice (some ⟨w.heap.size, 0, none⟩) 0 2] 71)) w.heap.size #[.nilIface, .nilIface] 25 := (Blk.new _ _ _).alloc _
  have P0 : Blk ((w.alloc (.cells #[.nilIface, .nilIface] 25)).alloc (.cells #[.slice (some ⟨w.heap.size, 0, none⟩) 0 2] 71)) (w.heap.size + 1) #[.slice (some ⟨w.heap.size, 0, none⟩) 0 2] 71 := by
    have := Blk.new (w.alloc (.cells #[.nilIface, .nilIface] 25)) #[.slice (some ⟨w.heap.size, 0, none⟩) 0 2] 71
    simpa using this
  generalize (w.alloc (.cells #[.nilIface, .nilIface] 25)).alloc (.cells #[.slice (some ⟨w.heap.size, 0, none⟩) 0 2] 71) = W0 at *
  refine wp_loop_rounds 3 ?_
  rw [rounds_succ]
  have d0 := keep4 b0 h0
  have p0 : W0.cell? ⟨w.heap.size + 1, 0, none⟩ = some (.slice (some ⟨w.heap.size, 0, none⟩) 0 2) := P0.cell 0
  obtain ⟨q1, q2, q3, q4, G1, P1, b1⟩ := put_round (w := w) (k := 0) (u := (.iface tx vx)) (s' := .slice (some ⟨w.heap.size, 0, none⟩) 1 2) G0 P0 ne1 rfl b0 (Nat.le_refl _) (Nat.le_succ _)
  have G1 : Blk _ w.heap.size #[(.iface tx vx), .nilIface] 25 := G1
  go_wp2
  clear q1 q2 q3 q4
  generalize ((W0.alloc (.cells #[(.iface tx vx)] 25)).setCell ⟨w.heap.size, 0, none⟩ (.iface tx vx)).setCell ⟨w.heap.size + 1, 0, none⟩ (.slice (some ⟨w.heap.size, 0, none⟩) 1 2) = W1 at *
  rw [rounds_succ]
  have d1 := keep4 b1 h1
  have p1 : W1.cell? ⟨w.heap.size + 1, 0, none⟩ = some (.slice (some ⟨w.heap.size, 0, none⟩) 1 2) := P1.cell 0
  obtain ⟨q1, q2, q3, q4, G2, P2, b2⟩ := put_round (w := w) (k := 1) (u := (.iface ty v_y)) (s' := .slice (some ⟨w.heap.size, 0, none⟩) 2 2) G1 P1 ne1 rfl b1 (Nat.le_refl _) (Nat.le_succ _)
  have G2 : Blk _ w.heap.size #[(.iface tx vx), (.iface ty v_y)] 25 := G2
  go_wp2
  clear q1 q2 q3 q4
  generalize ((W1.alloc (.cells #[(.iface ty v_y)] 25)).setCell ⟨w.heap.size, 1, none⟩ (.iface ty v_y)).setCell ⟨w.heap.size + 1, 0, none⟩ (.slice (some ⟨w.heap.size, 0, none⟩) 2 2) = W2 at *
  rw [rounds_succ]
  go_wp2
  go_ret
  exact ⟨_, rfl, ⟨⟨w.heap.size + 1, 0, none⟩, w.heap.size, 2, _, _, rfl, P2.cell 0, G2.cell 0, G2.cell 1, ax.below b2, ay.below b2⟩, b2⟩

set_option maxRecDepth 100000 in
set_option maxHeartbeats 8000000 in
theorem Join_four (b c : Nat) (tx ty : TypeId) (vx v_y : Value) (x y : E) (w : World) (ax : At w (.iface tx vx) x) (ay : At w (.iface ty v_y) y) (h0 : w.cell? ⟨b, 0, none⟩ = some .nilIface) (h1 : w.cell? ⟨b, 1, none⟩ = some (.iface tx vx)) (h2 : w.cell? ⟨b, 2, none⟩ = some .nilIface) (h3 : w.cell? ⟨b, 3, none⟩ = some (.iface ty v_y)) :
    Calls Tryd.prog 21 #[.slice (some ⟨b, 0, none⟩) 4 c] w fun r w' => ∃ v, r = .returned v ∧ At w' v (.two x y) ∧ Below w.heap.size w w' := by
  have mk := make2
  have lb := lt_cell h0
  have lb' : b < w.heap.size := lb
  have ne1 : w.heap.size ≠ w.heap.size + 1 := by omega
  go_enter Tryd.func21, Tryd.ntmps21
  go_wp2
  refine wp_loop_rounds 5 ?_
  rw [rounds_succ]
  go_wp2
  rw [rounds_succ]
  go_wp2
  rw [rounds_succ]
  go_wp2
  rw [rounds_succ]
  go_wp2
  rw [rounds_succ]
  go_wp2
  have b0 : Below w.heap.size w ((w.alloc (.cells #[.nilIface, .nilIface] 25)).alloc (.cells #[.slice (some ⟨w.heap.size, 0, none⟩) 0 2] 71)) := ((Below.refl _ _).alloc (Nat.le_refl _) _).alloc (by simp) _
  have G0 : Blk ((w.alloc (.cells #[.nilIface, .nilIface] 25)).alloc (.cells #[.slice (some ⟨w.heap.size, 0, none⟩) 0 2] 71)) w.heap.size #[.nilIface, .nilIface] 25 := (Blk.new _ _ _).alloc _
  have P0 : Blk ((w.alloc (.cells #[.nilIface, .nilIface] 25)).alloc (.cells #[.slice (some ⟨w.heap.size, 0, none⟩) 0 2] 71)) (w.heap.size + 1) #[.slice (some ⟨w.heap.size, 0, none⟩) 0 2] 71 := by
    have := Blk.new (w.alloc (.cells #[.nilIface, .nilIface] 25)) #[.slice (some ⟨w.heap.size, 0, none⟩) 0 2] 71
    simpa using this
  generalize (w.alloc (.cells #[.nilIface, .nilIface] 25)).alloc (.cells #[.slice (some ⟨w.heap.size, 0, none⟩) 0 2] 71) = W0 at *
  refine wp_loop_rounds 5 ?_
  rw [rounds_succ]
  have d0 := keep4 b0 h0
  go_wp2
  rw [rounds_succ]
  have d1 := keep4 b0 h1
  have p0 : W0.cell? ⟨w.heap.size + 1, 0, none⟩ = some (.slice (some ⟨w.heap.size, 0, none⟩) 0 2) := P0.cell 0
  obtain ⟨q1, q2, q3, q4, G1, P1, b1⟩ := put_round (w := w) (k := 0) (u := (.iface tx vx)) (s' := .slice (some ⟨w.heap.size, 0, none⟩) 1 2) G0 P0 ne1 rfl b0 (Nat.le_refl _) (Nat.le_succ _)
  have G1 : Blk _ w.heap.size #[(.iface tx vx), .nilIface] 25 := G1
  go_wp2
  clear q1 q2 q3 q4
  generalize ((W0.alloc (.cells #[(.iface tx vx)] 25)).setCell ⟨w.heap.size, 0, none⟩ (.iface tx vx)).setCell ⟨w.heap.size + 1, 0, none⟩ (.slice (some ⟨w.heap.size, 0, none⟩) 1 2) = W1 at *
  rw [rounds_succ]
  have d2 := keep4 b1 h2
  go_wp2
  rw [rounds_succ]
  have d3 := keep4 b1 h3
  have p1 : W1.cell? ⟨w.heap.size + 1, 0, none⟩ = some (.slice (some ⟨w.heap.size, 0, none⟩) 1 2) := P1.cell 0
  obtain ⟨q1, q2, q3, q4, G2, P2, b2⟩ := put_round (w := w) (k := 1) (u := (.iface ty v_y)) (s' := .slice (some ⟨w.heap.size, 0, none⟩) 2 2) G1 P1 ne1 rfl b1 (Nat.le_refl _) (Nat.le_succ _)
  have G2 : Blk _ w.heap.size #[(.iface tx vx), (.iface ty v_y)] 25 := G2
  go_wp2
  clear q1 q2 q3 q4
  generalize ((W1.alloc (.cells #[(.iface ty v_y)] 25)).setCell ⟨w.heap.size, 1, none⟩ (.iface ty v_y)).setCell ⟨w.heap.size + 1, 0, none⟩ (.slice (some ⟨w.heap.size, 0, none⟩) 2 2) = W2 at *
  rw [rounds_succ]
  go_wp2
  go_ret
  exact ⟨_, rfl, ⟨⟨w.heap.size + 1, 0, none⟩, w.heap.size, 2, _, _, rfl, P2.cell 0, G2.cell 0, G2.cell 1, ax.below b2, ay.below b2⟩, b2⟩

set_option maxRecDepth 100000 in
set_option maxHeartbeats 8000000 in
theorem Join_nn (b c : Nat) (w : World) (h0 : w.cell? ⟨b, 0, none⟩ = some .nilIface) (h1 : w.cell? ⟨b, 1, none⟩ = some .nilIface) :
    Calls Tryd.prog 21 #[.slice (some ⟨b, 0, none⟩) 2 c] w fun r w' => r = .returned .nilIface ∧ w' = w := by
  go_enter Tryd.func21, Tryd.ntmps21
  go_wp2
  refine wp_loop_rounds 3 ?_
  rw [rounds_succ]
  go_wp2
  rw [rounds_succ]
  go_wp2
  rw [rounds_succ]
  go_wp2
  go_ret
  exact ⟨rfl, rfl⟩

set_option maxRecDepth 100000 in
set_option maxHeartbeats 8000000 in
theorem Join_n (b c : Nat) (w : World) (h0 : w.cell? ⟨b, 0, none⟩ = some .nilIface) :
    Calls Tryd.prog 21 #[.slice (some ⟨b, 0, none⟩) 1 c] w fun r w' => r = .returned .nilIface ∧ w' = w := by
  go_enter Tryd.func21, Tryd.ntmps21
  go_wp2
  refine wp_loop_rounds 2 ?_
  rw [rounds_succ]
  go_wp2
  rw [rounds_succ]
  go_wp2
  go_ret
  exact ⟨rfl, rfl⟩

set_option maxRecDepth 100000 in
set_option maxHeartbeats 8000000 in
theorem Join_none (w : World) : Calls Tryd.prog 21 #[.slice none 0 0] w fun r w' => r = .returned .nilIface ∧ w' = w := by
  go_enter Tryd.func21, Tryd.ntmps21
  go_wp2
  refine wp_loop_rounds 1 ?_
  rw [rounds_succ]
  go_wp2
  go_ret
  exact ⟨rfl, rfl⟩
set_option maxRecDepth 100000 in
set_option maxHeartbeats 8000000 in
/-- fault.Join is errors.Join. -/
theorem Join_is {v : Value} {w : World} {Q : Ending → World → Prop} (h : Calls Tryd.prog 21 #[v] w fun r w' => ∃ u, r = .returned u ∧ Q r w') : Calls Tryd.prog 16 #[v] w Q := by
  go_enter Tryd.func16, Tryd.ntmps16
  go_wp2_with fail
  refine h.mono ?_; rintro r w' ⟨u, rfl, q⟩
  go_wp2_with fail
  exact q
end Go.Proofs.YtobcgomfbkcaeaaDoor.YErr
