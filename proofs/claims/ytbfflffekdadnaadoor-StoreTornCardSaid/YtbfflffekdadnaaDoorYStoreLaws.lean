/- The statements of layer 25: StoreSizes: the walk. Condition: errors.errorType holds its type's handle. -/
import Derived.Test.YtbfflffekdadnaaDoorYStoreR
import Derived.Deep.RegionHeld3
namespace Go.Proofs.YtbfflffekdadnaaDoor.YErr
open Go.RowKit Go.Extern.Stop Go.Stop Go.Extern Go.Proofs.YtbfflffekdadnaaDoorW.PrintWords Go.Proofs.YtbfflffekdadnaaDoorW.PrintLast
set_option linter.unusedVariables false
set_option linter.unusedSimpArgs false

theorem bb {W w w' : World} (h : Below W.heap.size W w) (g : Below w.heap.size w w') : Below W.heap.size W w' := h.trans (g.mono h.size)
theorem bg {W w w' : World} {b : Nat} (h : Below W.heap.size W w) (g : w.grownBy w' (some b)) (hb : W.heap.size ≤ b) : Below W.heap.size W w' := h.grown g h.size (by intro k hk; cases hk; exact hb)
theorem Sto.keep {w w' : World} {p b : Nat} {l : List Int} {left : Int} {down : Bool} (h : Sto w p b l left down) (g : Below w.heap.size w w') : Sto w' p b l left down := ⟨h.1.keep g, Blk.keep h.2.1 g, h.2.2⟩
theorem Sto.alloc {w : World} {p b : Nat} {l : List Int} {left : Int} {down : Bool} (h : Sto w p b l left down) (o : Obj) : Sto (w.alloc o) p b l left down := ⟨Blk.alloc h.1 o, Blk.alloc h.2.1 o, h.2.2⟩
theorem Src_new (w : World) (xs : List Int) (fr : Nat × Nat) : Src (w.alloc (.cells (xs.map (Value.int .u8)).toArray 5 fr)) (some ⟨w.heap.size, 0, none⟩) xs := by
  intro i hi
  refine ⟨_, rfl, ?_⟩
  rw [show (⟨w.heap.size, 0, none⟩ : Addr).add i = ⟨w.heap.size, i, none⟩ by unfold Addr.add; split <;> simp_all]
  rw [World.cell?_alloc_mark]
  simp [List.getD, hi]
theorem New_any (n : Int) (c : Nat) (hc : mn (mx n 0) 4096 = c) (w : World) :
    Calls Tryd.prog 25 #[.int .i64 n] w fun e w' => ∃ p b, e = .returned (.pointer (some ⟨p, 0, none⟩)) ∧ w.heap.size ≤ p ∧ w.heap.size ≤ b ∧ Sto w' p b (List.replicate c 0) (-1) false ∧ Below w.heap.size w w' := by
  refine (New_calls n w).mono ?_
  rintro e w' ⟨rfl, h, g⟩
  rw [hc, Int.toNat_natCast] at h
  exact ⟨_, _, rfl, by omega, Nat.le_refl _, h, g⟩
theorem says_is25 (n : Int) {v : Value} {W : World} (hg : Laid W) (h : ErrIs op25 W v n) : Calls Tryd.prog 28 #[v, .int .i64 n] W fun e w' => e = .returned (.bool true) ∧ Below W.heap.size W w' := by
  have := says25 n W hg h
  simpa using this
theorem Laid.two {w w' : World} {p b : Nat} (h : Laid w) (g : Two w w' p b) (h1 : 0 ≠ p) (h2 : 0 ≠ b) : Laid w' :=
  (World.cell?_of_block (w := w) (g.2.2.2.2 _ (lt_of_cell h) h1 h2)).trans h
theorem ErrFrom.two {op : ByteArray} {B p b : Nat} {w w' : World} {v : Value} {c : Int} (h : ErrFrom op B w v c) (g : Two w w' p b) (h1 : p < B) (h2 : b < B) : ErrFrom op B w' v c := by
  rcases h with h | ⟨hc, a, hv, hB, x0, x1⟩
  · exact .inl h
  · exact .inr ⟨hc, a, hv, hB, (World.cell?_of_block (w := w) (g.2.2.2.2 a.block (lt_of_cell x0) (by omega) (by omega))).trans x0, (World.cell?_of_block (w := w) (a := ⟨a.block, a.off + 1, Option.none⟩) (g.2.2.2.2 a.block (lt_of_cell x0) (by omega) (by omega))).trans x1⟩
section
variable {w : World} {p b : Nat}
theorem k_W1 (s : Sto w p b [0, 0, 0, 0] (-1) false) : Calls Tryd.prog 27 #[.pointer (some ⟨p, 0, none⟩), .int .i64 1, .slice (some ⟨w.heap.size, 0, none⟩) 2 2] (w.alloc (.cells #[.int .u8 97, .int .u8 98] 5 (2, 3)))
    fun e w' => e = .returned .nilIface ∧ Sto w' p b [0, 97, 98, 0] (-1) false ∧ Two (w.alloc (.cells #[.int .u8 97, .int .u8 98] 5 (2, 3))) w' p b :=
  Write_free (w := w.alloc (.cells #[.int .u8 97, .int .u8 98] 5 (2, 3))) (a := 1) (c := 2) (xs := [97, 98]) (s.alloc _) (by decide) (by decide) (by decide) (Src_new w [97, 98] (2, 3)) (by decide)
theorem k_R1 (s : Sto w p b [0, 97, 98, 0] (-1) false) : Calls Tryd.prog 32 #[.pointer (some ⟨p, 0, none⟩), .int .i64 0, .int .i64 4] w
    fun e w' => ∃ g c, e = .returned (.tuple #[.slice (some ⟨g, 0, none⟩) 4 c, .nilIface]) ∧ w.heap.size ≤ g ∧ RowOf w' g [0, 97, 98, 0] ∧ Below w.heap.size w w' := Read_all s (by decide)
set_option maxRecDepth 100000 in
theorem k_W2 (s : Sto w p b [0, 97, 98, 0] 1 false) : Calls Tryd.prog 27 #[.pointer (some ⟨p, 0, none⟩), .int .i64 0, .slice (some ⟨w.heap.size, 0, none⟩) 2 2] (w.alloc (.cells #[.int .u8 120, .int .u8 121] 5 (2, 3)))
    fun e w' => ∃ v, e = .returned v ∧ ErrFrom op25 (w.alloc (.cells #[.int .u8 120, .int .u8 121] 5 (2, 3))).heap.size w' v 40 ∧ Sto w' p b [120, 97, 98, 0] 0 true ∧ Two (w.alloc (.cells #[.int .u8 120, .int .u8 121] 5 (2, 3))) w' p b :=
  Write_torn (w := w.alloc (.cells #[.int .u8 120, .int .u8 121] 5 (2, 3))) (a := 0) (c := 2) (m := 1) (xs := [120, 121]) (s.alloc _) (by decide) (by decide) (by decide) (by decide) (Src_new w [120, 121] (2, 3)) (by have := s.1.lt; intro q hq _; cases hq; simp; omega) (by decide)
theorem k_str : strOf [0, 97, 98, 0] = { data := #[0, 97, 98, 0] } := by decide +kernel
theorem k_S {g c : Nat} (h : RowOf w g [0, 97, 98, 0]) : (convert 59 9 (.slice (some ⟨g, 0, none⟩) 4 c)).run Tryd.prog w = .ok (.string { data := #[0, 97, 98, 0] }) w := by
  have := to_string (c := c) h.src
  rwa [k_str] at this
end
set_option maxRecDepth 100000 in
set_option maxHeartbeats 4000000 in
theorem known25 (w : World) (hg : Laid w) : Calls Tryd.prog 24 #[] w fun e w' => e = .returned (.bool true) ∧ Below w.heap.size w w' := by
  have kc := fun (w : World) (C : Array Value) (n c : Nat) => Lib.run_convert_bytes_const (P := Tryd.prog) w 59 5 C n c Tryd.underlying59 Tryd.underlying5
  have hgl := lt_of_cell hg
  have N := New_any 4 4 (by decide) w
  go_enter Tryd.func24, Tryd.ntmps24
  go_wp2_with fail
  refine N.mono ?_; rintro e w1 ⟨p, b, rfl, hp, hb, s1, b1⟩
  have s1 : Sto w1 p b [0, 0, 0, 0] (-1) false := s1
  have ltp := s1.1.lt
  have ltb := Blk.lt s1.2.1
  have W1 := k_W1 s1
  go_wp2_with fail
  refine W1.mono ?_; rintro e w2 ⟨rfl, s2, t2⟩
  have b2 : Below w.heap.size w w2 := t2.under (bb b1 ((Below.refl _ _).alloc (Nat.le_refl _) _)) hp hb
  have R1 := k_R1 s2
  clear W1
  go_wp2_with fail
  refine R1.mono ?_; rintro e w3 ⟨g, c, rfl, hB, r3, g3⟩
  have s3 := s2.keep g3
  have b3 := bb b2 g3
  have R2 := Read_range (a := 3) (n := 2) s3 (by simp)
  clear R1
  go_wp2_with fail
  refine R2.mono ?_; rintro e w4 ⟨v4, rfl, hv4, g4⟩
  have s4 := s3.keep g4
  have b4 := bb b3 g4
  have r4 := r3.keep g4
  have C := Cut_calls 1 s4
  clear R2
  go_wp2_with fail
  refine C.mono ?_; rintro e w5 ⟨rfl, s5, g5⟩
  have s5 : Sto w5 p b [0, 97, 98, 0]  1 false := s5
  have t5 : Two w4 w5 p b := Two.grown g5 (.inl rfl)
  have b5 := t5.under b4 hp hb
  have z2 := s2.1.lt
  have z2' := Blk.lt s2.2.1
  have z3 := g3.size
  have z4 := r3.lt
  have r5 := r4.two t5 (by omega) (by omega)
  have v5 := hv4.two t5 (by omega) (by omega)
  have W2 := k_W2 s5
  clear C
  go_wp2_with fail
  refine W2.mono ?_; rintro e w6 ⟨v6, rfl, hv6, s6, t6⟩
  have b6 : Below w.heap.size w w6 := t6.under (bb b5 ((Below.refl _ _).alloc (Nat.le_refl _) _)) hp hb
  have a5 : Below w5.heap.size w5 (w5.alloc (.cells #[.int .u8 120, .int .u8 121] 5 (2, 3))) := (Below.refl _ _).alloc (Nat.le_refl _) _
  have r6 := (r5.keep a5).two t6 (by omega) (by omega)
  have v6' := (v5.below (C := 0) a5).two t6 (by omega) (by omega)
  have TS := k_S (c := c) r6
  have S1 := says_is25 20 (hg.below b6) v6'.is
  clear W2
  go_wp2_with fail
  refine S1.mono ?_; rintro e w7 ⟨rfl, g7⟩
  have S2 := says_is25 40 (hg.below (bb b6 g7)) (hv6.below (C := 0) g7).is
  clear S1
  go_wp2_with fail
  refine S2.mono ?_; rintro e w8 ⟨rfl, g8⟩
  have s8 := (s6.keep g7).keep g8
  have D := Down_calls s8
  have L := Len_calls s8
  clear S2
  go_wp2_with fail
  refine D.mono ?_; rintro e w9 ⟨rfl, rfl⟩
  go_wp2_with fail
  refine L.mono ?_; rintro e w10 ⟨rfl, rfl⟩
  go_wp2_with fail
  go_ret
  exact ⟨rfl, bb (bb b6 g7) g8⟩
theorem sz_1 {M : Nat} {u : Int} (hM : 4094 ≤ M) (hM' : M ≤ 4096) (hu : (M : Int) - 1 = u) {w : World} {p b : Nat} (s : Sto w p b (List.replicate M 0) (-1) false) : Calls Tryd.prog 27 #[.pointer (some ⟨p, 0, none⟩), .int .i64 u, .slice (some ⟨w.heap.size, 0, none⟩) 1 1] (w.alloc (.cells #[.int .u8 1] 5))
    fun e w' => e = .returned .nilIface ∧ Two (w.alloc (.cells #[.int .u8 1] 5)) w' p b := by
  have h := Write_free (w := w.alloc (.cells #[.int .u8 1] 5)) (a := M - 1) (c := 1) (xs := [1]) (s.alloc _) (by decide) (by simp; omega) (by decide) (Src_new w [1] (0, 0)) (by simp; omega)
  rw [show ((M - 1 : Nat) : Int) = u by omega] at h
  exact h.mono fun e w' ⟨he, _, h⟩ => ⟨he, h⟩
theorem sz_2 {M : Nat} {v : Int} (hv : (M : Int) = v) {w : World} {p b : Nat} (s : Sto w p b (List.replicate M 0) (-1) false) : Calls Tryd.prog 27 #[.pointer (some ⟨p, 0, none⟩), .int .i64 v, .slice (some ⟨w.heap.size, 0, none⟩) 1 1] (w.alloc (.cells #[.int .u8 1] 5))
    fun e w' => ∃ v, e = .returned v ∧ ErrFrom op25 (w.alloc (.cells #[.int .u8 1] 5)).heap.size w' v 20 ∧ Below (w.alloc (.cells #[.int .u8 1] 5)).heap.size (w.alloc (.cells #[.int .u8 1] 5)) w' := by
  subst hv
  exact Write_bad (p := p) (a := (M : Int)) (A := some ⟨w.heap.size, 0, none⟩) (n := 1) (m := 1) (B := 0) (by decide) (out_range (s.alloc _) (by simp; omega))
theorem Len_rep {c : Nat} {v : Int} (hv : (c : Int) = v) {w : World} {p b : Nat} {left : Int} {down : Bool} (s : Sto w p b (List.replicate c 0) left down) : Calls Tryd.prog 26 #[.pointer (some ⟨p, 0, none⟩)] w fun e w' => e = .returned (.int .i64 v) ∧ w' = w := by
  have := Len_calls s
  rw [List.length_replicate, hv] at this
  exact this
set_option maxRecDepth 100000 in
set_option maxHeartbeats 4000000 in
theorem Sizes_walk (n k : Int) (w : World) (hg : Laid w) (k0 : 0 ≤ k) (k1 : k < 256) : Calls Tryd.prog 7 #[.int .i64 n, .int .u8 k] w fun e w' => e = .returned (.bool true) ∧ Below w.heap.size w w' := by
  have K := known25 w hg
  have hgl := lt_of_cell hg
  obtain ⟨m, hm⟩ : ∃ m, 4094 + k % 5 = m := ⟨_, rfl⟩
  obtain ⟨M, hM, M0, M1⟩ : ∃ M : Nat, mn (mx m 0) 4096 = M ∧ 4094 ≤ M ∧ M ≤ 4096 := ⟨(mn m 4096).toNat, by unfold mn mx; repeat' split <;> omega, by unfold mn; split <;> omega, by unfold mn; split <;> omega⟩
  obtain ⟨c, hc, c1⟩ : ∃ c : Nat, mn (mx n 0) 4096 = c ∧ c ≤ 4096 := ⟨(mn (mx n 0) 4096).toNat, by unfold mn mx; repeat' split <;> omega, by unfold mn mx; repeat' split <;> omega⟩
  have N1 := fun W => New_any m M hM W
  have N2 := fun W => New_any n c hc W
  obtain ⟨v, u, hv, hu, hm'⟩ : ∃ v u, (M : Int) = v ∧ (M : Int) - 1 = u ∧ ((¬ 4096 < m ∧ v = m ∧ u = m - 1) ∨ (4096 < m ∧ v = 4096 ∧ u = 4095)) := by
    refine ⟨_, _, rfl, rfl, ?_⟩
    unfold mn mx at hM
    revert hM; repeat' split <;> omega
  obtain ⟨x, hx, hn⟩ : ∃ x, (c : Int) = x ∧ ((n < 0 ∧ x = 0) ∨ (4096 < n ∧ ¬ n < 0 ∧ x = 4096) ∨ (¬ n < 0 ∧ ¬ 4096 < n ∧ x = n)) := by
    refine ⟨_, rfl, ?_⟩
    unfold mn mx at hc
    revert hc; repeat' split <;> omega
  have F1 := @Len_rep M v hv
  have F2 := @sz_1 M u M0 M1 hu
  have F3 := @sz_2 M v hv
  have F4 := @Len_rep c x hx
  have q0 : 0 ≤ k % 5 := by omega
  have q1 : k % 5 < 5 := by omega
  have e1 : min m 4096 = v := by omega
  have e2 : min (max n 0) 4096 = x := by omega
  have m1 : 4094 ≤ m := by omega
  have m2 : m ≤ 4098 := by omega
  clear hM hc M0 M1 c1 hv hu hx
  rcases hm' with ⟨h1, rfl, rfl⟩ | ⟨h1, rfl, rfl⟩
  all_goals
    rcases hn with ⟨h3, rfl⟩ | ⟨h3, h4, rfl⟩ | ⟨h3, h4, rfl⟩
    all_goals
      go_enter Tryd.func7, Tryd.ntmps7
      go_wp2_with fail
      refine K.mono ?_; rintro e w0 ⟨rfl, b0⟩
      go_wp2_with fail
      clear hm q0 q1
      refine (N1 _).mono ?_; rintro e w1 ⟨p1, x1, rfl, hp1, hx1, s1, g1⟩
      have b1 := bb b0 g1
      have L1 := F1 s1
      go_wp2_with fail
      refine L1.mono ?_; rintro e w2 ⟨rfl, rfl⟩
      go_wp2_with fail
      refine (N2 _).mono ?_; rintro e w3 ⟨p3, x3, rfl, hp3, hx3, s3, g3⟩
      have b3 := bb b1 g3
      have L3 := F4 s3
      go_wp2_with fail
      refine L3.mono ?_; rintro e w4 ⟨rfl, rfl⟩
      go_wp2_with fail
      refine (N1 _).mono ?_; rintro e w5 ⟨p5, x5, rfl, hp5, hx5, s5, g5⟩
      have b5 := bb b3 g5
      have z5 := b3.size
      have W1 := F2 s5
      go_wp2_with fail
      refine W1.mono ?_; rintro e w6 ⟨rfl, t6⟩
      have b6 := t6.under (bb b5 ((Below.refl _ _).alloc (Nat.le_refl _) _)) (by omega) (by omega)
      clear W1 L1 L3
      go_wp2_with fail
      refine (N1 _).mono ?_; rintro e w7 ⟨p7, x7, rfl, hp7, hx7, s7, g7⟩
      have b7 := bb b6 g7
      have W2 := F3 s7
      go_wp2_with fail
      refine W2.mono ?_; rintro e w8 ⟨v8, rfl, hv8, g8⟩
      have b8 := bb (bb b7 ((Below.refl _ _).alloc (Nat.le_refl _) _)) g8
      have S := says_is25 20 (hg.below b8) hv8.is
      go_wp2_with fail
      refine S.mono ?_; rintro e w9 ⟨rfl, g9⟩
      go_wp2_with fail
      go_ret
      exact ⟨rfl, bb b8 g9⟩
theorem StoreSizes_calls (n k : Int) (w : World) (hg : Laid w) (w0 : (Lit.int .i64 n).wf = true) (w1 : (Lit.int .u8 k).wf = true) :
    Calls Tryd.prog 7 #[.int .i64 n, .int .u8 k] w fun e w' => e = .returned (.bool true) ∧ Below w.heap.size w w' := by
  have hk : 0 ≤ k ∧ k < 256 := by simp [Lit.wf, IntKind.min, IntKind.max, IntKind.bits, IntKind.signed] at w1; omega
  exact Sizes_walk n k w hg hk.1 hk.2
end Go.Proofs.YtbfflffekdadnaaDoor.YErr
