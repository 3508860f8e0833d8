/- leadlineseat.Config: the configuration of a number. Condition: the number's kind. Printed by a program of this session. -/
import Derived.Test.YtbfflffekdadnaaDoorYBlk
import Derived.Test.YtbfflffekdadnaaDoorYInv
import Derived.Laws.Rows
namespace Go.Proofs.YtbfflffekdadnaaDoor.YSeat
open Go.RowKit Go.Proofs.YtbfflffekdadnaaDoor.YInv Go.Proofs.YtbfflffekdadnaaDoor.YErr
set_option linter.unusedVariables false
set_option linter.unusedSimpArgs false

def sel3 (a b c i : Int) : Int := if i = 0 then a else if i = 1 then b else c
def sel4 (a b c d i : Int) : Int := if i = 0 then a else if i = 1 then b else if i = 2 then c else d
theorem blk3 {w : World} {b : Nat} {a0 a1 a2 i : Int} {T : TypeId} (h : Blk w b #[.int .i64 a0, .int .i64 a1, .int .i64 a2] T) (h0 : 0 ≤ i) (h1 : i < 3) : w.cell? ⟨b, i.toNat, none⟩ = some (.int .i64 (sel3 a0 a1 a2 i)) := by
  rcases (by omega : i = 0 ∨ i = 1 ∨ i = 2) with rfl | rfl | rfl <;> exact h.cell _
theorem blk4 {w : World} {b : Nat} {a0 a1 a2 a3 i : Int} {T : TypeId} (h : Blk w b #[.int .i64 a0, .int .i64 a1, .int .i64 a2, .int .i64 a3] T) (h0 : 0 ≤ i) (h1 : i < 4) : w.cell? ⟨b, i.toNat, none⟩ = some (.int .i64 (sel4 a0 a1 a2 a3 i)) := by
  rcases (by omega : i = 0 ∨ i = 1 ∨ i = 2 ∨ i = 3) with rfl | rfl | rfl | rfl <;> exact h.cell _
theorem i64i {x : Int} (h0 : -9223372036854775808 ≤ x) (h1 : x ≤ 9223372036854775807) : IntKind.i64.wrap x = x := by
  simp [IntKind.wrap, IntKind.bits, IntKind.signed]
  split <;> omega
theorem u8i {x : Int} (h0 : 0 ≤ x) (h1 : x < 256) : IntKind.u8.wrap x = x := by simp [IntKind.wrap, IntKind.bits, IntKind.signed]; omega
theorem u32i {x : Int} (h0 : 0 ≤ x) (h1 : x < 4294967296) : IntKind.u32.wrap x = x := by simp [IntKind.wrap, IntKind.bits, IntKind.signed]; omega
theorem w64i {x : Int} (h0 : -9223372036854775808 ≤ x) (h1 : x ≤ 9223372036854775807) : wrap64 x = x := by unfold wrap64; omega
theorem nb (w : World) (o : Obj) : Below w.heap.size w (w.alloc o) := (Below.refl _ _).alloc (Nat.le_refl _) _
theorem bo {W w w' : World} (h : Below W.heap.size W w) (g : Below w.heap.size w w') : Below W.heap.size W w' := h.trans (g.mono h.size)

theorem set12 {w : World} {b : Nat} {v0 v1 v2 v3 v4 v5 v6 v7 v8 v9 v10 v11 u0 u1 u2 u3 u4 u5 u6 u7 u8 u9 u10 u11 : Value} {T : TypeId} (h : Blk w b #[v0, v1, v2, v3, v4, v5, v6, v7, v8, v9, v10, v11] T) : Blk ((((((((((((w.setCell ⟨b, 0, none⟩ u0).setCell ⟨b, 1, none⟩ u1).setCell ⟨b, 2, none⟩ u2).setCell ⟨b, 3, none⟩ u3).setCell ⟨b, 4, none⟩ u4).setCell ⟨b, 5, none⟩ u5).setCell ⟨b, 6, none⟩ u6).setCell ⟨b, 7, none⟩ u7).setCell ⟨b, 8, none⟩ u8).setCell ⟨b, 9, none⟩ u9).setCell ⟨b, 10, none⟩ u10).setCell ⟨b, 11, none⟩ u11) b #[u0, u1, u2, u3, u4, u5, u6, u7, u8, u9, u10, u11] T := by
  have := (Blk.set (Blk.set (Blk.set (Blk.set (Blk.set (Blk.set (Blk.set (Blk.set (Blk.set (Blk.set (Blk.set (Blk.set h 0 u0) 1 u1) 2 u2) 3 u3) 4 u4) 5 u5) 6 u6) 7 u7) 8 u8) 9 u9) 10 u10) 11 u11)
  simpa using this
theorem below12 {W w : World} {b : Nat} {u0 u1 u2 u3 u4 u5 u6 u7 u8 u9 u10 u11 : Value} (h : Below W.heap.size W w) (hb : W.heap.size ≤ b) : Below W.heap.size W ((((((((((((w.setCell ⟨b, 0, none⟩ u0).setCell ⟨b, 1, none⟩ u1).setCell ⟨b, 2, none⟩ u2).setCell ⟨b, 3, none⟩ u3).setCell ⟨b, 4, none⟩ u4).setCell ⟨b, 5, none⟩ u5).setCell ⟨b, 6, none⟩ u6).setCell ⟨b, 7, none⟩ u7).setCell ⟨b, 8, none⟩ u8).setCell ⟨b, 9, none⟩ u9).setCell ⟨b, 10, none⟩ u10).setCell ⟨b, 11, none⟩ u11) := (Below.setCell (p := ⟨b, 11, none⟩) (Below.setCell (p := ⟨b, 10, none⟩) (Below.setCell (p := ⟨b, 9, none⟩) (Below.setCell (p := ⟨b, 8, none⟩) (Below.setCell (p := ⟨b, 7, none⟩) (Below.setCell (p := ⟨b, 6, none⟩) (Below.setCell (p := ⟨b, 5, none⟩) (Below.setCell (p := ⟨b, 4, none⟩) (Below.setCell (p := ⟨b, 3, none⟩) (Below.setCell (p := ⟨b, 2, none⟩) (Below.setCell (p := ⟨b, 1, none⟩) (Below.setCell (p := ⟨b, 0, none⟩) h hb _) hb _) hb _) hb _) hb _) hb _) hb _) hb _) hb _) hb _) hb _) hb _)

theorem up_true {L : Nat → Bool} {i j : Nat} (h : L j = true) : YInv.up L i j = true := by
  unfold YInv.up
  split
  · rfl
  · exact h
def CInv (k : Int) (W W2 : World) (L : Nat → Bool) (a : Act) (w : World) : Prop := (∀ i ∈ [0, 1, 2, 3, 4, 5, 6, 7, 8, 10, 11, 14, 15, 16, 17, 19, 20, 24, 25, 29, 30, 31, 35, 36, 37, 40, 41, 42, 43, 44, 45, 46, 47], L i = true) ∧ ∃ (t12 t15 t16 t21 t24 t25 t26 t29 t30 t31 t35 t36 t37 t41 t42 t51 : Value) (b9 b18 b23 b28 b34 : Nat), a = { tmps := #[.int .u8 k, undef, .pointer (some ⟨W.heap.size, 0, none⟩), .int .u8 (k), .int .u8 (k % 16), .int .i64 (k % 16), .int .i64 (k % 16 * 1000), .int .u8 (k), .int .u8 (k / 16), .int .i64 (k / 16), .int .i64 (k / 16 * 500), .agg #[.int .i64 (k % 16 * 1000), .int .i64 (k / 16 * 500)], t12, .int .u8 (k), .int .u8 (k % 3), t15, t16, .int .u8 (k), .int .u8 (k % 7), .int .i64 (k % 7), .int .i64 (k % 7 + 1), t21, .int .u8 (k), .int .u8 (k % 4), t24, t25, t26, .int .u8 (k), .int .u8 (k % 3), t29, t30, t31, .int .u8 (k), .int .u8 (k / 3), .int .u8 (k / 3 % 3), t35, t36, t37, .int .u8 (k), .int .u8 (k / 2), .int .u8 (k / 2 % 3), t41, t42, .int .u8 (k), .int .u8 (k % 4), .int .i64 (k % 4), .int .i64 (k % 4 * 2000), .int .u8 (k), .int .u32 (k), .int .u32 (k * 10), .int .u32 (1000 + k * 10), t51], defers := [] } ∧
    (L 49 = false → Below W2.heap.size W2 w) ∧
    Below W.heap.size W w ∧
    (L 49 = true → Blk w W.heap.size #[.int .i64 (k % 16 * 1000), .int .i64 (k / 16 * 500), .int .i64 (sel3 3000 50000 900 (k % 3)), .int .i64 (k % 7 + 1), .int .i64 (sel4 20000 500000 4000 1048576 (k % 4)), .int .i64 (sel3 9 4000 60 (k % 3)), .int .i64 (sel3 1 20 300 (k / 3 % 3)), .int .i64 (268435456), .int .i64 (1000), .int .i64 (sel3 300 20000 3000 (k / 2 % 3)), .int .i64 (k % 4 * 2000), .int .u32 (1000 + k * 10)] 46) ∧
    (L 49 = true → ∀ i ∈ [9, 12, 13, 18, 21, 22, 23, 26, 27, 28, 32, 33, 34, 38, 39, 48], L i = true) ∧
    (L 9 = true → t12 = .slice (some ⟨b9, 0, none⟩) 3 3 ∧ (L 49 = false → Blk w b9 #[.int .i64 3000, .int .i64 50000, .int .i64 900] 2)) ∧
    (L 12 = true → t15 = .pointer (some ⟨b9, (k % 3).toNat, none⟩) ∧ L 9 = true) ∧
    (L 13 = true → t16 = .int .i64 (sel3 3000 50000 900 (k % 3))) ∧
    (L 18 = true → t21 = .slice (some ⟨b18, 0, none⟩) 4 4 ∧ (L 49 = false → Blk w b18 #[.int .i64 20000, .int .i64 500000, .int .i64 4000, .int .i64 1048576] 2)) ∧
    (L 21 = true → t24 = .pointer (some ⟨b18, (k % 4).toNat, none⟩) ∧ L 18 = true) ∧
    (L 22 = true → t25 = .int .i64 (sel4 20000 500000 4000 1048576 (k % 4))) ∧
    (L 23 = true → t26 = .slice (some ⟨b23, 0, none⟩) 3 3 ∧ (L 49 = false → Blk w b23 #[.int .i64 9, .int .i64 4000, .int .i64 60] 2)) ∧
    (L 26 = true → t29 = .pointer (some ⟨b23, (k % 3).toNat, none⟩) ∧ L 23 = true) ∧
    (L 27 = true → t30 = .int .i64 (sel3 9 4000 60 (k % 3))) ∧
    (L 28 = true → t31 = .slice (some ⟨b28, 0, none⟩) 3 3 ∧ (L 49 = false → Blk w b28 #[.int .i64 1, .int .i64 20, .int .i64 300] 2)) ∧
    (L 32 = true → t35 = .pointer (some ⟨b28, (k / 3 % 3).toNat, none⟩) ∧ L 28 = true) ∧
    (L 33 = true → t36 = .int .i64 (sel3 1 20 300 (k / 3 % 3))) ∧
    (L 34 = true → t37 = .slice (some ⟨b34, 0, none⟩) 3 3 ∧ (L 49 = false → Blk w b34 #[.int .i64 300, .int .i64 20000, .int .i64 3000] 2)) ∧
    (L 38 = true → t41 = .pointer (some ⟨b34, (k / 2 % 3).toNat, none⟩) ∧ L 34 = true) ∧
    (L 39 = true → t42 = .int .i64 (sel3 300 20000 3000 (k / 2 % 3))) ∧
    (L 48 = true → t51 = .agg #[.int .i64 (k % 16 * 1000), .int .i64 (k / 16 * 500), .int .i64 (sel3 3000 50000 900 (k % 3)), .int .i64 (k % 7 + 1), .int .i64 (sel4 20000 500000 4000 1048576 (k % 4)), .int .i64 (sel3 9 4000 60 (k % 3)), .int .i64 (sel3 1 20 300 (k / 3 % 3)), .int .i64 (268435456), .int .i64 (1000), .int .i64 (sel3 300 20000 3000 (k / 2 % 3)), .int .i64 (k % 4 * 2000), .int .u32 (1000 + k * 10)])

set_option maxRecDepth 100000 in
set_option maxHeartbeats 16000000 in
theorem Config_c (k : Int) (k0 : 0 ≤ k) (k1 : k < 256) (W : World) :
    Calls Tryd.prog 17 #[.int .u8 k] W fun e w' => e = .returned (.agg #[.int .i64 (k % 16 * 1000), .int .i64 (k / 16 * 500), .int .i64 (sel3 3000 50000 900 (k % 3)), .int .i64 (k % 7 + 1), .int .i64 (sel4 20000 500000 4000 1048576 (k % 4)), .int .i64 (sel3 9 4000 60 (k % 3)), .int .i64 (sel3 1 20 300 (k / 3 % 3)), .int .i64 (268435456), .int .i64 (1000), .int .i64 (sel3 300 20000 3000 (k / 2 % 3)), .int .i64 (k % 4 * 2000), .int .u32 (1000 + k * 10)]) ∧ Below W.heap.size W w' := by
  have KR := Blk.new W #[.int .i64 0, .int .i64 0, .int .i64 0, .int .i64 0, .int .i64 0, .int .i64 0, .int .i64 0, .int .i64 0, .int .i64 0, .int .i64 0, .int .i64 0, .int .u32 0] 46
  have BR := nb W (.cells #[.int .i64 0, .int .i64 0, .int .i64 0, .int .i64 0, .int .i64 0, .int .i64 0, .int .i64 0, .int .i64 0, .int .i64 0, .int .i64 0, .int .i64 0, .int .u32 0] 46)
  have m1 : 0 ≤ k % 3 := by omega
  have m2 : k % 3 < 3 := by omega
  have m3 : 0 ≤ k % 4 := by omega
  have m4 : k % 4 < 4 := by omega
  have m5 : 0 ≤ k / 3 % 3 := by omega
  have m6 : k / 3 % 3 < 3 := by omega
  have m7 : 0 ≤ k / 2 % 3 := by omega
  have m8 : k / 2 % 3 < 3 := by omega
  have n1 : 0 ≤ k % 16 := by omega
  have n2 : k % 16 < 16 := by omega
  have n3 : 0 ≤ k / 16 := by omega
  have n4 : k / 16 < 16 := by omega
  have n5 : 0 ≤ k % 7 := by omega
  have n6 : k % 7 < 7 := by omega
  have n7 : 0 ≤ k / 3 := by omega
  have n8 : 0 ≤ k / 2 := by omega
  have q1 : IntKind.i64.wrap (k % 16) = k % 16 := i64i (by omega) (by omega)
  have q2 : IntKind.i64.wrap (k % 16 * 1000) = k % 16 * 1000 := i64i (by omega) (by omega)
  have q3 : IntKind.i64.wrap (k / 16) = k / 16 := i64i (by omega) (by omega)
  have q4 : IntKind.i64.wrap (k / 16 * 500) = k / 16 * 500 := i64i (by omega) (by omega)
  have q5 : IntKind.u8.wrap (k / 16) = k / 16 := u8i (by omega) (by omega)
  have q6 : IntKind.u8.wrap (k / 3) = k / 3 := u8i (by omega) (by omega)
  have q7 : IntKind.u8.wrap (k / 2) = k / 2 := u8i (by omega) (by omega)
  have q8 : IntKind.i64.wrap (k % 7) = k % 7 := i64i (by omega) (by omega)
  have q9 : IntKind.i64.wrap (k % 7 + 1) = k % 7 + 1 := i64i (by omega) (by omega)
  have q10 : IntKind.i64.wrap (k % 4) = k % 4 := i64i (by omega) (by omega)
  have q11 : IntKind.i64.wrap (k % 4 * 2000) = k % 4 * 2000 := i64i (by omega) (by omega)
  have q12 : IntKind.u32.wrap k = k := u32i (by omega) (by omega)
  have q13 : IntKind.u32.wrap (k * 10) = k * 10 := u32i (by omega) (by omega)
  have q14 : IntKind.u32.wrap (1000 + k * 10) = 1000 + k * 10 := u32i (by omega) (by omega)
  have r1 : ∀ m, Int.tmod k m = k % m := fun m => Int.tmod_eq_emod_of_nonneg k0
  have r2 : ∀ m, Int.tdiv k m = k / m := fun m => Int.tdiv_eq_ediv_of_nonneg k0
  have r3 : Int.tmod (k / 3) 3 = k / 3 % 3 := Int.tmod_eq_emod_of_nonneg n7
  have r4 : Int.tmod (k / 2) 3 = k / 2 % 3 := Int.tmod_eq_emod_of_nonneg n8
  go_enter Tryd.func17, Tryd.ntmps17
  (try simp only [List.append])
  go_wp2
  generalize W.alloc (.cells #[.int .i64 0, .int .i64 0, .int .i64 0, .int .i64 0, .int .i64 0, .int .i64 0, .int .i64 0, .int .i64 0, .int .i64 0, .int .i64 0, .int .i64 0, .int .u32 0] 46) = W2 at *
  refine wp_region_any (by kernel_rfl) ?_
  (try (change wpAny _ _ _ _ _ _ _ (World.drew _)))
  refine take_d (i := 0) (v := ?_) (some 3) rfl (by kernel_rfl) (by kernel_rfl) (by kernel_rfl) (fun _ _ _ h => h) rfl (Or.inl ⟨by rfl, ?_⟩) ?_
  rotate_left
  · intro w; go_simp; (try with_reducible rfl)
  (try simp only [Act.put, List.setIfInBounds_toArray, List.set_cons_zero, List.set_cons_succ])
  refine take_d (i := 1) (v := ?_) (some 4) rfl (by kernel_rfl) (by kernel_rfl) (by kernel_rfl) (fun _ _ _ h => h) rfl (Or.inl ⟨by rfl, ?_⟩) ?_
  rotate_left
  · intro w; go_simp; (try with_reducible rfl)
  (try simp only [Act.put, List.setIfInBounds_toArray, List.set_cons_zero, List.set_cons_succ])
  refine take_d (i := 2) (v := ?_) (some 5) rfl (by kernel_rfl) (by kernel_rfl) (by kernel_rfl) (fun _ _ _ h => h) rfl (Or.inl ⟨by rfl, ?_⟩) ?_
  rotate_left
  · intro w; go_simp; (try with_reducible rfl)
  (try simp only [Act.put, List.setIfInBounds_toArray, List.set_cons_zero, List.set_cons_succ])
  refine take_d (i := 3) (v := ?_) (some 6) rfl (by kernel_rfl) (by kernel_rfl) (by kernel_rfl) (fun _ _ _ h => h) rfl (Or.inl ⟨by rfl, ?_⟩) ?_
  rotate_left
  · intro w; go_simp; (try with_reducible rfl)
  (try simp only [Act.put, List.setIfInBounds_toArray, List.set_cons_zero, List.set_cons_succ])
  refine take_d (i := 4) (v := ?_) (some 7) rfl (by kernel_rfl) (by kernel_rfl) (by kernel_rfl) (fun _ _ _ h => h) rfl (Or.inl ⟨by rfl, ?_⟩) ?_
  rotate_left
  · intro w; go_simp; (try with_reducible rfl)
  (try simp only [Act.put, List.setIfInBounds_toArray, List.set_cons_zero, List.set_cons_succ])
  refine take_d (i := 5) (v := ?_) (some 8) rfl (by kernel_rfl) (by kernel_rfl) (by kernel_rfl) (fun _ _ _ h => h) rfl (Or.inl ⟨by rfl, ?_⟩) ?_
  rotate_left
  · intro w; go_simp; (try with_reducible rfl)
  (try simp only [Act.put, List.setIfInBounds_toArray, List.set_cons_zero, List.set_cons_succ])
  refine take_d (i := 6) (v := ?_) (some 9) rfl (by kernel_rfl) (by kernel_rfl) (by kernel_rfl) (fun _ _ _ h => h) rfl (Or.inl ⟨by rfl, ?_⟩) ?_
  rotate_left
  · intro w; go_simp; (try with_reducible rfl)
  (try simp only [Act.put, List.setIfInBounds_toArray, List.set_cons_zero, List.set_cons_succ])
  refine take_d (i := 7) (v := ?_) (some 10) rfl (by kernel_rfl) (by kernel_rfl) (by kernel_rfl) (fun _ _ _ h => h) rfl (Or.inl ⟨by rfl, ?_⟩) ?_
  rotate_left
  · intro w; go_simp; (try with_reducible rfl)
  (try simp only [Act.put, List.setIfInBounds_toArray, List.set_cons_zero, List.set_cons_succ])
  refine take_d (i := 8) (v := ?_) (some 11) rfl (by kernel_rfl) (by kernel_rfl) (by kernel_rfl) (fun _ _ _ h => h) rfl (Or.inl ⟨by rfl, ?_⟩) ?_
  rotate_left
  · intro w; go_simp; (try with_reducible rfl)
  (try simp only [Act.put, List.setIfInBounds_toArray, List.set_cons_zero, List.set_cons_succ])
  refine take_d (i := 10) (v := ?_) (some 13) rfl (by kernel_rfl) (by kernel_rfl) (by kernel_rfl) (fun _ _ _ h => h) rfl (Or.inl ⟨by rfl, ?_⟩) ?_
  rotate_left
  · intro w; go_simp; (try with_reducible rfl)
  (try simp only [Act.put, List.setIfInBounds_toArray, List.set_cons_zero, List.set_cons_succ])
  refine take_d (i := 11) (v := ?_) (some 14) rfl (by kernel_rfl) (by kernel_rfl) (by kernel_rfl) (fun _ _ _ h => h) rfl (Or.inl ⟨by rfl, ?_⟩) ?_
  rotate_left
  · intro w; go_simp; (try with_reducible rfl)
  (try simp only [Act.put, List.setIfInBounds_toArray, List.set_cons_zero, List.set_cons_succ])
  refine take_d (i := 14) (v := ?_) (some 17) rfl (by kernel_rfl) (by kernel_rfl) (by kernel_rfl) (fun _ _ _ h => h) rfl (Or.inl ⟨by rfl, ?_⟩) ?_
  rotate_left
  · intro w; go_simp; (try with_reducible rfl)
  (try simp only [Act.put, List.setIfInBounds_toArray, List.set_cons_zero, List.set_cons_succ])
  refine take_d (i := 15) (v := ?_) (some 18) rfl (by kernel_rfl) (by kernel_rfl) (by kernel_rfl) (fun _ _ _ h => h) rfl (Or.inl ⟨by rfl, ?_⟩) ?_
  rotate_left
  · intro w; go_simp; (try with_reducible rfl)
  (try simp only [Act.put, List.setIfInBounds_toArray, List.set_cons_zero, List.set_cons_succ])
  refine take_d (i := 16) (v := ?_) (some 19) rfl (by kernel_rfl) (by kernel_rfl) (by kernel_rfl) (fun _ _ _ h => h) rfl (Or.inl ⟨by rfl, ?_⟩) ?_
  rotate_left
  · intro w; go_simp; (try with_reducible rfl)
  (try simp only [Act.put, List.setIfInBounds_toArray, List.set_cons_zero, List.set_cons_succ])
  refine take_d (i := 17) (v := ?_) (some 20) rfl (by kernel_rfl) (by kernel_rfl) (by kernel_rfl) (fun _ _ _ h => h) rfl (Or.inl ⟨by rfl, ?_⟩) ?_
  rotate_left
  · intro w; go_simp; (try with_reducible rfl)
  (try simp only [Act.put, List.setIfInBounds_toArray, List.set_cons_zero, List.set_cons_succ])
  refine take_d (i := 19) (v := ?_) (some 22) rfl (by kernel_rfl) (by kernel_rfl) (by kernel_rfl) (fun _ _ _ h => h) rfl (Or.inl ⟨by rfl, ?_⟩) ?_
  rotate_left
  · intro w; go_simp; (try with_reducible rfl)
  (try simp only [Act.put, List.setIfInBounds_toArray, List.set_cons_zero, List.set_cons_succ])
  refine take_d (i := 20) (v := ?_) (some 23) rfl (by kernel_rfl) (by kernel_rfl) (by kernel_rfl) (fun _ _ _ h => h) rfl (Or.inl ⟨by rfl, ?_⟩) ?_
  rotate_left
  · intro w; go_simp; (try with_reducible rfl)
  (try simp only [Act.put, List.setIfInBounds_toArray, List.set_cons_zero, List.set_cons_succ])
  refine take_d (i := 24) (v := ?_) (some 27) rfl (by kernel_rfl) (by kernel_rfl) (by kernel_rfl) (fun _ _ _ h => h) rfl (Or.inl ⟨by rfl, ?_⟩) ?_
  rotate_left
  · intro w; go_simp; (try with_reducible rfl)
  (try simp only [Act.put, List.setIfInBounds_toArray, List.set_cons_zero, List.set_cons_succ])
  refine take_d (i := 25) (v := ?_) (some 28) rfl (by kernel_rfl) (by kernel_rfl) (by kernel_rfl) (fun _ _ _ h => h) rfl (Or.inl ⟨by rfl, ?_⟩) ?_
  rotate_left
  · intro w; go_simp; (try with_reducible rfl)
  (try simp only [Act.put, List.setIfInBounds_toArray, List.set_cons_zero, List.set_cons_succ])
  refine take_d (i := 29) (v := ?_) (some 32) rfl (by kernel_rfl) (by kernel_rfl) (by kernel_rfl) (fun _ _ _ h => h) rfl (Or.inl ⟨by rfl, ?_⟩) ?_
  rotate_left
  · intro w; go_simp; (try with_reducible rfl)
  (try simp only [Act.put, List.setIfInBounds_toArray, List.set_cons_zero, List.set_cons_succ])
  refine take_d (i := 30) (v := ?_) (some 33) rfl (by kernel_rfl) (by kernel_rfl) (by kernel_rfl) (fun _ _ _ h => h) rfl (Or.inl ⟨by rfl, ?_⟩) ?_
  rotate_left
  · intro w; go_simp; (try with_reducible rfl)
  (try simp only [Act.put, List.setIfInBounds_toArray, List.set_cons_zero, List.set_cons_succ])
  refine take_d (i := 31) (v := ?_) (some 34) rfl (by kernel_rfl) (by kernel_rfl) (by kernel_rfl) (fun _ _ _ h => h) rfl (Or.inl ⟨by rfl, ?_⟩) ?_
  rotate_left
  · intro w; go_simp; (try with_reducible rfl)
  (try simp only [Act.put, List.setIfInBounds_toArray, List.set_cons_zero, List.set_cons_succ])
  refine take_d (i := 35) (v := ?_) (some 38) rfl (by kernel_rfl) (by kernel_rfl) (by kernel_rfl) (fun _ _ _ h => h) rfl (Or.inl ⟨by rfl, ?_⟩) ?_
  rotate_left
  · intro w; go_simp; (try with_reducible rfl)
  (try simp only [Act.put, List.setIfInBounds_toArray, List.set_cons_zero, List.set_cons_succ])
  refine take_d (i := 36) (v := ?_) (some 39) rfl (by kernel_rfl) (by kernel_rfl) (by kernel_rfl) (fun _ _ _ h => h) rfl (Or.inl ⟨by rfl, ?_⟩) ?_
  rotate_left
  · intro w; go_simp; (try with_reducible rfl)
  (try simp only [Act.put, List.setIfInBounds_toArray, List.set_cons_zero, List.set_cons_succ])
  refine take_d (i := 37) (v := ?_) (some 40) rfl (by kernel_rfl) (by kernel_rfl) (by kernel_rfl) (fun _ _ _ h => h) rfl (Or.inl ⟨by rfl, ?_⟩) ?_
  rotate_left
  · intro w; go_simp; (try with_reducible rfl)
  (try simp only [Act.put, List.setIfInBounds_toArray, List.set_cons_zero, List.set_cons_succ])
  refine take_d (i := 40) (v := ?_) (some 43) rfl (by kernel_rfl) (by kernel_rfl) (by kernel_rfl) (fun _ _ _ h => h) rfl (Or.inl ⟨by rfl, ?_⟩) ?_
  rotate_left
  · intro w; go_simp; (try with_reducible rfl)
  (try simp only [Act.put, List.setIfInBounds_toArray, List.set_cons_zero, List.set_cons_succ])
  refine take_d (i := 41) (v := ?_) (some 44) rfl (by kernel_rfl) (by kernel_rfl) (by kernel_rfl) (fun _ _ _ h => h) rfl (Or.inl ⟨by rfl, ?_⟩) ?_
  rotate_left
  · intro w; go_simp; (try with_reducible rfl)
  (try simp only [Act.put, List.setIfInBounds_toArray, List.set_cons_zero, List.set_cons_succ])
  refine take_d (i := 42) (v := ?_) (some 45) rfl (by kernel_rfl) (by kernel_rfl) (by kernel_rfl) (fun _ _ _ h => h) rfl (Or.inl ⟨by rfl, ?_⟩) ?_
  rotate_left
  · intro w; go_simp; (try with_reducible rfl)
  (try simp only [Act.put, List.setIfInBounds_toArray, List.set_cons_zero, List.set_cons_succ])
  refine take_d (i := 43) (v := ?_) (some 46) rfl (by kernel_rfl) (by kernel_rfl) (by kernel_rfl) (fun _ _ _ h => h) rfl (Or.inl ⟨by rfl, ?_⟩) ?_
  rotate_left
  · intro w; go_simp; (try with_reducible rfl)
  (try simp only [Act.put, List.setIfInBounds_toArray, List.set_cons_zero, List.set_cons_succ])
  refine take_d (i := 44) (v := ?_) (some 47) rfl (by kernel_rfl) (by kernel_rfl) (by kernel_rfl) (fun _ _ _ h => h) rfl (Or.inl ⟨by rfl, ?_⟩) ?_
  rotate_left
  · intro w; go_simp; (try with_reducible rfl)
  (try simp only [Act.put, List.setIfInBounds_toArray, List.set_cons_zero, List.set_cons_succ])
  refine take_d (i := 45) (v := ?_) (some 48) rfl (by kernel_rfl) (by kernel_rfl) (by kernel_rfl) (fun _ _ _ h => h) rfl (Or.inl ⟨by rfl, ?_⟩) ?_
  rotate_left
  · intro w; go_simp; (try with_reducible rfl)
  (try simp only [Act.put, List.setIfInBounds_toArray, List.set_cons_zero, List.set_cons_succ])
  refine take_d (i := 46) (v := ?_) (some 49) rfl (by kernel_rfl) (by kernel_rfl) (by kernel_rfl) (fun _ _ _ h => h) rfl (Or.inl ⟨by rfl, ?_⟩) ?_
  rotate_left
  · intro w; go_simp; (try with_reducible rfl)
  (try simp only [Act.put, List.setIfInBounds_toArray, List.set_cons_zero, List.set_cons_succ])
  refine take_d (i := 47) (v := ?_) (some 50) rfl (by kernel_rfl) (by kernel_rfl) (by kernel_rfl) (fun _ _ _ h => h) rfl (Or.inl ⟨by rfl, ?_⟩) ?_
  rotate_left
  · intro w; go_simp; (try with_reducible rfl)
  (try simp only [Act.put, List.setIfInBounds_toArray, List.set_cons_zero, List.set_cons_succ])
  refine wpAny_steps (CInv k W W2) [0, 1, 2, 3, 4, 5, 6, 7, 8, 9, 10, 11, 12, 13, 14, 15, 16, 17, 18, 19, 20, 21, 22, 23, 24, 25, 26, 27, 28, 29, 30, 31, 32, 33, 34, 35, 36, 37, 38, 39, 40, 41, 42, 43, 44, 45, 46, 47, 48, 49] (by kernel_rfl) (by kernel_rfl) (by kernel_rfl) (of_decide_eq_true (by kernel_rfl)) ?start ?steps ?fin
  case start =>
    refine ⟨of_decide_eq_true (by kernel_rfl), _, _, _, _, _, _, _, _, _, _, _, _, _, _, _, _, 0, 0, 0, 0, 0, rfl, fun _ => (Below.refl _ _).drew, BR.drew, ?_, ?_, ?_, ?_, ?_, ?_, ?_, ?_, ?_, ?_, ?_, ?_, ?_, ?_, ?_, ?_, ?_, ?_⟩
    all_goals (intro h; exact absurd h (of_decide_eq_true (by kernel_rfl)))
  case fin =>
    intro L a w hall hI
    obtain ⟨hP, t12, t15, t16, t21, t24, t25, t26, t29, t30, t31, t35, t36, t37, t41, t42, t51, b9, b18, b23, b28, b34, rfl, hB, hBW, h49, hS, h9, h12, h13, h18, h21, h22, h23, h26, h27, h28, h32, h33, h34, h38, h39, h48⟩ := hI
    have K49 := h49 (hall 49 (by decide))
    go_wp2
    exact bodyPost_ret (v := .agg #[.int .i64 (k % 16 * 1000), .int .i64 (k / 16 * 500), .int .i64 (sel3 3000 50000 900 (k % 3)), .int .i64 (k % 7 + 1), .int .i64 (sel4 20000 500000 4000 1048576 (k % 4)), .int .i64 (sel3 9 4000 60 (k % 3)), .int .i64 (sel3 1 20 300 (k / 3 % 3)), .int .i64 (268435456), .int .i64 (1000), .int .i64 (sel3 300 20000 3000 (k / 2 % 3)), .int .i64 (k % 4 * 2000), .int .u32 (1000 + k * 10)]) (results_cell_row rfl _ _ W.heap.size _ _ _ _ rfl K49 Tryd.underlying46 rfl (by kernel_rfl)) rfl ⟨rfl, hBW⟩
  case steps =>
    refine Steps.cons rfl (fun L a w K hK hL hp hI => ?_) ?_
    · exact absurd (hI.1 0 (by decide)) (by simp [hL])
    refine Steps.cons rfl (fun L a w K hK hL hp hI => ?_) ?_
    · exact absurd (hI.1 1 (by decide)) (by simp [hL])
    refine Steps.cons rfl (fun L a w K hK hL hp hI => ?_) ?_
    · exact absurd (hI.1 2 (by decide)) (by simp [hL])
    refine Steps.cons rfl (fun L a w K hK hL hp hI => ?_) ?_
    · exact absurd (hI.1 3 (by decide)) (by simp [hL])
    refine Steps.cons rfl (fun L a w K hK hL hp hI => ?_) ?_
    · exact absurd (hI.1 4 (by decide)) (by simp [hL])
    refine Steps.cons rfl (fun L a w K hK hL hp hI => ?_) ?_
    · exact absurd (hI.1 5 (by decide)) (by simp [hL])
    refine Steps.cons rfl (fun L a w K hK hL hp hI => ?_) ?_
    · exact absurd (hI.1 6 (by decide)) (by simp [hL])
    refine Steps.cons rfl (fun L a w K hK hL hp hI => ?_) ?_
    · exact absurd (hI.1 7 (by decide)) (by simp [hL])
    refine Steps.cons rfl (fun L a w K hK hL hp hI => ?_) ?_
    · exact absurd (hI.1 8 (by decide)) (by simp [hL])
    refine Steps.cons rfl (fun L a w K hK hL hp hI => ?_) ?_
    · obtain ⟨hP, t12, t15, t16, t21, t24, t25, t26, t29, t30, t31, t35, t36, t37, t41, t42, t51, b9, b18, b23, b28, b34, rfl, hB, hBW, h49, hS, h9, h12, h13, h18, h21, h22, h23, h26, h27, h28, h32, h33, h34, h38, h39, h48⟩ := hI
      have n49 : L 49 = false := by
        cases h : L 49 with
        | false => rfl
        | true => exact absurd (hS h 9 (by decide)) (by simp [hL])
      clear hp
      go_simp
      exact hK.out _ _ ⟨fun j hj => up_true (hP j hj), _, _, _, _, _, _, _, _, _, _, _, _, _, _, _, _, w.heap.size, b18, b23, b28, b34, rfl, fun a => bo (hB a) (nb _ _), bo hBW (nb _ _), fun a => (h49 a).alloc _, fun a j hj => up_true (hS a j hj), fun _ => ⟨rfl, fun _ => Blk.new _ _ _⟩, fun a => absurd (h12 a).2 (by simp [hL]), h13, fun a => ⟨(h18 a).1, fun b => ((h18 a).2 b).alloc _⟩, h21, h22, fun a => ⟨(h23 a).1, fun b => ((h23 a).2 b).alloc _⟩, h26, h27, fun a => ⟨(h28 a).1, fun b => ((h28 a).2 b).alloc _⟩, h32, h33, fun a => ⟨(h34 a).1, fun b => ((h34 a).2 b).alloc _⟩, h38, h39, h48⟩
    refine Steps.cons rfl (fun L a w K hK hL hp hI => ?_) ?_
    · exact absurd (hI.1 10 (by decide)) (by simp [hL])
    refine Steps.cons rfl (fun L a w K hK hL hp hI => ?_) ?_
    · exact absurd (hI.1 11 (by decide)) (by simp [hL])
    refine Steps.cons rfl (fun L a w K hK hL hp hI => ?_) ?_
    · obtain ⟨hP, t12, t15, t16, t21, t24, t25, t26, t29, t30, t31, t35, t36, t37, t41, t42, t51, b9, b18, b23, b28, b34, rfl, hB, hBW, h49, hS, h9, h12, h13, h18, h21, h22, h23, h26, h27, h28, h32, h33, h34, h38, h39, h48⟩ := hI
      have n49 : L 49 = false := by
        cases h : L 49 with
        | false => rfl
        | true => exact absurd (hS h 12 (by decide)) (by simp [hL])
      have p9 : L 9 = true := hp ⟨9, .data⟩ (by simp) rfl
      clear hp
      have e9 := (h9 p9).1
      subst e9
      go_simp
      exact hK.out _ _ ⟨fun j hj => up_true (hP j hj), _, _, _, _, _, _, _, _, _, _, _, _, _, _, _, _, b9, b18, b23, b28, b34, rfl, hB, hBW, h49, fun a j hj => up_true (hS a j hj), h9, fun _ => ⟨by first | rfl | simp, p9⟩, h13, h18, h21, h22, h23, h26, h27, h28, h32, h33, h34, h38, h39, h48⟩
    refine Steps.cons rfl (fun L a w K hK hL hp hI => ?_) ?_
    · obtain ⟨hP, t12, t15, t16, t21, t24, t25, t26, t29, t30, t31, t35, t36, t37, t41, t42, t51, b9, b18, b23, b28, b34, rfl, hB, hBW, h49, hS, h9, h12, h13, h18, h21, h22, h23, h26, h27, h28, h32, h33, h34, h38, h39, h48⟩ := hI
      have n49 : L 49 = false := by
        cases h : L 49 with
        | false => rfl
        | true => exact absurd (hS h 13 (by decide)) (by simp [hL])
      have p12 : L 12 = true := hp ⟨12, .data⟩ (by simp) rfl
      clear hp
      obtain ⟨e12, pb⟩ := h12 p12
      have u := blk3 ((h9 pb).2 n49) (i := k % 3) (by omega) (by omega)
      have eb := (h9 pb).1
      subst e12 eb
      go_simp
      exact hK.out _ _ ⟨fun j hj => up_true (hP j hj), _, _, _, _, _, _, _, _, _, _, _, _, _, _, _, _, b9, b18, b23, b28, b34, rfl, hB, hBW, h49, fun a j hj => up_true (hS a j hj), h9, h12, fun _ => rfl, h18, h21, h22, h23, h26, h27, h28, h32, h33, h34, h38, h39, h48⟩
    refine Steps.cons rfl (fun L a w K hK hL hp hI => ?_) ?_
    · exact absurd (hI.1 14 (by decide)) (by simp [hL])
    refine Steps.cons rfl (fun L a w K hK hL hp hI => ?_) ?_
    · exact absurd (hI.1 15 (by decide)) (by simp [hL])
    refine Steps.cons rfl (fun L a w K hK hL hp hI => ?_) ?_
    · exact absurd (hI.1 16 (by decide)) (by simp [hL])
    refine Steps.cons rfl (fun L a w K hK hL hp hI => ?_) ?_
    · exact absurd (hI.1 17 (by decide)) (by simp [hL])
    refine Steps.cons rfl (fun L a w K hK hL hp hI => ?_) ?_
    · obtain ⟨hP, t12, t15, t16, t21, t24, t25, t26, t29, t30, t31, t35, t36, t37, t41, t42, t51, b9, b18, b23, b28, b34, rfl, hB, hBW, h49, hS, h9, h12, h13, h18, h21, h22, h23, h26, h27, h28, h32, h33, h34, h38, h39, h48⟩ := hI
      have n49 : L 49 = false := by
        cases h : L 49 with
        | false => rfl
        | true => exact absurd (hS h 18 (by decide)) (by simp [hL])
      clear hp
      go_simp
      exact hK.out _ _ ⟨fun j hj => up_true (hP j hj), _, _, _, _, _, _, _, _, _, _, _, _, _, _, _, _, b9, w.heap.size, b23, b28, b34, rfl, fun a => bo (hB a) (nb _ _), bo hBW (nb _ _), fun a => (h49 a).alloc _, fun a j hj => up_true (hS a j hj), fun a => ⟨(h9 a).1, fun b => ((h9 a).2 b).alloc _⟩, h12, h13, fun _ => ⟨rfl, fun _ => Blk.new _ _ _⟩, fun a => absurd (h21 a).2 (by simp [hL]), h22, fun a => ⟨(h23 a).1, fun b => ((h23 a).2 b).alloc _⟩, h26, h27, fun a => ⟨(h28 a).1, fun b => ((h28 a).2 b).alloc _⟩, h32, h33, fun a => ⟨(h34 a).1, fun b => ((h34 a).2 b).alloc _⟩, h38, h39, h48⟩
    refine Steps.cons rfl (fun L a w K hK hL hp hI => ?_) ?_
    · exact absurd (hI.1 19 (by decide)) (by simp [hL])
    refine Steps.cons rfl (fun L a w K hK hL hp hI => ?_) ?_
    · exact absurd (hI.1 20 (by decide)) (by simp [hL])
    refine Steps.cons rfl (fun L a w K hK hL hp hI => ?_) ?_
    · obtain ⟨hP, t12, t15, t16, t21, t24, t25, t26, t29, t30, t31, t35, t36, t37, t41, t42, t51, b9, b18, b23, b28, b34, rfl, hB, hBW, h49, hS, h9, h12, h13, h18, h21, h22, h23, h26, h27, h28, h32, h33, h34, h38, h39, h48⟩ := hI
      have n49 : L 49 = false := by
        cases h : L 49 with
        | false => rfl
        | true => exact absurd (hS h 21 (by decide)) (by simp [hL])
      have p18 : L 18 = true := hp ⟨18, .data⟩ (by simp) rfl
      clear hp
      have e18 := (h18 p18).1
      subst e18
      go_simp
      exact hK.out _ _ ⟨fun j hj => up_true (hP j hj), _, _, _, _, _, _, _, _, _, _, _, _, _, _, _, _, b9, b18, b23, b28, b34, rfl, hB, hBW, h49, fun a j hj => up_true (hS a j hj), h9, h12, h13, h18, fun _ => ⟨by first | rfl | simp, p18⟩, h22, h23, h26, h27, h28, h32, h33, h34, h38, h39, h48⟩
    refine Steps.cons rfl (fun L a w K hK hL hp hI => ?_) ?_
    · obtain ⟨hP, t12, t15, t16, t21, t24, t25, t26, t29, t30, t31, t35, t36, t37, t41, t42, t51, b9, b18, b23, b28, b34, rfl, hB, hBW, h49, hS, h9, h12, h13, h18, h21, h22, h23, h26, h27, h28, h32, h33, h34, h38, h39, h48⟩ := hI
      have n49 : L 49 = false := by
        cases h : L 49 with
        | false => rfl
        | true => exact absurd (hS h 22 (by decide)) (by simp [hL])
      have p21 : L 21 = true := hp ⟨21, .data⟩ (by simp) rfl
      clear hp
      obtain ⟨e21, pb⟩ := h21 p21
      have u := blk4 ((h18 pb).2 n49) (i := k % 4) (by omega) (by omega)
      have eb := (h18 pb).1
      subst e21 eb
      go_simp
      exact hK.out _ _ ⟨fun j hj => up_true (hP j hj), _, _, _, _, _, _, _, _, _, _, _, _, _, _, _, _, b9, b18, b23, b28, b34, rfl, hB, hBW, h49, fun a j hj => up_true (hS a j hj), h9, h12, h13, h18, h21, fun _ => rfl, h23, h26, h27, h28, h32, h33, h34, h38, h39, h48⟩
    refine Steps.cons rfl (fun L a w K hK hL hp hI => ?_) ?_
    · obtain ⟨hP, t12, t15, t16, t21, t24, t25, t26, t29, t30, t31, t35, t36, t37, t41, t42, t51, b9, b18, b23, b28, b34, rfl, hB, hBW, h49, hS, h9, h12, h13, h18, h21, h22, h23, h26, h27, h28, h32, h33, h34, h38, h39, h48⟩ := hI
      have n49 : L 49 = false := by
        cases h : L 49 with
        | false => rfl
        | true => exact absurd (hS h 23 (by decide)) (by simp [hL])
      clear hp
      go_simp
      exact hK.out _ _ ⟨fun j hj => up_true (hP j hj), _, _, _, _, _, _, _, _, _, _, _, _, _, _, _, _, b9, b18, w.heap.size, b28, b34, rfl, fun a => bo (hB a) (nb _ _), bo hBW (nb _ _), fun a => (h49 a).alloc _, fun a j hj => up_true (hS a j hj), fun a => ⟨(h9 a).1, fun b => ((h9 a).2 b).alloc _⟩, h12, h13, fun a => ⟨(h18 a).1, fun b => ((h18 a).2 b).alloc _⟩, h21, h22, fun _ => ⟨rfl, fun _ => Blk.new _ _ _⟩, fun a => absurd (h26 a).2 (by simp [hL]), h27, fun a => ⟨(h28 a).1, fun b => ((h28 a).2 b).alloc _⟩, h32, h33, fun a => ⟨(h34 a).1, fun b => ((h34 a).2 b).alloc _⟩, h38, h39, h48⟩
    refine Steps.cons rfl (fun L a w K hK hL hp hI => ?_) ?_
    · exact absurd (hI.1 24 (by decide)) (by simp [hL])
    refine Steps.cons rfl (fun L a w K hK hL hp hI => ?_) ?_
    · exact absurd (hI.1 25 (by decide)) (by simp [hL])
    refine Steps.cons rfl (fun L a w K hK hL hp hI => ?_) ?_
    · obtain ⟨hP, t12, t15, t16, t21, t24, t25, t26, t29, t30, t31, t35, t36, t37, t41, t42, t51, b9, b18, b23, b28, b34, rfl, hB, hBW, h49, hS, h9, h12, h13, h18, h21, h22, h23, h26, h27, h28, h32, h33, h34, h38, h39, h48⟩ := hI
      have n49 : L 49 = false := by
        cases h : L 49 with
        | false => rfl
        | true => exact absurd (hS h 26 (by decide)) (by simp [hL])
      have p23 : L 23 = true := hp ⟨23, .data⟩ (by simp) rfl
      clear hp
      have e23 := (h23 p23).1
      subst e23
      go_simp
      exact hK.out _ _ ⟨fun j hj => up_true (hP j hj), _, _, _, _, _, _, _, _, _, _, _, _, _, _, _, _, b9, b18, b23, b28, b34, rfl, hB, hBW, h49, fun a j hj => up_true (hS a j hj), h9, h12, h13, h18, h21, h22, h23, fun _ => ⟨by first | rfl | simp, p23⟩, h27, h28, h32, h33, h34, h38, h39, h48⟩
    refine Steps.cons rfl (fun L a w K hK hL hp hI => ?_) ?_
    · obtain ⟨hP, t12, t15, t16, t21, t24, t25, t26, t29, t30, t31, t35, t36, t37, t41, t42, t51, b9, b18, b23, b28, b34, rfl, hB, hBW, h49, hS, h9, h12, h13, h18, h21, h22, h23, h26, h27, h28, h32, h33, h34, h38, h39, h48⟩ := hI
      have n49 : L 49 = false := by
        cases h : L 49 with
        | false => rfl
        | true => exact absurd (hS h 27 (by decide)) (by simp [hL])
      have p26 : L 26 = true := hp ⟨26, .data⟩ (by simp) rfl
      clear hp
      obtain ⟨e26, pb⟩ := h26 p26
      have u := blk3 ((h23 pb).2 n49) (i := k % 3) (by omega) (by omega)
      have eb := (h23 pb).1
      subst e26 eb
      go_simp
      exact hK.out _ _ ⟨fun j hj => up_true (hP j hj), _, _, _, _, _, _, _, _, _, _, _, _, _, _, _, _, b9, b18, b23, b28, b34, rfl, hB, hBW, h49, fun a j hj => up_true (hS a j hj), h9, h12, h13, h18, h21, h22, h23, h26, fun _ => rfl, h28, h32, h33, h34, h38, h39, h48⟩
    refine Steps.cons rfl (fun L a w K hK hL hp hI => ?_) ?_
    · obtain ⟨hP, t12, t15, t16, t21, t24, t25, t26, t29, t30, t31, t35, t36, t37, t41, t42, t51, b9, b18, b23, b28, b34, rfl, hB, hBW, h49, hS, h9, h12, h13, h18, h21, h22, h23, h26, h27, h28, h32, h33, h34, h38, h39, h48⟩ := hI
      have n49 : L 49 = false := by
        cases h : L 49 with
        | false => rfl
        | true => exact absurd (hS h 28 (by decide)) (by simp [hL])
      clear hp
      go_simp
      exact hK.out _ _ ⟨fun j hj => up_true (hP j hj), _, _, _, _, _, _, _, _, _, _, _, _, _, _, _, _, b9, b18, b23, w.heap.size, b34, rfl, fun a => bo (hB a) (nb _ _), bo hBW (nb _ _), fun a => (h49 a).alloc _, fun a j hj => up_true (hS a j hj), fun a => ⟨(h9 a).1, fun b => ((h9 a).2 b).alloc _⟩, h12, h13, fun a => ⟨(h18 a).1, fun b => ((h18 a).2 b).alloc _⟩, h21, h22, fun a => ⟨(h23 a).1, fun b => ((h23 a).2 b).alloc _⟩, h26, h27, fun _ => ⟨rfl, fun _ => Blk.new _ _ _⟩, fun a => absurd (h32 a).2 (by simp [hL]), h33, fun a => ⟨(h34 a).1, fun b => ((h34 a).2 b).alloc _⟩, h38, h39, h48⟩
    refine Steps.cons rfl (fun L a w K hK hL hp hI => ?_) ?_
    · exact absurd (hI.1 29 (by decide)) (by simp [hL])
    refine Steps.cons rfl (fun L a w K hK hL hp hI => ?_) ?_
    · exact absurd (hI.1 30 (by decide)) (by simp [hL])
    refine Steps.cons rfl (fun L a w K hK hL hp hI => ?_) ?_
    · exact absurd (hI.1 31 (by decide)) (by simp [hL])
    refine Steps.cons rfl (fun L a w K hK hL hp hI => ?_) ?_
    · obtain ⟨hP, t12, t15, t16, t21, t24, t25, t26, t29, t30, t31, t35, t36, t37, t41, t42, t51, b9, b18, b23, b28, b34, rfl, hB, hBW, h49, hS, h9, h12, h13, h18, h21, h22, h23, h26, h27, h28, h32, h33, h34, h38, h39, h48⟩ := hI
      have n49 : L 49 = false := by
        cases h : L 49 with
        | false => rfl
        | true => exact absurd (hS h 32 (by decide)) (by simp [hL])
      have p28 : L 28 = true := hp ⟨28, .data⟩ (by simp) rfl
      clear hp
      have e28 := (h28 p28).1
      subst e28
      go_simp
      exact hK.out _ _ ⟨fun j hj => up_true (hP j hj), _, _, _, _, _, _, _, _, _, _, _, _, _, _, _, _, b9, b18, b23, b28, b34, rfl, hB, hBW, h49, fun a j hj => up_true (hS a j hj), h9, h12, h13, h18, h21, h22, h23, h26, h27, h28, fun _ => ⟨by first | rfl | simp, p28⟩, h33, h34, h38, h39, h48⟩
    refine Steps.cons rfl (fun L a w K hK hL hp hI => ?_) ?_
    · obtain ⟨hP, t12, t15, t16, t21, t24, t25, t26, t29, t30, t31, t35, t36, t37, t41, t42, t51, b9, b18, b23, b28, b34, rfl, hB, hBW, h49, hS, h9, h12, h13, h18, h21, h22, h23, h26, h27, h28, h32, h33, h34, h38, h39, h48⟩ := hI
      have n49 : L 49 = false := by
        cases h : L 49 with
        | false => rfl
        | true => exact absurd (hS h 33 (by decide)) (by simp [hL])
      have p32 : L 32 = true := hp ⟨32, .data⟩ (by simp) rfl
      clear hp
      obtain ⟨e32, pb⟩ := h32 p32
      have u := blk3 ((h28 pb).2 n49) (i := k / 3 % 3) (by omega) (by omega)
      have eb := (h28 pb).1
      subst e32 eb
      go_simp
      exact hK.out _ _ ⟨fun j hj => up_true (hP j hj), _, _, _, _, _, _, _, _, _, _, _, _, _, _, _, _, b9, b18, b23, b28, b34, rfl, hB, hBW, h49, fun a j hj => up_true (hS a j hj), h9, h12, h13, h18, h21, h22, h23, h26, h27, h28, h32, fun _ => rfl, h34, h38, h39, h48⟩
    refine Steps.cons rfl (fun L a w K hK hL hp hI => ?_) ?_
    · obtain ⟨hP, t12, t15, t16, t21, t24, t25, t26, t29, t30, t31, t35, t36, t37, t41, t42, t51, b9, b18, b23, b28, b34, rfl, hB, hBW, h49, hS, h9, h12, h13, h18, h21, h22, h23, h26, h27, h28, h32, h33, h34, h38, h39, h48⟩ := hI
      have n49 : L 49 = false := by
        cases h : L 49 with
        | false => rfl
        | true => exact absurd (hS h 34 (by decide)) (by simp [hL])
      clear hp
      go_simp
      exact hK.out _ _ ⟨fun j hj => up_true (hP j hj), _, _, _, _, _, _, _, _, _, _, _, _, _, _, _, _, b9, b18, b23, b28, w.heap.size, rfl, fun a => bo (hB a) (nb _ _), bo hBW (nb _ _), fun a => (h49 a).alloc _, fun a j hj => up_true (hS a j hj), fun a => ⟨(h9 a).1, fun b => ((h9 a).2 b).alloc _⟩, h12, h13, fun a => ⟨(h18 a).1, fun b => ((h18 a).2 b).alloc _⟩, h21, h22, fun a => ⟨(h23 a).1, fun b => ((h23 a).2 b).alloc _⟩, h26, h27, fun a => ⟨(h28 a).1, fun b => ((h28 a).2 b).alloc _⟩, h32, h33, fun _ => ⟨rfl, fun _ => Blk.new _ _ _⟩, fun a => absurd (h38 a).2 (by simp [hL]), h39, h48⟩
    refine Steps.cons rfl (fun L a w K hK hL hp hI => ?_) ?_
    · exact absurd (hI.1 35 (by decide)) (by simp [hL])
    refine Steps.cons rfl (fun L a w K hK hL hp hI => ?_) ?_
    · exact absurd (hI.1 36 (by decide)) (by simp [hL])
    refine Steps.cons rfl (fun L a w K hK hL hp hI => ?_) ?_
    · exact absurd (hI.1 37 (by decide)) (by simp [hL])
    refine Steps.cons rfl (fun L a w K hK hL hp hI => ?_) ?_
    · obtain ⟨hP, t12, t15, t16, t21, t24, t25, t26, t29, t30, t31, t35, t36, t37, t41, t42, t51, b9, b18, b23, b28, b34, rfl, hB, hBW, h49, hS, h9, h12, h13, h18, h21, h22, h23, h26, h27, h28, h32, h33, h34, h38, h39, h48⟩ := hI
      have n49 : L 49 = false := by
        cases h : L 49 with
        | false => rfl
        | true => exact absurd (hS h 38 (by decide)) (by simp [hL])
      have p34 : L 34 = true := hp ⟨34, .data⟩ (by simp) rfl
      clear hp
      have e34 := (h34 p34).1
      subst e34
      go_simp
      exact hK.out _ _ ⟨fun j hj => up_true (hP j hj), _, _, _, _, _, _, _, _, _, _, _, _, _, _, _, _, b9, b18, b23, b28, b34, rfl, hB, hBW, h49, fun a j hj => up_true (hS a j hj), h9, h12, h13, h18, h21, h22, h23, h26, h27, h28, h32, h33, h34, fun _ => ⟨by first | rfl | simp, p34⟩, h39, h48⟩
    refine Steps.cons rfl (fun L a w K hK hL hp hI => ?_) ?_
    · obtain ⟨hP, t12, t15, t16, t21, t24, t25, t26, t29, t30, t31, t35, t36, t37, t41, t42, t51, b9, b18, b23, b28, b34, rfl, hB, hBW, h49, hS, h9, h12, h13, h18, h21, h22, h23, h26, h27, h28, h32, h33, h34, h38, h39, h48⟩ := hI
      have n49 : L 49 = false := by
        cases h : L 49 with
        | false => rfl
        | true => exact absurd (hS h 39 (by decide)) (by simp [hL])
      have p38 : L 38 = true := hp ⟨38, .data⟩ (by simp) rfl
      clear hp
      obtain ⟨e38, pb⟩ := h38 p38
      have u := blk3 ((h34 pb).2 n49) (i := k / 2 % 3) (by omega) (by omega)
      have eb := (h34 pb).1
      subst e38 eb
      go_simp
      exact hK.out _ _ ⟨fun j hj => up_true (hP j hj), _, _, _, _, _, _, _, _, _, _, _, _, _, _, _, _, b9, b18, b23, b28, b34, rfl, hB, hBW, h49, fun a j hj => up_true (hS a j hj), h9, h12, h13, h18, h21, h22, h23, h26, h27, h28, h32, h33, h34, h38, fun _ => rfl, h48⟩
    refine Steps.cons rfl (fun L a w K hK hL hp hI => ?_) ?_
    · exact absurd (hI.1 40 (by decide)) (by simp [hL])
    refine Steps.cons rfl (fun L a w K hK hL hp hI => ?_) ?_
    · exact absurd (hI.1 41 (by decide)) (by simp [hL])
    refine Steps.cons rfl (fun L a w K hK hL hp hI => ?_) ?_
    · exact absurd (hI.1 42 (by decide)) (by simp [hL])
    refine Steps.cons rfl (fun L a w K hK hL hp hI => ?_) ?_
    · exact absurd (hI.1 43 (by decide)) (by simp [hL])
    refine Steps.cons rfl (fun L a w K hK hL hp hI => ?_) ?_
    · exact absurd (hI.1 44 (by decide)) (by simp [hL])
    refine Steps.cons rfl (fun L a w K hK hL hp hI => ?_) ?_
    · exact absurd (hI.1 45 (by decide)) (by simp [hL])
    refine Steps.cons rfl (fun L a w K hK hL hp hI => ?_) ?_
    · exact absurd (hI.1 46 (by decide)) (by simp [hL])
    refine Steps.cons rfl (fun L a w K hK hL hp hI => ?_) ?_
    · exact absurd (hI.1 47 (by decide)) (by simp [hL])
    refine Steps.cons rfl (fun L a w K hK hL hp hI => ?_) ?_
    · obtain ⟨hP, t12, t15, t16, t21, t24, t25, t26, t29, t30, t31, t35, t36, t37, t41, t42, t51, b9, b18, b23, b28, b34, rfl, hB, hBW, h49, hS, h9, h12, h13, h18, h21, h22, h23, h26, h27, h28, h32, h33, h34, h38, h39, h48⟩ := hI
      have n49 : L 49 = false := by
        cases h : L 49 with
        | false => rfl
        | true => exact absurd (hS h 48 (by decide)) (by simp [hL])
      have p13 : L 13 = true := hp ⟨13, .data⟩ (by simp) rfl
      have p22 : L 22 = true := hp ⟨22, .data⟩ (by simp) rfl
      have p27 : L 27 = true := hp ⟨27, .data⟩ (by simp) rfl
      have p33 : L 33 = true := hp ⟨33, .data⟩ (by simp) rfl
      have p39 : L 39 = true := hp ⟨39, .data⟩ (by simp) rfl
      clear hp
      have e13 := h13 p13
      have e22 := h22 p22
      have e27 := h27 p27
      have e33 := h33 p33
      have e39 := h39 p39
      subst e13 e22 e27 e33 e39
      go_simp
      exact hK.out _ _ ⟨fun j hj => up_true (hP j hj), _, _, _, _, _, _, _, _, _, _, _, _, _, _, _, _, b9, b18, b23, b28, b34, rfl, hB, hBW, h49, fun a j hj => up_true (hS a j hj), h9, h12, h13, h18, h21, h22, h23, h26, h27, h28, h32, h33, h34, h38, h39, fun _ => rfl⟩
    refine Steps.cons rfl (fun L a w K hK hL hp hI => ?_) ?_
    · obtain ⟨hP, t12, t15, t16, t21, t24, t25, t26, t29, t30, t31, t35, t36, t37, t41, t42, t51, b9, b18, b23, b28, b34, rfl, hB, hBW, h49, hS, h9, h12, h13, h18, h21, h22, h23, h26, h27, h28, h32, h33, h34, h38, h39, h48⟩ := hI
      have p48 : L 48 = true := hp ⟨48, .data⟩ (by simp) rfl
      have pa : ∀ j ∈ [9, 12, 13, 18, 21, 22, 23, 26, 27, 28, 32, 33, 34, 38, 39, 48], L j = true := by
        intro j hj
        simp only [List.mem_cons, List.not_mem_nil, or_false] at hj
        rcases hj with rfl | rfl | rfl | rfl | rfl | rfl | rfl | rfl | rfl | rfl | rfl | rfl | rfl | rfl | rfl | rfl
        · exact hp ⟨9, .phase⟩ (by simp) rfl
        · exact hp ⟨12, .phase⟩ (by simp) rfl
        · exact hp ⟨13, .phase⟩ (by simp) rfl
        · exact hp ⟨18, .phase⟩ (by simp) rfl
        · exact hp ⟨21, .phase⟩ (by simp) rfl
        · exact hp ⟨22, .phase⟩ (by simp) rfl
        · exact hp ⟨23, .phase⟩ (by simp) rfl
        · exact hp ⟨26, .phase⟩ (by simp) rfl
        · exact hp ⟨27, .phase⟩ (by simp) rfl
        · exact hp ⟨28, .phase⟩ (by simp) rfl
        · exact hp ⟨32, .phase⟩ (by simp) rfl
        · exact hp ⟨33, .phase⟩ (by simp) rfl
        · exact hp ⟨34, .phase⟩ (by simp) rfl
        · exact hp ⟨38, .phase⟩ (by simp) rfl
        · exact hp ⟨39, .phase⟩ (by simp) rfl
        · exact hp ⟨48, .phase⟩ (by simp) rfl
      have PA := Lib.hid pa
      clear hp pa
      have e48 := h48 p48
      subst e48
      have KR' := KR.keep (hB hL)
      have u0 := KR'.cell 0
      have f0 := KR'.free 0
      have u1 := KR'.cell 1
      have f1 := KR'.free 1
      have u2 := KR'.cell 2
      have f2 := KR'.free 2
      have u3 := KR'.cell 3
      have f3 := KR'.free 3
      have u4 := KR'.cell 4
      have f4 := KR'.free 4
      have u5 := KR'.cell 5
      have f5 := KR'.free 5
      have u6 := KR'.cell 6
      have f6 := KR'.free 6
      have u7 := KR'.cell 7
      have f7 := KR'.free 7
      have u8 := KR'.cell 8
      have f8 := KR'.free 8
      have u9 := KR'.cell 9
      have f9 := KR'.free 9
      have u10 := KR'.cell 10
      have f10 := KR'.free 10
      have u11 := KR'.cell 11
      have f11 := KR'.free 11
      simp at u0 u1 u2 u3 u4 u5 u6 u7 u8 u9 u10 u11
      go_simp
      exact hK.out _ _ ⟨fun j hj => up_true (hP j hj), _, _, _, _, _, _, _, _, _, _, _, _, _, _, _, _, b9, b18, b23, b28, b34, rfl, fun a => absurd a (by simp [YInv.up]), below12 hBW (Nat.le_refl _), fun _ => set12 KR', fun _ j hj => up_true (PA.out j hj), fun a => ⟨(h9 a).1, fun b => absurd b (by simp [YInv.up])⟩, h12, h13, fun a => ⟨(h18 a).1, fun b => absurd b (by simp [YInv.up])⟩, h21, h22, fun a => ⟨(h23 a).1, fun b => absurd b (by simp [YInv.up])⟩, h26, h27, fun a => ⟨(h28 a).1, fun b => absurd b (by simp [YInv.up])⟩, h32, h33, fun a => ⟨(h34 a).1, fun b => absurd b (by simp [YInv.up])⟩, h38, h39, h48⟩
    exact Steps.nil
end Go.Proofs.YtbfflffekdadnaaDoor.YSeat
