/- Lean functions, contracts and lemmas that this claim needs. No condition. -/
import Derived.Test.YtfcandmhalhaeaaDoorAYWideW6
import Derived.Deep.MidRow
import Derived.Laws.Cover3
namespace Go.Proofs.YtfcandmhalhaeaaDoor.YWide
open Go.RowKit Go.Proofs.YtfcandmhalhaeaaDoor.YInv Go.Proofs.YtfcandmhalhaeaaDoor.YErr Go.Proofs.YtfcandmhalhaeaaDoor.YRef Go.Proofs.YtfcandmhalhaeaaDoor.YNum Go.Proofs.YtfcandmhalhaeaaDoor.YBits Go.Proofs.YtfcandmhalhaeaaDoor.XCarry Go.Proofs.YtfcandmhalhaeaaDoor.QSy Go.Proofs.YtfcandmhalhaeaaDoorW.PrintWords Go.Proofs.YtfcandmhalhaeaaDoorW.PrintLast
set_option linter.unusedVariables false
set_option linter.unusedSimpArgs false
theorem count_b {w : World} {b : Nat} {x : Int} (k : Blk w b (U (lim x)) 79) (h0 : 0 ≤ x) (h1 : x < 18446744073709551616 ^ 16) :
    Calls Tryd.prog 72 #[.slice (some ⟨b, 0, none⟩) 16 16] w fun e w' => e = .returned (.int .i64 ((limbs x).length : Int)) ∧ Below w.heap.size w w' :=
  (count_c k h0 h1).mono fun e w' ⟨he, n, hw⟩ => ⟨he, by subst hw; exact below_drewN (Below.refl _ _) n⟩
theorem mid_ {w : World} {b : Nat} {l : List Int} {T : TypeId} (k : Blk w b (U l) T) (h : 16 ≤ l.length) : w.rangeAt b 0 (U (l.take 16)).toList := by
  intro j v hj
  have hj : ((l.take 16).map (Value.int .u64))[j]? = some v := by simpa [U] using hj
  rw [Nat.zero_add, k.cell]
  unfold U
  rw [List.getElem?_map, List.getElem?_take] at hj
  split at hj
  · rw [List.getElem?_toArray, List.getElem?_map]; exact hj
  · cases hj
theorem nT {l : List Int} (h : 16 ≤ l.length) : (Tryd.prog.info? 79).map (·.size) = some (U (l.take 16)).toList.length := by
  rw [Array.length_toList, U_size, List.length_take, Nat.min_eq_left h]; exact info_w
def zeros17 : List Int := List.replicate 17 0
/-- A product's step. -/
theorem prod_step {a b o c : Int} (a0 : 0 ≤ a) (a1 : a < 18446744073709551616) (b0 : 0 ≤ b) (b1 : b < 18446744073709551616) (o0 : 0 ≤ o) (o1 : o < 18446744073709551616) (c0 : 0 ≤ c) (c1 : c < 18446744073709551616) :
    ((a * b % 18446744073709551616 + o + 0) % 18446744073709551616 + c + 0) % 18446744073709551616 = (a * b + o + c) % 18446744073709551616 ∧
    ((a * b / 18446744073709551616 + (a * b % 18446744073709551616 + o + 0) / 18446744073709551616) % 18446744073709551616 + ((a * b % 18446744073709551616 + o + 0) % 18446744073709551616 + c + 0) / 18446744073709551616) % 18446744073709551616 = (a * b + o + c) / 18446744073709551616 := by
  have p0 : 0 ≤ a * b := Int.mul_nonneg a0 b0
  have p1 : a * b ≤ 18446744073709551615 * 18446744073709551615 := Int.mul_le_mul (by omega) (by omega) b0 (by decide)
  generalize a * b = p at *
  omega
theorem prod_val {t : List Int} {a V P : Int} {i k : Nat} {c : Int} {b : Int} (hl : i + k < t.length) (h : val t + c * 18446744073709551616 ^ (i + k) = V + a * P * 18446744073709551616 ^ i) :
    val (t.set (i + k) ((a * b + dg t (i + k) + c) % 18446744073709551616)) + (a * b + dg t (i + k) + c) / 18446744073709551616 * 18446744073709551616 ^ (i + (k + 1)) = V + a * (P + b * 18446744073709551616 ^ k) * 18446744073709551616 ^ i := by
  rw [val_set _ _ _ hl, show i + (k + 1) = (i + k) + 1 by omega, pw_succ, Int.sub_mul]
  have e := mulstep (p := 18446744073709551616 ^ (i + k)) (show (a * b + dg t (i + k) + c) % 18446744073709551616 + 18446744073709551616 * ((a * b + dg t (i + k) + c) / 18446744073709551616) = (a * b + dg t (i + k)) + c by omega)
  have f : a * (P + b * 18446744073709551616 ^ k) * 18446744073709551616 ^ i = a * P * 18446744073709551616 ^ i + a * b * 18446744073709551616 ^ (i + k) := by
    rw [Int.mul_add, Int.add_mul, Int.pow_add]
    congr 1
    rw [Int.mul_assoc, Int.mul_assoc, Int.mul_assoc, Int.mul_comm (18446744073709551616 ^ k)]
  rw [f]
  rw [Int.add_mul] at e
  omega
theorem ex_118 {C : Prop} {R : Value → Value → Value → Value → Value → Value → Value → Value → Value → Value → Value → Value → Value → Value → Value → Value → Value → Value → Value → Value → Value → Value → Value → Value → Value → Value → Value → Value → Value → Value → Value → Value → Value → Value → Value → Value → Value → Value → Value → Value → Value → Value → Value → Value → Value → Value → Value → Value → Value → Value → Value → Value → Value → Value → Value → Value → Value → Value → Value → Value → Value → Value → Value → Value → Value → Value → Value → Value → Value → Value → Value → Value → Value → Value → Value → Value → Value → Value → Value → Value → Value → Value → Value → Value → Value → Value → Value → Value → Value → Value → Value → Value → Value → Value → Value → Value → Value → Value → Value → Value → Value → Value → Value → Value → Value → Value → Value → Value → Value → Value → Value → Value → Value → Value → Value → Value → Value → Value → Prop} (h : ∃ x0 x1 x2 x3 x4 x5 x6 x7 x8 x9 x10 x11 x12 x13 x14 x15 x16 x17 x18 x19 x20 x21 x22 x23 x24 x25 x26 x27 x28 x29 x30 x31 x32 x33 x34 x35 x36 x37 x38 x39 x40 x41 x42 x43 x44 x45 x46 x47 x48 x49 x50 x51 x52 x53 x54 x55 x56 x57 x58 x59 x60 x61 x62 x63 x64 x65 x66 x67 x68 x69 x70 x71 x72 x73 x74 x75 x76 x77 x78 x79 x80 x81 x82 x83 x84 x85 x86 x87 x88 x89 x90 x91 x92 x93 x94 x95 x96 x97 x98 x99 x100 x101 x102 x103 x104 x105 x106 x107 x108 x109 x110 x111 x112 x113 x114 x115 x116 x117, R x0 x1 x2 x3 x4 x5 x6 x7 x8 x9 x10 x11 x12 x13 x14 x15 x16 x17 x18 x19 x20 x21 x22 x23 x24 x25 x26 x27 x28 x29 x30 x31 x32 x33 x34 x35 x36 x37 x38 x39 x40 x41 x42 x43 x44 x45 x46 x47 x48 x49 x50 x51 x52 x53 x54 x55 x56 x57 x58 x59 x60 x61 x62 x63 x64 x65 x66 x67 x68 x69 x70 x71 x72 x73 x74 x75 x76 x77 x78 x79 x80 x81 x82 x83 x84 x85 x86 x87 x88 x89 x90 x91 x92 x93 x94 x95 x96 x97 x98 x99 x100 x101 x102 x103 x104 x105 x106 x107 x108 x109 x110 x111 x112 x113 x114 x115 x116 x117) (k : ∀ x0 x1 x2 x3 x4 x5 x6 x7 x8 x9 x10 x11 x12 x13 x14 x15 x16 x17 x18 x19 x20 x21 x22 x23 x24 x25 x26 x27 x28 x29 x30 x31 x32 x33 x34 x35 x36 x37 x38 x39 x40 x41 x42 x43 x44 x45 x46 x47 x48 x49 x50 x51 x52 x53 x54 x55 x56 x57 x58 x59 x60 x61 x62 x63 x64 x65 x66 x67 x68 x69 x70 x71 x72 x73 x74 x75 x76 x77 x78 x79 x80 x81 x82 x83 x84 x85 x86 x87 x88 x89 x90 x91 x92 x93 x94 x95 x96 x97 x98 x99 x100 x101 x102 x103 x104 x105 x106 x107 x108 x109 x110 x111 x112 x113 x114 x115 x116 x117, R x0 x1 x2 x3 x4 x5 x6 x7 x8 x9 x10 x11 x12 x13 x14 x15 x16 x17 x18 x19 x20 x21 x22 x23 x24 x25 x26 x27 x28 x29 x30 x31 x32 x33 x34 x35 x36 x37 x38 x39 x40 x41 x42 x43 x44 x45 x46 x47 x48 x49 x50 x51 x52 x53 x54 x55 x56 x57 x58 x59 x60 x61 x62 x63 x64 x65 x66 x67 x68 x69 x70 x71 x72 x73 x74 x75 x76 x77 x78 x79 x80 x81 x82 x83 x84 x85 x86 x87 x88 x89 x90 x91 x92 x93 x94 x95 x96 x97 x98 x99 x100 x101 x102 x103 x104 x105 x106 x107 x108 x109 x110 x111 x112 x113 x114 x115 x116 x117 → C) : C := by
  obtain ⟨x0, h⟩ := h
  obtain ⟨x1, h⟩ := h
  obtain ⟨x2, h⟩ := h
  obtain ⟨x3, h⟩ := h
  obtain ⟨x4, h⟩ := h
  obtain ⟨x5, h⟩ := h
  obtain ⟨x6, h⟩ := h
  obtain ⟨x7, h⟩ := h
  obtain ⟨x8, h⟩ := h
  obtain ⟨x9, h⟩ := h
  obtain ⟨x10, h⟩ := h
  obtain ⟨x11, h⟩ := h
  obtain ⟨x12, h⟩ := h
  obtain ⟨x13, h⟩ := h
  obtain ⟨x14, h⟩ := h
  obtain ⟨x15, h⟩ := h
  obtain ⟨x16, h⟩ := h
  obtain ⟨x17, h⟩ := h
  obtain ⟨x18, h⟩ := h
  obtain ⟨x19, h⟩ := h
  obtain ⟨x20, h⟩ := h
  obtain ⟨x21, h⟩ := h
  obtain ⟨x22, h⟩ := h
  obtain ⟨x23, h⟩ := h
  obtain ⟨x24, h⟩ := h
  obtain ⟨x25, h⟩ := h
  obtain ⟨x26, h⟩ := h
  obtain ⟨x27, h⟩ := h
  obtain ⟨x28, h⟩ := h
  obtain ⟨x29, h⟩ := h
  obtain ⟨x30, h⟩ := h
  obtain ⟨x31, h⟩ := h
  obtain ⟨x32, h⟩ := h
  obtain ⟨x33, h⟩ := h
  obtain ⟨x34, h⟩ := h
  obtain ⟨x35, h⟩ := h
  obtain ⟨x36, h⟩ := h
  obtain ⟨x37, h⟩ := h
  obtain ⟨x38, h⟩ := h
  obtain ⟨x39, h⟩ := h
  obtain ⟨x40, h⟩ := h
  obtain ⟨x41, h⟩ := h
  obtain ⟨x42, h⟩ := h
  obtain ⟨x43, h⟩ := h
  obtain ⟨x44, h⟩ := h
  obtain ⟨x45, h⟩ := h
  obtain ⟨x46, h⟩ := h
  obtain ⟨x47, h⟩ := h
  obtain ⟨x48, h⟩ := h
  obtain ⟨x49, h⟩ := h
  obtain ⟨x50, h⟩ := h
  obtain ⟨x51, h⟩ := h
  obtain ⟨x52, h⟩ := h
  obtain ⟨x53, h⟩ := h
  obtain ⟨x54, h⟩ := h
  obtain ⟨x55, h⟩ := h
  obtain ⟨x56, h⟩ := h
  obtain ⟨x57, h⟩ := h
  obtain ⟨x58, h⟩ := h
  obtain ⟨x59, h⟩ := h
  obtain ⟨x60, h⟩ := h
  obtain ⟨x61, h⟩ := h
  obtain ⟨x62, h⟩ := h
  obtain ⟨x63, h⟩ := h
  obtain ⟨x64, h⟩ := h
  obtain ⟨x65, h⟩ := h
  obtain ⟨x66, h⟩ := h
  obtain ⟨x67, h⟩ := h
  obtain ⟨x68, h⟩ := h
  obtain ⟨x69, h⟩ := h
  obtain ⟨x70, h⟩ := h
  obtain ⟨x71, h⟩ := h
  obtain ⟨x72, h⟩ := h
  obtain ⟨x73, h⟩ := h
  obtain ⟨x74, h⟩ := h
  obtain ⟨x75, h⟩ := h
  obtain ⟨x76, h⟩ := h
  obtain ⟨x77, h⟩ := h
  obtain ⟨x78, h⟩ := h
  obtain ⟨x79, h⟩ := h
  obtain ⟨x80, h⟩ := h
  obtain ⟨x81, h⟩ := h
  obtain ⟨x82, h⟩ := h
  obtain ⟨x83, h⟩ := h
  obtain ⟨x84, h⟩ := h
  obtain ⟨x85, h⟩ := h
  obtain ⟨x86, h⟩ := h
  obtain ⟨x87, h⟩ := h
  obtain ⟨x88, h⟩ := h
  obtain ⟨x89, h⟩ := h
  obtain ⟨x90, h⟩ := h
  obtain ⟨x91, h⟩ := h
  obtain ⟨x92, h⟩ := h
  obtain ⟨x93, h⟩ := h
  obtain ⟨x94, h⟩ := h
  obtain ⟨x95, h⟩ := h
  obtain ⟨x96, h⟩ := h
  obtain ⟨x97, h⟩ := h
  obtain ⟨x98, h⟩ := h
  obtain ⟨x99, h⟩ := h
  obtain ⟨x100, h⟩ := h
  obtain ⟨x101, h⟩ := h
  obtain ⟨x102, h⟩ := h
  obtain ⟨x103, h⟩ := h
  obtain ⟨x104, h⟩ := h
  obtain ⟨x105, h⟩ := h
  obtain ⟨x106, h⟩ := h
  obtain ⟨x107, h⟩ := h
  obtain ⟨x108, h⟩ := h
  obtain ⟨x109, h⟩ := h
  obtain ⟨x110, h⟩ := h
  obtain ⟨x111, h⟩ := h
  obtain ⟨x112, h⟩ := h
  obtain ⟨x113, h⟩ := h
  obtain ⟨x114, h⟩ := h
  obtain ⟨x115, h⟩ := h
  obtain ⟨x116, h⟩ := h
  obtain ⟨x117, h⟩ := h
  exact k x0 x1 x2 x3 x4 x5 x6 x7 x8 x9 x10 x11 x12 x13 x14 x15 x16 x17 x18 x19 x20 x21 x22 x23 x24 x25 x26 x27 x28 x29 x30 x31 x32 x33 x34 x35 x36 x37 x38 x39 x40 x41 x42 x43 x44 x45 x46 x47 x48 x49 x50 x51 x52 x53 x54 x55 x56 x57 x58 x59 x60 x61 x62 x63 x64 x65 x66 x67 x68 x69 x70 x71 x72 x73 x74 x75 x76 x77 x78 x79 x80 x81 x82 x83 x84 x85 x86 x87 x88 x89 x90 x91 x92 x93 x94 x95 x96 x97 x98 x99 x100 x101 x102 x103 x104 x105 x106 x107 x108 x109 x110 x111 x112 x113 x114 x115 x116 x117 h
set_option maxRecDepth 100000 in
set_option maxHeartbeats 32000000 in
theorem Mul_w {x y : Int} (hx : InW x) (hy : InW y) (w : World) : Calls Tryd.prog 52 #[.agg (U (lim x)), .agg (U (lim y))] w fun e w' => e = .returned (.tuple #[.agg (U (lim (cl (x * y)))), .bool (decide (InW (x * y)))]) ∧ Below w.heap.size w w' := by
  generalize hr : lim (cl (x * y)) = r
  generalize hok : decide (InW (x * y)) = ok
  have HR := Lib.hid (And.intro hr hok)
  clear hr hok
  have la := lim_len x
  have lb := lim_len y
  have lc := lim_len (ab x)
  have ld := lim_len (ab y)
  have hX0 : 0 ≤ ab x := by unfold ab; split <;> omega
  have hX1 : ab x < 18446744073709551616 ^ 16 := by unfold InW at hx; unfold ab; split <;> omega
  have hY0 : 0 ≤ ab y := by unfold ab; split <;> omega
  have hY1 : ab y < 18446744073709551616 ^ 16 := by unfold InW at hy; unfold ab; split <;> omega
  have AX := fun W => amount_c hx W
  have AY := fun W => amount_c hy W
  obtain ⟨k0, k1, k2, b0⟩ := start3 w (lim x) (lim y) _ rfl
  go_enter Tryd.func52, Tryd.ntmps52
  go_wp2_with fail
  have N0 := k0.lt
  have N1 := k1.lt
  have N2 := k2.lt
  have ex : (((w.alloc (.cells (U (lim x)) 79)).alloc (.cells (U (lim y)) 79)).alloc (.cells #[.int .u64 0, .int .u64 0, .int .u64 0, .int .u64 0, .int .u64 0, .int .u64 0, .int .u64 0, .int .u64 0, .int .u64 0, .int .u64 0, .int .u64 0, .int .u64 0, .int .u64 0, .int .u64 0, .int .u64 0, .int .u64 0] 79)) = (((w.alloc (.cells (U (lim x)) 79)).alloc (.cells (U (lim y)) 79)).alloc (.cells (U zeros) 79)) := rfl
  rw [ex]
  clear ex
  generalize (((w.alloc (.cells (U (lim x)) 79)).alloc (.cells (U (lim y)) 79)).alloc (.cells (U zeros) 79)) = w1 at *
  refine region_steps (fun L a wx => ∃ (x0 x1 x2 x3 x4 x5 x6 x7 x8 x9 x10 x11 x12 x13 x14 x15 x16 x17 x18 x19 x20 x21 x22 x23 x24 x25 x26 x27 x28 x29 x30 x31 x32 x33 x34 x35 x36 x37 x38 x39 x40 x41 x42 x43 x44 x45 x46 x47 x48 x49 x50 x51 x52 x53 x54 x55 x56 x57 x58 x59 x60 x61 x62 x63 x64 x65 x66 x67 x68 x69 x70 x71 x72 x73 x74 x75 x76 x77 x78 x79 x80 x81 x82 x83 x84 x85 x86 x87 x88 x89 x90 x91 x92 x93 x94 x95 x96 x97 x98 x99 x100 x101 x102 x103 x104 x105 x106 x107 x108 x109 x110 x111 x112 x113 x114 x115 x116 x117 : Value) (q4 q5 : Nat), a = { tmps := #[x0, x1, x2, x3, x4, x5, x6, x7, x8, x9, x10, x11, x12, x13, x14, x15, x16, x17, x18, x19, x20, x21, x22, x23, x24, x25, x26, x27, x28, x29, x30, x31, x32, x33, x34, x35, x36, x37, x38, x39, x40, x41, x42, x43, x44, x45, x46, x47, x48, x49, x50, x51, x52, x53, x54, x55, x56, x57, x58, x59, x60, x61, x62, x63, x64, x65, x66, x67, x68, x69, x70, x71, x72, x73, x74, x75, x76, x77, x78, x79, x80, x81, x82, x83, x84, x85, x86, x87, x88, x89, x90, x91, x92, x93, x94, x95, x96, x97, x98, x99, x100, x101, x102, x103, x104, x105, x106, x107, x108, x109, x110, x111, x112, x113, x114, x115, x116, x117], defers := [] } ∧ x2 = .pointer (some ⟨w.heap.size, 0, none⟩) ∧ x3 = .pointer (some ⟨(w.heap.size + 1), 0, none⟩) ∧ x4 = .pointer (some ⟨(w.heap.size + 1 + 1), 0, none⟩) ∧ x5 = .bool false ∧ (L 0 = true → x21 = .agg (U (lim x))) ∧ (L 1 = true → x22 = .agg (U (lim (ab x)))) ∧ (L 2 = true → x23 = .agg (U (lim y))) ∧ (L 3 = true → x24 = .agg (U (lim (ab y)))) ∧ (L 4 = true → x6 = .pointer (some ⟨q4, 0, none⟩) ∧ w1.heap.size ≤ q4 ∧ (L 6 = false → Blk wx q4 (U zeros) 79)) ∧ (L 6 = true → L 4 = true ∧ Blk wx q4 (U (lim (ab x))) 79) ∧ (L 5 = true → x7 = .pointer (some ⟨q5, 0, none⟩) ∧ w1.heap.size ≤ q5 ∧ (L 7 = false → Blk wx q5 (U zeros) 79)) ∧ (L 7 = true → L 5 = true ∧ Blk wx q5 (U (lim (ab y))) 79) ∧ (L 4 = true → L 5 = true → q4 ≠ q5) ∧ Blk wx w.heap.size (U (lim x)) 79 ∧ Blk wx (w.heap.size + 1) (U (lim y)) 79 ∧ Blk wx (w.heap.size + 1 + 1) (U (zeros)) 79 ∧ Below w1.heap.size w1 wx) [0, 1, 2, 3, 4, 5, 6, 7] (by kernel_rfl) (by kernel_rfl) (by kernel_rfl) ?start ?steps ?fin
  case start =>
    exact ⟨_, _, _, _, _, _, _, _, _, _, _, _, _, _, _, _, _, _, _, _, _, _, _, _, _, _, _, _, _, _, _, _, _, _, _, _, _, _, _, _, _, _, _, _, _, _, _, _, _, _, _, _, _, _, _, _, _, _, _, _, _, _, _, _, _, _, _, _, _, _, _, _, _, _, _, _, _, _, _, _, _, _, _, _, _, _, _, _, _, _, _, _, _, _, _, _, _, _, _, _, _, _, _, _, _, _, _, _, _, _, _, _, _, _, _, _, _, _, 0, 0, rfl, (by first | rfl | simp only [*]), (by first | rfl | simp only [*]), (by first | rfl | simp only [*]), (by first | rfl | simp only [*]), fun h => absurd h (by decide), fun h => absurd h (by decide), fun h => absurd h (by decide), fun h => absurd h (by decide), fun h => absurd h (by decide), fun h => absurd h (by decide), fun h => absurd h (by decide), fun h => absurd h (by decide), fun h => absurd h (by decide), k0.drew, k1.drew, k2.drew, (Below.refl _ _).drew⟩
  case steps =>
    refine Steps.cons rfl (fun L a wx K hK hL hp hI => ?_) ?_
    · refine ex_118 hI (fun x0 x1 x2 x3 x4 x5 x6 x7 x8 x9 x10 x11 x12 x13 x14 x15 x16 x17 x18 x19 x20 x21 x22 x23 x24 x25 x26 x27 x28 x29 x30 x31 x32 x33 x34 x35 x36 x37 x38 x39 x40 x41 x42 x43 x44 x45 x46 x47 x48 x49 x50 x51 x52 x53 x54 x55 x56 x57 x58 x59 x60 x61 x62 x63 x64 x65 x66 x67 x68 x69 x70 x71 x72 x73 x74 x75 x76 x77 x78 x79 x80 x81 x82 x83 x84 x85 x86 x87 x88 x89 x90 x91 x92 x93 x94 x95 x96 x97 x98 x99 x100 x101 x102 x103 x104 x105 x106 x107 x108 x109 x110 x111 x112 x113 x114 x115 x116 x117 hI => ?_)
      obtain ⟨q4, q5, rfl, P2, P3, P4, P5, H0, H1, H2, H3, A4, S4, A5, S5, D4_5, K0, K1, K2, B2⟩ := hI
      clear hp
      subst P2
      refine wanted_ (by rfl) ?_
      refine wp_load_row 79 _ rfl w.heap.size rfl 79 (U (lim x)) (0, 0) _ K0 Tryd.underlying79 rfl (ofLen la) ?_
      (try simp only [Act.put, List.setIfInBounds_toArray, List.set_cons_zero, List.set_cons_succ])
      exact hK.out _ _ ⟨_, _, _, _, _, _, _, _, _, _, _, _, _, _, _, _, _, _, _, _, _, _, _, _, _, _, _, _, _, _, _, _, _, _, _, _, _, _, _, _, _, _, _, _, _, _, _, _, _, _, _, _, _, _, _, _, _, _, _, _, _, _, _, _, _, _, _, _, _, _, _, _, _, _, _, _, _, _, _, _, _, _, _, _, _, _, _, _, _, _, _, _, _, _, _, _, _, _, _, _, _, _, _, _, _, _, _, _, _, _, _, _, _, _, _, _, _, _, q4, q5, rfl, rfl, P3, P4, P5, fun _ => rfl, H1, H2, H3, fun h => ⟨(A4 h).1, (A4 h).2.1, fun k => ((A4 h).2.2 k)⟩, fun h => ⟨up_true (S4 h).1, (S4 h).2⟩, fun h => ⟨(A5 h).1, (A5 h).2.1, fun k => ((A5 h).2.2 k)⟩, fun h => ⟨up_true (S5 h).1, (S5 h).2⟩, D4_5, K0, K1, K2, B2⟩
    refine Steps.cons rfl (fun L a wx K hK hL hp hI => ?_) ?_
    · refine ex_118 hI (fun x0 x1 x2 x3 x4 x5 x6 x7 x8 x9 x10 x11 x12 x13 x14 x15 x16 x17 x18 x19 x20 x21 x22 x23 x24 x25 x26 x27 x28 x29 x30 x31 x32 x33 x34 x35 x36 x37 x38 x39 x40 x41 x42 x43 x44 x45 x46 x47 x48 x49 x50 x51 x52 x53 x54 x55 x56 x57 x58 x59 x60 x61 x62 x63 x64 x65 x66 x67 x68 x69 x70 x71 x72 x73 x74 x75 x76 x77 x78 x79 x80 x81 x82 x83 x84 x85 x86 x87 x88 x89 x90 x91 x92 x93 x94 x95 x96 x97 x98 x99 x100 x101 x102 x103 x104 x105 x106 x107 x108 x109 x110 x111 x112 x113 x114 x115 x116 x117 hI => ?_)
      obtain ⟨q4, q5, rfl, P2, P3, P4, P5, H0, H1, H2, H3, A4, S4, A5, S5, D4_5, K0, K1, K2, B2⟩ := hI
      have p0 : L 0 = true := hp ⟨0, .data⟩ (by simp) rfl
      have e0 := H0 p0
      clear hp
      subst e0
      refine wanted_ (by rfl) ?_
      refine goesK_ Tryd.func71 (by kernel_rfl) rfl #[.agg (U (lim x))] rfl (by simp [Act.eval]) ?_
      refine (AX _).mono ?_
      rintro e w' ⟨rfl, g⟩
      refine ⟨_, rfl, ?_⟩
      (try simp only [Act.put, List.setIfInBounds_toArray, List.set_cons_zero, List.set_cons_succ])
      exact hK.out _ _ ⟨_, _, _, _, _, _, _, _, _, _, _, _, _, _, _, _, _, _, _, _, _, _, _, _, _, _, _, _, _, _, _, _, _, _, _, _, _, _, _, _, _, _, _, _, _, _, _, _, _, _, _, _, _, _, _, _, _, _, _, _, _, _, _, _, _, _, _, _, _, _, _, _, _, _, _, _, _, _, _, _, _, _, _, _, _, _, _, _, _, _, _, _, _, _, _, _, _, _, _, _, _, _, _, _, _, _, _, _, _, _, _, _, _, _, _, _, _, _, q4, q5, rfl, P2, P3, P4, P5, fun _ => rfl, fun _ => rfl, H2, H3, fun h => ⟨(A4 h).1, (A4 h).2.1, fun k => (Blk.keep ((A4 h).2.2 k) g)⟩, fun h => ⟨up_true (S4 h).1, (Blk.keep (S4 h).2 g)⟩, fun h => ⟨(A5 h).1, (A5 h).2.1, fun k => (Blk.keep ((A5 h).2.2 k) g)⟩, fun h => ⟨up_true (S5 h).1, (Blk.keep (S5 h).2 g)⟩, D4_5, (Blk.keep K0 g), (Blk.keep K1 g), (Blk.keep K2 g), bb B2 g⟩
    refine Steps.cons rfl (fun L a wx K hK hL hp hI => ?_) ?_
    · refine ex_118 hI (fun x0 x1 x2 x3 x4 x5 x6 x7 x8 x9 x10 x11 x12 x13 x14 x15 x16 x17 x18 x19 x20 x21 x22 x23 x24 x25 x26 x27 x28 x29 x30 x31 x32 x33 x34 x35 x36 x37 x38 x39 x40 x41 x42 x43 x44 x45 x46 x47 x48 x49 x50 x51 x52 x53 x54 x55 x56 x57 x58 x59 x60 x61 x62 x63 x64 x65 x66 x67 x68 x69 x70 x71 x72 x73 x74 x75 x76 x77 x78 x79 x80 x81 x82 x83 x84 x85 x86 x87 x88 x89 x90 x91 x92 x93 x94 x95 x96 x97 x98 x99 x100 x101 x102 x103 x104 x105 x106 x107 x108 x109 x110 x111 x112 x113 x114 x115 x116 x117 hI => ?_)
      obtain ⟨q4, q5, rfl, P2, P3, P4, P5, H0, H1, H2, H3, A4, S4, A5, S5, D4_5, K0, K1, K2, B2⟩ := hI
      clear hp
      subst P3
      refine wanted_ (by rfl) ?_
      refine wp_load_row 79 _ rfl (w.heap.size + 1) rfl 79 (U (lim y)) (0, 0) _ K1 Tryd.underlying79 rfl (ofLen lb) ?_
      (try simp only [Act.put, List.setIfInBounds_toArray, List.set_cons_zero, List.set_cons_succ])
      exact hK.out _ _ ⟨_, _, _, _, _, _, _, _, _, _, _, _, _, _, _, _, _, _, _, _, _, _, _, _, _, _, _, _, _, _, _, _, _, _, _, _, _, _, _, _, _, _, _, _, _, _, _, _, _, _, _, _, _, _, _, _, _, _, _, _, _, _, _, _, _, _, _, _, _, _, _, _, _, _, _, _, _, _, _, _, _, _, _, _, _, _, _, _, _, _, _, _, _, _, _, _, _, _, _, _, _, _, _, _, _, _, _, _, _, _, _, _, _, _, _, _, _, _, q4, q5, rfl, P2, rfl, P4, P5, H0, H1, fun _ => rfl, H3, fun h => ⟨(A4 h).1, (A4 h).2.1, fun k => ((A4 h).2.2 k)⟩, fun h => ⟨up_true (S4 h).1, (S4 h).2⟩, fun h => ⟨(A5 h).1, (A5 h).2.1, fun k => ((A5 h).2.2 k)⟩, fun h => ⟨up_true (S5 h).1, (S5 h).2⟩, D4_5, K0, K1, K2, B2⟩
    refine Steps.cons rfl (fun L a wx K hK hL hp hI => ?_) ?_
    · refine ex_118 hI (fun x0 x1 x2 x3 x4 x5 x6 x7 x8 x9 x10 x11 x12 x13 x14 x15 x16 x17 x18 x19 x20 x21 x22 x23 x24 x25 x26 x27 x28 x29 x30 x31 x32 x33 x34 x35 x36 x37 x38 x39 x40 x41 x42 x43 x44 x45 x46 x47 x48 x49 x50 x51 x52 x53 x54 x55 x56 x57 x58 x59 x60 x61 x62 x63 x64 x65 x66 x67 x68 x69 x70 x71 x72 x73 x74 x75 x76 x77 x78 x79 x80 x81 x82 x83 x84 x85 x86 x87 x88 x89 x90 x91 x92 x93 x94 x95 x96 x97 x98 x99 x100 x101 x102 x103 x104 x105 x106 x107 x108 x109 x110 x111 x112 x113 x114 x115 x116 x117 hI => ?_)
      obtain ⟨q4, q5, rfl, P2, P3, P4, P5, H0, H1, H2, H3, A4, S4, A5, S5, D4_5, K0, K1, K2, B2⟩ := hI
      have p2 : L 2 = true := hp ⟨2, .data⟩ (by simp) rfl
      have e2 := H2 p2
      clear hp
      subst e2
      refine wanted_ (by rfl) ?_
      refine goesK_ Tryd.func71 (by kernel_rfl) rfl #[.agg (U (lim y))] rfl (by simp [Act.eval]) ?_
      refine (AY _).mono ?_
      rintro e w' ⟨rfl, g⟩
      refine ⟨_, rfl, ?_⟩
      (try simp only [Act.put, List.setIfInBounds_toArray, List.set_cons_zero, List.set_cons_succ])
      exact hK.out _ _ ⟨_, _, _, _, _, _, _, _, _, _, _, _, _, _, _, _, _, _, _, _, _, _, _, _, _, _, _, _, _, _, _, _, _, _, _, _, _, _, _, _, _, _, _, _, _, _, _, _, _, _, _, _, _, _, _, _, _, _, _, _, _, _, _, _, _, _, _, _, _, _, _, _, _, _, _, _, _, _, _, _, _, _, _, _, _, _, _, _, _, _, _, _, _, _, _, _, _, _, _, _, _, _, _, _, _, _, _, _, _, _, _, _, _, _, _, _, _, _, q4, q5, rfl, P2, P3, P4, P5, H0, H1, fun _ => rfl, fun _ => rfl, fun h => ⟨(A4 h).1, (A4 h).2.1, fun k => (Blk.keep ((A4 h).2.2 k) g)⟩, fun h => ⟨up_true (S4 h).1, (Blk.keep (S4 h).2 g)⟩, fun h => ⟨(A5 h).1, (A5 h).2.1, fun k => (Blk.keep ((A5 h).2.2 k) g)⟩, fun h => ⟨up_true (S5 h).1, (Blk.keep (S5 h).2 g)⟩, D4_5, (Blk.keep K0 g), (Blk.keep K1 g), (Blk.keep K2 g), bb B2 g⟩
    refine Steps.cons rfl (fun L a wx K hK hL hp hI => ?_) ?_
    · refine ex_118 hI (fun x0 x1 x2 x3 x4 x5 x6 x7 x8 x9 x10 x11 x12 x13 x14 x15 x16 x17 x18 x19 x20 x21 x22 x23 x24 x25 x26 x27 x28 x29 x30 x31 x32 x33 x34 x35 x36 x37 x38 x39 x40 x41 x42 x43 x44 x45 x46 x47 x48 x49 x50 x51 x52 x53 x54 x55 x56 x57 x58 x59 x60 x61 x62 x63 x64 x65 x66 x67 x68 x69 x70 x71 x72 x73 x74 x75 x76 x77 x78 x79 x80 x81 x82 x83 x84 x85 x86 x87 x88 x89 x90 x91 x92 x93 x94 x95 x96 x97 x98 x99 x100 x101 x102 x103 x104 x105 x106 x107 x108 x109 x110 x111 x112 x113 x114 x115 x116 x117 hI => ?_)
      obtain ⟨q4, q5, rfl, P2, P3, P4, P5, H0, H1, H2, H3, A4, S4, A5, S5, D4_5, K0, K1, K2, B2⟩ := hI
      have hst : ¬ L 6 = true := fun h => absurd (S4 h).1 (by simp [hL])
      have LT5 : L 5 = true → q5 < wx.heap.size := fun h => by
          cases hs : L 7 with
          | true => exact (S5 hs).2.lt
          | false => exact ((A5 h).2.2 hs).lt
      clear hp
      go_simp
      exact hK.out _ _ ⟨_, _, _, _, _, _, _, _, _, _, _, _, _, _, _, _, _, _, _, _, _, _, _, _, _, _, _, _, _, _, _, _, _, _, _, _, _, _, _, _, _, _, _, _, _, _, _, _, _, _, _, _, _, _, _, _, _, _, _, _, _, _, _, _, _, _, _, _, _, _, _, _, _, _, _, _, _, _, _, _, _, _, _, _, _, _, _, _, _, _, _, _, _, _, _, _, _, _, _, _, _, _, _, _, _, _, _, _, _, _, _, _, _, _, _, _, _, _, wx.heap.size, q5, rfl, (by first | exact P2 | rfl), (by first | exact P3 | rfl), (by first | exact P4 | rfl), (by first | exact P5 | rfl), H0, H1, H2, H3, fun _ => ⟨rfl, B2.size, fun _ => Blk.new _ _ _⟩, fun h => absurd (S4 h).1 (by simp [hL]), fun h => ⟨(A5 h).1, (A5 h).2.1, fun k => (Blk.alloc ((A5 h).2.2 k) _)⟩, fun h => ⟨up_true (S5 h).1, (Blk.alloc (S5 h).2 _)⟩, fun _ h => Nat.ne_of_gt ((LT5 h)), (Blk.alloc K0 _), (Blk.alloc K1 _), (Blk.alloc K2 _), bb B2 ((Below.refl _ _).alloc (Nat.le_refl _) _)⟩
    refine Steps.cons rfl (fun L a wx K hK hL hp hI => ?_) ?_
    · refine ex_118 hI (fun x0 x1 x2 x3 x4 x5 x6 x7 x8 x9 x10 x11 x12 x13 x14 x15 x16 x17 x18 x19 x20 x21 x22 x23 x24 x25 x26 x27 x28 x29 x30 x31 x32 x33 x34 x35 x36 x37 x38 x39 x40 x41 x42 x43 x44 x45 x46 x47 x48 x49 x50 x51 x52 x53 x54 x55 x56 x57 x58 x59 x60 x61 x62 x63 x64 x65 x66 x67 x68 x69 x70 x71 x72 x73 x74 x75 x76 x77 x78 x79 x80 x81 x82 x83 x84 x85 x86 x87 x88 x89 x90 x91 x92 x93 x94 x95 x96 x97 x98 x99 x100 x101 x102 x103 x104 x105 x106 x107 x108 x109 x110 x111 x112 x113 x114 x115 x116 x117 hI => ?_)
      obtain ⟨q4, q5, rfl, P2, P3, P4, P5, H0, H1, H2, H3, A4, S4, A5, S5, D4_5, K0, K1, K2, B2⟩ := hI
      have hst : ¬ L 7 = true := fun h => absurd (S5 h).1 (by simp [hL])
      have LT4 : L 4 = true → q4 < wx.heap.size := fun h => by
          cases hs : L 6 with
          | true => exact (S4 hs).2.lt
          | false => exact ((A4 h).2.2 hs).lt
      clear hp
      go_simp
      exact hK.out _ _ ⟨_, _, _, _, _, _, _, _, _, _, _, _, _, _, _, _, _, _, _, _, _, _, _, _, _, _, _, _, _, _, _, _, _, _, _, _, _, _, _, _, _, _, _, _, _, _, _, _, _, _, _, _, _, _, _, _, _, _, _, _, _, _, _, _, _, _, _, _, _, _, _, _, _, _, _, _, _, _, _, _, _, _, _, _, _, _, _, _, _, _, _, _, _, _, _, _, _, _, _, _, _, _, _, _, _, _, _, _, _, _, _, _, _, _, _, _, _, _, q4, wx.heap.size, rfl, (by first | exact P2 | rfl), (by first | exact P3 | rfl), (by first | exact P4 | rfl), (by first | exact P5 | rfl), H0, H1, H2, H3, fun h => ⟨(A4 h).1, (A4 h).2.1, fun k => (Blk.alloc ((A4 h).2.2 k) _)⟩, fun h => ⟨up_true (S4 h).1, (Blk.alloc (S4 h).2 _)⟩, fun _ => ⟨rfl, B2.size, fun _ => Blk.new _ _ _⟩, fun h => absurd (S5 h).1 (by simp [hL]), fun h _ => Nat.ne_of_lt ((LT4 h)), (Blk.alloc K0 _), (Blk.alloc K1 _), (Blk.alloc K2 _), bb B2 ((Below.refl _ _).alloc (Nat.le_refl _) _)⟩
    refine Steps.cons rfl (fun L a wx K hK hL hp hI => ?_) ?_
    · refine ex_118 hI (fun x0 x1 x2 x3 x4 x5 x6 x7 x8 x9 x10 x11 x12 x13 x14 x15 x16 x17 x18 x19 x20 x21 x22 x23 x24 x25 x26 x27 x28 x29 x30 x31 x32 x33 x34 x35 x36 x37 x38 x39 x40 x41 x42 x43 x44 x45 x46 x47 x48 x49 x50 x51 x52 x53 x54 x55 x56 x57 x58 x59 x60 x61 x62 x63 x64 x65 x66 x67 x68 x69 x70 x71 x72 x73 x74 x75 x76 x77 x78 x79 x80 x81 x82 x83 x84 x85 x86 x87 x88 x89 x90 x91 x92 x93 x94 x95 x96 x97 x98 x99 x100 x101 x102 x103 x104 x105 x106 x107 x108 x109 x110 x111 x112 x113 x114 x115 x116 x117 hI => ?_)
      obtain ⟨q4, q5, rfl, P2, P3, P4, P5, H0, H1, H2, H3, A4, S4, A5, S5, D4_5, K0, K1, K2, B2⟩ := hI
      have p4 : L 4 = true := hp ⟨4, .data⟩ (by simp) rfl
      obtain ⟨e4, z4, f4⟩ := A4 p4
      have p1 : L 1 = true := hp ⟨1, .data⟩ (by simp) rfl
      have e1 := H1 p1
      clear hp
      subst e4 e1
      have NE_0 : w.heap.size ≠ q4 := by have := N0; omega
      have NE_1 : (w.heap.size + 1) ≠ q4 := by have := N1; omega
      have NE_2 : (w.heap.size + 1 + 1) ≠ q4 := by have := N2; omega
      refine wanted_ (by rfl) ?_
      refine wp_store_row 79 _ _ rfl q4 (U (lim (ab x))) rfl rfl 79 (U zeros) (f4 hL) (ofLen lc) (by rw [U_size, U_size, lc, zeros_len]) (one_cell _) ?_
      (try simp only [Act.put, List.setIfInBounds_toArray, List.set_cons_zero, List.set_cons_succ])
      exact hK.out _ _ ⟨_, _, _, _, _, _, _, _, _, _, _, _, _, _, _, _, _, _, _, _, _, _, _, _, _, _, _, _, _, _, _, _, _, _, _, _, _, _, _, _, _, _, _, _, _, _, _, _, _, _, _, _, _, _, _, _, _, _, _, _, _, _, _, _, _, _, _, _, _, _, _, _, _, _, _, _, _, _, _, _, _, _, _, _, _, _, _, _, _, _, _, _, _, _, _, _, _, _, _, _, _, _, _, _, _, _, _, _, _, _, _, _, _, _, _, _, _, _, q4, q5, rfl, P2, P3, P4, P5, H0, fun _ => rfl, H2, H3, fun _ => ⟨rfl, z4, fun h => absurd h (by simp [YInv.up])⟩, fun _ => ⟨up_true p4, put_ (f4 hL)⟩, fun h => ⟨(A5 h).1, (A5 h).2.1, fun k => far_ ((A5 h).2.2 k) (Ne.symm (D4_5 p4 h))⟩, fun h => ⟨up_true (S5 h).1, far_ (S5 h).2 (Ne.symm (D4_5 p4 (S5 h).1))⟩, D4_5, (far_ K0 (NE_0)), (far_ K1 (NE_1)), (far_ K2 (NE_2)), below_row B2 z4 _⟩
    refine Steps.cons rfl (fun L a wx K hK hL hp hI => ?_) ?_
    · refine ex_118 hI (fun x0 x1 x2 x3 x4 x5 x6 x7 x8 x9 x10 x11 x12 x13 x14 x15 x16 x17 x18 x19 x20 x21 x22 x23 x24 x25 x26 x27 x28 x29 x30 x31 x32 x33 x34 x35 x36 x37 x38 x39 x40 x41 x42 x43 x44 x45 x46 x47 x48 x49 x50 x51 x52 x53 x54 x55 x56 x57 x58 x59 x60 x61 x62 x63 x64 x65 x66 x67 x68 x69 x70 x71 x72 x73 x74 x75 x76 x77 x78 x79 x80 x81 x82 x83 x84 x85 x86 x87 x88 x89 x90 x91 x92 x93 x94 x95 x96 x97 x98 x99 x100 x101 x102 x103 x104 x105 x106 x107 x108 x109 x110 x111 x112 x113 x114 x115 x116 x117 hI => ?_)
      obtain ⟨q4, q5, rfl, P2, P3, P4, P5, H0, H1, H2, H3, A4, S4, A5, S5, D4_5, K0, K1, K2, B2⟩ := hI
      have p5 : L 5 = true := hp ⟨5, .data⟩ (by simp) rfl
      obtain ⟨e5, z5, f5⟩ := A5 p5
      have p3 : L 3 = true := hp ⟨3, .data⟩ (by simp) rfl
      have e3 := H3 p3
      clear hp
      subst e5 e3
      have NE_0 : w.heap.size ≠ q5 := by have := N0; omega
      have NE_1 : (w.heap.size + 1) ≠ q5 := by have := N1; omega
      have NE_2 : (w.heap.size + 1 + 1) ≠ q5 := by have := N2; omega
      refine wanted_ (by rfl) ?_
      refine wp_store_row 79 _ _ rfl q5 (U (lim (ab y))) rfl rfl 79 (U zeros) (f5 hL) (ofLen ld) (by rw [U_size, U_size, ld, zeros_len]) (one_cell _) ?_
      (try simp only [Act.put, List.setIfInBounds_toArray, List.set_cons_zero, List.set_cons_succ])
      exact hK.out _ _ ⟨_, _, _, _, _, _, _, _, _, _, _, _, _, _, _, _, _, _, _, _, _, _, _, _, _, _, _, _, _, _, _, _, _, _, _, _, _, _, _, _, _, _, _, _, _, _, _, _, _, _, _, _, _, _, _, _, _, _, _, _, _, _, _, _, _, _, _, _, _, _, _, _, _, _, _, _, _, _, _, _, _, _, _, _, _, _, _, _, _, _, _, _, _, _, _, _, _, _, _, _, _, _, _, _, _, _, _, _, _, _, _, _, _, _, _, _, _, _, q4, q5, rfl, P2, P3, P4, P5, H0, H1, H2, fun _ => rfl, fun h => ⟨(A4 h).1, (A4 h).2.1, fun k => far_ ((A4 h).2.2 k) (D4_5 h p5)⟩, fun h => ⟨up_true (S4 h).1, far_ (S4 h).2 (D4_5 (S4 h).1 p5)⟩, fun _ => ⟨rfl, z5, fun h => absurd h (by simp [YInv.up])⟩, fun _ => ⟨up_true p5, put_ (f5 hL)⟩, D4_5, (far_ K0 (NE_0)), (far_ K1 (NE_1)), (far_ K2 (NE_2)), below_row B2 z5 _⟩
    exact Steps.nil
  case fin =>
    intro L a wx hall hI
    refine ex_118 hI (fun x0 x1 x2 x3 x4 x5 x6 x7 x8 x9 x10 x11 x12 x13 x14 x15 x16 x17 x18 x19 x20 x21 x22 x23 x24 x25 x26 x27 x28 x29 x30 x31 x32 x33 x34 x35 x36 x37 x38 x39 x40 x41 x42 x43 x44 x45 x46 x47 x48 x49 x50 x51 x52 x53 x54 x55 x56 x57 x58 x59 x60 x61 x62 x63 x64 x65 x66 x67 x68 x69 x70 x71 x72 x73 x74 x75 x76 x77 x78 x79 x80 x81 x82 x83 x84 x85 x86 x87 x88 x89 x90 x91 x92 x93 x94 x95 x96 x97 x98 x99 x100 x101 x102 x103 x104 x105 x106 x107 x108 x109 x110 x111 x112 x113 x114 x115 x116 x117 hI => ?_)
    obtain ⟨q4, q5, rfl, P2, P3, P4, P5, H0, H1, H2, H3, A4, S4, A5, S5, D4_5, K0, K1, K2, B2⟩ := hI
    have E0 := H0 (hall 0 (by decide))
    have E1 := H1 (hall 1 (by decide))
    have E2 := H2 (hall 2 (by decide))
    have E3 := H3 (hall 3 (by decide))
    obtain ⟨E4, Z4, -⟩ := A4 (hall 4 (by decide))
    have KS4 := (S4 (hall 6 (by decide))).2
    obtain ⟨E5, Z5, -⟩ := A5 (hall 5 (by decide))
    have KS5 := (S5 (hall 7 (by decide))).2
    have D_4_5 := D4_5 (hall 4 (by decide)) (hall 5 (by decide))
    clear hall H0 H1 H2 H3 A4 S4 A5 S5 D4_5
    subst E0 E1 E2 E3 E4 E5 P2 P3 P4 P5
    have b1 := bb b0 B2
    have N0 := K0.lt
    have N1 := K1.lt
    have N2 := K2.lt
    have N3 := KS4.lt
    have N4 := KS5.lt
    clear k0 k1 k2 B2 AX AY L hI
    go_wp2_with fail
    generalize wx = w2 at *
    refine region_steps (fun L a wx => ∃ (x0 x1 x2 x3 x4 x5 x6 x7 x8 x9 x10 x11 x12 x13 x14 x15 x16 x17 x18 x19 x20 x21 x22 x23 x24 x25 x26 x27 x28 x29 x30 x31 x32 x33 x34 x35 x36 x37 x38 x39 x40 x41 x42 x43 x44 x45 x46 x47 x48 x49 x50 x51 x52 x53 x54 x55 x56 x57 x58 x59 x60 x61 x62 x63 x64 x65 x66 x67 x68 x69 x70 x71 x72 x73 x74 x75 x76 x77 x78 x79 x80 x81 x82 x83 x84 x85 x86 x87 x88 x89 x90 x91 x92 x93 x94 x95 x96 x97 x98 x99 x100 x101 x102 x103 x104 x105 x106 x107 x108 x109 x110 x111 x112 x113 x114 x115 x116 x117 : Value), a = { tmps := #[x0, x1, x2, x3, x4, x5, x6, x7, x8, x9, x10, x11, x12, x13, x14, x15, x16, x17, x18, x19, x20, x21, x22, x23, x24, x25, x26, x27, x28, x29, x30, x31, x32, x33, x34, x35, x36, x37, x38, x39, x40, x41, x42, x43, x44, x45, x46, x47, x48, x49, x50, x51, x52, x53, x54, x55, x56, x57, x58, x59, x60, x61, x62, x63, x64, x65, x66, x67, x68, x69, x70, x71, x72, x73, x74, x75, x76, x77, x78, x79, x80, x81, x82, x83, x84, x85, x86, x87, x88, x89, x90, x91, x92, x93, x94, x95, x96, x97, x98, x99, x100, x101, x102, x103, x104, x105, x106, x107, x108, x109, x110, x111, x112, x113, x114, x115, x116, x117], defers := [] } ∧ x2 = .pointer (some ⟨w.heap.size, 0, none⟩) ∧ x3 = .pointer (some ⟨(w.heap.size + 1), 0, none⟩) ∧ x4 = .pointer (some ⟨(w.heap.size + 1 + 1), 0, none⟩) ∧ x5 = .bool false ∧ x6 = .pointer (some ⟨q4, 0, none⟩) ∧ x7 = .pointer (some ⟨q5, 0, none⟩) ∧ (L 0 = true → x25 = .slice (some ⟨q4, 0, none⟩) 16 16) ∧ (L 1 = true → x26 = .int .i64 ((limbs (ab x)).length : Int)) ∧ (L 2 = true → x27 = .slice (some ⟨q5, 0, none⟩) 16 16) ∧ (L 3 = true → x28 = .int .i64 ((limbs (ab y)).length : Int)) ∧ (L 4 = true → x8 = .int .i64 ((limbs (ab x)).length : Int)) ∧ (L 5 = true → x9 = .int .i64 ((limbs (ab y)).length : Int)) ∧ Blk wx w.heap.size (U (lim x)) 79 ∧ Blk wx (w.heap.size + 1) (U (lim y)) 79 ∧ Blk wx (w.heap.size + 1 + 1) (U (zeros)) 79 ∧ Blk wx q4 (U (lim (ab x))) 79 ∧ Blk wx q5 (U (lim (ab y))) 79 ∧ Below w2.heap.size w2 wx) [0, 1, 2, 3, 4, 5] (by kernel_rfl) (by kernel_rfl) (by kernel_rfl) ?start ?steps ?fin
    case start =>
      exact ⟨_, _, _, _, _, _, _, _, _, _, _, _, _, _, _, _, _, _, _, _, _, _, _, _, _, _, _, _, _, _, _, _, _, _, _, _, _, _, _, _, _, _, _, _, _, _, _, _, _, _, _, _, _, _, _, _, _, _, _, _, _, _, _, _, _, _, _, _, _, _, _, _, _, _, _, _, _, _, _, _, _, _, _, _, _, _, _, _, _, _, _, _, _, _, _, _, _, _, _, _, _, _, _, _, _, _, _, _, _, _, _, _, _, _, _, _, _, _, rfl, (by first | rfl | simp only [*]), (by first | rfl | simp only [*]), (by first | rfl | simp only [*]), (by first | rfl | simp only [*]), (by first | rfl | simp only [*]), (by first | rfl | simp only [*]), fun h => absurd h (by decide), fun h => absurd h (by decide), fun h => absurd h (by decide), fun h => absurd h (by decide), fun h => absurd h (by decide), fun h => absurd h (by decide), K0.drew, K1.drew, K2.drew, KS4.drew, KS5.drew, (Below.refl _ _).drew⟩
    case steps =>
      refine Steps.cons rfl (fun L a wx K hK hL hp hI => ?_) ?_
      · refine ex_118 hI (fun x0 x1 x2 x3 x4 x5 x6 x7 x8 x9 x10 x11 x12 x13 x14 x15 x16 x17 x18 x19 x20 x21 x22 x23 x24 x25 x26 x27 x28 x29 x30 x31 x32 x33 x34 x35 x36 x37 x38 x39 x40 x41 x42 x43 x44 x45 x46 x47 x48 x49 x50 x51 x52 x53 x54 x55 x56 x57 x58 x59 x60 x61 x62 x63 x64 x65 x66 x67 x68 x69 x70 x71 x72 x73 x74 x75 x76 x77 x78 x79 x80 x81 x82 x83 x84 x85 x86 x87 x88 x89 x90 x91 x92 x93 x94 x95 x96 x97 x98 x99 x100 x101 x102 x103 x104 x105 x106 x107 x108 x109 x110 x111 x112 x113 x114 x115 x116 x117 hI => ?_)
        obtain ⟨rfl, P2, P3, P4, P5, P6, P7, H0, H1, H2, H3, H4, H5, K0, K1, K2, K3, K4, B2⟩ := hI
        clear hp
        subst P6
        go_simp
        exact hK.out _ _ ⟨_, _, _, _, _, _, _, _, _, _, _, _, _, _, _, _, _, _, _, _, _, _, _, _, _, _, _, _, _, _, _, _, _, _, _, _, _, _, _, _, _, _, _, _, _, _, _, _, _, _, _, _, _, _, _, _, _, _, _, _, _, _, _, _, _, _, _, _, _, _, _, _, _, _, _, _, _, _, _, _, _, _, _, _, _, _, _, _, _, _, _, _, _, _, _, _, _, _, _, _, _, _, _, _, _, _, _, _, _, _, _, _, _, _, _, _, _, _, rfl, (by first | exact P2 | rfl), (by first | exact P3 | rfl), (by first | exact P4 | rfl), (by first | exact P5 | rfl), rfl, (by first | exact P7 | rfl), fun _ => (by first | rfl | simp), H1, H2, H3, H4, H5, K0, K1, K2, K3, K4, B2⟩
      refine Steps.cons rfl (fun L a wx K hK hL hp hI => ?_) ?_
      · refine ex_118 hI (fun x0 x1 x2 x3 x4 x5 x6 x7 x8 x9 x10 x11 x12 x13 x14 x15 x16 x17 x18 x19 x20 x21 x22 x23 x24 x25 x26 x27 x28 x29 x30 x31 x32 x33 x34 x35 x36 x37 x38 x39 x40 x41 x42 x43 x44 x45 x46 x47 x48 x49 x50 x51 x52 x53 x54 x55 x56 x57 x58 x59 x60 x61 x62 x63 x64 x65 x66 x67 x68 x69 x70 x71 x72 x73 x74 x75 x76 x77 x78 x79 x80 x81 x82 x83 x84 x85 x86 x87 x88 x89 x90 x91 x92 x93 x94 x95 x96 x97 x98 x99 x100 x101 x102 x103 x104 x105 x106 x107 x108 x109 x110 x111 x112 x113 x114 x115 x116 x117 hI => ?_)
        obtain ⟨rfl, P2, P3, P4, P5, P6, P7, H0, H1, H2, H3, H4, H5, K0, K1, K2, K3, K4, B2⟩ := hI
        have p0 : L 0 = true := hp ⟨0, .data⟩ (by simp) rfl
        have e0 := H0 p0
        clear hp
        subst e0
        refine wanted_ (by rfl) ?_
        refine goesK_ Tryd.func72 (by kernel_rfl) rfl #[.slice (some ⟨q4, 0, none⟩) 16 16] rfl (by simp [Act.eval]) ?_
        refine (count_b K3 hX0 hX1).mono ?_
        rintro e w' ⟨rfl, g⟩
        refine ⟨_, rfl, ?_⟩
        (try simp only [Act.put, List.setIfInBounds_toArray, List.set_cons_zero, List.set_cons_succ])
        exact hK.out _ _ ⟨_, _, _, _, _, _, _, _, _, _, _, _, _, _, _, _, _, _, _, _, _, _, _, _, _, _, _, _, _, _, _, _, _, _, _, _, _, _, _, _, _, _, _, _, _, _, _, _, _, _, _, _, _, _, _, _, _, _, _, _, _, _, _, _, _, _, _, _, _, _, _, _, _, _, _, _, _, _, _, _, _, _, _, _, _, _, _, _, _, _, _, _, _, _, _, _, _, _, _, _, _, _, _, _, _, _, _, _, _, _, _, _, _, _, _, _, _, _, rfl, P2, P3, P4, P5, P6, P7, fun _ => rfl, fun _ => rfl, H2, H3, H4, H5, (Blk.keep K0 g), (Blk.keep K1 g), (Blk.keep K2 g), (Blk.keep K3 g), (Blk.keep K4 g), bb B2 g⟩
      refine Steps.cons rfl (fun L a wx K hK hL hp hI => ?_) ?_
      · refine ex_118 hI (fun x0 x1 x2 x3 x4 x5 x6 x7 x8 x9 x10 x11 x12 x13 x14 x15 x16 x17 x18 x19 x20 x21 x22 x23 x24 x25 x26 x27 x28 x29 x30 x31 x32 x33 x34 x35 x36 x37 x38 x39 x40 x41 x42 x43 x44 x45 x46 x47 x48 x49 x50 x51 x52 x53 x54 x55 x56 x57 x58 x59 x60 x61 x62 x63 x64 x65 x66 x67 x68 x69 x70 x71 x72 x73 x74 x75 x76 x77 x78 x79 x80 x81 x82 x83 x84 x85 x86 x87 x88 x89 x90 x91 x92 x93 x94 x95 x96 x97 x98 x99 x100 x101 x102 x103 x104 x105 x106 x107 x108 x109 x110 x111 x112 x113 x114 x115 x116 x117 hI => ?_)
        obtain ⟨rfl, P2, P3, P4, P5, P6, P7, H0, H1, H2, H3, H4, H5, K0, K1, K2, K3, K4, B2⟩ := hI
        clear hp
        subst P7
        go_simp
        exact hK.out _ _ ⟨_, _, _, _, _, _, _, _, _, _, _, _, _, _, _, _, _, _, _, _, _, _, _, _, _, _, _, _, _, _, _, _, _, _, _, _, _, _, _, _, _, _, _, _, _, _, _, _, _, _, _, _, _, _, _, _, _, _, _, _, _, _, _, _, _, _, _, _, _, _, _, _, _, _, _, _, _, _, _, _, _, _, _, _, _, _, _, _, _, _, _, _, _, _, _, _, _, _, _, _, _, _, _, _, _, _, _, _, _, _, _, _, _, _, _, _, _, _, rfl, (by first | exact P2 | rfl), (by first | exact P3 | rfl), (by first | exact P4 | rfl), (by first | exact P5 | rfl), (by first | exact P6 | rfl), rfl, H0, H1, fun _ => (by first | rfl | simp), H3, H4, H5, K0, K1, K2, K3, K4, B2⟩
      refine Steps.cons rfl (fun L a wx K hK hL hp hI => ?_) ?_
      · refine ex_118 hI (fun x0 x1 x2 x3 x4 x5 x6 x7 x8 x9 x10 x11 x12 x13 x14 x15 x16 x17 x18 x19 x20 x21 x22 x23 x24 x25 x26 x27 x28 x29 x30 x31 x32 x33 x34 x35 x36 x37 x38 x39 x40 x41 x42 x43 x44 x45 x46 x47 x48 x49 x50 x51 x52 x53 x54 x55 x56 x57 x58 x59 x60 x61 x62 x63 x64 x65 x66 x67 x68 x69 x70 x71 x72 x73 x74 x75 x76 x77 x78 x79 x80 x81 x82 x83 x84 x85 x86 x87 x88 x89 x90 x91 x92 x93 x94 x95 x96 x97 x98 x99 x100 x101 x102 x103 x104 x105 x106 x107 x108 x109 x110 x111 x112 x113 x114 x115 x116 x117 hI => ?_)
        obtain ⟨rfl, P2, P3, P4, P5, P6, P7, H0, H1, H2, H3, H4, H5, K0, K1, K2, K3, K4, B2⟩ := hI
        have p2 : L 2 = true := hp ⟨2, .data⟩ (by simp) rfl
        have e2 := H2 p2
        clear hp
        subst e2
        refine wanted_ (by rfl) ?_
        refine goesK_ Tryd.func72 (by kernel_rfl) rfl #[.slice (some ⟨q5, 0, none⟩) 16 16] rfl (by simp [Act.eval]) ?_
        refine (count_b K4 hY0 hY1).mono ?_
        rintro e w' ⟨rfl, g⟩
        refine ⟨_, rfl, ?_⟩
        (try simp only [Act.put, List.setIfInBounds_toArray, List.set_cons_zero, List.set_cons_succ])
        exact hK.out _ _ ⟨_, _, _, _, _, _, _, _, _, _, _, _, _, _, _, _, _, _, _, _, _, _, _, _, _, _, _, _, _, _, _, _, _, _, _, _, _, _, _, _, _, _, _, _, _, _, _, _, _, _, _, _, _, _, _, _, _, _, _, _, _, _, _, _, _, _, _, _, _, _, _, _, _, _, _, _, _, _, _, _, _, _, _, _, _, _, _, _, _, _, _, _, _, _, _, _, _, _, _, _, _, _, _, _, _, _, _, _, _, _, _, _, _, _, _, _, _, _, rfl, P2, P3, P4, P5, P6, P7, H0, H1, fun _ => rfl, fun _ => rfl, H4, H5, (Blk.keep K0 g), (Blk.keep K1 g), (Blk.keep K2 g), (Blk.keep K3 g), (Blk.keep K4 g), bb B2 g⟩
      refine Steps.cons rfl (fun L a wx K hK hL hp hI => ?_) ?_
      · refine ex_118 hI (fun x0 x1 x2 x3 x4 x5 x6 x7 x8 x9 x10 x11 x12 x13 x14 x15 x16 x17 x18 x19 x20 x21 x22 x23 x24 x25 x26 x27 x28 x29 x30 x31 x32 x33 x34 x35 x36 x37 x38 x39 x40 x41 x42 x43 x44 x45 x46 x47 x48 x49 x50 x51 x52 x53 x54 x55 x56 x57 x58 x59 x60 x61 x62 x63 x64 x65 x66 x67 x68 x69 x70 x71 x72 x73 x74 x75 x76 x77 x78 x79 x80 x81 x82 x83 x84 x85 x86 x87 x88 x89 x90 x91 x92 x93 x94 x95 x96 x97 x98 x99 x100 x101 x102 x103 x104 x105 x106 x107 x108 x109 x110 x111 x112 x113 x114 x115 x116 x117 hI => ?_)
        obtain ⟨rfl, P2, P3, P4, P5, P6, P7, H0, H1, H2, H3, H4, H5, K0, K1, K2, K3, K4, B2⟩ := hI
        have p1 : L 1 = true := hp ⟨1, .data⟩ (by simp) rfl
        have e1 := H1 p1
        clear hp
        subst e1
        go_simp
        exact hK.out _ _ ⟨_, _, _, _, _, _, _, _, _, _, _, _, _, _, _, _, _, _, _, _, _, _, _, _, _, _, _, _, _, _, _, _, _, _, _, _, _, _, _, _, _, _, _, _, _, _, _, _, _, _, _, _, _, _, _, _, _, _, _, _, _, _, _, _, _, _, _, _, _, _, _, _, _, _, _, _, _, _, _, _, _, _, _, _, _, _, _, _, _, _, _, _, _, _, _, _, _, _, _, _, _, _, _, _, _, _, _, _, _, _, _, _, _, _, _, _, _, _, rfl, (by first | exact P2 | rfl), (by first | exact P3 | rfl), (by first | exact P4 | rfl), (by first | exact P5 | rfl), (by first | exact P6 | rfl), (by first | exact P7 | rfl), H0, fun _ => rfl, H2, H3, fun _ => (by first | rfl | simp), H5, K0, K1, K2, K3, K4, B2⟩
      refine Steps.cons rfl (fun L a wx K hK hL hp hI => ?_) ?_
      · refine ex_118 hI (fun x0 x1 x2 x3 x4 x5 x6 x7 x8 x9 x10 x11 x12 x13 x14 x15 x16 x17 x18 x19 x20 x21 x22 x23 x24 x25 x26 x27 x28 x29 x30 x31 x32 x33 x34 x35 x36 x37 x38 x39 x40 x41 x42 x43 x44 x45 x46 x47 x48 x49 x50 x51 x52 x53 x54 x55 x56 x57 x58 x59 x60 x61 x62 x63 x64 x65 x66 x67 x68 x69 x70 x71 x72 x73 x74 x75 x76 x77 x78 x79 x80 x81 x82 x83 x84 x85 x86 x87 x88 x89 x90 x91 x92 x93 x94 x95 x96 x97 x98 x99 x100 x101 x102 x103 x104 x105 x106 x107 x108 x109 x110 x111 x112 x113 x114 x115 x116 x117 hI => ?_)
        obtain ⟨rfl, P2, P3, P4, P5, P6, P7, H0, H1, H2, H3, H4, H5, K0, K1, K2, K3, K4, B2⟩ := hI
        have p3 : L 3 = true := hp ⟨3, .data⟩ (by simp) rfl
        have e3 := H3 p3
        clear hp
        subst e3
        go_simp
        exact hK.out _ _ ⟨_, _, _, _, _, _, _, _, _, _, _, _, _, _, _, _, _, _, _, _, _, _, _, _, _, _, _, _, _, _, _, _, _, _, _, _, _, _, _, _, _, _, _, _, _, _, _, _, _, _, _, _, _, _, _, _, _, _, _, _, _, _, _, _, _, _, _, _, _, _, _, _, _, _, _, _, _, _, _, _, _, _, _, _, _, _, _, _, _, _, _, _, _, _, _, _, _, _, _, _, _, _, _, _, _, _, _, _, _, _, _, _, _, _, _, _, _, _, rfl, (by first | exact P2 | rfl), (by first | exact P3 | rfl), (by first | exact P4 | rfl), (by first | exact P5 | rfl), (by first | exact P6 | rfl), (by first | exact P7 | rfl), H0, H1, H2, fun _ => rfl, H4, fun _ => (by first | rfl | simp), K0, K1, K2, K3, K4, B2⟩
      exact Steps.nil
    case fin =>
      intro L a wx hall hI
      refine ex_118 hI (fun x0 x1 x2 x3 x4 x5 x6 x7 x8 x9 x10 x11 x12 x13 x14 x15 x16 x17 x18 x19 x20 x21 x22 x23 x24 x25 x26 x27 x28 x29 x30 x31 x32 x33 x34 x35 x36 x37 x38 x39 x40 x41 x42 x43 x44 x45 x46 x47 x48 x49 x50 x51 x52 x53 x54 x55 x56 x57 x58 x59 x60 x61 x62 x63 x64 x65 x66 x67 x68 x69 x70 x71 x72 x73 x74 x75 x76 x77 x78 x79 x80 x81 x82 x83 x84 x85 x86 x87 x88 x89 x90 x91 x92 x93 x94 x95 x96 x97 x98 x99 x100 x101 x102 x103 x104 x105 x106 x107 x108 x109 x110 x111 x112 x113 x114 x115 x116 x117 hI => ?_)
      obtain ⟨rfl, P2, P3, P4, P5, P6, P7, H0, H1, H2, H3, H4, H5, K0, K1, K2, K3, K4, B2⟩ := hI
      have E0 := H0 (hall 0 (by decide))
      have E1 := H1 (hall 1 (by decide))
      have E2 := H2 (hall 2 (by decide))
      have E3 := H3 (hall 3 (by decide))
      have E4 := H4 (hall 4 (by decide))
      have E5 := H5 (hall 5 (by decide))
      clear hall H0 H1 H2 H3 H4 H5
      subst E0 E1 E2 E3 E4 E5 P2 P3 P4 P5 P6 P7
      have b2 := bb b1 B2
      have z0 := b0.size
      have M0 := K0
      have M1 := K1
      have M2 := K2
      have M3 := K3
      have M4 := K4
      have N0 := K0.lt
      have N1 := K1.lt
      have N2 := K2.lt
      have N3 := K3.lt
      have N4 := K4.lt
      have ex0 : (limbs (ab x)).length = 0 → ab x = 0 := fun h => by
        have := limbs_len_pos (n := ab x)
        omega
      have ey0 : (limbs (ab y)).length = 0 → ab y = 0 := fun h => by
        have := limbs_len_pos (n := ab y)
        omega
      have lx16 := limbs_lt16 hX1
      have ly16 := limbs_lt16 hY1
      have big : ∀ z : Int, 0 ≤ z → 0 < (limbs z).length → 18446744073709551616 ^ ((limbs z).length - 1) ≤ z := fun z hz hp => by
        apply Classical.byContradiction
        intro h
        have := limbs_len (n := z) ((limbs z).length - 1) (by omega)
        omega
      have bx := big (ab x) hX0
      have by_ := big (ab y) hY0
      have vx := val_limbs hX0
      have vy := val_limbs hY0
      have ax : ab (x * y) = ab x * ab y := by
        unfold ab
        by_cases h1 : x < 0 <;> by_cases h2 : y < 0 <;> simp only [h1, h2, if_true, if_false]
        · rw [if_neg (by have := Int.mul_pos_of_neg_of_neg h1 h2; omega), Int.neg_mul_neg]
        · by_cases h3 : y = 0
          · subst h3; simp
          · rw [if_pos (Int.mul_neg_of_neg_of_pos h1 (by omega)), Int.neg_mul]
        · by_cases h3 : x = 0
          · subst h3; simp
          · rw [if_pos (Int.mul_neg_of_pos_of_neg (by omega) h2), Int.mul_neg]
        · rw [if_neg (by have := Int.mul_nonneg (show 0 ≤ x by omega) (show 0 ≤ y by omega); omega)]
      have dX : ∀ k, dg (lim (ab x)) k = dg (limbs (ab x)) k := fun k => dg_lim_limbs hX0 hX1
      have dY : ∀ k, dg (lim (ab y)) k = dg (limbs (ab y)) k := fun k => dg_lim_limbs hY0 hY1
      clear big K0 K1 K2 K3 K4 B2 L hI
      obtain ⟨nx, hnx⟩ : ∃ nx, (limbs (ab x)).length = nx := ⟨_, rfl⟩
      obtain ⟨ny, hny⟩ : ∃ ny, (limbs (ab y)).length = ny := ⟨_, rfl⟩
      rw [hnx] at ex0 lx16 bx
      rw [hny] at ey0 ly16 by_
      simp only [hnx, hny]
      have HX := Lib.hid hnx
      have HY := Lib.hid hny
      clear hnx hny
      generalize wx = w3 at *
      have fin0 : ab x = 0 ∨ ab y = 0 → lim (cl (x * y)) = zeros ∧ decide (InW (x * y)) = true := by
        intro h
        have e : x * y = 0 := by
          have : ab (x * y) = 0 := by rw [ax]; rcases h with h | h <;> rw [h] <;> simp
          unfold ab at this
          split at this <;> omega
        rw [e]
        exact ⟨by decide, by decide⟩
      have fin1 : 18446744073709551616 ^ 16 ≤ ab x * ab y → lim (cl (x * y)) = zeros ∧ decide (InW (x * y)) = false := by
        intro h
        have hn : ¬ InW (x * y) := by
          intro hi
          rw [← ax] at h
          unfold InW at hi
          unfold ab at h
          split at h <;> omega
        unfold cl
        rw [if_neg hn, zeros_lim]
        exact ⟨rfl, decide_eq_false hn⟩
      by_cases hx0 : nx = 0
      · obtain ⟨f1, f2⟩ := fin0 (.inl (ex0 hx0))
        subst hx0
        obtain rfl := HR.out.1.symm.trans f1
        obtain rfl := HR.out.2.symm.trans f2
        clear ex0 ey0 bx by_ ax dX dY fin0 fin1 f1 f2 vx vy
        go_wp2_with (refine stW M2 zeros_len zeros_len _ _ rfl rfl rfl rfl ?_)
        exact bodyPost_ret (res2 Tryd.results52 _ rfl (put_ M2) zeros_len) rfl ⟨rfl, below_row b2 (by omega) _⟩
      by_cases hy0 : ny = 0
      · obtain ⟨f1, f2⟩ := fin0 (.inr (ey0 hy0))
        subst hy0
        obtain rfl := HR.out.1.symm.trans f1
        obtain rfl := HR.out.2.symm.trans f2
        have e1 : ((nx : Int) == 0) = false := by simpa using hx0
        have e2 : ¬ (nx : Int) = 0 := by omega
        clear ex0 ey0 bx by_ ax dX dY fin0 fin1 f1 f2 vx vy
        go_wp2_with (refine stW M2 zeros_len zeros_len _ _ rfl rfl rfl rfl ?_)
        exact bodyPost_ret (res2 Tryd.results52 _ rfl (put_ M2) zeros_len) rfl ⟨rfl, below_row b2 (by omega) _⟩
      have e1 : ((nx : Int) == 0) = false := by simpa using hx0
      have e2 : ((ny : Int) == 0) = false := by simpa using hy0
      have j1 : 1 ≤ (nx : Int) := by omega
      have j2 : 1 ≤ (ny : Int) := by omega
      have j3 : (nx : Int) ≤ 16 := by omega
      have j4 : (ny : Int) ≤ 16 := by omega
      have bx := bx (by omega)
      have by_ := by_ (by omega)
      clear ex0 ey0 fin0
      by_cases hb : 16 < nx + ny - 1
      · obtain ⟨f1, f2⟩ := fin1 (by
          have h1 := Int.mul_le_mul bx by_ (by have := pw_pos (ny - 1); omega) hX0
          rw [← Int.pow_add] at h1
          have := pw_le (show 16 ≤ nx - 1 + (ny - 1) by omega)
          omega)
        obtain rfl := HR.out.1.symm.trans f1
        obtain rfl := HR.out.2.symm.trans f2
        have j5 : (16 : Int) < (nx : Int) + (ny : Int) - 1 := by omega
        clear bx by_ ax dX dY fin1 f1 f2 vx vy
        go_wp2_with (refine stW M2 zeros_len zeros_len _ _ rfl rfl rfl rfl ?_)
        exact bodyPost_ret (res2 Tryd.results52 _ rfl (put_ M2) zeros_len) rfl ⟨rfl, below_row b2 (by omega) _⟩
      have j5 : (nx : Int) + (ny : Int) - 1 ≤ 16 := by omega
      clear bx by_
      have HF := Lib.hid (And.intro fin1 (And.intro ax (And.intro vx (And.intro vy (And.intro dX dY)))))
      clear fin1 ax vx vy dX dY
      have V0 : val zeros17 = 0 := val_nones 17
      have hs17 : zeros17.length = 17 := rfl
      have dz : Dig zeros17 := dig_zeros 17
      have zz : ∀ j, dg zeros17 j = 0 := fun j => dg_zeros 17 j
      have kt : Blk (w3.alloc (.cells #[.int .u64 0, .int .u64 0, .int .u64 0, .int .u64 0, .int .u64 0, .int .u64 0, .int .u64 0, .int .u64 0, .int .u64 0, .int .u64 0, .int .u64 0, .int .u64 0, .int .u64 0, .int .u64 0, .int .u64 0, .int .u64 0, .int .u64 0] 125)) w3.heap.size (U zeros17) 125 := Blk.new w3 (U zeros17) 125
      have p0 := M0.alloc (.cells #[.int .u64 0, .int .u64 0, .int .u64 0, .int .u64 0, .int .u64 0, .int .u64 0, .int .u64 0, .int .u64 0, .int .u64 0, .int .u64 0, .int .u64 0, .int .u64 0, .int .u64 0, .int .u64 0, .int .u64 0, .int .u64 0, .int .u64 0] 125)
      have p1 := M1.alloc (.cells #[.int .u64 0, .int .u64 0, .int .u64 0, .int .u64 0, .int .u64 0, .int .u64 0, .int .u64 0, .int .u64 0, .int .u64 0, .int .u64 0, .int .u64 0, .int .u64 0, .int .u64 0, .int .u64 0, .int .u64 0, .int .u64 0, .int .u64 0] 125)
      have p2 := M2.alloc (.cells #[.int .u64 0, .int .u64 0, .int .u64 0, .int .u64 0, .int .u64 0, .int .u64 0, .int .u64 0, .int .u64 0, .int .u64 0, .int .u64 0, .int .u64 0, .int .u64 0, .int .u64 0, .int .u64 0, .int .u64 0, .int .u64 0, .int .u64 0] 125)
      have p3 := M3.alloc (.cells #[.int .u64 0, .int .u64 0, .int .u64 0, .int .u64 0, .int .u64 0, .int .u64 0, .int .u64 0, .int .u64 0, .int .u64 0, .int .u64 0, .int .u64 0, .int .u64 0, .int .u64 0, .int .u64 0, .int .u64 0, .int .u64 0, .int .u64 0] 125)
      have p4 := M4.alloc (.cells #[.int .u64 0, .int .u64 0, .int .u64 0, .int .u64 0, .int .u64 0, .int .u64 0, .int .u64 0, .int .u64 0, .int .u64 0, .int .u64 0, .int .u64 0, .int .u64 0, .int .u64 0, .int .u64 0, .int .u64 0, .int .u64 0, .int .u64 0] 125)
      have pb := b2.alloc b2.size (.cells #[.int .u64 0, .int .u64 0, .int .u64 0, .int .u64 0, .int .u64 0, .int .u64 0, .int .u64 0, .int .u64 0, .int .u64 0, .int .u64 0, .int .u64 0, .int .u64 0, .int .u64 0, .int .u64 0, .int .u64 0, .int .u64 0, .int .u64 0] 125)
      have zb := b2.size
      clear M0 M1 M2 M3 M4 b2
      go_wp2_with fail
      go_loopw [45] (fun s45 wv => ∃ (i : Nat) (t : List Int), i ≤ nx ∧ s45 = .int .i64 i ∧ t.length = 17 ∧ Dig t ∧ (∀ j, i + ny ≤ j → dg t j = 0) ∧ val t = pv (limbs (ab x)) i * ab y ∧ Blk wv w.heap.size (U (lim x)) 79 ∧ Blk wv (w.heap.size + 1) (U (lim y)) 79 ∧ Blk wv (w.heap.size + 1 + 1) (U zeros) 79 ∧ Blk wv q4 (U (lim (ab x))) 79 ∧ Blk wv q5 (U (lim (ab y))) 79 ∧ Blk wv w3.heap.size (U t) 125 ∧ Below w.heap.size w wv) (fun s45 _ => nx - (intOf s45).toNat)
      case atStart => exact ⟨0, zeros17, by omega, rfl, hs17, dz, fun j _ => zz j, by rw [V0]; simp [pv], p0, p1, p2, p3, p4, kt, pb⟩
      case round =>
        clear p0 p1 p2 p3 p4 kt pb V0 zz dz hs17
        obtain ⟨i, t, hi, rfl, lt, dt, tz, tv, p0, p1, p2, p3, p4, kt, pb⟩ := hrel
        by_cases hlt : i < nx
        · have A := dg_in (limbs_dig (ab x)) i
          have cX : wr.cell? ⟨q4, i, none⟩ = some (.int .u64 (dg (limbs (ab x)) i)) := by rw [p3.cell, U_at (by omega), HF.out.2.2.2.2.1]
          have i0 : (0 : Int) ≤ (i : Int) := by omega
          have i1 : (i : Int) < (nx : Int) := by omega
          have HT := Lib.hid (And.intro tz tv)
          clear tz tv
          go_wp2_with fail
          go_loopw [13, 53] (fun s13 s53 wv => ∃ (k : Nat) (c : Int) (t : List Int), k ≤ ny ∧ s53 = .int .i64 k ∧ s13 = .int .u64 c ∧ 0 ≤ c ∧ c < 18446744073709551616 ∧ t.length = 17 ∧ Dig t ∧ (∀ j, i + ny ≤ j → dg t j = 0) ∧ val t + c * 18446744073709551616 ^ (i + k) = pv (limbs (ab x)) i * ab y + dg (limbs (ab x)) i * pv (limbs (ab y)) k * 18446744073709551616 ^ i ∧ Blk wv w.heap.size (U (lim x)) 79 ∧ Blk wv (w.heap.size + 1) (U (lim y)) 79 ∧ Blk wv (w.heap.size + 1 + 1) (U zeros) 79 ∧ Blk wv q4 (U (lim (ab x))) 79 ∧ Blk wv q5 (U (lim (ab y))) 79 ∧ Blk wv w3.heap.size (U t) 125 ∧ Below w.heap.size w wv) (fun _ s53 _ => ny - (intOf s53).toNat)
          case atStart => exact ⟨0, 0, t, by omega, rfl, rfl, by omega, by omega, lt, dt, fun j hj => HT.out.1 j (by omega), by rw [HT.out.2]; simp [pv], p0, p1, p2, p3, p4, kt, pb⟩
          case round =>
            clear p0 p1 p2 p3 p4 kt pb lt dt HT cX
            obtain ⟨k, c, t, hk, rfl, rfl, c0, c1, lt, dt, tz, tv, p0, p1, p2, p3, p4, kt, pb⟩ := hrel
            by_cases hkl : k < ny
            · have Bk := dg_in (limbs_dig (ab y)) k
              have O := dg_in dt (i + k)
              have cY : wr.cell? ⟨q5, k, none⟩ = some (.int .u64 (dg (limbs (ab y)) k)) := by rw [p4.cell, U_at (by omega), HF.out.2.2.2.2.2]
              have cT : wr.cell? ⟨w3.heap.size, i + k, none⟩ = some (.int .u64 (dg t (i + k))) := by rw [kt.cell, U_at (by omega)]
              have fT := kt.free (i + k)
              have tv2 := prod_val (b := dg (limbs (ab y)) k) (i := i) (k := k) (by omega) tv
              have PS := prod_step A.1 A.2 Bk.1 Bk.2 O.1 O.2 c0 c1
              have hp0 : 0 ≤ dg (limbs (ab x)) i * dg (limbs (ab y)) k := Int.mul_nonneg A.1 Bk.1
              have hp1 : dg (limbs (ab x)) i * dg (limbs (ab y)) k ≤ 18446744073709551615 * 18446744073709551615 := Int.mul_le_mul (by omega) (by omega) Bk.1 (by decide)
              have MU := fun W => bits_Mul64.calls (dg (limbs (ab x)) i) (dg (limbs (ab y)) k) _ _ W (mul64_tells A.1 A.2 Bk.1 Bk.2)
              have HM := Lib.hid (show pv (limbs (ab y)) (k + 1) = pv (limbs (ab y)) k + dg (limbs (ab y)) k * 18446744073709551616 ^ k from rfl)
              generalize hA : dg (limbs (ab x)) i = a at *
              generalize hB : dg (limbs (ab y)) k = b at *
              generalize hO : dg t (i + k) = o at *
              have AD1 := fun W => bits_Add64.run (a * b % 18446744073709551616) o 0 _ _ (add64f (by omega) O.1 O.2 (by omega) (by omega)) W
              generalize hL1 : (a * b % 18446744073709551616 + o + 0) % 18446744073709551616 = L1 at *
              have AD2 := fun W => bits_Add64.run L1 c 0 _ _ (add64f (by omega) c0 c1 (by omega) (by omega)) W
              rw [PS.1] at AD2
              obtain ⟨X1, hX1'⟩ : ∃ X1, (a * b % 18446744073709551616 + o + 0) / 18446744073709551616 = X1 := ⟨_, rfl⟩
              rw [hX1'] at AD1 PS
              obtain ⟨X2, hX2⟩ : ∃ X2, (L1 + c + 0) / 18446744073709551616 = X2 := ⟨_, rfl⟩
              rw [hX2] at AD2 PS
              obtain ⟨PH, hPH⟩ : ∃ PH, a * b / 18446744073709551616 = PH := ⟨_, rfl⟩
              obtain ⟨PL, hPL⟩ : ∃ PL, a * b % 18446744073709551616 = PL := ⟨_, rfl⟩
              rw [hPH] at PS MU
              rw [hPL] at MU AD1
              obtain ⟨D, hD⟩ : ∃ D, (a * b + o + c) % 18446744073709551616 = D := ⟨_, rfl⟩
              obtain ⟨C', hC⟩ : ∃ C', (a * b + o + c) / 18446744073709551616 = C' := ⟨_, rfl⟩
              rw [hD] at AD2 tv2
              rw [hC] at tv2 PS
              have w1 : IntKind.u64.wrap (PH + X1) = (PH + X1) % 18446744073709551616 := u64w _
              have w2 : IntKind.u64.wrap ((PH + X1) % 18446744073709551616 + X2) = C' := by rw [u64w]; exact PS.2
              have D0 : 0 ≤ D ∧ D < 18446744073709551616 := by omega
              have C0 : 0 ≤ C' ∧ C' < 18446744073709551616 := by omega
              have kt2 := kt.set (i + k) (.int .u64 D)
              rw [U_set] at kt2
              have HD := Lib.hid (And.intro tv2 (And.intro tz (And.intro D0 (And.intro C0 (And.intro hB hO)))))
              have k0 : (0 : Int) ≤ (k : Int) := by omega
              have k1 : (k : Int) < (ny : Int) := by omega
              have iw : IntKind.i64.wrap ((i : Int) + (k : Int)) = (i : Int) + (k : Int) := IntWalk.i64_in _ (by omega)
              clear tv tv2 PS hp0 hp1 hA hB hO hL1 hX1' hX2 hPH hPL hD hC D0 C0 tz A Bk O c0 c1
              go_wp2_with fail
              refine (MU _).mono ?_; rintro e w4 ⟨rfl, ⟨m4, rfl⟩⟩
              go_wp2_with fail
              go_roundw
              case rel =>
                have e := HD.out.1
                refine ⟨k + 1, C', t.set (i + k) D, by omega, by go_num, rfl, HD.out.2.2.2.1.1, HD.out.2.2.2.1.2, by rw [List.length_set]; exact lt, dig_set dt _ HD.out.2.2.1.1 HD.out.2.2.1.2, fun j hj => ?_, ?_, Blk.drewN (p0.setOther (by simp; omega) _) _, Blk.drewN (p1.setOther (by simp; omega) _) _, Blk.drewN (p2.setOther (by simp; omega) _) _, Blk.drewN (p3.setOther (by simp; omega) _) _, Blk.drewN (p4.setOther (by simp; omega) _) _, Blk.drewN kt2 _, below_drewN (pb.setCell (by simp; omega) _) _⟩
                · rw [dg_set, if_neg (by omega)]; exact HD.out.2.1 j hj
                · rw [HM.out]
                  exact e
              case measure => (simp [intOf]; try omega)
            · have hkn : k = ny := by omega
              subst hkn
              have tz0 := tz (i + k) (Nat.le_refl _)
              have cT : wr.cell? ⟨w3.heap.size, i + k, none⟩ = some (.int .u64 (dg t (i + k))) := by rw [kt.cell, U_at (by omega)]
              have fT := kt.free (i + k)
              have kt2 := kt.set (i + k) (.int .u64 c)
              rw [U_set] at kt2
              have tv2 : val (t.set (i + k) c) = pv (limbs (ab x)) (i + 1) * ab y := by
                have vy : pv (limbs (ab y)) k = ab y := by
                  have := HF.out.2.2.2.1
                  unfold val at this
                  rwa [HY.out] at this
                rw [val_set _ _ _ (by omega), tz0, Int.sub_zero, tv, vy]
                show _ = (pv (limbs (ab x)) i + dg (limbs (ab x)) i * 18446744073709551616 ^ i) * ab y
                rw [Int.add_mul, Int.mul_assoc, Int.mul_assoc, Int.mul_comm (ab y)]
              have HT := Lib.hid (And.intro tv2 (And.intro tz (And.intro c0 c1)))
              have iw : IntKind.i64.wrap ((i : Int) + (k : Int)) = (i : Int) + (k : Int) := IntWalk.i64_in _ (by omega)
              clear tv tv2 tz tz0 c0 c1 A hkl hk
              go_wp2_with fail
              go_roundw
              case rel => exact ⟨i + 1, _, by omega, by go_num, by rw [List.length_set]; exact lt, dig_set dt _ HT.out.2.2.1 HT.out.2.2.2, fun j hj => by rw [dg_set, if_neg (by omega)]; exact HT.out.2.1 j (by omega), HT.out.1, p0.setOther (by simp; omega) _, p1.setOther (by simp; omega) _, p2.setOther (by simp; omega) _, p3.setOther (by simp; omega) _, p4.setOther (by simp; omega) _, kt2, pb.setCell (by simp; omega) _⟩
              case measure => (simp [intOf]; try omega)
        · have hin : i = nx := by omega
          subst hin
          have Pv : val t = ab x * ab y := by
            have vx := HF.out.2.2.1
            unfold val at vx
            rw [HX.out] at vx
            rw [tv, vx]
          have d16 := dg_in dt 16
          have vt : val t = pv t 16 + dg t 16 * 18446744073709551616 ^ 16 := by unfold val; rw [lt]; rfl
          have pt0 := pv_nonneg dt 16
          have pt1 := pv_lt dt 16
          have l16 : (t.take 16).length = 16 := by rw [List.length_take, lt]; rfl
          have hlow : t.take 16 = lim (ab x * ab y) := by
            refine lim_eq l16 (fun z hz => dt z (List.mem_of_mem_take hz)) ?_
            have e : val (t.take 16) = pv t 16 := by unfold val; rw [l16, pv_take _ _ _ (Nat.le_refl _)]
            rw [e, ← Pv, vt, Int.add_mul_emod_self_right]
          have h17 : 16 ≤ t.length := by omega
          have c16 : wr.cell? ⟨w3.heap.size, 16, none⟩ = some (.int .u64 (dg t 16)) := by rw [kt.cell, U_at (by omega)]
          have lp : lim (ab x * ab y) = lim (pv t 16) := lim_congr (by rw [← Pv, vt, Int.add_mul_emod_self_right])
          rw [lp] at hlow
          have lq := lim_len (pv t 16)
          have lqn := lim_len (-(pv t 16))
          have SA := fun W => run_arrayAt (P := Tryd.prog) W 79 77 16 (some ⟨w3.heap.size, 0, none⟩) 16 17 Tryd.underlying79 (Nat.le_refl _)
          have SP := fun W => signed_p pt0 pt1 W
          have SM := fun W => signed_m pt0 pt1 W
          have Bx := fun W => below_c hx W
          have By := fun W => below_c hy W
          have axy := HF.out.2.1
          have big := HF.out.1
          have FIN : ∀ s : Int, (s = pv t 16 ∨ s = -(pv t 16)) → (dg t 16 = 0 → s = x * y) → (dg t 16 = 0 → (InW s ↔ ok = true) ∧ (InW s → lim s = r)) ∧ ((dg t 16 ≠ 0 ∨ ¬ InW s) → ok = false ∧ r = zeros) := by
            intro s hs0 hs
            have hr := HR.out.1
            have hok := HR.out.2
            refine ⟨fun h => ?_, fun h => ?_⟩
            · rw [hs h, ← hok, ← hr]
              exact ⟨⟨fun h => decide_eq_true h, fun h => of_decide_eq_true h⟩, fun h => by unfold cl; rw [if_pos h]⟩
            · by_cases h0 : dg t 16 = 0
              · have hn : ¬ InW (x * y) := by rw [← hs h0]; rcases h with h | h; exact absurd h0 h; exact h
                rw [← hok, ← hr]
                unfold cl
                rw [if_neg hn, zeros_lim]
                exact ⟨decide_eq_false hn, rfl⟩
              · have hb : 18446744073709551616 ^ 16 ≤ ab x * ab y := by
                  rw [← Pv, vt]
                  have := Int.mul_le_mul_of_nonneg_right (show (1 : Int) ≤ dg t 16 by omega) (show (0 : Int) ≤ 18446744073709551616 ^ 16 by decide)
                  omega
                exact ⟨hok.symm.trans (big hb).2, hr.symm.trans (big hb).1⟩
          have SGN : (decide (x < 0) != decide (y < 0)) = false → dg t 16 = 0 → pv t 16 = x * y := by
            intro h h0
            have e : pv t 16 = ab x * ab y := by rw [← Pv, vt, h0, Int.zero_mul, Int.add_zero]
            rw [e]
            unfold ab
            by_cases h1 : x < 0 <;> by_cases h2 : y < 0 <;> simp only [h1, h2, decide_true, decide_false, if_true, if_false] at h ⊢
            · exact Int.neg_mul_neg x y
            · cases h
            · cases h
          have SGN2 : (decide (x < 0) != decide (y < 0)) = true → dg t 16 = 0 → -(pv t 16) = x * y := by
            intro h h0
            have e : pv t 16 = ab x * ab y := by rw [← Pv, vt, h0, Int.zero_mul, Int.add_zero]
            rw [e]
            unfold ab
            by_cases h1 : x < 0 <;> by_cases h2 : y < 0 <;> simp only [h1, h2, decide_true, decide_false, if_true, if_false] at h ⊢
            · cases h
            · rw [Int.neg_mul, Int.neg_neg]
            · rw [Int.mul_neg, Int.neg_neg]
            · cases h
          have N0 := p0.lt
          have N1 := p1.lt
          have N2 := p2.lt
          have N5 := kt.lt
          have D16 := Lib.hid d16
          clear Bx By
          clear HF HX HY HR tv Pv vt pt0 pt1 lp axy big p3 p4 tz dt hi hlt d16
          generalize hQ : pv t 16 = Q at *
          have FP := FIN Q (.inl rfl)
          have FM := FIN (-Q) (.inr rfl)
          clear FIN
          obtain ⟨ip, hip⟩ : ∃ ip, decide (InW Q) = ip := ⟨_, rfl⟩
          obtain ⟨im, him⟩ : ∃ im, decide (InW (-Q)) = im := ⟨_, rfl⟩
          rw [hip] at SP
          rw [him] at SM
          have HI := Lib.hid (And.intro hip him)
          clear hip him hQ
          have Bx := fun W => below_c hx W
          have By := fun W => below_c hy W
          generalize decide (x < 0) = sx at *
          generalize decide (y < 0) = sy at *
          have HS := Lib.hid (And.intro FP (And.intro FM (And.intro SGN SGN2)))
          clear FP FM SGN SGN2
          go_wp2_with fail
          by_cases hss : sx = sy
          · subst hss
            refine region_steps (fun L a wx => ∃ (x0 x1 x2 x3 x4 x5 x6 x7 x8 x9 x10 x11 x12 x13 x14 x15 x16 x17 x18 x19 x20 x21 x22 x23 x24 x25 x26 x27 x28 x29 x30 x31 x32 x33 x34 x35 x36 x37 x38 x39 x40 x41 x42 x43 x44 x45 x46 x47 x48 x49 x50 x51 x52 x53 x54 x55 x56 x57 x58 x59 x60 x61 x62 x63 x64 x65 x66 x67 x68 x69 x70 x71 x72 x73 x74 x75 x76 x77 x78 x79 x80 x81 x82 x83 x84 x85 x86 x87 x88 x89 x90 x91 x92 x93 x94 x95 x96 x97 x98 x99 x100 x101 x102 x103 x104 x105 x106 x107 x108 x109 x110 x111 x112 x113 x114 x115 x116 x117 : Value) (q12 : Nat), a = { tmps := #[x0, x1, x2, x3, x4, x5, x6, x7, x8, x9, x10, x11, x12, x13, x14, x15, x16, x17, x18, x19, x20, x21, x22, x23, x24, x25, x26, x27, x28, x29, x30, x31, x32, x33, x34, x35, x36, x37, x38, x39, x40, x41, x42, x43, x44, x45, x46, x47, x48, x49, x50, x51, x52, x53, x54, x55, x56, x57, x58, x59, x60, x61, x62, x63, x64, x65, x66, x67, x68, x69, x70, x71, x72, x73, x74, x75, x76, x77, x78, x79, x80, x81, x82, x83, x84, x85, x86, x87, x88, x89, x90, x91, x92, x93, x94, x95, x96, x97, x98, x99, x100, x101, x102, x103, x104, x105, x106, x107, x108, x109, x110, x111, x112, x113, x114, x115, x116, x117], defers := [] } ∧ x2 = .pointer (some ⟨w.heap.size, 0, none⟩) ∧ x3 = .pointer (some ⟨(w.heap.size + 1), 0, none⟩) ∧ x4 = .pointer (some ⟨(w.heap.size + 1 + 1), 0, none⟩) ∧ x5 = .bool false ∧ x10 = .pointer (some ⟨w3.heap.size, 0, none⟩) ∧ (L 0 = true → x98 = .slice (some ⟨w3.heap.size, 0, none⟩) 16 17) ∧ (L 1 = true → x99 = .pointer (some ⟨w3.heap.size, 0, none⟩)) ∧ (L 2 = true → x100 = .agg (U (lim Q))) ∧ (L 3 = true → x101 = .agg (U (lim x))) ∧ (L 4 = true → x102 = .bool sx) ∧ (L 5 = true → x103 = .agg (U (lim y))) ∧ (L 6 = true → x104 = .bool sx) ∧ (L 7 = true → x105 = .bool false) ∧ (L 8 = true → x106 = .tuple #[.agg (U (lim Q)), .bool ip]) ∧ (L 9 = true → x97 = .tuple #[.agg (U (lim Q)), .bool ip]) ∧ (L 10 = true → x107 = .agg (U (lim Q))) ∧ (L 11 = true → x108 = .bool ip) ∧ (L 14 = true → x20 = .bool ip) ∧ (L 12 = true → x19 = .pointer (some ⟨q12, 0, none⟩) ∧ wr.heap.size ≤ q12 ∧ (L 13 = false → Blk wx q12 (U zeros) 79)) ∧ (L 13 = true → L 12 = true ∧ Blk wx q12 (U (lim Q)) 79) ∧ Blk wx w.heap.size (U (lim x)) 79 ∧ Blk wx (w.heap.size + 1) (U (lim y)) 79 ∧ Blk wx (w.heap.size + 1 + 1) (U (zeros)) 79 ∧ Blk wx w3.heap.size (U (t)) 125 ∧ Below wr.heap.size wr wx) [0, 1, 2, 3, 4, 5, 6, 7, 8, 9, 10, 11, 12, 13, 14] (by kernel_rfl) (by kernel_rfl) (by kernel_rfl) ?start ?steps ?fin
            case start =>
              exact ⟨_, _, _, _, _, _, _, _, _, _, _, _, _, _, _, _, _, _, _, _, _, _, _, _, _, _, _, _, _, _, _, _, _, _, _, _, _, _, _, _, _, _, _, _, _, _, _, _, _, _, _, _, _, _, _, _, _, _, _, _, _, _, _, _, _, _, _, _, _, _, _, _, _, _, _, _, _, _, _, _, _, _, _, _, _, _, _, _, _, _, _, _, _, _, _, _, _, _, _, _, _, _, _, _, _, _, _, _, _, _, _, _, _, _, _, _, _, _, 0, rfl, (by first | rfl | simp only [*]), (by first | rfl | simp only [*]), (by first | rfl | simp only [*]), (by first | rfl | simp only [*]), (by first | rfl | simp only [*]), fun h => absurd h (by decide), fun h => absurd h (by decide), fun h => absurd h (by decide), fun h => absurd h (by decide), fun h => absurd h (by decide), fun h => absurd h (by decide), fun h => absurd h (by decide), fun h => absurd h (by decide), fun h => absurd h (by decide), fun h => absurd h (by decide), fun h => absurd h (by decide), fun h => absurd h (by decide), fun h => absurd h (by decide), fun h => absurd h (by decide), fun h => absurd h (by decide), p0.drew, p1.drew, p2.drew, kt.drew, (Below.refl _ _).drew⟩
            case steps =>
              refine Steps.cons rfl (fun L a wx K hK hL hp hI => ?_) ?_
              · refine ex_118 hI (fun x0 x1 x2 x3 x4 x5 x6 x7 x8 x9 x10 x11 x12 x13 x14 x15 x16 x17 x18 x19 x20 x21 x22 x23 x24 x25 x26 x27 x28 x29 x30 x31 x32 x33 x34 x35 x36 x37 x38 x39 x40 x41 x42 x43 x44 x45 x46 x47 x48 x49 x50 x51 x52 x53 x54 x55 x56 x57 x58 x59 x60 x61 x62 x63 x64 x65 x66 x67 x68 x69 x70 x71 x72 x73 x74 x75 x76 x77 x78 x79 x80 x81 x82 x83 x84 x85 x86 x87 x88 x89 x90 x91 x92 x93 x94 x95 x96 x97 x98 x99 x100 x101 x102 x103 x104 x105 x106 x107 x108 x109 x110 x111 x112 x113 x114 x115 x116 x117 hI => ?_)
                obtain ⟨q12, rfl, P2, P3, P4, P5, P10, H0, H1, H2, H3, H4, H5, H6, H7, H8, H9, H10, H11, H14, A12, S12, K0, K1, K2, K3, B2⟩ := hI
                clear hp
                subst P10
                go_simp
                exact hK.out _ _ ⟨_, _, _, _, _, _, _, _, _, _, _, _, _, _, _, _, _, _, _, _, _, _, _, _, _, _, _, _, _, _, _, _, _, _, _, _, _, _, _, _, _, _, _, _, _, _, _, _, _, _, _, _, _, _, _, _, _, _, _, _, _, _, _, _, _, _, _, _, _, _, _, _, _, _, _, _, _, _, _, _, _, _, _, _, _, _, _, _, _, _, _, _, _, _, _, _, _, _, _, _, _, _, _, _, _, _, _, _, _, _, _, _, _, _, _, _, _, _, q12, rfl, (by first | exact P2 | rfl), (by first | exact P3 | rfl), (by first | exact P4 | rfl), (by first | exact P5 | rfl), rfl, fun _ => (by first | rfl | simp), H1, H2, H3, H4, H5, H6, H7, H8, H9, H10, H11, H14, fun h => ⟨(A12 h).1, (A12 h).2.1, fun k => ((A12 h).2.2 k)⟩, fun h => ⟨up_true (S12 h).1, (S12 h).2⟩, K0, K1, K2, K3, B2⟩
              refine Steps.cons rfl (fun L a wx K hK hL hp hI => ?_) ?_
              · refine ex_118 hI (fun x0 x1 x2 x3 x4 x5 x6 x7 x8 x9 x10 x11 x12 x13 x14 x15 x16 x17 x18 x19 x20 x21 x22 x23 x24 x25 x26 x27 x28 x29 x30 x31 x32 x33 x34 x35 x36 x37 x38 x39 x40 x41 x42 x43 x44 x45 x46 x47 x48 x49 x50 x51 x52 x53 x54 x55 x56 x57 x58 x59 x60 x61 x62 x63 x64 x65 x66 x67 x68 x69 x70 x71 x72 x73 x74 x75 x76 x77 x78 x79 x80 x81 x82 x83 x84 x85 x86 x87 x88 x89 x90 x91 x92 x93 x94 x95 x96 x97 x98 x99 x100 x101 x102 x103 x104 x105 x106 x107 x108 x109 x110 x111 x112 x113 x114 x115 x116 x117 hI => ?_)
                obtain ⟨q12, rfl, P2, P3, P4, P5, P10, H0, H1, H2, H3, H4, H5, H6, H7, H8, H9, H10, H11, H14, A12, S12, K0, K1, K2, K3, B2⟩ := hI
                have p0 : L 0 = true := hp ⟨0, .data⟩ (by simp) rfl
                have e0 := H0 p0
                clear hp
                subst e0
                go_simp
                exact hK.out _ _ ⟨_, _, _, _, _, _, _, _, _, _, _, _, _, _, _, _, _, _, _, _, _, _, _, _, _, _, _, _, _, _, _, _, _, _, _, _, _, _, _, _, _, _, _, _, _, _, _, _, _, _, _, _, _, _, _, _, _, _, _, _, _, _, _, _, _, _, _, _, _, _, _, _, _, _, _, _, _, _, _, _, _, _, _, _, _, _, _, _, _, _, _, _, _, _, _, _, _, _, _, _, _, _, _, _, _, _, _, _, _, _, _, _, _, _, _, _, _, _, q12, rfl, (by first | exact P2 | rfl), (by first | exact P3 | rfl), (by first | exact P4 | rfl), (by first | exact P5 | rfl), (by first | exact P10 | rfl), fun _ => rfl, fun _ => (by first | rfl | simp), H2, H3, H4, H5, H6, H7, H8, H9, H10, H11, H14, fun h => ⟨(A12 h).1, (A12 h).2.1, fun k => ((A12 h).2.2 k)⟩, fun h => ⟨up_true (S12 h).1, (S12 h).2⟩, K0, K1, K2, K3, B2⟩
              refine Steps.cons rfl (fun L a wx K hK hL hp hI => ?_) ?_
              · refine ex_118 hI (fun x0 x1 x2 x3 x4 x5 x6 x7 x8 x9 x10 x11 x12 x13 x14 x15 x16 x17 x18 x19 x20 x21 x22 x23 x24 x25 x26 x27 x28 x29 x30 x31 x32 x33 x34 x35 x36 x37 x38 x39 x40 x41 x42 x43 x44 x45 x46 x47 x48 x49 x50 x51 x52 x53 x54 x55 x56 x57 x58 x59 x60 x61 x62 x63 x64 x65 x66 x67 x68 x69 x70 x71 x72 x73 x74 x75 x76 x77 x78 x79 x80 x81 x82 x83 x84 x85 x86 x87 x88 x89 x90 x91 x92 x93 x94 x95 x96 x97 x98 x99 x100 x101 x102 x103 x104 x105 x106 x107 x108 x109 x110 x111 x112 x113 x114 x115 x116 x117 hI => ?_)
                obtain ⟨q12, rfl, P2, P3, P4, P5, P10, H0, H1, H2, H3, H4, H5, H6, H7, H8, H9, H10, H11, H14, A12, S12, K0, K1, K2, K3, B2⟩ := hI
                have p1 : L 1 = true := hp ⟨1, .data⟩ (by simp) rfl
                have e1 := H1 p1
                clear hp
                subst e1
                refine wanted_ (by rfl) ?_
                refine wp_load_mid 79 _ rfl w3.heap.size 0 rfl (U (t.take 16)).toList _ (mid_ K3 h17) Tryd.underlying79 rfl (nT (h17)) ?_
                rw [Array.toArray_toList, hlow]
                (try simp only [Act.put, List.setIfInBounds_toArray, List.set_cons_zero, List.set_cons_succ])
                exact hK.out _ _ ⟨_, _, _, _, _, _, _, _, _, _, _, _, _, _, _, _, _, _, _, _, _, _, _, _, _, _, _, _, _, _, _, _, _, _, _, _, _, _, _, _, _, _, _, _, _, _, _, _, _, _, _, _, _, _, _, _, _, _, _, _, _, _, _, _, _, _, _, _, _, _, _, _, _, _, _, _, _, _, _, _, _, _, _, _, _, _, _, _, _, _, _, _, _, _, _, _, _, _, _, _, _, _, _, _, _, _, _, _, _, _, _, _, _, _, _, _, _, _, q12, rfl, P2, P3, P4, P5, P10, H0, fun _ => rfl, fun _ => rfl, H3, H4, H5, H6, H7, H8, H9, H10, H11, H14, fun h => ⟨(A12 h).1, (A12 h).2.1, fun k => ((A12 h).2.2 k)⟩, fun h => ⟨up_true (S12 h).1, (S12 h).2⟩, K0, K1, K2, K3, B2⟩
              refine Steps.cons rfl (fun L a wx K hK hL hp hI => ?_) ?_
              · refine ex_118 hI (fun x0 x1 x2 x3 x4 x5 x6 x7 x8 x9 x10 x11 x12 x13 x14 x15 x16 x17 x18 x19 x20 x21 x22 x23 x24 x25 x26 x27 x28 x29 x30 x31 x32 x33 x34 x35 x36 x37 x38 x39 x40 x41 x42 x43 x44 x45 x46 x47 x48 x49 x50 x51 x52 x53 x54 x55 x56 x57 x58 x59 x60 x61 x62 x63 x64 x65 x66 x67 x68 x69 x70 x71 x72 x73 x74 x75 x76 x77 x78 x79 x80 x81 x82 x83 x84 x85 x86 x87 x88 x89 x90 x91 x92 x93 x94 x95 x96 x97 x98 x99 x100 x101 x102 x103 x104 x105 x106 x107 x108 x109 x110 x111 x112 x113 x114 x115 x116 x117 hI => ?_)
                obtain ⟨q12, rfl, P2, P3, P4, P5, P10, H0, H1, H2, H3, H4, H5, H6, H7, H8, H9, H10, H11, H14, A12, S12, K0, K1, K2, K3, B2⟩ := hI
                clear hp
                subst P2
                refine wanted_ (by rfl) ?_
                refine wp_load_row 79 _ rfl w.heap.size rfl 79 (U (lim x)) (0, 0) _ K0 Tryd.underlying79 rfl (ofLen la) ?_
                (try simp only [Act.put, List.setIfInBounds_toArray, List.set_cons_zero, List.set_cons_succ])
                exact hK.out _ _ ⟨_, _, _, _, _, _, _, _, _, _, _, _, _, _, _, _, _, _, _, _, _, _, _, _, _, _, _, _, _, _, _, _, _, _, _, _, _, _, _, _, _, _, _, _, _, _, _, _, _, _, _, _, _, _, _, _, _, _, _, _, _, _, _, _, _, _, _, _, _, _, _, _, _, _, _, _, _, _, _, _, _, _, _, _, _, _, _, _, _, _, _, _, _, _, _, _, _, _, _, _, _, _, _, _, _, _, _, _, _, _, _, _, _, _, _, _, _, _, q12, rfl, rfl, P3, P4, P5, P10, H0, H1, H2, fun _ => rfl, H4, H5, H6, H7, H8, H9, H10, H11, H14, fun h => ⟨(A12 h).1, (A12 h).2.1, fun k => ((A12 h).2.2 k)⟩, fun h => ⟨up_true (S12 h).1, (S12 h).2⟩, K0, K1, K2, K3, B2⟩
              refine Steps.cons rfl (fun L a wx K hK hL hp hI => ?_) ?_
              · refine ex_118 hI (fun x0 x1 x2 x3 x4 x5 x6 x7 x8 x9 x10 x11 x12 x13 x14 x15 x16 x17 x18 x19 x20 x21 x22 x23 x24 x25 x26 x27 x28 x29 x30 x31 x32 x33 x34 x35 x36 x37 x38 x39 x40 x41 x42 x43 x44 x45 x46 x47 x48 x49 x50 x51 x52 x53 x54 x55 x56 x57 x58 x59 x60 x61 x62 x63 x64 x65 x66 x67 x68 x69 x70 x71 x72 x73 x74 x75 x76 x77 x78 x79 x80 x81 x82 x83 x84 x85 x86 x87 x88 x89 x90 x91 x92 x93 x94 x95 x96 x97 x98 x99 x100 x101 x102 x103 x104 x105 x106 x107 x108 x109 x110 x111 x112 x113 x114 x115 x116 x117 hI => ?_)
                obtain ⟨q12, rfl, P2, P3, P4, P5, P10, H0, H1, H2, H3, H4, H5, H6, H7, H8, H9, H10, H11, H14, A12, S12, K0, K1, K2, K3, B2⟩ := hI
                have p3 : L 3 = true := hp ⟨3, .data⟩ (by simp) rfl
                have e3 := H3 p3
                clear hp
                subst e3
                refine wanted_ (by rfl) ?_
                refine goesK_ Tryd.func58 (by kernel_rfl) rfl #[.agg (U (lim x))] rfl (by simp [Act.eval]) ?_
                refine (Bx _).mono ?_
                rintro e w' ⟨rfl, g⟩
                refine ⟨_, rfl, ?_⟩
                (try simp only [Act.put, List.setIfInBounds_toArray, List.set_cons_zero, List.set_cons_succ])
                exact hK.out _ _ ⟨_, _, _, _, _, _, _, _, _, _, _, _, _, _, _, _, _, _, _, _, _, _, _, _, _, _, _, _, _, _, _, _, _, _, _, _, _, _, _, _, _, _, _, _, _, _, _, _, _, _, _, _, _, _, _, _, _, _, _, _, _, _, _, _, _, _, _, _, _, _, _, _, _, _, _, _, _, _, _, _, _, _, _, _, _, _, _, _, _, _, _, _, _, _, _, _, _, _, _, _, _, _, _, _, _, _, _, _, _, _, _, _, _, _, _, _, _, _, q12, rfl, P2, P3, P4, P5, P10, H0, H1, H2, fun _ => rfl, fun _ => rfl, H5, H6, H7, H8, H9, H10, H11, H14, fun h => ⟨(A12 h).1, (A12 h).2.1, fun k => (Blk.keep ((A12 h).2.2 k) g)⟩, fun h => ⟨up_true (S12 h).1, (Blk.keep (S12 h).2 g)⟩, (Blk.keep K0 g), (Blk.keep K1 g), (Blk.keep K2 g), (Blk.keep K3 g), bb B2 g⟩
              refine Steps.cons rfl (fun L a wx K hK hL hp hI => ?_) ?_
              · refine ex_118 hI (fun x0 x1 x2 x3 x4 x5 x6 x7 x8 x9 x10 x11 x12 x13 x14 x15 x16 x17 x18 x19 x20 x21 x22 x23 x24 x25 x26 x27 x28 x29 x30 x31 x32 x33 x34 x35 x36 x37 x38 x39 x40 x41 x42 x43 x44 x45 x46 x47 x48 x49 x50 x51 x52 x53 x54 x55 x56 x57 x58 x59 x60 x61 x62 x63 x64 x65 x66 x67 x68 x69 x70 x71 x72 x73 x74 x75 x76 x77 x78 x79 x80 x81 x82 x83 x84 x85 x86 x87 x88 x89 x90 x91 x92 x93 x94 x95 x96 x97 x98 x99 x100 x101 x102 x103 x104 x105 x106 x107 x108 x109 x110 x111 x112 x113 x114 x115 x116 x117 hI => ?_)
                obtain ⟨q12, rfl, P2, P3, P4, P5, P10, H0, H1, H2, H3, H4, H5, H6, H7, H8, H9, H10, H11, H14, A12, S12, K0, K1, K2, K3, B2⟩ := hI
                clear hp
                subst P3
                refine wanted_ (by rfl) ?_
                refine wp_load_row 79 _ rfl (w.heap.size + 1) rfl 79 (U (lim y)) (0, 0) _ K1 Tryd.underlying79 rfl (ofLen lb) ?_
                (try simp only [Act.put, List.setIfInBounds_toArray, List.set_cons_zero, List.set_cons_succ])
                exact hK.out _ _ ⟨_, _, _, _, _, _, _, _, _, _, _, _, _, _, _, _, _, _, _, _, _, _, _, _, _, _, _, _, _, _, _, _, _, _, _, _, _, _, _, _, _, _, _, _, _, _, _, _, _, _, _, _, _, _, _, _, _, _, _, _, _, _, _, _, _, _, _, _, _, _, _, _, _, _, _, _, _, _, _, _, _, _, _, _, _, _, _, _, _, _, _, _, _, _, _, _, _, _, _, _, _, _, _, _, _, _, _, _, _, _, _, _, _, _, _, _, _, _, q12, rfl, P2, rfl, P4, P5, P10, H0, H1, H2, H3, H4, fun _ => rfl, H6, H7, H8, H9, H10, H11, H14, fun h => ⟨(A12 h).1, (A12 h).2.1, fun k => ((A12 h).2.2 k)⟩, fun h => ⟨up_true (S12 h).1, (S12 h).2⟩, K0, K1, K2, K3, B2⟩
              refine Steps.cons rfl (fun L a wx K hK hL hp hI => ?_) ?_
              · refine ex_118 hI (fun x0 x1 x2 x3 x4 x5 x6 x7 x8 x9 x10 x11 x12 x13 x14 x15 x16 x17 x18 x19 x20 x21 x22 x23 x24 x25 x26 x27 x28 x29 x30 x31 x32 x33 x34 x35 x36 x37 x38 x39 x40 x41 x42 x43 x44 x45 x46 x47 x48 x49 x50 x51 x52 x53 x54 x55 x56 x57 x58 x59 x60 x61 x62 x63 x64 x65 x66 x67 x68 x69 x70 x71 x72 x73 x74 x75 x76 x77 x78 x79 x80 x81 x82 x83 x84 x85 x86 x87 x88 x89 x90 x91 x92 x93 x94 x95 x96 x97 x98 x99 x100 x101 x102 x103 x104 x105 x106 x107 x108 x109 x110 x111 x112 x113 x114 x115 x116 x117 hI => ?_)
                obtain ⟨q12, rfl, P2, P3, P4, P5, P10, H0, H1, H2, H3, H4, H5, H6, H7, H8, H9, H10, H11, H14, A12, S12, K0, K1, K2, K3, B2⟩ := hI
                have p5 : L 5 = true := hp ⟨5, .data⟩ (by simp) rfl
                have e5 := H5 p5
                clear hp
                subst e5
                refine wanted_ (by rfl) ?_
                refine goesK_ Tryd.func58 (by kernel_rfl) rfl #[.agg (U (lim y))] rfl (by simp [Act.eval]) ?_
                refine (By _).mono ?_
                rintro e w' ⟨rfl, g⟩
                refine ⟨_, rfl, ?_⟩
                (try simp only [Act.put, List.setIfInBounds_toArray, List.set_cons_zero, List.set_cons_succ])
                exact hK.out _ _ ⟨_, _, _, _, _, _, _, _, _, _, _, _, _, _, _, _, _, _, _, _, _, _, _, _, _, _, _, _, _, _, _, _, _, _, _, _, _, _, _, _, _, _, _, _, _, _, _, _, _, _, _, _, _, _, _, _, _, _, _, _, _, _, _, _, _, _, _, _, _, _, _, _, _, _, _, _, _, _, _, _, _, _, _, _, _, _, _, _, _, _, _, _, _, _, _, _, _, _, _, _, _, _, _, _, _, _, _, _, _, _, _, _, _, _, _, _, _, _, q12, rfl, P2, P3, P4, P5, P10, H0, H1, H2, H3, H4, fun _ => rfl, fun _ => rfl, H7, H8, H9, H10, H11, H14, fun h => ⟨(A12 h).1, (A12 h).2.1, fun k => (Blk.keep ((A12 h).2.2 k) g)⟩, fun h => ⟨up_true (S12 h).1, (Blk.keep (S12 h).2 g)⟩, (Blk.keep K0 g), (Blk.keep K1 g), (Blk.keep K2 g), (Blk.keep K3 g), bb B2 g⟩
              refine Steps.cons rfl (fun L a wx K hK hL hp hI => ?_) ?_
              · refine ex_118 hI (fun x0 x1 x2 x3 x4 x5 x6 x7 x8 x9 x10 x11 x12 x13 x14 x15 x16 x17 x18 x19 x20 x21 x22 x23 x24 x25 x26 x27 x28 x29 x30 x31 x32 x33 x34 x35 x36 x37 x38 x39 x40 x41 x42 x43 x44 x45 x46 x47 x48 x49 x50 x51 x52 x53 x54 x55 x56 x57 x58 x59 x60 x61 x62 x63 x64 x65 x66 x67 x68 x69 x70 x71 x72 x73 x74 x75 x76 x77 x78 x79 x80 x81 x82 x83 x84 x85 x86 x87 x88 x89 x90 x91 x92 x93 x94 x95 x96 x97 x98 x99 x100 x101 x102 x103 x104 x105 x106 x107 x108 x109 x110 x111 x112 x113 x114 x115 x116 x117 hI => ?_)
                obtain ⟨q12, rfl, P2, P3, P4, P5, P10, H0, H1, H2, H3, H4, H5, H6, H7, H8, H9, H10, H11, H14, A12, S12, K0, K1, K2, K3, B2⟩ := hI
                have p4 : L 4 = true := hp ⟨4, .data⟩ (by simp) rfl
                have e4 := H4 p4
                have p6 : L 6 = true := hp ⟨6, .data⟩ (by simp) rfl
                have e6 := H6 p6
                clear hp
                subst e4 e6
                go_simp
                exact hK.out _ _ ⟨_, _, _, _, _, _, _, _, _, _, _, _, _, _, _, _, _, _, _, _, _, _, _, _, _, _, _, _, _, _, _, _, _, _, _, _, _, _, _, _, _, _, _, _, _, _, _, _, _, _, _, _, _, _, _, _, _, _, _, _, _, _, _, _, _, _, _, _, _, _, _, _, _, _, _, _, _, _, _, _, _, _, _, _, _, _, _, _, _, _, _, _, _, _, _, _, _, _, _, _, _, _, _, _, _, _, _, _, _, _, _, _, _, _, _, _, _, _, q12, rfl, (by first | exact P2 | rfl), (by first | exact P3 | rfl), (by first | exact P4 | rfl), (by first | exact P5 | rfl), (by first | exact P10 | rfl), H0, H1, H2, H3, fun _ => rfl, H5, fun _ => rfl, fun _ => (by first | rfl | simp), H8, H9, H10, H11, H14, fun h => ⟨(A12 h).1, (A12 h).2.1, fun k => ((A12 h).2.2 k)⟩, fun h => ⟨up_true (S12 h).1, (S12 h).2⟩, K0, K1, K2, K3, B2⟩
              refine Steps.cons rfl (fun L a wx K hK hL hp hI => ?_) ?_
              · refine ex_118 hI (fun x0 x1 x2 x3 x4 x5 x6 x7 x8 x9 x10 x11 x12 x13 x14 x15 x16 x17 x18 x19 x20 x21 x22 x23 x24 x25 x26 x27 x28 x29 x30 x31 x32 x33 x34 x35 x36 x37 x38 x39 x40 x41 x42 x43 x44 x45 x46 x47 x48 x49 x50 x51 x52 x53 x54 x55 x56 x57 x58 x59 x60 x61 x62 x63 x64 x65 x66 x67 x68 x69 x70 x71 x72 x73 x74 x75 x76 x77 x78 x79 x80 x81 x82 x83 x84 x85 x86 x87 x88 x89 x90 x91 x92 x93 x94 x95 x96 x97 x98 x99 x100 x101 x102 x103 x104 x105 x106 x107 x108 x109 x110 x111 x112 x113 x114 x115 x116 x117 hI => ?_)
                obtain ⟨q12, rfl, P2, P3, P4, P5, P10, H0, H1, H2, H3, H4, H5, H6, H7, H8, H9, H10, H11, H14, A12, S12, K0, K1, K2, K3, B2⟩ := hI
                have p2 : L 2 = true := hp ⟨2, .data⟩ (by simp) rfl
                have e2 := H2 p2
                have p7 : L 7 = true := hp ⟨7, .data⟩ (by simp) rfl
                have e7 := H7 p7
                clear hp
                subst e2 e7
                refine wanted_ (by rfl) ?_
                refine goesK_ Tryd.func75 (by kernel_rfl) rfl #[.agg (U (lim Q)), .bool false] rfl (by simp [Act.eval]) ?_
                refine (SP _).mono ?_
                rintro e w' ⟨rfl, g⟩
                refine ⟨_, rfl, ?_⟩
                (try simp only [Act.put, List.setIfInBounds_toArray, List.set_cons_zero, List.set_cons_succ])
                exact hK.out _ _ ⟨_, _, _, _, _, _, _, _, _, _, _, _, _, _, _, _, _, _, _, _, _, _, _, _, _, _, _, _, _, _, _, _, _, _, _, _, _, _, _, _, _, _, _, _, _, _, _, _, _, _, _, _, _, _, _, _, _, _, _, _, _, _, _, _, _, _, _, _, _, _, _, _, _, _, _, _, _, _, _, _, _, _, _, _, _, _, _, _, _, _, _, _, _, _, _, _, _, _, _, _, _, _, _, _, _, _, _, _, _, _, _, _, _, _, _, _, _, _, q12, rfl, P2, P3, P4, P5, P10, H0, H1, fun _ => rfl, H3, H4, H5, H6, fun _ => rfl, fun _ => rfl, H9, H10, H11, H14, fun h => ⟨(A12 h).1, (A12 h).2.1, fun k => (Blk.keep ((A12 h).2.2 k) g)⟩, fun h => ⟨up_true (S12 h).1, (Blk.keep (S12 h).2 g)⟩, (Blk.keep K0 g), (Blk.keep K1 g), (Blk.keep K2 g), (Blk.keep K3 g), bb B2 g⟩
              refine Steps.cons rfl (fun L a wx K hK hL hp hI => ?_) ?_
              · refine ex_118 hI (fun x0 x1 x2 x3 x4 x5 x6 x7 x8 x9 x10 x11 x12 x13 x14 x15 x16 x17 x18 x19 x20 x21 x22 x23 x24 x25 x26 x27 x28 x29 x30 x31 x32 x33 x34 x35 x36 x37 x38 x39 x40 x41 x42 x43 x44 x45 x46 x47 x48 x49 x50 x51 x52 x53 x54 x55 x56 x57 x58 x59 x60 x61 x62 x63 x64 x65 x66 x67 x68 x69 x70 x71 x72 x73 x74 x75 x76 x77 x78 x79 x80 x81 x82 x83 x84 x85 x86 x87 x88 x89 x90 x91 x92 x93 x94 x95 x96 x97 x98 x99 x100 x101 x102 x103 x104 x105 x106 x107 x108 x109 x110 x111 x112 x113 x114 x115 x116 x117 hI => ?_)
                obtain ⟨q12, rfl, P2, P3, P4, P5, P10, H0, H1, H2, H3, H4, H5, H6, H7, H8, H9, H10, H11, H14, A12, S12, K0, K1, K2, K3, B2⟩ := hI
                have p8 : L 8 = true := hp ⟨8, .data⟩ (by simp) rfl
                have e8 := H8 p8
                clear hp
                subst e8
                go_simp
                exact hK.out _ _ ⟨_, _, _, _, _, _, _, _, _, _, _, _, _, _, _, _, _, _, _, _, _, _, _, _, _, _, _, _, _, _, _, _, _, _, _, _, _, _, _, _, _, _, _, _, _, _, _, _, _, _, _, _, _, _, _, _, _, _, _, _, _, _, _, _, _, _, _, _, _, _, _, _, _, _, _, _, _, _, _, _, _, _, _, _, _, _, _, _, _, _, _, _, _, _, _, _, _, _, _, _, _, _, _, _, _, _, _, _, _, _, _, _, _, _, _, _, _, _, q12, rfl, (by first | exact P2 | rfl), (by first | exact P3 | rfl), (by first | exact P4 | rfl), (by first | exact P5 | rfl), (by first | exact P10 | rfl), H0, H1, H2, H3, H4, H5, H6, H7, fun _ => rfl, fun _ => (by first | rfl | simp), H10, H11, H14, fun h => ⟨(A12 h).1, (A12 h).2.1, fun k => ((A12 h).2.2 k)⟩, fun h => ⟨up_true (S12 h).1, (S12 h).2⟩, K0, K1, K2, K3, B2⟩
              refine Steps.cons rfl (fun L a wx K hK hL hp hI => ?_) ?_
              · refine ex_118 hI (fun x0 x1 x2 x3 x4 x5 x6 x7 x8 x9 x10 x11 x12 x13 x14 x15 x16 x17 x18 x19 x20 x21 x22 x23 x24 x25 x26 x27 x28 x29 x30 x31 x32 x33 x34 x35 x36 x37 x38 x39 x40 x41 x42 x43 x44 x45 x46 x47 x48 x49 x50 x51 x52 x53 x54 x55 x56 x57 x58 x59 x60 x61 x62 x63 x64 x65 x66 x67 x68 x69 x70 x71 x72 x73 x74 x75 x76 x77 x78 x79 x80 x81 x82 x83 x84 x85 x86 x87 x88 x89 x90 x91 x92 x93 x94 x95 x96 x97 x98 x99 x100 x101 x102 x103 x104 x105 x106 x107 x108 x109 x110 x111 x112 x113 x114 x115 x116 x117 hI => ?_)
                obtain ⟨q12, rfl, P2, P3, P4, P5, P10, H0, H1, H2, H3, H4, H5, H6, H7, H8, H9, H10, H11, H14, A12, S12, K0, K1, K2, K3, B2⟩ := hI
                have p9 : L 9 = true := hp ⟨9, .data⟩ (by simp) rfl
                have e9 := H9 p9
                clear hp
                subst e9
                go_simp
                exact hK.out _ _ ⟨_, _, _, _, _, _, _, _, _, _, _, _, _, _, _, _, _, _, _, _, _, _, _, _, _, _, _, _, _, _, _, _, _, _, _, _, _, _, _, _, _, _, _, _, _, _, _, _, _, _, _, _, _, _, _, _, _, _, _, _, _, _, _, _, _, _, _, _, _, _, _, _, _, _, _, _, _, _, _, _, _, _, _, _, _, _, _, _, _, _, _, _, _, _, _, _, _, _, _, _, _, _, _, _, _, _, _, _, _, _, _, _, _, _, _, _, _, _, q12, rfl, (by first | exact P2 | rfl), (by first | exact P3 | rfl), (by first | exact P4 | rfl), (by first | exact P5 | rfl), (by first | exact P10 | rfl), H0, H1, H2, H3, H4, H5, H6, H7, H8, fun _ => rfl, fun _ => (by first | rfl | simp), H11, H14, fun h => ⟨(A12 h).1, (A12 h).2.1, fun k => ((A12 h).2.2 k)⟩, fun h => ⟨up_true (S12 h).1, (S12 h).2⟩, K0, K1, K2, K3, B2⟩
              refine Steps.cons rfl (fun L a wx K hK hL hp hI => ?_) ?_
              · refine ex_118 hI (fun x0 x1 x2 x3 x4 x5 x6 x7 x8 x9 x10 x11 x12 x13 x14 x15 x16 x17 x18 x19 x20 x21 x22 x23 x24 x25 x26 x27 x28 x29 x30 x31 x32 x33 x34 x35 x36 x37 x38 x39 x40 x41 x42 x43 x44 x45 x46 x47 x48 x49 x50 x51 x52 x53 x54 x55 x56 x57 x58 x59 x60 x61 x62 x63 x64 x65 x66 x67 x68 x69 x70 x71 x72 x73 x74 x75 x76 x77 x78 x79 x80 x81 x82 x83 x84 x85 x86 x87 x88 x89 x90 x91 x92 x93 x94 x95 x96 x97 x98 x99 x100 x101 x102 x103 x104 x105 x106 x107 x108 x109 x110 x111 x112 x113 x114 x115 x116 x117 hI => ?_)
                obtain ⟨q12, rfl, P2, P3, P4, P5, P10, H0, H1, H2, H3, H4, H5, H6, H7, H8, H9, H10, H11, H14, A12, S12, K0, K1, K2, K3, B2⟩ := hI
                have p9 : L 9 = true := hp ⟨9, .data⟩ (by simp) rfl
                have e9 := H9 p9
                clear hp
                subst e9
                go_simp
                exact hK.out _ _ ⟨_, _, _, _, _, _, _, _, _, _, _, _, _, _, _, _, _, _, _, _, _, _, _, _, _, _, _, _, _, _, _, _, _, _, _, _, _, _, _, _, _, _, _, _, _, _, _, _, _, _, _, _, _, _, _, _, _, _, _, _, _, _, _, _, _, _, _, _, _, _, _, _, _, _, _, _, _, _, _, _, _, _, _, _, _, _, _, _, _, _, _, _, _, _, _, _, _, _, _, _, _, _, _, _, _, _, _, _, _, _, _, _, _, _, _, _, _, _, q12, rfl, (by first | exact P2 | rfl), (by first | exact P3 | rfl), (by first | exact P4 | rfl), (by first | exact P5 | rfl), (by first | exact P10 | rfl), H0, H1, H2, H3, H4, H5, H6, H7, H8, fun _ => rfl, H10, fun _ => (by first | rfl | simp), H14, fun h => ⟨(A12 h).1, (A12 h).2.1, fun k => ((A12 h).2.2 k)⟩, fun h => ⟨up_true (S12 h).1, (S12 h).2⟩, K0, K1, K2, K3, B2⟩
              refine Steps.cons rfl (fun L a wx K hK hL hp hI => ?_) ?_
              · refine ex_118 hI (fun x0 x1 x2 x3 x4 x5 x6 x7 x8 x9 x10 x11 x12 x13 x14 x15 x16 x17 x18 x19 x20 x21 x22 x23 x24 x25 x26 x27 x28 x29 x30 x31 x32 x33 x34 x35 x36 x37 x38 x39 x40 x41 x42 x43 x44 x45 x46 x47 x48 x49 x50 x51 x52 x53 x54 x55 x56 x57 x58 x59 x60 x61 x62 x63 x64 x65 x66 x67 x68 x69 x70 x71 x72 x73 x74 x75 x76 x77 x78 x79 x80 x81 x82 x83 x84 x85 x86 x87 x88 x89 x90 x91 x92 x93 x94 x95 x96 x97 x98 x99 x100 x101 x102 x103 x104 x105 x106 x107 x108 x109 x110 x111 x112 x113 x114 x115 x116 x117 hI => ?_)
                obtain ⟨q12, rfl, P2, P3, P4, P5, P10, H0, H1, H2, H3, H4, H5, H6, H7, H8, H9, H10, H11, H14, A12, S12, K0, K1, K2, K3, B2⟩ := hI
                have hst : ¬ L 13 = true := fun h => absurd (S12 h).1 (by simp [hL])
                clear hp
                go_simp
                exact hK.out _ _ ⟨_, _, _, _, _, _, _, _, _, _, _, _, _, _, _, _, _, _, _, _, _, _, _, _, _, _, _, _, _, _, _, _, _, _, _, _, _, _, _, _, _, _, _, _, _, _, _, _, _, _, _, _, _, _, _, _, _, _, _, _, _, _, _, _, _, _, _, _, _, _, _, _, _, _, _, _, _, _, _, _, _, _, _, _, _, _, _, _, _, _, _, _, _, _, _, _, _, _, _, _, _, _, _, _, _, _, _, _, _, _, _, _, _, _, _, _, _, _, wx.heap.size, rfl, (by first | exact P2 | rfl), (by first | exact P3 | rfl), (by first | exact P4 | rfl), (by first | exact P5 | rfl), (by first | exact P10 | rfl), H0, H1, H2, H3, H4, H5, H6, H7, H8, H9, H10, H11, H14, fun _ => ⟨rfl, B2.size, fun _ => Blk.new _ _ _⟩, fun h => absurd (S12 h).1 (by simp [hL]), (Blk.alloc K0 _), (Blk.alloc K1 _), (Blk.alloc K2 _), (Blk.alloc K3 _), bb B2 ((Below.refl _ _).alloc (Nat.le_refl _) _)⟩
              refine Steps.cons rfl (fun L a wx K hK hL hp hI => ?_) ?_
              · refine ex_118 hI (fun x0 x1 x2 x3 x4 x5 x6 x7 x8 x9 x10 x11 x12 x13 x14 x15 x16 x17 x18 x19 x20 x21 x22 x23 x24 x25 x26 x27 x28 x29 x30 x31 x32 x33 x34 x35 x36 x37 x38 x39 x40 x41 x42 x43 x44 x45 x46 x47 x48 x49 x50 x51 x52 x53 x54 x55 x56 x57 x58 x59 x60 x61 x62 x63 x64 x65 x66 x67 x68 x69 x70 x71 x72 x73 x74 x75 x76 x77 x78 x79 x80 x81 x82 x83 x84 x85 x86 x87 x88 x89 x90 x91 x92 x93 x94 x95 x96 x97 x98 x99 x100 x101 x102 x103 x104 x105 x106 x107 x108 x109 x110 x111 x112 x113 x114 x115 x116 x117 hI => ?_)
                obtain ⟨q12, rfl, P2, P3, P4, P5, P10, H0, H1, H2, H3, H4, H5, H6, H7, H8, H9, H10, H11, H14, A12, S12, K0, K1, K2, K3, B2⟩ := hI
                have p12 : L 12 = true := hp ⟨12, .data⟩ (by simp) rfl
                obtain ⟨e12, z12, f12⟩ := A12 p12
                have p10 : L 10 = true := hp ⟨10, .data⟩ (by simp) rfl
                have e10 := H10 p10
                clear hp
                subst e12 e10
                have NE_0 : w.heap.size ≠ q12 := by have := N0; omega
                have NE_1 : (w.heap.size + 1) ≠ q12 := by have := N1; omega
                have NE_2 : (w.heap.size + 1 + 1) ≠ q12 := by have := N2; omega
                have NE_3 : w3.heap.size ≠ q12 := by have := N5; omega
                refine wanted_ (by rfl) ?_
                refine wp_store_row 79 _ _ rfl q12 (U (lim Q)) rfl rfl 79 (U zeros) (f12 hL) (ofLen lq) (by rw [U_size, U_size, lq, zeros_len]) (one_cell _) ?_
                (try simp only [Act.put, List.setIfInBounds_toArray, List.set_cons_zero, List.set_cons_succ])
                exact hK.out _ _ ⟨_, _, _, _, _, _, _, _, _, _, _, _, _, _, _, _, _, _, _, _, _, _, _, _, _, _, _, _, _, _, _, _, _, _, _, _, _, _, _, _, _, _, _, _, _, _, _, _, _, _, _, _, _, _, _, _, _, _, _, _, _, _, _, _, _, _, _, _, _, _, _, _, _, _, _, _, _, _, _, _, _, _, _, _, _, _, _, _, _, _, _, _, _, _, _, _, _, _, _, _, _, _, _, _, _, _, _, _, _, _, _, _, _, _, _, _, _, _, q12, rfl, P2, P3, P4, P5, P10, H0, H1, H2, H3, H4, H5, H6, H7, H8, H9, fun _ => rfl, H11, H14, fun _ => ⟨rfl, z12, fun h => absurd h (by simp [YInv.up])⟩, fun _ => ⟨up_true p12, put_ (f12 hL)⟩, (far_ K0 (NE_0)), (far_ K1 (NE_1)), (far_ K2 (NE_2)), (far_ K3 (NE_3)), below_row B2 z12 _⟩
              refine Steps.cons rfl (fun L a wx K hK hL hp hI => ?_) ?_
              · refine ex_118 hI (fun x0 x1 x2 x3 x4 x5 x6 x7 x8 x9 x10 x11 x12 x13 x14 x15 x16 x17 x18 x19 x20 x21 x22 x23 x24 x25 x26 x27 x28 x29 x30 x31 x32 x33 x34 x35 x36 x37 x38 x39 x40 x41 x42 x43 x44 x45 x46 x47 x48 x49 x50 x51 x52 x53 x54 x55 x56 x57 x58 x59 x60 x61 x62 x63 x64 x65 x66 x67 x68 x69 x70 x71 x72 x73 x74 x75 x76 x77 x78 x79 x80 x81 x82 x83 x84 x85 x86 x87 x88 x89 x90 x91 x92 x93 x94 x95 x96 x97 x98 x99 x100 x101 x102 x103 x104 x105 x106 x107 x108 x109 x110 x111 x112 x113 x114 x115 x116 x117 hI => ?_)
                obtain ⟨q12, rfl, P2, P3, P4, P5, P10, H0, H1, H2, H3, H4, H5, H6, H7, H8, H9, H10, H11, H14, A12, S12, K0, K1, K2, K3, B2⟩ := hI
                have p11 : L 11 = true := hp ⟨11, .data⟩ (by simp) rfl
                have e11 := H11 p11
                clear hp
                subst e11
                go_simp
                exact hK.out _ _ ⟨_, _, _, _, _, _, _, _, _, _, _, _, _, _, _, _, _, _, _, _, _, _, _, _, _, _, _, _, _, _, _, _, _, _, _, _, _, _, _, _, _, _, _, _, _, _, _, _, _, _, _, _, _, _, _, _, _, _, _, _, _, _, _, _, _, _, _, _, _, _, _, _, _, _, _, _, _, _, _, _, _, _, _, _, _, _, _, _, _, _, _, _, _, _, _, _, _, _, _, _, _, _, _, _, _, _, _, _, _, _, _, _, _, _, _, _, _, _, q12, rfl, (by first | exact P2 | rfl), (by first | exact P3 | rfl), (by first | exact P4 | rfl), (by first | exact P5 | rfl), (by first | exact P10 | rfl), H0, H1, H2, H3, H4, H5, H6, H7, H8, H9, H10, fun _ => rfl, fun _ => (by first | rfl | simp), fun h => ⟨(A12 h).1, (A12 h).2.1, fun k => ((A12 h).2.2 k)⟩, fun h => ⟨up_true (S12 h).1, (S12 h).2⟩, K0, K1, K2, K3, B2⟩
              exact Steps.nil
            case fin =>
              intro L a wx hall hI
              refine ex_118 hI (fun x0 x1 x2 x3 x4 x5 x6 x7 x8 x9 x10 x11 x12 x13 x14 x15 x16 x17 x18 x19 x20 x21 x22 x23 x24 x25 x26 x27 x28 x29 x30 x31 x32 x33 x34 x35 x36 x37 x38 x39 x40 x41 x42 x43 x44 x45 x46 x47 x48 x49 x50 x51 x52 x53 x54 x55 x56 x57 x58 x59 x60 x61 x62 x63 x64 x65 x66 x67 x68 x69 x70 x71 x72 x73 x74 x75 x76 x77 x78 x79 x80 x81 x82 x83 x84 x85 x86 x87 x88 x89 x90 x91 x92 x93 x94 x95 x96 x97 x98 x99 x100 x101 x102 x103 x104 x105 x106 x107 x108 x109 x110 x111 x112 x113 x114 x115 x116 x117 hI => ?_)
              obtain ⟨q12, rfl, P2, P3, P4, P5, P10, H0, H1, H2, H3, H4, H5, H6, H7, H8, H9, H10, H11, H14, A12, S12, K0, K1, K2, K3, B2⟩ := hI
              have E0 := H0 (hall 0 (by decide))
              have E1 := H1 (hall 1 (by decide))
              have E2 := H2 (hall 2 (by decide))
              have E3 := H3 (hall 3 (by decide))
              have E4 := H4 (hall 4 (by decide))
              have E5 := H5 (hall 5 (by decide))
              have E6 := H6 (hall 6 (by decide))
              have E7 := H7 (hall 7 (by decide))
              have E8 := H8 (hall 8 (by decide))
              have E9 := H9 (hall 9 (by decide))
              have E10 := H10 (hall 10 (by decide))
              have E11 := H11 (hall 11 (by decide))
              obtain ⟨E12, Z12, -⟩ := A12 (hall 12 (by decide))
              have KS12 := (S12 (hall 13 (by decide))).2
              have E14 := H14 (hall 14 (by decide))
              clear hall H0 H1 H2 H3 H4 H5 H6 H7 H8 H9 H10 H11 H14 A12 S12
              subst E0 E1 E2 E3 E4 E5 E6 E7 E8 E9 E10 E11 E12 E14 P2 P3 P4 P5 P10
              have c16 : wx.cell? ⟨w3.heap.size, 16, none⟩ = some (.int .u64 (dg t 16)) := by rw [K3.cell, U_at (by omega)]
              have bX := bb pb B2
              clear SP SM Bx By p0 p1 p2 kt pb B2 K0 K1 hI L SA hlow
              have zw : w.heap.size ≤ w3.heap.size := zb
              have sgn := HS.out.2.2.1 (by first | rfl | simp | (cases sx <;> rfl))
              obtain ⟨F1, F2⟩ := HS.out.1 sgn
              clear HS sgn
              cases hib : ip
              · obtain ⟨rfl, rfl⟩ := F2 (.inr (of_decide_eq_false (HI.out.1.trans hib)))
                subst hib
                clear F1 F2 HI
                go_wp2_with (refine stW K2 zeros_len zeros_len _ _ rfl rfl rfl rfl ?_)
                exact bodyPost_ret (res2 Tryd.results52 _ rfl (put_ K2) zeros_len) rfl ⟨rfl, below_row bX (by omega) _⟩
              · have hin := of_decide_eq_true (HI.out.1.trans hib)
                subst hib
                by_cases h0 : dg t 16 = 0
                · obtain rfl := (F1 h0).1.1 hin
                  obtain rfl := (F1 h0).2 hin
                  have e0 : (dg t 16 != 0) = false := by simpa using h0
                  clear F1 F2 HI hin h0
                  go_wp2_with (first | (refine ldW KS12 lq _ rfl rfl rfl ?_) | (refine stW K2 zeros_len lq _ _ rfl rfl rfl rfl ?_))
                  exact bodyPost_ret (res2 Tryd.results52 _ rfl (put_ K2) lq) rfl ⟨rfl, below_row bX (by omega) _⟩
                · obtain ⟨rfl, rfl⟩ := F2 (.inl h0)
                  have e0 : (dg t 16 != 0) = true := by simpa using h0
                  clear F1 F2 HI hin h0
                  go_wp2_with (refine stW K2 zeros_len zeros_len _ _ rfl rfl rfl rfl ?_)
                  exact bodyPost_ret (res2 Tryd.results52 _ rfl (put_ K2) zeros_len) rfl ⟨rfl, below_row bX (by omega) _⟩
          · obtain rfl : sy = (!sx) := by revert hss; cases sx <;> cases sy <;> simp
            refine region_steps (fun L a wx => ∃ (x0 x1 x2 x3 x4 x5 x6 x7 x8 x9 x10 x11 x12 x13 x14 x15 x16 x17 x18 x19 x20 x21 x22 x23 x24 x25 x26 x27 x28 x29 x30 x31 x32 x33 x34 x35 x36 x37 x38 x39 x40 x41 x42 x43 x44 x45 x46 x47 x48 x49 x50 x51 x52 x53 x54 x55 x56 x57 x58 x59 x60 x61 x62 x63 x64 x65 x66 x67 x68 x69 x70 x71 x72 x73 x74 x75 x76 x77 x78 x79 x80 x81 x82 x83 x84 x85 x86 x87 x88 x89 x90 x91 x92 x93 x94 x95 x96 x97 x98 x99 x100 x101 x102 x103 x104 x105 x106 x107 x108 x109 x110 x111 x112 x113 x114 x115 x116 x117 : Value) (q12 : Nat), a = { tmps := #[x0, x1, x2, x3, x4, x5, x6, x7, x8, x9, x10, x11, x12, x13, x14, x15, x16, x17, x18, x19, x20, x21, x22, x23, x24, x25, x26, x27, x28, x29, x30, x31, x32, x33, x34, x35, x36, x37, x38, x39, x40, x41, x42, x43, x44, x45, x46, x47, x48, x49, x50, x51, x52, x53, x54, x55, x56, x57, x58, x59, x60, x61, x62, x63, x64, x65, x66, x67, x68, x69, x70, x71, x72, x73, x74, x75, x76, x77, x78, x79, x80, x81, x82, x83, x84, x85, x86, x87, x88, x89, x90, x91, x92, x93, x94, x95, x96, x97, x98, x99, x100, x101, x102, x103, x104, x105, x106, x107, x108, x109, x110, x111, x112, x113, x114, x115, x116, x117], defers := [] } ∧ x2 = .pointer (some ⟨w.heap.size, 0, none⟩) ∧ x3 = .pointer (some ⟨(w.heap.size + 1), 0, none⟩) ∧ x4 = .pointer (some ⟨(w.heap.size + 1 + 1), 0, none⟩) ∧ x5 = .bool false ∧ x10 = .pointer (some ⟨w3.heap.size, 0, none⟩) ∧ (L 0 = true → x98 = .slice (some ⟨w3.heap.size, 0, none⟩) 16 17) ∧ (L 1 = true → x99 = .pointer (some ⟨w3.heap.size, 0, none⟩)) ∧ (L 2 = true → x100 = .agg (U (lim Q))) ∧ (L 3 = true → x101 = .agg (U (lim x))) ∧ (L 4 = true → x102 = .bool sx) ∧ (L 5 = true → x103 = .agg (U (lim y))) ∧ (L 6 = true → x104 = .bool (!sx)) ∧ (L 7 = true → x105 = .bool true) ∧ (L 8 = true → x106 = .tuple #[.agg (U (lim (-Q))), .bool im]) ∧ (L 9 = true → x97 = .tuple #[.agg (U (lim (-Q))), .bool im]) ∧ (L 10 = true → x107 = .agg (U (lim (-Q)))) ∧ (L 11 = true → x108 = .bool im) ∧ (L 14 = true → x20 = .bool im) ∧ (L 12 = true → x19 = .pointer (some ⟨q12, 0, none⟩) ∧ wr.heap.size ≤ q12 ∧ (L 13 = false → Blk wx q12 (U zeros) 79)) ∧ (L 13 = true → L 12 = true ∧ Blk wx q12 (U (lim (-Q))) 79) ∧ Blk wx w.heap.size (U (lim x)) 79 ∧ Blk wx (w.heap.size + 1) (U (lim y)) 79 ∧ Blk wx (w.heap.size + 1 + 1) (U (zeros)) 79 ∧ Blk wx w3.heap.size (U (t)) 125 ∧ Below wr.heap.size wr wx) [0, 1, 2, 3, 4, 5, 6, 7, 8, 9, 10, 11, 12, 13, 14] (by kernel_rfl) (by kernel_rfl) (by kernel_rfl) ?start ?steps ?fin
            case start =>
              exact ⟨_, _, _, _, _, _, _, _, _, _, _, _, _, _, _, _, _, _, _, _, _, _, _, _, _, _, _, _, _, _, _, _, _, _, _, _, _, _, _, _, _, _, _, _, _, _, _, _, _, _, _, _, _, _, _, _, _, _, _, _, _, _, _, _, _, _, _, _, _, _, _, _, _, _, _, _, _, _, _, _, _, _, _, _, _, _, _, _, _, _, _, _, _, _, _, _, _, _, _, _, _, _, _, _, _, _, _, _, _, _, _, _, _, _, _, _, _, _, 0, rfl, (by first | rfl | simp only [*]), (by first | rfl | simp only [*]), (by first | rfl | simp only [*]), (by first | rfl | simp only [*]), (by first | rfl | simp only [*]), fun h => absurd h (by decide), fun h => absurd h (by decide), fun h => absurd h (by decide), fun h => absurd h (by decide), fun h => absurd h (by decide), fun h => absurd h (by decide), fun h => absurd h (by decide), fun h => absurd h (by decide), fun h => absurd h (by decide), fun h => absurd h (by decide), fun h => absurd h (by decide), fun h => absurd h (by decide), fun h => absurd h (by decide), fun h => absurd h (by decide), fun h => absurd h (by decide), p0.drew, p1.drew, p2.drew, kt.drew, (Below.refl _ _).drew⟩
            case steps =>
              refine Steps.cons rfl (fun L a wx K hK hL hp hI => ?_) ?_
              · refine ex_118 hI (fun x0 x1 x2 x3 x4 x5 x6 x7 x8 x9 x10 x11 x12 x13 x14 x15 x16 x17 x18 x19 x20 x21 x22 x23 x24 x25 x26 x27 x28 x29 x30 x31 x32 x33 x34 x35 x36 x37 x38 x39 x40 x41 x42 x43 x44 x45 x46 x47 x48 x49 x50 x51 x52 x53 x54 x55 x56 x57 x58 x59 x60 x61 x62 x63 x64 x65 x66 x67 x68 x69 x70 x71 x72 x73 x74 x75 x76 x77 x78 x79 x80 x81 x82 x83 x84 x85 x86 x87 x88 x89 x90 x91 x92 x93 x94 x95 x96 x97 x98 x99 x100 x101 x102 x103 x104 x105 x106 x107 x108 x109 x110 x111 x112 x113 x114 x115 x116 x117 hI => ?_)
                obtain ⟨q12, rfl, P2, P3, P4, P5, P10, H0, H1, H2, H3, H4, H5, H6, H7, H8, H9, H10, H11, H14, A12, S12, K0, K1, K2, K3, B2⟩ := hI
                clear hp
                subst P10
                go_simp
                exact hK.out _ _ ⟨_, _, _, _, _, _, _, _, _, _, _, _, _, _, _, _, _, _, _, _, _, _, _, _, _, _, _, _, _, _, _, _, _, _, _, _, _, _, _, _, _, _, _, _, _, _, _, _, _, _, _, _, _, _, _, _, _, _, _, _, _, _, _, _, _, _, _, _, _, _, _, _, _, _, _, _, _, _, _, _, _, _, _, _, _, _, _, _, _, _, _, _, _, _, _, _, _, _, _, _, _, _, _, _, _, _, _, _, _, _, _, _, _, _, _, _, _, _, q12, rfl, (by first | exact P2 | rfl), (by first | exact P3 | rfl), (by first | exact P4 | rfl), (by first | exact P5 | rfl), rfl, fun _ => (by first | rfl | simp), H1, H2, H3, H4, H5, H6, H7, H8, H9, H10, H11, H14, fun h => ⟨(A12 h).1, (A12 h).2.1, fun k => ((A12 h).2.2 k)⟩, fun h => ⟨up_true (S12 h).1, (S12 h).2⟩, K0, K1, K2, K3, B2⟩
              refine Steps.cons rfl (fun L a wx K hK hL hp hI => ?_) ?_
              · refine ex_118 hI (fun x0 x1 x2 x3 x4 x5 x6 x7 x8 x9 x10 x11 x12 x13 x14 x15 x16 x17 x18 x19 x20 x21 x22 x23 x24 x25 x26 x27 x28 x29 x30 x31 x32 x33 x34 x35 x36 x37 x38 x39 x40 x41 x42 x43 x44 x45 x46 x47 x48 x49 x50 x51 x52 x53 x54 x55 x56 x57 x58 x59 x60 x61 x62 x63 x64 x65 x66 x67 x68 x69 x70 x71 x72 x73 x74 x75 x76 x77 x78 x79 x80 x81 x82 x83 x84 x85 x86 x87 x88 x89 x90 x91 x92 x93 x94 x95 x96 x97 x98 x99 x100 x101 x102 x103 x104 x105 x106 x107 x108 x109 x110 x111 x112 x113 x114 x115 x116 x117 hI => ?_)
                obtain ⟨q12, rfl, P2, P3, P4, P5, P10, H0, H1, H2, H3, H4, H5, H6, H7, H8, H9, H10, H11, H14, A12, S12, K0, K1, K2, K3, B2⟩ := hI
                have p0 : L 0 = true := hp ⟨0, .data⟩ (by simp) rfl
                have e0 := H0 p0
                clear hp
                subst e0
                go_simp
                exact hK.out _ _ ⟨_, _, _, _, _, _, _, _, _, _, _, _, _, _, _, _, _, _, _, _, _, _, _, _, _, _, _, _, _, _, _, _, _, _, _, _, _, _, _, _, _, _, _, _, _, _, _, _, _, _, _, _, _, _, _, _, _, _, _, _, _, _, _, _, _, _, _, _, _, _, _, _, _, _, _, _, _, _, _, _, _, _, _, _, _, _, _, _, _, _, _, _, _, _, _, _, _, _, _, _, _, _, _, _, _, _, _, _, _, _, _, _, _, _, _, _, _, _, q12, rfl, (by first | exact P2 | rfl), (by first | exact P3 | rfl), (by first | exact P4 | rfl), (by first | exact P5 | rfl), (by first | exact P10 | rfl), fun _ => rfl, fun _ => (by first | rfl | simp), H2, H3, H4, H5, H6, H7, H8, H9, H10, H11, H14, fun h => ⟨(A12 h).1, (A12 h).2.1, fun k => ((A12 h).2.2 k)⟩, fun h => ⟨up_true (S12 h).1, (S12 h).2⟩, K0, K1, K2, K3, B2⟩
              refine Steps.cons rfl (fun L a wx K hK hL hp hI => ?_) ?_
              · refine ex_118 hI (fun x0 x1 x2 x3 x4 x5 x6 x7 x8 x9 x10 x11 x12 x13 x14 x15 x16 x17 x18 x19 x20 x21 x22 x23 x24 x25 x26 x27 x28 x29 x30 x31 x32 x33 x34 x35 x36 x37 x38 x39 x40 x41 x42 x43 x44 x45 x46 x47 x48 x49 x50 x51 x52 x53 x54 x55 x56 x57 x58 x59 x60 x61 x62 x63 x64 x65 x66 x67 x68 x69 x70 x71 x72 x73 x74 x75 x76 x77 x78 x79 x80 x81 x82 x83 x84 x85 x86 x87 x88 x89 x90 x91 x92 x93 x94 x95 x96 x97 x98 x99 x100 x101 x102 x103 x104 x105 x106 x107 x108 x109 x110 x111 x112 x113 x114 x115 x116 x117 hI => ?_)
                obtain ⟨q12, rfl, P2, P3, P4, P5, P10, H0, H1, H2, H3, H4, H5, H6, H7, H8, H9, H10, H11, H14, A12, S12, K0, K1, K2, K3, B2⟩ := hI
                have p1 : L 1 = true := hp ⟨1, .data⟩ (by simp) rfl
                have e1 := H1 p1
                clear hp
                subst e1
                refine wanted_ (by rfl) ?_
                refine wp_load_mid 79 _ rfl w3.heap.size 0 rfl (U (t.take 16)).toList _ (mid_ K3 h17) Tryd.underlying79 rfl (nT (h17)) ?_
                rw [Array.toArray_toList, hlow]
                (try simp only [Act.put, List.setIfInBounds_toArray, List.set_cons_zero, List.set_cons_succ])
                exact hK.out _ _ ⟨_, _, _, _, _, _, _, _, _, _, _, _, _, _, _, _, _, _, _, _, _, _, _, _, _, _, _, _, _, _, _, _, _, _, _, _, _, _, _, _, _, _, _, _, _, _, _, _, _, _, _, _, _, _, _, _, _, _, _, _, _, _, _, _, _, _, _, _, _, _, _, _, _, _, _, _, _, _, _, _, _, _, _, _, _, _, _, _, _, _, _, _, _, _, _, _, _, _, _, _, _, _, _, _, _, _, _, _, _, _, _, _, _, _, _, _, _, _, q12, rfl, P2, P3, P4, P5, P10, H0, fun _ => rfl, fun _ => rfl, H3, H4, H5, H6, H7, H8, H9, H10, H11, H14, fun h => ⟨(A12 h).1, (A12 h).2.1, fun k => ((A12 h).2.2 k)⟩, fun h => ⟨up_true (S12 h).1, (S12 h).2⟩, K0, K1, K2, K3, B2⟩
              refine Steps.cons rfl (fun L a wx K hK hL hp hI => ?_) ?_
              · refine ex_118 hI (fun x0 x1 x2 x3 x4 x5 x6 x7 x8 x9 x10 x11 x12 x13 x14 x15 x16 x17 x18 x19 x20 x21 x22 x23 x24 x25 x26 x27 x28 x29 x30 x31 x32 x33 x34 x35 x36 x37 x38 x39 x40 x41 x42 x43 x44 x45 x46 x47 x48 x49 x50 x51 x52 x53 x54 x55 x56 x57 x58 x59 x60 x61 x62 x63 x64 x65 x66 x67 x68 x69 x70 x71 x72 x73 x74 x75 x76 x77 x78 x79 x80 x81 x82 x83 x84 x85 x86 x87 x88 x89 x90 x91 x92 x93 x94 x95 x96 x97 x98 x99 x100 x101 x102 x103 x104 x105 x106 x107 x108 x109 x110 x111 x112 x113 x114 x115 x116 x117 hI => ?_)
                obtain ⟨q12, rfl, P2, P3, P4, P5, P10, H0, H1, H2, H3, H4, H5, H6, H7, H8, H9, H10, H11, H14, A12, S12, K0, K1, K2, K3, B2⟩ := hI
                clear hp
                subst P2
                refine wanted_ (by rfl) ?_
                refine wp_load_row 79 _ rfl w.heap.size rfl 79 (U (lim x)) (0, 0) _ K0 Tryd.underlying79 rfl (ofLen la) ?_
                (try simp only [Act.put, List.setIfInBounds_toArray, List.set_cons_zero, List.set_cons_succ])
                exact hK.out _ _ ⟨_, _, _, _, _, _, _, _, _, _, _, _, _, _, _, _, _, _, _, _, _, _, _, _, _, _, _, _, _, _, _, _, _, _, _, _, _, _, _, _, _, _, _, _, _, _, _, _, _, _, _, _, _, _, _, _, _, _, _, _, _, _, _, _, _, _, _, _, _, _, _, _, _, _, _, _, _, _, _, _, _, _, _, _, _, _, _, _, _, _, _, _, _, _, _, _, _, _, _, _, _, _, _, _, _, _, _, _, _, _, _, _, _, _, _, _, _, _, q12, rfl, rfl, P3, P4, P5, P10, H0, H1, H2, fun _ => rfl, H4, H5, H6, H7, H8, H9, H10, H11, H14, fun h => ⟨(A12 h).1, (A12 h).2.1, fun k => ((A12 h).2.2 k)⟩, fun h => ⟨up_true (S12 h).1, (S12 h).2⟩, K0, K1, K2, K3, B2⟩
              refine Steps.cons rfl (fun L a wx K hK hL hp hI => ?_) ?_
              · refine ex_118 hI (fun x0 x1 x2 x3 x4 x5 x6 x7 x8 x9 x10 x11 x12 x13 x14 x15 x16 x17 x18 x19 x20 x21 x22 x23 x24 x25 x26 x27 x28 x29 x30 x31 x32 x33 x34 x35 x36 x37 x38 x39 x40 x41 x42 x43 x44 x45 x46 x47 x48 x49 x50 x51 x52 x53 x54 x55 x56 x57 x58 x59 x60 x61 x62 x63 x64 x65 x66 x67 x68 x69 x70 x71 x72 x73 x74 x75 x76 x77 x78 x79 x80 x81 x82 x83 x84 x85 x86 x87 x88 x89 x90 x91 x92 x93 x94 x95 x96 x97 x98 x99 x100 x101 x102 x103 x104 x105 x106 x107 x108 x109 x110 x111 x112 x113 x114 x115 x116 x117 hI => ?_)
                obtain ⟨q12, rfl, P2, P3, P4, P5, P10, H0, H1, H2, H3, H4, H5, H6, H7, H8, H9, H10, H11, H14, A12, S12, K0, K1, K2, K3, B2⟩ := hI
                have p3 : L 3 = true := hp ⟨3, .data⟩ (by simp) rfl
                have e3 := H3 p3
                clear hp
                subst e3
                refine wanted_ (by rfl) ?_
                refine goesK_ Tryd.func58 (by kernel_rfl) rfl #[.agg (U (lim x))] rfl (by simp [Act.eval]) ?_
                refine (Bx _).mono ?_
                rintro e w' ⟨rfl, g⟩
                refine ⟨_, rfl, ?_⟩
                (try simp only [Act.put, List.setIfInBounds_toArray, List.set_cons_zero, List.set_cons_succ])
                exact hK.out _ _ ⟨_, _, _, _, _, _, _, _, _, _, _, _, _, _, _, _, _, _, _, _, _, _, _, _, _, _, _, _, _, _, _, _, _, _, _, _, _, _, _, _, _, _, _, _, _, _, _, _, _, _, _, _, _, _, _, _, _, _, _, _, _, _, _, _, _, _, _, _, _, _, _, _, _, _, _, _, _, _, _, _, _, _, _, _, _, _, _, _, _, _, _, _, _, _, _, _, _, _, _, _, _, _, _, _, _, _, _, _, _, _, _, _, _, _, _, _, _, _, q12, rfl, P2, P3, P4, P5, P10, H0, H1, H2, fun _ => rfl, fun _ => rfl, H5, H6, H7, H8, H9, H10, H11, H14, fun h => ⟨(A12 h).1, (A12 h).2.1, fun k => (Blk.keep ((A12 h).2.2 k) g)⟩, fun h => ⟨up_true (S12 h).1, (Blk.keep (S12 h).2 g)⟩, (Blk.keep K0 g), (Blk.keep K1 g), (Blk.keep K2 g), (Blk.keep K3 g), bb B2 g⟩
              refine Steps.cons rfl (fun L a wx K hK hL hp hI => ?_) ?_
              · refine ex_118 hI (fun x0 x1 x2 x3 x4 x5 x6 x7 x8 x9 x10 x11 x12 x13 x14 x15 x16 x17 x18 x19 x20 x21 x22 x23 x24 x25 x26 x27 x28 x29 x30 x31 x32 x33 x34 x35 x36 x37 x38 x39 x40 x41 x42 x43 x44 x45 x46 x47 x48 x49 x50 x51 x52 x53 x54 x55 x56 x57 x58 x59 x60 x61 x62 x63 x64 x65 x66 x67 x68 x69 x70 x71 x72 x73 x74 x75 x76 x77 x78 x79 x80 x81 x82 x83 x84 x85 x86 x87 x88 x89 x90 x91 x92 x93 x94 x95 x96 x97 x98 x99 x100 x101 x102 x103 x104 x105 x106 x107 x108 x109 x110 x111 x112 x113 x114 x115 x116 x117 hI => ?_)
                obtain ⟨q12, rfl, P2, P3, P4, P5, P10, H0, H1, H2, H3, H4, H5, H6, H7, H8, H9, H10, H11, H14, A12, S12, K0, K1, K2, K3, B2⟩ := hI
                clear hp
                subst P3
                refine wanted_ (by rfl) ?_
                refine wp_load_row 79 _ rfl (w.heap.size + 1) rfl 79 (U (lim y)) (0, 0) _ K1 Tryd.underlying79 rfl (ofLen lb) ?_
                (try simp only [Act.put, List.setIfInBounds_toArray, List.set_cons_zero, List.set_cons_succ])
                exact hK.out _ _ ⟨_, _, _, _, _, _, _, _, _, _, _, _, _, _, _, _, _, _, _, _, _, _, _, _, _, _, _, _, _, _, _, _, _, _, _, _, _, _, _, _, _, _, _, _, _, _, _, _, _, _, _, _, _, _, _, _, _, _, _, _, _, _, _, _, _, _, _, _, _, _, _, _, _, _, _, _, _, _, _, _, _, _, _, _, _, _, _, _, _, _, _, _, _, _, _, _, _, _, _, _, _, _, _, _, _, _, _, _, _, _, _, _, _, _, _, _, _, _, q12, rfl, P2, rfl, P4, P5, P10, H0, H1, H2, H3, H4, fun _ => rfl, H6, H7, H8, H9, H10, H11, H14, fun h => ⟨(A12 h).1, (A12 h).2.1, fun k => ((A12 h).2.2 k)⟩, fun h => ⟨up_true (S12 h).1, (S12 h).2⟩, K0, K1, K2, K3, B2⟩
              refine Steps.cons rfl (fun L a wx K hK hL hp hI => ?_) ?_
              · refine ex_118 hI (fun x0 x1 x2 x3 x4 x5 x6 x7 x8 x9 x10 x11 x12 x13 x14 x15 x16 x17 x18 x19 x20 x21 x22 x23 x24 x25 x26 x27 x28 x29 x30 x31 x32 x33 x34 x35 x36 x37 x38 x39 x40 x41 x42 x43 x44 x45 x46 x47 x48 x49 x50 x51 x52 x53 x54 x55 x56 x57 x58 x59 x60 x61 x62 x63 x64 x65 x66 x67 x68 x69 x70 x71 x72 x73 x74 x75 x76 x77 x78 x79 x80 x81 x82 x83 x84 x85 x86 x87 x88 x89 x90 x91 x92 x93 x94 x95 x96 x97 x98 x99 x100 x101 x102 x103 x104 x105 x106 x107 x108 x109 x110 x111 x112 x113 x114 x115 x116 x117 hI => ?_)
                obtain ⟨q12, rfl, P2, P3, P4, P5, P10, H0, H1, H2, H3, H4, H5, H6, H7, H8, H9, H10, H11, H14, A12, S12, K0, K1, K2, K3, B2⟩ := hI
                have p5 : L 5 = true := hp ⟨5, .data⟩ (by simp) rfl
                have e5 := H5 p5
                clear hp
                subst e5
                refine wanted_ (by rfl) ?_
                refine goesK_ Tryd.func58 (by kernel_rfl) rfl #[.agg (U (lim y))] rfl (by simp [Act.eval]) ?_
                refine (By _).mono ?_
                rintro e w' ⟨rfl, g⟩
                refine ⟨_, rfl, ?_⟩
                (try simp only [Act.put, List.setIfInBounds_toArray, List.set_cons_zero, List.set_cons_succ])
                exact hK.out _ _ ⟨_, _, _, _, _, _, _, _, _, _, _, _, _, _, _, _, _, _, _, _, _, _, _, _, _, _, _, _, _, _, _, _, _, _, _, _, _, _, _, _, _, _, _, _, _, _, _, _, _, _, _, _, _, _, _, _, _, _, _, _, _, _, _, _, _, _, _, _, _, _, _, _, _, _, _, _, _, _, _, _, _, _, _, _, _, _, _, _, _, _, _, _, _, _, _, _, _, _, _, _, _, _, _, _, _, _, _, _, _, _, _, _, _, _, _, _, _, _, q12, rfl, P2, P3, P4, P5, P10, H0, H1, H2, H3, H4, fun _ => rfl, fun _ => rfl, H7, H8, H9, H10, H11, H14, fun h => ⟨(A12 h).1, (A12 h).2.1, fun k => (Blk.keep ((A12 h).2.2 k) g)⟩, fun h => ⟨up_true (S12 h).1, (Blk.keep (S12 h).2 g)⟩, (Blk.keep K0 g), (Blk.keep K1 g), (Blk.keep K2 g), (Blk.keep K3 g), bb B2 g⟩
              refine Steps.cons rfl (fun L a wx K hK hL hp hI => ?_) ?_
              · refine ex_118 hI (fun x0 x1 x2 x3 x4 x5 x6 x7 x8 x9 x10 x11 x12 x13 x14 x15 x16 x17 x18 x19 x20 x21 x22 x23 x24 x25 x26 x27 x28 x29 x30 x31 x32 x33 x34 x35 x36 x37 x38 x39 x40 x41 x42 x43 x44 x45 x46 x47 x48 x49 x50 x51 x52 x53 x54 x55 x56 x57 x58 x59 x60 x61 x62 x63 x64 x65 x66 x67 x68 x69 x70 x71 x72 x73 x74 x75 x76 x77 x78 x79 x80 x81 x82 x83 x84 x85 x86 x87 x88 x89 x90 x91 x92 x93 x94 x95 x96 x97 x98 x99 x100 x101 x102 x103 x104 x105 x106 x107 x108 x109 x110 x111 x112 x113 x114 x115 x116 x117 hI => ?_)
                obtain ⟨q12, rfl, P2, P3, P4, P5, P10, H0, H1, H2, H3, H4, H5, H6, H7, H8, H9, H10, H11, H14, A12, S12, K0, K1, K2, K3, B2⟩ := hI
                have p4 : L 4 = true := hp ⟨4, .data⟩ (by simp) rfl
                have e4 := H4 p4
                have p6 : L 6 = true := hp ⟨6, .data⟩ (by simp) rfl
                have e6 := H6 p6
                clear hp
                subst e4 e6
                go_simp
                exact hK.out _ _ ⟨_, _, _, _, _, _, _, _, _, _, _, _, _, _, _, _, _, _, _, _, _, _, _, _, _, _, _, _, _, _, _, _, _, _, _, _, _, _, _, _, _, _, _, _, _, _, _, _, _, _, _, _, _, _, _, _, _, _, _, _, _, _, _, _, _, _, _, _, _, _, _, _, _, _, _, _, _, _, _, _, _, _, _, _, _, _, _, _, _, _, _, _, _, _, _, _, _, _, _, _, _, _, _, _, _, _, _, _, _, _, _, _, _, _, _, _, _, _, q12, rfl, (by first | exact P2 | rfl), (by first | exact P3 | rfl), (by first | exact P4 | rfl), (by first | exact P5 | rfl), (by first | exact P10 | rfl), H0, H1, H2, H3, fun _ => rfl, H5, fun _ => rfl, fun _ => (by first | rfl | simp), H8, H9, H10, H11, H14, fun h => ⟨(A12 h).1, (A12 h).2.1, fun k => ((A12 h).2.2 k)⟩, fun h => ⟨up_true (S12 h).1, (S12 h).2⟩, K0, K1, K2, K3, B2⟩
              refine Steps.cons rfl (fun L a wx K hK hL hp hI => ?_) ?_
              · refine ex_118 hI (fun x0 x1 x2 x3 x4 x5 x6 x7 x8 x9 x10 x11 x12 x13 x14 x15 x16 x17 x18 x19 x20 x21 x22 x23 x24 x25 x26 x27 x28 x29 x30 x31 x32 x33 x34 x35 x36 x37 x38 x39 x40 x41 x42 x43 x44 x45 x46 x47 x48 x49 x50 x51 x52 x53 x54 x55 x56 x57 x58 x59 x60 x61 x62 x63 x64 x65 x66 x67 x68 x69 x70 x71 x72 x73 x74 x75 x76 x77 x78 x79 x80 x81 x82 x83 x84 x85 x86 x87 x88 x89 x90 x91 x92 x93 x94 x95 x96 x97 x98 x99 x100 x101 x102 x103 x104 x105 x106 x107 x108 x109 x110 x111 x112 x113 x114 x115 x116 x117 hI => ?_)
                obtain ⟨q12, rfl, P2, P3, P4, P5, P10, H0, H1, H2, H3, H4, H5, H6, H7, H8, H9, H10, H11, H14, A12, S12, K0, K1, K2, K3, B2⟩ := hI
                have p2 : L 2 = true := hp ⟨2, .data⟩ (by simp) rfl
                have e2 := H2 p2
                have p7 : L 7 = true := hp ⟨7, .data⟩ (by simp) rfl
                have e7 := H7 p7
                clear hp
                subst e2 e7
                refine wanted_ (by rfl) ?_
                refine goesK_ Tryd.func75 (by kernel_rfl) rfl #[.agg (U (lim Q)), .bool true] rfl (by simp [Act.eval]) ?_
                refine (SM _).mono ?_
                rintro e w' ⟨rfl, g⟩
                refine ⟨_, rfl, ?_⟩
                (try simp only [Act.put, List.setIfInBounds_toArray, List.set_cons_zero, List.set_cons_succ])
                exact hK.out _ _ ⟨_, _, _, _, _, _, _, _, _, _, _, _, _, _, _, _, _, _, _, _, _, _, _, _, _, _, _, _, _, _, _, _, _, _, _, _, _, _, _, _, _, _, _, _, _, _, _, _, _, _, _, _, _, _, _, _, _, _, _, _, _, _, _, _, _, _, _, _, _, _, _, _, _, _, _, _, _, _, _, _, _, _, _, _, _, _, _, _, _, _, _, _, _, _, _, _, _, _, _, _, _, _, _, _, _, _, _, _, _, _, _, _, _, _, _, _, _, _, q12, rfl, P2, P3, P4, P5, P10, H0, H1, fun _ => rfl, H3, H4, H5, H6, fun _ => rfl, fun _ => rfl, H9, H10, H11, H14, fun h => ⟨(A12 h).1, (A12 h).2.1, fun k => (Blk.keep ((A12 h).2.2 k) g)⟩, fun h => ⟨up_true (S12 h).1, (Blk.keep (S12 h).2 g)⟩, (Blk.keep K0 g), (Blk.keep K1 g), (Blk.keep K2 g), (Blk.keep K3 g), bb B2 g⟩
              refine Steps.cons rfl (fun L a wx K hK hL hp hI => ?_) ?_
              · refine ex_118 hI (fun x0 x1 x2 x3 x4 x5 x6 x7 x8 x9 x10 x11 x12 x13 x14 x15 x16 x17 x18 x19 x20 x21 x22 x23 x24 x25 x26 x27 x28 x29 x30 x31 x32 x33 x34 x35 x36 x37 x38 x39 x40 x41 x42 x43 x44 x45 x46 x47 x48 x49 x50 x51 x52 x53 x54 x55 x56 x57 x58 x59 x60 x61 x62 x63 x64 x65 x66 x67 x68 x69 x70 x71 x72 x73 x74 x75 x76 x77 x78 x79 x80 x81 x82 x83 x84 x85 x86 x87 x88 x89 x90 x91 x92 x93 x94 x95 x96 x97 x98 x99 x100 x101 x102 x103 x104 x105 x106 x107 x108 x109 x110 x111 x112 x113 x114 x115 x116 x117 hI => ?_)
                obtain ⟨q12, rfl, P2, P3, P4, P5, P10, H0, H1, H2, H3, H4, H5, H6, H7, H8, H9, H10, H11, H14, A12, S12, K0, K1, K2, K3, B2⟩ := hI
                have p8 : L 8 = true := hp ⟨8, .data⟩ (by simp) rfl
                have e8 := H8 p8
                clear hp
                subst e8
                go_simp
                exact hK.out _ _ ⟨_, _, _, _, _, _, _, _, _, _, _, _, _, _, _, _, _, _, _, _, _, _, _, _, _, _, _, _, _, _, _, _, _, _, _, _, _, _, _, _, _, _, _, _, _, _, _, _, _, _, _, _, _, _, _, _, _, _, _, _, _, _, _, _, _, _, _, _, _, _, _, _, _, _, _, _, _, _, _, _, _, _, _, _, _, _, _, _, _, _, _, _, _, _, _, _, _, _, _, _, _, _, _, _, _, _, _, _, _, _, _, _, _, _, _, _, _, _, q12, rfl, (by first | exact P2 | rfl), (by first | exact P3 | rfl), (by first | exact P4 | rfl), (by first | exact P5 | rfl), (by first | exact P10 | rfl), H0, H1, H2, H3, H4, H5, H6, H7, fun _ => rfl, fun _ => (by first | rfl | simp), H10, H11, H14, fun h => ⟨(A12 h).1, (A12 h).2.1, fun k => ((A12 h).2.2 k)⟩, fun h => ⟨up_true (S12 h).1, (S12 h).2⟩, K0, K1, K2, K3, B2⟩
              refine Steps.cons rfl (fun L a wx K hK hL hp hI => ?_) ?_
              · refine ex_118 hI (fun x0 x1 x2 x3 x4 x5 x6 x7 x8 x9 x10 x11 x12 x13 x14 x15 x16 x17 x18 x19 x20 x21 x22 x23 x24 x25 x26 x27 x28 x29 x30 x31 x32 x33 x34 x35 x36 x37 x38 x39 x40 x41 x42 x43 x44 x45 x46 x47 x48 x49 x50 x51 x52 x53 x54 x55 x56 x57 x58 x59 x60 x61 x62 x63 x64 x65 x66 x67 x68 x69 x70 x71 x72 x73 x74 x75 x76 x77 x78 x79 x80 x81 x82 x83 x84 x85 x86 x87 x88 x89 x90 x91 x92 x93 x94 x95 x96 x97 x98 x99 x100 x101 x102 x103 x104 x105 x106 x107 x108 x109 x110 x111 x112 x113 x114 x115 x116 x117 hI => ?_)
                obtain ⟨q12, rfl, P2, P3, P4, P5, P10, H0, H1, H2, H3, H4, H5, H6, H7, H8, H9, H10, H11, H14, A12, S12, K0, K1, K2, K3, B2⟩ := hI
                have p9 : L 9 = true := hp ⟨9, .data⟩ (by simp) rfl
                have e9 := H9 p9
                clear hp
                subst e9
                go_simp
                exact hK.out _ _ ⟨_, _, _, _, _, _, _, _, _, _, _, _, _, _, _, _, _, _, _, _, _, _, _, _, _, _, _, _, _, _, _, _, _, _, _, _, _, _, _, _, _, _, _, _, _, _, _, _, _, _, _, _, _, _, _, _, _, _, _, _, _, _, _, _, _, _, _, _, _, _, _, _, _, _, _, _, _, _, _, _, _, _, _, _, _, _, _, _, _, _, _, _, _, _, _, _, _, _, _, _, _, _, _, _, _, _, _, _, _, _, _, _, _, _, _, _, _, _, q12, rfl, (by first | exact P2 | rfl), (by first | exact P3 | rfl), (by first | exact P4 | rfl), (by first | exact P5 | rfl), (by first | exact P10 | rfl), H0, H1, H2, H3, H4, H5, H6, H7, H8, fun _ => rfl, fun _ => (by first | rfl | simp), H11, H14, fun h => ⟨(A12 h).1, (A12 h).2.1, fun k => ((A12 h).2.2 k)⟩, fun h => ⟨up_true (S12 h).1, (S12 h).2⟩, K0, K1, K2, K3, B2⟩
              refine Steps.cons rfl (fun L a wx K hK hL hp hI => ?_) ?_
              · refine ex_118 hI (fun x0 x1 x2 x3 x4 x5 x6 x7 x8 x9 x10 x11 x12 x13 x14 x15 x16 x17 x18 x19 x20 x21 x22 x23 x24 x25 x26 x27 x28 x29 x30 x31 x32 x33 x34 x35 x36 x37 x38 x39 x40 x41 x42 x43 x44 x45 x46 x47 x48 x49 x50 x51 x52 x53 x54 x55 x56 x57 x58 x59 x60 x61 x62 x63 x64 x65 x66 x67 x68 x69 x70 x71 x72 x73 x74 x75 x76 x77 x78 x79 x80 x81 x82 x83 x84 x85 x86 x87 x88 x89 x90 x91 x92 x93 x94 x95 x96 x97 x98 x99 x100 x101 x102 x103 x104 x105 x106 x107 x108 x109 x110 x111 x112 x113 x114 x115 x116 x117 hI => ?_)
                obtain ⟨q12, rfl, P2, P3, P4, P5, P10, H0, H1, H2, H3, H4, H5, H6, H7, H8, H9, H10, H11, H14, A12, S12, K0, K1, K2, K3, B2⟩ := hI
                have p9 : L 9 = true := hp ⟨9, .data⟩ (by simp) rfl
                have e9 := H9 p9
                clear hp
                subst e9
                go_simp
                exact hK.out _ _ ⟨_, _, _, _, _, _, _, _, _, _, _, _, _, _, _, _, _, _, _, _, _, _, _, _, _, _, _, _, _, _, _, _, _, _, _, _, _, _, _, _, _, _, _, _, _, _, _, _, _, _, _, _, _, _, _, _, _, _, _, _, _, _, _, _, _, _, _, _, _, _, _, _, _, _, _, _, _, _, _, _, _, _, _, _, _, _, _, _, _, _, _, _, _, _, _, _, _, _, _, _, _, _, _, _, _, _, _, _, _, _, _, _, _, _, _, _, _, _, q12, rfl, (by first | exact P2 | rfl), (by first | exact P3 | rfl), (by first | exact P4 | rfl), (by first | exact P5 | rfl), (by first | exact P10 | rfl), H0, H1, H2, H3, H4, H5, H6, H7, H8, fun _ => rfl, H10, fun _ => (by first | rfl | simp), H14, fun h => ⟨(A12 h).1, (A12 h).2.1, fun k => ((A12 h).2.2 k)⟩, fun h => ⟨up_true (S12 h).1, (S12 h).2⟩, K0, K1, K2, K3, B2⟩
              refine Steps.cons rfl (fun L a wx K hK hL hp hI => ?_) ?_
              · refine ex_118 hI (fun x0 x1 x2 x3 x4 x5 x6 x7 x8 x9 x10 x11 x12 x13 x14 x15 x16 x17 x18 x19 x20 x21 x22 x23 x24 x25 x26 x27 x28 x29 x30 x31 x32 x33 x34 x35 x36 x37 x38 x39 x40 x41 x42 x43 x44 x45 x46 x47 x48 x49 x50 x51 x52 x53 x54 x55 x56 x57 x58 x59 x60 x61 x62 x63 x64 x65 x66 x67 x68 x69 x70 x71 x72 x73 x74 x75 x76 x77 x78 x79 x80 x81 x82 x83 x84 x85 x86 x87 x88 x89 x90 x91 x92 x93 x94 x95 x96 x97 x98 x99 x100 x101 x102 x103 x104 x105 x106 x107 x108 x109 x110 x111 x112 x113 x114 x115 x116 x117 hI => ?_)
                obtain ⟨q12, rfl, P2, P3, P4, P5, P10, H0, H1, H2, H3, H4, H5, H6, H7, H8, H9, H10, H11, H14, A12, S12, K0, K1, K2, K3, B2⟩ := hI
                have hst : ¬ L 13 = true := fun h => absurd (S12 h).1 (by simp [hL])
                clear hp
                go_simp
                exact hK.out _ _ ⟨_, _, _, _, _, _, _, _, _, _, _, _, _, _, _, _, _, _, _, _, _, _, _, _, _, _, _, _, _, _, _, _, _, _, _, _, _, _, _, _, _, _, _, _, _, _, _, _, _, _, _, _, _, _, _, _, _, _, _, _, _, _, _, _, _, _, _, _, _, _, _, _, _, _, _, _, _, _, _, _, _, _, _, _, _, _, _, _, _, _, _, _, _, _, _, _, _, _, _, _, _, _, _, _, _, _, _, _, _, _, _, _, _, _, _, _, _, _, wx.heap.size, rfl, (by first | exact P2 | rfl), (by first | exact P3 | rfl), (by first | exact P4 | rfl), (by first | exact P5 | rfl), (by first | exact P10 | rfl), H0, H1, H2, H3, H4, H5, H6, H7, H8, H9, H10, H11, H14, fun _ => ⟨rfl, B2.size, fun _ => Blk.new _ _ _⟩, fun h => absurd (S12 h).1 (by simp [hL]), (Blk.alloc K0 _), (Blk.alloc K1 _), (Blk.alloc K2 _), (Blk.alloc K3 _), bb B2 ((Below.refl _ _).alloc (Nat.le_refl _) _)⟩
              refine Steps.cons rfl (fun L a wx K hK hL hp hI => ?_) ?_
              · refine ex_118 hI (fun x0 x1 x2 x3 x4 x5 x6 x7 x8 x9 x10 x11 x12 x13 x14 x15 x16 x17 x18 x19 x20 x21 x22 x23 x24 x25 x26 x27 x28 x29 x30 x31 x32 x33 x34 x35 x36 x37 x38 x39 x40 x41 x42 x43 x44 x45 x46 x47 x48 x49 x50 x51 x52 x53 x54 x55 x56 x57 x58 x59 x60 x61 x62 x63 x64 x65 x66 x67 x68 x69 x70 x71 x72 x73 x74 x75 x76 x77 x78 x79 x80 x81 x82 x83 x84 x85 x86 x87 x88 x89 x90 x91 x92 x93 x94 x95 x96 x97 x98 x99 x100 x101 x102 x103 x104 x105 x106 x107 x108 x109 x110 x111 x112 x113 x114 x115 x116 x117 hI => ?_)
                obtain ⟨q12, rfl, P2, P3, P4, P5, P10, H0, H1, H2, H3, H4, H5, H6, H7, H8, H9, H10, H11, H14, A12, S12, K0, K1, K2, K3, B2⟩ := hI
                have p12 : L 12 = true := hp ⟨12, .data⟩ (by simp) rfl
                obtain ⟨e12, z12, f12⟩ := A12 p12
                have p10 : L 10 = true := hp ⟨10, .data⟩ (by simp) rfl
                have e10 := H10 p10
                clear hp
                subst e12 e10
                have NE_0 : w.heap.size ≠ q12 := by have := N0; omega
                have NE_1 : (w.heap.size + 1) ≠ q12 := by have := N1; omega
                have NE_2 : (w.heap.size + 1 + 1) ≠ q12 := by have := N2; omega
                have NE_3 : w3.heap.size ≠ q12 := by have := N5; omega
                refine wanted_ (by rfl) ?_
                refine wp_store_row 79 _ _ rfl q12 (U (lim (-Q))) rfl rfl 79 (U zeros) (f12 hL) (ofLen lqn) (by rw [U_size, U_size, lqn, zeros_len]) (one_cell _) ?_
                (try simp only [Act.put, List.setIfInBounds_toArray, List.set_cons_zero, List.set_cons_succ])
                exact hK.out _ _ ⟨_, _, _, _, _, _, _, _, _, _, _, _, _, _, _, _, _, _, _, _, _, _, _, _, _, _, _, _, _, _, _, _, _, _, _, _, _, _, _, _, _, _, _, _, _, _, _, _, _, _, _, _, _, _, _, _, _, _, _, _, _, _, _, _, _, _, _, _, _, _, _, _, _, _, _, _, _, _, _, _, _, _, _, _, _, _, _, _, _, _, _, _, _, _, _, _, _, _, _, _, _, _, _, _, _, _, _, _, _, _, _, _, _, _, _, _, _, _, q12, rfl, P2, P3, P4, P5, P10, H0, H1, H2, H3, H4, H5, H6, H7, H8, H9, fun _ => rfl, H11, H14, fun _ => ⟨rfl, z12, fun h => absurd h (by simp [YInv.up])⟩, fun _ => ⟨up_true p12, put_ (f12 hL)⟩, (far_ K0 (NE_0)), (far_ K1 (NE_1)), (far_ K2 (NE_2)), (far_ K3 (NE_3)), below_row B2 z12 _⟩
              refine Steps.cons rfl (fun L a wx K hK hL hp hI => ?_) ?_
              · refine ex_118 hI (fun x0 x1 x2 x3 x4 x5 x6 x7 x8 x9 x10 x11 x12 x13 x14 x15 x16 x17 x18 x19 x20 x21 x22 x23 x24 x25 x26 x27 x28 x29 x30 x31 x32 x33 x34 x35 x36 x37 x38 x39 x40 x41 x42 x43 x44 x45 x46 x47 x48 x49 x50 x51 x52 x53 x54 x55 x56 x57 x58 x59 x60 x61 x62 x63 x64 x65 x66 x67 x68 x69 x70 x71 x72 x73 x74 x75 x76 x77 x78 x79 x80 x81 x82 x83 x84 x85 x86 x87 x88 x89 x90 x91 x92 x93 x94 x95 x96 x97 x98 x99 x100 x101 x102 x103 x104 x105 x106 x107 x108 x109 x110 x111 x112 x113 x114 x115 x116 x117 hI => ?_)
                obtain ⟨q12, rfl, P2, P3, P4, P5, P10, H0, H1, H2, H3, H4, H5, H6, H7, H8, H9, H10, H11, H14, A12, S12, K0, K1, K2, K3, B2⟩ := hI
                have p11 : L 11 = true := hp ⟨11, .data⟩ (by simp) rfl
                have e11 := H11 p11
                clear hp
                subst e11
                go_simp
                exact hK.out _ _ ⟨_, _, _, _, _, _, _, _, _, _, _, _, _, _, _, _, _, _, _, _, _, _, _, _, _, _, _, _, _, _, _, _, _, _, _, _, _, _, _, _, _, _, _, _, _, _, _, _, _, _, _, _, _, _, _, _, _, _, _, _, _, _, _, _, _, _, _, _, _, _, _, _, _, _, _, _, _, _, _, _, _, _, _, _, _, _, _, _, _, _, _, _, _, _, _, _, _, _, _, _, _, _, _, _, _, _, _, _, _, _, _, _, _, _, _, _, _, _, q12, rfl, (by first | exact P2 | rfl), (by first | exact P3 | rfl), (by first | exact P4 | rfl), (by first | exact P5 | rfl), (by first | exact P10 | rfl), H0, H1, H2, H3, H4, H5, H6, H7, H8, H9, H10, fun _ => rfl, fun _ => (by first | rfl | simp), fun h => ⟨(A12 h).1, (A12 h).2.1, fun k => ((A12 h).2.2 k)⟩, fun h => ⟨up_true (S12 h).1, (S12 h).2⟩, K0, K1, K2, K3, B2⟩
              exact Steps.nil
            case fin =>
              intro L a wx hall hI
              refine ex_118 hI (fun x0 x1 x2 x3 x4 x5 x6 x7 x8 x9 x10 x11 x12 x13 x14 x15 x16 x17 x18 x19 x20 x21 x22 x23 x24 x25 x26 x27 x28 x29 x30 x31 x32 x33 x34 x35 x36 x37 x38 x39 x40 x41 x42 x43 x44 x45 x46 x47 x48 x49 x50 x51 x52 x53 x54 x55 x56 x57 x58 x59 x60 x61 x62 x63 x64 x65 x66 x67 x68 x69 x70 x71 x72 x73 x74 x75 x76 x77 x78 x79 x80 x81 x82 x83 x84 x85 x86 x87 x88 x89 x90 x91 x92 x93 x94 x95 x96 x97 x98 x99 x100 x101 x102 x103 x104 x105 x106 x107 x108 x109 x110 x111 x112 x113 x114 x115 x116 x117 hI => ?_)
              obtain ⟨q12, rfl, P2, P3, P4, P5, P10, H0, H1, H2, H3, H4, H5, H6, H7, H8, H9, H10, H11, H14, A12, S12, K0, K1, K2, K3, B2⟩ := hI
              have E0 := H0 (hall 0 (by decide))
              have E1 := H1 (hall 1 (by decide))
              have E2 := H2 (hall 2 (by decide))
              have E3 := H3 (hall 3 (by decide))
              have E4 := H4 (hall 4 (by decide))
              have E5 := H5 (hall 5 (by decide))
              have E6 := H6 (hall 6 (by decide))
              have E7 := H7 (hall 7 (by decide))
              have E8 := H8 (hall 8 (by decide))
              have E9 := H9 (hall 9 (by decide))
              have E10 := H10 (hall 10 (by decide))
              have E11 := H11 (hall 11 (by decide))
              obtain ⟨E12, Z12, -⟩ := A12 (hall 12 (by decide))
              have KS12 := (S12 (hall 13 (by decide))).2
              have E14 := H14 (hall 14 (by decide))
              clear hall H0 H1 H2 H3 H4 H5 H6 H7 H8 H9 H10 H11 H14 A12 S12
              subst E0 E1 E2 E3 E4 E5 E6 E7 E8 E9 E10 E11 E12 E14 P2 P3 P4 P5 P10
              have c16 : wx.cell? ⟨w3.heap.size, 16, none⟩ = some (.int .u64 (dg t 16)) := by rw [K3.cell, U_at (by omega)]
              have bX := bb pb B2
              clear SP SM Bx By p0 p1 p2 kt pb B2 K0 K1 hI L SA hlow
              have zw : w.heap.size ≤ w3.heap.size := zb
              have sgn := HS.out.2.2.2 (by first | rfl | simp | (cases sx <;> rfl))
              obtain ⟨F1, F2⟩ := HS.out.2.1 sgn
              clear HS sgn
              cases hib : im
              · obtain ⟨rfl, rfl⟩ := F2 (.inr (of_decide_eq_false (HI.out.2.trans hib)))
                subst hib
                clear F1 F2 HI
                go_wp2_with (refine stW K2 zeros_len zeros_len _ _ rfl rfl rfl rfl ?_)
                exact bodyPost_ret (res2 Tryd.results52 _ rfl (put_ K2) zeros_len) rfl ⟨rfl, below_row bX (by omega) _⟩
              · have hin := of_decide_eq_true (HI.out.2.trans hib)
                subst hib
                by_cases h0 : dg t 16 = 0
                · obtain rfl := (F1 h0).1.1 hin
                  obtain rfl := (F1 h0).2 hin
                  have e0 : (dg t 16 != 0) = false := by simpa using h0
                  clear F1 F2 HI hin h0
                  go_wp2_with (first | (refine ldW KS12 lqn _ rfl rfl rfl ?_) | (refine stW K2 zeros_len lqn _ _ rfl rfl rfl rfl ?_))
                  exact bodyPost_ret (res2 Tryd.results52 _ rfl (put_ K2) lqn) rfl ⟨rfl, below_row bX (by omega) _⟩
                · obtain ⟨rfl, rfl⟩ := F2 (.inl h0)
                  have e0 : (dg t 16 != 0) = true := by simpa using h0
                  clear F1 F2 HI hin h0
                  go_wp2_with (refine stW K2 zeros_len zeros_len _ _ rfl rfl rfl rfl ?_)
                  exact bodyPost_ret (res2 Tryd.results52 _ rfl (put_ K2) zeros_len) rfl ⟨rfl, below_row bX (by omega) _⟩
end Go.Proofs.YtfcandmhalhaeaaDoor.YWide
