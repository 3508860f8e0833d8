/- Lean functions, contracts and lemmas that this claim needs. No condition. -/
import Derived.Test.YtpdljoalfmgfiaaBYWideW8
namespace Go.Proofs.Ytpdljoalfmgfiaa.YWide
open Go.RowKit Go.Proofs.Ytpdljoalfmgfiaa.YInv Go.Proofs.Ytpdljoalfmgfiaa.YErr Go.Proofs.Ytpdljoalfmgfiaa.YRef Go.Proofs.Ytpdljoalfmgfiaa.YNum Go.Proofs.Ytpdljoalfmgfiaa.YBits Go.Proofs.Ytpdljoalfmgfiaa.XCarry Go.Proofs.Ytpdljoalfmgfiaa.QWd Go.Proofs.YtpdljoalfmgfiaaW.PrintWords Go.Proofs.YtpdljoalfmgfiaaW.PrintLast
set_option linter.unusedVariables false
set_option linter.unusedSimpArgs false
/-- Two numbers are boxed, and two places laid. -/
theorem start4 (w : World) (a b : List Int) : ∀ w', w' = (((w.alloc (.cells (U a) 27)).alloc (.cells (U b) 27)).alloc (.cells (U zeros) 27)).alloc (.cells (U zeros) 27) →
    Blk w' w.heap.size (U a) 27 ∧ Blk w' (w.heap.size + 1) (U b) 27 ∧ Blk w' (w.heap.size + 1 + 1) (U zeros) 27 ∧ Blk w' (w.heap.size + 1 + 1 + 1) (U zeros) 27 ∧ Below w.heap.size w w' := by
  rintro w' rfl
  obtain ⟨k0, k1, k2, b0⟩ := start3 w a b _ rfl
  refine ⟨k0.alloc _, k1.alloc _, k2.alloc _, ?_, b0.alloc b0.size _⟩
  have := Blk.new (((w.alloc (.cells (U a) 27)).alloc (.cells (U b) 27)).alloc (.cells (U zeros) 27)) (U zeros) 27
  simpa using this
theorem ex_44 {C : Prop} {R : Value → Value → Value → Value → Value → Value → Value → Value → Value → Value → Value → Value → Value → Value → Value → Value → Value → Value → Value → Value → Value → Value → Value → Value → Value → Value → Value → Value → Value → Value → Value → Value → Value → Value → Value → Value → Value → Value → Value → Value → Value → Value → Value → Value → Prop} (h : ∃ x0 x1 x2 x3 x4 x5 x6 x7 x8 x9 x10 x11 x12 x13 x14 x15 x16 x17 x18 x19 x20 x21 x22 x23 x24 x25 x26 x27 x28 x29 x30 x31 x32 x33 x34 x35 x36 x37 x38 x39 x40 x41 x42 x43, R x0 x1 x2 x3 x4 x5 x6 x7 x8 x9 x10 x11 x12 x13 x14 x15 x16 x17 x18 x19 x20 x21 x22 x23 x24 x25 x26 x27 x28 x29 x30 x31 x32 x33 x34 x35 x36 x37 x38 x39 x40 x41 x42 x43) (k : ∀ x0 x1 x2 x3 x4 x5 x6 x7 x8 x9 x10 x11 x12 x13 x14 x15 x16 x17 x18 x19 x20 x21 x22 x23 x24 x25 x26 x27 x28 x29 x30 x31 x32 x33 x34 x35 x36 x37 x38 x39 x40 x41 x42 x43, R x0 x1 x2 x3 x4 x5 x6 x7 x8 x9 x10 x11 x12 x13 x14 x15 x16 x17 x18 x19 x20 x21 x22 x23 x24 x25 x26 x27 x28 x29 x30 x31 x32 x33 x34 x35 x36 x37 x38 x39 x40 x41 x42 x43 → C) : C := by
  obtain ⟨x0, h⟩ := h
  obtain ⟨x1, h⟩ := h
  obtain ⟨x2, h⟩ := h
  obtain ⟨x3, h⟩ := h
  obtain ⟨x4, h⟩ := h
  obtain ⟨x5, h⟩ := h
  obtain ⟨x6, h⟩ := h
  obtain ⟨x7, h⟩ := h
  obtain ⟨x8, h⟩ := h
  obtain ⟨x9, h⟩ := h
  obtain ⟨x10, h⟩ := h
  obtain ⟨x11, h⟩ := h
  obtain ⟨x12, h⟩ := h
  obtain ⟨x13, h⟩ := h
  obtain ⟨x14, h⟩ := h
  obtain ⟨x15, h⟩ := h
  obtain ⟨x16, h⟩ := h
  obtain ⟨x17, h⟩ := h
  obtain ⟨x18, h⟩ := h
  obtain ⟨x19, h⟩ := h
  obtain ⟨x20, h⟩ := h
  obtain ⟨x21, h⟩ := h
  obtain ⟨x22, h⟩ := h
  obtain ⟨x23, h⟩ := h
  obtain ⟨x24, h⟩ := h
  obtain ⟨x25, h⟩ := h
  obtain ⟨x26, h⟩ := h
  obtain ⟨x27, h⟩ := h
  obtain ⟨x28, h⟩ := h
  obtain ⟨x29, h⟩ := h
  obtain ⟨x30, h⟩ := h
  obtain ⟨x31, h⟩ := h
  obtain ⟨x32, h⟩ := h
  obtain ⟨x33, h⟩ := h
  obtain ⟨x34, h⟩ := h
  obtain ⟨x35, h⟩ := h
  obtain ⟨x36, h⟩ := h
  obtain ⟨x37, h⟩ := h
  obtain ⟨x38, h⟩ := h
  obtain ⟨x39, h⟩ := h
  obtain ⟨x40, h⟩ := h
  obtain ⟨x41, h⟩ := h
  obtain ⟨x42, h⟩ := h
  obtain ⟨x43, h⟩ := h
  exact k x0 x1 x2 x3 x4 x5 x6 x7 x8 x9 x10 x11 x12 x13 x14 x15 x16 x17 x18 x19 x20 x21 x22 x23 x24 x25 x26 x27 x28 x29 x30 x31 x32 x33 x34 x35 x36 x37 x38 x39 x40 x41 x42 x43 h
theorem ex_126 {C : Prop} {R : Value → Value → Value → Value → Value → Value → Value → Value → Value → Value → Value → Value → Value → Value → Value → Value → Value → Value → Value → Value → Value → Value → Value → Value → Value → Value → Value → Value → Value → Value → Value → Value → Value → Value → Value → Value → Value → Value → Value → Value → Value → Value → Value → Value → Value → Value → Value → Value → Value → Value → Value → Value → Value → Value → Value → Value → Value → Value → Value → Value → Value → Value → Value → Value → Value → Value → Value → Value → Value → Value → Value → Value → Value → Value → Value → Value → Value → Value → Value → Value → Value → Value → Value → Value → Value → Value → Value → Value → Value → Value → Value → Value → Value → Value → Value → Value → Value → Value → Value → Value → Value → Value → Value → Value → Value → Value → Value → Value → Value → Value → Value → Value → Value → Value → Value → Value → Value → Value → Value → Value → Value → Value → Value → Value → Value → Value → Prop} (h : ∃ x0 x1 x2 x3 x4 x5 x6 x7 x8 x9 x10 x11 x12 x13 x14 x15 x16 x17 x18 x19 x20 x21 x22 x23 x24 x25 x26 x27 x28 x29 x30 x31 x32 x33 x34 x35 x36 x37 x38 x39 x40 x41 x42 x43 x44 x45 x46 x47 x48 x49 x50 x51 x52 x53 x54 x55 x56 x57 x58 x59 x60 x61 x62 x63 x64 x65 x66 x67 x68 x69 x70 x71 x72 x73 x74 x75 x76 x77 x78 x79 x80 x81 x82 x83 x84 x85 x86 x87 x88 x89 x90 x91 x92 x93 x94 x95 x96 x97 x98 x99 x100 x101 x102 x103 x104 x105 x106 x107 x108 x109 x110 x111 x112 x113 x114 x115 x116 x117 x118 x119 x120 x121 x122 x123 x124 x125, R x0 x1 x2 x3 x4 x5 x6 x7 x8 x9 x10 x11 x12 x13 x14 x15 x16 x17 x18 x19 x20 x21 x22 x23 x24 x25 x26 x27 x28 x29 x30 x31 x32 x33 x34 x35 x36 x37 x38 x39 x40 x41 x42 x43 x44 x45 x46 x47 x48 x49 x50 x51 x52 x53 x54 x55 x56 x57 x58 x59 x60 x61 x62 x63 x64 x65 x66 x67 x68 x69 x70 x71 x72 x73 x74 x75 x76 x77 x78 x79 x80 x81 x82 x83 x84 x85 x86 x87 x88 x89 x90 x91 x92 x93 x94 x95 x96 x97 x98 x99 x100 x101 x102 x103 x104 x105 x106 x107 x108 x109 x110 x111 x112 x113 x114 x115 x116 x117 x118 x119 x120 x121 x122 x123 x124 x125) (k : ∀ x0 x1 x2 x3 x4 x5 x6 x7 x8 x9 x10 x11 x12 x13 x14 x15 x16 x17 x18 x19 x20 x21 x22 x23 x24 x25 x26 x27 x28 x29 x30 x31 x32 x33 x34 x35 x36 x37 x38 x39 x40 x41 x42 x43 x44 x45 x46 x47 x48 x49 x50 x51 x52 x53 x54 x55 x56 x57 x58 x59 x60 x61 x62 x63 x64 x65 x66 x67 x68 x69 x70 x71 x72 x73 x74 x75 x76 x77 x78 x79 x80 x81 x82 x83 x84 x85 x86 x87 x88 x89 x90 x91 x92 x93 x94 x95 x96 x97 x98 x99 x100 x101 x102 x103 x104 x105 x106 x107 x108 x109 x110 x111 x112 x113 x114 x115 x116 x117 x118 x119 x120 x121 x122 x123 x124 x125, R x0 x1 x2 x3 x4 x5 x6 x7 x8 x9 x10 x11 x12 x13 x14 x15 x16 x17 x18 x19 x20 x21 x22 x23 x24 x25 x26 x27 x28 x29 x30 x31 x32 x33 x34 x35 x36 x37 x38 x39 x40 x41 x42 x43 x44 x45 x46 x47 x48 x49 x50 x51 x52 x53 x54 x55 x56 x57 x58 x59 x60 x61 x62 x63 x64 x65 x66 x67 x68 x69 x70 x71 x72 x73 x74 x75 x76 x77 x78 x79 x80 x81 x82 x83 x84 x85 x86 x87 x88 x89 x90 x91 x92 x93 x94 x95 x96 x97 x98 x99 x100 x101 x102 x103 x104 x105 x106 x107 x108 x109 x110 x111 x112 x113 x114 x115 x116 x117 x118 x119 x120 x121 x122 x123 x124 x125 → C) : C := by
  obtain ⟨x0, h⟩ := h
  obtain ⟨x1, h⟩ := h
  obtain ⟨x2, h⟩ := h
  obtain ⟨x3, h⟩ := h
  obtain ⟨x4, h⟩ := h
  obtain ⟨x5, h⟩ := h
  obtain ⟨x6, h⟩ := h
  obtain ⟨x7, h⟩ := h
  obtain ⟨x8, h⟩ := h
  obtain ⟨x9, h⟩ := h
  obtain ⟨x10, h⟩ := h
  obtain ⟨x11, h⟩ := h
  obtain ⟨x12, h⟩ := h
  obtain ⟨x13, h⟩ := h
  obtain ⟨x14, h⟩ := h
  obtain ⟨x15, h⟩ := h
  obtain ⟨x16, h⟩ := h
  obtain ⟨x17, h⟩ := h
  obtain ⟨x18, h⟩ := h
  obtain ⟨x19, h⟩ := h
  obtain ⟨x20, h⟩ := h
  obtain ⟨x21, h⟩ := h
  obtain ⟨x22, h⟩ := h
  obtain ⟨x23, h⟩ := h
  obtain ⟨x24, h⟩ := h
  obtain ⟨x25, h⟩ := h
  obtain ⟨x26, h⟩ := h
  obtain ⟨x27, h⟩ := h
  obtain ⟨x28, h⟩ := h
  obtain ⟨x29, h⟩ := h
  obtain ⟨x30, h⟩ := h
  obtain ⟨x31, h⟩ := h
  obtain ⟨x32, h⟩ := h
  obtain ⟨x33, h⟩ := h
  obtain ⟨x34, h⟩ := h
  obtain ⟨x35, h⟩ := h
  obtain ⟨x36, h⟩ := h
  obtain ⟨x37, h⟩ := h
  obtain ⟨x38, h⟩ := h
  obtain ⟨x39, h⟩ := h
  obtain ⟨x40, h⟩ := h
  obtain ⟨x41, h⟩ := h
  obtain ⟨x42, h⟩ := h
  obtain ⟨x43, h⟩ := h
  obtain ⟨x44, h⟩ := h
  obtain ⟨x45, h⟩ := h
  obtain ⟨x46, h⟩ := h
  obtain ⟨x47, h⟩ := h
  obtain ⟨x48, h⟩ := h
  obtain ⟨x49, h⟩ := h
  obtain ⟨x50, h⟩ := h
  obtain ⟨x51, h⟩ := h
  obtain ⟨x52, h⟩ := h
  obtain ⟨x53, h⟩ := h
  obtain ⟨x54, h⟩ := h
  obtain ⟨x55, h⟩ := h
  obtain ⟨x56, h⟩ := h
  obtain ⟨x57, h⟩ := h
  obtain ⟨x58, h⟩ := h
  obtain ⟨x59, h⟩ := h
  obtain ⟨x60, h⟩ := h
  obtain ⟨x61, h⟩ := h
  obtain ⟨x62, h⟩ := h
  obtain ⟨x63, h⟩ := h
  obtain ⟨x64, h⟩ := h
  obtain ⟨x65, h⟩ := h
  obtain ⟨x66, h⟩ := h
  obtain ⟨x67, h⟩ := h
  obtain ⟨x68, h⟩ := h
  obtain ⟨x69, h⟩ := h
  obtain ⟨x70, h⟩ := h
  obtain ⟨x71, h⟩ := h
  obtain ⟨x72, h⟩ := h
  obtain ⟨x73, h⟩ := h
  obtain ⟨x74, h⟩ := h
  obtain ⟨x75, h⟩ := h
  obtain ⟨x76, h⟩ := h
  obtain ⟨x77, h⟩ := h
  obtain ⟨x78, h⟩ := h
  obtain ⟨x79, h⟩ := h
  obtain ⟨x80, h⟩ := h
  obtain ⟨x81, h⟩ := h
  obtain ⟨x82, h⟩ := h
  obtain ⟨x83, h⟩ := h
  obtain ⟨x84, h⟩ := h
  obtain ⟨x85, h⟩ := h
  obtain ⟨x86, h⟩ := h
  obtain ⟨x87, h⟩ := h
  obtain ⟨x88, h⟩ := h
  obtain ⟨x89, h⟩ := h
  obtain ⟨x90, h⟩ := h
  obtain ⟨x91, h⟩ := h
  obtain ⟨x92, h⟩ := h
  obtain ⟨x93, h⟩ := h
  obtain ⟨x94, h⟩ := h
  obtain ⟨x95, h⟩ := h
  obtain ⟨x96, h⟩ := h
  obtain ⟨x97, h⟩ := h
  obtain ⟨x98, h⟩ := h
  obtain ⟨x99, h⟩ := h
  obtain ⟨x100, h⟩ := h
  obtain ⟨x101, h⟩ := h
  obtain ⟨x102, h⟩ := h
  obtain ⟨x103, h⟩ := h
  obtain ⟨x104, h⟩ := h
  obtain ⟨x105, h⟩ := h
  obtain ⟨x106, h⟩ := h
  obtain ⟨x107, h⟩ := h
  obtain ⟨x108, h⟩ := h
  obtain ⟨x109, h⟩ := h
  obtain ⟨x110, h⟩ := h
  obtain ⟨x111, h⟩ := h
  obtain ⟨x112, h⟩ := h
  obtain ⟨x113, h⟩ := h
  obtain ⟨x114, h⟩ := h
  obtain ⟨x115, h⟩ := h
  obtain ⟨x116, h⟩ := h
  obtain ⟨x117, h⟩ := h
  obtain ⟨x118, h⟩ := h
  obtain ⟨x119, h⟩ := h
  obtain ⟨x120, h⟩ := h
  obtain ⟨x121, h⟩ := h
  obtain ⟨x122, h⟩ := h
  obtain ⟨x123, h⟩ := h
  obtain ⟨x124, h⟩ := h
  obtain ⟨x125, h⟩ := h
  exact k x0 x1 x2 x3 x4 x5 x6 x7 x8 x9 x10 x11 x12 x13 x14 x15 x16 x17 x18 x19 x20 x21 x22 x23 x24 x25 x26 x27 x28 x29 x30 x31 x32 x33 x34 x35 x36 x37 x38 x39 x40 x41 x42 x43 x44 x45 x46 x47 x48 x49 x50 x51 x52 x53 x54 x55 x56 x57 x58 x59 x60 x61 x62 x63 x64 x65 x66 x67 x68 x69 x70 x71 x72 x73 x74 x75 x76 x77 x78 x79 x80 x81 x82 x83 x84 x85 x86 x87 x88 x89 x90 x91 x92 x93 x94 x95 x96 x97 x98 x99 x100 x101 x102 x103 x104 x105 x106 x107 x108 x109 x110 x111 x112 x113 x114 x115 x116 x117 x118 x119 x120 x121 x122 x123 x124 x125 h
set_option maxRecDepth 100000 in
set_option maxHeartbeats 32000000 in
theorem divide_s {x y : Int} (hx0 : 0 < x) (hx1 : x < 18446744073709551616 ^ 16) (hy0 : 0 < y) (hy1 : y < 18446744073709551616) (w : World) : Calls Try.prog 53 #[.agg (U (lim x)), .agg (U (lim y))] w fun e w' => e = .returned (.tuple #[.agg (U (lim (x / y))), .agg (U (lim (x % y)))]) ∧ Below w.heap.size w w' := by
  have la := lim_len x
  have lb := lim_len y
  have lq := lim_len (x / y)
  have lr := lim_len (x % y)
  have y16 : y < 18446744073709551616 ^ 16 := by have := pw_le (show 1 ≤ 16 by omega); omega
  have ny : (limbs y).length = 1 := by
    have h1 := limbs_len (n := y) 1 (by omega)
    have h2 := limbs_len_pos (n := y)
    omega
  have hnx : 0 < (limbs x).length := limbs_len_pos.2 hx0
  have lx := limbs_lt16 hx1
  have SH := fun W => short_c (Int.le_of_lt hx0) hx1 hy0 hy1 W
  have hx := Int.le_of_lt hx0
  have hy := Int.le_of_lt hy0
  have dy : dg (lim y) 0 = y := by rw [dg_lim y (by decide)]; simp; omega
  have NY := Lib.hid ny
  clear ny
  obtain ⟨k0, k1, k2, k3, b0⟩ := start4 w (lim x) (lim y) _ rfl
  go_enter Try.func53, Try.ntmps53
  go_wp2_with fail
  have N0 := k0.lt
  have N1 := k1.lt
  have N2 := k2.lt
  have N3 := k3.lt
  have ex : ((((w.alloc (.cells (U (lim x)) 27)).alloc (.cells (U (lim y)) 27)).alloc (.cells #[.int .u64 0, .int .u64 0, .int .u64 0, .int .u64 0, .int .u64 0, .int .u64 0, .int .u64 0, .int .u64 0, .int .u64 0, .int .u64 0, .int .u64 0, .int .u64 0, .int .u64 0, .int .u64 0, .int .u64 0, .int .u64 0] 27)).alloc (.cells #[.int .u64 0, .int .u64 0, .int .u64 0, .int .u64 0, .int .u64 0, .int .u64 0, .int .u64 0, .int .u64 0, .int .u64 0, .int .u64 0, .int .u64 0, .int .u64 0, .int .u64 0, .int .u64 0, .int .u64 0, .int .u64 0] 27)) = ((((w.alloc (.cells (U (lim x)) 27)).alloc (.cells (U (lim y)) 27)).alloc (.cells (U zeros) 27)).alloc (.cells (U zeros) 27)) := rfl
  rw [ex]
  clear ex
  generalize ((((w.alloc (.cells (U (lim x)) 27)).alloc (.cells (U (lim y)) 27)).alloc (.cells (U zeros) 27)).alloc (.cells (U zeros) 27)) = w1 at *
  refine region_steps (fun L a wx => ∃ (x0 x1 x2 x3 x4 x5 x6 x7 x8 x9 x10 x11 x12 x13 x14 x15 x16 x17 x18 x19 x20 x21 x22 x23 x24 x25 x26 x27 x28 x29 x30 x31 x32 x33 x34 x35 x36 x37 x38 x39 x40 x41 x42 x43 x44 x45 x46 x47 x48 x49 x50 x51 x52 x53 x54 x55 x56 x57 x58 x59 x60 x61 x62 x63 x64 x65 x66 x67 x68 x69 x70 x71 x72 x73 x74 x75 x76 x77 x78 x79 x80 x81 x82 x83 x84 x85 x86 x87 x88 x89 x90 x91 x92 x93 x94 x95 x96 x97 x98 x99 x100 x101 x102 x103 x104 x105 x106 x107 x108 x109 x110 x111 x112 x113 x114 x115 x116 x117 x118 x119 x120 x121 x122 x123 x124 x125 : Value), a = { tmps := #[x0, x1, x2, x3, x4, x5, x6, x7, x8, x9, x10, x11, x12, x13, x14, x15, x16, x17, x18, x19, x20, x21, x22, x23, x24, x25, x26, x27, x28, x29, x30, x31, x32, x33, x34, x35, x36, x37, x38, x39, x40, x41, x42, x43, x44, x45, x46, x47, x48, x49, x50, x51, x52, x53, x54, x55, x56, x57, x58, x59, x60, x61, x62, x63, x64, x65, x66, x67, x68, x69, x70, x71, x72, x73, x74, x75, x76, x77, x78, x79, x80, x81, x82, x83, x84, x85, x86, x87, x88, x89, x90, x91, x92, x93, x94, x95, x96, x97, x98, x99, x100, x101, x102, x103, x104, x105, x106, x107, x108, x109, x110, x111, x112, x113, x114, x115, x116, x117, x118, x119, x120, x121, x122, x123, x124, x125], defers := [] } ∧ x2 = .pointer (some ⟨w.heap.size, 0, none⟩) ∧ x3 = .pointer (some ⟨(w.heap.size + 1), 0, none⟩) ∧ x4 = .pointer (some ⟨(w.heap.size + 1 + 1), 0, none⟩) ∧ x5 = .pointer (some ⟨(w.heap.size + 1 + 1 + 1), 0, none⟩) ∧ (L 0 = true → x16 = .slice (some ⟨w.heap.size, 0, none⟩) 16 16) ∧ (L 1 = true → x17 = .int .i64 ((limbs x).length : Int)) ∧ (L 2 = true → x18 = .slice (some ⟨w.heap.size + 1, 0, none⟩) 16 16) ∧ (L 3 = true → x19 = .int .i64 ((limbs y).length : Int)) ∧ (L 4 = true → x6 = .int .i64 ((limbs x).length : Int)) ∧ (L 5 = true → x7 = .int .i64 ((limbs y).length : Int)) ∧ Blk wx w.heap.size (U (lim x)) 27 ∧ Blk wx (w.heap.size + 1) (U (lim y)) 27 ∧ Blk wx (w.heap.size + 1 + 1) (U (zeros)) 27 ∧ Blk wx (w.heap.size + 1 + 1 + 1) (U (zeros)) 27 ∧ Below w1.heap.size w1 wx) [0, 1, 2, 3, 4, 5] (by kernel_rfl) (by kernel_rfl) (by kernel_rfl) ?start ?steps ?fin
  case start =>
    exact ⟨_, _, _, _, _, _, _, _, _, _, _, _, _, _, _, _, _, _, _, _, _, _, _, _, _, _, _, _, _, _, _, _, _, _, _, _, _, _, _, _, _, _, _, _, _, _, _, _, _, _, _, _, _, _, _, _, _, _, _, _, _, _, _, _, _, _, _, _, _, _, _, _, _, _, _, _, _, _, _, _, _, _, _, _, _, _, _, _, _, _, _, _, _, _, _, _, _, _, _, _, _, _, _, _, _, _, _, _, _, _, _, _, _, _, _, _, _, _, _, _, _, _, _, _, _, _, rfl, (by first | rfl | simp only [*]), (by first | rfl | simp only [*]), (by first | rfl | simp only [*]), (by first | rfl | simp only [*]), fun h => absurd h (by decide), fun h => absurd h (by decide), fun h => absurd h (by decide), fun h => absurd h (by decide), fun h => absurd h (by decide), fun h => absurd h (by decide), k0.drew, k1.drew, k2.drew, k3.drew, (Below.refl _ _).drew⟩
  case steps =>
    refine Steps.cons rfl (fun L a wx K hK hL hp hI => ?_) ?_
    · refine ex_126 hI (fun x0 x1 x2 x3 x4 x5 x6 x7 x8 x9 x10 x11 x12 x13 x14 x15 x16 x17 x18 x19 x20 x21 x22 x23 x24 x25 x26 x27 x28 x29 x30 x31 x32 x33 x34 x35 x36 x37 x38 x39 x40 x41 x42 x43 x44 x45 x46 x47 x48 x49 x50 x51 x52 x53 x54 x55 x56 x57 x58 x59 x60 x61 x62 x63 x64 x65 x66 x67 x68 x69 x70 x71 x72 x73 x74 x75 x76 x77 x78 x79 x80 x81 x82 x83 x84 x85 x86 x87 x88 x89 x90 x91 x92 x93 x94 x95 x96 x97 x98 x99 x100 x101 x102 x103 x104 x105 x106 x107 x108 x109 x110 x111 x112 x113 x114 x115 x116 x117 x118 x119 x120 x121 x122 x123 x124 x125 hI => ?_)
      obtain ⟨rfl, P2, P3, P4, P5, H0, H1, H2, H3, H4, H5, K0, K1, K2, K3, B2⟩ := hI
      clear hp
      subst P2
      go_simp
      exact hK.out _ _ ⟨_, _, _, _, _, _, _, _, _, _, _, _, _, _, _, _, _, _, _, _, _, _, _, _, _, _, _, _, _, _, _, _, _, _, _, _, _, _, _, _, _, _, _, _, _, _, _, _, _, _, _, _, _, _, _, _, _, _, _, _, _, _, _, _, _, _, _, _, _, _, _, _, _, _, _, _, _, _, _, _, _, _, _, _, _, _, _, _, _, _, _, _, _, _, _, _, _, _, _, _, _, _, _, _, _, _, _, _, _, _, _, _, _, _, _, _, _, _, _, _, _, _, _, _, _, _, rfl, rfl, (by first | exact P3 | rfl), (by first | exact P4 | rfl), (by first | exact P5 | rfl), fun _ => (by first | rfl | simp), H1, H2, H3, H4, H5, K0, K1, K2, K3, B2⟩
    refine Steps.cons rfl (fun L a wx K hK hL hp hI => ?_) ?_
    · refine ex_126 hI (fun x0 x1 x2 x3 x4 x5 x6 x7 x8 x9 x10 x11 x12 x13 x14 x15 x16 x17 x18 x19 x20 x21 x22 x23 x24 x25 x26 x27 x28 x29 x30 x31 x32 x33 x34 x35 x36 x37 x38 x39 x40 x41 x42 x43 x44 x45 x46 x47 x48 x49 x50 x51 x52 x53 x54 x55 x56 x57 x58 x59 x60 x61 x62 x63 x64 x65 x66 x67 x68 x69 x70 x71 x72 x73 x74 x75 x76 x77 x78 x79 x80 x81 x82 x83 x84 x85 x86 x87 x88 x89 x90 x91 x92 x93 x94 x95 x96 x97 x98 x99 x100 x101 x102 x103 x104 x105 x106 x107 x108 x109 x110 x111 x112 x113 x114 x115 x116 x117 x118 x119 x120 x121 x122 x123 x124 x125 hI => ?_)
      obtain ⟨rfl, P2, P3, P4, P5, H0, H1, H2, H3, H4, H5, K0, K1, K2, K3, B2⟩ := hI
      have p0 : L 0 = true := hp ⟨0, .data⟩ (by simp) rfl
      have e0 := H0 p0
      clear hp
      subst e0
      refine wanted_ (by rfl) ?_
      refine goesK_ Try.func44 (by kernel_rfl) rfl #[.slice (some ⟨w.heap.size, 0, none⟩) 16 16] rfl (by simp [Act.eval]) ?_
      refine (count_b K0 hx hx1).mono ?_
      rintro e w' ⟨rfl, g⟩
      refine ⟨_, rfl, ?_⟩
      (try simp only [Act.put, List.setIfInBounds_toArray, List.set_cons_zero, List.set_cons_succ])
      exact hK.out _ _ ⟨_, _, _, _, _, _, _, _, _, _, _, _, _, _, _, _, _, _, _, _, _, _, _, _, _, _, _, _, _, _, _, _, _, _, _, _, _, _, _, _, _, _, _, _, _, _, _, _, _, _, _, _, _, _, _, _, _, _, _, _, _, _, _, _, _, _, _, _, _, _, _, _, _, _, _, _, _, _, _, _, _, _, _, _, _, _, _, _, _, _, _, _, _, _, _, _, _, _, _, _, _, _, _, _, _, _, _, _, _, _, _, _, _, _, _, _, _, _, _, _, _, _, _, _, _, _, rfl, P2, P3, P4, P5, fun _ => rfl, fun _ => rfl, H2, H3, H4, H5, (Blk.keep K0 g), (Blk.keep K1 g), (Blk.keep K2 g), (Blk.keep K3 g), bb B2 g⟩
    refine Steps.cons rfl (fun L a wx K hK hL hp hI => ?_) ?_
    · refine ex_126 hI (fun x0 x1 x2 x3 x4 x5 x6 x7 x8 x9 x10 x11 x12 x13 x14 x15 x16 x17 x18 x19 x20 x21 x22 x23 x24 x25 x26 x27 x28 x29 x30 x31 x32 x33 x34 x35 x36 x37 x38 x39 x40 x41 x42 x43 x44 x45 x46 x47 x48 x49 x50 x51 x52 x53 x54 x55 x56 x57 x58 x59 x60 x61 x62 x63 x64 x65 x66 x67 x68 x69 x70 x71 x72 x73 x74 x75 x76 x77 x78 x79 x80 x81 x82 x83 x84 x85 x86 x87 x88 x89 x90 x91 x92 x93 x94 x95 x96 x97 x98 x99 x100 x101 x102 x103 x104 x105 x106 x107 x108 x109 x110 x111 x112 x113 x114 x115 x116 x117 x118 x119 x120 x121 x122 x123 x124 x125 hI => ?_)
      obtain ⟨rfl, P2, P3, P4, P5, H0, H1, H2, H3, H4, H5, K0, K1, K2, K3, B2⟩ := hI
      clear hp
      subst P3
      go_simp
      exact hK.out _ _ ⟨_, _, _, _, _, _, _, _, _, _, _, _, _, _, _, _, _, _, _, _, _, _, _, _, _, _, _, _, _, _, _, _, _, _, _, _, _, _, _, _, _, _, _, _, _, _, _, _, _, _, _, _, _, _, _, _, _, _, _, _, _, _, _, _, _, _, _, _, _, _, _, _, _, _, _, _, _, _, _, _, _, _, _, _, _, _, _, _, _, _, _, _, _, _, _, _, _, _, _, _, _, _, _, _, _, _, _, _, _, _, _, _, _, _, _, _, _, _, _, _, _, _, _, _, _, _, rfl, (by first | exact P2 | rfl), rfl, (by first | exact P4 | rfl), (by first | exact P5 | rfl), H0, H1, fun _ => (by first | rfl | simp), H3, H4, H5, K0, K1, K2, K3, B2⟩
    refine Steps.cons rfl (fun L a wx K hK hL hp hI => ?_) ?_
    · refine ex_126 hI (fun x0 x1 x2 x3 x4 x5 x6 x7 x8 x9 x10 x11 x12 x13 x14 x15 x16 x17 x18 x19 x20 x21 x22 x23 x24 x25 x26 x27 x28 x29 x30 x31 x32 x33 x34 x35 x36 x37 x38 x39 x40 x41 x42 x43 x44 x45 x46 x47 x48 x49 x50 x51 x52 x53 x54 x55 x56 x57 x58 x59 x60 x61 x62 x63 x64 x65 x66 x67 x68 x69 x70 x71 x72 x73 x74 x75 x76 x77 x78 x79 x80 x81 x82 x83 x84 x85 x86 x87 x88 x89 x90 x91 x92 x93 x94 x95 x96 x97 x98 x99 x100 x101 x102 x103 x104 x105 x106 x107 x108 x109 x110 x111 x112 x113 x114 x115 x116 x117 x118 x119 x120 x121 x122 x123 x124 x125 hI => ?_)
      obtain ⟨rfl, P2, P3, P4, P5, H0, H1, H2, H3, H4, H5, K0, K1, K2, K3, B2⟩ := hI
      have p2 : L 2 = true := hp ⟨2, .data⟩ (by simp) rfl
      have e2 := H2 p2
      clear hp
      subst e2
      refine wanted_ (by rfl) ?_
      refine goesK_ Try.func44 (by kernel_rfl) rfl #[.slice (some ⟨w.heap.size + 1, 0, none⟩) 16 16] rfl (by simp [Act.eval]) ?_
      refine (count_b K1 hy y16).mono ?_
      rintro e w' ⟨rfl, g⟩
      refine ⟨_, rfl, ?_⟩
      (try simp only [Act.put, List.setIfInBounds_toArray, List.set_cons_zero, List.set_cons_succ])
      exact hK.out _ _ ⟨_, _, _, _, _, _, _, _, _, _, _, _, _, _, _, _, _, _, _, _, _, _, _, _, _, _, _, _, _, _, _, _, _, _, _, _, _, _, _, _, _, _, _, _, _, _, _, _, _, _, _, _, _, _, _, _, _, _, _, _, _, _, _, _, _, _, _, _, _, _, _, _, _, _, _, _, _, _, _, _, _, _, _, _, _, _, _, _, _, _, _, _, _, _, _, _, _, _, _, _, _, _, _, _, _, _, _, _, _, _, _, _, _, _, _, _, _, _, _, _, _, _, _, _, _, _, rfl, P2, P3, P4, P5, H0, H1, fun _ => rfl, fun _ => rfl, H4, H5, (Blk.keep K0 g), (Blk.keep K1 g), (Blk.keep K2 g), (Blk.keep K3 g), bb B2 g⟩
    refine Steps.cons rfl (fun L a wx K hK hL hp hI => ?_) ?_
    · refine ex_126 hI (fun x0 x1 x2 x3 x4 x5 x6 x7 x8 x9 x10 x11 x12 x13 x14 x15 x16 x17 x18 x19 x20 x21 x22 x23 x24 x25 x26 x27 x28 x29 x30 x31 x32 x33 x34 x35 x36 x37 x38 x39 x40 x41 x42 x43 x44 x45 x46 x47 x48 x49 x50 x51 x52 x53 x54 x55 x56 x57 x58 x59 x60 x61 x62 x63 x64 x65 x66 x67 x68 x69 x70 x71 x72 x73 x74 x75 x76 x77 x78 x79 x80 x81 x82 x83 x84 x85 x86 x87 x88 x89 x90 x91 x92 x93 x94 x95 x96 x97 x98 x99 x100 x101 x102 x103 x104 x105 x106 x107 x108 x109 x110 x111 x112 x113 x114 x115 x116 x117 x118 x119 x120 x121 x122 x123 x124 x125 hI => ?_)
      obtain ⟨rfl, P2, P3, P4, P5, H0, H1, H2, H3, H4, H5, K0, K1, K2, K3, B2⟩ := hI
      have p1 : L 1 = true := hp ⟨1, .data⟩ (by simp) rfl
      have e1 := H1 p1
      clear hp
      subst e1
      go_simp
      exact hK.out _ _ ⟨_, _, _, _, _, _, _, _, _, _, _, _, _, _, _, _, _, _, _, _, _, _, _, _, _, _, _, _, _, _, _, _, _, _, _, _, _, _, _, _, _, _, _, _, _, _, _, _, _, _, _, _, _, _, _, _, _, _, _, _, _, _, _, _, _, _, _, _, _, _, _, _, _, _, _, _, _, _, _, _, _, _, _, _, _, _, _, _, _, _, _, _, _, _, _, _, _, _, _, _, _, _, _, _, _, _, _, _, _, _, _, _, _, _, _, _, _, _, _, _, _, _, _, _, _, _, rfl, (by first | exact P2 | rfl), (by first | exact P3 | rfl), (by first | exact P4 | rfl), (by first | exact P5 | rfl), H0, fun _ => rfl, H2, H3, fun _ => (by first | rfl | simp), H5, K0, K1, K2, K3, B2⟩
    refine Steps.cons rfl (fun L a wx K hK hL hp hI => ?_) ?_
    · refine ex_126 hI (fun x0 x1 x2 x3 x4 x5 x6 x7 x8 x9 x10 x11 x12 x13 x14 x15 x16 x17 x18 x19 x20 x21 x22 x23 x24 x25 x26 x27 x28 x29 x30 x31 x32 x33 x34 x35 x36 x37 x38 x39 x40 x41 x42 x43 x44 x45 x46 x47 x48 x49 x50 x51 x52 x53 x54 x55 x56 x57 x58 x59 x60 x61 x62 x63 x64 x65 x66 x67 x68 x69 x70 x71 x72 x73 x74 x75 x76 x77 x78 x79 x80 x81 x82 x83 x84 x85 x86 x87 x88 x89 x90 x91 x92 x93 x94 x95 x96 x97 x98 x99 x100 x101 x102 x103 x104 x105 x106 x107 x108 x109 x110 x111 x112 x113 x114 x115 x116 x117 x118 x119 x120 x121 x122 x123 x124 x125 hI => ?_)
      obtain ⟨rfl, P2, P3, P4, P5, H0, H1, H2, H3, H4, H5, K0, K1, K2, K3, B2⟩ := hI
      have p3 : L 3 = true := hp ⟨3, .data⟩ (by simp) rfl
      have e3 := H3 p3
      clear hp
      subst e3
      go_simp
      exact hK.out _ _ ⟨_, _, _, _, _, _, _, _, _, _, _, _, _, _, _, _, _, _, _, _, _, _, _, _, _, _, _, _, _, _, _, _, _, _, _, _, _, _, _, _, _, _, _, _, _, _, _, _, _, _, _, _, _, _, _, _, _, _, _, _, _, _, _, _, _, _, _, _, _, _, _, _, _, _, _, _, _, _, _, _, _, _, _, _, _, _, _, _, _, _, _, _, _, _, _, _, _, _, _, _, _, _, _, _, _, _, _, _, _, _, _, _, _, _, _, _, _, _, _, _, _, _, _, _, _, _, rfl, (by first | exact P2 | rfl), (by first | exact P3 | rfl), (by first | exact P4 | rfl), (by first | exact P5 | rfl), H0, H1, H2, fun _ => rfl, H4, fun _ => (by first | rfl | simp), K0, K1, K2, K3, B2⟩
    exact Steps.nil
  case fin =>
    intro L a wx hall hI
    refine ex_126 hI (fun x0 x1 x2 x3 x4 x5 x6 x7 x8 x9 x10 x11 x12 x13 x14 x15 x16 x17 x18 x19 x20 x21 x22 x23 x24 x25 x26 x27 x28 x29 x30 x31 x32 x33 x34 x35 x36 x37 x38 x39 x40 x41 x42 x43 x44 x45 x46 x47 x48 x49 x50 x51 x52 x53 x54 x55 x56 x57 x58 x59 x60 x61 x62 x63 x64 x65 x66 x67 x68 x69 x70 x71 x72 x73 x74 x75 x76 x77 x78 x79 x80 x81 x82 x83 x84 x85 x86 x87 x88 x89 x90 x91 x92 x93 x94 x95 x96 x97 x98 x99 x100 x101 x102 x103 x104 x105 x106 x107 x108 x109 x110 x111 x112 x113 x114 x115 x116 x117 x118 x119 x120 x121 x122 x123 x124 x125 hI => ?_)
    obtain ⟨rfl, P2, P3, P4, P5, H0, H1, H2, H3, H4, H5, K0, K1, K2, K3, B2⟩ := hI
    have E0 := H0 (hall 0 (by decide))
    have E1 := H1 (hall 1 (by decide))
    have E2 := H2 (hall 2 (by decide))
    have E3 := H3 (hall 3 (by decide))
    have E4 := H4 (hall 4 (by decide))
    have E5 := H5 (hall 5 (by decide))
    clear hall H0 H1 H2 H3 H4 H5
    subst E0 E1 E2 E3 E4 E5 P2 P3 P4 P5
    have b2 := bb b0 B2
    have c0 : wx.cell? ⟨w.heap.size + 1, 0, none⟩ = some (.int .u64 y) := by rw [K1.cell, U_at (by omega), dy]
    clear k0 k1 k2 k3 b0 B2 dy hI L
    rw [NY.out]
    generalize (limbs x).length = nn at *
    have j0 : ¬ nn = 0 := by omega
    have j1 : 1 ≤ (nn : Int) := by omega
    have j2 : (nn : Int) ≤ 16 := by omega
    clear lx hx0 hx1 hy0 hy1 y16 hx hy
    go_wp2_with (refine ldW K0 la _ rfl rfl rfl ?_)
    refine (SH _).mono ?_; rintro e w3 ⟨rfl, g3⟩
    have b3 := bb b2 g3
    have q2 := K2.keep g3
    have q3 := K3.keep g3
    have r3 := far_ (b := w.heap.size + 1 + 1) (cs := U (lim (x / y))) q3 (by omega)
    go_wp2_with (first | (refine stW q2 zeros_len lq _ _ rfl rfl rfl rfl ?_) | (refine stW r3 zeros_len lr _ _ rfl rfl rfl rfl ?_))
    exact bodyPost_ret (res22 Try.results53 _ rfl rfl (far_ (put_ q2) (by omega)) lq (put_ r3) lr) rfl ⟨rfl, below_row (below_row b3 (by omega) _) (by omega) _⟩
set_option maxRecDepth 100000 in
set_option maxHeartbeats 32000000 in
theorem Div_of {x y : Int} (hx : InW x) (hy : InW y) (y0 : y ≠ 0) (DV : ∀ W, Calls Try.prog 53 #[.agg (U (lim (ab x))), .agg (U (lim (ab y)))] W fun e w' => e = .returned (.tuple #[.agg (U (lim (ab x / ab y))), .agg (U (lim (ab x % ab y)))]) ∧ Below W.heap.size W w') (w : World) :
    Calls Try.prog 26 #[.agg (U (lim x)), .agg (U (lim y))] w fun e w' => (if InW (Int.tdiv x y) then e = .returned (.tuple #[.agg (U (lim (Int.tdiv x y))), .agg (U (lim (Int.tmod x y))), .bool true]) else e = .returned (.tuple #[.agg (U (lim 0)), .agg (U (lim 0)), .bool false])) ∧ Below w.heap.size w w' := by
  have la := lim_len x
  have lb := lim_len y
  have lc := lim_len (ab x / ab y)
  have ld := lim_len (ab x % ab y)
  have hX0 : 0 ≤ ab x := by unfold ab; split <;> omega
  have hX1 : ab x < 18446744073709551616 ^ 16 := by unfold InW at hx; unfold ab; split <;> omega
  have hY0 : 0 < ab y := by unfold ab; split <;> omega
  have AX := fun W => amount_c hx W
  have AY := fun W => amount_c hy W
  have EQ := fun W => run_eqlZ y W
  rw [show decide (lim y = zeros) = false by rw [decide_eq_false_iff_not, zeros_lim]; exact fun h => y0 (lim_inj hy inW_0 h)] at EQ
  have Q0 : 0 ≤ ab x / ab y := Int.ediv_nonneg hX0 (by omega)
  have Q1 : ab x / ab y < 18446744073709551616 ^ 16 := by
    have := Int.ediv_le_self (ab y) hX0
    omega
  have SQ : ((decide (x < 0) != decide (y < 0)) = false → Int.tdiv x y = ab x / ab y) ∧ ((decide (x < 0) != decide (y < 0)) = true → Int.tdiv x y = -(ab x / ab y)) := by
    unfold ab
    by_cases h1 : x < 0 <;> by_cases h2 : y < 0 <;> simp only [h1, h2, decide_true, decide_false, if_true, if_false]
    · exact ⟨fun _ => (by rw [← Int.tdiv_eq_ediv_of_nonneg (by omega), Int.neg_tdiv, Int.tdiv_neg, Int.neg_neg]), fun h => (by cases h)⟩
    · exact ⟨fun h => (by cases h), fun _ => (by rw [← Int.tdiv_eq_ediv_of_nonneg (by omega), Int.neg_tdiv, Int.neg_neg])⟩
    · exact ⟨fun h => (by cases h), fun _ => (by rw [← Int.tdiv_eq_ediv_of_nonneg (by omega), Int.tdiv_neg, Int.neg_neg])⟩
    · exact ⟨fun _ => (by rw [Int.tdiv_eq_ediv_of_nonneg (by omega)]), fun h => (by cases h)⟩
  have SR : (decide (x < 0) = false → Int.tmod x y = ab x % ab y) ∧ (decide (x < 0) = true → Int.tmod x y = -(ab x % ab y)) := by
    have e : ∀ z : Int, z % (if y < 0 then -y else y) = z % y := fun z => by split; exact Int.emod_neg _ _; rfl
    unfold ab
    rw [e]
    by_cases h1 : x < 0 <;> simp only [h1, decide_true, decide_false, if_true, if_false]
    · exact ⟨fun h => (by cases h), fun _ => (by rw [← Int.tmod_eq_emod_of_nonneg (by omega), Int.neg_tmod, Int.neg_neg])⟩
    · exact ⟨fun _ => (by rw [Int.tmod_eq_emod_of_nonneg (by omega)]), fun h => (by cases h)⟩
  have SP := fun W => signed_p Q0 Q1 W
  have SM := fun W => signed_m Q0 Q1 W
  have lqn := lim_len (-(ab x / ab y))
  have lrn := lim_len (-(ab x % ab y))
  have NG := fun W => neg_c (ab x % ab y) W
  have Bx := fun W => below_c hx W
  have By := fun W => below_c hy W
  generalize hQ : ab x / ab y = q at *
  generalize hR : ab x % ab y = r at *
  obtain ⟨ip, hip⟩ : ∃ ip, decide (InW q) = ip := ⟨_, rfl⟩
  obtain ⟨im, him⟩ : ∃ im, decide (InW (-q)) = im := ⟨_, rfl⟩
  rw [hip] at SP
  rw [him] at SM
  generalize Int.tdiv x y = tq at *
  generalize Int.tmod x y = tr at *
  have FIN : ∀ (e : Ending) (s : Int), tq = s → (decide (InW s) = true → e = .returned (.tuple #[.agg (U (lim s)), .agg (U (lim tr)), .bool true])) → (decide (InW s) = false → e = .returned (.tuple #[.agg (U zeros), .agg (U zeros), .bool false])) → (if InW tq then e = .returned (.tuple #[.agg (U (lim tq)), .agg (U (lim tr)), .bool true]) else e = .returned (.tuple #[.agg (U (lim 0)), .agg (U (lim 0)), .bool false])) := by
    rintro e s rfl h1 h2
    by_cases h : InW tq
    · rw [if_pos h]; exact h1 (decide_eq_true h)
    · rw [if_neg h, ← zeros_lim]; exact h2 (decide_eq_false h)
  have HF := Lib.hid (And.intro FIN (And.intro hip (And.intro him (And.intro SQ SR))))
  generalize hP : (fun (e : Ending) => if InW tq then e = .returned (.tuple #[.agg (U (lim tq)), .agg (U (lim tr)), .bool true]) else e = .returned (.tuple #[.agg (U (lim 0)), .agg (U (lim 0)), .bool false])) = PP
  have HPP : ∀ e, PP e → (if InW tq then e = .returned (.tuple #[.agg (U (lim tq)), .agg (U (lim tr)), .bool true]) else e = .returned (.tuple #[.agg (U (lim 0)), .agg (U (lim 0)), .bool false])) := fun e h => by rw [← hP] at h; exact h
  have HPQ : ∀ e, (if InW tq then e = .returned (.tuple #[.agg (U (lim tq)), .agg (U (lim tr)), .bool true]) else e = .returned (.tuple #[.agg (U (lim 0)), .agg (U (lim 0)), .bool false])) → PP e := fun e h => by rw [← hP]; exact h
  refine Calls.mono (R := fun e w' => PP e ∧ Below w.heap.size w w') ?_ (fun e w' h => ⟨HPP e h.1, h.2⟩)
  have HQ := Lib.hid HPQ
  clear FIN hip him SQ SR hP HPP HPQ hQ hR Q0 Q1
  generalize decide (x < 0) = sx at *
  generalize decide (y < 0) = sy at *
  obtain ⟨k0, k1, k2, k3, b0⟩ := start4 w (lim x) (lim y) _ rfl
  go_enter Try.func26, Try.ntmps26
  go_wp2_with (refine ldW k1 lb _ rfl rfl rfl ?_)
  have N0 := k0.lt
  have N1 := k1.lt
  have N2 := k2.lt
  have N3 := k3.lt
  have ex : ((((w.alloc (.cells (U (lim x)) 27)).alloc (.cells (U (lim y)) 27)).alloc (.cells #[.int .u64 0, .int .u64 0, .int .u64 0, .int .u64 0, .int .u64 0, .int .u64 0, .int .u64 0, .int .u64 0, .int .u64 0, .int .u64 0, .int .u64 0, .int .u64 0, .int .u64 0, .int .u64 0, .int .u64 0, .int .u64 0] 27)).alloc (.cells #[.int .u64 0, .int .u64 0, .int .u64 0, .int .u64 0, .int .u64 0, .int .u64 0, .int .u64 0, .int .u64 0, .int .u64 0, .int .u64 0, .int .u64 0, .int .u64 0, .int .u64 0, .int .u64 0, .int .u64 0, .int .u64 0] 27)) = ((((w.alloc (.cells (U (lim x)) 27)).alloc (.cells (U (lim y)) 27)).alloc (.cells (U zeros) 27)).alloc (.cells (U zeros) 27)) := rfl
  (try rw [ex])
  clear ex
  generalize ((((w.alloc (.cells (U (lim x)) 27)).alloc (.cells (U (lim y)) 27)).alloc (.cells (U zeros) 27)).alloc (.cells (U zeros) 27)) = w1 at *
  refine region_steps (fun L a wx => ∃ (x0 x1 x2 x3 x4 x5 x6 x7 x8 x9 x10 x11 x12 x13 x14 x15 x16 x17 x18 x19 x20 x21 x22 x23 x24 x25 x26 x27 x28 x29 x30 x31 x32 x33 x34 x35 x36 x37 x38 x39 x40 x41 x42 x43 : Value) (q8 q9 : Nat), a = { tmps := #[x0, x1, x2, x3, x4, x5, x6, x7, x8, x9, x10, x11, x12, x13, x14, x15, x16, x17, x18, x19, x20, x21, x22, x23, x24, x25, x26, x27, x28, x29, x30, x31, x32, x33, x34, x35, x36, x37, x38, x39, x40, x41, x42, x43], defers := [] } ∧ x2 = .pointer (some ⟨w.heap.size, 0, none⟩) ∧ x3 = .pointer (some ⟨(w.heap.size + 1), 0, none⟩) ∧ x4 = .pointer (some ⟨(w.heap.size + 1 + 1), 0, none⟩) ∧ x5 = .pointer (some ⟨(w.heap.size + 1 + 1 + 1), 0, none⟩) ∧ x6 = .bool false ∧ (L 0 = true → x17 = .agg (U (lim x))) ∧ (L 1 = true → x18 = .agg (U (lim (ab x)))) ∧ (L 2 = true → x19 = .agg (U (lim y))) ∧ (L 3 = true → x20 = .agg (U (lim (ab y)))) ∧ (L 4 = true → x21 = .tuple #[.agg (U (lim q)), .agg (U (lim r))]) ∧ (L 5 = true → x16 = .tuple #[.agg (U (lim q)), .agg (U (lim r))]) ∧ (L 6 = true → x22 = .agg (U (lim q))) ∧ (L 7 = true → x23 = .agg (U (lim r))) ∧ (L 8 = true → x7 = .pointer (some ⟨q8, 0, none⟩) ∧ w1.heap.size ≤ q8 ∧ (L 10 = false → Blk wx q8 (U zeros) 27)) ∧ (L 10 = true → L 8 = true ∧ Blk wx q8 (U (lim q)) 27) ∧ (L 9 = true → x8 = .pointer (some ⟨q9, 0, none⟩) ∧ w1.heap.size ≤ q9 ∧ (L 11 = false → Blk wx q9 (U zeros) 27)) ∧ (L 11 = true → L 9 = true ∧ Blk wx q9 (U (lim r)) 27) ∧ (L 8 = true → L 9 = true → q8 ≠ q9) ∧ Blk wx w.heap.size (U (lim x)) 27 ∧ Blk wx (w.heap.size + 1) (U (lim y)) 27 ∧ Blk wx (w.heap.size + 1 + 1) (U (zeros)) 27 ∧ Blk wx (w.heap.size + 1 + 1 + 1) (U (zeros)) 27 ∧ Below w1.heap.size w1 wx) [0, 1, 2, 3, 4, 5, 6, 7, 8, 9, 10, 11] (by kernel_rfl) (by kernel_rfl) (by kernel_rfl) ?start ?steps ?fin
  case start =>
    exact ⟨_, _, _, _, _, _, _, _, _, _, _, _, _, _, _, _, _, _, _, _, _, _, _, _, _, _, _, _, _, _, _, _, _, _, _, _, _, _, _, _, _, _, _, _, 0, 0, rfl, (by first | rfl | simp only [*]), (by first | rfl | simp only [*]), (by first | rfl | simp only [*]), (by first | rfl | simp only [*]), (by first | rfl | simp only [*]), fun h => absurd h (by decide), fun h => absurd h (by decide), fun h => absurd h (by decide), fun h => absurd h (by decide), fun h => absurd h (by decide), fun h => absurd h (by decide), fun h => absurd h (by decide), fun h => absurd h (by decide), fun h => absurd h (by decide), fun h => absurd h (by decide), fun h => absurd h (by decide), fun h => absurd h (by decide), fun h => absurd h (by decide), k0.drew, k1.drew, k2.drew, k3.drew, (Below.refl _ _).drew⟩
  case steps =>
    refine Steps.cons rfl (fun L a wx K hK hL hp hI => ?_) ?_
    · refine ex_44 hI (fun x0 x1 x2 x3 x4 x5 x6 x7 x8 x9 x10 x11 x12 x13 x14 x15 x16 x17 x18 x19 x20 x21 x22 x23 x24 x25 x26 x27 x28 x29 x30 x31 x32 x33 x34 x35 x36 x37 x38 x39 x40 x41 x42 x43 hI => ?_)
      obtain ⟨q8, q9, rfl, P2, P3, P4, P5, P6, H0, H1, H2, H3, H4, H5, H6, H7, A8, S8, A9, S9, D8_9, K0, K1, K2, K3, B2⟩ := hI
      clear hp
      subst P2
      refine wanted_ (by rfl) ?_
      refine wp_load_row 27 _ rfl w.heap.size rfl 27 (U (lim x)) (0, 0) _ K0 Try.underlying27 rfl (ofLen la) ?_
      (try simp only [Act.put, List.setIfInBounds_toArray, List.set_cons_zero, List.set_cons_succ])
      exact hK.out _ _ ⟨_, _, _, _, _, _, _, _, _, _, _, _, _, _, _, _, _, _, _, _, _, _, _, _, _, _, _, _, _, _, _, _, _, _, _, _, _, _, _, _, _, _, _, _, q8, q9, rfl, rfl, P3, P4, P5, P6, fun _ => rfl, H1, H2, H3, H4, H5, H6, H7, fun h => ⟨(A8 h).1, (A8 h).2.1, fun k => ((A8 h).2.2 k)⟩, fun h => ⟨up_true (S8 h).1, (S8 h).2⟩, fun h => ⟨(A9 h).1, (A9 h).2.1, fun k => ((A9 h).2.2 k)⟩, fun h => ⟨up_true (S9 h).1, (S9 h).2⟩, D8_9, K0, K1, K2, K3, B2⟩
    refine Steps.cons rfl (fun L a wx K hK hL hp hI => ?_) ?_
    · refine ex_44 hI (fun x0 x1 x2 x3 x4 x5 x6 x7 x8 x9 x10 x11 x12 x13 x14 x15 x16 x17 x18 x19 x20 x21 x22 x23 x24 x25 x26 x27 x28 x29 x30 x31 x32 x33 x34 x35 x36 x37 x38 x39 x40 x41 x42 x43 hI => ?_)
      obtain ⟨q8, q9, rfl, P2, P3, P4, P5, P6, H0, H1, H2, H3, H4, H5, H6, H7, A8, S8, A9, S9, D8_9, K0, K1, K2, K3, B2⟩ := hI
      have p0 : L 0 = true := hp ⟨0, .data⟩ (by simp) rfl
      have e0 := H0 p0
      clear hp
      subst e0
      refine wanted_ (by rfl) ?_
      refine goesK_ Try.func43 (by kernel_rfl) rfl #[.agg (U (lim x))] rfl (by simp [Act.eval]) ?_
      refine (AX _).mono ?_
      rintro e w' ⟨rfl, g⟩
      refine ⟨_, rfl, ?_⟩
      (try simp only [Act.put, List.setIfInBounds_toArray, List.set_cons_zero, List.set_cons_succ])
      exact hK.out _ _ ⟨_, _, _, _, _, _, _, _, _, _, _, _, _, _, _, _, _, _, _, _, _, _, _, _, _, _, _, _, _, _, _, _, _, _, _, _, _, _, _, _, _, _, _, _, q8, q9, rfl, P2, P3, P4, P5, P6, fun _ => rfl, fun _ => rfl, H2, H3, H4, H5, H6, H7, fun h => ⟨(A8 h).1, (A8 h).2.1, fun k => (Blk.keep ((A8 h).2.2 k) g)⟩, fun h => ⟨up_true (S8 h).1, (Blk.keep (S8 h).2 g)⟩, fun h => ⟨(A9 h).1, (A9 h).2.1, fun k => (Blk.keep ((A9 h).2.2 k) g)⟩, fun h => ⟨up_true (S9 h).1, (Blk.keep (S9 h).2 g)⟩, D8_9, (Blk.keep K0 g), (Blk.keep K1 g), (Blk.keep K2 g), (Blk.keep K3 g), bb B2 g⟩
    refine Steps.cons rfl (fun L a wx K hK hL hp hI => ?_) ?_
    · refine ex_44 hI (fun x0 x1 x2 x3 x4 x5 x6 x7 x8 x9 x10 x11 x12 x13 x14 x15 x16 x17 x18 x19 x20 x21 x22 x23 x24 x25 x26 x27 x28 x29 x30 x31 x32 x33 x34 x35 x36 x37 x38 x39 x40 x41 x42 x43 hI => ?_)
      obtain ⟨q8, q9, rfl, P2, P3, P4, P5, P6, H0, H1, H2, H3, H4, H5, H6, H7, A8, S8, A9, S9, D8_9, K0, K1, K2, K3, B2⟩ := hI
      clear hp
      subst P3
      refine wanted_ (by rfl) ?_
      refine wp_load_row 27 _ rfl (w.heap.size + 1) rfl 27 (U (lim y)) (0, 0) _ K1 Try.underlying27 rfl (ofLen lb) ?_
      (try simp only [Act.put, List.setIfInBounds_toArray, List.set_cons_zero, List.set_cons_succ])
      exact hK.out _ _ ⟨_, _, _, _, _, _, _, _, _, _, _, _, _, _, _, _, _, _, _, _, _, _, _, _, _, _, _, _, _, _, _, _, _, _, _, _, _, _, _, _, _, _, _, _, q8, q9, rfl, P2, rfl, P4, P5, P6, H0, H1, fun _ => rfl, H3, H4, H5, H6, H7, fun h => ⟨(A8 h).1, (A8 h).2.1, fun k => ((A8 h).2.2 k)⟩, fun h => ⟨up_true (S8 h).1, (S8 h).2⟩, fun h => ⟨(A9 h).1, (A9 h).2.1, fun k => ((A9 h).2.2 k)⟩, fun h => ⟨up_true (S9 h).1, (S9 h).2⟩, D8_9, K0, K1, K2, K3, B2⟩
    refine Steps.cons rfl (fun L a wx K hK hL hp hI => ?_) ?_
    · refine ex_44 hI (fun x0 x1 x2 x3 x4 x5 x6 x7 x8 x9 x10 x11 x12 x13 x14 x15 x16 x17 x18 x19 x20 x21 x22 x23 x24 x25 x26 x27 x28 x29 x30 x31 x32 x33 x34 x35 x36 x37 x38 x39 x40 x41 x42 x43 hI => ?_)
      obtain ⟨q8, q9, rfl, P2, P3, P4, P5, P6, H0, H1, H2, H3, H4, H5, H6, H7, A8, S8, A9, S9, D8_9, K0, K1, K2, K3, B2⟩ := hI
      have p2 : L 2 = true := hp ⟨2, .data⟩ (by simp) rfl
      have e2 := H2 p2
      clear hp
      subst e2
      refine wanted_ (by rfl) ?_
      refine goesK_ Try.func43 (by kernel_rfl) rfl #[.agg (U (lim y))] rfl (by simp [Act.eval]) ?_
      refine (AY _).mono ?_
      rintro e w' ⟨rfl, g⟩
      refine ⟨_, rfl, ?_⟩
      (try simp only [Act.put, List.setIfInBounds_toArray, List.set_cons_zero, List.set_cons_succ])
      exact hK.out _ _ ⟨_, _, _, _, _, _, _, _, _, _, _, _, _, _, _, _, _, _, _, _, _, _, _, _, _, _, _, _, _, _, _, _, _, _, _, _, _, _, _, _, _, _, _, _, q8, q9, rfl, P2, P3, P4, P5, P6, H0, H1, fun _ => rfl, fun _ => rfl, H4, H5, H6, H7, fun h => ⟨(A8 h).1, (A8 h).2.1, fun k => (Blk.keep ((A8 h).2.2 k) g)⟩, fun h => ⟨up_true (S8 h).1, (Blk.keep (S8 h).2 g)⟩, fun h => ⟨(A9 h).1, (A9 h).2.1, fun k => (Blk.keep ((A9 h).2.2 k) g)⟩, fun h => ⟨up_true (S9 h).1, (Blk.keep (S9 h).2 g)⟩, D8_9, (Blk.keep K0 g), (Blk.keep K1 g), (Blk.keep K2 g), (Blk.keep K3 g), bb B2 g⟩
    refine Steps.cons rfl (fun L a wx K hK hL hp hI => ?_) ?_
    · refine ex_44 hI (fun x0 x1 x2 x3 x4 x5 x6 x7 x8 x9 x10 x11 x12 x13 x14 x15 x16 x17 x18 x19 x20 x21 x22 x23 x24 x25 x26 x27 x28 x29 x30 x31 x32 x33 x34 x35 x36 x37 x38 x39 x40 x41 x42 x43 hI => ?_)
      obtain ⟨q8, q9, rfl, P2, P3, P4, P5, P6, H0, H1, H2, H3, H4, H5, H6, H7, A8, S8, A9, S9, D8_9, K0, K1, K2, K3, B2⟩ := hI
      have p1 : L 1 = true := hp ⟨1, .data⟩ (by simp) rfl
      have e1 := H1 p1
      have p3 : L 3 = true := hp ⟨3, .data⟩ (by simp) rfl
      have e3 := H3 p3
      clear hp
      subst e1 e3
      refine wanted_ (by rfl) ?_
      refine goesK_ Try.func53 (by kernel_rfl) rfl #[.agg (U (lim (ab x))), .agg (U (lim (ab y)))] rfl (by simp [Act.eval]) ?_
      refine (DV _).mono ?_
      rintro e w' ⟨rfl, g⟩
      refine ⟨_, rfl, ?_⟩
      (try simp only [Act.put, List.setIfInBounds_toArray, List.set_cons_zero, List.set_cons_succ])
      exact hK.out _ _ ⟨_, _, _, _, _, _, _, _, _, _, _, _, _, _, _, _, _, _, _, _, _, _, _, _, _, _, _, _, _, _, _, _, _, _, _, _, _, _, _, _, _, _, _, _, q8, q9, rfl, P2, P3, P4, P5, P6, H0, fun _ => rfl, H2, fun _ => rfl, fun _ => rfl, H5, H6, H7, fun h => ⟨(A8 h).1, (A8 h).2.1, fun k => (Blk.keep ((A8 h).2.2 k) g)⟩, fun h => ⟨up_true (S8 h).1, (Blk.keep (S8 h).2 g)⟩, fun h => ⟨(A9 h).1, (A9 h).2.1, fun k => (Blk.keep ((A9 h).2.2 k) g)⟩, fun h => ⟨up_true (S9 h).1, (Blk.keep (S9 h).2 g)⟩, D8_9, (Blk.keep K0 g), (Blk.keep K1 g), (Blk.keep K2 g), (Blk.keep K3 g), bb B2 g⟩
    refine Steps.cons rfl (fun L a wx K hK hL hp hI => ?_) ?_
    · refine ex_44 hI (fun x0 x1 x2 x3 x4 x5 x6 x7 x8 x9 x10 x11 x12 x13 x14 x15 x16 x17 x18 x19 x20 x21 x22 x23 x24 x25 x26 x27 x28 x29 x30 x31 x32 x33 x34 x35 x36 x37 x38 x39 x40 x41 x42 x43 hI => ?_)
      obtain ⟨q8, q9, rfl, P2, P3, P4, P5, P6, H0, H1, H2, H3, H4, H5, H6, H7, A8, S8, A9, S9, D8_9, K0, K1, K2, K3, B2⟩ := hI
      have p4 : L 4 = true := hp ⟨4, .data⟩ (by simp) rfl
      have e4 := H4 p4
      clear hp
      subst e4
      go_simp
      exact hK.out _ _ ⟨_, _, _, _, _, _, _, _, _, _, _, _, _, _, _, _, _, _, _, _, _, _, _, _, _, _, _, _, _, _, _, _, _, _, _, _, _, _, _, _, _, _, _, _, q8, q9, rfl, (by first | exact P2 | rfl), (by first | exact P3 | rfl), (by first | exact P4 | rfl), (by first | exact P5 | rfl), (by first | exact P6 | rfl), H0, H1, H2, H3, fun _ => rfl, fun _ => (by first | rfl | simp), H6, H7, fun h => ⟨(A8 h).1, (A8 h).2.1, fun k => ((A8 h).2.2 k)⟩, fun h => ⟨up_true (S8 h).1, (S8 h).2⟩, fun h => ⟨(A9 h).1, (A9 h).2.1, fun k => ((A9 h).2.2 k)⟩, fun h => ⟨up_true (S9 h).1, (S9 h).2⟩, D8_9, K0, K1, K2, K3, B2⟩
    refine Steps.cons rfl (fun L a wx K hK hL hp hI => ?_) ?_
    · refine ex_44 hI (fun x0 x1 x2 x3 x4 x5 x6 x7 x8 x9 x10 x11 x12 x13 x14 x15 x16 x17 x18 x19 x20 x21 x22 x23 x24 x25 x26 x27 x28 x29 x30 x31 x32 x33 x34 x35 x36 x37 x38 x39 x40 x41 x42 x43 hI => ?_)
      obtain ⟨q8, q9, rfl, P2, P3, P4, P5, P6, H0, H1, H2, H3, H4, H5, H6, H7, A8, S8, A9, S9, D8_9, K0, K1, K2, K3, B2⟩ := hI
      have p5 : L 5 = true := hp ⟨5, .data⟩ (by simp) rfl
      have e5 := H5 p5
      clear hp
      subst e5
      go_simp
      exact hK.out _ _ ⟨_, _, _, _, _, _, _, _, _, _, _, _, _, _, _, _, _, _, _, _, _, _, _, _, _, _, _, _, _, _, _, _, _, _, _, _, _, _, _, _, _, _, _, _, q8, q9, rfl, (by first | exact P2 | rfl), (by first | exact P3 | rfl), (by first | exact P4 | rfl), (by first | exact P5 | rfl), (by first | exact P6 | rfl), H0, H1, H2, H3, H4, fun _ => rfl, fun _ => (by first | rfl | simp), H7, fun h => ⟨(A8 h).1, (A8 h).2.1, fun k => ((A8 h).2.2 k)⟩, fun h => ⟨up_true (S8 h).1, (S8 h).2⟩, fun h => ⟨(A9 h).1, (A9 h).2.1, fun k => ((A9 h).2.2 k)⟩, fun h => ⟨up_true (S9 h).1, (S9 h).2⟩, D8_9, K0, K1, K2, K3, B2⟩
    refine Steps.cons rfl (fun L a wx K hK hL hp hI => ?_) ?_
    · refine ex_44 hI (fun x0 x1 x2 x3 x4 x5 x6 x7 x8 x9 x10 x11 x12 x13 x14 x15 x16 x17 x18 x19 x20 x21 x22 x23 x24 x25 x26 x27 x28 x29 x30 x31 x32 x33 x34 x35 x36 x37 x38 x39 x40 x41 x42 x43 hI => ?_)
      obtain ⟨q8, q9, rfl, P2, P3, P4, P5, P6, H0, H1, H2, H3, H4, H5, H6, H7, A8, S8, A9, S9, D8_9, K0, K1, K2, K3, B2⟩ := hI
      have p5 : L 5 = true := hp ⟨5, .data⟩ (by simp) rfl
      have e5 := H5 p5
      clear hp
      subst e5
      go_simp
      exact hK.out _ _ ⟨_, _, _, _, _, _, _, _, _, _, _, _, _, _, _, _, _, _, _, _, _, _, _, _, _, _, _, _, _, _, _, _, _, _, _, _, _, _, _, _, _, _, _, _, q8, q9, rfl, (by first | exact P2 | rfl), (by first | exact P3 | rfl), (by first | exact P4 | rfl), (by first | exact P5 | rfl), (by first | exact P6 | rfl), H0, H1, H2, H3, H4, fun _ => rfl, H6, fun _ => (by first | rfl | simp), fun h => ⟨(A8 h).1, (A8 h).2.1, fun k => ((A8 h).2.2 k)⟩, fun h => ⟨up_true (S8 h).1, (S8 h).2⟩, fun h => ⟨(A9 h).1, (A9 h).2.1, fun k => ((A9 h).2.2 k)⟩, fun h => ⟨up_true (S9 h).1, (S9 h).2⟩, D8_9, K0, K1, K2, K3, B2⟩
    refine Steps.cons rfl (fun L a wx K hK hL hp hI => ?_) ?_
    · refine ex_44 hI (fun x0 x1 x2 x3 x4 x5 x6 x7 x8 x9 x10 x11 x12 x13 x14 x15 x16 x17 x18 x19 x20 x21 x22 x23 x24 x25 x26 x27 x28 x29 x30 x31 x32 x33 x34 x35 x36 x37 x38 x39 x40 x41 x42 x43 hI => ?_)
      obtain ⟨q8, q9, rfl, P2, P3, P4, P5, P6, H0, H1, H2, H3, H4, H5, H6, H7, A8, S8, A9, S9, D8_9, K0, K1, K2, K3, B2⟩ := hI
      have hst : ¬ L 10 = true := fun h => absurd (S8 h).1 (by simp [hL])
      have LT9 : L 9 = true → q9 < wx.heap.size := fun h => by
          cases hs : L 11 with
          | true => exact (S9 hs).2.lt
          | false => exact ((A9 h).2.2 hs).lt
      clear hp
      go_simp
      exact hK.out _ _ ⟨_, _, _, _, _, _, _, _, _, _, _, _, _, _, _, _, _, _, _, _, _, _, _, _, _, _, _, _, _, _, _, _, _, _, _, _, _, _, _, _, _, _, _, _, wx.heap.size, q9, rfl, (by first | exact P2 | rfl), (by first | exact P3 | rfl), (by first | exact P4 | rfl), (by first | exact P5 | rfl), (by first | exact P6 | rfl), H0, H1, H2, H3, H4, H5, H6, H7, fun _ => ⟨rfl, B2.size, fun _ => Blk.new _ _ _⟩, fun h => absurd (S8 h).1 (by simp [hL]), fun h => ⟨(A9 h).1, (A9 h).2.1, fun k => (Blk.alloc ((A9 h).2.2 k) _)⟩, fun h => ⟨up_true (S9 h).1, (Blk.alloc (S9 h).2 _)⟩, fun _ h => Nat.ne_of_gt ((LT9 h)), (Blk.alloc K0 _), (Blk.alloc K1 _), (Blk.alloc K2 _), (Blk.alloc K3 _), bb B2 ((Below.refl _ _).alloc (Nat.le_refl _) _)⟩
    refine Steps.cons rfl (fun L a wx K hK hL hp hI => ?_) ?_
    · refine ex_44 hI (fun x0 x1 x2 x3 x4 x5 x6 x7 x8 x9 x10 x11 x12 x13 x14 x15 x16 x17 x18 x19 x20 x21 x22 x23 x24 x25 x26 x27 x28 x29 x30 x31 x32 x33 x34 x35 x36 x37 x38 x39 x40 x41 x42 x43 hI => ?_)
      obtain ⟨q8, q9, rfl, P2, P3, P4, P5, P6, H0, H1, H2, H3, H4, H5, H6, H7, A8, S8, A9, S9, D8_9, K0, K1, K2, K3, B2⟩ := hI
      have hst : ¬ L 11 = true := fun h => absurd (S9 h).1 (by simp [hL])
      have LT8 : L 8 = true → q8 < wx.heap.size := fun h => by
          cases hs : L 10 with
          | true => exact (S8 hs).2.lt
          | false => exact ((A8 h).2.2 hs).lt
      clear hp
      go_simp
      exact hK.out _ _ ⟨_, _, _, _, _, _, _, _, _, _, _, _, _, _, _, _, _, _, _, _, _, _, _, _, _, _, _, _, _, _, _, _, _, _, _, _, _, _, _, _, _, _, _, _, q8, wx.heap.size, rfl, (by first | exact P2 | rfl), (by first | exact P3 | rfl), (by first | exact P4 | rfl), (by first | exact P5 | rfl), (by first | exact P6 | rfl), H0, H1, H2, H3, H4, H5, H6, H7, fun h => ⟨(A8 h).1, (A8 h).2.1, fun k => (Blk.alloc ((A8 h).2.2 k) _)⟩, fun h => ⟨up_true (S8 h).1, (Blk.alloc (S8 h).2 _)⟩, fun _ => ⟨rfl, B2.size, fun _ => Blk.new _ _ _⟩, fun h => absurd (S9 h).1 (by simp [hL]), fun h _ => Nat.ne_of_lt ((LT8 h)), (Blk.alloc K0 _), (Blk.alloc K1 _), (Blk.alloc K2 _), (Blk.alloc K3 _), bb B2 ((Below.refl _ _).alloc (Nat.le_refl _) _)⟩
    refine Steps.cons rfl (fun L a wx K hK hL hp hI => ?_) ?_
    · refine ex_44 hI (fun x0 x1 x2 x3 x4 x5 x6 x7 x8 x9 x10 x11 x12 x13 x14 x15 x16 x17 x18 x19 x20 x21 x22 x23 x24 x25 x26 x27 x28 x29 x30 x31 x32 x33 x34 x35 x36 x37 x38 x39 x40 x41 x42 x43 hI => ?_)
      obtain ⟨q8, q9, rfl, P2, P3, P4, P5, P6, H0, H1, H2, H3, H4, H5, H6, H7, A8, S8, A9, S9, D8_9, K0, K1, K2, K3, B2⟩ := hI
      have p8 : L 8 = true := hp ⟨8, .data⟩ (by simp) rfl
      obtain ⟨e8, z8, f8⟩ := A8 p8
      have p6 : L 6 = true := hp ⟨6, .data⟩ (by simp) rfl
      have e6 := H6 p6
      clear hp
      subst e8 e6
      have NE_0 : w.heap.size ≠ q8 := by have := N0; omega
      have NE_1 : (w.heap.size + 1) ≠ q8 := by have := N1; omega
      have NE_2 : (w.heap.size + 1 + 1) ≠ q8 := by have := N2; omega
      have NE_3 : (w.heap.size + 1 + 1 + 1) ≠ q8 := by have := N3; omega
      refine wanted_ (by rfl) ?_
      refine wp_store_row 27 _ _ rfl q8 (U (lim q)) rfl rfl 27 (U zeros) (f8 hL) (ofLen lc) (by rw [U_size, U_size, lc, zeros_len]) (one_cell _) ?_
      (try simp only [Act.put, List.setIfInBounds_toArray, List.set_cons_zero, List.set_cons_succ])
      exact hK.out _ _ ⟨_, _, _, _, _, _, _, _, _, _, _, _, _, _, _, _, _, _, _, _, _, _, _, _, _, _, _, _, _, _, _, _, _, _, _, _, _, _, _, _, _, _, _, _, q8, q9, rfl, P2, P3, P4, P5, P6, H0, H1, H2, H3, H4, H5, fun _ => rfl, H7, fun _ => ⟨rfl, z8, fun h => absurd h (by simp [YInv.up])⟩, fun _ => ⟨up_true p8, put_ (f8 hL)⟩, fun h => ⟨(A9 h).1, (A9 h).2.1, fun k => far_ ((A9 h).2.2 k) (Ne.symm (D8_9 p8 h))⟩, fun h => ⟨up_true (S9 h).1, far_ (S9 h).2 (Ne.symm (D8_9 p8 (S9 h).1))⟩, D8_9, (far_ K0 (NE_0)), (far_ K1 (NE_1)), (far_ K2 (NE_2)), (far_ K3 (NE_3)), below_row B2 z8 _⟩
    refine Steps.cons rfl (fun L a wx K hK hL hp hI => ?_) ?_
    · refine ex_44 hI (fun x0 x1 x2 x3 x4 x5 x6 x7 x8 x9 x10 x11 x12 x13 x14 x15 x16 x17 x18 x19 x20 x21 x22 x23 x24 x25 x26 x27 x28 x29 x30 x31 x32 x33 x34 x35 x36 x37 x38 x39 x40 x41 x42 x43 hI => ?_)
      obtain ⟨q8, q9, rfl, P2, P3, P4, P5, P6, H0, H1, H2, H3, H4, H5, H6, H7, A8, S8, A9, S9, D8_9, K0, K1, K2, K3, B2⟩ := hI
      have p9 : L 9 = true := hp ⟨9, .data⟩ (by simp) rfl
      obtain ⟨e9, z9, f9⟩ := A9 p9
      have p7 : L 7 = true := hp ⟨7, .data⟩ (by simp) rfl
      have e7 := H7 p7
      clear hp
      subst e9 e7
      have NE_0 : w.heap.size ≠ q9 := by have := N0; omega
      have NE_1 : (w.heap.size + 1) ≠ q9 := by have := N1; omega
      have NE_2 : (w.heap.size + 1 + 1) ≠ q9 := by have := N2; omega
      have NE_3 : (w.heap.size + 1 + 1 + 1) ≠ q9 := by have := N3; omega
      refine wanted_ (by rfl) ?_
      refine wp_store_row 27 _ _ rfl q9 (U (lim r)) rfl rfl 27 (U zeros) (f9 hL) (ofLen ld) (by rw [U_size, U_size, ld, zeros_len]) (one_cell _) ?_
      (try simp only [Act.put, List.setIfInBounds_toArray, List.set_cons_zero, List.set_cons_succ])
      exact hK.out _ _ ⟨_, _, _, _, _, _, _, _, _, _, _, _, _, _, _, _, _, _, _, _, _, _, _, _, _, _, _, _, _, _, _, _, _, _, _, _, _, _, _, _, _, _, _, _, q8, q9, rfl, P2, P3, P4, P5, P6, H0, H1, H2, H3, H4, H5, H6, fun _ => rfl, fun h => ⟨(A8 h).1, (A8 h).2.1, fun k => far_ ((A8 h).2.2 k) (D8_9 h p9)⟩, fun h => ⟨up_true (S8 h).1, far_ (S8 h).2 (D8_9 (S8 h).1 p9)⟩, fun _ => ⟨rfl, z9, fun h => absurd h (by simp [YInv.up])⟩, fun _ => ⟨up_true p9, put_ (f9 hL)⟩, D8_9, (far_ K0 (NE_0)), (far_ K1 (NE_1)), (far_ K2 (NE_2)), (far_ K3 (NE_3)), below_row B2 z9 _⟩
    exact Steps.nil
  case fin =>
    intro L a wx hall hI
    refine ex_44 hI (fun x0 x1 x2 x3 x4 x5 x6 x7 x8 x9 x10 x11 x12 x13 x14 x15 x16 x17 x18 x19 x20 x21 x22 x23 x24 x25 x26 x27 x28 x29 x30 x31 x32 x33 x34 x35 x36 x37 x38 x39 x40 x41 x42 x43 hI => ?_)
    obtain ⟨q8, q9, rfl, P2, P3, P4, P5, P6, H0, H1, H2, H3, H4, H5, H6, H7, A8, S8, A9, S9, D8_9, K0, K1, K2, K3, B2⟩ := hI
    have E0 := H0 (hall 0 (by decide))
    have E1 := H1 (hall 1 (by decide))
    have E2 := H2 (hall 2 (by decide))
    have E3 := H3 (hall 3 (by decide))
    have E4 := H4 (hall 4 (by decide))
    have E5 := H5 (hall 5 (by decide))
    have E6 := H6 (hall 6 (by decide))
    have E7 := H7 (hall 7 (by decide))
    obtain ⟨E8, Z8, -⟩ := A8 (hall 8 (by decide))
    have KS8 := (S8 (hall 10 (by decide))).2
    obtain ⟨E9, Z9, -⟩ := A9 (hall 9 (by decide))
    have KS9 := (S9 (hall 11 (by decide))).2
    have D_8_9 := D8_9 (hall 8 (by decide)) (hall 9 (by decide))
    clear hall H0 H1 H2 H3 H4 H5 H6 H7 A8 S8 A9 S9 D8_9
    subst E0 E1 E2 E3 E4 E5 E6 E7 E8 E9 P2 P3 P4 P5 P6
    have b1 := bb b0 B2
    have zb := b0.size
    have N0 := K0.lt
    have N1 := K1.lt
    have N2 := K2.lt
    have N3 := K3.lt
    have N8 := KS8.lt
    have N9 := KS9.lt
    clear k0 k1 k2 k3 B2 b0 AX AY DV EQ L hI
    go_wp2_with fail
    generalize wx = w2 at *
    by_cases hss : sx = sy
    · subst hss
      refine region_steps (fun L a wx => ∃ (x0 x1 x2 x3 x4 x5 x6 x7 x8 x9 x10 x11 x12 x13 x14 x15 x16 x17 x18 x19 x20 x21 x22 x23 x24 x25 x26 x27 x28 x29 x30 x31 x32 x33 x34 x35 x36 x37 x38 x39 x40 x41 x42 x43 : Value) (q10 : Nat), a = { tmps := #[x0, x1, x2, x3, x4, x5, x6, x7, x8, x9, x10, x11, x12, x13, x14, x15, x16, x17, x18, x19, x20, x21, x22, x23, x24, x25, x26, x27, x28, x29, x30, x31, x32, x33, x34, x35, x36, x37, x38, x39, x40, x41, x42, x43], defers := [] } ∧ x2 = .pointer (some ⟨w.heap.size, 0, none⟩) ∧ x3 = .pointer (some ⟨(w.heap.size + 1), 0, none⟩) ∧ x4 = .pointer (some ⟨(w.heap.size + 1 + 1), 0, none⟩) ∧ x5 = .pointer (some ⟨(w.heap.size + 1 + 1 + 1), 0, none⟩) ∧ x6 = .bool false ∧ x7 = .pointer (some ⟨q8, 0, none⟩) ∧ x8 = .pointer (some ⟨q9, 0, none⟩) ∧ (L 0 = true → x25 = .agg (U (lim q))) ∧ (L 1 = true → x26 = .agg (U (lim x))) ∧ (L 2 = true → x27 = .bool sx) ∧ (L 3 = true → x28 = .agg (U (lim y))) ∧ (L 4 = true → x29 = .bool sx) ∧ (L 5 = true → x30 = .bool false) ∧ (L 6 = true → x31 = .tuple #[.agg (U (lim q)), .bool ip]) ∧ (L 7 = true → x24 = .tuple #[.agg (U (lim q)), .bool ip]) ∧ (L 8 = true → x32 = .agg (U (lim q))) ∧ (L 9 = true → x33 = .bool ip) ∧ (L 12 = true → x10 = .bool ip) ∧ (L 10 = true → x9 = .pointer (some ⟨q10, 0, none⟩) ∧ w2.heap.size ≤ q10 ∧ (L 11 = false → Blk wx q10 (U zeros) 27)) ∧ (L 11 = true → L 10 = true ∧ Blk wx q10 (U (lim q)) 27) ∧ Blk wx w.heap.size (U (lim x)) 27 ∧ Blk wx (w.heap.size + 1) (U (lim y)) 27 ∧ Blk wx (w.heap.size + 1 + 1) (U (zeros)) 27 ∧ Blk wx (w.heap.size + 1 + 1 + 1) (U (zeros)) 27 ∧ Blk wx q8 (U (lim q)) 27 ∧ Blk wx q9 (U (lim r)) 27 ∧ Below w2.heap.size w2 wx) [0, 1, 2, 3, 4, 5, 6, 7, 8, 9, 10, 11, 12] (by kernel_rfl) (by kernel_rfl) (by kernel_rfl) ?start ?steps ?fin
      case start =>
        exact ⟨_, _, _, _, _, _, _, _, _, _, _, _, _, _, _, _, _, _, _, _, _, _, _, _, _, _, _, _, _, _, _, _, _, _, _, _, _, _, _, _, _, _, _, _, 0, rfl, (by first | rfl | simp only [*]), (by first | rfl | simp only [*]), (by first | rfl | simp only [*]), (by first | rfl | simp only [*]), (by first | rfl | simp only [*]), (by first | rfl | simp only [*]), (by first | rfl | simp only [*]), fun h => absurd h (by decide), fun h => absurd h (by decide), fun h => absurd h (by decide), fun h => absurd h (by decide), fun h => absurd h (by decide), fun h => absurd h (by decide), fun h => absurd h (by decide), fun h => absurd h (by decide), fun h => absurd h (by decide), fun h => absurd h (by decide), fun h => absurd h (by decide), fun h => absurd h (by decide), fun h => absurd h (by decide), K0.drew, K1.drew, K2.drew, K3.drew, KS8.drew, KS9.drew, (Below.refl _ _).drew⟩
      case steps =>
        refine Steps.cons rfl (fun L a wx K hK hL hp hI => ?_) ?_
        · refine ex_44 hI (fun x0 x1 x2 x3 x4 x5 x6 x7 x8 x9 x10 x11 x12 x13 x14 x15 x16 x17 x18 x19 x20 x21 x22 x23 x24 x25 x26 x27 x28 x29 x30 x31 x32 x33 x34 x35 x36 x37 x38 x39 x40 x41 x42 x43 hI => ?_)
          obtain ⟨q10, rfl, P2, P3, P4, P5, P6, P7, P8, H0, H1, H2, H3, H4, H5, H6, H7, H8, H9, H12, A10, S10, K0, K1, K2, K3, K4, K5, B2⟩ := hI
          clear hp
          subst P7
          refine wanted_ (by rfl) ?_
          refine wp_load_row 27 _ rfl q8 rfl 27 (U (lim q)) (0, 0) _ K4 Try.underlying27 rfl (ofLen lc) ?_
          (try simp only [Act.put, List.setIfInBounds_toArray, List.set_cons_zero, List.set_cons_succ])
          exact hK.out _ _ ⟨_, _, _, _, _, _, _, _, _, _, _, _, _, _, _, _, _, _, _, _, _, _, _, _, _, _, _, _, _, _, _, _, _, _, _, _, _, _, _, _, _, _, _, _, q10, rfl, P2, P3, P4, P5, P6, rfl, P8, fun _ => rfl, H1, H2, H3, H4, H5, H6, H7, H8, H9, H12, fun h => ⟨(A10 h).1, (A10 h).2.1, fun k => ((A10 h).2.2 k)⟩, fun h => ⟨up_true (S10 h).1, (S10 h).2⟩, K0, K1, K2, K3, K4, K5, B2⟩
        refine Steps.cons rfl (fun L a wx K hK hL hp hI => ?_) ?_
        · refine ex_44 hI (fun x0 x1 x2 x3 x4 x5 x6 x7 x8 x9 x10 x11 x12 x13 x14 x15 x16 x17 x18 x19 x20 x21 x22 x23 x24 x25 x26 x27 x28 x29 x30 x31 x32 x33 x34 x35 x36 x37 x38 x39 x40 x41 x42 x43 hI => ?_)
          obtain ⟨q10, rfl, P2, P3, P4, P5, P6, P7, P8, H0, H1, H2, H3, H4, H5, H6, H7, H8, H9, H12, A10, S10, K0, K1, K2, K3, K4, K5, B2⟩ := hI
          clear hp
          subst P2
          refine wanted_ (by rfl) ?_
          refine wp_load_row 27 _ rfl w.heap.size rfl 27 (U (lim x)) (0, 0) _ K0 Try.underlying27 rfl (ofLen la) ?_
          (try simp only [Act.put, List.setIfInBounds_toArray, List.set_cons_zero, List.set_cons_succ])
          exact hK.out _ _ ⟨_, _, _, _, _, _, _, _, _, _, _, _, _, _, _, _, _, _, _, _, _, _, _, _, _, _, _, _, _, _, _, _, _, _, _, _, _, _, _, _, _, _, _, _, q10, rfl, rfl, P3, P4, P5, P6, P7, P8, H0, fun _ => rfl, H2, H3, H4, H5, H6, H7, H8, H9, H12, fun h => ⟨(A10 h).1, (A10 h).2.1, fun k => ((A10 h).2.2 k)⟩, fun h => ⟨up_true (S10 h).1, (S10 h).2⟩, K0, K1, K2, K3, K4, K5, B2⟩
        refine Steps.cons rfl (fun L a wx K hK hL hp hI => ?_) ?_
        · refine ex_44 hI (fun x0 x1 x2 x3 x4 x5 x6 x7 x8 x9 x10 x11 x12 x13 x14 x15 x16 x17 x18 x19 x20 x21 x22 x23 x24 x25 x26 x27 x28 x29 x30 x31 x32 x33 x34 x35 x36 x37 x38 x39 x40 x41 x42 x43 hI => ?_)
          obtain ⟨q10, rfl, P2, P3, P4, P5, P6, P7, P8, H0, H1, H2, H3, H4, H5, H6, H7, H8, H9, H12, A10, S10, K0, K1, K2, K3, K4, K5, B2⟩ := hI
          have p1 : L 1 = true := hp ⟨1, .data⟩ (by simp) rfl
          have e1 := H1 p1
          clear hp
          subst e1
          refine wanted_ (by rfl) ?_
          refine goesK_ Try.func41 (by kernel_rfl) rfl #[.agg (U (lim x))] rfl (by simp [Act.eval]) ?_
          refine (Bx _).mono ?_
          rintro e w' ⟨rfl, g⟩
          refine ⟨_, rfl, ?_⟩
          (try simp only [Act.put, List.setIfInBounds_toArray, List.set_cons_zero, List.set_cons_succ])
          exact hK.out _ _ ⟨_, _, _, _, _, _, _, _, _, _, _, _, _, _, _, _, _, _, _, _, _, _, _, _, _, _, _, _, _, _, _, _, _, _, _, _, _, _, _, _, _, _, _, _, q10, rfl, P2, P3, P4, P5, P6, P7, P8, H0, fun _ => rfl, fun _ => rfl, H3, H4, H5, H6, H7, H8, H9, H12, fun h => ⟨(A10 h).1, (A10 h).2.1, fun k => (Blk.keep ((A10 h).2.2 k) g)⟩, fun h => ⟨up_true (S10 h).1, (Blk.keep (S10 h).2 g)⟩, (Blk.keep K0 g), (Blk.keep K1 g), (Blk.keep K2 g), (Blk.keep K3 g), (Blk.keep K4 g), (Blk.keep K5 g), bb B2 g⟩
        refine Steps.cons rfl (fun L a wx K hK hL hp hI => ?_) ?_
        · refine ex_44 hI (fun x0 x1 x2 x3 x4 x5 x6 x7 x8 x9 x10 x11 x12 x13 x14 x15 x16 x17 x18 x19 x20 x21 x22 x23 x24 x25 x26 x27 x28 x29 x30 x31 x32 x33 x34 x35 x36 x37 x38 x39 x40 x41 x42 x43 hI => ?_)
          obtain ⟨q10, rfl, P2, P3, P4, P5, P6, P7, P8, H0, H1, H2, H3, H4, H5, H6, H7, H8, H9, H12, A10, S10, K0, K1, K2, K3, K4, K5, B2⟩ := hI
          clear hp
          subst P3
          refine wanted_ (by rfl) ?_
          refine wp_load_row 27 _ rfl (w.heap.size + 1) rfl 27 (U (lim y)) (0, 0) _ K1 Try.underlying27 rfl (ofLen lb) ?_
          (try simp only [Act.put, List.setIfInBounds_toArray, List.set_cons_zero, List.set_cons_succ])
          exact hK.out _ _ ⟨_, _, _, _, _, _, _, _, _, _, _, _, _, _, _, _, _, _, _, _, _, _, _, _, _, _, _, _, _, _, _, _, _, _, _, _, _, _, _, _, _, _, _, _, q10, rfl, P2, rfl, P4, P5, P6, P7, P8, H0, H1, H2, fun _ => rfl, H4, H5, H6, H7, H8, H9, H12, fun h => ⟨(A10 h).1, (A10 h).2.1, fun k => ((A10 h).2.2 k)⟩, fun h => ⟨up_true (S10 h).1, (S10 h).2⟩, K0, K1, K2, K3, K4, K5, B2⟩
        refine Steps.cons rfl (fun L a wx K hK hL hp hI => ?_) ?_
        · refine ex_44 hI (fun x0 x1 x2 x3 x4 x5 x6 x7 x8 x9 x10 x11 x12 x13 x14 x15 x16 x17 x18 x19 x20 x21 x22 x23 x24 x25 x26 x27 x28 x29 x30 x31 x32 x33 x34 x35 x36 x37 x38 x39 x40 x41 x42 x43 hI => ?_)
          obtain ⟨q10, rfl, P2, P3, P4, P5, P6, P7, P8, H0, H1, H2, H3, H4, H5, H6, H7, H8, H9, H12, A10, S10, K0, K1, K2, K3, K4, K5, B2⟩ := hI
          have p3 : L 3 = true := hp ⟨3, .data⟩ (by simp) rfl
          have e3 := H3 p3
          clear hp
          subst e3
          refine wanted_ (by rfl) ?_
          refine goesK_ Try.func41 (by kernel_rfl) rfl #[.agg (U (lim y))] rfl (by simp [Act.eval]) ?_
          refine (By _).mono ?_
          rintro e w' ⟨rfl, g⟩
          refine ⟨_, rfl, ?_⟩
          (try simp only [Act.put, List.setIfInBounds_toArray, List.set_cons_zero, List.set_cons_succ])
          exact hK.out _ _ ⟨_, _, _, _, _, _, _, _, _, _, _, _, _, _, _, _, _, _, _, _, _, _, _, _, _, _, _, _, _, _, _, _, _, _, _, _, _, _, _, _, _, _, _, _, q10, rfl, P2, P3, P4, P5, P6, P7, P8, H0, H1, H2, fun _ => rfl, fun _ => rfl, H5, H6, H7, H8, H9, H12, fun h => ⟨(A10 h).1, (A10 h).2.1, fun k => (Blk.keep ((A10 h).2.2 k) g)⟩, fun h => ⟨up_true (S10 h).1, (Blk.keep (S10 h).2 g)⟩, (Blk.keep K0 g), (Blk.keep K1 g), (Blk.keep K2 g), (Blk.keep K3 g), (Blk.keep K4 g), (Blk.keep K5 g), bb B2 g⟩
        refine Steps.cons rfl (fun L a wx K hK hL hp hI => ?_) ?_
        · refine ex_44 hI (fun x0 x1 x2 x3 x4 x5 x6 x7 x8 x9 x10 x11 x12 x13 x14 x15 x16 x17 x18 x19 x20 x21 x22 x23 x24 x25 x26 x27 x28 x29 x30 x31 x32 x33 x34 x35 x36 x37 x38 x39 x40 x41 x42 x43 hI => ?_)
          obtain ⟨q10, rfl, P2, P3, P4, P5, P6, P7, P8, H0, H1, H2, H3, H4, H5, H6, H7, H8, H9, H12, A10, S10, K0, K1, K2, K3, K4, K5, B2⟩ := hI
          have p2 : L 2 = true := hp ⟨2, .data⟩ (by simp) rfl
          have e2 := H2 p2
          have p4 : L 4 = true := hp ⟨4, .data⟩ (by simp) rfl
          have e4 := H4 p4
          clear hp
          subst e2 e4
          go_simp
          exact hK.out _ _ ⟨_, _, _, _, _, _, _, _, _, _, _, _, _, _, _, _, _, _, _, _, _, _, _, _, _, _, _, _, _, _, _, _, _, _, _, _, _, _, _, _, _, _, _, _, q10, rfl, (by first | exact P2 | rfl), (by first | exact P3 | rfl), (by first | exact P4 | rfl), (by first | exact P5 | rfl), (by first | exact P6 | rfl), (by first | exact P7 | rfl), (by first | exact P8 | rfl), H0, H1, fun _ => rfl, H3, fun _ => rfl, fun _ => (by first | rfl | simp), H6, H7, H8, H9, H12, fun h => ⟨(A10 h).1, (A10 h).2.1, fun k => ((A10 h).2.2 k)⟩, fun h => ⟨up_true (S10 h).1, (S10 h).2⟩, K0, K1, K2, K3, K4, K5, B2⟩
        refine Steps.cons rfl (fun L a wx K hK hL hp hI => ?_) ?_
        · refine ex_44 hI (fun x0 x1 x2 x3 x4 x5 x6 x7 x8 x9 x10 x11 x12 x13 x14 x15 x16 x17 x18 x19 x20 x21 x22 x23 x24 x25 x26 x27 x28 x29 x30 x31 x32 x33 x34 x35 x36 x37 x38 x39 x40 x41 x42 x43 hI => ?_)
          obtain ⟨q10, rfl, P2, P3, P4, P5, P6, P7, P8, H0, H1, H2, H3, H4, H5, H6, H7, H8, H9, H12, A10, S10, K0, K1, K2, K3, K4, K5, B2⟩ := hI
          have p0 : L 0 = true := hp ⟨0, .data⟩ (by simp) rfl
          have e0 := H0 p0
          have p5 : L 5 = true := hp ⟨5, .data⟩ (by simp) rfl
          have e5 := H5 p5
          clear hp
          subst e0 e5
          refine wanted_ (by rfl) ?_
          refine goesK_ Try.func46 (by kernel_rfl) rfl #[.agg (U (lim q)), .bool false] rfl (by simp [Act.eval]) ?_
          refine (SP _).mono ?_
          rintro e w' ⟨rfl, g⟩
          refine ⟨_, rfl, ?_⟩
          (try simp only [Act.put, List.setIfInBounds_toArray, List.set_cons_zero, List.set_cons_succ])
          exact hK.out _ _ ⟨_, _, _, _, _, _, _, _, _, _, _, _, _, _, _, _, _, _, _, _, _, _, _, _, _, _, _, _, _, _, _, _, _, _, _, _, _, _, _, _, _, _, _, _, q10, rfl, P2, P3, P4, P5, P6, P7, P8, fun _ => rfl, H1, H2, H3, H4, fun _ => rfl, fun _ => rfl, H7, H8, H9, H12, fun h => ⟨(A10 h).1, (A10 h).2.1, fun k => (Blk.keep ((A10 h).2.2 k) g)⟩, fun h => ⟨up_true (S10 h).1, (Blk.keep (S10 h).2 g)⟩, (Blk.keep K0 g), (Blk.keep K1 g), (Blk.keep K2 g), (Blk.keep K3 g), (Blk.keep K4 g), (Blk.keep K5 g), bb B2 g⟩
        refine Steps.cons rfl (fun L a wx K hK hL hp hI => ?_) ?_
        · refine ex_44 hI (fun x0 x1 x2 x3 x4 x5 x6 x7 x8 x9 x10 x11 x12 x13 x14 x15 x16 x17 x18 x19 x20 x21 x22 x23 x24 x25 x26 x27 x28 x29 x30 x31 x32 x33 x34 x35 x36 x37 x38 x39 x40 x41 x42 x43 hI => ?_)
          obtain ⟨q10, rfl, P2, P3, P4, P5, P6, P7, P8, H0, H1, H2, H3, H4, H5, H6, H7, H8, H9, H12, A10, S10, K0, K1, K2, K3, K4, K5, B2⟩ := hI
          have p6 : L 6 = true := hp ⟨6, .data⟩ (by simp) rfl
          have e6 := H6 p6
          clear hp
          subst e6
          go_simp
          exact hK.out _ _ ⟨_, _, _, _, _, _, _, _, _, _, _, _, _, _, _, _, _, _, _, _, _, _, _, _, _, _, _, _, _, _, _, _, _, _, _, _, _, _, _, _, _, _, _, _, q10, rfl, (by first | exact P2 | rfl), (by first | exact P3 | rfl), (by first | exact P4 | rfl), (by first | exact P5 | rfl), (by first | exact P6 | rfl), (by first | exact P7 | rfl), (by first | exact P8 | rfl), H0, H1, H2, H3, H4, H5, fun _ => rfl, fun _ => (by first | rfl | simp), H8, H9, H12, fun h => ⟨(A10 h).1, (A10 h).2.1, fun k => ((A10 h).2.2 k)⟩, fun h => ⟨up_true (S10 h).1, (S10 h).2⟩, K0, K1, K2, K3, K4, K5, B2⟩
        refine Steps.cons rfl (fun L a wx K hK hL hp hI => ?_) ?_
        · refine ex_44 hI (fun x0 x1 x2 x3 x4 x5 x6 x7 x8 x9 x10 x11 x12 x13 x14 x15 x16 x17 x18 x19 x20 x21 x22 x23 x24 x25 x26 x27 x28 x29 x30 x31 x32 x33 x34 x35 x36 x37 x38 x39 x40 x41 x42 x43 hI => ?_)
          obtain ⟨q10, rfl, P2, P3, P4, P5, P6, P7, P8, H0, H1, H2, H3, H4, H5, H6, H7, H8, H9, H12, A10, S10, K0, K1, K2, K3, K4, K5, B2⟩ := hI
          have p7 : L 7 = true := hp ⟨7, .data⟩ (by simp) rfl
          have e7 := H7 p7
          clear hp
          subst e7
          go_simp
          exact hK.out _ _ ⟨_, _, _, _, _, _, _, _, _, _, _, _, _, _, _, _, _, _, _, _, _, _, _, _, _, _, _, _, _, _, _, _, _, _, _, _, _, _, _, _, _, _, _, _, q10, rfl, (by first | exact P2 | rfl), (by first | exact P3 | rfl), (by first | exact P4 | rfl), (by first | exact P5 | rfl), (by first | exact P6 | rfl), (by first | exact P7 | rfl), (by first | exact P8 | rfl), H0, H1, H2, H3, H4, H5, H6, fun _ => rfl, fun _ => (by first | rfl | simp), H9, H12, fun h => ⟨(A10 h).1, (A10 h).2.1, fun k => ((A10 h).2.2 k)⟩, fun h => ⟨up_true (S10 h).1, (S10 h).2⟩, K0, K1, K2, K3, K4, K5, B2⟩
        refine Steps.cons rfl (fun L a wx K hK hL hp hI => ?_) ?_
        · refine ex_44 hI (fun x0 x1 x2 x3 x4 x5 x6 x7 x8 x9 x10 x11 x12 x13 x14 x15 x16 x17 x18 x19 x20 x21 x22 x23 x24 x25 x26 x27 x28 x29 x30 x31 x32 x33 x34 x35 x36 x37 x38 x39 x40 x41 x42 x43 hI => ?_)
          obtain ⟨q10, rfl, P2, P3, P4, P5, P6, P7, P8, H0, H1, H2, H3, H4, H5, H6, H7, H8, H9, H12, A10, S10, K0, K1, K2, K3, K4, K5, B2⟩ := hI
          have p7 : L 7 = true := hp ⟨7, .data⟩ (by simp) rfl
          have e7 := H7 p7
          clear hp
          subst e7
          go_simp
          exact hK.out _ _ ⟨_, _, _, _, _, _, _, _, _, _, _, _, _, _, _, _, _, _, _, _, _, _, _, _, _, _, _, _, _, _, _, _, _, _, _, _, _, _, _, _, _, _, _, _, q10, rfl, (by first | exact P2 | rfl), (by first | exact P3 | rfl), (by first | exact P4 | rfl), (by first | exact P5 | rfl), (by first | exact P6 | rfl), (by first | exact P7 | rfl), (by first | exact P8 | rfl), H0, H1, H2, H3, H4, H5, H6, fun _ => rfl, H8, fun _ => (by first | rfl | simp), H12, fun h => ⟨(A10 h).1, (A10 h).2.1, fun k => ((A10 h).2.2 k)⟩, fun h => ⟨up_true (S10 h).1, (S10 h).2⟩, K0, K1, K2, K3, K4, K5, B2⟩
        refine Steps.cons rfl (fun L a wx K hK hL hp hI => ?_) ?_
        · refine ex_44 hI (fun x0 x1 x2 x3 x4 x5 x6 x7 x8 x9 x10 x11 x12 x13 x14 x15 x16 x17 x18 x19 x20 x21 x22 x23 x24 x25 x26 x27 x28 x29 x30 x31 x32 x33 x34 x35 x36 x37 x38 x39 x40 x41 x42 x43 hI => ?_)
          obtain ⟨q10, rfl, P2, P3, P4, P5, P6, P7, P8, H0, H1, H2, H3, H4, H5, H6, H7, H8, H9, H12, A10, S10, K0, K1, K2, K3, K4, K5, B2⟩ := hI
          have hst : ¬ L 11 = true := fun h => absurd (S10 h).1 (by simp [hL])
          clear hp
          go_simp
          exact hK.out _ _ ⟨_, _, _, _, _, _, _, _, _, _, _, _, _, _, _, _, _, _, _, _, _, _, _, _, _, _, _, _, _, _, _, _, _, _, _, _, _, _, _, _, _, _, _, _, wx.heap.size, rfl, (by first | exact P2 | rfl), (by first | exact P3 | rfl), (by first | exact P4 | rfl), (by first | exact P5 | rfl), (by first | exact P6 | rfl), (by first | exact P7 | rfl), (by first | exact P8 | rfl), H0, H1, H2, H3, H4, H5, H6, H7, H8, H9, H12, fun _ => ⟨rfl, B2.size, fun _ => Blk.new _ _ _⟩, fun h => absurd (S10 h).1 (by simp [hL]), (Blk.alloc K0 _), (Blk.alloc K1 _), (Blk.alloc K2 _), (Blk.alloc K3 _), (Blk.alloc K4 _), (Blk.alloc K5 _), bb B2 ((Below.refl _ _).alloc (Nat.le_refl _) _)⟩
        refine Steps.cons rfl (fun L a wx K hK hL hp hI => ?_) ?_
        · refine ex_44 hI (fun x0 x1 x2 x3 x4 x5 x6 x7 x8 x9 x10 x11 x12 x13 x14 x15 x16 x17 x18 x19 x20 x21 x22 x23 x24 x25 x26 x27 x28 x29 x30 x31 x32 x33 x34 x35 x36 x37 x38 x39 x40 x41 x42 x43 hI => ?_)
          obtain ⟨q10, rfl, P2, P3, P4, P5, P6, P7, P8, H0, H1, H2, H3, H4, H5, H6, H7, H8, H9, H12, A10, S10, K0, K1, K2, K3, K4, K5, B2⟩ := hI
          have p10 : L 10 = true := hp ⟨10, .data⟩ (by simp) rfl
          obtain ⟨e10, z10, f10⟩ := A10 p10
          have p8 : L 8 = true := hp ⟨8, .data⟩ (by simp) rfl
          have e8 := H8 p8
          clear hp
          subst e10 e8
          have NE_0 : w.heap.size ≠ q10 := by have := N0; omega
          have NE_1 : (w.heap.size + 1) ≠ q10 := by have := N1; omega
          have NE_2 : (w.heap.size + 1 + 1) ≠ q10 := by have := N2; omega
          have NE_3 : (w.heap.size + 1 + 1 + 1) ≠ q10 := by have := N3; omega
          have NE_4 : q8 ≠ q10 := by have := N8; omega
          have NE_5 : q9 ≠ q10 := by have := N9; omega
          refine wanted_ (by rfl) ?_
          refine wp_store_row 27 _ _ rfl q10 (U (lim q)) rfl rfl 27 (U zeros) (f10 hL) (ofLen lc) (by rw [U_size, U_size, lc, zeros_len]) (one_cell _) ?_
          (try simp only [Act.put, List.setIfInBounds_toArray, List.set_cons_zero, List.set_cons_succ])
          exact hK.out _ _ ⟨_, _, _, _, _, _, _, _, _, _, _, _, _, _, _, _, _, _, _, _, _, _, _, _, _, _, _, _, _, _, _, _, _, _, _, _, _, _, _, _, _, _, _, _, q10, rfl, P2, P3, P4, P5, P6, P7, P8, H0, H1, H2, H3, H4, H5, H6, H7, fun _ => rfl, H9, H12, fun _ => ⟨rfl, z10, fun h => absurd h (by simp [YInv.up])⟩, fun _ => ⟨up_true p10, put_ (f10 hL)⟩, (far_ K0 (NE_0)), (far_ K1 (NE_1)), (far_ K2 (NE_2)), (far_ K3 (NE_3)), (far_ K4 (NE_4)), (far_ K5 (NE_5)), below_row B2 z10 _⟩
        refine Steps.cons rfl (fun L a wx K hK hL hp hI => ?_) ?_
        · refine ex_44 hI (fun x0 x1 x2 x3 x4 x5 x6 x7 x8 x9 x10 x11 x12 x13 x14 x15 x16 x17 x18 x19 x20 x21 x22 x23 x24 x25 x26 x27 x28 x29 x30 x31 x32 x33 x34 x35 x36 x37 x38 x39 x40 x41 x42 x43 hI => ?_)
          obtain ⟨q10, rfl, P2, P3, P4, P5, P6, P7, P8, H0, H1, H2, H3, H4, H5, H6, H7, H8, H9, H12, A10, S10, K0, K1, K2, K3, K4, K5, B2⟩ := hI
          have p9 : L 9 = true := hp ⟨9, .data⟩ (by simp) rfl
          have e9 := H9 p9
          clear hp
          subst e9
          go_simp
          exact hK.out _ _ ⟨_, _, _, _, _, _, _, _, _, _, _, _, _, _, _, _, _, _, _, _, _, _, _, _, _, _, _, _, _, _, _, _, _, _, _, _, _, _, _, _, _, _, _, _, q10, rfl, (by first | exact P2 | rfl), (by first | exact P3 | rfl), (by first | exact P4 | rfl), (by first | exact P5 | rfl), (by first | exact P6 | rfl), (by first | exact P7 | rfl), (by first | exact P8 | rfl), H0, H1, H2, H3, H4, H5, H6, H7, H8, fun _ => rfl, fun _ => (by first | rfl | simp), fun h => ⟨(A10 h).1, (A10 h).2.1, fun k => ((A10 h).2.2 k)⟩, fun h => ⟨up_true (S10 h).1, (S10 h).2⟩, K0, K1, K2, K3, K4, K5, B2⟩
        exact Steps.nil
      case fin =>
        intro L a wx hall hI
        refine ex_44 hI (fun x0 x1 x2 x3 x4 x5 x6 x7 x8 x9 x10 x11 x12 x13 x14 x15 x16 x17 x18 x19 x20 x21 x22 x23 x24 x25 x26 x27 x28 x29 x30 x31 x32 x33 x34 x35 x36 x37 x38 x39 x40 x41 x42 x43 hI => ?_)
        obtain ⟨q10, rfl, P2, P3, P4, P5, P6, P7, P8, H0, H1, H2, H3, H4, H5, H6, H7, H8, H9, H12, A10, S10, K0, K1, K2, K3, K4, K5, B2⟩ := hI
        have E0 := H0 (hall 0 (by decide))
        have E1 := H1 (hall 1 (by decide))
        have E2 := H2 (hall 2 (by decide))
        have E3 := H3 (hall 3 (by decide))
        have E4 := H4 (hall 4 (by decide))
        have E5 := H5 (hall 5 (by decide))
        have E6 := H6 (hall 6 (by decide))
        have E7 := H7 (hall 7 (by decide))
        have E8 := H8 (hall 8 (by decide))
        have E9 := H9 (hall 9 (by decide))
        obtain ⟨E10, Z10, -⟩ := A10 (hall 10 (by decide))
        have KS10 := (S10 (hall 11 (by decide))).2
        have E12 := H12 (hall 12 (by decide))
        clear hall H0 H1 H2 H3 H4 H5 H6 H7 H8 H9 H12 A10 S10
        subst E0 E1 E2 E3 E4 E5 E6 E7 E8 E9 E10 E12 P2 P3 P4 P5 P6 P7 P8
        have b3 := bb b1 B2
        have N0 := K0.lt
        have N2 := K2.lt
        have N3 := K3.lt
        have N5 := K5.lt
        have N10 := KS10.lt
        have P10 : q10 ≠ q9 := by omega
        clear B2 L hI SP SM By K1 K4 KS8 KS9 b1
        generalize wx = w3 at *
        have sgn := HF.out.2.2.2.1.1 (by first | rfl | simp | (cases sx <;> rfl))
        cases hib : ip
        · subst hib
          have F := fun e => HF.out.1 e _ sgn
          have hf : decide (InW q) = false := HF.out.2.1
          clear HF sgn
          have HH := Lib.hid (And.intro F hf)
          clear F hf
          go_wp2_with (first | (refine stW K2 zeros_len zeros_len _ _ rfl rfl rfl rfl ?_; have K3' := far_ (b := w.heap.size + 1 + 1) (cs := U zeros) K3 (by omega)) | (refine stW K3' zeros_len zeros_len _ _ rfl rfl rfl rfl ?_))
          refine bodyPost_ret (res221 Try.results26 _ rfl rfl (far_ (put_ K2) (by omega)) zeros_len (put_ K3') zeros_len) rfl ⟨HQ.out _ (HH.out.1 _ (fun h => ?_) (fun _ => rfl)), below_row (below_row b3 (by omega) _) (by omega) _⟩
          rw [HH.out.2] at h
          cases h
        · subst hib
          have F := fun e => HF.out.1 e _ sgn
          have hf : decide (InW q) = true := HF.out.2.1
          have sr := HF.out.2.2.2.2
          clear HF sgn
          have HH := Lib.hid (And.intro F (And.intro hf sr))
          clear F hf sr
          go_wp2_with (refine ldW K0 la _ rfl rfl rfl ?_)
          refine (Bx _).mono ?_; rintro e w4 ⟨rfl, g4⟩
          have b4 := bb b3 g4
          have K2 := K2.keep g4
          have K3 := K3.keep g4
          have K5 := K5.keep g4
          have K10 := KS10.keep g4
          have N2 := K2.lt
          have N3 := K3.lt
          have N5 := K5.lt
          have N10 := K10.lt
          clear K0 KS10 g4 b3 Bx
          cases sx
          · go_wp2_with fail
            have BW := b4
            clear b4
            generalize w4 = w6 at *
            refine region_steps (fun L a wx => ∃ (x0 x1 x2 x3 x4 x5 x6 x7 x8 x9 x10 x11 x12 x13 x14 x15 x16 x17 x18 x19 x20 x21 x22 x23 x24 x25 x26 x27 x28 x29 x30 x31 x32 x33 x34 x35 x36 x37 x38 x39 x40 x41 x42 x43 : Value), a = { tmps := #[x0, x1, x2, x3, x4, x5, x6, x7, x8, x9, x10, x11, x12, x13, x14, x15, x16, x17, x18, x19, x20, x21, x22, x23, x24, x25, x26, x27, x28, x29, x30, x31, x32, x33, x34, x35, x36, x37, x38, x39, x40, x41, x42, x43], defers := [] } ∧ x4 = .pointer (some ⟨(w.heap.size + 1 + 1), 0, none⟩) ∧ x5 = .pointer (some ⟨(w.heap.size + 1 + 1 + 1), 0, none⟩) ∧ x8 = .pointer (some ⟨q9, 0, none⟩) ∧ x9 = .pointer (some ⟨q10, 0, none⟩) ∧ (L 0 = true → x42 = .agg (U (lim q))) ∧ (L 1 = true → x43 = .agg (U (lim r))) ∧ (L 4 = true → x6 = .bool true) ∧ (L 2 = false → Blk wx (w.heap.size + 1 + 1) (U (zeros)) 27) ∧ (L 2 = true → Blk wx (w.heap.size + 1 + 1) (U (lim q)) 27) ∧ (L 3 = false → Blk wx (w.heap.size + 1 + 1 + 1) (U (zeros)) 27) ∧ (L 3 = true → Blk wx (w.heap.size + 1 + 1 + 1) (U (lim r)) 27) ∧ Blk wx q9 (U (lim r)) 27 ∧ Blk wx q10 (U (lim q)) 27 ∧ w6.heap.size ≤ wx.heap.size ∧ Below w.heap.size w wx) [0, 1, 2, 3, 4] (by kernel_rfl) (by kernel_rfl) (by kernel_rfl) ?start ?steps ?fin
            case start =>
              exact ⟨_, _, _, _, _, _, _, _, _, _, _, _, _, _, _, _, _, _, _, _, _, _, _, _, _, _, _, _, _, _, _, _, _, _, _, _, _, _, _, _, _, _, _, _, rfl, (by first | rfl | simp only [*]), (by first | rfl | simp only [*]), (by first | rfl | simp only [*]), (by first | rfl | simp only [*]), fun h => absurd h (by decide), fun h => absurd h (by decide), fun h => absurd h (by decide), fun _ => K2.drew, fun h => absurd h (by decide), fun _ => K3.drew, fun h => absurd h (by decide), K5.drew, K10.drew, Nat.le_refl _, BW.drew⟩
            case steps =>
              refine Steps.cons rfl (fun L a wx K hK hL hp hI => ?_) ?_
              · refine ex_44 hI (fun x0 x1 x2 x3 x4 x5 x6 x7 x8 x9 x10 x11 x12 x13 x14 x15 x16 x17 x18 x19 x20 x21 x22 x23 x24 x25 x26 x27 x28 x29 x30 x31 x32 x33 x34 x35 x36 x37 x38 x39 x40 x41 x42 x43 hI => ?_)
                obtain ⟨rfl, P4, P5, P8, P9, H0, H1, H4, F0, G0, F1, G1, K2, K3, B2, BW⟩ := hI
                clear hp
                subst P9
                refine wanted_ (by rfl) ?_
                refine wp_load_row 27 _ rfl q10 rfl 27 (U (lim q)) (0, 0) _ K3 Try.underlying27 rfl (ofLen lc) ?_
                (try simp only [Act.put, List.setIfInBounds_toArray, List.set_cons_zero, List.set_cons_succ])
                exact hK.out _ _ ⟨_, _, _, _, _, _, _, _, _, _, _, _, _, _, _, _, _, _, _, _, _, _, _, _, _, _, _, _, _, _, _, _, _, _, _, _, _, _, _, _, _, _, _, _, rfl, P4, P5, P8, rfl, fun _ => rfl, H1, H4, fun h => (F0 h), fun h => (G0 h), fun h => (F1 h), fun h => (G1 h), K2, K3, B2, BW⟩
              refine Steps.cons rfl (fun L a wx K hK hL hp hI => ?_) ?_
              · refine ex_44 hI (fun x0 x1 x2 x3 x4 x5 x6 x7 x8 x9 x10 x11 x12 x13 x14 x15 x16 x17 x18 x19 x20 x21 x22 x23 x24 x25 x26 x27 x28 x29 x30 x31 x32 x33 x34 x35 x36 x37 x38 x39 x40 x41 x42 x43 hI => ?_)
                obtain ⟨rfl, P4, P5, P8, P9, H0, H1, H4, F0, G0, F1, G1, K2, K3, B2, BW⟩ := hI
                clear hp
                subst P8
                refine wanted_ (by rfl) ?_
                refine wp_load_row 27 _ rfl q9 rfl 27 (U (lim r)) (0, 0) _ K2 Try.underlying27 rfl (ofLen ld) ?_
                (try simp only [Act.put, List.setIfInBounds_toArray, List.set_cons_zero, List.set_cons_succ])
                exact hK.out _ _ ⟨_, _, _, _, _, _, _, _, _, _, _, _, _, _, _, _, _, _, _, _, _, _, _, _, _, _, _, _, _, _, _, _, _, _, _, _, _, _, _, _, _, _, _, _, rfl, P4, P5, rfl, P9, H0, fun _ => rfl, H4, fun h => (F0 h), fun h => (G0 h), fun h => (F1 h), fun h => (G1 h), K2, K3, B2, BW⟩
              refine Steps.cons rfl (fun L a wx K hK hL hp hI => ?_) ?_
              · refine ex_44 hI (fun x0 x1 x2 x3 x4 x5 x6 x7 x8 x9 x10 x11 x12 x13 x14 x15 x16 x17 x18 x19 x20 x21 x22 x23 x24 x25 x26 x27 x28 x29 x30 x31 x32 x33 x34 x35 x36 x37 x38 x39 x40 x41 x42 x43 hI => ?_)
                obtain ⟨rfl, P4, P5, P8, P9, H0, H1, H4, F0, G0, F1, G1, K2, K3, B2, BW⟩ := hI
                have p0 : L 0 = true := hp ⟨0, .data⟩ (by simp) rfl
                have e0 := H0 p0
                clear hp
                subst e0 P4
                have N_0 := N2
                have N_1 := N3
                have N_2 := N5
                have N_3 := N10
                refine wanted_ (by rfl) ?_
                refine wp_store_row 27 _ _ rfl (w.heap.size + 1 + 1) (U (lim q)) rfl rfl 27 (U (zeros)) (F0 hL) (ofLen lc) (by rw [U_size, U_size, zeros_len, lc]) (one_cell _) ?_
                (try simp only [Act.put, List.setIfInBounds_toArray, List.set_cons_zero, List.set_cons_succ])
                exact hK.out _ _ ⟨_, _, _, _, _, _, _, _, _, _, _, _, _, _, _, _, _, _, _, _, _, _, _, _, _, _, _, _, _, _, _, _, _, _, _, _, _, _, _, _, _, _, _, _, rfl, rfl, P5, P8, P9, fun _ => rfl, H1, H4, fun h => absurd h (by simp [YInv.up]), fun _ => put_ (F0 hL), fun h => (far_ (F1 h) (by omega)), fun h => (far_ (G1 h) (by omega)), (far_ K2 (by omega)), (far_ K3 (by omega)), (by simp; exact B2), below_row BW (by omega) _⟩
              refine Steps.cons rfl (fun L a wx K hK hL hp hI => ?_) ?_
              · refine ex_44 hI (fun x0 x1 x2 x3 x4 x5 x6 x7 x8 x9 x10 x11 x12 x13 x14 x15 x16 x17 x18 x19 x20 x21 x22 x23 x24 x25 x26 x27 x28 x29 x30 x31 x32 x33 x34 x35 x36 x37 x38 x39 x40 x41 x42 x43 hI => ?_)
                obtain ⟨rfl, P4, P5, P8, P9, H0, H1, H4, F0, G0, F1, G1, K2, K3, B2, BW⟩ := hI
                have p1 : L 1 = true := hp ⟨1, .data⟩ (by simp) rfl
                have e1 := H1 p1
                clear hp
                subst e1 P5
                have N_0 := N2
                have N_1 := N3
                have N_2 := N5
                have N_3 := N10
                refine wanted_ (by rfl) ?_
                refine wp_store_row 27 _ _ rfl (w.heap.size + 1 + 1 + 1) (U (lim r)) rfl rfl 27 (U (zeros)) (F1 hL) (ofLen ld) (by rw [U_size, U_size, zeros_len, ld]) (one_cell _) ?_
                (try simp only [Act.put, List.setIfInBounds_toArray, List.set_cons_zero, List.set_cons_succ])
                exact hK.out _ _ ⟨_, _, _, _, _, _, _, _, _, _, _, _, _, _, _, _, _, _, _, _, _, _, _, _, _, _, _, _, _, _, _, _, _, _, _, _, _, _, _, _, _, _, _, _, rfl, P4, rfl, P8, P9, H0, fun _ => rfl, H4, fun h => (far_ (F0 h) (by omega)), fun h => (far_ (G0 h) (by omega)), fun h => absurd h (by simp [YInv.up]), fun _ => put_ (F1 hL), (far_ K2 (by omega)), (far_ K3 (by omega)), (by simp; exact B2), below_row BW (by omega) _⟩
              refine Steps.cons rfl (fun L a wx K hK hL hp hI => ?_) ?_
              · refine ex_44 hI (fun x0 x1 x2 x3 x4 x5 x6 x7 x8 x9 x10 x11 x12 x13 x14 x15 x16 x17 x18 x19 x20 x21 x22 x23 x24 x25 x26 x27 x28 x29 x30 x31 x32 x33 x34 x35 x36 x37 x38 x39 x40 x41 x42 x43 hI => ?_)
                obtain ⟨rfl, P4, P5, P8, P9, H0, H1, H4, F0, G0, F1, G1, K2, K3, B2, BW⟩ := hI
                clear hp
                go_simp
                exact hK.out _ _ ⟨_, _, _, _, _, _, _, _, _, _, _, _, _, _, _, _, _, _, _, _, _, _, _, _, _, _, _, _, _, _, _, _, _, _, _, _, _, _, _, _, _, _, _, _, rfl, (by first | exact P4 | rfl), (by first | exact P5 | rfl), (by first | exact P8 | rfl), (by first | exact P9 | rfl), H0, H1, fun _ => (by first | rfl | simp), fun h => (F0 h), fun h => (G0 h), fun h => (F1 h), fun h => (G1 h), K2, K3, B2, BW⟩
              exact Steps.nil
            case fin =>
              intro L a wx hall hI
              refine ex_44 hI (fun x0 x1 x2 x3 x4 x5 x6 x7 x8 x9 x10 x11 x12 x13 x14 x15 x16 x17 x18 x19 x20 x21 x22 x23 x24 x25 x26 x27 x28 x29 x30 x31 x32 x33 x34 x35 x36 x37 x38 x39 x40 x41 x42 x43 hI => ?_)
              obtain ⟨rfl, P4, P5, P8, P9, H0, H1, H4, F0, G0, F1, G1, K2, K3, B2, BW⟩ := hI
              have E0 := H0 (hall 0 (by decide))
              have E1 := H1 (hall 1 (by decide))
              have E4 := H4 (hall 4 (by decide))
              have K0 := G0 (hall 2 (by decide))
              have K1 := G1 (hall 3 (by decide))
              clear hall H0 H1 H4 F0 G0 F1 G1
              subst E0 E1 E4 P4 P5 P8 P9
              go_wp2_with fail
              refine bodyPost_ret (res221 Try.results26 _ rfl rfl K0 lc K1 ld) rfl ⟨HQ.out _ (HH.out.1 _ (fun _ => ?_) (fun h => ?_)), BW⟩
              · rw [HH.out.2.2.1 (by first | rfl | trivial)]; rfl
              · rw [HH.out.2.1] at h
                cases h
          · go_wp2_with (refine ldW K5 ld _ rfl rfl rfl ?_)
            refine (NG _).mono ?_; rintro e w5 ⟨rfl, g5⟩
            have b5 := bb b4 g5
            have K2 := far_ (b := q9) (cs := U (lim (-r))) (K2.keep g5) (by omega)
            have K3 := far_ (b := q9) (cs := U (lim (-r))) (K3.keep g5) (by omega)
            have K10 := far_ (b := q9) (cs := U (lim (-r))) (K10.keep g5) P10
            have K5o := K5.keep g5
            have K5 := put_ (cs := U (lim (-r))) K5o
            go_wp2_with (refine stW K5o ld lrn _ _ rfl rfl rfl rfl ?_)
            have BW := below_row (b := q9) b5 (by omega) (U (lim (-r)))
            have N2 := K2.lt
            have N3 := K3.lt
            have N5 := K5.lt
            have N10 := K10.lt
            clear K5o b5 b4 g5
            generalize w5.setRow q9 (U (lim (-r))) = w6 at *
            refine region_steps (fun L a wx => ∃ (x0 x1 x2 x3 x4 x5 x6 x7 x8 x9 x10 x11 x12 x13 x14 x15 x16 x17 x18 x19 x20 x21 x22 x23 x24 x25 x26 x27 x28 x29 x30 x31 x32 x33 x34 x35 x36 x37 x38 x39 x40 x41 x42 x43 : Value), a = { tmps := #[x0, x1, x2, x3, x4, x5, x6, x7, x8, x9, x10, x11, x12, x13, x14, x15, x16, x17, x18, x19, x20, x21, x22, x23, x24, x25, x26, x27, x28, x29, x30, x31, x32, x33, x34, x35, x36, x37, x38, x39, x40, x41, x42, x43], defers := [] } ∧ x4 = .pointer (some ⟨(w.heap.size + 1 + 1), 0, none⟩) ∧ x5 = .pointer (some ⟨(w.heap.size + 1 + 1 + 1), 0, none⟩) ∧ x8 = .pointer (some ⟨q9, 0, none⟩) ∧ x9 = .pointer (some ⟨q10, 0, none⟩) ∧ (L 0 = true → x42 = .agg (U (lim q))) ∧ (L 1 = true → x43 = .agg (U (lim (-r)))) ∧ (L 4 = true → x6 = .bool true) ∧ (L 2 = false → Blk wx (w.heap.size + 1 + 1) (U (zeros)) 27) ∧ (L 2 = true → Blk wx (w.heap.size + 1 + 1) (U (lim q)) 27) ∧ (L 3 = false → Blk wx (w.heap.size + 1 + 1 + 1) (U (zeros)) 27) ∧ (L 3 = true → Blk wx (w.heap.size + 1 + 1 + 1) (U (lim (-r))) 27) ∧ Blk wx q9 (U (lim (-r))) 27 ∧ Blk wx q10 (U (lim q)) 27 ∧ w6.heap.size ≤ wx.heap.size ∧ Below w.heap.size w wx) [0, 1, 2, 3, 4] (by kernel_rfl) (by kernel_rfl) (by kernel_rfl) ?start ?steps ?fin
            case start =>
              exact ⟨_, _, _, _, _, _, _, _, _, _, _, _, _, _, _, _, _, _, _, _, _, _, _, _, _, _, _, _, _, _, _, _, _, _, _, _, _, _, _, _, _, _, _, _, rfl, (by first | rfl | simp only [*]), (by first | rfl | simp only [*]), (by first | rfl | simp only [*]), (by first | rfl | simp only [*]), fun h => absurd h (by decide), fun h => absurd h (by decide), fun h => absurd h (by decide), fun _ => K2.drew, fun h => absurd h (by decide), fun _ => K3.drew, fun h => absurd h (by decide), K5.drew, K10.drew, Nat.le_refl _, BW.drew⟩
            case steps =>
              refine Steps.cons rfl (fun L a wx K hK hL hp hI => ?_) ?_
              · refine ex_44 hI (fun x0 x1 x2 x3 x4 x5 x6 x7 x8 x9 x10 x11 x12 x13 x14 x15 x16 x17 x18 x19 x20 x21 x22 x23 x24 x25 x26 x27 x28 x29 x30 x31 x32 x33 x34 x35 x36 x37 x38 x39 x40 x41 x42 x43 hI => ?_)
                obtain ⟨rfl, P4, P5, P8, P9, H0, H1, H4, F0, G0, F1, G1, K2, K3, B2, BW⟩ := hI
                clear hp
                subst P9
                refine wanted_ (by rfl) ?_
                refine wp_load_row 27 _ rfl q10 rfl 27 (U (lim q)) (0, 0) _ K3 Try.underlying27 rfl (ofLen lc) ?_
                (try simp only [Act.put, List.setIfInBounds_toArray, List.set_cons_zero, List.set_cons_succ])
                exact hK.out _ _ ⟨_, _, _, _, _, _, _, _, _, _, _, _, _, _, _, _, _, _, _, _, _, _, _, _, _, _, _, _, _, _, _, _, _, _, _, _, _, _, _, _, _, _, _, _, rfl, P4, P5, P8, rfl, fun _ => rfl, H1, H4, fun h => (F0 h), fun h => (G0 h), fun h => (F1 h), fun h => (G1 h), K2, K3, B2, BW⟩
              refine Steps.cons rfl (fun L a wx K hK hL hp hI => ?_) ?_
              · refine ex_44 hI (fun x0 x1 x2 x3 x4 x5 x6 x7 x8 x9 x10 x11 x12 x13 x14 x15 x16 x17 x18 x19 x20 x21 x22 x23 x24 x25 x26 x27 x28 x29 x30 x31 x32 x33 x34 x35 x36 x37 x38 x39 x40 x41 x42 x43 hI => ?_)
                obtain ⟨rfl, P4, P5, P8, P9, H0, H1, H4, F0, G0, F1, G1, K2, K3, B2, BW⟩ := hI
                clear hp
                subst P8
                refine wanted_ (by rfl) ?_
                refine wp_load_row 27 _ rfl q9 rfl 27 (U (lim (-r))) (0, 0) _ K2 Try.underlying27 rfl (ofLen lrn) ?_
                (try simp only [Act.put, List.setIfInBounds_toArray, List.set_cons_zero, List.set_cons_succ])
                exact hK.out _ _ ⟨_, _, _, _, _, _, _, _, _, _, _, _, _, _, _, _, _, _, _, _, _, _, _, _, _, _, _, _, _, _, _, _, _, _, _, _, _, _, _, _, _, _, _, _, rfl, P4, P5, rfl, P9, H0, fun _ => rfl, H4, fun h => (F0 h), fun h => (G0 h), fun h => (F1 h), fun h => (G1 h), K2, K3, B2, BW⟩
              refine Steps.cons rfl (fun L a wx K hK hL hp hI => ?_) ?_
              · refine ex_44 hI (fun x0 x1 x2 x3 x4 x5 x6 x7 x8 x9 x10 x11 x12 x13 x14 x15 x16 x17 x18 x19 x20 x21 x22 x23 x24 x25 x26 x27 x28 x29 x30 x31 x32 x33 x34 x35 x36 x37 x38 x39 x40 x41 x42 x43 hI => ?_)
                obtain ⟨rfl, P4, P5, P8, P9, H0, H1, H4, F0, G0, F1, G1, K2, K3, B2, BW⟩ := hI
                have p0 : L 0 = true := hp ⟨0, .data⟩ (by simp) rfl
                have e0 := H0 p0
                clear hp
                subst e0 P4
                have N_0 := N2
                have N_1 := N3
                have N_2 := N5
                have N_3 := N10
                refine wanted_ (by rfl) ?_
                refine wp_store_row 27 _ _ rfl (w.heap.size + 1 + 1) (U (lim q)) rfl rfl 27 (U (zeros)) (F0 hL) (ofLen lc) (by rw [U_size, U_size, zeros_len, lc]) (one_cell _) ?_
                (try simp only [Act.put, List.setIfInBounds_toArray, List.set_cons_zero, List.set_cons_succ])
                exact hK.out _ _ ⟨_, _, _, _, _, _, _, _, _, _, _, _, _, _, _, _, _, _, _, _, _, _, _, _, _, _, _, _, _, _, _, _, _, _, _, _, _, _, _, _, _, _, _, _, rfl, rfl, P5, P8, P9, fun _ => rfl, H1, H4, fun h => absurd h (by simp [YInv.up]), fun _ => put_ (F0 hL), fun h => (far_ (F1 h) (by omega)), fun h => (far_ (G1 h) (by omega)), (far_ K2 (by omega)), (far_ K3 (by omega)), (by simp; exact B2), below_row BW (by omega) _⟩
              refine Steps.cons rfl (fun L a wx K hK hL hp hI => ?_) ?_
              · refine ex_44 hI (fun x0 x1 x2 x3 x4 x5 x6 x7 x8 x9 x10 x11 x12 x13 x14 x15 x16 x17 x18 x19 x20 x21 x22 x23 x24 x25 x26 x27 x28 x29 x30 x31 x32 x33 x34 x35 x36 x37 x38 x39 x40 x41 x42 x43 hI => ?_)
                obtain ⟨rfl, P4, P5, P8, P9, H0, H1, H4, F0, G0, F1, G1, K2, K3, B2, BW⟩ := hI
                have p1 : L 1 = true := hp ⟨1, .data⟩ (by simp) rfl
                have e1 := H1 p1
                clear hp
                subst e1 P5
                have N_0 := N2
                have N_1 := N3
                have N_2 := N5
                have N_3 := N10
                refine wanted_ (by rfl) ?_
                refine wp_store_row 27 _ _ rfl (w.heap.size + 1 + 1 + 1) (U (lim (-r))) rfl rfl 27 (U (zeros)) (F1 hL) (ofLen lrn) (by rw [U_size, U_size, zeros_len, lrn]) (one_cell _) ?_
                (try simp only [Act.put, List.setIfInBounds_toArray, List.set_cons_zero, List.set_cons_succ])
                exact hK.out _ _ ⟨_, _, _, _, _, _, _, _, _, _, _, _, _, _, _, _, _, _, _, _, _, _, _, _, _, _, _, _, _, _, _, _, _, _, _, _, _, _, _, _, _, _, _, _, rfl, P4, rfl, P8, P9, H0, fun _ => rfl, H4, fun h => (far_ (F0 h) (by omega)), fun h => (far_ (G0 h) (by omega)), fun h => absurd h (by simp [YInv.up]), fun _ => put_ (F1 hL), (far_ K2 (by omega)), (far_ K3 (by omega)), (by simp; exact B2), below_row BW (by omega) _⟩
              refine Steps.cons rfl (fun L a wx K hK hL hp hI => ?_) ?_
              · refine ex_44 hI (fun x0 x1 x2 x3 x4 x5 x6 x7 x8 x9 x10 x11 x12 x13 x14 x15 x16 x17 x18 x19 x20 x21 x22 x23 x24 x25 x26 x27 x28 x29 x30 x31 x32 x33 x34 x35 x36 x37 x38 x39 x40 x41 x42 x43 hI => ?_)
                obtain ⟨rfl, P4, P5, P8, P9, H0, H1, H4, F0, G0, F1, G1, K2, K3, B2, BW⟩ := hI
                clear hp
                go_simp
                exact hK.out _ _ ⟨_, _, _, _, _, _, _, _, _, _, _, _, _, _, _, _, _, _, _, _, _, _, _, _, _, _, _, _, _, _, _, _, _, _, _, _, _, _, _, _, _, _, _, _, rfl, (by first | exact P4 | rfl), (by first | exact P5 | rfl), (by first | exact P8 | rfl), (by first | exact P9 | rfl), H0, H1, fun _ => (by first | rfl | simp), fun h => (F0 h), fun h => (G0 h), fun h => (F1 h), fun h => (G1 h), K2, K3, B2, BW⟩
              exact Steps.nil
            case fin =>
              intro L a wx hall hI
              refine ex_44 hI (fun x0 x1 x2 x3 x4 x5 x6 x7 x8 x9 x10 x11 x12 x13 x14 x15 x16 x17 x18 x19 x20 x21 x22 x23 x24 x25 x26 x27 x28 x29 x30 x31 x32 x33 x34 x35 x36 x37 x38 x39 x40 x41 x42 x43 hI => ?_)
              obtain ⟨rfl, P4, P5, P8, P9, H0, H1, H4, F0, G0, F1, G1, K2, K3, B2, BW⟩ := hI
              have E0 := H0 (hall 0 (by decide))
              have E1 := H1 (hall 1 (by decide))
              have E4 := H4 (hall 4 (by decide))
              have K0 := G0 (hall 2 (by decide))
              have K1 := G1 (hall 3 (by decide))
              clear hall H0 H1 H4 F0 G0 F1 G1
              subst E0 E1 E4 P4 P5 P8 P9
              go_wp2_with fail
              refine bodyPost_ret (res221 Try.results26 _ rfl rfl K0 lc K1 lrn) rfl ⟨HQ.out _ (HH.out.1 _ (fun _ => ?_) (fun h => ?_)), BW⟩
              · rw [HH.out.2.2.2 (by first | rfl | trivial)]; rfl
              · rw [HH.out.2.1] at h
                cases h
    · obtain rfl : sy = (!sx) := by revert hss; cases sx <;> cases sy <;> simp
      refine region_steps (fun L a wx => ∃ (x0 x1 x2 x3 x4 x5 x6 x7 x8 x9 x10 x11 x12 x13 x14 x15 x16 x17 x18 x19 x20 x21 x22 x23 x24 x25 x26 x27 x28 x29 x30 x31 x32 x33 x34 x35 x36 x37 x38 x39 x40 x41 x42 x43 : Value) (q10 : Nat), a = { tmps := #[x0, x1, x2, x3, x4, x5, x6, x7, x8, x9, x10, x11, x12, x13, x14, x15, x16, x17, x18, x19, x20, x21, x22, x23, x24, x25, x26, x27, x28, x29, x30, x31, x32, x33, x34, x35, x36, x37, x38, x39, x40, x41, x42, x43], defers := [] } ∧ x2 = .pointer (some ⟨w.heap.size, 0, none⟩) ∧ x3 = .pointer (some ⟨(w.heap.size + 1), 0, none⟩) ∧ x4 = .pointer (some ⟨(w.heap.size + 1 + 1), 0, none⟩) ∧ x5 = .pointer (some ⟨(w.heap.size + 1 + 1 + 1), 0, none⟩) ∧ x6 = .bool false ∧ x7 = .pointer (some ⟨q8, 0, none⟩) ∧ x8 = .pointer (some ⟨q9, 0, none⟩) ∧ (L 0 = true → x25 = .agg (U (lim q))) ∧ (L 1 = true → x26 = .agg (U (lim x))) ∧ (L 2 = true → x27 = .bool sx) ∧ (L 3 = true → x28 = .agg (U (lim y))) ∧ (L 4 = true → x29 = .bool (!sx)) ∧ (L 5 = true → x30 = .bool true) ∧ (L 6 = true → x31 = .tuple #[.agg (U (lim (-q))), .bool im]) ∧ (L 7 = true → x24 = .tuple #[.agg (U (lim (-q))), .bool im]) ∧ (L 8 = true → x32 = .agg (U (lim (-q)))) ∧ (L 9 = true → x33 = .bool im) ∧ (L 12 = true → x10 = .bool im) ∧ (L 10 = true → x9 = .pointer (some ⟨q10, 0, none⟩) ∧ w2.heap.size ≤ q10 ∧ (L 11 = false → Blk wx q10 (U zeros) 27)) ∧ (L 11 = true → L 10 = true ∧ Blk wx q10 (U (lim (-q))) 27) ∧ Blk wx w.heap.size (U (lim x)) 27 ∧ Blk wx (w.heap.size + 1) (U (lim y)) 27 ∧ Blk wx (w.heap.size + 1 + 1) (U (zeros)) 27 ∧ Blk wx (w.heap.size + 1 + 1 + 1) (U (zeros)) 27 ∧ Blk wx q8 (U (lim q)) 27 ∧ Blk wx q9 (U (lim r)) 27 ∧ Below w2.heap.size w2 wx) [0, 1, 2, 3, 4, 5, 6, 7, 8, 9, 10, 11, 12] (by kernel_rfl) (by kernel_rfl) (by kernel_rfl) ?start ?steps ?fin
      case start =>
        exact ⟨_, _, _, _, _, _, _, _, _, _, _, _, _, _, _, _, _, _, _, _, _, _, _, _, _, _, _, _, _, _, _, _, _, _, _, _, _, _, _, _, _, _, _, _, 0, rfl, (by first | rfl | simp only [*]), (by first | rfl | simp only [*]), (by first | rfl | simp only [*]), (by first | rfl | simp only [*]), (by first | rfl | simp only [*]), (by first | rfl | simp only [*]), (by first | rfl | simp only [*]), fun h => absurd h (by decide), fun h => absurd h (by decide), fun h => absurd h (by decide), fun h => absurd h (by decide), fun h => absurd h (by decide), fun h => absurd h (by decide), fun h => absurd h (by decide), fun h => absurd h (by decide), fun h => absurd h (by decide), fun h => absurd h (by decide), fun h => absurd h (by decide), fun h => absurd h (by decide), fun h => absurd h (by decide), K0.drew, K1.drew, K2.drew, K3.drew, KS8.drew, KS9.drew, (Below.refl _ _).drew⟩
      case steps =>
        refine Steps.cons rfl (fun L a wx K hK hL hp hI => ?_) ?_
        · refine ex_44 hI (fun x0 x1 x2 x3 x4 x5 x6 x7 x8 x9 x10 x11 x12 x13 x14 x15 x16 x17 x18 x19 x20 x21 x22 x23 x24 x25 x26 x27 x28 x29 x30 x31 x32 x33 x34 x35 x36 x37 x38 x39 x40 x41 x42 x43 hI => ?_)
          obtain ⟨q10, rfl, P2, P3, P4, P5, P6, P7, P8, H0, H1, H2, H3, H4, H5, H6, H7, H8, H9, H12, A10, S10, K0, K1, K2, K3, K4, K5, B2⟩ := hI
          clear hp
          subst P7
          refine wanted_ (by rfl) ?_
          refine wp_load_row 27 _ rfl q8 rfl 27 (U (lim q)) (0, 0) _ K4 Try.underlying27 rfl (ofLen lc) ?_
          (try simp only [Act.put, List.setIfInBounds_toArray, List.set_cons_zero, List.set_cons_succ])
          exact hK.out _ _ ⟨_, _, _, _, _, _, _, _, _, _, _, _, _, _, _, _, _, _, _, _, _, _, _, _, _, _, _, _, _, _, _, _, _, _, _, _, _, _, _, _, _, _, _, _, q10, rfl, P2, P3, P4, P5, P6, rfl, P8, fun _ => rfl, H1, H2, H3, H4, H5, H6, H7, H8, H9, H12, fun h => ⟨(A10 h).1, (A10 h).2.1, fun k => ((A10 h).2.2 k)⟩, fun h => ⟨up_true (S10 h).1, (S10 h).2⟩, K0, K1, K2, K3, K4, K5, B2⟩
        refine Steps.cons rfl (fun L a wx K hK hL hp hI => ?_) ?_
        · refine ex_44 hI (fun x0 x1 x2 x3 x4 x5 x6 x7 x8 x9 x10 x11 x12 x13 x14 x15 x16 x17 x18 x19 x20 x21 x22 x23 x24 x25 x26 x27 x28 x29 x30 x31 x32 x33 x34 x35 x36 x37 x38 x39 x40 x41 x42 x43 hI => ?_)
          obtain ⟨q10, rfl, P2, P3, P4, P5, P6, P7, P8, H0, H1, H2, H3, H4, H5, H6, H7, H8, H9, H12, A10, S10, K0, K1, K2, K3, K4, K5, B2⟩ := hI
          clear hp
          subst P2
          refine wanted_ (by rfl) ?_
          refine wp_load_row 27 _ rfl w.heap.size rfl 27 (U (lim x)) (0, 0) _ K0 Try.underlying27 rfl (ofLen la) ?_
          (try simp only [Act.put, List.setIfInBounds_toArray, List.set_cons_zero, List.set_cons_succ])
          exact hK.out _ _ ⟨_, _, _, _, _, _, _, _, _, _, _, _, _, _, _, _, _, _, _, _, _, _, _, _, _, _, _, _, _, _, _, _, _, _, _, _, _, _, _, _, _, _, _, _, q10, rfl, rfl, P3, P4, P5, P6, P7, P8, H0, fun _ => rfl, H2, H3, H4, H5, H6, H7, H8, H9, H12, fun h => ⟨(A10 h).1, (A10 h).2.1, fun k => ((A10 h).2.2 k)⟩, fun h => ⟨up_true (S10 h).1, (S10 h).2⟩, K0, K1, K2, K3, K4, K5, B2⟩
        refine Steps.cons rfl (fun L a wx K hK hL hp hI => ?_) ?_
        · refine ex_44 hI (fun x0 x1 x2 x3 x4 x5 x6 x7 x8 x9 x10 x11 x12 x13 x14 x15 x16 x17 x18 x19 x20 x21 x22 x23 x24 x25 x26 x27 x28 x29 x30 x31 x32 x33 x34 x35 x36 x37 x38 x39 x40 x41 x42 x43 hI => ?_)
          obtain ⟨q10, rfl, P2, P3, P4, P5, P6, P7, P8, H0, H1, H2, H3, H4, H5, H6, H7, H8, H9, H12, A10, S10, K0, K1, K2, K3, K4, K5, B2⟩ := hI
          have p1 : L 1 = true := hp ⟨1, .data⟩ (by simp) rfl
          have e1 := H1 p1
          clear hp
          subst e1
          refine wanted_ (by rfl) ?_
          refine goesK_ Try.func41 (by kernel_rfl) rfl #[.agg (U (lim x))] rfl (by simp [Act.eval]) ?_
          refine (Bx _).mono ?_
          rintro e w' ⟨rfl, g⟩
          refine ⟨_, rfl, ?_⟩
          (try simp only [Act.put, List.setIfInBounds_toArray, List.set_cons_zero, List.set_cons_succ])
          exact hK.out _ _ ⟨_, _, _, _, _, _, _, _, _, _, _, _, _, _, _, _, _, _, _, _, _, _, _, _, _, _, _, _, _, _, _, _, _, _, _, _, _, _, _, _, _, _, _, _, q10, rfl, P2, P3, P4, P5, P6, P7, P8, H0, fun _ => rfl, fun _ => rfl, H3, H4, H5, H6, H7, H8, H9, H12, fun h => ⟨(A10 h).1, (A10 h).2.1, fun k => (Blk.keep ((A10 h).2.2 k) g)⟩, fun h => ⟨up_true (S10 h).1, (Blk.keep (S10 h).2 g)⟩, (Blk.keep K0 g), (Blk.keep K1 g), (Blk.keep K2 g), (Blk.keep K3 g), (Blk.keep K4 g), (Blk.keep K5 g), bb B2 g⟩
        refine Steps.cons rfl (fun L a wx K hK hL hp hI => ?_) ?_
        · refine ex_44 hI (fun x0 x1 x2 x3 x4 x5 x6 x7 x8 x9 x10 x11 x12 x13 x14 x15 x16 x17 x18 x19 x20 x21 x22 x23 x24 x25 x26 x27 x28 x29 x30 x31 x32 x33 x34 x35 x36 x37 x38 x39 x40 x41 x42 x43 hI => ?_)
          obtain ⟨q10, rfl, P2, P3, P4, P5, P6, P7, P8, H0, H1, H2, H3, H4, H5, H6, H7, H8, H9, H12, A10, S10, K0, K1, K2, K3, K4, K5, B2⟩ := hI
          clear hp
          subst P3
          refine wanted_ (by rfl) ?_
          refine wp_load_row 27 _ rfl (w.heap.size + 1) rfl 27 (U (lim y)) (0, 0) _ K1 Try.underlying27 rfl (ofLen lb) ?_
          (try simp only [Act.put, List.setIfInBounds_toArray, List.set_cons_zero, List.set_cons_succ])
          exact hK.out _ _ ⟨_, _, _, _, _, _, _, _, _, _, _, _, _, _, _, _, _, _, _, _, _, _, _, _, _, _, _, _, _, _, _, _, _, _, _, _, _, _, _, _, _, _, _, _, q10, rfl, P2, rfl, P4, P5, P6, P7, P8, H0, H1, H2, fun _ => rfl, H4, H5, H6, H7, H8, H9, H12, fun h => ⟨(A10 h).1, (A10 h).2.1, fun k => ((A10 h).2.2 k)⟩, fun h => ⟨up_true (S10 h).1, (S10 h).2⟩, K0, K1, K2, K3, K4, K5, B2⟩
        refine Steps.cons rfl (fun L a wx K hK hL hp hI => ?_) ?_
        · refine ex_44 hI (fun x0 x1 x2 x3 x4 x5 x6 x7 x8 x9 x10 x11 x12 x13 x14 x15 x16 x17 x18 x19 x20 x21 x22 x23 x24 x25 x26 x27 x28 x29 x30 x31 x32 x33 x34 x35 x36 x37 x38 x39 x40 x41 x42 x43 hI => ?_)
          obtain ⟨q10, rfl, P2, P3, P4, P5, P6, P7, P8, H0, H1, H2, H3, H4, H5, H6, H7, H8, H9, H12, A10, S10, K0, K1, K2, K3, K4, K5, B2⟩ := hI
          have p3 : L 3 = true := hp ⟨3, .data⟩ (by simp) rfl
          have e3 := H3 p3
          clear hp
          subst e3
          refine wanted_ (by rfl) ?_
          refine goesK_ Try.func41 (by kernel_rfl) rfl #[.agg (U (lim y))] rfl (by simp [Act.eval]) ?_
          refine (By _).mono ?_
          rintro e w' ⟨rfl, g⟩
          refine ⟨_, rfl, ?_⟩
          (try simp only [Act.put, List.setIfInBounds_toArray, List.set_cons_zero, List.set_cons_succ])
          exact hK.out _ _ ⟨_, _, _, _, _, _, _, _, _, _, _, _, _, _, _, _, _, _, _, _, _, _, _, _, _, _, _, _, _, _, _, _, _, _, _, _, _, _, _, _, _, _, _, _, q10, rfl, P2, P3, P4, P5, P6, P7, P8, H0, H1, H2, fun _ => rfl, fun _ => rfl, H5, H6, H7, H8, H9, H12, fun h => ⟨(A10 h).1, (A10 h).2.1, fun k => (Blk.keep ((A10 h).2.2 k) g)⟩, fun h => ⟨up_true (S10 h).1, (Blk.keep (S10 h).2 g)⟩, (Blk.keep K0 g), (Blk.keep K1 g), (Blk.keep K2 g), (Blk.keep K3 g), (Blk.keep K4 g), (Blk.keep K5 g), bb B2 g⟩
        refine Steps.cons rfl (fun L a wx K hK hL hp hI => ?_) ?_
        · refine ex_44 hI (fun x0 x1 x2 x3 x4 x5 x6 x7 x8 x9 x10 x11 x12 x13 x14 x15 x16 x17 x18 x19 x20 x21 x22 x23 x24 x25 x26 x27 x28 x29 x30 x31 x32 x33 x34 x35 x36 x37 x38 x39 x40 x41 x42 x43 hI => ?_)
          obtain ⟨q10, rfl, P2, P3, P4, P5, P6, P7, P8, H0, H1, H2, H3, H4, H5, H6, H7, H8, H9, H12, A10, S10, K0, K1, K2, K3, K4, K5, B2⟩ := hI
          have p2 : L 2 = true := hp ⟨2, .data⟩ (by simp) rfl
          have e2 := H2 p2
          have p4 : L 4 = true := hp ⟨4, .data⟩ (by simp) rfl
          have e4 := H4 p4
          clear hp
          subst e2 e4
          go_simp
          exact hK.out _ _ ⟨_, _, _, _, _, _, _, _, _, _, _, _, _, _, _, _, _, _, _, _, _, _, _, _, _, _, _, _, _, _, _, _, _, _, _, _, _, _, _, _, _, _, _, _, q10, rfl, (by first | exact P2 | rfl), (by first | exact P3 | rfl), (by first | exact P4 | rfl), (by first | exact P5 | rfl), (by first | exact P6 | rfl), (by first | exact P7 | rfl), (by first | exact P8 | rfl), H0, H1, fun _ => rfl, H3, fun _ => rfl, fun _ => (by first | rfl | simp), H6, H7, H8, H9, H12, fun h => ⟨(A10 h).1, (A10 h).2.1, fun k => ((A10 h).2.2 k)⟩, fun h => ⟨up_true (S10 h).1, (S10 h).2⟩, K0, K1, K2, K3, K4, K5, B2⟩
        refine Steps.cons rfl (fun L a wx K hK hL hp hI => ?_) ?_
        · refine ex_44 hI (fun x0 x1 x2 x3 x4 x5 x6 x7 x8 x9 x10 x11 x12 x13 x14 x15 x16 x17 x18 x19 x20 x21 x22 x23 x24 x25 x26 x27 x28 x29 x30 x31 x32 x33 x34 x35 x36 x37 x38 x39 x40 x41 x42 x43 hI => ?_)
          obtain ⟨q10, rfl, P2, P3, P4, P5, P6, P7, P8, H0, H1, H2, H3, H4, H5, H6, H7, H8, H9, H12, A10, S10, K0, K1, K2, K3, K4, K5, B2⟩ := hI
          have p0 : L 0 = true := hp ⟨0, .data⟩ (by simp) rfl
          have e0 := H0 p0
          have p5 : L 5 = true := hp ⟨5, .data⟩ (by simp) rfl
          have e5 := H5 p5
          clear hp
          subst e0 e5
          refine wanted_ (by rfl) ?_
          refine goesK_ Try.func46 (by kernel_rfl) rfl #[.agg (U (lim q)), .bool true] rfl (by simp [Act.eval]) ?_
          refine (SM _).mono ?_
          rintro e w' ⟨rfl, g⟩
          refine ⟨_, rfl, ?_⟩
          (try simp only [Act.put, List.setIfInBounds_toArray, List.set_cons_zero, List.set_cons_succ])
          exact hK.out _ _ ⟨_, _, _, _, _, _, _, _, _, _, _, _, _, _, _, _, _, _, _, _, _, _, _, _, _, _, _, _, _, _, _, _, _, _, _, _, _, _, _, _, _, _, _, _, q10, rfl, P2, P3, P4, P5, P6, P7, P8, fun _ => rfl, H1, H2, H3, H4, fun _ => rfl, fun _ => rfl, H7, H8, H9, H12, fun h => ⟨(A10 h).1, (A10 h).2.1, fun k => (Blk.keep ((A10 h).2.2 k) g)⟩, fun h => ⟨up_true (S10 h).1, (Blk.keep (S10 h).2 g)⟩, (Blk.keep K0 g), (Blk.keep K1 g), (Blk.keep K2 g), (Blk.keep K3 g), (Blk.keep K4 g), (Blk.keep K5 g), bb B2 g⟩
        refine Steps.cons rfl (fun L a wx K hK hL hp hI => ?_) ?_
        · refine ex_44 hI (fun x0 x1 x2 x3 x4 x5 x6 x7 x8 x9 x10 x11 x12 x13 x14 x15 x16 x17 x18 x19 x20 x21 x22 x23 x24 x25 x26 x27 x28 x29 x30 x31 x32 x33 x34 x35 x36 x37 x38 x39 x40 x41 x42 x43 hI => ?_)
          obtain ⟨q10, rfl, P2, P3, P4, P5, P6, P7, P8, H0, H1, H2, H3, H4, H5, H6, H7, H8, H9, H12, A10, S10, K0, K1, K2, K3, K4, K5, B2⟩ := hI
          have p6 : L 6 = true := hp ⟨6, .data⟩ (by simp) rfl
          have e6 := H6 p6
          clear hp
          subst e6
          go_simp
          exact hK.out _ _ ⟨_, _, _, _, _, _, _, _, _, _, _, _, _, _, _, _, _, _, _, _, _, _, _, _, _, _, _, _, _, _, _, _, _, _, _, _, _, _, _, _, _, _, _, _, q10, rfl, (by first | exact P2 | rfl), (by first | exact P3 | rfl), (by first | exact P4 | rfl), (by first | exact P5 | rfl), (by first | exact P6 | rfl), (by first | exact P7 | rfl), (by first | exact P8 | rfl), H0, H1, H2, H3, H4, H5, fun _ => rfl, fun _ => (by first | rfl | simp), H8, H9, H12, fun h => ⟨(A10 h).1, (A10 h).2.1, fun k => ((A10 h).2.2 k)⟩, fun h => ⟨up_true (S10 h).1, (S10 h).2⟩, K0, K1, K2, K3, K4, K5, B2⟩
        refine Steps.cons rfl (fun L a wx K hK hL hp hI => ?_) ?_
        · refine ex_44 hI (fun x0 x1 x2 x3 x4 x5 x6 x7 x8 x9 x10 x11 x12 x13 x14 x15 x16 x17 x18 x19 x20 x21 x22 x23 x24 x25 x26 x27 x28 x29 x30 x31 x32 x33 x34 x35 x36 x37 x38 x39 x40 x41 x42 x43 hI => ?_)
          obtain ⟨q10, rfl, P2, P3, P4, P5, P6, P7, P8, H0, H1, H2, H3, H4, H5, H6, H7, H8, H9, H12, A10, S10, K0, K1, K2, K3, K4, K5, B2⟩ := hI
          have p7 : L 7 = true := hp ⟨7, .data⟩ (by simp) rfl
          have e7 := H7 p7
          clear hp
          subst e7
          go_simp
          exact hK.out _ _ ⟨_, _, _, _, _, _, _, _, _, _, _, _, _, _, _, _, _, _, _, _, _, _, _, _, _, _, _, _, _, _, _, _, _, _, _, _, _, _, _, _, _, _, _, _, q10, rfl, (by first | exact P2 | rfl), (by first | exact P3 | rfl), (by first | exact P4 | rfl), (by first | exact P5 | rfl), (by first | exact P6 | rfl), (by first | exact P7 | rfl), (by first | exact P8 | rfl), H0, H1, H2, H3, H4, H5, H6, fun _ => rfl, fun _ => (by first | rfl | simp), H9, H12, fun h => ⟨(A10 h).1, (A10 h).2.1, fun k => ((A10 h).2.2 k)⟩, fun h => ⟨up_true (S10 h).1, (S10 h).2⟩, K0, K1, K2, K3, K4, K5, B2⟩
        refine Steps.cons rfl (fun L a wx K hK hL hp hI => ?_) ?_
        · refine ex_44 hI (fun x0 x1 x2 x3 x4 x5 x6 x7 x8 x9 x10 x11 x12 x13 x14 x15 x16 x17 x18 x19 x20 x21 x22 x23 x24 x25 x26 x27 x28 x29 x30 x31 x32 x33 x34 x35 x36 x37 x38 x39 x40 x41 x42 x43 hI => ?_)
          obtain ⟨q10, rfl, P2, P3, P4, P5, P6, P7, P8, H0, H1, H2, H3, H4, H5, H6, H7, H8, H9, H12, A10, S10, K0, K1, K2, K3, K4, K5, B2⟩ := hI
          have p7 : L 7 = true := hp ⟨7, .data⟩ (by simp) rfl
          have e7 := H7 p7
          clear hp
          subst e7
          go_simp
          exact hK.out _ _ ⟨_, _, _, _, _, _, _, _, _, _, _, _, _, _, _, _, _, _, _, _, _, _, _, _, _, _, _, _, _, _, _, _, _, _, _, _, _, _, _, _, _, _, _, _, q10, rfl, (by first | exact P2 | rfl), (by first | exact P3 | rfl), (by first | exact P4 | rfl), (by first | exact P5 | rfl), (by first | exact P6 | rfl), (by first | exact P7 | rfl), (by first | exact P8 | rfl), H0, H1, H2, H3, H4, H5, H6, fun _ => rfl, H8, fun _ => (by first | rfl | simp), H12, fun h => ⟨(A10 h).1, (A10 h).2.1, fun k => ((A10 h).2.2 k)⟩, fun h => ⟨up_true (S10 h).1, (S10 h).2⟩, K0, K1, K2, K3, K4, K5, B2⟩
        refine Steps.cons rfl (fun L a wx K hK hL hp hI => ?_) ?_
        · refine ex_44 hI (fun x0 x1 x2 x3 x4 x5 x6 x7 x8 x9 x10 x11 x12 x13 x14 x15 x16 x17 x18 x19 x20 x21 x22 x23 x24 x25 x26 x27 x28 x29 x30 x31 x32 x33 x34 x35 x36 x37 x38 x39 x40 x41 x42 x43 hI => ?_)
          obtain ⟨q10, rfl, P2, P3, P4, P5, P6, P7, P8, H0, H1, H2, H3, H4, H5, H6, H7, H8, H9, H12, A10, S10, K0, K1, K2, K3, K4, K5, B2⟩ := hI
          have hst : ¬ L 11 = true := fun h => absurd (S10 h).1 (by simp [hL])
          clear hp
          go_simp
          exact hK.out _ _ ⟨_, _, _, _, _, _, _, _, _, _, _, _, _, _, _, _, _, _, _, _, _, _, _, _, _, _, _, _, _, _, _, _, _, _, _, _, _, _, _, _, _, _, _, _, wx.heap.size, rfl, (by first | exact P2 | rfl), (by first | exact P3 | rfl), (by first | exact P4 | rfl), (by first | exact P5 | rfl), (by first | exact P6 | rfl), (by first | exact P7 | rfl), (by first | exact P8 | rfl), H0, H1, H2, H3, H4, H5, H6, H7, H8, H9, H12, fun _ => ⟨rfl, B2.size, fun _ => Blk.new _ _ _⟩, fun h => absurd (S10 h).1 (by simp [hL]), (Blk.alloc K0 _), (Blk.alloc K1 _), (Blk.alloc K2 _), (Blk.alloc K3 _), (Blk.alloc K4 _), (Blk.alloc K5 _), bb B2 ((Below.refl _ _).alloc (Nat.le_refl _) _)⟩
        refine Steps.cons rfl (fun L a wx K hK hL hp hI => ?_) ?_
        · refine ex_44 hI (fun x0 x1 x2 x3 x4 x5 x6 x7 x8 x9 x10 x11 x12 x13 x14 x15 x16 x17 x18 x19 x20 x21 x22 x23 x24 x25 x26 x27 x28 x29 x30 x31 x32 x33 x34 x35 x36 x37 x38 x39 x40 x41 x42 x43 hI => ?_)
          obtain ⟨q10, rfl, P2, P3, P4, P5, P6, P7, P8, H0, H1, H2, H3, H4, H5, H6, H7, H8, H9, H12, A10, S10, K0, K1, K2, K3, K4, K5, B2⟩ := hI
          have p10 : L 10 = true := hp ⟨10, .data⟩ (by simp) rfl
          obtain ⟨e10, z10, f10⟩ := A10 p10
          have p8 : L 8 = true := hp ⟨8, .data⟩ (by simp) rfl
          have e8 := H8 p8
          clear hp
          subst e10 e8
          have NE_0 : w.heap.size ≠ q10 := by have := N0; omega
          have NE_1 : (w.heap.size + 1) ≠ q10 := by have := N1; omega
          have NE_2 : (w.heap.size + 1 + 1) ≠ q10 := by have := N2; omega
          have NE_3 : (w.heap.size + 1 + 1 + 1) ≠ q10 := by have := N3; omega
          have NE_4 : q8 ≠ q10 := by have := N8; omega
          have NE_5 : q9 ≠ q10 := by have := N9; omega
          refine wanted_ (by rfl) ?_
          refine wp_store_row 27 _ _ rfl q10 (U (lim (-q))) rfl rfl 27 (U zeros) (f10 hL) (ofLen lqn) (by rw [U_size, U_size, lqn, zeros_len]) (one_cell _) ?_
          (try simp only [Act.put, List.setIfInBounds_toArray, List.set_cons_zero, List.set_cons_succ])
          exact hK.out _ _ ⟨_, _, _, _, _, _, _, _, _, _, _, _, _, _, _, _, _, _, _, _, _, _, _, _, _, _, _, _, _, _, _, _, _, _, _, _, _, _, _, _, _, _, _, _, q10, rfl, P2, P3, P4, P5, P6, P7, P8, H0, H1, H2, H3, H4, H5, H6, H7, fun _ => rfl, H9, H12, fun _ => ⟨rfl, z10, fun h => absurd h (by simp [YInv.up])⟩, fun _ => ⟨up_true p10, put_ (f10 hL)⟩, (far_ K0 (NE_0)), (far_ K1 (NE_1)), (far_ K2 (NE_2)), (far_ K3 (NE_3)), (far_ K4 (NE_4)), (far_ K5 (NE_5)), below_row B2 z10 _⟩
        refine Steps.cons rfl (fun L a wx K hK hL hp hI => ?_) ?_
        · refine ex_44 hI (fun x0 x1 x2 x3 x4 x5 x6 x7 x8 x9 x10 x11 x12 x13 x14 x15 x16 x17 x18 x19 x20 x21 x22 x23 x24 x25 x26 x27 x28 x29 x30 x31 x32 x33 x34 x35 x36 x37 x38 x39 x40 x41 x42 x43 hI => ?_)
          obtain ⟨q10, rfl, P2, P3, P4, P5, P6, P7, P8, H0, H1, H2, H3, H4, H5, H6, H7, H8, H9, H12, A10, S10, K0, K1, K2, K3, K4, K5, B2⟩ := hI
          have p9 : L 9 = true := hp ⟨9, .data⟩ (by simp) rfl
          have e9 := H9 p9
          clear hp
          subst e9
          go_simp
          exact hK.out _ _ ⟨_, _, _, _, _, _, _, _, _, _, _, _, _, _, _, _, _, _, _, _, _, _, _, _, _, _, _, _, _, _, _, _, _, _, _, _, _, _, _, _, _, _, _, _, q10, rfl, (by first | exact P2 | rfl), (by first | exact P3 | rfl), (by first | exact P4 | rfl), (by first | exact P5 | rfl), (by first | exact P6 | rfl), (by first | exact P7 | rfl), (by first | exact P8 | rfl), H0, H1, H2, H3, H4, H5, H6, H7, H8, fun _ => rfl, fun _ => (by first | rfl | simp), fun h => ⟨(A10 h).1, (A10 h).2.1, fun k => ((A10 h).2.2 k)⟩, fun h => ⟨up_true (S10 h).1, (S10 h).2⟩, K0, K1, K2, K3, K4, K5, B2⟩
        exact Steps.nil
      case fin =>
        intro L a wx hall hI
        refine ex_44 hI (fun x0 x1 x2 x3 x4 x5 x6 x7 x8 x9 x10 x11 x12 x13 x14 x15 x16 x17 x18 x19 x20 x21 x22 x23 x24 x25 x26 x27 x28 x29 x30 x31 x32 x33 x34 x35 x36 x37 x38 x39 x40 x41 x42 x43 hI => ?_)
        obtain ⟨q10, rfl, P2, P3, P4, P5, P6, P7, P8, H0, H1, H2, H3, H4, H5, H6, H7, H8, H9, H12, A10, S10, K0, K1, K2, K3, K4, K5, B2⟩ := hI
        have E0 := H0 (hall 0 (by decide))
        have E1 := H1 (hall 1 (by decide))
        have E2 := H2 (hall 2 (by decide))
        have E3 := H3 (hall 3 (by decide))
        have E4 := H4 (hall 4 (by decide))
        have E5 := H5 (hall 5 (by decide))
        have E6 := H6 (hall 6 (by decide))
        have E7 := H7 (hall 7 (by decide))
        have E8 := H8 (hall 8 (by decide))
        have E9 := H9 (hall 9 (by decide))
        obtain ⟨E10, Z10, -⟩ := A10 (hall 10 (by decide))
        have KS10 := (S10 (hall 11 (by decide))).2
        have E12 := H12 (hall 12 (by decide))
        clear hall H0 H1 H2 H3 H4 H5 H6 H7 H8 H9 H12 A10 S10
        subst E0 E1 E2 E3 E4 E5 E6 E7 E8 E9 E10 E12 P2 P3 P4 P5 P6 P7 P8
        have b3 := bb b1 B2
        have N0 := K0.lt
        have N2 := K2.lt
        have N3 := K3.lt
        have N5 := K5.lt
        have N10 := KS10.lt
        have P10 : q10 ≠ q9 := by omega
        clear B2 L hI SP SM By K1 K4 KS8 KS9 b1
        generalize wx = w3 at *
        have sgn := HF.out.2.2.2.1.2 (by first | rfl | simp | (cases sx <;> rfl))
        cases hib : im
        · subst hib
          have F := fun e => HF.out.1 e _ sgn
          have hf : decide (InW (-q)) = false := HF.out.2.2.1
          clear HF sgn
          have HH := Lib.hid (And.intro F hf)
          clear F hf
          go_wp2_with (first | (refine stW K2 zeros_len zeros_len _ _ rfl rfl rfl rfl ?_; have K3' := far_ (b := w.heap.size + 1 + 1) (cs := U zeros) K3 (by omega)) | (refine stW K3' zeros_len zeros_len _ _ rfl rfl rfl rfl ?_))
          refine bodyPost_ret (res221 Try.results26 _ rfl rfl (far_ (put_ K2) (by omega)) zeros_len (put_ K3') zeros_len) rfl ⟨HQ.out _ (HH.out.1 _ (fun h => ?_) (fun _ => rfl)), below_row (below_row b3 (by omega) _) (by omega) _⟩
          rw [HH.out.2] at h
          cases h
        · subst hib
          have F := fun e => HF.out.1 e _ sgn
          have hf : decide (InW (-q)) = true := HF.out.2.2.1
          have sr := HF.out.2.2.2.2
          clear HF sgn
          have HH := Lib.hid (And.intro F (And.intro hf sr))
          clear F hf sr
          go_wp2_with (refine ldW K0 la _ rfl rfl rfl ?_)
          refine (Bx _).mono ?_; rintro e w4 ⟨rfl, g4⟩
          have b4 := bb b3 g4
          have K2 := K2.keep g4
          have K3 := K3.keep g4
          have K5 := K5.keep g4
          have K10 := KS10.keep g4
          have N2 := K2.lt
          have N3 := K3.lt
          have N5 := K5.lt
          have N10 := K10.lt
          clear K0 KS10 g4 b3 Bx
          cases sx
          · go_wp2_with fail
            have BW := b4
            clear b4
            generalize w4 = w6 at *
            refine region_steps (fun L a wx => ∃ (x0 x1 x2 x3 x4 x5 x6 x7 x8 x9 x10 x11 x12 x13 x14 x15 x16 x17 x18 x19 x20 x21 x22 x23 x24 x25 x26 x27 x28 x29 x30 x31 x32 x33 x34 x35 x36 x37 x38 x39 x40 x41 x42 x43 : Value), a = { tmps := #[x0, x1, x2, x3, x4, x5, x6, x7, x8, x9, x10, x11, x12, x13, x14, x15, x16, x17, x18, x19, x20, x21, x22, x23, x24, x25, x26, x27, x28, x29, x30, x31, x32, x33, x34, x35, x36, x37, x38, x39, x40, x41, x42, x43], defers := [] } ∧ x4 = .pointer (some ⟨(w.heap.size + 1 + 1), 0, none⟩) ∧ x5 = .pointer (some ⟨(w.heap.size + 1 + 1 + 1), 0, none⟩) ∧ x8 = .pointer (some ⟨q9, 0, none⟩) ∧ x9 = .pointer (some ⟨q10, 0, none⟩) ∧ (L 0 = true → x42 = .agg (U (lim (-q)))) ∧ (L 1 = true → x43 = .agg (U (lim r))) ∧ (L 4 = true → x6 = .bool true) ∧ (L 2 = false → Blk wx (w.heap.size + 1 + 1) (U (zeros)) 27) ∧ (L 2 = true → Blk wx (w.heap.size + 1 + 1) (U (lim (-q))) 27) ∧ (L 3 = false → Blk wx (w.heap.size + 1 + 1 + 1) (U (zeros)) 27) ∧ (L 3 = true → Blk wx (w.heap.size + 1 + 1 + 1) (U (lim r)) 27) ∧ Blk wx q9 (U (lim r)) 27 ∧ Blk wx q10 (U (lim (-q))) 27 ∧ w6.heap.size ≤ wx.heap.size ∧ Below w.heap.size w wx) [0, 1, 2, 3, 4] (by kernel_rfl) (by kernel_rfl) (by kernel_rfl) ?start ?steps ?fin
            case start =>
              exact ⟨_, _, _, _, _, _, _, _, _, _, _, _, _, _, _, _, _, _, _, _, _, _, _, _, _, _, _, _, _, _, _, _, _, _, _, _, _, _, _, _, _, _, _, _, rfl, (by first | rfl | simp only [*]), (by first | rfl | simp only [*]), (by first | rfl | simp only [*]), (by first | rfl | simp only [*]), fun h => absurd h (by decide), fun h => absurd h (by decide), fun h => absurd h (by decide), fun _ => K2.drew, fun h => absurd h (by decide), fun _ => K3.drew, fun h => absurd h (by decide), K5.drew, K10.drew, Nat.le_refl _, BW.drew⟩
            case steps =>
              refine Steps.cons rfl (fun L a wx K hK hL hp hI => ?_) ?_
              · refine ex_44 hI (fun x0 x1 x2 x3 x4 x5 x6 x7 x8 x9 x10 x11 x12 x13 x14 x15 x16 x17 x18 x19 x20 x21 x22 x23 x24 x25 x26 x27 x28 x29 x30 x31 x32 x33 x34 x35 x36 x37 x38 x39 x40 x41 x42 x43 hI => ?_)
                obtain ⟨rfl, P4, P5, P8, P9, H0, H1, H4, F0, G0, F1, G1, K2, K3, B2, BW⟩ := hI
                clear hp
                subst P9
                refine wanted_ (by rfl) ?_
                refine wp_load_row 27 _ rfl q10 rfl 27 (U (lim (-q))) (0, 0) _ K3 Try.underlying27 rfl (ofLen lqn) ?_
                (try simp only [Act.put, List.setIfInBounds_toArray, List.set_cons_zero, List.set_cons_succ])
                exact hK.out _ _ ⟨_, _, _, _, _, _, _, _, _, _, _, _, _, _, _, _, _, _, _, _, _, _, _, _, _, _, _, _, _, _, _, _, _, _, _, _, _, _, _, _, _, _, _, _, rfl, P4, P5, P8, rfl, fun _ => rfl, H1, H4, fun h => (F0 h), fun h => (G0 h), fun h => (F1 h), fun h => (G1 h), K2, K3, B2, BW⟩
              refine Steps.cons rfl (fun L a wx K hK hL hp hI => ?_) ?_
              · refine ex_44 hI (fun x0 x1 x2 x3 x4 x5 x6 x7 x8 x9 x10 x11 x12 x13 x14 x15 x16 x17 x18 x19 x20 x21 x22 x23 x24 x25 x26 x27 x28 x29 x30 x31 x32 x33 x34 x35 x36 x37 x38 x39 x40 x41 x42 x43 hI => ?_)
                obtain ⟨rfl, P4, P5, P8, P9, H0, H1, H4, F0, G0, F1, G1, K2, K3, B2, BW⟩ := hI
                clear hp
                subst P8
                refine wanted_ (by rfl) ?_
                refine wp_load_row 27 _ rfl q9 rfl 27 (U (lim r)) (0, 0) _ K2 Try.underlying27 rfl (ofLen ld) ?_
                (try simp only [Act.put, List.setIfInBounds_toArray, List.set_cons_zero, List.set_cons_succ])
                exact hK.out _ _ ⟨_, _, _, _, _, _, _, _, _, _, _, _, _, _, _, _, _, _, _, _, _, _, _, _, _, _, _, _, _, _, _, _, _, _, _, _, _, _, _, _, _, _, _, _, rfl, P4, P5, rfl, P9, H0, fun _ => rfl, H4, fun h => (F0 h), fun h => (G0 h), fun h => (F1 h), fun h => (G1 h), K2, K3, B2, BW⟩
              refine Steps.cons rfl (fun L a wx K hK hL hp hI => ?_) ?_
              · refine ex_44 hI (fun x0 x1 x2 x3 x4 x5 x6 x7 x8 x9 x10 x11 x12 x13 x14 x15 x16 x17 x18 x19 x20 x21 x22 x23 x24 x25 x26 x27 x28 x29 x30 x31 x32 x33 x34 x35 x36 x37 x38 x39 x40 x41 x42 x43 hI => ?_)
                obtain ⟨rfl, P4, P5, P8, P9, H0, H1, H4, F0, G0, F1, G1, K2, K3, B2, BW⟩ := hI
                have p0 : L 0 = true := hp ⟨0, .data⟩ (by simp) rfl
                have e0 := H0 p0
                clear hp
                subst e0 P4
                have N_0 := N2
                have N_1 := N3
                have N_2 := N5
                have N_3 := N10
                refine wanted_ (by rfl) ?_
                refine wp_store_row 27 _ _ rfl (w.heap.size + 1 + 1) (U (lim (-q))) rfl rfl 27 (U (zeros)) (F0 hL) (ofLen lqn) (by rw [U_size, U_size, zeros_len, lqn]) (one_cell _) ?_
                (try simp only [Act.put, List.setIfInBounds_toArray, List.set_cons_zero, List.set_cons_succ])
                exact hK.out _ _ ⟨_, _, _, _, _, _, _, _, _, _, _, _, _, _, _, _, _, _, _, _, _, _, _, _, _, _, _, _, _, _, _, _, _, _, _, _, _, _, _, _, _, _, _, _, rfl, rfl, P5, P8, P9, fun _ => rfl, H1, H4, fun h => absurd h (by simp [YInv.up]), fun _ => put_ (F0 hL), fun h => (far_ (F1 h) (by omega)), fun h => (far_ (G1 h) (by omega)), (far_ K2 (by omega)), (far_ K3 (by omega)), (by simp; exact B2), below_row BW (by omega) _⟩
              refine Steps.cons rfl (fun L a wx K hK hL hp hI => ?_) ?_
              · refine ex_44 hI (fun x0 x1 x2 x3 x4 x5 x6 x7 x8 x9 x10 x11 x12 x13 x14 x15 x16 x17 x18 x19 x20 x21 x22 x23 x24 x25 x26 x27 x28 x29 x30 x31 x32 x33 x34 x35 x36 x37 x38 x39 x40 x41 x42 x43 hI => ?_)
                obtain ⟨rfl, P4, P5, P8, P9, H0, H1, H4, F0, G0, F1, G1, K2, K3, B2, BW⟩ := hI
                have p1 : L 1 = true := hp ⟨1, .data⟩ (by simp) rfl
                have e1 := H1 p1
                clear hp
                subst e1 P5
                have N_0 := N2
                have N_1 := N3
                have N_2 := N5
                have N_3 := N10
                refine wanted_ (by rfl) ?_
                refine wp_store_row 27 _ _ rfl (w.heap.size + 1 + 1 + 1) (U (lim r)) rfl rfl 27 (U (zeros)) (F1 hL) (ofLen ld) (by rw [U_size, U_size, zeros_len, ld]) (one_cell _) ?_
                (try simp only [Act.put, List.setIfInBounds_toArray, List.set_cons_zero, List.set_cons_succ])
                exact hK.out _ _ ⟨_, _, _, _, _, _, _, _, _, _, _, _, _, _, _, _, _, _, _, _, _, _, _, _, _, _, _, _, _, _, _, _, _, _, _, _, _, _, _, _, _, _, _, _, rfl, P4, rfl, P8, P9, H0, fun _ => rfl, H4, fun h => (far_ (F0 h) (by omega)), fun h => (far_ (G0 h) (by omega)), fun h => absurd h (by simp [YInv.up]), fun _ => put_ (F1 hL), (far_ K2 (by omega)), (far_ K3 (by omega)), (by simp; exact B2), below_row BW (by omega) _⟩
              refine Steps.cons rfl (fun L a wx K hK hL hp hI => ?_) ?_
              · refine ex_44 hI (fun x0 x1 x2 x3 x4 x5 x6 x7 x8 x9 x10 x11 x12 x13 x14 x15 x16 x17 x18 x19 x20 x21 x22 x23 x24 x25 x26 x27 x28 x29 x30 x31 x32 x33 x34 x35 x36 x37 x38 x39 x40 x41 x42 x43 hI => ?_)
                obtain ⟨rfl, P4, P5, P8, P9, H0, H1, H4, F0, G0, F1, G1, K2, K3, B2, BW⟩ := hI
                clear hp
                go_simp
                exact hK.out _ _ ⟨_, _, _, _, _, _, _, _, _, _, _, _, _, _, _, _, _, _, _, _, _, _, _, _, _, _, _, _, _, _, _, _, _, _, _, _, _, _, _, _, _, _, _, _, rfl, (by first | exact P4 | rfl), (by first | exact P5 | rfl), (by first | exact P8 | rfl), (by first | exact P9 | rfl), H0, H1, fun _ => (by first | rfl | simp), fun h => (F0 h), fun h => (G0 h), fun h => (F1 h), fun h => (G1 h), K2, K3, B2, BW⟩
              exact Steps.nil
            case fin =>
              intro L a wx hall hI
              refine ex_44 hI (fun x0 x1 x2 x3 x4 x5 x6 x7 x8 x9 x10 x11 x12 x13 x14 x15 x16 x17 x18 x19 x20 x21 x22 x23 x24 x25 x26 x27 x28 x29 x30 x31 x32 x33 x34 x35 x36 x37 x38 x39 x40 x41 x42 x43 hI => ?_)
              obtain ⟨rfl, P4, P5, P8, P9, H0, H1, H4, F0, G0, F1, G1, K2, K3, B2, BW⟩ := hI
              have E0 := H0 (hall 0 (by decide))
              have E1 := H1 (hall 1 (by decide))
              have E4 := H4 (hall 4 (by decide))
              have K0 := G0 (hall 2 (by decide))
              have K1 := G1 (hall 3 (by decide))
              clear hall H0 H1 H4 F0 G0 F1 G1
              subst E0 E1 E4 P4 P5 P8 P9
              go_wp2_with fail
              refine bodyPost_ret (res221 Try.results26 _ rfl rfl K0 lqn K1 ld) rfl ⟨HQ.out _ (HH.out.1 _ (fun _ => ?_) (fun h => ?_)), BW⟩
              · rw [HH.out.2.2.1 (by first | rfl | trivial)]; rfl
              · rw [HH.out.2.1] at h
                cases h
          · go_wp2_with (refine ldW K5 ld _ rfl rfl rfl ?_)
            refine (NG _).mono ?_; rintro e w5 ⟨rfl, g5⟩
            have b5 := bb b4 g5
            have K2 := far_ (b := q9) (cs := U (lim (-r))) (K2.keep g5) (by omega)
            have K3 := far_ (b := q9) (cs := U (lim (-r))) (K3.keep g5) (by omega)
            have K10 := far_ (b := q9) (cs := U (lim (-r))) (K10.keep g5) P10
            have K5o := K5.keep g5
            have K5 := put_ (cs := U (lim (-r))) K5o
            go_wp2_with (refine stW K5o ld lrn _ _ rfl rfl rfl rfl ?_)
            have BW := below_row (b := q9) b5 (by omega) (U (lim (-r)))
            have N2 := K2.lt
            have N3 := K3.lt
            have N5 := K5.lt
            have N10 := K10.lt
            clear K5o b5 b4 g5
            generalize w5.setRow q9 (U (lim (-r))) = w6 at *
            refine region_steps (fun L a wx => ∃ (x0 x1 x2 x3 x4 x5 x6 x7 x8 x9 x10 x11 x12 x13 x14 x15 x16 x17 x18 x19 x20 x21 x22 x23 x24 x25 x26 x27 x28 x29 x30 x31 x32 x33 x34 x35 x36 x37 x38 x39 x40 x41 x42 x43 : Value), a = { tmps := #[x0, x1, x2, x3, x4, x5, x6, x7, x8, x9, x10, x11, x12, x13, x14, x15, x16, x17, x18, x19, x20, x21, x22, x23, x24, x25, x26, x27, x28, x29, x30, x31, x32, x33, x34, x35, x36, x37, x38, x39, x40, x41, x42, x43], defers := [] } ∧ x4 = .pointer (some ⟨(w.heap.size + 1 + 1), 0, none⟩) ∧ x5 = .pointer (some ⟨(w.heap.size + 1 + 1 + 1), 0, none⟩) ∧ x8 = .pointer (some ⟨q9, 0, none⟩) ∧ x9 = .pointer (some ⟨q10, 0, none⟩) ∧ (L 0 = true → x42 = .agg (U (lim (-q)))) ∧ (L 1 = true → x43 = .agg (U (lim (-r)))) ∧ (L 4 = true → x6 = .bool true) ∧ (L 2 = false → Blk wx (w.heap.size + 1 + 1) (U (zeros)) 27) ∧ (L 2 = true → Blk wx (w.heap.size + 1 + 1) (U (lim (-q))) 27) ∧ (L 3 = false → Blk wx (w.heap.size + 1 + 1 + 1) (U (zeros)) 27) ∧ (L 3 = true → Blk wx (w.heap.size + 1 + 1 + 1) (U (lim (-r))) 27) ∧ Blk wx q9 (U (lim (-r))) 27 ∧ Blk wx q10 (U (lim (-q))) 27 ∧ w6.heap.size ≤ wx.heap.size ∧ Below w.heap.size w wx) [0, 1, 2, 3, 4] (by kernel_rfl) (by kernel_rfl) (by kernel_rfl) ?start ?steps ?fin
            case start =>
              exact ⟨_, _, _, _, _, _, _, _, _, _, _, _, _, _, _, _, _, _, _, _, _, _, _, _, _, _, _, _, _, _, _, _, _, _, _, _, _, _, _, _, _, _, _, _, rfl, (by first | rfl | simp only [*]), (by first | rfl | simp only [*]), (by first | rfl | simp only [*]), (by first | rfl | simp only [*]), fun h => absurd h (by decide), fun h => absurd h (by decide), fun h => absurd h (by decide), fun _ => K2.drew, fun h => absurd h (by decide), fun _ => K3.drew, fun h => absurd h (by decide), K5.drew, K10.drew, Nat.le_refl _, BW.drew⟩
            case steps =>
              refine Steps.cons rfl (fun L a wx K hK hL hp hI => ?_) ?_
              · refine ex_44 hI (fun x0 x1 x2 x3 x4 x5 x6 x7 x8 x9 x10 x11 x12 x13 x14 x15 x16 x17 x18 x19 x20 x21 x22 x23 x24 x25 x26 x27 x28 x29 x30 x31 x32 x33 x34 x35 x36 x37 x38 x39 x40 x41 x42 x43 hI => ?_)
                obtain ⟨rfl, P4, P5, P8, P9, H0, H1, H4, F0, G0, F1, G1, K2, K3, B2, BW⟩ := hI
                clear hp
                subst P9
                refine wanted_ (by rfl) ?_
                refine wp_load_row 27 _ rfl q10 rfl 27 (U (lim (-q))) (0, 0) _ K3 Try.underlying27 rfl (ofLen lqn) ?_
                (try simp only [Act.put, List.setIfInBounds_toArray, List.set_cons_zero, List.set_cons_succ])
                exact hK.out _ _ ⟨_, _, _, _, _, _, _, _, _, _, _, _, _, _, _, _, _, _, _, _, _, _, _, _, _, _, _, _, _, _, _, _, _, _, _, _, _, _, _, _, _, _, _, _, rfl, P4, P5, P8, rfl, fun _ => rfl, H1, H4, fun h => (F0 h), fun h => (G0 h), fun h => (F1 h), fun h => (G1 h), K2, K3, B2, BW⟩
              refine Steps.cons rfl (fun L a wx K hK hL hp hI => ?_) ?_
              · refine ex_44 hI (fun x0 x1 x2 x3 x4 x5 x6 x7 x8 x9 x10 x11 x12 x13 x14 x15 x16 x17 x18 x19 x20 x21 x22 x23 x24 x25 x26 x27 x28 x29 x30 x31 x32 x33 x34 x35 x36 x37 x38 x39 x40 x41 x42 x43 hI => ?_)
                obtain ⟨rfl, P4, P5, P8, P9, H0, H1, H4, F0, G0, F1, G1, K2, K3, B2, BW⟩ := hI
                clear hp
                subst P8
                refine wanted_ (by rfl) ?_
                refine wp_load_row 27 _ rfl q9 rfl 27 (U (lim (-r))) (0, 0) _ K2 Try.underlying27 rfl (ofLen lrn) ?_
                (try simp only [Act.put, List.setIfInBounds_toArray, List.set_cons_zero, List.set_cons_succ])
                exact hK.out _ _ ⟨_, _, _, _, _, _, _, _, _, _, _, _, _, _, _, _, _, _, _, _, _, _, _, _, _, _, _, _, _, _, _, _, _, _, _, _, _, _, _, _, _, _, _, _, rfl, P4, P5, rfl, P9, H0, fun _ => rfl, H4, fun h => (F0 h), fun h => (G0 h), fun h => (F1 h), fun h => (G1 h), K2, K3, B2, BW⟩
              refine Steps.cons rfl (fun L a wx K hK hL hp hI => ?_) ?_
              · refine ex_44 hI (fun x0 x1 x2 x3 x4 x5 x6 x7 x8 x9 x10 x11 x12 x13 x14 x15 x16 x17 x18 x19 x20 x21 x22 x23 x24 x25 x26 x27 x28 x29 x30 x31 x32 x33 x34 x35 x36 x37 x38 x39 x40 x41 x42 x43 hI => ?_)
                obtain ⟨rfl, P4, P5, P8, P9, H0, H1, H4, F0, G0, F1, G1, K2, K3, B2, BW⟩ := hI
                have p0 : L 0 = true := hp ⟨0, .data⟩ (by simp) rfl
                have e0 := H0 p0
                clear hp
                subst e0 P4
                have N_0 := N2
                have N_1 := N3
                have N_2 := N5
                have N_3 := N10
                refine wanted_ (by rfl) ?_
                refine wp_store_row 27 _ _ rfl (w.heap.size + 1 + 1) (U (lim (-q))) rfl rfl 27 (U (zeros)) (F0 hL) (ofLen lqn) (by rw [U_size, U_size, zeros_len, lqn]) (one_cell _) ?_
                (try simp only [Act.put, List.setIfInBounds_toArray, List.set_cons_zero, List.set_cons_succ])
                exact hK.out _ _ ⟨_, _, _, _, _, _, _, _, _, _, _, _, _, _, _, _, _, _, _, _, _, _, _, _, _, _, _, _, _, _, _, _, _, _, _, _, _, _, _, _, _, _, _, _, rfl, rfl, P5, P8, P9, fun _ => rfl, H1, H4, fun h => absurd h (by simp [YInv.up]), fun _ => put_ (F0 hL), fun h => (far_ (F1 h) (by omega)), fun h => (far_ (G1 h) (by omega)), (far_ K2 (by omega)), (far_ K3 (by omega)), (by simp; exact B2), below_row BW (by omega) _⟩
              refine Steps.cons rfl (fun L a wx K hK hL hp hI => ?_) ?_
              · refine ex_44 hI (fun x0 x1 x2 x3 x4 x5 x6 x7 x8 x9 x10 x11 x12 x13 x14 x15 x16 x17 x18 x19 x20 x21 x22 x23 x24 x25 x26 x27 x28 x29 x30 x31 x32 x33 x34 x35 x36 x37 x38 x39 x40 x41 x42 x43 hI => ?_)
                obtain ⟨rfl, P4, P5, P8, P9, H0, H1, H4, F0, G0, F1, G1, K2, K3, B2, BW⟩ := hI
                have p1 : L 1 = true := hp ⟨1, .data⟩ (by simp) rfl
                have e1 := H1 p1
                clear hp
                subst e1 P5
                have N_0 := N2
                have N_1 := N3
                have N_2 := N5
                have N_3 := N10
                refine wanted_ (by rfl) ?_
                refine wp_store_row 27 _ _ rfl (w.heap.size + 1 + 1 + 1) (U (lim (-r))) rfl rfl 27 (U (zeros)) (F1 hL) (ofLen lrn) (by rw [U_size, U_size, zeros_len, lrn]) (one_cell _) ?_
                (try simp only [Act.put, List.setIfInBounds_toArray, List.set_cons_zero, List.set_cons_succ])
                exact hK.out _ _ ⟨_, _, _, _, _, _, _, _, _, _, _, _, _, _, _, _, _, _, _, _, _, _, _, _, _, _, _, _, _, _, _, _, _, _, _, _, _, _, _, _, _, _, _, _, rfl, P4, rfl, P8, P9, H0, fun _ => rfl, H4, fun h => (far_ (F0 h) (by omega)), fun h => (far_ (G0 h) (by omega)), fun h => absurd h (by simp [YInv.up]), fun _ => put_ (F1 hL), (far_ K2 (by omega)), (far_ K3 (by omega)), (by simp; exact B2), below_row BW (by omega) _⟩
              refine Steps.cons rfl (fun L a wx K hK hL hp hI => ?_) ?_
              · refine ex_44 hI (fun x0 x1 x2 x3 x4 x5 x6 x7 x8 x9 x10 x11 x12 x13 x14 x15 x16 x17 x18 x19 x20 x21 x22 x23 x24 x25 x26 x27 x28 x29 x30 x31 x32 x33 x34 x35 x36 x37 x38 x39 x40 x41 x42 x43 hI => ?_)
                obtain ⟨rfl, P4, P5, P8, P9, H0, H1, H4, F0, G0, F1, G1, K2, K3, B2, BW⟩ := hI
                clear hp
                go_simp
                exact hK.out _ _ ⟨_, _, _, _, _, _, _, _, _, _, _, _, _, _, _, _, _, _, _, _, _, _, _, _, _, _, _, _, _, _, _, _, _, _, _, _, _, _, _, _, _, _, _, _, rfl, (by first | exact P4 | rfl), (by first | exact P5 | rfl), (by first | exact P8 | rfl), (by first | exact P9 | rfl), H0, H1, fun _ => (by first | rfl | simp), fun h => (F0 h), fun h => (G0 h), fun h => (F1 h), fun h => (G1 h), K2, K3, B2, BW⟩
              exact Steps.nil
            case fin =>
              intro L a wx hall hI
              refine ex_44 hI (fun x0 x1 x2 x3 x4 x5 x6 x7 x8 x9 x10 x11 x12 x13 x14 x15 x16 x17 x18 x19 x20 x21 x22 x23 x24 x25 x26 x27 x28 x29 x30 x31 x32 x33 x34 x35 x36 x37 x38 x39 x40 x41 x42 x43 hI => ?_)
              obtain ⟨rfl, P4, P5, P8, P9, H0, H1, H4, F0, G0, F1, G1, K2, K3, B2, BW⟩ := hI
              have E0 := H0 (hall 0 (by decide))
              have E1 := H1 (hall 1 (by decide))
              have E4 := H4 (hall 4 (by decide))
              have K0 := G0 (hall 2 (by decide))
              have K1 := G1 (hall 3 (by decide))
              clear hall H0 H1 H4 F0 G0 F1 G1
              subst E0 E1 E4 P4 P5 P8 P9
              go_wp2_with fail
              refine bodyPost_ret (res221 Try.results26 _ rfl rfl K0 lqn K1 lrn) rfl ⟨HQ.out _ (HH.out.1 _ (fun _ => ?_) (fun h => ?_)), BW⟩
              · rw [HH.out.2.2.2 (by first | rfl | trivial)]; rfl
              · rw [HH.out.2.1] at h
                cases h
end Go.Proofs.Ytpdljoalfmgfiaa.YWide
