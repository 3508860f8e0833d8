/- The statement ConfigTells of layer 27: the walk. Condition: errors.errorType holds its type's handle. Printed by a program of this session. -/
import Derived.Test.YtbfflffekdadnaaDoorYConfDef
import Derived.Deep.RegionHeld3
import Derived.Deep.DeepCutAuto
import Derived.Deep.CutBlock
namespace Go.Proofs.YtbfflffekdadnaaDoor.YConf
open Go.RowKit Go.Extern.Stop Go.Stop Go.Extern Go.Proofs.YtbfflffekdadnaaDoor.QCf Go.Proofs.YtbfflffekdadnaaDoor.YErr Go.Proofs.YtbfflffekdadnaaDoorW.PrintWords Go.Proofs.YtbfflffekdadnaaDoorW.PrintLast
set_option linter.unusedVariables false
set_option linter.unusedSimpArgs false

theorem undrew {w w' : World} (h : Below w.drew.heap.size w.drew w') : Below w.heap.size w w' := ⟨h.os, h.tape, h.output, h.size, h.block⟩
theorem nums_cell {w : World} {b j : Nat} {l : List Int} {T : TypeId} (h : Blk w b (l.map (Value.int .i64)).toArray T) (hj : j < l.length) : w.cell? ⟨b, j, none⟩ = some (.int .i64 (l.getD j 0)) := by
  rw [h.cell j]
  simp [hj]
theorem clamp8 (n : Int) : 0 ≤ mn (mx n 0) 8 ∧ mn (mx n 0) 8 ≤ 8 := by unfold mn mx; repeat' split <;> omega
theorem clamp40 (n : Int) : 0 ≤ mn (mx n 0) 40 ∧ mn (mx n 0) 40 ≤ 40 := by unfold mn mx; repeat' split <;> omega
theorem place_in (f : Int) : 0 ≤ f % 41 ∧ f % 41 < 41 := ⟨Int.emod_nonneg _ (by decide), Int.emod_lt_of_pos _ (by decide)⟩
theorem below_of {w w' : World} (h : Drawn0 w w') : Below w.heap.size w w' := h.below
theorem Place_c (f : Int) (W : World) : Calls Tryd.prog 22 #[.int .i64 f, .int .i64 41] W fun e w' => e = .returned (.int .i64 (f % 41)) ∧ Below W.heap.size W w' := by
  refine (leadlinehelp_Place.calls f 41 (f % 41) W ?_).mono ?_
  · unfold leadlinehelp_Place.f wrap64
    have t0 := Int.tmod_add_mul_tdiv f 41
    have t1 := Int.tmod_lt_of_pos f (b := 41) (by decide)
    have t2 := Int.lt_tmod_of_pos f (b := 41) (by decide)
    rw [if_neg (by decide)]
    split <;> congr 1 <;> omega
  · rintro e w' ⟨rfl, h⟩
    exact ⟨rfl, below_of h⟩
theorem poly {A C : Int} (h0 : 0 ≤ A) (h1 : A ≤ 8) (c0 : 0 ≤ C) (c1 : C ≤ 41) : wrap64 (A * A) = A * A ∧ wrap64 (A * A * A) = A * A * A ∧ wrap64 (A * A * A + 40 * C) = A * A * A + 40 * C := by
  have : A = 0 ∨ A = 1 ∨ A = 2 ∨ A = 3 ∨ A = 4 ∨ A = 5 ∨ A = 6 ∨ A = 7 ∨ A = 8 := by omega
  rcases this with rfl | rfl | rfl | rfl | rfl | rfl | rfl | rfl | rfl <;> (unfold wrap64; omega)
theorem wrapped (x : Int) : IntKind.i64.wrap x = wrap64 x := IntWalk.i64_left x
theorem StepsR (n f : Int) (W : World) : Calls Tryd.prog 21 #[.int .i64 n, .int .i64 f] W fun e w' => e = .returned (.int .i64 (wrap64 ((wrap64 ((wrap64 ((mn (mx n 0) 8) * (mn (mx n 0) 8))) * (mn (mx n 0) 8))) + (40 * (mn (mx f 0) 40))))) ∧ Below W.heap.size W w' := Steps_c n f W
theorem StepsP (n f : Int) (W : World) : Calls Tryd.prog 21 #[.int .i64 (mn (mx n 0) 8), .int .i64 (f % 41)] W fun e w' => e = .returned (.int .i64 (wrap64 ((wrap64 ((wrap64 ((mn (mx n 0) 8) * (mn (mx n 0) 8))) * (mn (mx n 0) 8))) + (40 * (f % 41))))) ∧ Below W.heap.size W w' := by
  have h := Steps_c (mn (mx n 0) 8) (f % 41) W
  obtain ⟨A0, A1⟩ := clamp8 n
  obtain ⟨P0, P1⟩ := place_in f
  have e1 : mn (mx (mn (mx n 0) 8) 0) 8 = mn (mx n 0) 8 := by
    generalize mn (mx n 0) 8 = A at *
    unfold mn mx; repeat' split <;> omega
  have e2 : mn (mx (f % 41) 0) 40 = f % 41 := by
    generalize f % 41 = A at *
    unfold mn mx; repeat' split <;> omega
  rw [e1, e2] at h
  exact h
set_option maxRecDepth 100000 in
set_option maxHeartbeats 16000000 in
theorem Tells_walk (x y su we st ga le mo ba ne de pa k what v n f : Int) (w : World) (hg : Laid w) (k0 : 0 ≤ k) (k1 : k < 256) (h0 : 0 ≤ what) (h1 : what < 256) :
    Calls Tryd.prog 5 #[.agg #[.int .i64 x, .int .i64 y, .int .i64 su, .int .i64 we, .int .i64 st, .int .i64 ga, .int .i64 le, .int .i64 mo, .int .i64 ba, .int .i64 ne, .int .i64 de, .int .u32 pa], .int .u8 k, .int .u8 what, .int .i64 v, .int .i64 n, .int .i64 f] w fun e w' => e = .returned (.bool true) ∧ Below w.heap.size w w' := by
  have CF := YSeat.Config_c k k0 k1
  have RAW := Blk.new w #[.int .i64 x, .int .i64 y, .int .i64 su, .int .i64 we, .int .i64 st, .int .i64 ga, .int .i64 le, .int .i64 mo, .int .i64 ba, .int .i64 ne, .int .i64 de, .int .u32 pa] 46
  have B0 : Below w.heap.size w (w.alloc (.cells #[.int .i64 x, .int .i64 y, .int .i64 su, .int .i64 we, .int .i64 st, .int .i64 ga, .int .i64 le, .int .i64 mo, .int .i64 ba, .int .i64 ne, .int .i64 de, .int .u32 pa] 46)) := (Below.refl _ _).alloc (Nat.le_refl _) _
  have K := known27 _ (hg.below B0)
  go_enter Tryd.func5, Tryd.ntmps5
  go_wp2_with fail
  refine K.mono ?_; rintro e w1 ⟨rfl, g1⟩
  have B1 := below_both B0 g1
  have R1 := RAW.keep g1
  clear RAW K
  go_wp2_with fail
  have G2 : Blk (w1.alloc (.cells (([v, 0, 1, 2, 1024, 1025, 4096, 4097, 1048576, 1048577, 4194304, 4194305, 536870912, 536870913, 999, 1000, 1000000, 1000001, (-1)] : List Int).map (Value.int .i64)).toArray 2)) w1.heap.size (([v, 0, 1, 2, 1024, 1025, 4096, 4097, 1048576, 1048577, 4194304, 4194305, 536870912, 536870913, 999, 1000, 1000000, 1000001, (-1)] : List Int).map (Value.int .i64)).toArray 2 := Blk.new _ _ _
  have R2 := R1.alloc (.cells (([v, 0, 1, 2, 1024, 1025, 4096, 4097, 1048576, 1048577, 4194304, 4194305, 536870912, 536870913, 999, 1000, 1000000, 1000001, (-1)] : List Int).map (Value.int .i64)).toArray 2)
  have B2 := B1.alloc B1.size (.cells (([v, 0, 1, 2, 1024, 1025, 4096, 4097, 1048576, 1048577, 4194304, 4194305, 536870912, 536870913, 999, 1000, 1000000, 1000001, (-1)] : List Int).map (Value.int .i64)).toArray 2)
  clear R1
  go_loopw [23] (fun i wr => ∃ j : Nat, j ≤ 19 ∧ i = .int .i64 j ∧ Blk wr w1.heap.size (([v, 0, 1, 2, 1024, 1025, 4096, 4097, 1048576, 1048577, 4194304, 4194305, 536870912, 536870913, 999, 1000, 1000000, 1000001, (-1)] : List Int).map (Value.int .i64)).toArray 2 ∧ Blk wr w.heap.size #[.int .i64 x, .int .i64 y, .int .i64 su, .int .i64 we, .int .i64 st, .int .i64 ga, .int .i64 le, .int .i64 mo, .int .i64 ba, .int .i64 ne, .int .i64 de, .int .u32 pa] 46 ∧ Below w.heap.size w wr) (fun i _ => 19 - (intOf i).toNat)
  case atStart => exact ⟨0, by decide, rfl, G2, R2, B2⟩
  case round =>
    obtain ⟨j, hj, rfl, kg, kr, hb⟩ := hrel
    clear G2 R2 B2
    by_cases hlt : j < 19
    · have hX := nums_cell kg (j := j) (by simpa using hlt)
      generalize ([v, 0, 1, 2, 1024, 1025, 4096, 4097, 1048576, 1048577, 4194304, 4194305, 536870912, 536870913, 999, 1000, 1000000, 1000001, (-1)] : List Int).getD j 0 = X at *
      go_upto_block 2 with (first | (go_at_call 17; (with_reducible refine (CF _).mono ?_); rintro e w3 ⟨rfl, g3⟩))
      go_cut [15] (fun s15 wx => ∃ a0 a1 a2 a3 a4 a5 a6 a7 a8 a9 a10 a11 : Int, s15 = .pointer (some ⟨w3.heap.size, 0, none⟩) ∧ Blk wx w3.heap.size #[.int .i64 a0, .int .i64 a1, .int .i64 a2, .int .i64 a3, .int .i64 a4, .int .i64 a5, .int .i64 a6, .int .i64 a7, .int .i64 a8, .int .i64 a9, .int .i64 a10, .int .u32 a11] 46 ∧ Blk wx w1.heap.size (([v, 0, 1, 2, 1024, 1025, 4096, 4097, 1048576, 1048577, 4194304, 4194305, 536870912, 536870913, 999, 1000, 1000000, 1000001, (-1)] : List Int).map (Value.int .i64)).toArray 2 ∧ Blk wx w.heap.size #[.int .i64 x, .int .i64 y, .int .i64 su, .int .i64 we, .int .i64 st, .int .i64 ga, .int .i64 le, .int .i64 mo, .int .i64 ba, .int .i64 ne, .int .i64 de, .int .u32 pa] 46 ∧ Below w.heap.size w wx)
      case first =>
        have kg3 := kg.keep g3
        have kr3 := kr.keep g3
        have hb3 := below_both hb g3
        clear hX kg kr hb g3 CF hg
        go_wp2_with fail
        all_goals (go_meet; exact ⟨_, _, _, _, _, _, _, _, _, _, _, _, rfl, Blk.new _ _ _, kg3.alloc _, kr3.alloc _, hb3.alloc hb3.size _⟩)
      case rest =>
        obtain ⟨a0, a1, a2, a3, a4, a5, a6, a7, a8, a9, a10, a11, rfl, kc, kgc, krc, hbc⟩ := hcut
        go_wp2_with fail
        go_region_held3 (fun w' => w'.cell? ⟨w3.heap.size, 0, none⟩ = some (.int .i64 a0) ∧ w'.cell? ⟨w3.heap.size, 1, none⟩ = some (.int .i64 a1) ∧ w'.cell? ⟨w3.heap.size, 2, none⟩ = some (.int .i64 a2) ∧ w'.cell? ⟨w3.heap.size, 3, none⟩ = some (.int .i64 a3) ∧ w'.cell? ⟨w3.heap.size, 4, none⟩ = some (.int .i64 a4) ∧ w'.cell? ⟨w3.heap.size, 5, none⟩ = some (.int .i64 a5) ∧ w'.cell? ⟨w3.heap.size, 6, none⟩ = some (.int .i64 a6) ∧ w'.cell? ⟨w3.heap.size, 7, none⟩ = some (.int .i64 a7) ∧ w'.cell? ⟨w3.heap.size, 8, none⟩ = some (.int .i64 a8) ∧ w'.cell? ⟨w3.heap.size, 9, none⟩ = some (.int .i64 a9) ∧ w'.cell? ⟨w3.heap.size, 10, none⟩ = some (.int .i64 a10) ∧ w'.cell? ⟨w3.heap.size, 11, none⟩ = some (.int .u32 a11))
          (first | exact cells12 kc | exact cells12 kc4 | exact cells12 kc5 | exact cells12 kc6)
          (first
            | (go_at_call 19; (with_reducible refine (Check_calls _ _ _ _ _ _ _ _ _ _ _ _ _).mono ?_); rintro e w4 ⟨v4, rfl, hv4, g4⟩; have kc4 := kc.keep (undrew g4); have b4 := below_both hbc (undrew g4))
            | (go_at_call 20; (with_reducible refine (rCheck_calls _ _ _ _ _ _ _ _ _ _ _ _ _).mono ?_); rintro e w5 ⟨rfl, g5⟩; have kc5 := kc4.keep g5; have b5 := below_both b4 g5; have S := says_same _ v4 w5 (hg.below b5) (hv4.is.below g5))
            | (go_at_call 18; (with_reducible refine S.mono ?_); rintro e w6 ⟨rfl, g6⟩; have b6 := below_both b5 g6; have kc6 := kc5.keep g6; have kg6 := ((kgc.keep (undrew g4)).keep g5).keep g6; have kr6 := ((krc.keep (undrew g4)).keep g5).keep g6))
        go_wp2_with fail
        go_roundw
        case measure => simp [intOf]; omega
        case rel => exact ⟨j + 1, by omega, by simp, kg6, kr6, b6⟩
    · clear CF
      go_upto_region 34 with fail
      go_cut [16, 17] (fun s16 s17 wx => s16 = .int .i64 (mn (mx n 0) 8) ∧ s17 = .int .i64 (mn (mx f 0) 40) ∧ wx = wr)
      case first =>
        clear hg hb kg kr B1 g1 B0
        go_wp2_with fail
        all_goals (go_meet; refine ⟨?_, ?_, rfl⟩ <;> (unfold mn mx; simp only [Value.int.injEq, true_and]; repeat' split) <;> omega)
      case rest =>
        obtain ⟨rfl, rfl, rfl⟩ := hcut
        obtain ⟨A0, A1⟩ := clamp8 n
        obtain ⟨C0, C1⟩ := clamp40 f
        have T1 := StepsR n f
        have T2 := StepsP n f
        have PL := Place_c f
        obtain ⟨P0, P1⟩ := place_in f
        generalize mn (mx n 0) 8 = A at *
        generalize mn (mx f 0) 40 = C at *
        generalize f % 41 = p at *
        obtain ⟨q1, q2, q3⟩ := poly A0 A1 C0 (Int.le_trans C1 (by decide))
        have q4 := (poly A0 A1 P0 (Int.le_of_lt P1)).2.2
        have q5 : wrap64 (40 * C) = 40 * C := by unfold wrap64; omega
        have q6 : wrap64 (40 * p) = 40 * p := by unfold wrap64; omega
        simp only [q1, q2, q3, q4] at T1 T2
        have z1 : IntKind.i64.wrap (A * A) = A * A := Eq.trans (wrapped _) q1
        have z2 : IntKind.i64.wrap (A * A * A) = A * A * A := Eq.trans (wrapped _) q2
        have z3 : IntKind.i64.wrap (A * A * A + 40 * C) = A * A * A + 40 * C := Eq.trans (wrapped _) q3
        have z4 : IntKind.i64.wrap (A * A * A + 40 * p) = A * A * A + 40 * p := Eq.trans (wrapped _) q4
        have z5 : IntKind.i64.wrap (40 * C) = 40 * C := Eq.trans (wrapped _) q5
        have z6 : IntKind.i64.wrap (40 * p) = 40 * p := Eq.trans (wrapped _) q6
        clear q1 q2 q3 q4 q5 q6
        go_wp2_with fail
        go_region_held3 (fun w' => w'.cell? ⟨w.heap.size, 0, none⟩ = some (.int .i64 x) ∧ w'.cell? ⟨w.heap.size, 1, none⟩ = some (.int .i64 y) ∧ w'.cell? ⟨w.heap.size, 2, none⟩ = some (.int .i64 su) ∧ w'.cell? ⟨w.heap.size, 3, none⟩ = some (.int .i64 we) ∧ w'.cell? ⟨w.heap.size, 4, none⟩ = some (.int .i64 st) ∧ w'.cell? ⟨w.heap.size, 5, none⟩ = some (.int .i64 ga) ∧ w'.cell? ⟨w.heap.size, 6, none⟩ = some (.int .i64 le) ∧ w'.cell? ⟨w.heap.size, 7, none⟩ = some (.int .i64 mo) ∧ w'.cell? ⟨w.heap.size, 8, none⟩ = some (.int .i64 ba) ∧ w'.cell? ⟨w.heap.size, 9, none⟩ = some (.int .i64 ne) ∧ w'.cell? ⟨w.heap.size, 10, none⟩ = some (.int .i64 de) ∧ w'.cell? ⟨w.heap.size, 11, none⟩ = some (.int .u32 pa))
          (first | exact cells12 kr | exact cells12 kr4 | exact cells12 kr5 | exact cells12 kr6 | exact cells12 kr7 | exact cells12 kr8 | exact cells12 kr9 | exact cells12 kr10)
          (first
            | (go_at_call 19; (with_reducible refine (Check_calls _ _ _ _ _ _ _ _ _ _ _ _ _).mono ?_); rintro e w4 ⟨v4, rfl, hv4, g4⟩; have kr4 := kr.keep (undrew g4); have b4 := below_both hb (undrew g4))
            | (go_at_call 20; (with_reducible refine (rCheck_calls _ _ _ _ _ _ _ _ _ _ _ _ _).mono ?_); rintro e w5 ⟨rfl, g5⟩; have kr5 := kr4.keep g5; have b5 := below_both b4 g5; have S := says_same _ v4 w5 (hg.below b5) (hv4.is.below g5))
            | (go_at_call 18; (with_reducible refine S.mono ?_); rintro e w6 ⟨rfl, g6⟩; have b6 := below_both b5 g6; have kr6 := kr5.keep g6)
            | (go_at_call 21; first
               | ((with_reducible refine (T1 _).mono ?_); rintro e w7 ⟨rfl, g7⟩; have b7 := below_both b6 g7; have kr7 := kr6.keep g7)
               | ((with_reducible refine (T2 _).mono ?_); rintro e w9 ⟨rfl, g9⟩; have b9 := below_both b8 g9; have kr9 := kr8.keep g9))
            | (go_at_call 22; (with_reducible refine (PL _).mono ?_); rintro e w8 ⟨rfl, g8⟩; (first | (have b10 := below_both b9 g8; have kr10 := kr9.keep g8) | (have b8 := below_both b7 g8; have kr8 := kr7.keep g8))))
        go_wp2_with fail
        go_ret
        exact ⟨rfl, b10⟩
theorem ConfigTells_law (x y su we st ga le mo ba ne de pa k what v n f : Int) (w : World) (hg : Laid w) (r0 : (Lit.int .i64 x).wf = true) (r1 : (Lit.int .i64 y).wf = true) (r2 : (Lit.int .i64 su).wf = true) (r3 : (Lit.int .i64 we).wf = true) (r4 : (Lit.int .i64 st).wf = true) (r5 : (Lit.int .i64 ga).wf = true) (r6 : (Lit.int .i64 le).wf = true) (r7 : (Lit.int .i64 mo).wf = true) (r8 : (Lit.int .i64 ba).wf = true) (r9 : (Lit.int .i64 ne).wf = true) (r10 : (Lit.int .i64 de).wf = true) (r11 : (Lit.int .u32 pa).wf = true) (wk : (Lit.int .u8 k).wf = true) (ww : (Lit.int .u8 what).wf = true) (wv : (Lit.int .i64 v).wf = true) (wn : (Lit.int .i64 n).wf = true) (wf : (Lit.int .i64 f).wf = true) :
    Calls Tryd.prog 5 #[.agg #[.int .i64 x, .int .i64 y, .int .i64 su, .int .i64 we, .int .i64 st, .int .i64 ga, .int .i64 le, .int .i64 mo, .int .i64 ba, .int .i64 ne, .int .i64 de, .int .u32 pa], .int .u8 k, .int .u8 what, .int .i64 v, .int .i64 n, .int .i64 f] w fun e w' => e = .returned (.bool true) ∧ Below w.heap.size w w' := by
  have hk : 0 ≤ k ∧ k < 256 := by simp [Lit.wf, IntKind.min, IntKind.max, IntKind.bits, IntKind.signed] at wk; omega
  have hw : 0 ≤ what ∧ what < 256 := by simp [Lit.wf, IntKind.min, IntKind.max, IntKind.bits, IntKind.signed] at ww; omega
  exact Tells_walk x y su we st ga le mo ba ne de pa k what v n f w hg hk.1 hk.2 hw.1 hw.2
end Go.Proofs.YtbfflffekdadnaaDoor.YConf
