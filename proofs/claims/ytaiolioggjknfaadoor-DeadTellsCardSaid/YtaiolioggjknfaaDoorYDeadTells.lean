/- The statement DeadTells of layer 15: the walk. Condition: errors.errorType holds its type's handle. Printed by a program of this session. -/
import Derived.Test.YtaiolioggjknfaaDoorYSumRef
import Derived.BigRegion
namespace Go.Proofs.YtaiolioggjknfaaDoor.YDead
open Go.RowKit Go.Extern.Stop Go.Stop Go.Extern Go.Proofs.YtaiolioggjknfaaDoor.QSn Go.Proofs.YtaiolioggjknfaaDoor.YBits Go.Proofs.YtaiolioggjknfaaDoor.YFx Go.Proofs.YtaiolioggjknfaaDoor.YAng Go.Proofs.YtaiolioggjknfaaDoor.YErr Go.Proofs.YtaiolioggjknfaaDoorW.PrintWords Go.Proofs.YtaiolioggjknfaaDoorW.PrintLast
set_option linter.unusedVariables false
set_option linter.unusedSimpArgs false

theorem says_same (n : Int) (v : Value) (W : World) (hg : Laid W) (h : ErrIs op15 W v n) : Calls Tryd.prog 32 #[v, .int .i64 n] W fun e w' => e = .returned (.bool true) ∧ Below W.heap.size W w' := by
  have := says15 n W hg h
  simpa using this
theorem tmod_in64 (x m : Int) (h0 : -9223372036854775808 ≤ x) (h1 : x ≤ 9223372036854775807) : -9223372036854775808 ≤ Int.tmod x m ∧ Int.tmod x m ≤ 9223372036854775807 := by
  have h : (Int.tmod x m).natAbs ≤ x.natAbs := by rw [Int.natAbs_tmod]; exact Nat.mod_le _ _
  have g : x < 0 → Int.tmod x m ≤ 0 := by
    intro hx
    rw [show x = -(-x) by omega, Int.neg_tmod]
    have := Int.tmod_nonneg m (show 0 ≤ -x by omega)
    omega
  have g' : 0 ≤ x → 0 ≤ Int.tmod x m := fun hx => Int.tmod_nonneg m hx
  omega
theorem bb {W w w' : World} (h : Below W.heap.size W w) (g : Below w.heap.size w w') : Below W.heap.size W w' := h.trans (g.mono h.size)
theorem ba {W w : World} (h : Below W.heap.size W w) (o : Obj) : Below W.heap.size W (w.alloc o) := h.alloc h.size o
theorem new1 (w : World) (o : Obj) : Below w.heap.size w (w.alloc o) := (Below.refl _ _).alloc (Nat.le_refl _) _


set_option maxRecDepth 100000 in
set_option maxHeartbeats 8000000 in
theorem Tells_plain (h f s t ax ay bx b_y : Int) (w : World) (hg : Laid w) (hh0 : 0 ≤ h) (hh1 : h < 65536) (f0 : -9223372036854775808 ≤ f) (f1 : f ≤ 9223372036854775807) (ht0 : 0 ≤ t) (ht1 : t < 4294967296) :
    Calls Tryd.prog 11 #[.int .u16 h, .int .i64 f, .int .i64 s, .int .u32 t, .agg #[.int .i64 ax, .int .i64 ay], .agg #[.int .i64 bx, .int .i64 b_y], .bool false] w fun e w' => e = .returned (.bool true) ∧ Below w.heap.size w w' := by
  have KA : Blk ((w.alloc (.cells #[.int .i64 ax, .int .i64 ay] 35)).alloc (.cells #[.int .i64 bx, .int .i64 b_y] 35)) w.heap.size #[.int .i64 ax, .int .i64 ay] 35 := (Blk.new w _ _).alloc _
  have KB : Blk ((w.alloc (.cells #[.int .i64 ax, .int .i64 ay] 35)).alloc (.cells #[.int .i64 bx, .int .i64 b_y] 35)) (w.heap.size + 1) #[.int .i64 bx, .int .i64 b_y] 35 := by
    have := Blk.new (w.alloc (.cells #[.int .i64 ax, .int .i64 ay] 35)) #[.int .i64 bx, .int .i64 b_y] 35
    simpa using this
  have B0 : Below w.heap.size w ((w.alloc (.cells #[.int .i64 ax, .int .i64 ay] 35)).alloc (.cells #[.int .i64 bx, .int .i64 b_y] 35)) := ba (new1 w _) _
  have K := known_calls _ (hg.below B0)

  have M1 := Move_c h f s t hh0 hh1 ht0
  have M2 := rMove_c h f s t hh0 hh1 f0 f1 ht0
  have S1 := Sum_c ax ay bx b_y
  have S2 := rPlus_c ax ay bx b_y
  go_enter Tryd.func11, Tryd.ntmps11
  go_wp2_with fail
  refine K.mono ?_; rintro e w1 ⟨rfl, g1⟩
  have B1 := bb B0 g1
  have kA := KA.keep g1
  have kB := KB.keep g1

  go_wp2_with fail
  refine (M1 _).mono ?_; rintro e w2 ⟨v2, rfl, h2, g2⟩
  have b2 := bb B1 g2
  have ka2 := kA.keep g2
  have kb2 := kB.keep g2
  have kp2 := Blk.new w2 #[.int .i64 (mvX h f s t), .int .i64 (mvY h f s t)] 35
  have b2' := ba b2 (.cells #[.int .i64 (mvX h f s t), .int .i64 (mvY h f s t)] 35)
  have ka2' := ka2.alloc (.cells #[.int .i64 (mvX h f s t), .int .i64 (mvY h f s t)] 35)
  have kb2' := kb2.alloc (.cells #[.int .i64 (mvX h f s t), .int .i64 (mvY h f s t)] 35)
  have h2' := h2.below (new1 w2 (.cells #[.int .i64 (mvX h f s t), .int .i64 (mvY h f s t)] 35))
  go_wp2_with fail
  refine (M2 _).mono ?_; rintro e w3 ⟨rfl, g3⟩
  have b3 := bb b2' g3
  have ka3 := ka2'.keep g3
  have kb3 := kb2'.keep g3
  have kp3 := kp2.keep g3
  have h3 := h2'.below g3
  have kq3 := Blk.new w3 #[.int .i64 (mvX h f s t), .int .i64 (mvY h f s t)] 35
  have b3' := ba b3 (.cells #[.int .i64 (mvX h f s t), .int .i64 (mvY h f s t)] 35)
  have kp3' := kp3.alloc (.cells #[.int .i64 (mvX h f s t), .int .i64 (mvY h f s t)] 35)
  have ka3' := ka3.alloc (.cells #[.int .i64 (mvX h f s t), .int .i64 (mvY h f s t)] 35)
  have kb3' := kb3.alloc (.cells #[.int .i64 (mvX h f s t), .int .i64 (mvY h f s t)] 35)
  have h3' := h3.below (new1 w3 (.cells #[.int .i64 (mvX h f s t), .int .i64 (mvY h f s t)] 35))
  have xa0 := ka3'.cell 0
  have xa1 := ka3'.cell 1
  have xb0 := kb3'.cell 0
  have xb1 := kb3'.cell 1
  simp at xa0 xa1 xb0 xb1
  go_wp2_with fail
  refine (S1 _).mono ?_; rintro e w4 ⟨v4, rfl, h4, g4⟩
  have b4 := bb b3' g4
  have ka4 := ka3'.keep g4
  have kb4 := kb3'.keep g4
  have kp4 := kp3'.keep g4
  have kq4 := kq3.keep g4
  have h4a := h3'.below g4
  have kx4 := Blk.new w4 #[.int .i64 (smX ax ay bx b_y), .int .i64 (smY ax ay bx b_y)] 35
  have b4' := ba b4 (.cells #[.int .i64 (smX ax ay bx b_y), .int .i64 (smY ax ay bx b_y)] 35)
  have kp4' := kp4.alloc (.cells #[.int .i64 (smX ax ay bx b_y), .int .i64 (smY ax ay bx b_y)] 35)
  have kq4' := kq4.alloc (.cells #[.int .i64 (smX ax ay bx b_y), .int .i64 (smY ax ay bx b_y)] 35)
  have ka4' := ka4.alloc (.cells #[.int .i64 (smX ax ay bx b_y), .int .i64 (smY ax ay bx b_y)] 35)
  have kb4' := kb4.alloc (.cells #[.int .i64 (smX ax ay bx b_y), .int .i64 (smY ax ay bx b_y)] 35)
  have h4' := h4.below (new1 w4 (.cells #[.int .i64 (smX ax ay bx b_y), .int .i64 (smY ax ay bx b_y)] 35))
  have h4a' := h4a.below (new1 w4 (.cells #[.int .i64 (smX ax ay bx b_y), .int .i64 (smY ax ay bx b_y)] 35))
  have ya0 := ka4'.cell 0
  have ya1 := ka4'.cell 1
  have yb0 := kb4'.cell 0
  have yb1 := kb4'.cell 1
  simp at ya0 ya1 yb0 yb1
  go_wp2_with fail
  refine (S2 _).mono ?_; rintro e w5 ⟨rfl, g5⟩
  have b5 := bb b4' g5
  have kp5 := kp4'.keep g5
  have kq5 := kq4'.keep g5
  have kx5 := kx4.keep g5
  have h5 := h4'.below g5
  have h5a := h4a'.below g5
  have ky5 := Blk.new w5 #[.int .i64 (smX ax ay bx b_y), .int .i64 (smY ax ay bx b_y)] 35
  have b5' := ba b5 (.cells #[.int .i64 (smX ax ay bx b_y), .int .i64 (smY ax ay bx b_y)] 35)
  have kp5' := kp5.alloc (.cells #[.int .i64 (smX ax ay bx b_y), .int .i64 (smY ax ay bx b_y)] 35)
  have kq5' := kq5.alloc (.cells #[.int .i64 (smX ax ay bx b_y), .int .i64 (smY ax ay bx b_y)] 35)
  have kx5' := kx5.alloc (.cells #[.int .i64 (smX ax ay bx b_y), .int .i64 (smY ax ay bx b_y)] 35)
  have h5' := h5.below (new1 w5 (.cells #[.int .i64 (smX ax ay bx b_y), .int .i64 (smY ax ay bx b_y)] 35))
  have h5a' := h5a.below (new1 w5 (.cells #[.int .i64 (smX ax ay bx b_y), .int .i64 (smY ax ay bx b_y)] 35))
  have Z1 := says_same (mvC f s t) v2 _ (hg.below b5') h5a'
  go_wp2_with fail
  refine Z1.mono ?_; rintro e w6 ⟨rfl, g6⟩
  have b6 := bb b5' g6
  have kp6 := kp5'.keep g6
  have kq6 := kq5'.keep g6
  have kx6 := kx5'.keep g6
  have ky6 := ky5.keep g6
  have zp0 := kp6.cell 0
  have zp1 := kp6.cell 1
  have zq0 := kq6.cell 0
  have zq1 := kq6.cell 1
  simp at zp0 zp1 zq0 zq1
  have Z2 := says_same (smC ax ay bx b_y) v4 w6 (hg.below b6) (h5'.below g6)
  go_wp2_with fail
  refine Z2.mono ?_; rintro e w7 ⟨rfl, g7⟩
  have b7 := bb b6 g7
  have zx0 := (kx6.keep g7).cell 0
  have zx1 := (kx6.keep g7).cell 1
  have zy0 := (ky6.keep g7).cell 0
  have zy1 := (ky6.keep g7).cell 1
  simp at zx0 zx1 zy0 zy1
  go_wp2_with fail
  go_ret
  exact ⟨rfl, b7⟩


set_option maxRecDepth 100000 in
set_option maxHeartbeats 8000000 in
theorem Tells_small (h f s t ax ay bx b_y : Int) (w : World) (hg : Laid w) (hh0 : 0 ≤ h) (hh1 : h < 65536) (f0 : -9223372036854775808 ≤ f) (f1 : f ≤ 9223372036854775807) (ht0 : 0 ≤ t) (ht1 : t < 4294967296) :
    Calls Tryd.prog 11 #[.int .u16 h, .int .i64 f, .int .i64 s, .int .u32 t, .agg #[.int .i64 ax, .int .i64 ay], .agg #[.int .i64 bx, .int .i64 b_y], .bool true] w fun e w' => e = .returned (.bool true) ∧ Below w.heap.size w w' := by
  have KA : Blk ((w.alloc (.cells #[.int .i64 ax, .int .i64 ay] 35)).alloc (.cells #[.int .i64 bx, .int .i64 b_y] 35)) w.heap.size #[.int .i64 ax, .int .i64 ay] 35 := (Blk.new w _ _).alloc _
  have KB : Blk ((w.alloc (.cells #[.int .i64 ax, .int .i64 ay] 35)).alloc (.cells #[.int .i64 bx, .int .i64 b_y] 35)) (w.heap.size + 1) #[.int .i64 bx, .int .i64 b_y] 35 := by
    have := Blk.new (w.alloc (.cells #[.int .i64 ax, .int .i64 ay] 35)) #[.int .i64 bx, .int .i64 b_y] 35
    simpa using this
  have B0 : Below w.heap.size w ((w.alloc (.cells #[.int .i64 ax, .int .i64 ay] 35)).alloc (.cells #[.int .i64 bx, .int .i64 b_y] 35)) := ba (new1 w _) _
  have K := known_calls _ (hg.below B0)

  obtain ⟨F, hF⟩ : ∃ F, F = Int.tmod f 10002 := ⟨_, rfl⟩
  obtain ⟨S, hS⟩ : ∃ S, S = Int.tmod s 10002 := ⟨_, rfl⟩
  obtain ⟨X1, hX1⟩ : ∃ X1, X1 = Int.tmod ax 4194306 := ⟨_, rfl⟩
  obtain ⟨Y1, hY1⟩ : ∃ Y1, Y1 = Int.tmod ay 4194306 := ⟨_, rfl⟩
  obtain ⟨X2, hX2⟩ : ∃ X2, X2 = Int.tmod bx 1000 := ⟨_, rfl⟩
  obtain ⟨Y2, hY2⟩ : ∃ Y2, Y2 = Int.tmod b_y 4194306 := ⟨_, rfl⟩
  have M1 := Move_c h F S (t % 60002) hh0 hh1 (by omega)
  have M2 := rMove_c h F S (t % 60002) hh0 hh1 (by rw [hF]; exact (tmod_in64 f 10002 f0 f1).1) (by rw [hF]; exact (tmod_in64 f 10002 f0 f1).2) (by omega)
  have S1 := Sum_c X1 Y1 X2 Y2
  have S2 := rPlus_c X1 Y1 X2 Y2
  replace hF := hF.symm
  replace hS := hS.symm
  replace hX1 := hX1.symm
  replace hY1 := hY1.symm
  replace hX2 := hX2.symm
  replace hY2 := hY2.symm
  go_enter Tryd.func11, Tryd.ntmps11
  go_wp2_with fail
  refine K.mono ?_; rintro e w1 ⟨rfl, g1⟩
  have B1 := bb B0 g1
  have kA := KA.keep g1
  have kB := KB.keep g1
  have xa0 := kA.cell 0
  have xa1 := kA.cell 1
  have xb0 := kB.cell 0
  have xb1 := kB.cell 1
  have fa0 := kA.free 0
  have fa1 := kA.free 1
  have fb0 := kB.free 0
  have fb1 := kB.free 1
  simp at xa0 xa1 xb0 xb1
  go_wp2_with fail
  go_region
  have kA' : Blk ((((w1.setCell ⟨w.heap.size, 0, none⟩ (.int .i64 X1)).setCell ⟨w.heap.size, 1, none⟩ (.int .i64 Y1)).setCell ⟨w.heap.size + 1, 0, none⟩ (.int .i64 X2)).setCell ⟨w.heap.size + 1, 1, none⟩ (.int .i64 Y2)).drew w.heap.size #[.int .i64 X1, .int .i64 Y1] 35 :=
    ((Blk.setOther (p := ⟨w.heap.size + 1, 1, none⟩) (Blk.setOther (p := ⟨w.heap.size + 1, 0, none⟩) ((kA.set 0 (.int .i64 X1)).set 1 (.int .i64 Y1)) (by show w.heap.size + 1 ≠ w.heap.size; omega) _) (by show w.heap.size + 1 ≠ w.heap.size; omega) _)).drew
  have kB' : Blk ((((w1.setCell ⟨w.heap.size, 0, none⟩ (.int .i64 X1)).setCell ⟨w.heap.size, 1, none⟩ (.int .i64 Y1)).setCell ⟨w.heap.size + 1, 0, none⟩ (.int .i64 X2)).setCell ⟨w.heap.size + 1, 1, none⟩ (.int .i64 Y2)).drew (w.heap.size + 1) #[.int .i64 X2, .int .i64 Y2] 35 :=
    (((Blk.setOther (p := ⟨w.heap.size, 1, none⟩) (Blk.setOther (p := ⟨w.heap.size, 0, none⟩) kB (by show w.heap.size ≠ w.heap.size + 1; omega) _) (by show w.heap.size ≠ w.heap.size + 1; omega) _).set 0 (.int .i64 X2)).set 1 (.int .i64 Y2)).drew
  have B1' : Below w.heap.size w ((((w1.setCell ⟨w.heap.size, 0, none⟩ (.int .i64 X1)).setCell ⟨w.heap.size, 1, none⟩ (.int .i64 Y1)).setCell ⟨w.heap.size + 1, 0, none⟩ (.int .i64 X2)).setCell ⟨w.heap.size + 1, 1, none⟩ (.int .i64 Y2)).drew :=
    ((((B1.setCell (p := ⟨w.heap.size, 0, none⟩) (Nat.le_refl _) _).setCell (p := ⟨w.heap.size, 1, none⟩) (Nat.le_refl _) _).setCell (p := ⟨w.heap.size + 1, 0, none⟩) (Nat.le_succ _) _).setCell (p := ⟨w.heap.size + 1, 1, none⟩) (Nat.le_succ _) _).drew
  clear xa0 xa1 xb0 xb1 fa0 fa1 fb0 fb1 kA kB B1
  generalize ((((w1.setCell ⟨w.heap.size, 0, none⟩ (.int .i64 X1)).setCell ⟨w.heap.size, 1, none⟩ (.int .i64 Y1)).setCell ⟨w.heap.size + 1, 0, none⟩ (.int .i64 X2)).setCell ⟨w.heap.size + 1, 1, none⟩ (.int .i64 Y2)).drew = W9 at *
  have kA := kA'
  have kB := kB'
  have B1 := B1'

  go_wp2_with fail
  refine (M1 _).mono ?_; rintro e w2 ⟨v2, rfl, h2, g2⟩
  have b2 := bb B1 g2
  have ka2 := kA.keep g2
  have kb2 := kB.keep g2
  have kp2 := Blk.new w2 #[.int .i64 (mvX h F S (t % 60002)), .int .i64 (mvY h F S (t % 60002))] 35
  have b2' := ba b2 (.cells #[.int .i64 (mvX h F S (t % 60002)), .int .i64 (mvY h F S (t % 60002))] 35)
  have ka2' := ka2.alloc (.cells #[.int .i64 (mvX h F S (t % 60002)), .int .i64 (mvY h F S (t % 60002))] 35)
  have kb2' := kb2.alloc (.cells #[.int .i64 (mvX h F S (t % 60002)), .int .i64 (mvY h F S (t % 60002))] 35)
  have h2' := h2.below (new1 w2 (.cells #[.int .i64 (mvX h F S (t % 60002)), .int .i64 (mvY h F S (t % 60002))] 35))
  go_wp2_with fail
  refine (M2 _).mono ?_; rintro e w3 ⟨rfl, g3⟩
  have b3 := bb b2' g3
  have ka3 := ka2'.keep g3
  have kb3 := kb2'.keep g3
  have kp3 := kp2.keep g3
  have h3 := h2'.below g3
  have kq3 := Blk.new w3 #[.int .i64 (mvX h F S (t % 60002)), .int .i64 (mvY h F S (t % 60002))] 35
  have b3' := ba b3 (.cells #[.int .i64 (mvX h F S (t % 60002)), .int .i64 (mvY h F S (t % 60002))] 35)
  have kp3' := kp3.alloc (.cells #[.int .i64 (mvX h F S (t % 60002)), .int .i64 (mvY h F S (t % 60002))] 35)
  have ka3' := ka3.alloc (.cells #[.int .i64 (mvX h F S (t % 60002)), .int .i64 (mvY h F S (t % 60002))] 35)
  have kb3' := kb3.alloc (.cells #[.int .i64 (mvX h F S (t % 60002)), .int .i64 (mvY h F S (t % 60002))] 35)
  have h3' := h3.below (new1 w3 (.cells #[.int .i64 (mvX h F S (t % 60002)), .int .i64 (mvY h F S (t % 60002))] 35))
  have xa0 := ka3'.cell 0
  have xa1 := ka3'.cell 1
  have xb0 := kb3'.cell 0
  have xb1 := kb3'.cell 1
  simp at xa0 xa1 xb0 xb1
  go_wp2_with fail
  refine (S1 _).mono ?_; rintro e w4 ⟨v4, rfl, h4, g4⟩
  have b4 := bb b3' g4
  have ka4 := ka3'.keep g4
  have kb4 := kb3'.keep g4
  have kp4 := kp3'.keep g4
  have kq4 := kq3.keep g4
  have h4a := h3'.below g4
  have kx4 := Blk.new w4 #[.int .i64 (smX X1 Y1 X2 Y2), .int .i64 (smY X1 Y1 X2 Y2)] 35
  have b4' := ba b4 (.cells #[.int .i64 (smX X1 Y1 X2 Y2), .int .i64 (smY X1 Y1 X2 Y2)] 35)
  have kp4' := kp4.alloc (.cells #[.int .i64 (smX X1 Y1 X2 Y2), .int .i64 (smY X1 Y1 X2 Y2)] 35)
  have kq4' := kq4.alloc (.cells #[.int .i64 (smX X1 Y1 X2 Y2), .int .i64 (smY X1 Y1 X2 Y2)] 35)
  have ka4' := ka4.alloc (.cells #[.int .i64 (smX X1 Y1 X2 Y2), .int .i64 (smY X1 Y1 X2 Y2)] 35)
  have kb4' := kb4.alloc (.cells #[.int .i64 (smX X1 Y1 X2 Y2), .int .i64 (smY X1 Y1 X2 Y2)] 35)
  have h4' := h4.below (new1 w4 (.cells #[.int .i64 (smX X1 Y1 X2 Y2), .int .i64 (smY X1 Y1 X2 Y2)] 35))
  have h4a' := h4a.below (new1 w4 (.cells #[.int .i64 (smX X1 Y1 X2 Y2), .int .i64 (smY X1 Y1 X2 Y2)] 35))
  have ya0 := ka4'.cell 0
  have ya1 := ka4'.cell 1
  have yb0 := kb4'.cell 0
  have yb1 := kb4'.cell 1
  simp at ya0 ya1 yb0 yb1
  go_wp2_with fail
  refine (S2 _).mono ?_; rintro e w5 ⟨rfl, g5⟩
  have b5 := bb b4' g5
  have kp5 := kp4'.keep g5
  have kq5 := kq4'.keep g5
  have kx5 := kx4.keep g5
  have h5 := h4'.below g5
  have h5a := h4a'.below g5
  have ky5 := Blk.new w5 #[.int .i64 (smX X1 Y1 X2 Y2), .int .i64 (smY X1 Y1 X2 Y2)] 35
  have b5' := ba b5 (.cells #[.int .i64 (smX X1 Y1 X2 Y2), .int .i64 (smY X1 Y1 X2 Y2)] 35)
  have kp5' := kp5.alloc (.cells #[.int .i64 (smX X1 Y1 X2 Y2), .int .i64 (smY X1 Y1 X2 Y2)] 35)
  have kq5' := kq5.alloc (.cells #[.int .i64 (smX X1 Y1 X2 Y2), .int .i64 (smY X1 Y1 X2 Y2)] 35)
  have kx5' := kx5.alloc (.cells #[.int .i64 (smX X1 Y1 X2 Y2), .int .i64 (smY X1 Y1 X2 Y2)] 35)
  have h5' := h5.below (new1 w5 (.cells #[.int .i64 (smX X1 Y1 X2 Y2), .int .i64 (smY X1 Y1 X2 Y2)] 35))
  have h5a' := h5a.below (new1 w5 (.cells #[.int .i64 (smX X1 Y1 X2 Y2), .int .i64 (smY X1 Y1 X2 Y2)] 35))
  have Z1 := says_same (mvC F S (t % 60002)) v2 _ (hg.below b5') h5a'
  go_wp2_with fail
  refine Z1.mono ?_; rintro e w6 ⟨rfl, g6⟩
  have b6 := bb b5' g6
  have kp6 := kp5'.keep g6
  have kq6 := kq5'.keep g6
  have kx6 := kx5'.keep g6
  have ky6 := ky5.keep g6
  have zp0 := kp6.cell 0
  have zp1 := kp6.cell 1
  have zq0 := kq6.cell 0
  have zq1 := kq6.cell 1
  simp at zp0 zp1 zq0 zq1
  have Z2 := says_same (smC X1 Y1 X2 Y2) v4 w6 (hg.below b6) (h5'.below g6)
  go_wp2_with fail
  refine Z2.mono ?_; rintro e w7 ⟨rfl, g7⟩
  have b7 := bb b6 g7
  have zx0 := (kx6.keep g7).cell 0
  have zx1 := (kx6.keep g7).cell 1
  have zy0 := (ky6.keep g7).cell 0
  have zy1 := (ky6.keep g7).cell 1
  simp at zx0 zx1 zy0 zy1
  go_wp2_with fail
  go_ret
  exact ⟨rfl, b7⟩

theorem DeadTells_calls (h f s t ax ay bx b_y : Int) (small : Bool) (w : World) (hg : Laid w) (hh0 : 0 ≤ h) (hh1 : h < 65536) (f0 : -9223372036854775808 ≤ f) (f1 : f ≤ 9223372036854775807) (ht0 : 0 ≤ t) (ht1 : t < 4294967296) :
    Calls Tryd.prog 11 #[.int .u16 h, .int .i64 f, .int .i64 s, .int .u32 t, .agg #[.int .i64 ax, .int .i64 ay], .agg #[.int .i64 bx, .int .i64 b_y], .bool small] w fun e w' => e = .returned (.bool true) ∧ Below w.heap.size w w' := by
  cases small
  · exact Tells_plain h f s t ax ay bx b_y w hg hh0 hh1 f0 f1 ht0 ht1
  · exact Tells_small h f s t ax ay bx b_y w hg hh0 hh1 f0 f1 ht0 ht1
theorem DeadTells_law (h f s t ax ay bx b_y : Int) (small : Bool) (w : World) (hg : Laid w) (w0 : (Lit.int .u16 h).wf = true) (w1 : (Lit.int .i64 f).wf = true) (w2 : (Lit.int .i64 s).wf = true) (w3 : (Lit.int .u32 t).wf = true)
    (w4 : (Lit.int .i64 ax).wf = true) (w5 : (Lit.int .i64 ay).wf = true) (w6 : (Lit.int .i64 bx).wf = true) (w7 : (Lit.int .i64 b_y).wf = true) :
    Calls Tryd.prog 11 #[.int .u16 h, .int .i64 f, .int .i64 s, .int .u32 t, .agg #[.int .i64 ax, .int .i64 ay], .agg #[.int .i64 bx, .int .i64 b_y], .bool small] w fun e w' => e = .returned (.bool true) ∧ Below w.heap.size w w' := by
  have h0 : 0 ≤ h ∧ h < 65536 := by simp [Lit.wf, IntKind.min, IntKind.max, IntKind.bits, IntKind.signed] at w0; omega
  have f0 : -9223372036854775808 ≤ f ∧ f ≤ 9223372036854775807 := by simp [Lit.wf, IntKind.min, IntKind.max, IntKind.bits, IntKind.signed] at w1; omega
  have t0 : 0 ≤ t ∧ t < 4294967296 := by simp [Lit.wf, IntKind.min, IntKind.max, IntKind.bits, IntKind.signed] at w3; omega
  exact DeadTells_calls h f s t ax ay bx b_y small w hg h0.1 h0.2 f0.1 f0.2 t0.1 t0.2
end Go.Proofs.YtaiolioggjknfaaDoor.YDead
