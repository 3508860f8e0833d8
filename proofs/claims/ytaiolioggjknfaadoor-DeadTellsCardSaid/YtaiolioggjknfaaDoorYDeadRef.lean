/- The reference's dead reckoning, and package dead's sum where it fails: what they tell. No condition but the numbers' kinds. -/
import Derived.Test.YtaiolioggjknfaaDoorYRefMd
import Derived.Test.YtaiolioggjknfaaDoorYDeadLaws
namespace Go.Proofs.YtaiolioggjknfaaDoor.YDead
open Go.RowKit Go.Extern.Stop Go.Stop Go.Extern Go.Proofs.YtaiolioggjknfaaDoor.QSn Go.Proofs.YtaiolioggjknfaaDoor.YBits Go.Proofs.YtaiolioggjknfaaDoor.YFx Go.Proofs.YtaiolioggjknfaaDoor.YAng Go.Proofs.YtaiolioggjknfaaDoor.YErr Go.Proofs.YtaiolioggjknfaaDoorW.PrintWords Go.Proofs.YtaiolioggjknfaaDoorW.PrintLast
set_option linter.unusedVariables false
set_option linter.unusedSimpArgs false

theorem rfar_calls (v m : Int) (m0 : 0 ≤ m) (m1 : m ≤ 9223372036854775807) (w : World) (b : Bool) (hb : b = decide (v < -m ∨ v > m)) :
    Calls Tryd.prog 53 #[.int .i64 v, .int .i64 m] w fun e w' => e = .returned (.bool b) ∧ Drawn0 w w' := by
  refine leadlineref10_far.calls v m b w ?_
  unfold leadlineref10_far.f
  subst hb
  rw [wid (x := -m) (by omega) (by omega)]
  by_cases h : v > m
  · rw [if_pos h]; congr 1; simp; omega
  · rw [if_neg h]; congr 1; simp; omega
theorem rsin_calls (h : Int) (h0 : 0 ≤ h) (h1 : h < 65536) (w : World) : Calls Tryd.prog 54 #[.int .u16 h] w fun e w' => e = .returned (.int .i64 (sinN h)) ∧ Drawn0 w w' :=
  leadlineref1_Sin.calls h _ w (ref_sin_tells h h0 h1)
theorem rcos_calls (h : Int) (w : World) : Calls Tryd.prog 55 #[.int .u16 h] w fun e w' => e = .returned (.int .i64 (cosN h)) ∧ Drawn0 w w' :=
  leadlineref1_Cos.calls h _ w (ref_cos_tells h)
theorem below_d {B : Nat} {a w : World} (h : Below B a w) (n : Nat) : Below B a (w.drewN n) := below_drewN h
set_option maxRecDepth 100000 in
set_option maxHeartbeats 2000000 in
theorem rMove_ok (h f s t : Int) (hh0 : 0 ≤ h) (hh1 : h < 65536) (ht0 : 0 ≤ t) (ok : MoveOk f s t) (w : World) :
    Calls Tryd.prog 29 #[.int .u16 h, .int .i64 f, .int .i64 s, .int .u32 t] w fun e w' => e = .returned (.tuple #[.agg #[.int .i64 (moveX h f s t), .int .i64 (moveY h f s t)], .int .i64 0]) ∧ Below w.heap.size w w' := by
  obtain ⟨f0, f1, s0, s1, t1⟩ := ok
  have F1 : ∀ W, Calls Tryd.prog 53 #[.int .i64 f, .int .i64 10000] W fun e w' => e = .returned (.bool false) ∧ Drawn0 W w' := fun W => rfar_calls f 10000 (by decide) (by decide) W _ (by simp; omega)
  have F2 : ∀ W, Calls Tryd.prog 53 #[.int .i64 s, .int .i64 10000] W fun e w' => e = .returned (.bool false) ∧ Drawn0 W w' := fun W => rfar_calls s 10000 (by decide) (by decide) W _ (by simp; omega)
  have S := rsin_calls h hh0 hh1
  have C := rcos_calls h
  obtain ⟨_, n0, n1⟩ := sin_tells h hh0 hh1
  obtain ⟨_, c0, c1⟩ := cos_tells h
  unfold moveX moveY
  generalize sinN h = sn at *
  generalize cosN h = cs at *
  have p1 := prod_bound 10000 51472 (by decide) (by decide) f0 f1 n0 n1
  have p2 := prod_bound 10000 51472 (by decide) (by decide) s0 s1 c0 c1
  have p3 := prod_bound 10000 51472 (by decide) (by decide) f0 f1 c0 c1
  have p4 := prod_bound 10000 51472 (by decide) (by decide) s0 s1 n0 n1
  have e1 : IntKind.i64.wrap (f * sn) = f * sn := i64id (by omega) (by omega)
  have e2 : IntKind.i64.wrap (s * cs) = s * cs := i64id (by omega) (by omega)
  have e3 : IntKind.i64.wrap (f * sn + s * cs) = f * sn + s * cs := i64id (by omega) (by omega)
  have e4 : IntKind.i64.wrap (f * cs) = f * cs := i64id (by omega) (by omega)
  have e5 : IntKind.i64.wrap (s * sn) = s * sn := i64id (by omega) (by omega)
  have e6 : IntKind.i64.wrap (f * cs - s * sn) = f * cs - s * sn := i64id (by omega) (by omega)
  have q1 := prod_bound (y := f * sn + s * cs) (c := t) 2000000000 60000 (by decide) (by decide) (by omega) (by omega) (by omega) (by omega)
  have q2 := prod_bound (y := f * cs - s * sn) (c := t) 2000000000 60000 (by decide) (by decide) (by omega) (by omega) (by omega) (by omega)
  have M1 := fun W => YBig.md_in (f * sn + s * cs) t 32768000 (by omega) (by omega) (by omega) (by omega) (by decide) (by decide) (rnd_ge (by decide) (by omega)) (rnd_le (by decide) (by omega)) W
  have M2 := fun W => YBig.md_in (f * cs - s * sn) t 32768000 (by omega) (by omega) (by omega) (by omega) (by decide) (by decide) (rnd_ge (by decide) (by omega)) (rnd_le (by decide) (by omega)) W
  generalize rnd ((f * sn + s * cs) * t) 32768000 = X at *
  generalize rnd ((f * cs - s * sn) * t) 32768000 = Y at *
  clear q1 q2
  have b0 := Blk.new w #[.int .i64 0, .int .i64 0] 35
  go_enter Tryd.func29, Tryd.ntmps29
  go_wp2_with (first
    | (go_at_call 53; first | ((with_reducible refine (F1 _).mono ?_); rintro e w1 ⟨rfl, ⟨n1, rfl⟩⟩) | ((with_reducible refine (F2 _).mono ?_); rintro e w1 ⟨rfl, ⟨n2, rfl⟩⟩))
    | (go_at_call 54; (with_reducible refine (S _).mono ?_); rintro e w1 ⟨rfl, ⟨n3, rfl⟩⟩) | (go_at_call 55; (with_reducible refine (C _).mono ?_); rintro e w1 ⟨rfl, ⟨n4, rfl⟩⟩)
    | (go_at_call 50; first
      | ((with_reducible refine (M1 _).mono ?_); rintro e w5 ⟨rfl, g5⟩)
      | ((with_reducible refine (M2 _).mono ?_); rintro e w6 ⟨rfl, g6⟩
         have g0 : Below w.heap.size w w6 := by
           refine YBig.below_both (YBig.below_both ?_ g5) g6
           repeat (first | exact Below.refl _ _ | refine below_drewN ?_ | refine Below.alloc ?_ (by simp) _)
         have k6 : Blk w6 w.heap.size #[.int .i64 0, .int .i64 0] 35 := Blk.keep (Blk.keep (by repeat (first | exact b0 | refine Blk.drewN ?_ _)) g5) g6
         have d0 := k6.cell 0
         have d1 := k6.cell 1
         have f0 := k6.free 0
         have f1 := k6.free 1
         simp at d0 d1)))
  (try simp only [Exit.inBlock, Exit.then])
  refine bodyPost_ret (v := .tuple #[.agg #[.int .i64 X, .int .i64 Y], .int .i64 0]) ?_ rfl ⟨rfl, ?_⟩
  · rw [results_cell_tmp rfl]
    go_simp
  · exact (g0.setCell (p := ⟨w.heap.size, 0, none⟩) (Nat.le_refl _) _).setCell (p := ⟨w.heap.size, 1, none⟩) (Nat.le_refl _) _
set_option maxRecDepth 100000 in
set_option maxHeartbeats 2000000 in
theorem rMove_bad (h f s t : Int) (f0 : -9223372036854775808 ≤ f) (f1 : f ≤ 9223372036854775807) (ht0 : 0 ≤ t) (ok : ¬MoveOk f s t) (w : World) :
    Calls Tryd.prog 29 #[.int .u16 h, .int .i64 f, .int .i64 s, .int .u32 t] w fun e w' => e = .returned (.tuple #[.agg #[.int .i64 0, .int .i64 0], .int .i64 27]) ∧ Below w.heap.size w w' := by
  have F1 : ∀ b, b = decide (f < -10000 ∨ f > 10000) → ∀ W, Calls Tryd.prog 53 #[.int .i64 f, .int .i64 10000] W fun e w' => e = .returned (.bool b) ∧ Drawn0 W w' := fun b hb W => rfar_calls f 10000 (by decide) (by decide) W _ hb
  have F2 : ∀ b, b = decide (s < -10000 ∨ s > 10000) → ∀ W, Calls Tryd.prog 53 #[.int .i64 s, .int .i64 10000] W fun e w' => e = .returned (.bool b) ∧ Drawn0 W w' := fun b hb W => rfar_calls s 10000 (by decide) (by decide) W _ hb
  by_cases h1 : f < -10000 ∨ f > 10000
  · have V1 := F1 true (by simp; omega)
    go_enter Tryd.func29, Tryd.ntmps29
    go_wp2_with (first | (go_at_call 53; (with_reducible refine (V1 _).mono ?_); rintro e w1 ⟨rfl, ⟨n1, rfl⟩⟩))
    (try simp only [Exit.inBlock, Exit.then])
    refine bodyPost_ret (v := .tuple #[.agg #[.int .i64 0, .int .i64 0], .int .i64 27]) ?_ rfl ⟨rfl, ?_⟩
    · rw [results_cell_tmp rfl]
      go_simp
    · repeat (first | exact Below.refl _ _ | refine below_drewN ?_ | refine Below.setCell ?_ (by simp) _ | refine Below.alloc ?_ (by simp) _)
  · have V1 := F1 false (by simp; omega)
    by_cases h2 : s < -10000 ∨ s > 10000
    · have V2 := F2 true (by simp; omega)
      go_enter Tryd.func29, Tryd.ntmps29
      go_wp2_with (first | (go_at_call 53; first | ((with_reducible refine (V1 _).mono ?_); rintro e w1 ⟨rfl, ⟨n1, rfl⟩⟩) | ((with_reducible refine (V2 _).mono ?_); rintro e w1 ⟨rfl, ⟨n2, rfl⟩⟩)))
      (try simp only [Exit.inBlock, Exit.then])
      refine bodyPost_ret (v := .tuple #[.agg #[.int .i64 0, .int .i64 0], .int .i64 27]) ?_ rfl ⟨rfl, ?_⟩
      · rw [results_cell_tmp rfl]
        go_simp
      · repeat (first | exact Below.refl _ _ | refine below_drewN ?_ | refine Below.setCell ?_ (by simp) _ | refine Below.alloc ?_ (by simp) _)
    · have V2 := F2 false (by simp; omega)
      have h3 : t > 60000 := by unfold MoveOk at ok; omega
      go_enter Tryd.func29, Tryd.ntmps29
      go_wp2_with (first | (go_at_call 53; first | ((with_reducible refine (V1 _).mono ?_); rintro e w1 ⟨rfl, ⟨n1, rfl⟩⟩) | ((with_reducible refine (V2 _).mono ?_); rintro e w1 ⟨rfl, ⟨n2, rfl⟩⟩)))
      (try simp only [Exit.inBlock, Exit.then])
      refine bodyPost_ret (v := .tuple #[.agg #[.int .i64 0, .int .i64 0], .int .i64 27]) ?_ rfl ⟨rfl, ?_⟩
      · rw [results_cell_tmp rfl]
        go_simp
      · repeat (first | exact Below.refl _ _ | refine below_drewN ?_ | refine Below.setCell ?_ (by simp) _ | refine Below.alloc ?_ (by simp) _)
end Go.Proofs.YtaiolioggjknfaaDoor.YDead
