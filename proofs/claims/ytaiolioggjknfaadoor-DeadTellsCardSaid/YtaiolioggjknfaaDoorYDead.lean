/- Package dead: what its functions tell, a place and an error. No condition but the numbers' kinds. -/
import Derived.Test.YtaiolioggjknfaaDoorYFx
import Derived.Test.YtaiolioggjknfaaDoorYAng
import Derived.Test.YtaiolioggjknfaaDoorYSays15
import Derived.Laws.ResultCell
namespace Go.Proofs.YtaiolioggjknfaaDoor.YDead
open Go.RowKit Go.Extern.Stop Go.Stop Go.Extern Go.Proofs.YtaiolioggjknfaaDoor.QSn Go.Proofs.YtaiolioggjknfaaDoor.YBits Go.Proofs.YtaiolioggjknfaaDoor.YFx Go.Proofs.YtaiolioggjknfaaDoor.YAng Go.Proofs.YtaiolioggjknfaaDoor.YErr Go.Proofs.YtaiolioggjknfaaDoorW.PrintWords Go.Proofs.YtaiolioggjknfaaDoorW.PrintLast
set_option linter.unusedVariables false
set_option linter.unusedSimpArgs false

theorem drawn_below {B : Nat} {a w w' : World} (h : Below B a w) (hd : Drawn0 w w') : Below B a w' := by
  obtain ⟨n, rfl⟩ := hd
  induction n with
  | zero => exact h
  | succ n ih => rw [← World.drew_drewN]; exact ih.drew
theorem below_drewN {B n : Nat} {a w : World} (h : Below B a w) : Below B a (w.drewN n) := drawn_below h ⟨⟨n, rfl⟩⟩
theorem i64id {x : Int} (h0 : -9223372036854775808 ≤ x) (h1 : x ≤ 9223372036854775807) : IntKind.i64.wrap x = x := by
  simp [IntKind.wrap, IntKind.bits, IntKind.signed]
  split <;> omega
theorem rnd_mono {p q c : Int} (c0 : 0 < c) (h : p ≤ q) : rnd p c ≤ rnd q c := by unfold rnd; exact Int.ediv_le_ediv (by omega) (by omega)
theorem rnd_le {p c m : Int} (c0 : 0 < c) (h : p ≤ m * c) : rnd p c ≤ m := by have := rnd_mono c0 h; rw [rnd_whole m c c0] at this; exact this
theorem rnd_ge {p c m : Int} (c0 : 0 < c) (h : m * c ≤ p) : m ≤ rnd p c := by have := rnd_mono c0 h; rw [rnd_whole m c c0] at this; exact this
theorem rnd_opp (p c : Int) (c0 : 0 < c) : 0 ≤ rnd p c + rnd (-p) c ∧ rnd p c + rnd (-p) c ≤ 1 := by
  obtain ⟨a0, a1⟩ := rnd_near p c c0
  obtain ⟨b0, b1⟩ := rnd_near (-p) c c0
  generalize rnd p c = x at *
  generalize rnd (-p) c = y at *
  have e : (x + y) * c = x * c + y * c := Int.add_mul ..
  generalize x + y = z at *
  generalize x * c = xc at *
  generalize y * c = yc at *
  constructor
  · rcases Int.lt_or_le z 0 with h | h
    · exfalso
      have := Int.mul_le_mul_of_nonneg_right (show z ≤ -1 by omega) (show 0 ≤ c by omega)
      omega
    · exact h
  · rcases Int.lt_or_le 1 z with h | h
    · exfalso
      have := Int.mul_le_mul_of_nonneg_right (show 2 ≤ z by omega) (show 0 ≤ c by omega)
      omega
    · exact h

theorem fast_calls (v : Int) (w : World) (b : Bool) (hb : b = decide (v < -10000 ∨ v > 10000)) :
    Calls Tryd.prog 41 #[.int .i64 v] w fun e w' => e = .returned (.bool b) ∧ Drawn0 w w' := by
  refine dead_fast.calls v b w ?_
  unfold dead_fast.f
  subst hb
  by_cases h : v < -10000
  · rw [if_pos h]; congr 1; simp; omega
  · rw [if_neg h]; congr 1; simp; omega
theorem sin_calls (h : Int) (h0 : 0 ≤ h) (h1 : h < 65536) (w : World) : Calls Tryd.prog 43 #[.int .u16 h] w fun e w' => e = .returned (.int .i64 (sinN h)) ∧ Drawn0 w w' :=
  angle_Sin.calls h _ w (sin_tells h h0 h1).1
theorem cos_calls (h : Int) (w : World) : Calls Tryd.prog 44 #[.int .u16 h] w fun e w' => e = .returned (.int .i64 (cosN h)) ∧ Drawn0 w w' :=
  angle_Cos.calls h _ w (cos_tells h).1
theorem prod_bound {y c : Int} (B C : Int) (hB : 0 ≤ B) (hC : 0 ≤ C) (y0 : -B ≤ y) (y1 : y ≤ B) (c0 : -C ≤ c) (c1 : c ≤ C) : -(B * C) ≤ y * c ∧ y * c ≤ B * C := by
  have h1 : y.natAbs ≤ B.natAbs := by omega
  have h2 : c.natAbs ≤ C.natAbs := by omega
  have h3 : (y * c).natAbs ≤ B.natAbs * C.natAbs := by rw [Int.natAbs_mul]; exact Nat.mul_le_mul h1 h2
  have h4 : ((B.natAbs * C.natAbs : Nat) : Int) = B * C := by
    rw [Int.natCast_mul, Int.natAbs_of_nonneg hB, Int.natAbs_of_nonneg hC]
  omega
theorem md_calls (a b c : Int) (a0 : -9223372036854775808 ≤ a) (a1 : a ≤ 9223372036854775807) (b0 : -9223372036854775808 ≤ b) (b1 : b ≤ 9223372036854775807) (c0 : 0 < c) (c1 : c ≤ 9223372036854775807)
    (h0 : -4611686018427387904 ≤ a * b) (h1 : a * b ≤ 4611686018427387904) (W : World) :
    Calls Tryd.prog 40 #[.int .i64 a, .int .i64 b, .int .i64 c] W fun e w' => e = .returned (.tuple #[.int .i64 (rnd (a * b) c), .bool true]) ∧ Drawn0 W w' := by
  refine fx_MulDiv.calls 16 a b c _ _ W ?_
  have := muldiv_tells 0 a b c a0 a1 b0 b1 c0 c1
  rw [show fit (rnd (a * b) c) = (rnd (a * b) c, true) from fit_in (rnd_ge c0 (by omega)) (rnd_le c0 (by omega))] at this
  exact this

def MoveOk (f s t : Int) : Prop := -10000 ≤ f ∧ f ≤ 10000 ∧ -10000 ≤ s ∧ s ≤ 10000 ∧ t ≤ 60000
instance (f s t : Int) : Decidable (MoveOk f s t) := by unfold MoveOk; infer_instance
def moveX (h f s t : Int) : Int := rnd ((f * sinN h + s * cosN h) * t) 32768000
def moveY (h f s t : Int) : Int := rnd ((f * cosN h - s * sinN h) * t) 32768000
set_option maxRecDepth 100000 in
set_option maxHeartbeats 2000000 in
theorem Move_ok (h f s t : Int) (hh0 : 0 ≤ h) (hh1 : h < 65536) (ht0 : 0 ≤ t) (ok : MoveOk f s t) (w : World) :
    Calls Tryd.prog 19 #[.int .u16 h, .int .i64 f, .int .i64 s, .int .u32 t] w fun e w' => e = .returned (.tuple #[.agg #[.int .i64 (moveX h f s t), .int .i64 (moveY h f s t)], .nilIface]) ∧ Below w.heap.size w w' := by
  obtain ⟨f0, f1, s0, s1, t1⟩ := ok
  have F1 : ∀ W, Calls Tryd.prog 41 #[.int .i64 f] W fun e w' => e = .returned (.bool false) ∧ Drawn0 W w' := fun W => fast_calls f W _ (by simp; omega)
  have F2 : ∀ W, Calls Tryd.prog 41 #[.int .i64 s] W fun e w' => e = .returned (.bool false) ∧ Drawn0 W w' := fun W => fast_calls s W _ (by simp; omega)
  have S := sin_calls h hh0 hh1
  have C := cos_calls h
  obtain ⟨_, n0, n1⟩ := sin_tells h hh0 hh1
  obtain ⟨_, c0, c1⟩ := cos_tells h
  unfold moveX moveY
  generalize sinN h = sn at *
  generalize cosN h = cs at *
  have p1 := prod_bound 10000 51472 (by decide) (by decide) f0 f1 n0 n1
  have p2 := prod_bound 10000 51472 (by decide) (by decide) s0 s1 c0 c1
  have p3 := prod_bound 10000 51472 (by decide) (by decide) f0 f1 c0 c1
  have p4 := prod_bound 10000 51472 (by decide) (by decide) s0 s1 n0 n1
  have e1 : IntKind.i64.wrap (f * sn) = f * sn := i64id (by omega) (by omega)
  have e2 : IntKind.i64.wrap (s * cs) = s * cs := i64id (by omega) (by omega)
  have e3 : IntKind.i64.wrap (f * sn + s * cs) = f * sn + s * cs := i64id (by omega) (by omega)
  have e4 : IntKind.i64.wrap (f * cs) = f * cs := i64id (by omega) (by omega)
  have e5 : IntKind.i64.wrap (s * sn) = s * sn := i64id (by omega) (by omega)
  have e6 : IntKind.i64.wrap (f * cs - s * sn) = f * cs - s * sn := i64id (by omega) (by omega)
  have q1 := prod_bound (y := f * sn + s * cs) (c := t) 2000000000 60000 (by decide) (by decide) (by omega) (by omega) (by omega) (by omega)
  have q2 := prod_bound (y := f * cs - s * sn) (c := t) 2000000000 60000 (by decide) (by decide) (by omega) (by omega) (by omega) (by omega)
  have M1 := fun W => md_calls (f * sn + s * cs) t 32768000 (by omega) (by omega) (by omega) (by omega) (by decide) (by decide) (by omega) (by omega) W
  have M2 := fun W => md_calls (f * cs - s * sn) t 32768000 (by omega) (by omega) (by omega) (by omega) (by decide) (by decide) (by omega) (by omega) W
  generalize rnd ((f * sn + s * cs) * t) 32768000 = X at *
  generalize rnd ((f * cs - s * sn) * t) 32768000 = Y at *
  go_enter Tryd.func19, Tryd.ntmps19
  go_wp2_with (first | (go_at_call 41; first | ((with_reducible refine (F1 _).mono ?_); rintro e w1 ⟨rfl, ⟨n1, rfl⟩⟩) | ((with_reducible refine (F2 _).mono ?_); rintro e w1 ⟨rfl, ⟨n2, rfl⟩⟩)) | (go_at_call 43; (with_reducible refine (S _).mono ?_); rintro e w1 ⟨rfl, ⟨n3, rfl⟩⟩) | (go_at_call 44; (with_reducible refine (C _).mono ?_); rintro e w1 ⟨rfl, ⟨n4, rfl⟩⟩) | (go_at_call 40; first | ((with_reducible refine (M1 _).mono ?_); rintro e w1 ⟨rfl, ⟨n5, rfl⟩⟩) | ((with_reducible refine (M2 _).mono ?_); rintro e w1 ⟨rfl, ⟨n6, rfl⟩⟩)) | go_in)
  (try simp only [Exit.inBlock, Exit.then])
  refine bodyPost_ret (v := .tuple #[.agg #[.int .i64 X, .int .i64 Y], .nilIface]) ?_ rfl ⟨rfl, ?_⟩
  · rw [results_cell_tmp rfl]
    go_simp
  · repeat (first | exact Below.refl _ _ | refine below_drewN ?_ | refine Below.setCell ?_ (by simp) _ | refine Below.alloc ?_ (by simp) _)

set_option maxRecDepth 100000 in
set_option maxHeartbeats 2000000 in
theorem Move_bad (h f s t : Int) (ht0 : 0 ≤ t) (ok : ¬MoveOk f s t) (w : World) :
    Calls Tryd.prog 19 #[.int .u16 h, .int .i64 f, .int .i64 s, .int .u32 t] w fun e w' => ∃ v, e = .returned (.tuple #[.agg #[.int .i64 0, .int .i64 0], v]) ∧ ErrIs op15 w' v 27 ∧ Below w.heap.size w w' := by
  have B := fun W => Wrap_one op15 50 (.int .i64 27) W
  unfold op15 at B
  by_cases h1 : f < -10000 ∨ f > 10000
  · have F1 : ∀ W, Calls Tryd.prog 41 #[.int .i64 f] W fun e w' => e = .returned (.bool true) ∧ Drawn0 W w' := fun W => fast_calls f W _ (by simp; omega)
    go_enter Tryd.func19, Tryd.ntmps19
    go_wp2_with (first | (go_at_call 41; first | ((with_reducible refine (F1 _).mono ?_); rintro e w1 ⟨rfl, ⟨n1, rfl⟩⟩)) | (go_at_call 42; refine (B _).mono ?_; rintro e w3 ⟨rfl, rfl⟩) | go_in)
    (try simp only [Exit.inBlock, Exit.then])
    refine bodyPost_ret (v := .tuple #[.agg #[.int .i64 0, .int .i64 0], .iface 104 (.pointer (some ⟨w.heap.size + 1, 0, none⟩))]) ?_ rfl ⟨_, rfl, .inr ⟨by decide, ⟨w.heap.size + 1, 0, none⟩, rfl, by rw [World.cell?_alloc_at _ _ _ _ (by simp)]; rfl, by rw [World.cell?_alloc_at _ _ _ _ (by simp)]; rfl⟩, ?_⟩
    · rw [results_cell_tmp rfl]
      go_simp
    · repeat (first | exact Below.refl _ _ | refine below_drewN ?_ | refine Below.setCell ?_ (by simp) _ | refine Below.alloc ?_ (by simp) _)
  · have F1 : ∀ W, Calls Tryd.prog 41 #[.int .i64 f] W fun e w' => e = .returned (.bool false) ∧ Drawn0 W w' := fun W => fast_calls f W _ (by simp; omega)
    by_cases h2 : s < -10000 ∨ s > 10000
    · have F2 : ∀ W, Calls Tryd.prog 41 #[.int .i64 s] W fun e w' => e = .returned (.bool true) ∧ Drawn0 W w' := fun W => fast_calls s W _ (by simp; omega)
      go_enter Tryd.func19, Tryd.ntmps19
      go_wp2_with (first | (go_at_call 41; first | ((with_reducible refine (F1 _).mono ?_); rintro e w1 ⟨rfl, ⟨n1, rfl⟩⟩) | ((with_reducible refine (F2 _).mono ?_); rintro e w1 ⟨rfl, ⟨n2, rfl⟩⟩)) | (go_at_call 42; refine (B _).mono ?_; rintro e w3 ⟨rfl, rfl⟩) | go_in)
      (try simp only [Exit.inBlock, Exit.then])
      refine bodyPost_ret (v := .tuple #[.agg #[.int .i64 0, .int .i64 0], .iface 104 (.pointer (some ⟨w.heap.size + 1, 0, none⟩))]) ?_ rfl ⟨_, rfl, .inr ⟨by decide, ⟨w.heap.size + 1, 0, none⟩, rfl, by rw [World.cell?_alloc_at _ _ _ _ (by simp)]; rfl, by rw [World.cell?_alloc_at _ _ _ _ (by simp)]; rfl⟩, ?_⟩
      · rw [results_cell_tmp rfl]
        go_simp
      · repeat (first | exact Below.refl _ _ | refine below_drewN ?_ | refine Below.setCell ?_ (by simp) _ | refine Below.alloc ?_ (by simp) _)
    · have F2 : ∀ W, Calls Tryd.prog 41 #[.int .i64 s] W fun e w' => e = .returned (.bool false) ∧ Drawn0 W w' := fun W => fast_calls s W _ (by simp; omega)
      have h3 : t > 60000 := by unfold MoveOk at ok; omega
      go_enter Tryd.func19, Tryd.ntmps19
      go_wp2_with (first | (go_at_call 41; first | ((with_reducible refine (F1 _).mono ?_); rintro e w1 ⟨rfl, ⟨n1, rfl⟩⟩) | ((with_reducible refine (F2 _).mono ?_); rintro e w1 ⟨rfl, ⟨n2, rfl⟩⟩)) | (go_at_call 42; refine (B _).mono ?_; rintro e w3 ⟨rfl, rfl⟩) | go_in)
      (try simp only [Exit.inBlock, Exit.then])
      refine bodyPost_ret (v := .tuple #[.agg #[.int .i64 0, .int .i64 0], .iface 104 (.pointer (some ⟨w.heap.size + 1, 0, none⟩))]) ?_ rfl ⟨_, rfl, .inr ⟨by decide, ⟨w.heap.size + 1, 0, none⟩, rfl, by rw [World.cell?_alloc_at _ _ _ _ (by simp)]; rfl, by rw [World.cell?_alloc_at _ _ _ _ (by simp)]; rfl⟩, ?_⟩
      · rw [results_cell_tmp rfl]
        go_simp
      · repeat (first | exact Below.refl _ _ | refine below_drewN ?_ | refine Below.setCell ?_ (by simp) _ | refine Below.alloc ?_ (by simp) _)

def SumOk (ax ay bx b_y : Int) : Prop := -4194304 ≤ ax ∧ ax ≤ 4194304 ∧ -4194304 ≤ ay ∧ ay ≤ 4194304 ∧ -4194304 ≤ bx ∧ bx ≤ 4194304 ∧ -4194304 ≤ b_y ∧ b_y ≤ 4194304 ∧ -4194304 ≤ ax + bx ∧ ax + bx ≤ 4194304 ∧ -4194304 ≤ ay + b_y ∧ ay + b_y ≤ 4194304
theorem far_calls (x y : Int) (w : World) (b : Bool) (hb : b = decide (x < -4194304 ∨ x > 4194304 ∨ y < -4194304 ∨ y > 4194304)) :
    Calls Tryd.prog 45 #[.agg #[.int .i64 x, .int .i64 y]] w fun e w' => e = .returned (.bool b) ∧ Below w.heap.size w w' := by
  refine dead_Far.calls x y b w ?_
  unfold dead_Far.f
  subst hb
  by_cases h1 : x < -4194304
  · rw [if_pos h1]; congr 1; simp; omega
  · rw [if_neg h1]
    by_cases h2 : x > 4194304
    · rw [if_pos h2]; congr 1; simp; omega
    · rw [if_neg h2]
      by_cases h3 : y < -4194304
      · rw [if_pos h3]; congr 1; simp; omega
      · rw [if_neg h3]; congr 1; exact decide_eq_decide.2 (by omega)
set_option maxRecDepth 100000 in
set_option maxHeartbeats 2000000 in
theorem Sum_ok (ax ay bx b_y : Int) (ok : SumOk ax ay bx b_y) (w : World) :
    Calls Tryd.prog 30 #[.agg #[.int .i64 ax, .int .i64 ay], .agg #[.int .i64 bx, .int .i64 b_y]] w fun e w' => e = .returned (.tuple #[.agg #[.int .i64 (ax + bx), .int .i64 (ay + b_y)], .nilIface]) ∧ Below w.heap.size w w' := by
  obtain ⟨a0, a1, a2, a3, b0, b1, b2, b3, s0, s1, s2, s3⟩ := ok
  have F1 : ∀ W, Calls Tryd.prog 45 #[.agg #[.int .i64 ax, .int .i64 ay]] W fun e w' => e = .returned (.bool false) ∧ Below W.heap.size W w' := fun W => far_calls ax ay W _ (by simp; omega)
  have F2 : ∀ W, Calls Tryd.prog 45 #[.agg #[.int .i64 bx, .int .i64 b_y]] W fun e w' => e = .returned (.bool false) ∧ Below W.heap.size W w' := fun W => far_calls bx b_y W _ (by simp; omega)
  have F3 : ∀ W, Calls Tryd.prog 45 #[.agg #[.int .i64 (ax + bx), .int .i64 (ay + b_y)]] W fun e w' => e = .returned (.bool false) ∧ Below W.heap.size W w' := fun W => far_calls _ _ W _ (by simp; omega)
  obtain ⟨W, hW⟩ : ∃ W, W = ((w.alloc (.cells #[.int .i64 ax, .int .i64 ay] 35)).alloc (.cells #[.int .i64 bx, .int .i64 b_y] 35)).alloc (.cells #[.int .i64 0, .int .i64 0] 35) := ⟨_, rfl⟩
  have hsz : W.heap.size = w.heap.size + 1 + 1 + 1 := by rw [hW]; go_simp
  have k : ∀ w1, Below W.heap.size W w1 → w1.cell? ⟨w.heap.size, 0, none⟩ = some (.int .i64 ax) ∧ w1.cell? ⟨w.heap.size, 1, none⟩ = some (.int .i64 ay) ∧ w1.cell? ⟨w.heap.size + 1, 0, none⟩ = some (.int .i64 bx) ∧ w1.cell? ⟨w.heap.size + 1, 1, none⟩ = some (.int .i64 b_y) ∧
      w1.cell? ⟨w.heap.size + 1 + 1, 0, none⟩ = some (.int .i64 0) ∧ w1.cell? ⟨w.heap.size + 1 + 1, 1, none⟩ = some (.int .i64 0) ∧ w1.frozen? ⟨w.heap.size + 1 + 1, 0, none⟩ = false ∧ w1.frozen? ⟨w.heap.size + 1 + 1, 1, none⟩ = false := by
    intro w1 hb
    refine ⟨?_, ?_, ?_, ?_, ?_, ?_, ?_, ?_⟩
    · rw [hb.cell (p := ⟨w.heap.size, 0, none⟩) (by rw [hsz]; show w.heap.size < _; omega), hW]; go_simp
    · rw [hb.cell (p := ⟨w.heap.size, 1, none⟩) (by rw [hsz]; show w.heap.size < _; omega), hW]; go_simp
    · rw [hb.cell (p := ⟨w.heap.size + 1, 0, none⟩) (by rw [hsz]; show w.heap.size + 1 < _; omega), hW]; go_simp
    · rw [hb.cell (p := ⟨w.heap.size + 1, 1, none⟩) (by rw [hsz]; show w.heap.size + 1 < _; omega), hW]; go_simp
    · rw [hb.cell (p := ⟨w.heap.size + 1 + 1, 0, none⟩) (by rw [hsz]; show w.heap.size + 1 + 1 < _; omega), hW]; go_simp
    · rw [hb.cell (p := ⟨w.heap.size + 1 + 1, 1, none⟩) (by rw [hsz]; show w.heap.size + 1 + 1 < _; omega), hW]; go_simp
    · rw [hb.frozen (p := ⟨w.heap.size + 1 + 1, 0, none⟩) (by rw [hsz]; show w.heap.size + 1 + 1 < _; omega), hW]; go_simp
    · rw [hb.frozen (p := ⟨w.heap.size + 1 + 1, 1, none⟩) (by rw [hsz]; show w.heap.size + 1 + 1 < _; omega), hW]; go_simp
  subst hW
  go_enter Tryd.func30, Tryd.ntmps30
  go_wp2_with (first | (go_at_call 45; first | ((with_reducible refine (F1 _).mono ?_); rintro e w1 ⟨rfl, g1⟩; obtain ⟨c11, c12, c13, c14, c15, c16, c17, c18⟩ := k w1 g1) | ((with_reducible refine (F2 _).mono ?_); rintro e w2 ⟨rfl, g2⟩; have g12 := g1.trans (g2.mono g1.size); obtain ⟨c21, c22, c23, c24, c25, c26, c27, c28⟩ := k w2 g12) | ((with_reducible refine (F3 _).mono ?_); rintro e w3 ⟨rfl, g3⟩; have g13 := g12.trans (g3.mono g12.size); obtain ⟨c31, c32, c33, c34, c35, c36, c37, c38⟩ := k w3 g13)) | go_in)
  (try simp only [Exit.inBlock, Exit.then])
  refine bodyPost_ret (v := .tuple #[.agg #[.int .i64 (ax + bx), .int .i64 (ay + b_y)], .nilIface]) ?_ rfl ⟨rfl, ?_⟩
  · rw [results_cell_tmp rfl]
    go_simp
  · have h0 : Below w.heap.size w w3 := (Below.alloc (Below.alloc (Below.alloc (Below.refl _ _) (Nat.le_refl _) _) (by simp) _) (by simp; omega) _ : Below w.heap.size w _).trans (g13.mono (by simp; omega))
    repeat (first | exact h0 | refine Below.setCell ?_ (by simp; try omega) _)
end Go.Proofs.YtaiolioggjknfaaDoor.YDead
