/- Lean functions, contracts and lemmas that this claim needs. No condition. -/
import Derived.Test.YtaiolioggjknfaaDoorLYFx
import Derived.Test.YtaiolioggjknfaaDoorLYSays16
import Derived.Laws.ResultCell
import Derived.BigRegion
import Derived.Deep.QuietTactic
import Derived.BigQuiet
namespace Go.Proofs.YtaiolioggjknfaaDoor.YLine
open Go.RowKit Go.Extern.Stop Go.Stop Go.Extern Go.Proofs.YtaiolioggjknfaaDoor.QSn Go.Proofs.YtaiolioggjknfaaDoor.YBits Go.Proofs.YtaiolioggjknfaaDoor.YFx Go.Proofs.YtaiolioggjknfaaDoor.YErr Go.Proofs.YtaiolioggjknfaaDoorW.PrintWords Go.Proofs.YtaiolioggjknfaaDoorW.PrintLast
set_option linter.unusedVariables false
set_option linter.unusedSimpArgs false
theorem drawn_below {B : Nat} {a w w' : World} (h : Below B a w) (hd : Drawn0 w w') : Below B a w' := by
  obtain ⟨n, rfl⟩ := hd
  induction n with
  | zero => exact h
  | succ n ih => rw [← World.drew_drewN]; exact ih.drew
theorem below_drewN {B n : Nat} {a w : World} (h : Below B a w) : Below B a (w.drewN n) := drawn_below h ⟨⟨n, rfl⟩⟩
theorem i64id {x : Int} (h0 : -9223372036854775808 ≤ x) (h1 : x ≤ 9223372036854775807) : IntKind.i64.wrap x = x := by
  simp [IntKind.wrap, IntKind.bits, IntKind.signed]
  split <;> omega
theorem rnd_mono {p q c : Int} (c0 : 0 < c) (h : p ≤ q) : rnd p c ≤ rnd q c := by unfold rnd; exact Int.ediv_le_ediv (by omega) (by omega)
theorem rnd_le {p c m : Int} (c0 : 0 < c) (h : p ≤ m * c) : rnd p c ≤ m := by have := rnd_mono c0 h; rw [rnd_whole m c c0] at this; exact this
theorem rnd_ge {p c m : Int} (c0 : 0 < c) (h : m * c ≤ p) : m ≤ rnd p c := by have := rnd_mono c0 h; rw [rnd_whole m c c0] at this; exact this
theorem keep {W w' : World} {o : Obj} {p : Addr} {v : Value} (hb : Below (W.alloc o).heap.size (W.alloc o) w') (h : W.cell? p = some v) : w'.cell? p = some v :=
  (hb.cell (by have := lt_of_cell h; simp; omega)).trans ((World.cell?_alloc_lt _ _ p (lt_of_cell h)).trans h)
theorem keepA {W : World} {p : Addr} {v : Value} (h : W.cell? p = some v) (o : Obj) : (W.alloc o).cell? p = some v := (World.cell?_alloc_lt _ _ p (lt_of_cell h)).trans h
theorem alloc_trans {B : Nat} {a W w' : World} {o : Obj} (h : Below B a W) (hb : Below (W.alloc o).heap.size (W.alloc o) w') (hB : B ≤ W.heap.size) : Below B a w' := (h.alloc hB o).trans (hb.mono (by simp; omega))
theorem far_calls (x y : Int) (w : World) (b : Bool) (hb : b = decide (x < -4194304 ∨ x > 4194304 ∨ y < -4194304 ∨ y > 4194304)) :
    Calls Tryd.prog 45 #[.agg #[.int .i64 x, .int .i64 y]] w fun e w' => e = .returned (.bool b) ∧ Below w.heap.size w w' := by
  refine dead_Far.calls x y b w ?_
  unfold dead_Far.f
  subst hb
  by_cases h1 : x < -4194304
  · rw [if_pos h1]; congr 1; simp; omega
  · rw [if_neg h1]
    by_cases h2 : x > 4194304
    · rw [if_pos h2]; congr 1; simp; omega
    · rw [if_neg h2]
      by_cases h3 : y < -4194304
      · rw [if_pos h3]; congr 1; simp; omega
      · rw [if_neg h3]; congr 1; exact decide_eq_decide.2 (by omega)
set_option maxRecDepth 100000 in
set_option maxHeartbeats 2000000 in
theorem bad_calls (c : Int) (hc : c ≠ 0) (w : World) : Calls Tryd.prog 46 #[.int .i64 c] w fun e w' => e = .returned (.iface 104 (.pointer (some ⟨w.heap.size, 0, none⟩))) ∧ w' = w.alloc (.cells #[.string op16, .iface 50 (.int .i64 c)] 106) := by
  have hW := Wrap_one op16 50 (.int .i64 c) w
  unfold op16 at hW ⊢
  go_enter Tryd.func46, Tryd.ntmps46
  go_wp2_with (first | (go_at_call 42; refine hW.mono ?_; rintro e w' ⟨rfl, rfl⟩) | go_in)
  go_ret
  exact ⟨rfl, rfl⟩
theorem err_alloc (W : World) (op : ByteArray) (c : Int) (hc : c ≠ 0) : ErrIs op (W.alloc (.cells #[.string op, .iface 50 (.int .i64 c)] 106)) (.iface 104 (.pointer (some ⟨W.heap.size, 0, none⟩))) c :=
  .inr ⟨hc, _, rfl, by simp, by simp⟩
def Near (x : Int) : Prop := -4194304 ≤ x ∧ x ≤ 4194304
/-- A length, rounded down. -/
def len (dx dy : Int) : Int := ((fx_Hypot.f 65 dx dy).map (·.1)).getD 0
theorem len_tells (dx dy : Int) (x0 : -8388608 ≤ dx) (x1 : dx ≤ 8388608) (y0 : -8388608 ≤ dy) (y1 : dy ≤ 8388608) :
    fx_Hypot.f 65 dx dy = some (len dx dy, true) ∧ 0 ≤ len dx dy ∧ len dx dy < 4294967296 ∧ len dx dy * len dx dy ≤ dx * dx + dy * dy ∧ dx * dx + dy * dy < (len dx dy + 1) * (len dx dy + 1) := by
  obtain ⟨r, hr, k⟩ := hypot_tells 0 dx dy (by omega) (by omega) (by omega) (by omega)
  have e : fx_Hypot.f 65 dx dy = some (r, true) := hr
  have : len dx dy = r := by unfold len; rw [e]; rfl
  rw [this]; exact ⟨e, k⟩
theorem md_calls (a b c : Int) (a0 : -9223372036854775808 ≤ a) (a1 : a ≤ 9223372036854775807) (b0 : -9223372036854775808 ≤ b) (b1 : b ≤ 9223372036854775807) (c0 : 0 < c) (c1 : c ≤ 9223372036854775807)
    (h0 : -4611686018427387904 ≤ a * b) (h1 : a * b ≤ 4611686018427387904) (W : World) :
    Calls Tryd.prog 40 #[.int .i64 a, .int .i64 b, .int .i64 c] W fun e w' => e = .returned (.tuple #[.int .i64 (rnd (a * b) c), .bool true]) ∧ Drawn0 W w' := by
  refine fx_MulDiv.calls 16 a b c _ _ W ?_
  have := muldiv_tells 0 a b c a0 a1 b0 b1 c0 c1
  rw [show fit (rnd (a * b) c) = (rnd (a * b) c, true) from fit_in (rnd_ge c0 (by omega)) (rnd_le c0 (by omega))] at this
  exact this
set_option maxRecDepth 100000 in
set_option maxHeartbeats 4000000 in
theorem Of_near (ax ay bx b_y : Int) (h1 : Near ax) (h2 : Near ay) (h3 : Near bx) (h4 : Near b_y) (hn : len (bx - ax) (b_y - ay) < 1000) (w : World) :
    Calls Tryd.prog 21 #[.agg #[.int .i64 ax, .int .i64 ay], .agg #[.int .i64 bx, .int .i64 b_y]] w fun e w' => ∃ v, e = .returned (.tuple #[.agg #[.int .i64 0, .int .i64 0, .int .i64 0], v]) ∧ ErrIs op16 w' v 33 ∧ Below w.heap.size w w' := by
  obtain ⟨p0, p1⟩ := h1
  obtain ⟨p2, p3⟩ := h2
  obtain ⟨p4, p5⟩ := h3
  obtain ⟨p6, p7⟩ := h4
  obtain ⟨hl, l0, l1, _, _⟩ := len_tells (bx - ax) (b_y - ay) (by omega) (by omega) (by omega) (by omega)
  have L := fun W => fx_Hypot.calls 65 (bx - ax) (b_y - ay) _ _ W hl
  have e1 : IntKind.i64.wrap (bx - ax) = bx - ax := i64id (by omega) (by omega)
  have e2 : IntKind.i64.wrap (b_y - ay) = b_y - ay := i64id (by omega) (by omega)
  have B := bad_calls 33 (by decide)
  go_enter Tryd.func21, Tryd.ntmps21
  go_wp2
  go_quiet (fail)
  go_wp2_with (first | (go_at_call 47; (with_reducible refine (L _).mono ?_); rintro e w1 ⟨rfl, ⟨n1, rfl⟩⟩) | (go_at_call 46; (with_reducible refine (B _).mono ?_); rintro e w2 ⟨rfl, rfl⟩))
  (try simp only [Exit.inBlock, Exit.then])
  refine bodyPost_ret (v := .tuple #[.agg #[.int .i64 0, .int .i64 0, .int .i64 0], .iface 104 (.pointer (some ⟨w.heap.size + 1 + 1 + 1 + 1 + 1, 0, none⟩))]) ?_ rfl ⟨_, rfl, .inr ⟨by decide, ⟨w.heap.size + 1 + 1 + 1 + 1 + 1, 0, none⟩, rfl, by rw [World.cell?_alloc_at _ _ _ _ (by simp)]; rfl, by rw [World.cell?_alloc_at _ _ _ _ (by simp)]; rfl⟩, ?_⟩
  · rw [results_cell_tmp rfl]
    go_simp
  · repeat (first | exact Below.refl _ _ | refine below_drewN ?_ | refine Below.setCell ?_ (by simp; try omega) _ | refine Below.alloc ?_ (by simp; try omega) _)
set_option maxRecDepth 100000 in
set_option maxHeartbeats 4000000 in
theorem Of_ok (ax ay bx b_y : Int) (h1 : Near ax) (h2 : Near ay) (h3 : Near bx) (h4 : Near b_y) (hn : ¬ len (bx - ax) (b_y - ay) < 1000) (w : World) :
    Calls Tryd.prog 21 #[.agg #[.int .i64 ax, .int .i64 ay], .agg #[.int .i64 bx, .int .i64 b_y]] w fun e w' => e = .returned (.tuple #[.agg #[.int .i64 (rnd ((bx - ax) * 256) (len (bx - ax) (b_y - ay))), .int .i64 (rnd ((b_y - ay) * 256) (len (bx - ax) (b_y - ay))), .int .i64 (len (bx - ax) (b_y - ay))], .nilIface]) ∧ Below w.heap.size w w' := by
  obtain ⟨p0, p1⟩ := h1
  obtain ⟨p2, p3⟩ := h2
  obtain ⟨p4, p5⟩ := h3
  obtain ⟨p6, p7⟩ := h4
  obtain ⟨hl, l0, l1, _, _⟩ := len_tells (bx - ax) (b_y - ay) (by omega) (by omega) (by omega) (by omega)
  have L := fun W => fx_Hypot.calls 65 (bx - ax) (b_y - ay) _ _ W hl
  have e1 : IntKind.i64.wrap (bx - ax) = bx - ax := i64id (by omega) (by omega)
  have e2 : IntKind.i64.wrap (b_y - ay) = b_y - ay := i64id (by omega) (by omega)
  have M1 := fun W => md_calls (bx - ax) 256 (len (bx - ax) (b_y - ay)) (by omega) (by omega) (by decide) (by decide) (by omega) (by omega) (by omega) (by omega) W
  have M2 := fun W => md_calls (b_y - ay) 256 (len (bx - ax) (b_y - ay)) (by omega) (by omega) (by decide) (by decide) (by omega) (by omega) (by omega) (by omega) W
  go_enter Tryd.func21, Tryd.ntmps21
  go_wp2
  go_quiet (fail)
  go_wp2_with (first | (go_at_call 47; (with_reducible refine (L _).mono ?_); rintro e w1 ⟨rfl, ⟨n1, rfl⟩⟩) | (go_at_call 40; first | ((with_reducible refine (M1 _).mono ?_); rintro e w1 ⟨rfl, ⟨n2, rfl⟩⟩) | ((with_reducible refine (M2 _).mono ?_); rintro e w1 ⟨rfl, ⟨n3, rfl⟩⟩)))
  (try simp only [Exit.inBlock, Exit.then])
  refine bodyPost_ret (v := .tuple #[.agg #[.int .i64 (rnd ((bx - ax) * 256) (len (bx - ax) (b_y - ay))), .int .i64 (rnd ((b_y - ay) * 256) (len (bx - ax) (b_y - ay))), .int .i64 (len (bx - ax) (b_y - ay))], .nilIface]) ?_ rfl ⟨rfl, ?_⟩
  · rw [results_cell_tmp rfl]
    go_simp
  · repeat (first | exact Below.refl _ _ | refine below_drewN ?_ | refine Below.setCell ?_ (by simp; try omega) _ | refine Below.alloc ?_ (by simp; try omega) _)
end Go.Proofs.YtaiolioggjknfaaDoor.YLine
