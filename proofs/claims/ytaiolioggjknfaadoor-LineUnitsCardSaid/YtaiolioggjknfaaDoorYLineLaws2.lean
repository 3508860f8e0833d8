/- The statement LineUnits of layer 16: the walk. Condition: errors.errorType holds its type's handle. -/
import Derived.Test.YtaiolioggjknfaaDoorYLineLaws
namespace Go.Proofs.YtaiolioggjknfaaDoor.YLine
open Go.RowKit Go.Extern.Stop Go.Stop Go.Extern Go.Proofs.YtaiolioggjknfaaDoor.QSn Go.Proofs.YtaiolioggjknfaaDoor.YBits Go.Proofs.YtaiolioggjknfaaDoor.YFx Go.Proofs.YtaiolioggjknfaaDoor.YErr Go.Proofs.YtaiolioggjknfaaDoorW.PrintWords Go.Proofs.YtaiolioggjknfaaDoorW.PrintLast
set_option linter.unusedVariables false
set_option linter.unusedSimpArgs false

theorem fresh21 {W w' : World} {x y : Int} {t : TypeId} (hb : Below (W.alloc (.cells #[.int .i64 x, .int .i64 y] t)).heap.size (W.alloc (.cells #[.int .i64 x, .int .i64 y] t)) w') : w'.cell? ⟨W.heap.size, 0, none⟩ = some (.int .i64 x) :=
  (hb.cell (p := ⟨W.heap.size, 0, none⟩) (by show W.heap.size < _; simp)).trans (by go_simp)
theorem fresh22' {W w' : World} {x y : Int} {t : TypeId} (hb : Below (W.alloc (.cells #[.int .i64 x, .int .i64 y] t)).heap.size (W.alloc (.cells #[.int .i64 x, .int .i64 y] t)) w') : w'.cell? ⟨W.heap.size, 1, none⟩ = some (.int .i64 y) :=
  (hb.cell (p := ⟨W.heap.size, 1, none⟩) (by show W.heap.size < _; simp)).trans (by go_simp)
theorem rnd_opp (p c : Int) (c0 : 0 < c) : 0 ≤ rnd p c + rnd (-p) c ∧ rnd p c + rnd (-p) c ≤ 1 := by
  obtain ⟨a0, a1⟩ := rnd_near p c c0
  obtain ⟨b0, b1⟩ := rnd_near (-p) c c0
  generalize rnd p c = x at *
  generalize rnd (-p) c = y at *
  have e : (x + y) * c = x * c + y * c := Int.add_mul ..
  generalize x + y = z at *
  generalize x * c = xc at *
  generalize y * c = yc at *
  constructor
  · rcases Int.lt_or_le z 0 with h | h
    · exfalso
      have := Int.mul_le_mul_of_nonneg_right (show z ≤ -1 by omega) (show 0 ≤ c by omega)
      omega
    · exact h
  · rcases Int.lt_or_le 1 z with h | h
    · exfalso
      have := Int.mul_le_mul_of_nonneg_right (show 2 ≤ z by omega) (show 0 ≤ c by omega)
      omega
    · exact h
theorem len_neg (dx dy : Int) (x0 : -8388608 ≤ dx) (x1 : dx ≤ 8388608) (y0 : -8388608 ≤ dy) (y1 : dy ≤ 8388608) : len (-dx) (-dy) = len dx dy := by
  obtain ⟨_, a0, _, a1, a2⟩ := len_tells dx dy x0 x1 y0 y1
  obtain ⟨_, b0, _, b1, b2⟩ := len_tells (-dx) (-dy) (by omega) (by omega) (by omega) (by omega)
  rw [Int.neg_mul_neg, Int.neg_mul_neg] at b1 b2
  exact root_one b0 a0 b1 b2 a1 a2
theorem le_root {d R S : Int} (R0 : 0 ≤ R) (h : d * d ≤ S) (hS : S < (R + 1) * (R + 1)) : -R ≤ d ∧ d ≤ R := by
  constructor
  · rcases Int.lt_or_le d (-R) with h' | h'
    · exfalso
      have := Int.mul_le_mul (show R + 1 ≤ -d by omega) (show R + 1 ≤ -d by omega) (by omega) (by omega)
      rw [Int.neg_mul_neg] at this
      omega
    · exact h'
  · rcases Int.lt_or_le R d with h' | h'
    · exfalso
      have := Int.mul_le_mul (show R + 1 ≤ d by omega) (show R + 1 ≤ d by omega) (by omega) (by omega)
      omega
    · exact h'
theorem units (dx dy R : Int) (R0 : 1000 ≤ R) (R1 : R ≤ 4294967296) (h0 : R * R ≤ dx * dx + dy * dy) (h1 : dx * dx + dy * dy < (R + 1) * (R + 1)) :
    64425 ≤ rnd (dx * 256) R * rnd (dx * 256) R + rnd (dy * 256) R * rnd (dy * 256) R ∧ rnd (dx * 256) R * rnd (dx * 256) R + rnd (dy * 256) R * rnd (dy * 256) R ≤ 66564 ∧
      -258 ≤ rnd (dx * 256) R ∧ rnd (dx * 256) R ≤ 258 ∧ -258 ≤ rnd (dy * 256) R ∧ rnd (dy * 256) R ≤ 258 := by
  have hx0 : 0 ≤ dx * dx := by rcases Int.le_total 0 dx with h | h; exact Int.mul_nonneg h h; rw [← Int.neg_mul_neg]; exact Int.mul_nonneg (by omega) (by omega)
  have hy0 : 0 ≤ dy * dy := by rcases Int.le_total 0 dy with h | h; exact Int.mul_nonneg h h; rw [← Int.neg_mul_neg]; exact Int.mul_nonneg (by omega) (by omega)
  obtain ⟨x0, x1⟩ := le_root (d := dx) (S := dx * dx + dy * dy) (by omega) (by omega) h1
  obtain ⟨y0, y1⟩ := le_root (d := dy) (S := dx * dx + dy * dy) (by omega) (by omega) h1
  obtain ⟨p0, p1⟩ := rnd_near (dx * 256) R (by omega)
  obtain ⟨q0, q1⟩ := rnd_near (dy * 256) R (by omega)
  have u0 : -258 ≤ rnd (dx * 256) R := rnd_ge (by omega) (by omega)
  have u1 : rnd (dx * 256) R ≤ 258 := rnd_le (by omega) (by omega)
  have v0 : -258 ≤ rnd (dy * 256) R := rnd_ge (by omega) (by omega)
  have v1 : rnd (dy * 256) R ≤ 258 := rnd_le (by omega) (by omega)
  refine ⟨?_, ?_, u0, u1, v0, v1⟩
  all_goals
    generalize rnd (dx * 256) R = h at *
    generalize rnd (dy * 256) R = k at *
    obtain ⟨e, he⟩ : ∃ e, e = 2 * (h * R) - 512 * dx := ⟨_, rfl⟩
    obtain ⟨f, hf⟩ : ∃ f, f = 2 * (k * R) - 512 * dy := ⟨_, rfl⟩
    have e0 : -R ≤ e ∧ e ≤ R := by omega
    have f0 : -R ≤ f ∧ f ≤ R := by omega
    have id1 : 4 * (R * R) * (h * h) = 262144 * (dx * dx) + 1024 * (dx * e) + e * e := by subst he; grind
    have id2 : 4 * (R * R) * (k * k) = 262144 * (dy * dy) + 1024 * (dy * f) + f * f := by subst hf; grind
    have id3 : 4 * (R * R) * (h * h + k * k) = 4 * (R * R) * (h * h) + 4 * (R * R) * (k * k) := Int.mul_add ..
    have id4 : (R + 1) * (R + 1) = R * R + 2 * R + 1 := by grind
    have pb : ∀ y c : Int, -R ≤ y → y ≤ R → -R ≤ c → c ≤ R → -(R * R) ≤ y * c ∧ y * c ≤ R * R := by
      intro y c y0 y1 c0 c1
      have h1 : y.natAbs ≤ R.natAbs := by omega
      have h2 : c.natAbs ≤ R.natAbs := by omega
      have h3 : (y * c).natAbs ≤ R.natAbs * R.natAbs := by rw [Int.natAbs_mul]; exact Nat.mul_le_mul h1 h2
      have h4 : ((R.natAbs * R.natAbs : Nat) : Int) = R * R := by
        rw [Int.natCast_mul, Int.natAbs_of_nonneg (by omega)]
      omega
    have b1 := pb dx e x0 x1 e0.1 e0.2
    have b2 := pb dy f y0 y1 f0.1 f0.2
    have b3 := pb e e e0.1 e0.2 e0.1 e0.2
    have b4 := pb f f f0.1 f0.2 f0.1 f0.2
    have e2 : 0 ≤ e * e := by rcases Int.le_total 0 e with h | h; exact Int.mul_nonneg h h; rw [← Int.neg_mul_neg]; exact Int.mul_nonneg (by omega) (by omega)
    have f2 : 0 ≤ f * f := by rcases Int.le_total 0 f with h | h; exact Int.mul_nonneg h h; rw [← Int.neg_mul_neg]; exact Int.mul_nonneg (by omega) (by omega)
    have hQ : 1000 * R ≤ R * R := Int.mul_le_mul_of_nonneg_right R0 (by omega)
    generalize hn : h * h + k * k = n at *
    generalize R * R = Q at *
    rcases Int.lt_or_le n 64425 with hl | hl
    · exfalso
      have := Int.mul_le_mul_of_nonneg_left (show n ≤ 64424 by omega) (show 0 ≤ 4 * Q by omega)
      omega
    · rcases Int.lt_or_le 66564 n with hm | hm
      · exfalso
        have := Int.mul_le_mul_of_nonneg_left (show 66565 ≤ n by omega) (show 0 ≤ 4 * Q by omega)
        omega
      · omega

theorem tmod_in (v m : Int) (hm : 0 < m) : -(m - 1) ≤ Int.tmod v m ∧ Int.tmod v m ≤ m - 1 := by
  rcases Int.lt_or_le v 0 with h | h
  · have e : Int.tmod v m = -(Int.tmod (-v) m) := by rw [Int.neg_tmod]; omega
    have := Int.emod_nonneg (-v) (show m ≠ 0 by omega)
    have := Int.emod_lt_of_pos (-v) hm
    rw [e, Int.tmod_eq_emod_of_nonneg (by omega)]; omega
  · have := Int.emod_nonneg v (show m ≠ 0 by omega)
    have := Int.emod_lt_of_pos v hm
    rw [Int.tmod_eq_emod_of_nonneg h]; omega
set_option maxRecDepth 100000 in
set_option maxHeartbeats 4000000 in
theorem Units_calls (x y p q : Int) (w : World) (hg : Laid w) (hx : -2147483648 ≤ x ∧ x ≤ 2147483647) (hy : -2147483648 ≤ y ∧ y ≤ 2147483647) (hp : Int.tmod x 4194305 = p) (hq : Int.tmod y 4194305 = q) :
    Calls Tryd.prog 7 #[.int .i32 x, .int .i32 y] w fun e w' => e = .returned (.bool true) ∧ Below w.heap.size w w' := by
  have K := known_calls w hg
  have pr := tmod_in x 4194305 (by decide)
  have qr := tmod_in y 4194305 (by decide)
  rw [hp] at pr
  rw [hq] at qr
  have M1 := fun W => Of_at 0 0 p q p q (by unfold Near; decide) (by unfold Near; decide) (by unfold Near; omega) (by unfold Near; omega) (by omega) (by omega) W
  have M2 := fun W => Of_at p q 0 0 (-p) (-q) (by unfold Near; omega) (by unfold Near; omega) (by unfold Near; decide) (by unfold Near; decide) (by omega) (by omega) W
  obtain ⟨_, l0, l1, s0, s1⟩ := len_tells p q (by omega) (by omega) (by omega) (by omega)
  have en := len_neg p q (by omega) (by omega) (by omega) (by omega)
  unfold lineX lineY lineR lineC at M1 M2
  rw [en] at M2
  by_cases hn : len p q < 1000
  · simp only [if_pos hn] at M1 M2
    go_enter Tryd.func7, Tryd.ntmps7
    go_wp2_with (first
      | (go_at_call 20; refine K.mono ?_; rintro e w1 ⟨rfl, k1⟩)
      | (go_at_call 21; first
        | ((with_reducible refine (M1 _).mono ?_); rintro e w2 ⟨v2, rfl, h2, g2⟩
           obtain ⟨x2, rfl⟩ := h2.some (by decide)
           have c1 := keepA (fresh21 g2)
           have c2 := keepA (fresh22' g2)
           have b2 := alloc_trans k1 g2 k1.size)
        | ((with_reducible refine (M2 _).mono ?_); rintro e w3 ⟨v3, rfl, h3, g3⟩
           obtain ⟨x3, rfl⟩ := h3.some (by decide)
           have b3 := alloc_trans b2 g3 b2.size
           have S := fun o => says16 33 (w3.alloc o) (hg.below (b3.alloc b3.size o)) (h2.below (alloc_trans (Below.refl w2.heap.size w2) (g3.trans ((Below.refl _ _).alloc (Nat.le_refl _) o |>.mono (by have := g3.size; simp at this ⊢; omega))) (Nat.le_refl _)))))
      | (go_at_call 22; first
        | ((with_reducible refine (S _).mono ?_); rintro e w4 ⟨rfl, g4⟩
           have b4 := alloc_trans b3 g4 b3.size
           have S2 := says16 33 w4 (hg.below b4) (h3.below (alloc_trans (Below.refl w3.heap.size w3) g4 (Nat.le_refl _))))
        | ((with_reducible refine S2.mono ?_); rintro e w5 ⟨rfl, g5⟩))
      | go_in)
    go_ret
    exact ⟨rfl, b4.trans (g5.mono b4.size)⟩
  · simp only [if_neg hn] at M1 M2
    rw [Int.neg_mul, Int.neg_mul] at M2
    obtain ⟨u0, u1, u2, u3, u4, u5⟩ := units p q (len p q) (by omega) (by omega) s0 s1
    obtain ⟨o0, o1⟩ := rnd_opp (p * 256) (len p q) (by omega)
    obtain ⟨o2, o3⟩ := rnd_opp (q * 256) (len p q) (by omega)
    generalize rnd (-(p * 256)) (len p q) = h' at *
    generalize rnd (-(q * 256)) (len p q) = k' at *
    generalize rnd (p * 256) (len p q) = h at *
    generalize rnd (q * 256) (len p q) = k at *
    have s1' := sq_bound (x := h) (B := 258) (by decide) u2 u3
    have s2' := sq_bound (x := k) (B := 258) (by decide) u4 u5
    have e1 : IntKind.i64.wrap (h * h) = h * h := i64id (by omega) (by omega)
    have e2 : IntKind.i64.wrap (k * k) = k * k := i64id (by omega) (by omega)
    have e3 : IntKind.i64.wrap (h * h + k * k) = h * h + k * k := i64id (by omega) (by omega)
    have e4 : IntKind.i64.wrap (h + h') = h + h' := i64id (by omega) (by omega)
    have e5 : IntKind.i64.wrap (k + k') = k + k' := i64id (by omega) (by omega)
    generalize len p q = R at *
    go_enter Tryd.func7, Tryd.ntmps7
    go_wp2_with (first
      | (go_at_call 20; refine K.mono ?_; rintro e w1 ⟨rfl, k1⟩)
      | (go_at_call 21; first
        | ((with_reducible refine (M1 _).mono ?_); rintro e w2 ⟨v2, rfl, h2, g2⟩
           obtain rfl := h2.none
           have c1 := keepA (fresh21 g2)
           have c2 := keepA (fresh22' g2)
           have b2 := alloc_trans k1 g2 k1.size)
        | ((with_reducible refine (M2 _).mono ?_); rintro e w3 ⟨v3, rfl, h3, g3⟩
           obtain rfl := h3.none
           have b3 := alloc_trans b2 g3 b2.size
           obtain ⟨f1, f2, f3⟩ := fresh3 g3
           have d1 := keepA f1
           have d2 := keepA f2
           have d3 := keepA f3))
      | go_in)
    go_quiet (fail)
    go_wp2
    go_ret
    have ez : decide (k + k' ≤ 1) = true := decide_eq_true (by omega)
    first | exact ⟨rfl, below_drewN (b3.alloc b3.size _)⟩ | exact ⟨congrArg (fun b => Ending.returned (.bool b)) ez, below_drewN (b3.alloc b3.size _)⟩
theorem LineUnits_calls (x y : Int) (w : World) (hg : Laid w) (w0 : (Lit.int .i32 x).wf = true) (w1 : (Lit.int .i32 y).wf = true) :
    Calls Tryd.prog 7 #[.int .i32 x, .int .i32 y] w fun e w' => e = .returned (.bool true) ∧ Below w.heap.size w w' := by
  have hx : -2147483648 ≤ x ∧ x ≤ 2147483647 := by simp [Lit.wf, IntKind.min, IntKind.max, IntKind.bits, IntKind.signed] at w0; omega
  have hy : -2147483648 ≤ y ∧ y ≤ 2147483647 := by simp [Lit.wf, IntKind.min, IntKind.max, IntKind.bits, IntKind.signed] at w1; omega
  exact Units_calls x y _ _ w hg hx hy rfl rfl
end Go.Proofs.YtaiolioggjknfaaDoor.YLine
