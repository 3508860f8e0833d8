/- Package table: All, with ranges. No condition. -/
import Derived.Test.YtekcemncmgingaaDoorYTSame
import Derived.Deep.AppendLies
namespace Go.Proofs.YtekcemncmgingaaDoor.YErr
open Go.RowKit Go.Extern.Stop Go.Stop Go.Extern
set_option linter.unusedVariables false
set_option linter.unusedSimpArgs false
/-- Ranges in a row of their own between two blocks. -/
def Mid (w : World) (lo hi : Nat) (A : Option Addr) (n c : Nat) (L : List Int) : Prop := Own w lo A n c L ∧ ∀ g, A = some ⟨g, 0, none⟩ → g < hi
theorem Own.mid {w : World} {B n c : Nat} {A : Option Addr} {L : List Int} (S : Own w B A n c L) : Mid w B w.heap.size A n c L := by
  refine ⟨S, fun g hg => ?_⟩
  obtain ⟨h1, ⟨h2, h3⟩ | ⟨b, cap, cur, hv, hb, hw, hn, hm, hs, ht⟩⟩ := S
  · injection h2 with e1
    rw [e1] at hg
    cases hg
  · injection hv with e1
    have hbg : b = g := by rw [e1] at hg; cases hg; rfl
    subst hbg
    rcases Nat.lt_or_ge b w.heap.size with h' | h'
    · exact h'
    · rw [Array.getElem?_eq_none h'] at hw; cases hw
theorem Mid.grown {w w' : World} {lo hi n c : Nat} {A : Option Addr} {L : List Int} {row : Option Nat} (S : Mid w lo hi A n c L) (gr : w.grownBy w' row) (h : ∀ g, row = some g → g < lo ∨ hi ≤ g) : Mid w' lo hi A n c L := by
  obtain ⟨⟨h1, h2 | ⟨b, cap, cur, hv, hb, hw, r⟩⟩, hh⟩ := S
  · exact ⟨⟨h1, .inl h2⟩, hh⟩
  · have hA : A = some ⟨b, 0, none⟩ := by injection hv
    have hbh := hh b hA
    have hbs : b < w.heap.size := by
      rcases Nat.lt_or_ge b w.heap.size with h' | h'
      · exact h'
      · rw [Array.getElem?_eq_none h'] at hw; cases hw
    refine ⟨⟨h1, .inr ⟨b, cap, cur, hv, hb, (gr.block b hbs (fun e => ?_)).trans hw, r⟩⟩, hh⟩
    have := h b e.symm
    omega
theorem Mid.keep {w w' : World} {lo hi n c : Nat} {A : Option Addr} {L : List Int} (S : Mid w lo hi A n c L) (g : Below w.heap.size w w') : Mid w' lo hi A n c L := ⟨S.1.keep g, S.2⟩
theorem Mid.rng {w : World} {lo hi n c : Nat} {A : Option Addr} {L : List Int} (S : Mid w lo hi A n c L) : Rng w A n c L := S.1.rng
/-- What a slot tells. -/
def ms (a : Sl) (L : List Int) : Ms := ⟨a.th, a.id, a.pl, a.sc, a.sn, L⟩

set_option maxRecDepth 100000 in
set_option maxHeartbeats 8000000 in
/-- All slots' beacons. -/
theorem All_own {a b c : Sl} {p Ba Bb Bc : Nat} {La Lb Lc : List Int} {w : World} (T : Tb w p a b c) (Sa : Own w Ba a.sa a.sn a.cp La) (Sb : Own w Bb b.sa b.sn b.cp Lb) (Sc : Own w Bc c.sa c.sn c.cp Lc) (na : a.sn ≤ 100) (nb : b.sn ≤ 100) (nc : c.sn ≤ 100) : Calls Tryd.prog 29 #[.pointer (some ⟨p, 0, none⟩)] w fun r w' => ∃ g cap, r = .returned (.slice (some ⟨g, 0, none⟩) 3 cap) ∧ 3 ≤ cap ∧ BcsAt w' g 0 [ms a La, ms b Lb, ms c Lc] ∧ Below w.heap.size w w' := by
  obtain ⟨i0, hi, hz0, hz1, hz2⟩ := info_parts infoB
  have P0 := at0 a b c
  have P1 := at1 a b c
  have P2 := at2 a b c
  have b0x := Below.refl w.heap.size w
  go_enter Tryd.func29, Tryd.ntmps29
  go_wp2_with (first | (refine ldT T _ rfl rfl rfl ?_))
  refine wp_loop_rounds 4 ?_
  rw [rounds_succ]
  obtain ⟨t0, k0, c0_, up⟩ := newS b0x a _ rfl
  have o0 := own_up (World.ownsRow_nil w w.heap.size 34 4) up
  clear up
  have q0 := (k0.cell 1).trans (show (scs a)[1]? = some (.int .u8 a.id) from rfl)
  have q1 := (k0.cell 2).trans (show (scs a)[2]? = some (.bool a.pl) from rfl)
  have q2 := (k0.cell 3).trans (show (scs a)[3]? = some (.int .i64 a.sc) from rfl)
  have q4 := (k0.cell 4).trans (show (scs a)[4]? = some (.slice a.sa a.sn a.cp) from rfl)
  have bx : Below w.heap.size w ((w.alloc (.cells #[.bool false, .int .u8 0, .bool false, .int .i64 0, .slice Option.none 0 0] 79)).setRow w.heap.size (scs a)) := by
    obtain ⟨_, _, bx, _⟩ := newS (Below.refl w.heap.size w) a _ rfl
    exact bx
  have zx0 := bx.size
  clear bx
  go_wp2_with (first | (refine stS (s := a) t0 rfl _ _ rfl rfl rfl rfl ?_))
  clear q0 q1 q2 q4 t0 k0
  generalize ((w.alloc (.cells #[.bool false, .int .u8 0, .bool false, .int .i64 0, .slice Option.none 0 0] 79)).setRow w.heap.size (scs a)) = X0 at *
  refine (clone_own (Sa.keep c0_) na a.id a.pl a.sc).mono ?_; rintro r Y0 ⟨A0, c0, rfl, S0, g0⟩
  have R0 := S0.mid
  have zy0 := g0.size
  have e0 := bbT c0_ g0
  have o0 := own_up o0 (fun g cs T k => Blk.keep k g0)
  have al : Below Y0.heap.size Y0 (Y0.alloc (.cells #[.int .u8 a.id, .bool a.pl, .int .i64 a.sc, .slice A0 a.sn c0] 34)) := (Below.refl _ _).alloc (Nat.le_refl _) _
  have R0 := R0.keep al
  clear al
  have e0 := e0.alloc e0.size (.cells #[.int .u8 a.id, .bool a.pl, .int .i64 a.sc, .slice A0 a.sn c0] 34)
  have o0 := World.ownsRow.alloc o0 (.cells #[.int .u8 a.id, .bool a.pl, .int .i64 a.sc, .slice A0 a.sn c0] 34)
  have n0 := Blk.new Y0 #[.int .u8 a.id, .bool a.pl, .int .i64 a.sc, .slice A0 a.sn c0] 34
  have z0 := e0.size
  have zz0 : (Y0.alloc (.cells #[.int .u8 a.id, .bool a.pl, .int .i64 a.sc, .slice A0 a.sn c0] 34)).heap.size = Y0.heap.size + 1 := by simp
  generalize hY0 : Y0.alloc (.cells #[.int .u8 a.id, .bool a.pl, .int .i64 a.sc, .slice A0 a.sn c0] 34) = Z0 at *
  go_wp2_with (first
    | (at_builtin; refine wpList_append_lies _ rfl (.tmp 13) (.tmp 17) 70 rfl w.heap.size 34 i0 (.agg #[.int .u8 0, .bool false, .int .i64 0, .slice none 0 0]) 4 40 Tryd.underlying70 hi hz0 hz1 hz2 rfl (by decide) (.slice none 0 0) 0 [] rfl o0 ⟨Y0.heap.size, 0, none⟩ 1 1 [.int .u8 a.id, .bool a.pl, .int .i64 a.sc, .slice A0 a.sn c0] rfl rfl ?p02 ?p03 ?p0m ?p04 ?p05 ?p06 _ rfl ?_)
    | go_in)
  case p02 =>
    intro j u hj
    have hh := Blk.cell n0 j
    match j, hj with
    | 0, hj => simp at hj; subst hj; simpa [Addr.add] using hh
    | 1, hj => simp at hj; subst hj; simpa [Addr.add] using hh
    | 2, hj => simp at hj; subst hj; simpa [Addr.add] using hh
    | 3, hj => simp at hj; subst hj; simpa [Addr.add] using hh
  case p03 => intro u hu; simp at hu; rcases hu with rfl | rfl | rfl | rfl <;> rfl
  case p0m => decide
  case p04 => unfold maxLen; omega
  case p05 => omega
  case p06 => exact z0
  intro g_1 cap1 W1 own1 hgrow1 hg1 hl1
  have d1 := e0.grown hgrow1 z0 (fun k h => (World.ownsRow.lt o0 k h).1)
  have zw1 := hgrow1.size
  have hge1 : Y0.heap.size ≤ g_1 := by rcases hg1 with h | h; (cases h); omega
  have R0 := R0.grown hgrow1 (fun g hg => by cases hg)
  obtain ⟨xs1, hxs1, own1⟩ : ∃ xs : List Value, ([] ++ [.int .u8 a.id, .bool a.pl, .int .i64 a.sc, .slice A0 a.sn c0] : List Value) = xs ∧ W1.ownsRow w.heap.size 34 4 (.slice (some ⟨g_1, 0, none⟩) 1 cap1) 1 xs := ⟨_, rfl, own1⟩
  have Hxs1 := Lib.hid hxs1
  clear hxs1
  clear hgrow1 o0 n0 hY0 z0 hg1
  go_wp2_with fail
  rw [rounds_succ]
  obtain ⟨t1, k1, c1_, up⟩ := newS d1 b _ rfl
  have o1 := own_up (own1) up
  clear up
  have q0 := (k1.cell 1).trans (show (scs b)[1]? = some (.int .u8 b.id) from rfl)
  have q1 := (k1.cell 2).trans (show (scs b)[2]? = some (.bool b.pl) from rfl)
  have q2 := (k1.cell 3).trans (show (scs b)[3]? = some (.int .i64 b.sc) from rfl)
  have q4 := (k1.cell 4).trans (show (scs b)[4]? = some (.slice b.sa b.sn b.cp) from rfl)
  have bx : Below W1.heap.size W1 ((W1.alloc (.cells #[.bool false, .int .u8 0, .bool false, .int .i64 0, .slice Option.none 0 0] 79)).setRow W1.heap.size (scs b)) := by
    obtain ⟨_, _, bx, _⟩ := newS (Below.refl W1.heap.size W1) b _ rfl
    exact bx
  have R0 := R0.keep bx
  have zx1 := bx.size
  clear bx
  go_wp2_with (first | (refine stS (s := b) t1 rfl _ _ rfl rfl rfl rfl ?_))
  clear q0 q1 q2 q4 t1 k1
  generalize ((W1.alloc (.cells #[.bool false, .int .u8 0, .bool false, .int .i64 0, .slice Option.none 0 0] 79)).setRow W1.heap.size (scs b)) = X1 at *
  refine (clone_own (Sb.keep c1_) nb b.id b.pl b.sc).mono ?_; rintro r Y1 ⟨A1, c1, rfl, S1, g1⟩
  have R1 := S1.mid
  have R0 := R0.keep g1
  have zy1 := g1.size
  have e1 := bbT c1_ g1
  have o1 := own_up o1 (fun g cs T k => Blk.keep k g1)
  have al : Below Y1.heap.size Y1 (Y1.alloc (.cells #[.int .u8 b.id, .bool b.pl, .int .i64 b.sc, .slice A1 b.sn c1] 34)) := (Below.refl _ _).alloc (Nat.le_refl _) _
  have R0 := R0.keep al
  have R1 := R1.keep al
  clear al
  have e1 := e1.alloc e1.size (.cells #[.int .u8 b.id, .bool b.pl, .int .i64 b.sc, .slice A1 b.sn c1] 34)
  have o1 := World.ownsRow.alloc o1 (.cells #[.int .u8 b.id, .bool b.pl, .int .i64 b.sc, .slice A1 b.sn c1] 34)
  have n1 := Blk.new Y1 #[.int .u8 b.id, .bool b.pl, .int .i64 b.sc, .slice A1 b.sn c1] 34
  have z1 := e1.size
  have zz1 : (Y1.alloc (.cells #[.int .u8 b.id, .bool b.pl, .int .i64 b.sc, .slice A1 b.sn c1] 34)).heap.size = Y1.heap.size + 1 := by simp
  generalize hY1 : Y1.alloc (.cells #[.int .u8 b.id, .bool b.pl, .int .i64 b.sc, .slice A1 b.sn c1] 34) = Z1 at *
  go_wp2_with (first
    | (at_builtin; refine wpList_append_lies _ rfl (.tmp 13) (.tmp 17) 70 rfl w.heap.size 34 i0 (.agg #[.int .u8 0, .bool false, .int .i64 0, .slice none 0 0]) 4 40 Tryd.underlying70 hi hz0 hz1 hz2 rfl (by decide) (.slice (some ⟨g_1, 0, none⟩) 1 cap1) 1 xs1 rfl o1 ⟨Y1.heap.size, 0, none⟩ 1 1 [.int .u8 b.id, .bool b.pl, .int .i64 b.sc, .slice A1 b.sn c1] rfl rfl ?p12 ?p13 ?p1m ?p14 ?p15 ?p16 _ rfl ?_)
    | go_in)
  case p12 =>
    intro j u hj
    have hh := Blk.cell n1 j
    match j, hj with
    | 0, hj => simp at hj; subst hj; simpa [Addr.add] using hh
    | 1, hj => simp at hj; subst hj; simpa [Addr.add] using hh
    | 2, hj => simp at hj; subst hj; simpa [Addr.add] using hh
    | 3, hj => simp at hj; subst hj; simpa [Addr.add] using hh
  case p13 => intro u hu; simp at hu; rcases hu with rfl | rfl | rfl | rfl <;> rfl
  case p1m => decide
  case p14 => unfold maxLen; omega
  case p15 => omega
  case p16 => exact z1
  intro g_2 cap2 W2 own2 hgrow2 hg2 hl2
  have d2 := e1.grown hgrow2 z1 (fun k h => (World.ownsRow.lt o1 k h).1)
  have zw2 := hgrow2.size
  have hge2 : g_2 = g_1 ∨ Y1.heap.size ≤ g_2 := by rcases hg2 with h | h; (left; injection h with h; exact h.symm); (right; omega)
  have R0 := R0.grown hgrow2 (fun g hg => by injection hg with hg; subst hg; simp at *; omega)
  have R1 := R1.grown hgrow2 (fun g hg => by injection hg with hg; subst hg; simp at *; omega)
  obtain ⟨xs2, hxs2, own2⟩ : ∃ xs : List Value, (xs1 ++ [.int .u8 b.id, .bool b.pl, .int .i64 b.sc, .slice A1 b.sn c1] : List Value) = xs ∧ W2.ownsRow w.heap.size 34 4 (.slice (some ⟨g_2, 0, none⟩) 2 cap2) 2 xs := ⟨_, rfl, own2⟩
  have Hxs2 := Lib.hid hxs2
  clear hxs2
  clear hgrow2 o1 n1 hY1 z1 hg2
  go_wp2_with fail
  rw [rounds_succ]
  obtain ⟨t2, k2, c2_, up⟩ := newS d2 c _ rfl
  have o2 := own_up (own2) up
  clear up
  have q0 := (k2.cell 1).trans (show (scs c)[1]? = some (.int .u8 c.id) from rfl)
  have q1 := (k2.cell 2).trans (show (scs c)[2]? = some (.bool c.pl) from rfl)
  have q2 := (k2.cell 3).trans (show (scs c)[3]? = some (.int .i64 c.sc) from rfl)
  have q4 := (k2.cell 4).trans (show (scs c)[4]? = some (.slice c.sa c.sn c.cp) from rfl)
  have bx : Below W2.heap.size W2 ((W2.alloc (.cells #[.bool false, .int .u8 0, .bool false, .int .i64 0, .slice Option.none 0 0] 79)).setRow W2.heap.size (scs c)) := by
    obtain ⟨_, _, bx, _⟩ := newS (Below.refl W2.heap.size W2) c _ rfl
    exact bx
  have R0 := R0.keep bx
  have R1 := R1.keep bx
  have zx2 := bx.size
  clear bx
  go_wp2_with (first | (refine stS (s := c) t2 rfl _ _ rfl rfl rfl rfl ?_))
  clear q0 q1 q2 q4 t2 k2
  generalize ((W2.alloc (.cells #[.bool false, .int .u8 0, .bool false, .int .i64 0, .slice Option.none 0 0] 79)).setRow W2.heap.size (scs c)) = X2 at *
  refine (clone_own (Sc.keep c2_) nc c.id c.pl c.sc).mono ?_; rintro r Y2 ⟨A2, c2, rfl, S2, g2⟩
  have R2 := S2.mid
  have R0 := R0.keep g2
  have R1 := R1.keep g2
  have zy2 := g2.size
  have e2 := bbT c2_ g2
  have o2 := own_up o2 (fun g cs T k => Blk.keep k g2)
  have al : Below Y2.heap.size Y2 (Y2.alloc (.cells #[.int .u8 c.id, .bool c.pl, .int .i64 c.sc, .slice A2 c.sn c2] 34)) := (Below.refl _ _).alloc (Nat.le_refl _) _
  have R0 := R0.keep al
  have R1 := R1.keep al
  have R2 := R2.keep al
  clear al
  have e2 := e2.alloc e2.size (.cells #[.int .u8 c.id, .bool c.pl, .int .i64 c.sc, .slice A2 c.sn c2] 34)
  have o2 := World.ownsRow.alloc o2 (.cells #[.int .u8 c.id, .bool c.pl, .int .i64 c.sc, .slice A2 c.sn c2] 34)
  have n2 := Blk.new Y2 #[.int .u8 c.id, .bool c.pl, .int .i64 c.sc, .slice A2 c.sn c2] 34
  have z2 := e2.size
  have zz2 : (Y2.alloc (.cells #[.int .u8 c.id, .bool c.pl, .int .i64 c.sc, .slice A2 c.sn c2] 34)).heap.size = Y2.heap.size + 1 := by simp
  generalize hY2 : Y2.alloc (.cells #[.int .u8 c.id, .bool c.pl, .int .i64 c.sc, .slice A2 c.sn c2] 34) = Z2 at *
  go_wp2_with (first
    | (at_builtin; refine wpList_append_lies _ rfl (.tmp 13) (.tmp 17) 70 rfl w.heap.size 34 i0 (.agg #[.int .u8 0, .bool false, .int .i64 0, .slice none 0 0]) 4 40 Tryd.underlying70 hi hz0 hz1 hz2 rfl (by decide) (.slice (some ⟨g_2, 0, none⟩) 2 cap2) 2 xs2 rfl o2 ⟨Y2.heap.size, 0, none⟩ 1 1 [.int .u8 c.id, .bool c.pl, .int .i64 c.sc, .slice A2 c.sn c2] rfl rfl ?p22 ?p23 ?p2m ?p24 ?p25 ?p26 _ rfl ?_)
    | go_in)
  case p22 =>
    intro j u hj
    have hh := Blk.cell n2 j
    match j, hj with
    | 0, hj => simp at hj; subst hj; simpa [Addr.add] using hh
    | 1, hj => simp at hj; subst hj; simpa [Addr.add] using hh
    | 2, hj => simp at hj; subst hj; simpa [Addr.add] using hh
    | 3, hj => simp at hj; subst hj; simpa [Addr.add] using hh
  case p23 => intro u hu; simp at hu; rcases hu with rfl | rfl | rfl | rfl <;> rfl
  case p2m => decide
  case p24 => unfold maxLen; omega
  case p25 => omega
  case p26 => exact z2
  intro g_3 cap3 W3 own3 hgrow3 hg3 hl3
  have d3 := e2.grown hgrow3 z2 (fun k h => (World.ownsRow.lt o2 k h).1)
  have zw3 := hgrow3.size
  have hge3 : g_3 = g_2 ∨ Y2.heap.size ≤ g_3 := by rcases hg3 with h | h; (left; injection h with h; exact h.symm); (right; omega)
  have R0 := R0.grown hgrow3 (fun g hg => by injection hg with hg; subst hg; simp at *; omega)
  have R1 := R1.grown hgrow3 (fun g hg => by injection hg with hg; subst hg; simp at *; omega)
  have R2 := R2.grown hgrow3 (fun g hg => by injection hg with hg; subst hg; simp at *; omega)
  obtain ⟨xs3, hxs3, own3⟩ : ∃ xs : List Value, (xs2 ++ [.int .u8 c.id, .bool c.pl, .int .i64 c.sc, .slice A2 c.sn c2] : List Value) = xs ∧ W3.ownsRow w.heap.size 34 4 (.slice (some ⟨g_3, 0, none⟩) 3 cap3) 3 xs := ⟨_, rfl, own3⟩
  have Hxs3 := Lib.hid hxs3
  clear hxs3
  clear hgrow3 o2 n2 hY2 z2 hg3
  go_wp2_with fail
  rw [rounds_succ]
  go_wp2_with fail
  go_ret
  have hc3 : 3 ≤ cap3 := by
    rcases own3.2 with ⟨_, h⟩ | ⟨g, c', cur, hv, _, _, hn, _⟩
    · omega
    · injection hv with _ _ h; omega
  refine ⟨g_3, cap3, rfl, hc3, fun j hj => ?_, d3⟩
  have cel := fun (i : Nat) (v : Value) (h : xs3[i]? = some v) => World.ownsRow.cells own3 (g := g_3) rfl i v h
  rw [← Hxs3.out, ← Hxs2.out, ← Hxs1.out] at cel
  have ad : ∀ i, (⟨g_3, 0, none⟩ : Addr).add i = ⟨g_3, i, none⟩ := fun i => by unfold Addr.add; split <;> simp_all
  match j, hj with
  | 0, hj =>
    refine ⟨A0, c0, ?_, ?_, ?_, ?_, R0.rng⟩
    · have := cel 0 _ rfl; rw [ad] at this; exact this
    · have := cel 1 _ rfl; rw [ad] at this; exact this
    · have := cel 2 _ rfl; rw [ad] at this; exact this
    · have := cel 3 _ rfl; rw [ad] at this; exact this
  | 1, hj =>
    refine ⟨A1, c1, ?_, ?_, ?_, ?_, R1.rng⟩
    · have := cel 4 _ rfl; rw [ad] at this; exact this
    · have := cel 5 _ rfl; rw [ad] at this; exact this
    · have := cel 6 _ rfl; rw [ad] at this; exact this
    · have := cel 7 _ rfl; rw [ad] at this; exact this
  | 2, hj =>
    refine ⟨A2, c2, ?_, ?_, ?_, ?_, R2.rng⟩
    · have := cel 8 _ rfl; rw [ad] at this; exact this
    · have := cel 9 _ rfl; rw [ad] at this; exact this
    · have := cel 10 _ rfl; rw [ad] at this; exact this
    · have := cel 11 _ rfl; rw [ad] at this; exact this
end Go.Proofs.YtekcemncmgingaaDoor.YErr
