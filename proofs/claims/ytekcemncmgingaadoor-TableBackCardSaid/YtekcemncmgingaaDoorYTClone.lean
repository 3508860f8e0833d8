/- Package table: Clone. No condition. -/
import Derived.Test.YtekcemncmgingaaDoorYTOps
namespace Go.Proofs.YtekcemncmgingaaDoor.YErr
open Go.RowKit Go.Extern.Stop Go.Stop Go.Extern
set_option linter.unusedVariables false
set_option linter.unusedSimpArgs false
theorem info_T : (Tryd.prog.info? 82).map (·.size) = some 15 := by kernel_rfl
section
variable {ops : Array Oper} {rest : List Oper} {o : Oper} {act : Act} {w : World} {Q : Exit → Act → World → Prop} {p : Nat} {a b c : Sl}
theorem ldTT (k : Tb w p a b c) (x : Operand) (hgd : o.guard = Option.none) (ho : o.op = .load 82 x) (hx : act.eval x = .pointer (some ⟨p, 0, Option.none⟩)) (h : wpList Tryd.prog ops Q rest (act.put o.dst (.agg (tcs a b c))) w) : wpList Tryd.prog ops Q (o :: rest) act w :=
  wpList_load_row hgd 82 x ho p hx 82 (tcs a b c) (0, 0) _ k Tryd.underlying82 rfl info_T h
theorem stTT {old : Array Value} (k : Blk w p old 82) (h0 : old.size = 15) (x y : Operand) (hgd : o.guard = Option.none) (ho : o.op = .store 82 x y) (hx : act.eval x = .pointer (some ⟨p, 0, Option.none⟩)) (hy : act.eval y = .agg (tcs a b c)) (h : wpList Tryd.prog ops Q rest (act.put o.dst undef) (w.setRow p (tcs a b c))) : wpList Tryd.prog ops Q (o :: rest) act w :=
  wpList_store_row hgd 82 x y ho p (tcs a b c) hx hy 82 old k info_T h0 (by simp [tcs, Value.oneCell']) h
end
theorem One.gro {w w' : World} {q : Nat} (g : One w w' q) : w.grownBy w' (some q) := ⟨g.1, g.2.1, g.2.2.1, g.2.2.2.1, fun k hk hn => g.2.2.2.2 k hk (fun e => hn (by rw [e]))⟩
theorem newT (w : World) (a b c : Sl) : Blk (w.alloc (.cells #[.bool false, .int .u8 0, .bool false, .int .i64 0, .slice Option.none 0 0, .bool false, .int .u8 0, .bool false, .int .i64 0, .slice Option.none 0 0, .bool false, .int .u8 0, .bool false, .int .i64 0, .slice Option.none 0 0] 82)) w.heap.size #[.bool false, .int .u8 0, .bool false, .int .i64 0, .slice Option.none 0 0, .bool false, .int .u8 0, .bool false, .int .i64 0, .slice Option.none 0 0, .bool false, .int .u8 0, .bool false, .int .i64 0, .slice Option.none 0 0] 82 ∧
    ∃ w', w' = (w.alloc (.cells #[.bool false, .int .u8 0, .bool false, .int .i64 0, .slice Option.none 0 0, .bool false, .int .u8 0, .bool false, .int .i64 0, .slice Option.none 0 0, .bool false, .int .u8 0, .bool false, .int .i64 0, .slice Option.none 0 0] 82)).setRow w.heap.size (tcs a b c) ∧ Tb w' w.heap.size a b c ∧ Below w.heap.size w w' ∧ w.heap.size < w'.heap.size := by
  have K0 := Blk.new w #[.bool false, .int .u8 0, .bool false, .int .i64 0, .slice Option.none 0 0, .bool false, .int .u8 0, .bool false, .int .i64 0, .slice Option.none 0 0, .bool false, .int .u8 0, .bool false, .int .i64 0, .slice Option.none 0 0] 82
  have B0 : Below w.heap.size w (w.alloc (.cells #[.bool false, .int .u8 0, .bool false, .int .i64 0, .slice Option.none 0 0, .bool false, .int .u8 0, .bool false, .int .i64 0, .slice Option.none 0 0, .bool false, .int .u8 0, .bool false, .int .i64 0, .slice Option.none 0 0] 82)) := (Below.refl _ _).alloc (Nat.le_refl _) _
  have K2 : Tb ((w.alloc (.cells #[.bool false, .int .u8 0, .bool false, .int .i64 0, .slice Option.none 0 0, .bool false, .int .u8 0, .bool false, .int .i64 0, .slice Option.none 0 0, .bool false, .int .u8 0, .bool false, .int .i64 0, .slice Option.none 0 0] 82)).setRow w.heap.size (tcs a b c)) w.heap.size a b c := setRow_heap5 (cs := tcs a b c) K0
  exact ⟨K0, _, rfl, K2, ⟨B0.os, B0.tape, B0.output, by simp, fun k hk => (setRow_other _ _ _ _ (by omega)).trans (B0.block k hk)⟩, Blk.lt K2⟩

set_option maxRecDepth 100000 in
set_option maxHeartbeats 8000000 in
theorem Clone_own_t {a b c : Sl} {p Ba Bb Bc : Nat} {La Lb Lc : List Int} {w : World} (T : Tb w p a b c) (Sa : Own w Ba a.sa a.sn a.cp La) (Sb : Own w Bb b.sa b.sn b.cp Lb) (Sc : Own w Bc c.sa c.sn c.cp Lc) (na : a.sn ≤ 100) (nb : b.sn ≤ 100) (nc : c.sn ≤ 100) : Calls Tryd.prog 27 #[.pointer (some ⟨p, 0, none⟩)] w fun r w' => r = .returned (.pointer (some ⟨w.heap.size, 0, none⟩)) ∧ PT w' w.heap.size (w.heap.size + 1) ⟨ms a La, ms b Lb, ms c Lc⟩ ∧ Below w.heap.size w w' := by
  obtain ⟨k0, u0, hu0, T0, g0, z0⟩ := newT w a b c
  have Sa0 := Sa.mid.keep g0
  have Sb0 := Sb.mid.keep g0
  have Sc0 := Sc.mid.keep g0
  clear Sa Sb Sc
  go_enter Tryd.func27, Tryd.ntmps27
  go_wp2_with (first | (refine ldTT T _ rfl rfl rfl ?_) | (refine stTT k0 rfl _ _ rfl rfl rfl rfl ?_))
  rw [← hu0]
  clear hu0 k0 T
  refine wp_loop_rounds 4 ?_
  rw [rounds_succ]
  have q0 := (Blk.cell T0 1).trans (show _ = some (.int .u8 a.id) from rfl)
  have q1 := (Blk.cell T0 2).trans (show _ = some (.bool a.pl) from rfl)
  have q2 := (Blk.cell T0 3).trans (show _ = some (.int .i64 a.sc) from rfl)
  have q3 := (Blk.cell T0 4).trans (show _ = some (.slice a.sa a.sn a.cp) from rfl)
  go_wp2_with fail
  refine (clone_own Sa0.1 na a.id a.pl a.sc).mono ?_; rintro r v1 ⟨A0, c0, rfl, R0, h1⟩
  clear q0 q1 q2 q3
  have R0 := Own.mono R0 (show w.heap.size + 1 ≤ u0.heap.size by omega)
  replace T0 := Blk.keep T0 h1
  have g1_ := bbT g0 h1
  have zv1 := h1.size
  have Sb1 := Sb0.keep h1
  have Sc1 := Sc0.keep h1
  have e0 : _ = some _ := (Blk.cell T0 1).trans (show _ = some _ from rfl)
  have f0 := Blk.free T0 1
  have e1 : _ = some _ := (Blk.cell T0 2).trans (show _ = some _ from rfl)
  have f1 := Blk.free T0 2
  have e2 : _ = some _ := (Blk.cell T0 3).trans (show _ = some _ from rfl)
  have f2 := Blk.free T0 3
  have e3 : _ = some _ := (Blk.cell T0 4).trans (show _ = some _ from rfl)
  have f3 := Blk.free T0 4
  have T1 : Tb ((((v1.setCell ⟨w.heap.size, 1, none⟩ (.int .u8 a.id)).setCell ⟨w.heap.size, 2, none⟩ (.bool a.pl)).setCell ⟨w.heap.size, 3, none⟩ (.int .i64 a.sc)).setCell ⟨w.heap.size, 4, none⟩ (.slice A0 a.sn c0)) w.heap.size ⟨a.th, a.id, a.pl, a.sc, A0, a.sn, c0⟩ b c := Blk.set (Blk.set (Blk.set (Blk.set (T0) 1 (.int .u8 a.id)) 2 (.bool a.pl)) 3 (.int .i64 a.sc)) 4 (.slice A0 a.sn c0)
  have on1 : One v1 ((((v1.setCell ⟨w.heap.size, 1, none⟩ (.int .u8 a.id)).setCell ⟨w.heap.size, 2, none⟩ (.bool a.pl)).setCell ⟨w.heap.size, 3, none⟩ (.int .i64 a.sc)).setCell ⟨w.heap.size, 4, none⟩ (.slice A0 a.sn c0)) w.heap.size := One.set (One.set (One.set (One.set (One.refl v1 w.heap.size) 1 (.int .u8 a.id)) 2 (.bool a.pl)) 3 (.int .i64 a.sc)) 4 (.slice A0 a.sn c0)
  have g1 := One.below on1 g1_ (Nat.le_refl _)
  have zn1 : v1.heap.size = (((((v1.setCell ⟨w.heap.size, 1, none⟩ (.int .u8 a.id)).setCell ⟨w.heap.size, 2, none⟩ (.bool a.pl)).setCell ⟨w.heap.size, 3, none⟩ (.int .i64 a.sc)).setCell ⟨w.heap.size, 4, none⟩ (.slice A0 a.sn c0))).heap.size := by simp
  replace R0 := R0.one (Nat.lt_succ_self _) on1
  replace Sb1 := Sb1.grown (One.gro on1) (fun g hg => by cases hg; exact .inr (Nat.le_refl _))
  replace Sc1 := Sc1.grown (One.gro on1) (fun g hg => by cases hg; exact .inr (Nat.le_refl _))
  go_wp2_with fail
  generalize ((((v1.setCell ⟨w.heap.size, 1, none⟩ (.int .u8 a.id)).setCell ⟨w.heap.size, 2, none⟩ (.bool a.pl)).setCell ⟨w.heap.size, 3, none⟩ (.int .i64 a.sc)).setCell ⟨w.heap.size, 4, none⟩ (.slice A0 a.sn c0)) = u1 at *
  clear on1 e0 e1 e2 e3 f0 f1 f2 f3 T0
  rw [rounds_succ]
  have q0 := (Blk.cell T1 6).trans (show _ = some (.int .u8 b.id) from rfl)
  have q1 := (Blk.cell T1 7).trans (show _ = some (.bool b.pl) from rfl)
  have q2 := (Blk.cell T1 8).trans (show _ = some (.int .i64 b.sc) from rfl)
  have q3 := (Blk.cell T1 9).trans (show _ = some (.slice b.sa b.sn b.cp) from rfl)
  go_wp2_with fail
  refine (clone_own Sb1.1 nb b.id b.pl b.sc).mono ?_; rintro r v2 ⟨A1, c1, rfl, R1, h2⟩
  clear q0 q1 q2 q3
  have R1 := Own.mono R1 (show w.heap.size + 1 ≤ u1.heap.size by omega)
  replace T1 := Blk.keep T1 h2
  have g2_ := bbT g1 h2
  have zv2 := h2.size
  replace R0 := R0.keep h2
  have Sc2 := Sc1.keep h2
  have e0 : _ = some _ := (Blk.cell T1 6).trans (show _ = some _ from rfl)
  have f0 := Blk.free T1 6
  have e1 : _ = some _ := (Blk.cell T1 7).trans (show _ = some _ from rfl)
  have f1 := Blk.free T1 7
  have e2 : _ = some _ := (Blk.cell T1 8).trans (show _ = some _ from rfl)
  have f2 := Blk.free T1 8
  have e3 : _ = some _ := (Blk.cell T1 9).trans (show _ = some _ from rfl)
  have f3 := Blk.free T1 9
  have T2 : Tb ((((v2.setCell ⟨w.heap.size, 6, none⟩ (.int .u8 b.id)).setCell ⟨w.heap.size, 7, none⟩ (.bool b.pl)).setCell ⟨w.heap.size, 8, none⟩ (.int .i64 b.sc)).setCell ⟨w.heap.size, 9, none⟩ (.slice A1 b.sn c1)) w.heap.size ⟨a.th, a.id, a.pl, a.sc, A0, a.sn, c0⟩ ⟨b.th, b.id, b.pl, b.sc, A1, b.sn, c1⟩ c := Blk.set (Blk.set (Blk.set (Blk.set (T1) 6 (.int .u8 b.id)) 7 (.bool b.pl)) 8 (.int .i64 b.sc)) 9 (.slice A1 b.sn c1)
  have on2 : One v2 ((((v2.setCell ⟨w.heap.size, 6, none⟩ (.int .u8 b.id)).setCell ⟨w.heap.size, 7, none⟩ (.bool b.pl)).setCell ⟨w.heap.size, 8, none⟩ (.int .i64 b.sc)).setCell ⟨w.heap.size, 9, none⟩ (.slice A1 b.sn c1)) w.heap.size := One.set (One.set (One.set (One.set (One.refl v2 w.heap.size) 6 (.int .u8 b.id)) 7 (.bool b.pl)) 8 (.int .i64 b.sc)) 9 (.slice A1 b.sn c1)
  have g2 := One.below on2 g2_ (Nat.le_refl _)
  have zn2 : v2.heap.size = (((((v2.setCell ⟨w.heap.size, 6, none⟩ (.int .u8 b.id)).setCell ⟨w.heap.size, 7, none⟩ (.bool b.pl)).setCell ⟨w.heap.size, 8, none⟩ (.int .i64 b.sc)).setCell ⟨w.heap.size, 9, none⟩ (.slice A1 b.sn c1))).heap.size := by simp
  replace R0 := R0.one (Nat.lt_succ_self _) on2
  replace R1 := R1.one (Nat.lt_succ_self _) on2
  replace Sc2 := Sc2.grown (One.gro on2) (fun g hg => by cases hg; exact .inr (Nat.le_refl _))
  go_wp2_with fail
  generalize ((((v2.setCell ⟨w.heap.size, 6, none⟩ (.int .u8 b.id)).setCell ⟨w.heap.size, 7, none⟩ (.bool b.pl)).setCell ⟨w.heap.size, 8, none⟩ (.int .i64 b.sc)).setCell ⟨w.heap.size, 9, none⟩ (.slice A1 b.sn c1)) = u2 at *
  clear on2 e0 e1 e2 e3 f0 f1 f2 f3 T1
  rw [rounds_succ]
  have q0 := (Blk.cell T2 11).trans (show _ = some (.int .u8 c.id) from rfl)
  have q1 := (Blk.cell T2 12).trans (show _ = some (.bool c.pl) from rfl)
  have q2 := (Blk.cell T2 13).trans (show _ = some (.int .i64 c.sc) from rfl)
  have q3 := (Blk.cell T2 14).trans (show _ = some (.slice c.sa c.sn c.cp) from rfl)
  go_wp2_with fail
  refine (clone_own Sc2.1 nc c.id c.pl c.sc).mono ?_; rintro r v3 ⟨A2, c2, rfl, R2, h3⟩
  clear q0 q1 q2 q3
  have R2 := Own.mono R2 (show w.heap.size + 1 ≤ u2.heap.size by omega)
  replace T2 := Blk.keep T2 h3
  have g3_ := bbT g2 h3
  have zv3 := h3.size
  replace R0 := R0.keep h3
  replace R1 := R1.keep h3
  have e0 : _ = some _ := (Blk.cell T2 11).trans (show _ = some _ from rfl)
  have f0 := Blk.free T2 11
  have e1 : _ = some _ := (Blk.cell T2 12).trans (show _ = some _ from rfl)
  have f1 := Blk.free T2 12
  have e2 : _ = some _ := (Blk.cell T2 13).trans (show _ = some _ from rfl)
  have f2 := Blk.free T2 13
  have e3 : _ = some _ := (Blk.cell T2 14).trans (show _ = some _ from rfl)
  have f3 := Blk.free T2 14
  have T3 : Tb ((((v3.setCell ⟨w.heap.size, 11, none⟩ (.int .u8 c.id)).setCell ⟨w.heap.size, 12, none⟩ (.bool c.pl)).setCell ⟨w.heap.size, 13, none⟩ (.int .i64 c.sc)).setCell ⟨w.heap.size, 14, none⟩ (.slice A2 c.sn c2)) w.heap.size ⟨a.th, a.id, a.pl, a.sc, A0, a.sn, c0⟩ ⟨b.th, b.id, b.pl, b.sc, A1, b.sn, c1⟩ ⟨c.th, c.id, c.pl, c.sc, A2, c.sn, c2⟩ := Blk.set (Blk.set (Blk.set (Blk.set (T2) 11 (.int .u8 c.id)) 12 (.bool c.pl)) 13 (.int .i64 c.sc)) 14 (.slice A2 c.sn c2)
  have on3 : One v3 ((((v3.setCell ⟨w.heap.size, 11, none⟩ (.int .u8 c.id)).setCell ⟨w.heap.size, 12, none⟩ (.bool c.pl)).setCell ⟨w.heap.size, 13, none⟩ (.int .i64 c.sc)).setCell ⟨w.heap.size, 14, none⟩ (.slice A2 c.sn c2)) w.heap.size := One.set (One.set (One.set (One.set (One.refl v3 w.heap.size) 11 (.int .u8 c.id)) 12 (.bool c.pl)) 13 (.int .i64 c.sc)) 14 (.slice A2 c.sn c2)
  have g3 := One.below on3 g3_ (Nat.le_refl _)
  have zn3 : v3.heap.size = (((((v3.setCell ⟨w.heap.size, 11, none⟩ (.int .u8 c.id)).setCell ⟨w.heap.size, 12, none⟩ (.bool c.pl)).setCell ⟨w.heap.size, 13, none⟩ (.int .i64 c.sc)).setCell ⟨w.heap.size, 14, none⟩ (.slice A2 c.sn c2))).heap.size := by simp
  replace R0 := R0.one (Nat.lt_succ_self _) on3
  replace R1 := R1.one (Nat.lt_succ_self _) on3
  replace R2 := R2.one (Nat.lt_succ_self _) on3
  go_wp2_with fail
  generalize ((((v3.setCell ⟨w.heap.size, 11, none⟩ (.int .u8 c.id)).setCell ⟨w.heap.size, 12, none⟩ (.bool c.pl)).setCell ⟨w.heap.size, 13, none⟩ (.int .i64 c.sc)).setCell ⟨w.heap.size, 14, none⟩ (.slice A2 c.sn c2)) = u3 at *
  clear on3 e0 e1 e2 e3 f0 f1 f2 f3 T2
  rw [rounds_succ]
  go_wp2_with fail
  go_ret
  exact ⟨rfl, ⟨A0, c0, A1, c1, A2, c2, T3, R0, R1, R2⟩, g3⟩

theorem Clone_t {w : World} {p B : Nat} {s : T3} (h : PT w p B s) (hB : B ≤ w.heap.size) (G : s.good) : Calls Tryd.prog 27 #[.pointer (some ⟨p, 0, none⟩)] w fun r w' => r = .returned (.pointer (some ⟨w.heap.size, 0, none⟩)) ∧ PT w' w.heap.size (w.heap.size + 1) s ∧ Below w.heap.size w w' := by
  obtain ⟨A0, c0, A1, c1, A2, c2, T, S0, S1, S2⟩ := h
  exact Clone_own_t T S0 S1 S2 (by have := G.1.2.2; show s.a.n ≤ 100; omega) (by have := G.2.1.2.2; show s.b.n ≤ 100; omega) (by have := G.2.2.2.2; show s.c.n ≤ 100; omega)
end Go.Proofs.YtekcemncmgingaaDoor.YErr
