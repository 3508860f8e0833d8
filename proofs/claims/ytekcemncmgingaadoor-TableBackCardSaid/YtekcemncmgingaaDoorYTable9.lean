/- Package table: Keep, and Get of beacons with ranges. No condition. -/
import Derived.Test.YtekcemncmgingaaDoorYTable7
import Derived.Test.YtekcemncmgingaaDoorYTable8
import Derived.Lib.SmallJoins
namespace Go.Proofs.YtekcemncmgingaaDoor.YErr
open Go.RowKit Go.Extern.Stop Go.Stop Go.Extern
set_option linter.unusedVariables false
set_option linter.unusedSimpArgs false
/-- Ranges that lie in a row of their own, not older than block B. -/
def Own (w : World) (B : Nat) (A : Option Addr) (n c : Nat) (L : List Int) : Prop := w.ownsRow B 49 3 (.slice A n c) n (L.map (Value.int .i64))
theorem own_sl {w : World} {B n size : Nat} {e : TypeId} {v : Value} {xs : List Value} (h : w.ownsRow B e size v n xs) : ∃ A c, v = .slice A n c := by
  rcases h.2 with ⟨rfl, rfl⟩ | ⟨g, cap, cur, rfl, _⟩
  · exact ⟨_, _, rfl⟩
  · exact ⟨_, _, rfl⟩
theorem Own.len {w : World} {B n c : Nat} {A : Option Addr} {L : List Int} (S : Own w B A n c L) : L.length = n * 3 := by have := S.1; simpa using this
theorem Own.nil (w : World) (B : Nat) : Own w B none 0 0 [] := World.ownsRow_nil _ _ _ _
theorem Own.keep {w w' : World} {B n c : Nat} {A : Option Addr} {L : List Int} (S : Own w B A n c L) (g : Below w.heap.size w w') : Own w' B A n c L := own_up S (fun _ _ _ k => Blk.keep k g)
theorem Own.mono {w : World} {B B' n c : Nat} {A : Option Addr} {L : List Int} (S : Own w B A n c L) (h : B' ≤ B) : Own w B' A n c L := World.ownsRow.mono S h
theorem Own.one {w w' : World} {B n c p : Nat} {A : Option Addr} {L : List Int} (S : Own w B A n c L) (h : p < B) (g : One w w' p) : Own w' B A n c L := by
  obtain ⟨h1, h2 | ⟨b, cap, cur, hv, hb, hw, r⟩⟩ := S
  · exact ⟨h1, .inl h2⟩
  · exact ⟨h1, .inr ⟨b, cap, cur, hv, hb, (g.2.2.2.2 b (by rcases Nat.lt_or_ge b w.heap.size with h' | h'; exact h'; rw [Array.getElem?_eq_none h'] at hw; cases hw) (by omega)).trans hw, r⟩⟩
theorem Own.form {w : World} {B n c : Nat} {A : Option Addr} {L : List Int} (S : Own w B A n c L) : (A = none ∧ n = 0 ∧ c = 0 ∧ L = []) ∨ ∃ g, A = some ⟨g, 0, none⟩ ∧ B ≤ g ∧ n ≤ c ∧ SeenAt w g 0 L := by
  obtain ⟨h1, ⟨h2, h3⟩ | ⟨b, cap, cur, hv, hb, hw, hn, hm, hs, ht⟩⟩ := id S
  · left
    injection h2 with e1 e2 e3
    subst h3
    refine ⟨e1, rfl, e3, ?_⟩
    have := h1
    simp at this
    exact this
  · right
    injection hv with e1 e2 e3
    refine ⟨b, e1, hb, by omega, fun j hj => ?_⟩
    have := World.ownsRow.cells S (g := b) (by rw [e1]; rfl) j (.int .i64 (L.getD j 0)) (by simp [List.getD, hj])
    have e : (⟨b, 0, none⟩ : Addr).add j = ⟨b, 0 + j, none⟩ := by
      unfold Addr.add
      split
      · rename_i h; subst h; rfl
      · rfl
    rw [← e]; exact this
theorem Own.far {w w' : World} {B n c : Nat} {A : Option Addr} {L : List Int} (S : Own w B A n c L) (h : ∀ k, B ≤ k → w'.heap[k]? = w.heap[k]?) : Own w' B A n c L := by
  obtain ⟨h1, h2 | ⟨b, cap, cur, hv, hb, hw, r⟩⟩ := S
  · exact ⟨h1, .inl h2⟩
  · exact ⟨h1, .inr ⟨b, cap, cur, hv, hb, (h b hb).trans hw, r⟩⟩
theorem Clone_own {w : World} {B n c : Nat} {A : Option Addr} {L : List Int} (S : Own w B A n c L) (hn : n ≤ 100) : Calls Tryd.prog 49 #[.slice A n c] w fun r w' => ∃ A' c', r = .returned (.slice A' n c') ∧ Own w' w.heap.size A' n c' L ∧ Below w.heap.size w w' := by
  rcases S.form with ⟨rfl, rfl, rfl, rfl⟩ | ⟨g, rfl, hb, hnc, hc⟩
  · refine (Clone_nil w).mono ?_
    rintro r w' ⟨rfl, rfl⟩
    exact ⟨_, _, rfl, Own.nil _ _, Below.refl _ _⟩
  · refine (Clone_row S.len hc hn).mono ?_
    rintro r w' ⟨v, rfl, own, b⟩
    obtain ⟨A', c', rfl⟩ := own_sl own
    exact ⟨_, _, rfl, own, b⟩
def more (n : Nat) : Nat := if n = 8 then 8 else n + 1
def kept (n : Nat) (L : List Int) : List Int := if n = 8 then L.drop 3 else L
theorem Add_own {w : World} {B n c : Nat} {A : Option Addr} {L : List Int} (S : Own w B A n c L) (hn : n ≤ 8) (x y r : Int) : Calls Tryd.prog 39 #[.slice A n c, .agg #[.int .i64 x, .int .i64 y], .int .i64 r] w fun e w' => ∃ A' c', e = .returned (.slice A' (more n) c') ∧ Own w' w.heap.size A' (more n) c' (kept n L ++ [x, y, r]) ∧ Below w.heap.size w w' := by
  unfold more kept Own
  rcases S.form with ⟨rfl, rfl, rfl, rfl⟩ | ⟨g, rfl, hb, hnc, hc⟩
  · refine Add_nil.mono ?_
    rintro r w' ⟨v, rfl, own, b⟩
    obtain ⟨A', c', rfl⟩ := own_sl own
    exact ⟨_, _, rfl, by simpa using own, b⟩
  · by_cases h8 : n = 8
    · subst h8
      refine (Add_8 S.len hc hnc).mono ?_
      rintro r w' ⟨v, rfl, own, b⟩
      obtain ⟨A', c', rfl⟩ := own_sl own
      exact ⟨_, _, rfl, by simpa using own, b⟩
    · refine (Add_lo S.len hc (by omega) hnc).mono ?_
      rintro r w' ⟨v, rfl, own, b⟩
      obtain ⟨A', c', rfl⟩ := own_sl own
      rw [if_neg h8, if_neg h8]
      exact ⟨_, _, rfl, by simpa using own, b⟩
theorem stBs {ops : Array Oper} {rest : List Oper} {o : Oper} {act : Act} {w : World} {Q : Exit → Act → World → Prop} {p : Nat} {old : Array Value} {i : Int} {pl : Bool} {sc : Int} {A : Option Addr} {n c : Nat} (k : Blk w p old 34) (h0 : old.size = 4) (x y : Operand) (hgd : o.guard = Option.none) (ho : o.op = .store 34 x y) (hx : act.eval x = .pointer (some ⟨p, 0, Option.none⟩)) (hy : act.eval y = .agg #[.int .u8 i, .bool pl, .int .i64 sc, .slice A n c])
    (h : wpList Tryd.prog ops Q rest (act.put o.dst undef) (w.setRow p #[.int .u8 i, .bool pl, .int .i64 sc, .slice A n c])) : wpList Tryd.prog ops Q (o :: rest) act w :=
  wpList_store_row hgd 34 x y ho p #[.int .u8 i, .bool pl, .int .i64 sc, .slice A n c] hx hy 34 old k info_b h0 (by simp [Value.oneCell']) h
theorem ldB {ops : Array Oper} {rest : List Oper} {o : Oper} {act : Act} {w : World} {Q : Exit → Act → World → Prop} {p : Nat} {cs : Array Value} (k : Blk w p cs 34) (x : Operand) (hs : cs.size = 4) (hgd : o.guard = Option.none) (ho : o.op = .load 34 x) (hx : act.eval x = .pointer (some ⟨p, 0, Option.none⟩)) (h : wpList Tryd.prog ops Q rest (act.put o.dst (.agg cs)) w) : wpList Tryd.prog ops Q (o :: rest) act w :=
  wpList_load_row hgd 34 x ho p hx 34 cs (0, 0) _ k Tryd.underlying34 rfl (by rw [hs]; exact info_b) h
set_option maxRecDepth 100000 in
set_option maxHeartbeats 8000000 in
/-- A beacon, told in new memory. -/
theorem clone_own {w : World} {B n c : Nat} {A : Option Addr} {L : List Int} (S : Own w B A n c L) (hn : n ≤ 100) (i : Int) (pl : Bool) (sc : Int) : Calls Tryd.prog 35 #[.agg #[.int .u8 i, .bool pl, .int .i64 sc, .slice A n c]] w fun r w' => ∃ A' c', r = .returned (.agg #[.int .u8 i, .bool pl, .int .i64 sc, .slice A' n c']) ∧ Own w' w.heap.size A' n c' L ∧ Below w.heap.size w w' := by
  have b0 : Below w.heap.size w ((w.alloc (.cells #[.int .u8 i, .bool pl, .int .i64 sc, .slice A n c] 34)).alloc (.cells #[.int .u8 0, .bool false, .int .i64 0, .slice none 0 0] 34)) := ((Below.refl _ _).alloc (Nat.le_refl _) _).alloc (by simp) _
  have k0 := (Blk.new w #[.int .u8 i, .bool pl, .int .i64 sc, .slice A n c] 34).alloc (.cells #[.int .u8 0, .bool false, .int .i64 0, .slice none 0 0] 34)
  have k1 : Blk ((w.alloc (.cells #[.int .u8 i, .bool pl, .int .i64 sc, .slice A n c] 34)).alloc (.cells #[.int .u8 0, .bool false, .int .i64 0, .slice none 0 0] 34)) (w.heap.size + 1) #[.int .u8 0, .bool false, .int .i64 0, .slice none 0 0] 34 := by
    have := Blk.new (w.alloc (.cells #[.int .u8 i, .bool pl, .int .i64 sc, .slice A n c] 34)) #[.int .u8 0, .bool false, .int .i64 0, .slice none 0 0] 34
    simpa using this
  have CL := Clone_own (S.keep b0) hn
  have hz : w.heap.size + 2 ≤ ((w.alloc (.cells #[.int .u8 i, .bool pl, .int .i64 sc, .slice A n c] 34)).alloc (.cells #[.int .u8 0, .bool false, .int .i64 0, .slice none 0 0] 34)).heap.size := by simp
  go_enter Tryd.func35, Tryd.ntmps35
  go_wp2_with fail
  refine CL.mono ?_; rintro r w1 ⟨A', c', rfl, S1, g⟩
  replace S1 := Own.mono S1 hz
  replace k0 := k0.keep g
  replace k1 := k1.keep g
  have b1 := bbT b0 g
  clear b0 g CL hz
  have q3 := (Blk.cell k0 3).trans (show _ = some _ from rfl)
  have f3 := Blk.free k0 3
  have k2 : Blk (w1.setCell ⟨w.heap.size, 3, none⟩ (.slice A' n c')) w.heap.size #[.int .u8 i, .bool pl, .int .i64 sc, .slice A' n c'] 34 := Blk.set k0 3 _
  have k3 := Blk.setOther k1 (p := ⟨w.heap.size, 3, none⟩) (by simp) (.slice A' n c')
  have b2 := b1.setCell (p := ⟨w.heap.size, 3, none⟩) (Nat.le_refl _) (.slice A' n c')
  have S2 : Own (w1.setCell ⟨w.heap.size, 3, none⟩ (.slice A' n c')) (w.heap.size + 2) A' n c' L := Own.far S1 (fun k hk => Below.heap_setCell _ _ _ _ (by simp; omega))
  go_wp2_with (first | (refine ldB k2 _ rfl rfl rfl rfl ?_) | (refine stBs k3 rfl _ _ rfl rfl rfl rfl ?_))
  have K : Blk ((w1.setCell ⟨w.heap.size, 3, none⟩ (.slice A' n c')).setRow (w.heap.size + 1) #[.int .u8 i, .bool pl, .int .i64 sc, .slice A' n c']) (w.heap.size + 1) #[.int .u8 i, .bool pl, .int .i64 sc, .slice A' n c'] 34 := setRow_heap5 k3
  refine bodyPost_ret (v := .agg #[.int .u8 i, .bool pl, .int .i64 sc, .slice A' n c']) (results_cell_row rfl _ _ (w.heap.size + 1) 34 _ (0, 0) _ rfl K Tryd.underlying34 rfl info_b) rfl ⟨A', c', rfl, Own.mono (Own.far S2 (fun k hk => setRow_other _ _ _ _ (by omega))) (by omega), ?_⟩
  exact ⟨b2.os, b2.tape, b2.output, by simp; have := b2.size; simpa using this, fun k hk => (setRow_other _ _ _ _ (by omega)).trans (b2.block k hk)⟩

set_option maxRecDepth 100000 in
set_option maxHeartbeats 8000000 in
theorem Keep_ok0 {a b c : Sl} {p : Nat} {L : List Int} {w : World} (T : Tb w p a b c) (h : a.th = true) (hp : a.pl = false) (S : Own w (p + 1) a.sa a.sn a.cp L) (hn : a.sn ≤ 8) (x y r : Int) : Calls Tryd.prog 17 #[.pointer (some ⟨p, 0, none⟩), .int .i64 0, .agg #[.int .i64 x, .int .i64 y], .int .i64 r] w fun e w' => e = .returned .nilIface ∧ (∃ A' c', Tb w' p ⟨a.th, a.id, a.pl, a.sc, A', more a.sn, c'⟩ b c ∧ Own w' (p + 1) A' (more a.sn) c' (kept a.sn L ++ [x, y, r])) ∧ One w w' p := by
  have O := fun W (g : Below w.heap.size w W) => open_ok0 (T.keep g) h hp
  have AD := fun W (g : Below w.heap.size w W) => Add_own (S.keep g) hn x y r
  have zp := Blk.lt T
  go_enter Tryd.func17, Tryd.ntmps17
  go_wp2_with fail
  refine (O _ (by repeat (first | exact Below.refl _ _ | refine Below.drew ?_ | refine Below.alloc ?_ (by simp <;> omega) _))).mono ?_; rintro r w1 ⟨rfl, e1⟩
  subst e1
  have T1 := T.keep (show Below w.heap.size w (w.alloc (.cells #[.int .i64 x, .int .i64 y] 46)) from (by repeat (first | exact Below.refl _ _ | refine Below.drew ?_ | refine Below.alloc ?_ (by simp <;> omega) _)))
  have q4 := (Blk.cell T1 4).trans (show _ = some (.slice a.sa a.sn a.cp) from rfl)
  clear T1 O
  go_wp2_with fail
  go_region_law (first
    | (go_simp; go_at_call 39; refine (AD _ (by repeat (first | exact Below.refl _ _ | refine Below.drew ?_ | refine Below.alloc ?_ (by simp <;> omega) _))).mono ?_; rintro e w4 ⟨A', c', rfl, S4, g4⟩
       have B4 : Below w.heap.size w w4 := Below.trans (by repeat (first | exact Below.refl _ _ | refine Below.drew ?_ | refine Below.alloc ?_ (by simp <;> omega) _)) (g4.mono (by simp <;> omega))
       have q4' := (Blk.cell (T.keep B4) 4).trans (show _ = some _ from rfl)
       have f4 := Blk.free (T.keep B4) 4
       have S5 := Own.mono S4 (show p + 1 ≤ _ by simp <;> omega)))
  all_goals go_wp2
  all_goals go_ret
  all_goals exact ⟨rfl, ⟨A', c', Blk.set (T.keep B4) 4 _, Own.far S5 (fun k hk => Below.heap_setCell _ _ _ _ (by simp; omega))⟩, One.set (One.of B4) 4 _⟩

set_option maxRecDepth 100000 in
set_option maxHeartbeats 8000000 in
theorem Get_own0 {a b c : Sl} {p B : Nat} {L : List Int} {w : World} (T : Tb w p a b c) (h : a.th = true) (S : Own w B a.sa a.sn a.cp L) (hn : a.sn ≤ 100) : Calls Tryd.prog 13 #[.pointer (some ⟨p, 0, none⟩), .int .i64 0] w fun r w' => ∃ A' c', r = .returned (.tuple #[.agg #[.int .u8 a.id, .bool a.pl, .int .i64 a.sc, .slice A' a.sn c'], .bool true]) ∧ Own w' w.heap.size A' a.sn c' L ∧ Below w.heap.size w w' := by
  have K0 := Blk.new w #[.int .u8 0, .bool false, .int .i64 0, .slice none 0 0] 34
  have B0 : Below w.heap.size w (w.alloc (.cells #[.int .u8 0, .bool false, .int .i64 0, .slice none 0 0] 34)) := (Below.refl _ _).alloc (Nat.le_refl _) _
  have CL := fun W (g : Below w.heap.size w W) => clone_own (S.keep g) hn a.id a.pl a.sc
  replace T := Blk.alloc T (.cells #[.int .u8 0, .bool false, .int .i64 0, .slice none 0 0] 34)
  have I := is_0 T
  rw [h] at I
  have q1 := (Blk.cell T 1).trans (show (tcs a b c)[1]? = some (.int .u8 a.id) from rfl)
  have q2 := (Blk.cell T 2).trans (show (tcs a b c)[2]? = some (.bool a.pl) from rfl)
  have q3 := (Blk.cell T 3).trans (show (tcs a b c)[3]? = some (.int .i64 a.sc) from rfl)
  have q4 := (Blk.cell T 4).trans (show (tcs a b c)[4]? = some (.slice a.sa a.sn a.cp) from rfl)
  go_enter Tryd.func13, Tryd.ntmps13
  go_wp2_with fail
  refine I.mono ?_; rintro r w1 ⟨rfl, e1⟩
  subst e1
  go_wp2_with fail
  refine (CL _ B0).mono ?_; rintro r w2 ⟨A', c', rfl, S2, g⟩
  have K1 := Blk.keep K0 g
  have B2 := bbT B0 g
  have hz : w.heap.size + 1 ≤ (w.alloc (.cells #[.int .u8 0, .bool false, .int .i64 0, .slice none 0 0] 34)).heap.size := by simp
  replace S2 := Own.mono S2 hz
  clear K0 B0 g q1 q2 q3 q4 T I CL hz
  go_wp2_with (first | (refine stBs K1 rfl _ _ rfl rfl rfl rfl ?_))
  have K2 := setRow_heap5 (cs := #[.int .u8 a.id, .bool a.pl, .int .i64 a.sc, .slice A' a.sn c']) K1
  have z := Blk.lt K1
  refine bodyPost_ret (v := .tuple #[.agg #[.int .u8 a.id, .bool a.pl, .int .i64 a.sc, .slice A' a.sn c'], .bool true]) ?_ rfl ⟨A', c', rfl, Own.mono (Own.far S2 (fun k hk => setRow_other _ _ _ _ (by omega))) (by omega), ?_⟩
  · rw [results_cell_tmp rfl]
    have r0 := (Blk.cell K2 0).trans (show (#[.int .u8 a.id, .bool a.pl, .int .i64 a.sc, .slice A' a.sn c'] : Array Value)[0]? = some (.int .u8 a.id) from rfl)
    have r1 := (Blk.cell K2 1).trans (show (#[.int .u8 a.id, .bool a.pl, .int .i64 a.sc, .slice A' a.sn c'] : Array Value)[1]? = some (.bool a.pl) from rfl)
    have r2 := (Blk.cell K2 2).trans (show (#[.int .u8 a.id, .bool a.pl, .int .i64 a.sc, .slice A' a.sn c'] : Array Value)[2]? = some (.int .i64 a.sc) from rfl)
    have r3 := (Blk.cell K2 3).trans (show (#[.int .u8 a.id, .bool a.pl, .int .i64 a.sc, .slice A' a.sn c'] : Array Value)[3]? = some (.slice A' a.sn c') from rfl)
    go_simp
  · exact ⟨B2.os, B2.tape, B2.output, by simp; exact B2.size, fun k hk => (setRow_other _ _ _ _ (by omega)).trans (B2.block k hk)⟩

set_option maxRecDepth 100000 in
set_option maxHeartbeats 8000000 in
theorem Keep_ok1 {a b c : Sl} {p : Nat} {L : List Int} {w : World} (T : Tb w p a b c) (h : b.th = true) (hp : b.pl = false) (S : Own w (p + 1) b.sa b.sn b.cp L) (hn : b.sn ≤ 8) (x y r : Int) : Calls Tryd.prog 17 #[.pointer (some ⟨p, 0, none⟩), .int .i64 1, .agg #[.int .i64 x, .int .i64 y], .int .i64 r] w fun e w' => e = .returned .nilIface ∧ (∃ A' c', Tb w' p a ⟨b.th, b.id, b.pl, b.sc, A', more b.sn, c'⟩ c ∧ Own w' (p + 1) A' (more b.sn) c' (kept b.sn L ++ [x, y, r])) ∧ One w w' p := by
  have O := fun W (g : Below w.heap.size w W) => open_ok1 (T.keep g) h hp
  have AD := fun W (g : Below w.heap.size w W) => Add_own (S.keep g) hn x y r
  have zp := Blk.lt T
  go_enter Tryd.func17, Tryd.ntmps17
  go_wp2_with fail
  refine (O _ (by repeat (first | exact Below.refl _ _ | refine Below.drew ?_ | refine Below.alloc ?_ (by simp <;> omega) _))).mono ?_; rintro r w1 ⟨rfl, e1⟩
  subst e1
  have T1 := T.keep (show Below w.heap.size w (w.alloc (.cells #[.int .i64 x, .int .i64 y] 46)) from (by repeat (first | exact Below.refl _ _ | refine Below.drew ?_ | refine Below.alloc ?_ (by simp <;> omega) _)))
  have q4 := (Blk.cell T1 9).trans (show _ = some (.slice b.sa b.sn b.cp) from rfl)
  clear T1 O
  go_wp2_with fail
  go_region_law (first
    | (go_simp; go_at_call 39; refine (AD _ (by repeat (first | exact Below.refl _ _ | refine Below.drew ?_ | refine Below.alloc ?_ (by simp <;> omega) _))).mono ?_; rintro e w4 ⟨A', c', rfl, S4, g4⟩
       have B4 : Below w.heap.size w w4 := Below.trans (by repeat (first | exact Below.refl _ _ | refine Below.drew ?_ | refine Below.alloc ?_ (by simp <;> omega) _)) (g4.mono (by simp <;> omega))
       have q4' := (Blk.cell (T.keep B4) 9).trans (show _ = some _ from rfl)
       have f4 := Blk.free (T.keep B4) 9
       have S5 := Own.mono S4 (show p + 1 ≤ _ by simp <;> omega)))
  all_goals go_wp2
  all_goals go_ret
  all_goals exact ⟨rfl, ⟨A', c', Blk.set (T.keep B4) 9 _, Own.far S5 (fun k hk => Below.heap_setCell _ _ _ _ (by simp; omega))⟩, One.set (One.of B4) 9 _⟩

set_option maxRecDepth 100000 in
set_option maxHeartbeats 8000000 in
theorem Get_own1 {a b c : Sl} {p B : Nat} {L : List Int} {w : World} (T : Tb w p a b c) (h : b.th = true) (S : Own w B b.sa b.sn b.cp L) (hn : b.sn ≤ 100) : Calls Tryd.prog 13 #[.pointer (some ⟨p, 0, none⟩), .int .i64 1] w fun r w' => ∃ A' c', r = .returned (.tuple #[.agg #[.int .u8 b.id, .bool b.pl, .int .i64 b.sc, .slice A' b.sn c'], .bool true]) ∧ Own w' w.heap.size A' b.sn c' L ∧ Below w.heap.size w w' := by
  have K0 := Blk.new w #[.int .u8 0, .bool false, .int .i64 0, .slice none 0 0] 34
  have B0 : Below w.heap.size w (w.alloc (.cells #[.int .u8 0, .bool false, .int .i64 0, .slice none 0 0] 34)) := (Below.refl _ _).alloc (Nat.le_refl _) _
  have CL := fun W (g : Below w.heap.size w W) => clone_own (S.keep g) hn b.id b.pl b.sc
  replace T := Blk.alloc T (.cells #[.int .u8 0, .bool false, .int .i64 0, .slice none 0 0] 34)
  have I := is_1 T
  rw [h] at I
  have q1 := (Blk.cell T 6).trans (show (tcs a b c)[6]? = some (.int .u8 b.id) from rfl)
  have q2 := (Blk.cell T 7).trans (show (tcs a b c)[7]? = some (.bool b.pl) from rfl)
  have q3 := (Blk.cell T 8).trans (show (tcs a b c)[8]? = some (.int .i64 b.sc) from rfl)
  have q4 := (Blk.cell T 9).trans (show (tcs a b c)[9]? = some (.slice b.sa b.sn b.cp) from rfl)
  go_enter Tryd.func13, Tryd.ntmps13
  go_wp2_with fail
  refine I.mono ?_; rintro r w1 ⟨rfl, e1⟩
  subst e1
  go_wp2_with fail
  refine (CL _ B0).mono ?_; rintro r w2 ⟨A', c', rfl, S2, g⟩
  have K1 := Blk.keep K0 g
  have B2 := bbT B0 g
  have hz : w.heap.size + 1 ≤ (w.alloc (.cells #[.int .u8 0, .bool false, .int .i64 0, .slice none 0 0] 34)).heap.size := by simp
  replace S2 := Own.mono S2 hz
  clear K0 B0 g q1 q2 q3 q4 T I CL hz
  go_wp2_with (first | (refine stBs K1 rfl _ _ rfl rfl rfl rfl ?_))
  have K2 := setRow_heap5 (cs := #[.int .u8 b.id, .bool b.pl, .int .i64 b.sc, .slice A' b.sn c']) K1
  have z := Blk.lt K1
  refine bodyPost_ret (v := .tuple #[.agg #[.int .u8 b.id, .bool b.pl, .int .i64 b.sc, .slice A' b.sn c'], .bool true]) ?_ rfl ⟨A', c', rfl, Own.mono (Own.far S2 (fun k hk => setRow_other _ _ _ _ (by omega))) (by omega), ?_⟩
  · rw [results_cell_tmp rfl]
    have r0 := (Blk.cell K2 0).trans (show (#[.int .u8 b.id, .bool b.pl, .int .i64 b.sc, .slice A' b.sn c'] : Array Value)[0]? = some (.int .u8 b.id) from rfl)
    have r1 := (Blk.cell K2 1).trans (show (#[.int .u8 b.id, .bool b.pl, .int .i64 b.sc, .slice A' b.sn c'] : Array Value)[1]? = some (.bool b.pl) from rfl)
    have r2 := (Blk.cell K2 2).trans (show (#[.int .u8 b.id, .bool b.pl, .int .i64 b.sc, .slice A' b.sn c'] : Array Value)[2]? = some (.int .i64 b.sc) from rfl)
    have r3 := (Blk.cell K2 3).trans (show (#[.int .u8 b.id, .bool b.pl, .int .i64 b.sc, .slice A' b.sn c'] : Array Value)[3]? = some (.slice A' b.sn c') from rfl)
    go_simp
  · exact ⟨B2.os, B2.tape, B2.output, by simp; exact B2.size, fun k hk => (setRow_other _ _ _ _ (by omega)).trans (B2.block k hk)⟩

set_option maxRecDepth 100000 in
set_option maxHeartbeats 8000000 in
theorem Keep_ok2 {a b c : Sl} {p : Nat} {L : List Int} {w : World} (T : Tb w p a b c) (h : c.th = true) (hp : c.pl = false) (S : Own w (p + 1) c.sa c.sn c.cp L) (hn : c.sn ≤ 8) (x y r : Int) : Calls Tryd.prog 17 #[.pointer (some ⟨p, 0, none⟩), .int .i64 2, .agg #[.int .i64 x, .int .i64 y], .int .i64 r] w fun e w' => e = .returned .nilIface ∧ (∃ A' c', Tb w' p a b ⟨c.th, c.id, c.pl, c.sc, A', more c.sn, c'⟩ ∧ Own w' (p + 1) A' (more c.sn) c' (kept c.sn L ++ [x, y, r])) ∧ One w w' p := by
  have O := fun W (g : Below w.heap.size w W) => open_ok2 (T.keep g) h hp
  have AD := fun W (g : Below w.heap.size w W) => Add_own (S.keep g) hn x y r
  have zp := Blk.lt T
  go_enter Tryd.func17, Tryd.ntmps17
  go_wp2_with fail
  refine (O _ (by repeat (first | exact Below.refl _ _ | refine Below.drew ?_ | refine Below.alloc ?_ (by simp <;> omega) _))).mono ?_; rintro r w1 ⟨rfl, e1⟩
  subst e1
  have T1 := T.keep (show Below w.heap.size w (w.alloc (.cells #[.int .i64 x, .int .i64 y] 46)) from (by repeat (first | exact Below.refl _ _ | refine Below.drew ?_ | refine Below.alloc ?_ (by simp <;> omega) _)))
  have q4 := (Blk.cell T1 14).trans (show _ = some (.slice c.sa c.sn c.cp) from rfl)
  clear T1 O
  go_wp2_with fail
  go_region_law (first
    | (go_simp; go_at_call 39; refine (AD _ (by repeat (first | exact Below.refl _ _ | refine Below.drew ?_ | refine Below.alloc ?_ (by simp <;> omega) _))).mono ?_; rintro e w4 ⟨A', c', rfl, S4, g4⟩
       have B4 : Below w.heap.size w w4 := Below.trans (by repeat (first | exact Below.refl _ _ | refine Below.drew ?_ | refine Below.alloc ?_ (by simp <;> omega) _)) (g4.mono (by simp <;> omega))
       have q4' := (Blk.cell (T.keep B4) 14).trans (show _ = some _ from rfl)
       have f4 := Blk.free (T.keep B4) 14
       have S5 := Own.mono S4 (show p + 1 ≤ _ by simp <;> omega)))
  all_goals go_wp2
  all_goals go_ret
  all_goals exact ⟨rfl, ⟨A', c', Blk.set (T.keep B4) 14 _, Own.far S5 (fun k hk => Below.heap_setCell _ _ _ _ (by simp; omega))⟩, One.set (One.of B4) 14 _⟩

set_option maxRecDepth 100000 in
set_option maxHeartbeats 8000000 in
theorem Get_own2 {a b c : Sl} {p B : Nat} {L : List Int} {w : World} (T : Tb w p a b c) (h : c.th = true) (S : Own w B c.sa c.sn c.cp L) (hn : c.sn ≤ 100) : Calls Tryd.prog 13 #[.pointer (some ⟨p, 0, none⟩), .int .i64 2] w fun r w' => ∃ A' c', r = .returned (.tuple #[.agg #[.int .u8 c.id, .bool c.pl, .int .i64 c.sc, .slice A' c.sn c'], .bool true]) ∧ Own w' w.heap.size A' c.sn c' L ∧ Below w.heap.size w w' := by
  have K0 := Blk.new w #[.int .u8 0, .bool false, .int .i64 0, .slice none 0 0] 34
  have B0 : Below w.heap.size w (w.alloc (.cells #[.int .u8 0, .bool false, .int .i64 0, .slice none 0 0] 34)) := (Below.refl _ _).alloc (Nat.le_refl _) _
  have CL := fun W (g : Below w.heap.size w W) => clone_own (S.keep g) hn c.id c.pl c.sc
  replace T := Blk.alloc T (.cells #[.int .u8 0, .bool false, .int .i64 0, .slice none 0 0] 34)
  have I := is_2 T
  rw [h] at I
  have q1 := (Blk.cell T 11).trans (show (tcs a b c)[11]? = some (.int .u8 c.id) from rfl)
  have q2 := (Blk.cell T 12).trans (show (tcs a b c)[12]? = some (.bool c.pl) from rfl)
  have q3 := (Blk.cell T 13).trans (show (tcs a b c)[13]? = some (.int .i64 c.sc) from rfl)
  have q4 := (Blk.cell T 14).trans (show (tcs a b c)[14]? = some (.slice c.sa c.sn c.cp) from rfl)
  go_enter Tryd.func13, Tryd.ntmps13
  go_wp2_with fail
  refine I.mono ?_; rintro r w1 ⟨rfl, e1⟩
  subst e1
  go_wp2_with fail
  refine (CL _ B0).mono ?_; rintro r w2 ⟨A', c', rfl, S2, g⟩
  have K1 := Blk.keep K0 g
  have B2 := bbT B0 g
  have hz : w.heap.size + 1 ≤ (w.alloc (.cells #[.int .u8 0, .bool false, .int .i64 0, .slice none 0 0] 34)).heap.size := by simp
  replace S2 := Own.mono S2 hz
  clear K0 B0 g q1 q2 q3 q4 T I CL hz
  go_wp2_with (first | (refine stBs K1 rfl _ _ rfl rfl rfl rfl ?_))
  have K2 := setRow_heap5 (cs := #[.int .u8 c.id, .bool c.pl, .int .i64 c.sc, .slice A' c.sn c']) K1
  have z := Blk.lt K1
  refine bodyPost_ret (v := .tuple #[.agg #[.int .u8 c.id, .bool c.pl, .int .i64 c.sc, .slice A' c.sn c'], .bool true]) ?_ rfl ⟨A', c', rfl, Own.mono (Own.far S2 (fun k hk => setRow_other _ _ _ _ (by omega))) (by omega), ?_⟩
  · rw [results_cell_tmp rfl]
    have r0 := (Blk.cell K2 0).trans (show (#[.int .u8 c.id, .bool c.pl, .int .i64 c.sc, .slice A' c.sn c'] : Array Value)[0]? = some (.int .u8 c.id) from rfl)
    have r1 := (Blk.cell K2 1).trans (show (#[.int .u8 c.id, .bool c.pl, .int .i64 c.sc, .slice A' c.sn c'] : Array Value)[1]? = some (.bool c.pl) from rfl)
    have r2 := (Blk.cell K2 2).trans (show (#[.int .u8 c.id, .bool c.pl, .int .i64 c.sc, .slice A' c.sn c'] : Array Value)[2]? = some (.int .i64 c.sc) from rfl)
    have r3 := (Blk.cell K2 3).trans (show (#[.int .u8 c.id, .bool c.pl, .int .i64 c.sc, .slice A' c.sn c'] : Array Value)[3]? = some (.slice A' c.sn c') from rfl)
    go_simp
  · exact ⟨B2.os, B2.tape, B2.output, by simp; exact B2.size, fun k hk => (setRow_other _ _ _ _ (by omega)).trans (B2.block k hk)⟩

end Go.Proofs.YtekcemncmgingaaDoor.YErr
