/- The statement ClockTakes of layer 14: the walk. Condition: errors.errorType holds its type's handle; the lists read so. Printed by a program of this session. -/
import Derived.Test.YtbfflffekdadnaaDoorYClockLaws
import Derived.Deep.LoopGhost
namespace Go.Proofs.YtbfflffekdadnaaDoor.YErr
open Go.RowKit Go.Extern.Stop Go.Stop Go.Extern
set_option linter.unusedVariables false
set_option linter.unusedSimpArgs false

def RClk (w : World) (b : Nat) (l : Int) (a : Bool) : Prop := Blk w b #[.int .u32 l, .bool a] 38
theorem Clone_calls {w : World} {b : Nat} {l : Int} {a : Bool} (h : Clk w b l a) :
    Calls Tryd.prog 14 #[.pointer (some ⟨b, 0, none⟩)] w fun e w' => e = .returned (.pointer (some ⟨w.heap.size, 0, none⟩)) ∧ Clk w' w.heap.size l a ∧ Below w.heap.size w w' := by
  have c0 : w.cell? ⟨b, 0, none⟩ = some (.int .u32 l) := Blk.cell h 0
  have c1 : w.cell? ⟨b, 1, none⟩ = some (.bool a) := Blk.cell h 1
  go_enter Tryd.func14, Tryd.ntmps14
  go_wp2
  go_ret
  exact ⟨rfl, Blk.new _ _ _, (Below.refl _ _).alloc (Nat.le_refl _) _⟩
set_option maxHeartbeats 1000000 in
theorem rTake_first {w : World} {b : Nat} {l : Int} (t : Int) (h : RClk w b l false) :
    Calls Tryd.prog 15 #[.pointer (some ⟨b, 0, none⟩), .int .u32 t] w fun e w' => e = .returned (.tuple #[.int .u32 0, .int .i64 0]) ∧ RClk w' b t true ∧ w.grownBy w' (some b) := by
  have c0 : w.cell? ⟨b, 0, none⟩ = some (.int .u32 l) := Blk.cell h 0
  have c1 : w.cell? ⟨b, 1, none⟩ = some (.bool false) := Blk.cell h 1
  have f0 := Blk.free h 0
  have f1 := Blk.free h 1
  go_enter Tryd.func15, Tryd.ntmps15
  go_wp2
  go_ret2
  exact ⟨rfl, (h.set 0 (.int .u32 t)).set 1 (.bool true), gro_set (gro_set (gro_refl _ _) _ _) _ _⟩
set_option maxHeartbeats 1000000 in
theorem rTake_new {w : World} {b : Nat} {l : Int} (t : Int) (h : RClk w b l true) (hd : (t - l) % 4294967296 < 2147483648) :
    Calls Tryd.prog 15 #[.pointer (some ⟨b, 0, none⟩), .int .u32 t] w fun e w' => e = .returned (.tuple #[.int .u32 ((t - l) % 4294967296), .int .i64 0]) ∧ RClk w' b t true ∧ w.grownBy w' (some b) := by
  have c0 : w.cell? ⟨b, 0, none⟩ = some (.int .u32 l) := Blk.cell h 0
  have c1 : w.cell? ⟨b, 1, none⟩ = some (.bool true) := Blk.cell h 1
  have f0 := Blk.free h 0
  have f1 := Blk.free h 1
  have ew : IntKind.u32.wrap (t - l) = (t - l) % 4294967296 := u32w _
  go_enter Tryd.func15, Tryd.ntmps15
  go_wp2
  go_ret2
  exact ⟨rfl, (h.set 0 (.int .u32 t)).set 1 (.bool true), gro_set (gro_set (gro_refl _ _) _ _) _ _⟩
set_option maxHeartbeats 1000000 in
theorem rTake_old {w : World} {b : Nat} {l : Int} (t : Int) (h : RClk w b l true) (hd : 2147483648 ≤ (t - l) % 4294967296) :
    Calls Tryd.prog 15 #[.pointer (some ⟨b, 0, none⟩), .int .u32 t] w fun e w' => e = .returned (.tuple #[.int .u32 0, .int .i64 28]) ∧ RClk w' b l true ∧ w.grownBy w' (some b) := by
  have c0 : w.cell? ⟨b, 0, none⟩ = some (.int .u32 l) := Blk.cell h 0
  have c1 : w.cell? ⟨b, 1, none⟩ = some (.bool true) := Blk.cell h 1
  have ew : IntKind.u32.wrap (t - l) = (t - l) % 4294967296 := u32w _
  go_enter Tryd.func15, Tryd.ntmps15
  go_wp2
  go_ret2
  exact ⟨rfl, h, gro_refl _ _⟩

/-! ### both, in one: what a time comes to -/
def tkD (l t : Int) (a : Bool) : Int := if a = true ∧ (t - l) % 4294967296 < 2147483648 then (t - l) % 4294967296 else 0
def tkC (l t : Int) (a : Bool) : Int := if a = true ∧ 2147483648 ≤ (t - l) % 4294967296 then 28 else 0
def tkL (l t : Int) (a : Bool) : Int := if a = true ∧ 2147483648 ≤ (t - l) % 4294967296 then l else t
theorem Take_c {w : World} {b : Nat} {l : Int} {a : Bool} (t : Int) (h : Clk w b l a) :
    Calls Tryd.prog 11 #[.pointer (some ⟨b, 0, none⟩), .int .u32 t] w fun e w' => ∃ v, e = .returned (.tuple #[.int .u32 (tkD l t a), v]) ∧ ErrFrom op14 w.heap.size w' v (tkC l t a) ∧ Clk w' b (tkL l t a) true ∧ w.grownBy w' (some b) := by
  unfold tkD tkC tkL
  cases a
  · rw [if_neg (by simp), if_neg (by simp), if_neg (by simp)]
    refine (Take_first t h).mono ?_
    rintro e w' ⟨rfl, h', g⟩
    exact ⟨_, rfl, ErrFrom.nil _ _ _, h', g⟩
  · by_cases hd : (t - l) % 4294967296 < 2147483648
    · rw [if_pos ⟨rfl, hd⟩, if_neg (fun z => by omega), if_neg (fun z => by omega)]
      refine (Take_new t h hd).mono ?_
      rintro e w' ⟨rfl, h', g⟩
      exact ⟨_, rfl, ErrFrom.nil _ _ _, h', g⟩
    · rw [if_neg (fun z => by omega), if_pos ⟨rfl, by omega⟩, if_pos ⟨rfl, by omega⟩]
      refine (Take_old t h (by omega)).mono ?_
      rintro e w' ⟨v, rfl, hv, h', g⟩
      exact ⟨_, rfl, hv, h', gro_below g⟩
theorem rTake_c {w : World} {b : Nat} {l : Int} {a : Bool} (t : Int) (h : RClk w b l a) :
    Calls Tryd.prog 15 #[.pointer (some ⟨b, 0, none⟩), .int .u32 t] w fun e w' => e = .returned (.tuple #[.int .u32 (tkD l t a), .int .i64 (tkC l t a)]) ∧ RClk w' b (tkL l t a) true ∧ w.grownBy w' (some b) := by
  unfold tkD tkC tkL
  cases a
  · rw [if_neg (by simp), if_neg (by simp), if_neg (by simp)]
    exact rTake_first t h
  · by_cases hd : (t - l) % 4294967296 < 2147483648
    · rw [if_pos ⟨rfl, hd⟩, if_neg (fun z => by omega), if_neg (fun z => by omega)]
      exact rTake_new t h hd
    · rw [if_neg (fun z => by omega), if_pos ⟨rfl, by omega⟩, if_pos ⟨rfl, by omega⟩]
      exact rTake_old t h (by omega)
theorem says_same14 (n : Int) (v : Value) (W : World) (hg : Laid W) (h : ErrIs op14 W v n) : Calls Tryd.prog 13 #[v, .int .i64 n] W fun e w' => e = .returned (.bool true) ∧ Below W.heap.size W w' := by
  have := says14 n W hg h
  simpa using this
/-- A list of numbers that lies in memory. -/
def Lies (k : IntKind) (w : World) (A : Option Addr) (zs : List Int) : Prop := 0 < zs.length → ∃ b off, A = some ⟨b, off, none⟩ ∧ ∀ i, i < zs.length → w.cell? ⟨b, off + i, none⟩ = some (.int k (zs.getD i 0))
theorem unN {w w1 : World} {n : Nat} (g : Below (w.drewN n).heap.size (w.drewN n) w1) : Below w.heap.size w w1 := ⟨g.os, g.tape, g.output, g.size, g.block⟩
theorem bb {W w w' : World} (h : Below W.heap.size W w) (g : Below w.heap.size w w') : Below W.heap.size W w' := h.trans (g.mono h.size)
theorem bg {W w w' : World} {b : Nat} (h : Below W.heap.size W w) (g : w.grownBy w' (some b)) (hb : W.heap.size ≤ b) : Below W.heap.size W w' := h.grown g h.size (by intro k hk; cases hk; exact hb)


set_option maxRecDepth 100000 in
set_option maxHeartbeats 8000000 in
theorem Takes_walk (A A' : Option Addr) (c c' : Nat) (l near : List Int) (w : World) (hg : Laid w) (hl : Lies .u32 w A l) (hn : Lies .u16 w A' near) (ll : l.length ≤ 60) (ln : l.length ≤ near.length) (lx : near.length ≤ 9223372036854775807)
    (wl : ∀ i, 0 ≤ l.getD i 0 ∧ l.getD i 0 < 4294967296) (wn : ∀ i, 0 ≤ near.getD i 0 ∧ near.getD i 0 < 65536) :
    Calls Tryd.prog 4 #[.slice A l.length c, .slice A' near.length c'] w fun e w' => e = .returned (.bool true) ∧ Below w.heap.size w w' := by
  have K := known14 w hg
  go_enter Tryd.func4, Tryd.ntmps4
  go_wp2_with fail
  refine K.mono ?_; rintro e w0 ⟨rfl, k0⟩
  go_wp2_with fail
  refine (New_calls _).mono ?_; rintro e W1 ⟨rfl, H1, G1⟩
  have B1 := bb k0 G1
  have H2 := Blk.alloc H1 (.cells #[.int .u32 0, .bool false] 38)
  have R2 := Blk.new W1 #[.int .u32 0, .bool false] 38
  have B2 := B1.alloc B1.size (.cells #[.int .u32 0, .bool false] 38)
  have hlt := Blk.lt H1
  have z0 : w.heap.size ≤ w0.heap.size := k0.size
  have z1 : w.heap.size ≤ W1.heap.size := B1.size
  generalize hbc0 : w0.heap.size = bc at *
  have hne : bc ≠ W1.heap.size := by omega
  have hbc : w.heap.size ≤ bc := z0
  have hbw : w.heap.size ≤ W1.heap.size := z1
  clear hbc0 hlt z0 z1
  go_wp2_with fail
  go_loopw [7] (fun i wr => ∃ (k : Nat) (L : Int) (a : Bool), k ≤ l.length ∧ i = .int .i64 k ∧ Clk wr bc L a ∧ RClk wr W1.heap.size L a ∧ Below w.heap.size w wr) (fun i _ => l.length - (intOf i).toNat)
  case atStart => exact ⟨0, 0, false, Nat.zero_le _, rfl, H2, R2, B2⟩
  case round =>
    obtain ⟨k, L, a, hk, rfl, hC, hW, hb⟩ := hrel
    clear H1 H2 R2 B1 B2 G1 k0 K
    by_cases hlt : k < l.length
    · have hlt' : k < near.length := by omega
      obtain ⟨b1, o1, rfl, hc1⟩ := hl (by omega)
      obtain ⟨b2, o2, rfl, hc2⟩ := hn (by omega)
      have q1 := hc1 k hlt
      have q2 := hc2 k hlt'
      have y1 := (hb.cell (p := ⟨b1, o1 + k, none⟩) (World.block_lt_of_cell? w ⟨b1, o1 + k, none⟩ q1)).trans q1
      have y2 := (hb.cell (p := ⟨b2, o2 + k, none⟩) (World.block_lt_of_cell? w ⟨b2, o2 + k, none⟩ q2)).trans q2
      have u1 := wl k
      have u2 := wn k
      have x0 : _ = _ := Blk.cell hW 0
      have x1 : _ = _ := Blk.cell hW 1
      simp at x0 x1
      generalize l.getD k 0 = U at *
      generalize near.getD k 0 = V at *
      clear hl hn hc1 hc2 q1 q2 wl wn
      by_cases h3 : 0 < k % 3
      · go_wp2_with fail
        go_quiet (fail)
        go_wp2_with fail
        refine (Clone_calls (w := wr.drewN nq) (l := L) (a := a) hC).mono ?_; rintro e w1 ⟨rfl, hK1, g1⟩
        replace g1 := unN g1
        have b1 := bb hb g1
        have hC1 := Blk.keep hC g1
        have hW1 := Blk.keep hW g1
        go_wp2_with fail
        refine (Take_c _ hC1).mono ?_; rintro e w2 ⟨v2, rfl, hv2, hC2, g2⟩
        have b2 := bg b1 g2 hbc
        have hW2 := Blk.grown hW1 g2 (by simp; omega)
        have hK2 := Blk.grown hK1 g2 (by have := Blk.lt hC; simp; omega)
        go_wp2_with fail
        refine (rTake_c _ hW2).mono ?_; rintro e w3 ⟨rfl, hW3, g3⟩
        have b3 := bg b2 g3 hbw
        have hC3 := Blk.grown hC2 g3 (by simp; omega)
        have hK3 := Blk.grown hK2 g3 (by have := Blk.lt hW; simp; omega)
        have hv3 := hv2.grown g3 (Blk.lt hW1)
        go_wp2_with fail
        refine (Last_calls hC3).mono ?_; rintro e w4 ⟨rfl, n4, rfl⟩
        have S1 := says_same14 _ v2 (w3.drewN n4) (hg.below (below_drewN b3 n4)) hv3.is
        go_wp2_with fail
        refine S1.mono ?_; rintro e w5 ⟨rfl, g5⟩
        have b5 := bb (below_drewN b3 n4) g5
        have hC5 := Blk.keep (Blk.drewN hC3 n4) g5
        have hW5 := Blk.keep (Blk.drewN hW3 n4) g5
        have hK5 := Blk.keep (Blk.drewN hK3 n4) g5
        have x0 : w5.cell? ⟨W1.heap.size, 0, none⟩ = some (.int .u32 _) := Blk.cell hW5 0
        have x1 : w5.cell? ⟨W1.heap.size, 1, none⟩ = some (.bool true) := Blk.cell hW5 1
        go_wp2_with fail
        refine (Take_c _ hK5).mono ?_; rintro e w6 ⟨v6, rfl, hv6, hK6, g6⟩
        have hkb := hb.size
        have b6 := bg b5 g6 hkb
        have hC6 := Blk.grown hC5 g6 (by have := Blk.lt hC; simp; omega)
        have hW6 := Blk.grown hW5 g6 (by have := Blk.lt hW; simp; omega)
        have S2 := says_same14 _ v6 w6 (hg.below b6) hv6.is
        go_wp2_with fail
        refine S2.mono ?_; rintro e w7 ⟨rfl, g7⟩
        have b7 := bb b6 g7
        have hC7 := Blk.keep hC6 g7
        have hW7 := Blk.keep hW6 g7
        clear x0 x1
        go_wp2_with fail
        go_roundw
        case rel => exact ⟨k + 1, _, true, by omega, by go_num, hC7, hW7, b7⟩
        case measure => simp [intOf]; omega
      · have h3' : k % 3 = 0 := by omega
        go_wp2_with fail
        refine (Clone_calls hC).mono ?_; rintro e w1 ⟨rfl, hK1, g1⟩
        skip
        have b1 := bb hb g1
        have hC1 := Blk.keep hC g1
        have hW1 := Blk.keep hW g1
        go_wp2_with fail
        refine (Take_c _ hC1).mono ?_; rintro e w2 ⟨v2, rfl, hv2, hC2, g2⟩
        have b2 := bg b1 g2 hbc
        have hW2 := Blk.grown hW1 g2 (by simp; omega)
        have hK2 := Blk.grown hK1 g2 (by have := Blk.lt hC; simp; omega)
        go_wp2_with fail
        refine (rTake_c _ hW2).mono ?_; rintro e w3 ⟨rfl, hW3, g3⟩
        have b3 := bg b2 g3 hbw
        have hC3 := Blk.grown hC2 g3 (by simp; omega)
        have hK3 := Blk.grown hK2 g3 (by have := Blk.lt hW; simp; omega)
        have hv3 := hv2.grown g3 (Blk.lt hW1)
        go_wp2_with fail
        refine (Last_calls hC3).mono ?_; rintro e w4 ⟨rfl, n4, rfl⟩
        have S1 := says_same14 _ v2 (w3.drewN n4) (hg.below (below_drewN b3 n4)) hv3.is
        go_wp2_with fail
        refine S1.mono ?_; rintro e w5 ⟨rfl, g5⟩
        have b5 := bb (below_drewN b3 n4) g5
        have hC5 := Blk.keep (Blk.drewN hC3 n4) g5
        have hW5 := Blk.keep (Blk.drewN hW3 n4) g5
        have hK5 := Blk.keep (Blk.drewN hK3 n4) g5
        have x0 : w5.cell? ⟨W1.heap.size, 0, none⟩ = some (.int .u32 _) := Blk.cell hW5 0
        have x1 : w5.cell? ⟨W1.heap.size, 1, none⟩ = some (.bool true) := Blk.cell hW5 1
        go_wp2_with fail
        refine (Take_c _ hK5).mono ?_; rintro e w6 ⟨v6, rfl, hv6, hK6, g6⟩
        have hkb := hb.size
        have b6 := bg b5 g6 hkb
        have hC6 := Blk.grown hC5 g6 (by have := Blk.lt hC; simp; omega)
        have hW6 := Blk.grown hW5 g6 (by have := Blk.lt hW; simp; omega)
        have S2 := says_same14 _ v6 w6 (hg.below b6) hv6.is
        go_wp2_with fail
        refine S2.mono ?_; rintro e w7 ⟨rfl, g7⟩
        have b7 := bb b6 g7
        have hC7 := Blk.keep hC6 g7
        have hW7 := Blk.keep hW6 g7
        clear x0 x1
        go_wp2_with fail
        go_roundw
        case rel => exact ⟨k + 1, _, true, by omega, by go_num, hC7, hW7, b7⟩
        case measure => simp [intOf]; omega
    · go_wp2
      go_ret
      exact ⟨rfl, hb⟩


set_option maxRecDepth 100000 in
set_option maxHeartbeats 2000000 in
theorem ClockTakes_law (A : Option Addr) (c : Nat) (l : List Int) (A' : Option Addr) (c' : Nat) (near : List Int) (w : World) (hg : Laid w) (c0 : l.length ≤ c) (c1 : c ≤ maxLen) (wl : ∀ n ∈ l, (Lit.int .u32 n).wf = true) (hl : Lies .u32 w A l)
    (c0' : near.length ≤ c') (c1' : c' ≤ maxLen) (wn : ∀ n ∈ near, (Lit.int .u16 n).wf = true) (hn : Lies .u16 w A' near) :
    Calls Tryd.prog 4 #[.slice A l.length c, .slice A' near.length c'] w fun e w' => e = .returned (.bool true) ∧ Below w.heap.size w w' := by
  unfold maxLen at c1 c1'
  have range : ∀ (z : List Int) (m : Int), 0 < m → (∀ n ∈ z, 0 ≤ n ∧ n < m) → ∀ i, 0 ≤ z.getD i 0 ∧ z.getD i 0 < m := by
    intro z m hm h i
    rw [List.getD_eq_getElem?_getD]
    rcases Nat.lt_or_ge i z.length with hi | hi
    · rw [List.getElem?_eq_getElem hi]; exact h _ (List.getElem_mem hi)
    · rw [List.getElem?_eq_none hi]; exact ⟨Int.le_refl 0, hm⟩
  by_cases h1 : l.length ≤ 60
  · by_cases h2 : l.length ≤ near.length
    · exact Takes_walk A A' c c' l near w hg hl hn h1 h2 (by omega)
        (range l 4294967296 (by decide) (fun n hn => by have := wl n hn; simp [Lit.wf, IntKind.min, IntKind.max, IntKind.bits, IntKind.signed] at this; omega))
        (range near 65536 (by decide) (fun n hn => by have := wn n hn; simp [Lit.wf, IntKind.min, IntKind.max, IntKind.bits, IntKind.signed] at this; omega))
    · have K := known14 w hg
      clear wl wn hl hn range
      go_enter Tryd.func4, Tryd.ntmps4
      go_wp2_with fail
      refine K.mono ?_; rintro e w0 ⟨rfl, k0⟩
      go_wp2_with fail
      go_ret
      exact ⟨rfl, k0⟩
  · have K := known14 w hg
    clear wl wn hl hn range
    go_enter Tryd.func4, Tryd.ntmps4
    go_wp2_with fail
    refine K.mono ?_; rintro e w0 ⟨rfl, k0⟩
    go_wp2_with fail
    go_ret
    exact ⟨rfl, k0⟩

end Go.Proofs.YtbfflffekdadnaaDoor.YErr
