/- Lean functions, contracts and lemmas that this claim needs. No condition. -/
import Derived.Test.YtfcandmhalhaeaaDoorAYSymT
namespace Go.Proofs.YtfcandmhalhaeaaDoor.YSym
open Go.RowKit Go.Proofs.YtfcandmhalhaeaaDoor.YErr Go.Proofs.YtfcandmhalhaeaaDoor.YInv Go.Proofs.YtfcandmhalhaeaaDoor.YRef Go.Proofs.YtfcandmhalhaeaaDoor.YBits Go.Proofs.YtfcandmhalhaeaaDoor.YNum Go.Proofs.YtfcandmhalhaeaaDoor.QSy Go.Proofs.YtfcandmhalhaeaaDoor.YWide Go.Proofs.YtfcandmhalhaeaaDoorW.PrintWords Go.Proofs.YtfcandmhalhaeaaDoorW.PrintLast
set_option linter.unusedVariables false
set_option linter.unusedSimpArgs false
set_option maxRecDepth 100000 in
set_option maxHeartbeats 8000000 in
theorem light_c {w : World} {n : Int} {A : Option Addr} {c k : Nat} : Calls Tryd.prog 8 #[.agg #[.int .i64 n, .slice A k c]] w fun e w' => e = .returned (.bool (decide ((k : Int) ≤ 60))) ∧ Below w.heap.size w w' := by
  have b0 : Below w.heap.size w (w.alloc (.cells #[.int .i64 n, .slice A k c] 24)) := (Below.refl _ _).alloc (Nat.le_refl _) _
  by_cases h : k ≤ 60
  · have e1 : decide ((k : Int) ≤ 60) = true := by simp; omega
    rw [e1]
    have e2 : decide (k ≤ 60) = true := by simpa using h
    clear h
    go_enter Tryd.func8, Tryd.ntmps8
    go_wp2_with fail
    go_ret
    exact ⟨rfl, b0⟩
  · have e1 : decide ((k : Int) ≤ 60) = false := by simp; omega
    rw [e1]
    have e2 : decide (k ≤ 60) = false := by simpa using h
    clear h
    go_enter Tryd.func8, Tryd.ntmps8
    go_wp2_with fail
    go_ret
    exact ⟨rfl, b0⟩
theorem _root_.Go.Proofs.YtfcandmhalhaeaaDoor.YErr.ErrFrom.keep {op : ByteArray} {B : Nat} {w w' : World} {v : Value} {c : Int} (h : ErrFrom op B w v c) (g : Below w.heap.size w w') : ErrFrom op B w' v c := ErrFrom.below (C := 0) h g
theorem _root_.Go.Proofs.YtfcandmhalhaeaaDoor.YErr.Laid.keep {w w' : World} (h : Laid w) (g : Below w.heap.size w w') : Laid w' := h.below g
/-- A slice's number of small wholes (of any kind) that lie there. -/
def RdK (k : IntKind) (w : World) (A : Option Addr) (l : List Int) : Prop := 0 < l.length → ∃ b off, A = some ⟨b, off, none⟩ ∧ ∀ i, i < l.length → w.cell? ⟨b, off + i, none⟩ = some (.int k (l.getD i 0))
theorem RdK.keep {k : IntKind} {w w' : World} {A : Option Addr} {l : List Int} (h : RdK k w A l) (b : Below w.heap.size w w') : RdK k w' A l := fun hp => by
  obtain ⟨g, o, e, hc⟩ := h hp
  exact ⟨g, o, e, fun i hi => (b.cell (p := ⟨g, o + i, none⟩) (lt_of_cell (a := ⟨g, o + i, none⟩) (hc i hi))).trans (hc i hi)⟩
theorem setE_0 (n : Int) (l : List Int) (i j : Int) : setE n l i j 0 = inE n l [i, j] := by
  unfold setE
  by_cases h : inE n l [i, j] = 0
  · rw [if_pos h, if_pos (by decide), h]
  · rw [if_neg h]
theorem setL_len {n : Int} {l : List Int} {i j v : Int} (h : l.length ≤ 1000) : (setL n l i j v).length ≤ 1000 := by
  unfold setL
  split
  · simpa using h
  · simp
/-- What the loop over the matrices knows of them. -/
def Two (w : World) (g : Nat) : Prop := ∀ r, r < 2 → ∃ (N : Int) (A : Option Addr) (C : Nat) (L : List Int), w.cell? ⟨g, r * 2, none⟩ = some (.int .i64 N) ∧ w.cell? ⟨g, r * 2 + 1, none⟩ = some (.slice A L.length C) ∧ Rd w A L ∧ L.length ≤ C ∧ L.length ≤ 60
theorem Two.keep {w w' : World} {g : Nat} (h : Two w g) (b : Below w.heap.size w w') : Two w' g := fun r hr => by
  obtain ⟨N, A, C, L, h1, h2, h3, h4⟩ := h r hr
  exact ⟨N, A, C, L, (b.cell (lt_of_cell h1)).trans h1, (b.cell (lt_of_cell h2)).trans h2, h3.keep b, h4⟩
/-- What the loop over the pairs knows of them. -/
def Prs (w : World) (g : Nat) : Prop := ∀ t, t < 3 → ∃ x y : Int, w.cell? ⟨g, t * 2, none⟩ = some (.int .i64 x) ∧ w.cell? ⟨g, t * 2 + 1, none⟩ = some (.int .i64 y)
theorem Prs.keep {w w' : World} {g : Nat} (h : Prs w g) (b : Below w.heap.size w w') : Prs w' g := fun t ht => by
  obtain ⟨x, y, h1, h2⟩ := h t ht
  exact ⟨x, y, (b.cell (lt_of_cell h1)).trans h1, (b.cell (lt_of_cell h2)).trans h2⟩
theorem Prs.of {w : World} {g : Nat} {a b c d e f : Int} {T : TypeId} (k : Blk w g #[.int .i64 a, .int .i64 b, .int .i64 c, .int .i64 d, .int .i64 e, .int .i64 f] T) : Prs w g := fun t ht => by
  match t, ht with
  | 0, _ => exact ⟨a, b, k.cell 0, k.cell 1⟩
  | 1, _ => exact ⟨c, d, k.cell 2, k.cell 3⟩
  | 2, _ => exact ⟨e, f, k.cell 4, k.cell 5⟩
theorem Two.of {w : World} {g : Nat} {n m : Int} {A A' : Option Addr} {c c' : Nat} {l l' : List Int} {T : TypeId} (k : Blk w g #[.int .i64 n, .slice A l.length c, .int .i64 m, .slice A' l'.length c'] T) (R : Rd w A l) (h1 : l.length ≤ c) (h2 : l.length ≤ 60) (R' : Rd w A' l') (h1' : l'.length ≤ c') (h2' : l'.length ≤ 60) : Two w g := fun t ht => by
  match t, ht with
  | 0, _ => exact ⟨n, A, c, l, k.cell 0, k.cell 1, R, h1, h2⟩
  | 1, _ => exact ⟨m, A', c', l', k.cell 2, k.cell 3, R', h1', h2'⟩
set_option maxRecDepth 100000 in
set_option maxHeartbeats 16000000 in
theorem SymTells_c {n : Int} {A : Option Addr} {c : Nat} {l : List Int} {a1 a2 : Int} {B : Option Addr} {d : Nat} {hs : List Int} (i j v : Int) {w : World} (hg : Laid w) (lc : l.length ≤ c) (RA : Rd w A l) (x0 : 0 ≤ a1) (x1 : a1 ≤ 255) (x2 : 0 ≤ a2) (x3 : a2 ≤ 65535) (wh : ∀ x ∈ hs, -32768 ≤ x ∧ x ≤ 32767) (RH : RdK .i16 w B hs) :
    Calls Tryd.prog 3 #[.agg #[.int .i64 n, .slice A l.length c], .int .u8 a1, .int .u16 a2, .slice B hs.length d, .int .i64 i, .int .i64 j, .int .i64 v] w fun e w' => e = .returned (.bool true) ∧ Below w.heap.size w w' := by
  have b0 := Below.refl w.heap.size w
  go_enter Tryd.func3, Tryd.ntmps3
  have ga : Below w.heap.size w (w.alloc (.cells #[.int .i64 n, .slice A l.length c] 24)) := (Below.refl _ _).alloc (Nat.le_refl _) _
  have k7 := Blk.new w #[.int .i64 n, .slice A l.length c] 24
  replace hg := hg.keep ga
  replace RA := RA.keep ga
  replace RH := RH.keep ga
  have b_2 := bb b0 ga
  clear b0
  clear ga
  have c_k7_0 := (Blk.cell k7 0).trans (show _ = some (.int .i64 n) from rfl)
  have c_k7_1 := (Blk.cell k7 1).trans (show _ = some (.slice A l.length c) from rfl)
  go_wp2_with fail
  generalize (w.alloc (.cells #[.int .i64 n, .slice A l.length c] 24)) = w_1 at *
  refine (known_c _ hg).mono ?_; rintro e w_3 ⟨rfl, g⟩
  clear c_k7_0 c_k7_1
  replace hg := hg.keep g
  replace RA := RA.keep g
  replace RH := RH.keep g
  replace k7 := k7.keep g
  have b_4 := bb b_2 g
  clear b_2
  clear g
  have c_k7_0 := (Blk.cell k7 0).trans (show _ = some (.int .i64 n) from rfl)
  have c_k7_1 := (Blk.cell k7 1).trans (show _ = some (.slice A l.length c) from rfl)
  go_wp2_with fail
  refine (light_c (k := l.length)).mono ?_; rintro e w_5 ⟨rfl, g⟩
  clear c_k7_0 c_k7_1
  replace hg := hg.keep g
  replace RA := RA.keep g
  replace RH := RH.keep g
  replace k7 := k7.keep g
  have b_6 := bb b_4 g
  clear b_4
  clear g
  have c_k7_0 := (Blk.cell k7 0).trans (show _ = some (.int .i64 n) from rfl)
  have c_k7_1 := (Blk.cell k7 1).trans (show _ = some (.slice A l.length c) from rfl)
  by_cases hl : l.length ≤ 60
  case neg =>
    rw [show decide ((l.length : Int) ≤ 60) = false by simp; omega]
    clear hl
    go_wp2_with fail
    go_ret
    exact ⟨rfl, b_6⟩
  case pos =>
    rw [show decide ((l.length : Int) ≤ 60) = true by simp; omega]
    by_cases hhl : hs.length ≤ 60
    case neg =>
      have e1 : decide (60 < (hs.length : Int)) = true := by simp; omega
      have e2 : decide (60 < hs.length) = true := by simp; omega
      clear hl hhl
      go_wp2_with fail
      go_ret
      exact ⟨rfl, b_6⟩
    case pos =>
      have e1 : decide (60 < (hs.length : Int)) = false := by simp; omega
      have e2 : decide (60 < hs.length) = false := by simp; omega
      obtain ⟨kk, hkk⟩ : ∃ kk : Nat, a1 % 7 = (kk : Int) := ⟨(a1 % 7).toNat, by omega⟩
      have SS := fun W (g : Below w_5.heap.size w_5 W) => seatSym_c (d := d) a1 a2 kk x0 x1 hkk x2 x3 wh hhl (RH.keep g)
      have HL := Lib.hid hl
      have HHL := Lib.hid hhl
      clear x0 x1 x2 x3 wh hl hhl hkk
      go_wp2_with fail
      go_region_held3 (fun w' => w'.cell? ⟨w.heap.size, 0, none⟩ = some (.int .i64 n) ∧ w'.cell? ⟨w.heap.size, 1, none⟩ = some (.slice A l.length c))
        (first | exact ⟨c_k7_0, c_k7_1⟩ | exact ⟨(g5.cell (lt_of_cell c_k7_0)).trans c_k7_0, (g5.cell (lt_of_cell c_k7_1)).trans c_k7_1⟩ | exact ⟨Lib.cell?_alloc_some _ ((g5.cell (lt_of_cell c_k7_0)).trans c_k7_0), Lib.cell?_alloc_some _ ((g5.cell (lt_of_cell c_k7_1)).trans c_k7_1)⟩)
        (first | (go_at_call 9; refine (SS _ (by repeat (first | exact Below.refl _ _ | refine Below.drew ?_))).mono ?_; rintro e w5 ⟨A2, c2, l2, rfl, own2, hr2, g5⟩))
      have hl2 : l2.length ≤ 60 := by obtain ⟨m, e, hm, hlen, _⟩ := rightB_nat hr2; have := tri_le hm; omega
      have g6 : Below w_5.heap.size w_5 w5 := bb (by repeat (first | exact Below.refl _ _ | refine Below.drew ?_)) g5
      have TW : Two (w5.alloc (.cells #[.int .i64 n, .slice A l.length c, .int .i64 (kk : Int), .slice A2 l2.length c2] 24)) w5.heap.size := Two.of (Blk.new w5 _ _) ((RA.keep g6).keep ((Below.refl w5.heap.size w5).alloc (Nat.le_refl _) _)) lc HL.out (own2.rd.keep ((Below.refl w5.heap.size w5).alloc (Nat.le_refl _) _)) own2.cap hl2
      replace hg := (hg.keep g6).keep ((Below.refl w5.heap.size w5).alloc (Nat.le_refl _) (.cells #[.int .i64 n, .slice A l.length c, .int .i64 (kk : Int), .slice A2 l2.length c2] 24))
      have b9 := bb (bb b_6 g6) ((Below.refl w5.heap.size w5).alloc (Nat.le_refl _) (.cells #[.int .i64 n, .slice A l.length c, .int .i64 (kk : Int), .slice A2 l2.length c2] 24))
      clear b_6 g5 g6 SS RA RH k7 c_k7_0 c_k7_1 hr2 own2
      go_wp2_with fail
      generalize w5.alloc (.cells #[.int .i64 n, .slice A l.length c, .int .i64 (kk : Int), .slice A2 l2.length c2] 24) = w6 at *
      generalize w5.heap.size = gS at *
      clear hl2 e1 e2
      go_loopw [44] (fun s44 wl => ∃ r : Nat, r ≤ 2 ∧ s44 = .int .i64 r ∧ Two wl gS ∧ Laid wl ∧ Below w.heap.size w wl) (fun s44 _ => 2 - (intOf s44).toNat)
      case atStart => exact ⟨0, by omega, rfl, TW, hg, b9⟩
      case round =>
        clear TW hg b9
        obtain ⟨r, hr, rfl, TW, hg, bR⟩ := hrel
        have r0 : (0 : Int) ≤ (r : Int) := by omega
        by_cases hr2 : r < 2
        case neg =>
          obtain rfl : r = 2 := by omega
          have NW := fun x W => New_c x W
          have SN := fun x W => SymNew_c x W
          have SY := fun (x : Int) (W : World) (A A' : Option Addr) (c c' : Nat) (R : Rd W A (List.replicate (tri (clip x)) 0)) (S : Rd W A' (List.replicate (tri (clip x)) 0)) (hc : tri (clip x) ≤ c) (hc' : tri (clip x) ≤ c') => Syms_c (n := ((clip x : Nat) : Int)) (m := ((clip x : Nat) : Int)) R (by simpa using hc) S (by simpa using hc') (by have := tri_le (clip_le x); simp; omega) (by have := tri_le (clip_le x); simp; omega)
          simp only [List.length_replicate, and_self, decide_true] at NW SN SY
          clear TW hg
          go_wp2_with fail
          refine (NW i _).mono ?_; rintro e w_1 ⟨A1, c1, rfl, O1, g⟩
          have b_2 := bb bR g
          clear bR
          clear g
          go_wp2_with fail
          refine (SN i _).mono ?_; rintro e w_3 ⟨A3, c3, rfl, O3, g⟩
          replace O1 := O1.keep g
          have b_4 := bb b_2 g
          clear b_2
          clear g
          go_wp2_with fail
          have H1 := OwnI.cap O1
          have H3 := OwnI.cap O3
          simp only [List.length_replicate] at H1 H3
          refine (SY i _ _ _ _ _ O1.rd O3.rd H1 H3).mono ?_; rintro e w_5 ⟨rfl, g⟩
          replace O1 := O1.keep g
          have b_6 := bb b_4 g
          clear b_4
          clear g
          clear H1 H3 O1 O3
          go_wp2_with fail
          refine (NW (Go.bits .and .i64 i 15) _).mono ?_; rintro e w_7 ⟨A1, c1, rfl, O1, g⟩
          have b_8 := bb b_6 g
          clear b_6
          clear g
          go_wp2_with fail
          refine (SN (Go.bits .and .i64 i 15) _).mono ?_; rintro e w_9 ⟨A3, c3, rfl, O3, g⟩
          replace O1 := O1.keep g
          have b_10 := bb b_8 g
          clear b_8
          clear g
          go_wp2_with fail
          have H1 := OwnI.cap O1
          have H3 := OwnI.cap O3
          simp only [List.length_replicate] at H1 H3
          refine (SY (Go.bits .and .i64 i 15) _ _ _ _ _ O1.rd O3.rd H1 H3).mono ?_; rintro e w_11 ⟨rfl, g⟩
          replace O1 := O1.keep g
          have b_12 := bb b_10 g
          clear b_10
          clear g
          clear H1 H3 O1 O3
          go_wp2_with fail
          go_ret
          exact ⟨rfl, b_12⟩
        case pos =>
          have r1 : (r : Int) < 2 := by omega
          obtain ⟨N, AL, C, L, q0, q1, RL, hC, hL⟩ := TW r hr2
          trace_state
          have ga : Below wr.heap.size wr (wr.alloc (.cells #[.int .i64 N, .slice AL L.length C] 24)) := (Below.refl _ _).alloc (Nat.le_refl _) _
          have k16 := Blk.new wr #[.int .i64 N, .slice AL L.length C] 24
          replace hg := hg.keep ga
          replace TW := TW.keep ga
          replace RL := RL.keep ga
          have b_8 := bb bR ga
          clear bR
          clear ga
          have c_k16_0 := (Blk.cell k16 0).trans (show _ = some (.int .i64 N) from rfl)
          have c_k16_1 := (Blk.cell k16 1).trans (show _ = some (.slice AL L.length C) from rfl)
          go_wp2_with fail
          generalize (wr.alloc (.cells #[.int .i64 N, .slice AL L.length C] 24)) = w_7 at *
          generalize wr.heap.size = g_k16 at *
          have RT := fun W (g : Below w_7.heap.size w_7 W) => Right_c (n := N) (RL.keep g) hC (by omega)
          have SRT := fun W (g : Below w_7.heap.size w_7 W) => SymRight_c (n := N) (RL.keep g) hC (by omega)
          generalize rightB N L = rb at *
          have e0 : (rb != rb) = false := by cases rb <;> rfl
          go_region_held3 (fun w' => w'.cell? ⟨g_k16, 0, none⟩ = some (.int .i64 N) ∧ w'.cell? ⟨g_k16, 1, none⟩ = some (.slice AL L.length C))
            (first | exact ⟨c_k16_0, c_k16_1⟩ | exact ⟨(h8.cell (lt_of_cell c_k16_0)).trans c_k16_0, (h8.cell (lt_of_cell c_k16_1)).trans c_k16_1⟩ | exact ⟨(h9.cell (lt_of_cell c_k16_0)).trans c_k16_0, (h9.cell (lt_of_cell c_k16_1)).trans c_k16_1⟩)
            (first
              | (go_at_call 10; refine (RT _ (by repeat (first | exact Below.refl _ _ | refine Below.drew ?_))).mono ?_; rintro e w8 ⟨rfl, g8⟩; have h8 : Below w_7.heap.size w_7 w8 := bb (by repeat (first | exact Below.refl _ _ | refine Below.drew ?_)) g8)
              | (go_at_call 11; refine (SRT _ h8).mono ?_; rintro e w9 ⟨rfl, g9⟩; have h9 : Below w_7.heap.size w_7 w9 := bb h8 g9))
          clear c_k16_0 c_k16_1
          replace hg := hg.keep h9
          replace TW := TW.keep h9
          replace RL := RL.keep h9
          replace k16 := k16.keep h9
          have b_9 := bb b_8 h9
          clear b_8
          clear h9 h8 g8 g9 RT SRT
          have c_k16_0 := (Blk.cell k16 0).trans (show _ = some (.int .i64 N) from rfl)
          have c_k16_1 := (Blk.cell k16 1).trans (show _ = some (.slice AL L.length C) from rfl)
          go_wp2_with fail
          clear c_k16_0 c_k16_1
          have ga : Below w9.heap.size w9 (w9.alloc (.cells #[.int .i64 i, .int .i64 j, .int .i64 (Go.bits .and .i64 i 7), .int .i64 (Go.bits .and .i64 j 7), .int .i64 (Go.bits .and .i64 j 3), .int .i64 (Go.bits .and .i64 i 3)] 31)) := (Below.refl _ _).alloc (Nat.le_refl _) _
          have kP := Blk.new w9 #[.int .i64 i, .int .i64 j, .int .i64 (Go.bits .and .i64 i 7), .int .i64 (Go.bits .and .i64 j 7), .int .i64 (Go.bits .and .i64 j 3), .int .i64 (Go.bits .and .i64 i 3)] 31
          replace hg := hg.keep ga
          replace TW := TW.keep ga
          replace RL := RL.keep ga
          replace k16 := k16.keep ga
          have b_11 := bb b_9 ga
          clear b_9
          clear ga
          have c_k16_0 := (Blk.cell k16 0).trans (show _ = some (.int .i64 N) from rfl)
          have c_k16_1 := (Blk.cell k16 1).trans (show _ = some (.slice AL L.length C) from rfl)
          have c_kP_0 := (Blk.cell kP 0).trans (show _ = some (.int .i64 i) from rfl)
          have c_kP_1 := (Blk.cell kP 1).trans (show _ = some (.int .i64 j) from rfl)
          have c_kP_2 := (Blk.cell kP 2).trans (show _ = some (.int .i64 (Go.bits .and .i64 i 7)) from rfl)
          have c_kP_3 := (Blk.cell kP 3).trans (show _ = some (.int .i64 (Go.bits .and .i64 j 7)) from rfl)
          have c_kP_4 := (Blk.cell kP 4).trans (show _ = some (.int .i64 (Go.bits .and .i64 j 3)) from rfl)
          have c_kP_5 := (Blk.cell kP 5).trans (show _ = some (.int .i64 (Go.bits .and .i64 i 3)) from rfl)
          generalize (w9.alloc (.cells #[.int .i64 i, .int .i64 j, .int .i64 (Go.bits .and .i64 i 7), .int .i64 (Go.bits .and .i64 j 7), .int .i64 (Go.bits .and .i64 j 3), .int .i64 (Go.bits .and .i64 i 3)] 31)) = w_10 at *
          generalize w9.heap.size = g_kP at *
          have PR := Prs.of kP
          clear c_k16_0 c_k16_1 c_kP_0 c_kP_1 c_kP_2 c_kP_3 c_kP_4 c_kP_5
          clear kP e0
          go_loopw [68] (fun s68 wl => ∃ t : Nat, t ≤ 3 ∧ s68 = .int .i64 t ∧ Prs wl g_kP ∧ Blk wl g_k16 #[.int .i64 N, .slice AL L.length C] 24 ∧ Rd wl AL L ∧ Laid wl ∧ Two wl gS ∧ Below w.heap.size w wl) (fun s68 _ => 3 - (intOf s68).toNat)
          case atStart => exact ⟨0, by omega, rfl, PR, k16, RL, hg, TW, b_11⟩
          case round =>
            clear PR k16 RL hg TW b_11
            obtain ⟨t, ht, rfl, PR, k16, RL, hg, TW, bT⟩ := hrel
            have t0 : (0 : Int) ≤ (t : Int) := by omega
            by_cases ht3 : t < 3
            case neg =>
              obtain rfl : t = 3 := by omega
              clear PR k16 RL
              go_wp2_with fail
              exact ⟨⟨r + 1, by omega, by go_num, TW, hg, bT⟩, by simp [intOf]; omega⟩
            case pos =>
              have t1 : (t : Int) < 3 := by omega
              obtain ⟨x, y, p0, p1⟩ := PR t ht3
              have c16_0 := (Blk.cell k16 0).trans (show _ = some (.int .i64 N) from rfl)
              have c_k16_0 := c16_0
              have c_k16_1 := (Blk.cell k16 1).trans (show _ = some (.slice AL L.length C) from rfl)
              clear c16_0
              have CA := fun W (R : Rd W AL L) => SAt_c (n := N) R hC (by omega) x y
              have CS := fun W (R : Rd W AL L) => SSet_c (n := N) R hC (by omega) x y v
              have CR := fun W (R : Rd W AL L) => RSet_c (n := N) R hC (by omega) x y v
              have CZ := fun W (R : Rd W AL L) => RSet_c (n := N) R hC (by omega) x y 0
              have sl3 : (setL N L x y v).length ≤ 1000 := setL_len (by omega)
              have W0 : inE N L [x, y] = 0 → ∃ m a b : Nat, N = m ∧ x = a ∧ y = b ∧ m ≤ 8 ∧ a < m ∧ b < m ∧ L.length = tri m ∧ atV N L x y = L.getD (pl m a b) 0 ∧ setN N L x y 0 = N := fun h => by
                obtain ⟨m, a, b, rfl, rfl, rfl, h1, h2, h3, h4, _⟩ := inE_0 h
                exact ⟨m, a, b, rfl, rfl, rfl, h1, h2, h3, h4, by unfold atV; rw [if_pos h]; rfl, by unfold setN; rw [setE_0, if_pos h]⟩
              have W1 : inE N L [x, y] ≠ 0 → atV N L x y = 0 := fun h => by unfold atV; rw [if_neg h]
              rw [setE_0] at CZ
              generalize atV N L x y = av at *
              generalize inE N L [x, y] = ie at *
              generalize setE N L x y v = se at *
              generalize setN N L x y v = sn at *
              generalize setL N L x y v = sl at *
              generalize setN N L x y 0 = sz at *
              generalize setL N L x y 0 = zl at *
              clear c_k16_0 c_k16_1
              have ga : Below wr.heap.size wr (wr.alloc (.cells #[.int .i64 x, .int .i64 y] 31)) := (Below.refl _ _).alloc (Nat.le_refl _) _
              have k18 := Blk.new wr #[.int .i64 x, .int .i64 y] 31
              replace hg := hg.keep ga
              replace TW := TW.keep ga
              replace RL := RL.keep ga
              replace PR := PR.keep ga
              replace k16 := k16.keep ga
              have b_13 := bb bT ga
              clear bT
              clear ga
              have c_k16_0 := (Blk.cell k16 0).trans (show _ = some (.int .i64 N) from rfl)
              have c_k16_1 := (Blk.cell k16 1).trans (show _ = some (.slice AL L.length C) from rfl)
              have c_k18_0 := (Blk.cell k18 0).trans (show _ = some (.int .i64 x) from rfl)
              have c_k18_1 := (Blk.cell k18 1).trans (show _ = some (.int .i64 y) from rfl)
              go_wp2_with fail
              generalize (wr.alloc (.cells #[.int .i64 x, .int .i64 y] 31)) = w_12 at *
              generalize wr.heap.size = g_k18 at *
              clear p0 p1
              refine (CA _ RL).mono ?_; rintro e w_14 ⟨v1, rfl, E1, g⟩
              clear c_k16_0 c_k16_1 c_k18_0 c_k18_1
              replace hg := hg.keep g
              replace TW := TW.keep g
              replace RL := RL.keep g
              replace PR := PR.keep g
              replace k16 := k16.keep g
              replace k18 := k18.keep g
              have b_15 := bb b_13 g
              clear b_13
              clear g
              have c_k16_0 := (Blk.cell k16 0).trans (show _ = some (.int .i64 N) from rfl)
              have c_k16_1 := (Blk.cell k16 1).trans (show _ = some (.slice AL L.length C) from rfl)
              have c_k18_0 := (Blk.cell k18 0).trans (show _ = some (.int .i64 x) from rfl)
              have c_k18_1 := (Blk.cell k18 1).trans (show _ = some (.int .i64 y) from rfl)
              go_wp2_with fail
              refine (CS _ RL).mono ?_; rintro e w_16 ⟨A3, c3, v2, rfl, O3, E2, g⟩
              clear c_k16_0 c_k16_1 c_k18_0 c_k18_1
              replace hg := hg.keep g
              replace TW := TW.keep g
              replace RL := RL.keep g
              replace PR := PR.keep g
              replace k16 := k16.keep g
              replace k18 := k18.keep g
              replace E1 := E1.keep g
              have b_17 := bb b_15 g
              clear b_15
              clear g
              have c_k16_0 := (Blk.cell k16 0).trans (show _ = some (.int .i64 N) from rfl)
              have c_k16_1 := (Blk.cell k16 1).trans (show _ = some (.slice AL L.length C) from rfl)
              have c_k18_0 := (Blk.cell k18 0).trans (show _ = some (.int .i64 x) from rfl)
              have c_k18_1 := (Blk.cell k18 1).trans (show _ = some (.int .i64 y) from rfl)
              clear c_k16_0 c_k16_1 c_k18_0 c_k18_1
              have ga : Below w_16.heap.size w_16 (w_16.alloc (.cells #[.int .i64 sn, .slice A3 sl.length c3] 24)) := (Below.refl _ _).alloc (Nat.le_refl _) _
              have k21 := Blk.new w_16 #[.int .i64 sn, .slice A3 sl.length c3] 24
              replace hg := hg.keep ga
              replace TW := TW.keep ga
              replace RL := RL.keep ga
              replace PR := PR.keep ga
              replace k16 := k16.keep ga
              replace k18 := k18.keep ga
              replace E1 := E1.keep ga
              replace O3 := O3.keep ga
              replace E2 := E2.keep ga
              have b_19 := bb b_17 ga
              clear b_17
              clear ga
              have c_k16_0 := (Blk.cell k16 0).trans (show _ = some (.int .i64 N) from rfl)
              have c_k16_1 := (Blk.cell k16 1).trans (show _ = some (.slice AL L.length C) from rfl)
              have c_k18_0 := (Blk.cell k18 0).trans (show _ = some (.int .i64 x) from rfl)
              have c_k18_1 := (Blk.cell k18 1).trans (show _ = some (.int .i64 y) from rfl)
              have c_k21_0 := (Blk.cell k21 0).trans (show _ = some (.int .i64 sn) from rfl)
              have c_k21_1 := (Blk.cell k21 1).trans (show _ = some (.slice A3 sl.length c3) from rfl)
              go_wp2_with fail
              generalize (w_16.alloc (.cells #[.int .i64 sn, .slice A3 sl.length c3] 24)) = w_18 at *
              generalize w_16.heap.size = g_k21 at *
              refine (CR _ RL).mono ?_; rintro e w_20 ⟨A4, c4, rfl, O4, g⟩
              clear c_k16_0 c_k16_1 c_k18_0 c_k18_1 c_k21_0 c_k21_1
              replace hg := hg.keep g
              replace TW := TW.keep g
              replace RL := RL.keep g
              replace PR := PR.keep g
              replace k16 := k16.keep g
              replace k18 := k18.keep g
              replace E1 := E1.keep g
              replace O3 := O3.keep g
              replace E2 := E2.keep g
              replace k21 := k21.keep g
              have b_21 := bb b_19 g
              clear b_19
              clear g
              have c_k16_0 := (Blk.cell k16 0).trans (show _ = some (.int .i64 N) from rfl)
              have c_k16_1 := (Blk.cell k16 1).trans (show _ = some (.slice AL L.length C) from rfl)
              have c_k18_0 := (Blk.cell k18 0).trans (show _ = some (.int .i64 x) from rfl)
              have c_k18_1 := (Blk.cell k18 1).trans (show _ = some (.int .i64 y) from rfl)
              have c_k21_0 := (Blk.cell k21 0).trans (show _ = some (.int .i64 sn) from rfl)
              have c_k21_1 := (Blk.cell k21 1).trans (show _ = some (.slice A3 sl.length c3) from rfl)
              clear c_k16_0 c_k16_1 c_k18_0 c_k18_1 c_k21_0 c_k21_1
              have ga : Below w_20.heap.size w_20 (w_20.alloc (.cells #[.int .i64 sn, .slice A4 sl.length c4] 24)) := (Below.refl _ _).alloc (Nat.le_refl _) _
              have k23 := Blk.new w_20 #[.int .i64 sn, .slice A4 sl.length c4] 24
              replace hg := hg.keep ga
              replace TW := TW.keep ga
              replace RL := RL.keep ga
              replace PR := PR.keep ga
              replace k16 := k16.keep ga
              replace k18 := k18.keep ga
              replace E1 := E1.keep ga
              replace O3 := O3.keep ga
              replace E2 := E2.keep ga
              replace k21 := k21.keep ga
              replace O4 := O4.keep ga
              have b_23 := bb b_21 ga
              clear b_21
              clear ga
              have c_k16_0 := (Blk.cell k16 0).trans (show _ = some (.int .i64 N) from rfl)
              have c_k16_1 := (Blk.cell k16 1).trans (show _ = some (.slice AL L.length C) from rfl)
              have c_k18_0 := (Blk.cell k18 0).trans (show _ = some (.int .i64 x) from rfl)
              have c_k18_1 := (Blk.cell k18 1).trans (show _ = some (.int .i64 y) from rfl)
              have c_k21_0 := (Blk.cell k21 0).trans (show _ = some (.int .i64 sn) from rfl)
              have c_k21_1 := (Blk.cell k21 1).trans (show _ = some (.slice A3 sl.length c3) from rfl)
              have c_k23_0 := (Blk.cell k23 0).trans (show _ = some (.int .i64 sn) from rfl)
              have c_k23_1 := (Blk.cell k23 1).trans (show _ = some (.slice A4 sl.length c4) from rfl)
              go_wp2_with fail
              generalize (w_20.alloc (.cells #[.int .i64 sn, .slice A4 sl.length c4] 24)) = w_22 at *
              generalize w_20.heap.size = g_k23 at *
              refine (CZ _ RL).mono ?_; rintro e w_24 ⟨A5, c5, rfl, O5, g⟩
              clear c_k16_0 c_k16_1 c_k18_0 c_k18_1 c_k21_0 c_k21_1 c_k23_0 c_k23_1
              replace hg := hg.keep g
              replace TW := TW.keep g
              replace RL := RL.keep g
              replace PR := PR.keep g
              replace k16 := k16.keep g
              replace k18 := k18.keep g
              replace E1 := E1.keep g
              replace O3 := O3.keep g
              replace E2 := E2.keep g
              replace k21 := k21.keep g
              replace O4 := O4.keep g
              replace k23 := k23.keep g
              have b_25 := bb b_23 g
              clear b_23
              clear g
              have c_k16_0 := (Blk.cell k16 0).trans (show _ = some (.int .i64 N) from rfl)
              have c_k16_1 := (Blk.cell k16 1).trans (show _ = some (.slice AL L.length C) from rfl)
              have c_k18_0 := (Blk.cell k18 0).trans (show _ = some (.int .i64 x) from rfl)
              have c_k18_1 := (Blk.cell k18 1).trans (show _ = some (.int .i64 y) from rfl)
              have c_k21_0 := (Blk.cell k21 0).trans (show _ = some (.int .i64 sn) from rfl)
              have c_k21_1 := (Blk.cell k21 1).trans (show _ = some (.slice A3 sl.length c3) from rfl)
              have c_k23_0 := (Blk.cell k23 0).trans (show _ = some (.int .i64 sn) from rfl)
              have c_k23_1 := (Blk.cell k23 1).trans (show _ = some (.slice A4 sl.length c4) from rfl)
              clear c_k16_0 c_k16_1 c_k18_0 c_k18_1 c_k21_0 c_k21_1 c_k23_0 c_k23_1
              have ga : Below w_24.heap.size w_24 (w_24.alloc (.cells #[.int .i64 sz, .slice A5 zl.length c5] 24)) := (Below.refl _ _).alloc (Nat.le_refl _) _
              have k25 := Blk.new w_24 #[.int .i64 sz, .slice A5 zl.length c5] 24
              replace hg := hg.keep ga
              replace TW := TW.keep ga
              replace RL := RL.keep ga
              replace PR := PR.keep ga
              replace k16 := k16.keep ga
              replace k18 := k18.keep ga
              replace E1 := E1.keep ga
              replace O3 := O3.keep ga
              replace E2 := E2.keep ga
              replace k21 := k21.keep ga
              replace O4 := O4.keep ga
              replace k23 := k23.keep ga
              have b_27 := bb b_25 ga
              clear b_25
              clear ga
              have c_k16_0 := (Blk.cell k16 0).trans (show _ = some (.int .i64 N) from rfl)
              have c_k16_1 := (Blk.cell k16 1).trans (show _ = some (.slice AL L.length C) from rfl)
              have c_k18_0 := (Blk.cell k18 0).trans (show _ = some (.int .i64 x) from rfl)
              have c_k18_1 := (Blk.cell k18 1).trans (show _ = some (.int .i64 y) from rfl)
              have c_k21_0 := (Blk.cell k21 0).trans (show _ = some (.int .i64 sn) from rfl)
              have c_k21_1 := (Blk.cell k21 1).trans (show _ = some (.slice A3 sl.length c3) from rfl)
              have c_k23_0 := (Blk.cell k23 0).trans (show _ = some (.int .i64 sn) from rfl)
              have c_k23_1 := (Blk.cell k23 1).trans (show _ = some (.slice A4 sl.length c4) from rfl)
              have c_k25_0 := (Blk.cell k25 0).trans (show _ = some (.int .i64 sz) from rfl)
              have c_k25_1 := (Blk.cell k25 1).trans (show _ = some (.slice A5 zl.length c5) from rfl)
              go_wp2_with fail
              generalize (w_24.alloc (.cells #[.int .i64 sz, .slice A5 zl.length c5] 24)) = w_26 at *
              generalize w_24.heap.size = g_k25 at *
              clear CA CS CR CZ
              have S1 := fun W (h : Laid W) (e : ErrIs op5 W v1 ie) => says5 ie W h e
              simp only [decide_true] at S1
              have S2 := fun W (h : Laid W) (e : ErrIs op5 W v2 se) => says5 se W h e
              simp only [decide_true] at S2
              have SY := fun W (R : Rd W A3 sl) (S : Rd W A4 sl) => Syms_c (n := sn) (m := sn) R (OwnI.cap O3) S (OwnI.cap O4) sl3 sl3
              simp only [and_self, decide_true] at SY
              by_cases hz : ie = 0
              case pos =>
                obtain ⟨m, a, b, rfl, rfl, rfl, hm, ha, hb, hlen, rfl, rfl⟩ := W0 hz
                subst hz
                clear W0 W1
                have AT := fun W (R : Rd W AL L) => At_c (c := C) R hC hm ha hb hlen
                clear hlen
                generalize L.getD (pl m a b) 0 = av at *
                have e1 : (av != av) = false := by simp
                have e2 : ((m : Int) != (m : Int)) = false := by simp
                refine (S1 _ hg E1.is).mono ?_; rintro e w_28 ⟨rfl, g⟩
                clear c_k16_0 c_k16_1 c_k18_0 c_k18_1 c_k21_0 c_k21_1 c_k23_0 c_k23_1 c_k25_0 c_k25_1
                replace hg := hg.keep g
                replace TW := TW.keep g
                replace RL := RL.keep g
                replace PR := PR.keep g
                replace k16 := k16.keep g
                replace k18 := k18.keep g
                replace E1 := E1.keep g
                replace O3 := O3.keep g
                replace E2 := E2.keep g
                replace k21 := k21.keep g
                replace O4 := O4.keep g
                replace k23 := k23.keep g
                replace k25 := k25.keep g
                have b_29 := bb b_27 g
                clear b_27
                clear g
                have c_k16_0 := (Blk.cell k16 0).trans (show _ = some (.int .i64 (m : Int)) from rfl)
                have c_k16_1 := (Blk.cell k16 1).trans (show _ = some (.slice AL L.length C) from rfl)
                have c_k18_0 := (Blk.cell k18 0).trans (show _ = some (.int .i64 (a : Int)) from rfl)
                have c_k18_1 := (Blk.cell k18 1).trans (show _ = some (.int .i64 (b : Int)) from rfl)
                have c_k21_0 := (Blk.cell k21 0).trans (show _ = some (.int .i64 sn) from rfl)
                have c_k21_1 := (Blk.cell k21 1).trans (show _ = some (.slice A3 sl.length c3) from rfl)
                have c_k23_0 := (Blk.cell k23 0).trans (show _ = some (.int .i64 sn) from rfl)
                have c_k23_1 := (Blk.cell k23 1).trans (show _ = some (.slice A4 sl.length c4) from rfl)
                have c_k25_0 := (Blk.cell k25 0).trans (show _ = some (.int .i64 (m : Int)) from rfl)
                have c_k25_1 := (Blk.cell k25 1).trans (show _ = some (.slice A5 zl.length c5) from rfl)
                go_wp2_with fail
                refine (AT _ RL).mono ?_; rintro e w_30 ⟨rfl, g⟩
                clear c_k16_0 c_k16_1 c_k18_0 c_k18_1 c_k21_0 c_k21_1 c_k23_0 c_k23_1 c_k25_0 c_k25_1
                replace hg := hg.keep g
                replace TW := TW.keep g
                replace RL := RL.keep g
                replace PR := PR.keep g
                replace k16 := k16.keep g
                replace k18 := k18.keep g
                replace E1 := E1.keep g
                replace O3 := O3.keep g
                replace E2 := E2.keep g
                replace k21 := k21.keep g
                replace O4 := O4.keep g
                replace k23 := k23.keep g
                replace k25 := k25.keep g
                have b_31 := bb b_29 g
                clear b_29
                clear g
                have c_k16_0 := (Blk.cell k16 0).trans (show _ = some (.int .i64 (m : Int)) from rfl)
                have c_k16_1 := (Blk.cell k16 1).trans (show _ = some (.slice AL L.length C) from rfl)
                have c_k18_0 := (Blk.cell k18 0).trans (show _ = some (.int .i64 (a : Int)) from rfl)
                have c_k18_1 := (Blk.cell k18 1).trans (show _ = some (.int .i64 (b : Int)) from rfl)
                have c_k21_0 := (Blk.cell k21 0).trans (show _ = some (.int .i64 sn) from rfl)
                have c_k21_1 := (Blk.cell k21 1).trans (show _ = some (.slice A3 sl.length c3) from rfl)
                have c_k23_0 := (Blk.cell k23 0).trans (show _ = some (.int .i64 sn) from rfl)
                have c_k23_1 := (Blk.cell k23 1).trans (show _ = some (.slice A4 sl.length c4) from rfl)
                have c_k25_0 := (Blk.cell k25 0).trans (show _ = some (.int .i64 (m : Int)) from rfl)
                have c_k25_1 := (Blk.cell k25 1).trans (show _ = some (.slice A5 zl.length c5) from rfl)
                go_wp2_with fail
                refine (S2 _ hg E2.is).mono ?_; rintro e w_32 ⟨rfl, g⟩
                clear c_k16_0 c_k16_1 c_k18_0 c_k18_1 c_k21_0 c_k21_1 c_k23_0 c_k23_1 c_k25_0 c_k25_1
                replace hg := hg.keep g
                replace TW := TW.keep g
                replace RL := RL.keep g
                replace PR := PR.keep g
                replace k16 := k16.keep g
                replace k18 := k18.keep g
                replace E1 := E1.keep g
                replace O3 := O3.keep g
                replace E2 := E2.keep g
                replace k21 := k21.keep g
                replace O4 := O4.keep g
                replace k23 := k23.keep g
                replace k25 := k25.keep g
                have b_33 := bb b_31 g
                clear b_31
                clear g
                have c_k16_0 := (Blk.cell k16 0).trans (show _ = some (.int .i64 (m : Int)) from rfl)
                have c_k16_1 := (Blk.cell k16 1).trans (show _ = some (.slice AL L.length C) from rfl)
                have c_k18_0 := (Blk.cell k18 0).trans (show _ = some (.int .i64 (a : Int)) from rfl)
                have c_k18_1 := (Blk.cell k18 1).trans (show _ = some (.int .i64 (b : Int)) from rfl)
                have c_k21_0 := (Blk.cell k21 0).trans (show _ = some (.int .i64 sn) from rfl)
                have c_k21_1 := (Blk.cell k21 1).trans (show _ = some (.slice A3 sl.length c3) from rfl)
                have c_k23_0 := (Blk.cell k23 0).trans (show _ = some (.int .i64 sn) from rfl)
                have c_k23_1 := (Blk.cell k23 1).trans (show _ = some (.slice A4 sl.length c4) from rfl)
                have c_k25_0 := (Blk.cell k25 0).trans (show _ = some (.int .i64 (m : Int)) from rfl)
                have c_k25_1 := (Blk.cell k25 1).trans (show _ = some (.slice A5 zl.length c5) from rfl)
                go_wp2_with fail
                refine (SY _ O3.rd O4.rd).mono ?_; rintro e w_34 ⟨rfl, g⟩
                clear c_k16_0 c_k16_1 c_k18_0 c_k18_1 c_k21_0 c_k21_1 c_k23_0 c_k23_1 c_k25_0 c_k25_1
                replace hg := hg.keep g
                replace TW := TW.keep g
                replace RL := RL.keep g
                replace PR := PR.keep g
                replace k16 := k16.keep g
                replace k18 := k18.keep g
                replace E1 := E1.keep g
                replace O3 := O3.keep g
                replace E2 := E2.keep g
                replace k21 := k21.keep g
                replace O4 := O4.keep g
                replace k23 := k23.keep g
                replace k25 := k25.keep g
                have b_35 := bb b_33 g
                clear b_33
                clear g
                have c_k16_0 := (Blk.cell k16 0).trans (show _ = some (.int .i64 (m : Int)) from rfl)
                have c_k16_1 := (Blk.cell k16 1).trans (show _ = some (.slice AL L.length C) from rfl)
                have c_k18_0 := (Blk.cell k18 0).trans (show _ = some (.int .i64 (a : Int)) from rfl)
                have c_k18_1 := (Blk.cell k18 1).trans (show _ = some (.int .i64 (b : Int)) from rfl)
                have c_k21_0 := (Blk.cell k21 0).trans (show _ = some (.int .i64 sn) from rfl)
                have c_k21_1 := (Blk.cell k21 1).trans (show _ = some (.slice A3 sl.length c3) from rfl)
                have c_k23_0 := (Blk.cell k23 0).trans (show _ = some (.int .i64 sn) from rfl)
                have c_k23_1 := (Blk.cell k23 1).trans (show _ = some (.slice A4 sl.length c4) from rfl)
                have c_k25_0 := (Blk.cell k25 0).trans (show _ = some (.int .i64 (m : Int)) from rfl)
                have c_k25_1 := (Blk.cell k25 1).trans (show _ = some (.slice A5 zl.length c5) from rfl)
                go_wp2_with fail
                exact ⟨⟨t + 1, by omega, by go_num, PR, k16, RL, hg, TW, b_35⟩, by simp [intOf]; omega⟩
              case neg =>
                obtain rfl := W1 hz
                have e1 : (ie == 0) = false := by simpa using hz
                have e2 : (ie != 0) = true := by simpa using hz
                clear W0 W1 hz
                refine (S1 _ hg E1.is).mono ?_; rintro e w_28 ⟨rfl, g⟩
                clear c_k16_0 c_k16_1 c_k18_0 c_k18_1 c_k21_0 c_k21_1 c_k23_0 c_k23_1 c_k25_0 c_k25_1
                replace hg := hg.keep g
                replace TW := TW.keep g
                replace RL := RL.keep g
                replace PR := PR.keep g
                replace k16 := k16.keep g
                replace k18 := k18.keep g
                replace E1 := E1.keep g
                replace O3 := O3.keep g
                replace E2 := E2.keep g
                replace k21 := k21.keep g
                replace O4 := O4.keep g
                replace k23 := k23.keep g
                replace k25 := k25.keep g
                have b_29 := bb b_27 g
                clear b_27
                clear g
                have c_k16_0 := (Blk.cell k16 0).trans (show _ = some (.int .i64 N) from rfl)
                have c_k16_1 := (Blk.cell k16 1).trans (show _ = some (.slice AL L.length C) from rfl)
                have c_k18_0 := (Blk.cell k18 0).trans (show _ = some (.int .i64 x) from rfl)
                have c_k18_1 := (Blk.cell k18 1).trans (show _ = some (.int .i64 y) from rfl)
                have c_k21_0 := (Blk.cell k21 0).trans (show _ = some (.int .i64 sn) from rfl)
                have c_k21_1 := (Blk.cell k21 1).trans (show _ = some (.slice A3 sl.length c3) from rfl)
                have c_k23_0 := (Blk.cell k23 0).trans (show _ = some (.int .i64 sn) from rfl)
                have c_k23_1 := (Blk.cell k23 1).trans (show _ = some (.slice A4 sl.length c4) from rfl)
                have c_k25_0 := (Blk.cell k25 0).trans (show _ = some (.int .i64 sz) from rfl)
                have c_k25_1 := (Blk.cell k25 1).trans (show _ = some (.slice A5 zl.length c5) from rfl)
                go_wp2_with fail
                refine (S2 _ hg E2.is).mono ?_; rintro e w_30 ⟨rfl, g⟩
                clear c_k16_0 c_k16_1 c_k18_0 c_k18_1 c_k21_0 c_k21_1 c_k23_0 c_k23_1 c_k25_0 c_k25_1
                replace hg := hg.keep g
                replace TW := TW.keep g
                replace RL := RL.keep g
                replace PR := PR.keep g
                replace k16 := k16.keep g
                replace k18 := k18.keep g
                replace E1 := E1.keep g
                replace O3 := O3.keep g
                replace E2 := E2.keep g
                replace k21 := k21.keep g
                replace O4 := O4.keep g
                replace k23 := k23.keep g
                replace k25 := k25.keep g
                have b_31 := bb b_29 g
                clear b_29
                clear g
                have c_k16_0 := (Blk.cell k16 0).trans (show _ = some (.int .i64 N) from rfl)
                have c_k16_1 := (Blk.cell k16 1).trans (show _ = some (.slice AL L.length C) from rfl)
                have c_k18_0 := (Blk.cell k18 0).trans (show _ = some (.int .i64 x) from rfl)
                have c_k18_1 := (Blk.cell k18 1).trans (show _ = some (.int .i64 y) from rfl)
                have c_k21_0 := (Blk.cell k21 0).trans (show _ = some (.int .i64 sn) from rfl)
                have c_k21_1 := (Blk.cell k21 1).trans (show _ = some (.slice A3 sl.length c3) from rfl)
                have c_k23_0 := (Blk.cell k23 0).trans (show _ = some (.int .i64 sn) from rfl)
                have c_k23_1 := (Blk.cell k23 1).trans (show _ = some (.slice A4 sl.length c4) from rfl)
                have c_k25_0 := (Blk.cell k25 0).trans (show _ = some (.int .i64 sz) from rfl)
                have c_k25_1 := (Blk.cell k25 1).trans (show _ = some (.slice A5 zl.length c5) from rfl)
                go_wp2_with fail
                refine (SY _ O3.rd O4.rd).mono ?_; rintro e w_32 ⟨rfl, g⟩
                clear c_k16_0 c_k16_1 c_k18_0 c_k18_1 c_k21_0 c_k21_1 c_k23_0 c_k23_1 c_k25_0 c_k25_1
                replace hg := hg.keep g
                replace TW := TW.keep g
                replace RL := RL.keep g
                replace PR := PR.keep g
                replace k16 := k16.keep g
                replace k18 := k18.keep g
                replace E1 := E1.keep g
                replace O3 := O3.keep g
                replace E2 := E2.keep g
                replace k21 := k21.keep g
                replace O4 := O4.keep g
                replace k23 := k23.keep g
                replace k25 := k25.keep g
                have b_33 := bb b_31 g
                clear b_31
                clear g
                have c_k16_0 := (Blk.cell k16 0).trans (show _ = some (.int .i64 N) from rfl)
                have c_k16_1 := (Blk.cell k16 1).trans (show _ = some (.slice AL L.length C) from rfl)
                have c_k18_0 := (Blk.cell k18 0).trans (show _ = some (.int .i64 x) from rfl)
                have c_k18_1 := (Blk.cell k18 1).trans (show _ = some (.int .i64 y) from rfl)
                have c_k21_0 := (Blk.cell k21 0).trans (show _ = some (.int .i64 sn) from rfl)
                have c_k21_1 := (Blk.cell k21 1).trans (show _ = some (.slice A3 sl.length c3) from rfl)
                have c_k23_0 := (Blk.cell k23 0).trans (show _ = some (.int .i64 sn) from rfl)
                have c_k23_1 := (Blk.cell k23 1).trans (show _ = some (.slice A4 sl.length c4) from rfl)
                have c_k25_0 := (Blk.cell k25 0).trans (show _ = some (.int .i64 sz) from rfl)
                have c_k25_1 := (Blk.cell k25 1).trans (show _ = some (.slice A5 zl.length c5) from rfl)
                go_wp2_with fail
                exact ⟨⟨t + 1, by omega, by go_num, PR, k16, RL, hg, TW, b_33⟩, by simp [intOf]; omega⟩
end Go.Proofs.YtfcandmhalhaeaaDoor.YSym
