/- Lean functions, contracts and lemmas that this claim needs. No condition. -/
import Derived.Test.YtfcandmhalhaeaaDoorAYSymT
import Derived.Deep.MidRow
import Derived.Laws.MakeOwn
namespace Go.Proofs.YtfcandmhalhaeaaDoor.YSym
open Go.RowKit Go.Proofs.YtfcandmhalhaeaaDoor.YErr Go.Proofs.YtfcandmhalhaeaaDoor.YInv Go.Proofs.YtfcandmhalhaeaaDoor.YRef Go.Proofs.YtfcandmhalhaeaaDoor.YBits Go.Proofs.YtfcandmhalhaeaaDoor.YNum Go.Proofs.YtfcandmhalhaeaaDoor.QSy Go.Proofs.YtfcandmhalhaeaaDoor.YWide Go.Proofs.YtfcandmhalhaeaaDoorW.PrintWords Go.Proofs.YtfcandmhalhaeaaDoorW.PrintLast
set_option linter.unusedVariables false
set_option linter.unusedSimpArgs false
theorem heap_setCells (b : Nat) : ∀ (vs : List Value) (o : Nat) (w : World) (k : Nat), k ≠ b → (w.setCells b o vs).heap[k]? = w.heap[k]?
  | [], _, _, _, _ => rfl
  | v :: r, o, w, k, h => by
    rw [World.setCells, heap_setCells b r (o + 1) _ k h]
    exact Below.heap_setCell w ⟨b, o, none⟩ v k h
theorem size_setCells (b : Nat) : ∀ (vs : List Value) (o : Nat) (w : World), (w.setCells b o vs).heap.size = w.heap.size
  | [], _, _ => rfl
  | v :: r, o, w => by rw [World.setCells, size_setCells b r (o + 1)]; simp [World.setCell]
theorem below_setCells {W : World} (b : Nat) (hb : W.heap.size ≤ b) : ∀ (vs : List Value) (o : Nat) (w : World), Below W.heap.size W w → Below W.heap.size W (w.setCells b o vs)
  | [], _, _, h => h
  | v :: r, o, w, h => below_setCells b hb r (o + 1) _ (h.setCell (p := ⟨b, o, none⟩) hb v)
theorem _root_.Go.Proofs.YtfcandmhalhaeaaDoor.YErr.Blk.setCells {w : World} {g : Nat} {cs : Array Value} {T : TypeId} (k : Blk w g cs T) {b : Nat} (h : g ≠ b) (o : Nat) (vs : List Value) : Blk (w.setCells b o vs) g cs T := (heap_setCells b vs o w g h).trans k
theorem rangeAt_keep {w w' : World} (b : Below w.heap.size w w') {g o : Nat} {cs : List Value} (hg : g < w.heap.size) (h : w.rangeAt g o cs) : w'.rangeAt g o cs := fun j v hv => (b.cell (p := ⟨g, o + j, none⟩) hg).trans (h j v hv)
theorem there_keep {w w' : World} (b : Below w.heap.size w w') {g o n : Nat} (hg : g < w.heap.size) (h : w.there g o n) : w'.there g o n := fun j hj =>
  ⟨by rw [b.cell (p := ⟨g, o + j, none⟩) hg]; exact (h j hj).1, by rw [b.frozen (p := ⟨g, o + j, none⟩) hg]; exact (h j hj).2⟩
/-- A row of n things of sz cells, each known by its cells. -/
structure WR (w : World) (g sz n : Nat) (f : Nat → List Value) : Prop where
  lt : g < w.heap.size
  there : w.there g 0 (n * sz)
  len : ∀ k, k < n → (f k).length = sz
  at_ : ∀ k, k < n → w.rangeAt g (k * sz) (f k)
theorem WR.keep {w w' : World} {g sz n : Nat} {f : Nat → List Value} (h : WR w g sz n f) (b : Below w.heap.size w w') : WR w' g sz n f :=
  ⟨Nat.lt_of_lt_of_le h.lt b.size, there_keep b h.lt h.there, h.len, fun k hk => rangeAt_keep b h.lt (h.at_ k hk)⟩
theorem WR.free {w : World} {g sz n k : Nat} {f : Nat → List Value} (h : WR w g sz n f) (hk : k < n) : w.there g (k * sz) sz := fun j hj => by
  have := h.there (k * sz + j) (by
    have : (k + 1) * sz ≤ n * sz := Nat.mul_le_mul_right _ hk
    rw [Nat.succ_mul] at this
    omega)
  rwa [Nat.zero_add] at this
theorem WR.put {w : World} {g sz n k : Nat} {f : Nat → List Value} (h : WR w g sz n f) (hk : k < n) (x : List Value) (hx : x.length = sz) : WR (w.setCells g (k * sz) x) g sz n (fun j => if j = k then x else f j) where
  lt := by rw [size_setCells]; exact h.lt
  there := World.there_setCells h.there _ _ _
  len := fun j hj => by
    show (if j = k then x else f j).length = sz
    split
    · exact hx
    · exact h.len j hj
  at_ := fun j hj => by
    show World.rangeAt _ _ _ (if j = k then x else f j)
    split
    · rename_i e
      subst e
      exact World.rangeAt_setCells_same _ _ _ _ (by rw [hx]; exact h.free hk)
    · rename_i e
      refine World.rangeAt_setCells_apart (h.at_ j hj) _ _ _ (.inr ?_)
      rw [h.len j hj, hx]
      rcases Nat.lt_or_gt_of_ne e with e | e
      · left
        have : (j + 1) * sz ≤ k * sz := Nat.mul_le_mul_right _ e
        rw [Nat.succ_mul] at this
        exact this
      · right
        have : (k + 1) * sz ≤ j * sz := Nat.mul_le_mul_right _ e
        rw [Nat.succ_mul] at this
        exact this
theorem WR.ext {w : World} {g sz n : Nat} {f f' : Nat → List Value} (h : WR w g sz n f) (e : ∀ k, k < n → f k = f' k) : WR w g sz n f' :=
  ⟨h.lt, h.there, fun k hk => by rw [← e k hk]; exact h.len k hk, fun k hk => by rw [← e k hk]; exact h.at_ k hk⟩
theorem WR.new (w : World) (z : Array Value) (n : Nat) (T : TypeId) (hz : 0 < z.size) : WR (w.alloc (.cells (madeCells z (n * z.size)) T)) w.heap.size z.size n (fun _ => z.toList) where
  lt := by simp
  there := fun j hj => by
    have k := Blk.new w (madeCells z (n * z.size)) T
    refine ⟨?_, k.free _⟩
    rw [k.cell, Nat.zero_add]
    simp [madeCells, hj]
  len := fun k hk => by simp
  at_ := fun k hk j v hv => by
    have kb := Blk.new w (madeCells z (n * z.size)) T
    have hj : j < z.size := by
      have := (List.getElem?_eq_some_iff.1 hv).1
      simpa using this
    have hlt : k * z.size + j < n * z.size := by
      have : (k + 1) * z.size ≤ n * z.size := Nat.mul_le_mul_right _ hk
      rw [Nat.succ_mul] at this
      omega
    rw [kb.cell]
    have e : (k * z.size + j) % z.size = j := by rw [Nat.add_comm, Nat.add_mul_mod_self_right, Nat.mod_eq_of_lt hj]
    simp only [madeCells]
    rw [Array.getElem?_map, Array.getElem?_range, if_pos hlt]
    simp only [Option.map_some, e]
    rw [← hv]
    simp [hj]
theorem ld_mid {op : Oper} {a : Act} {w : World} {K : Act → World → Prop} {Q : Exit → Act → World → Prop} (ty : TypeId) (x : Operand) (ho : op.op = .load ty x)
    (b o : Nat) (hx : a.eval x = .pointer (some ⟨b, o, none⟩)) (cs : Array Value) (d : TypeDesc) (hc : w.rangeAt b o cs.toList)
    (hu : Tryd.prog.underlying ty = some d) (hd : d.isRow = true) (hi : (Tryd.prog.info? ty).map (·.size) = some cs.toList.length)
    (h : K (a.put op.dst (.agg cs)) w) : op.wp Tryd.prog a w K Q :=
  wp_load_mid ty x ho b o hx cs.toList d hc hu hd hi (by rw [Array.toArray_toList]; exact h)
def uL (x : Int) : List Value := (U (lim x)).toList
theorem uL_len (x : Int) : (uL x).length = 16 := by unfold uL; simp [U, lim_len]
end Go.Proofs.YtfcandmhalhaeaaDoor.YSym
namespace Go.Proofs.YtfcandmhalhaeaaDoor.YSym
open Go.RowKit Go.Proofs.YtfcandmhalhaeaaDoor.YErr Go.Proofs.YtfcandmhalhaeaaDoor.YInv Go.Proofs.YtfcandmhalhaeaaDoor.YRef Go.Proofs.YtfcandmhalhaeaaDoor.YBits Go.Proofs.YtfcandmhalhaeaaDoor.YNum Go.Proofs.YtfcandmhalhaeaaDoor.QSy Go.Proofs.YtfcandmhalhaeaaDoor.YWide Go.Proofs.YtfcandmhalhaeaaDoorW.PrintWords Go.Proofs.YtfcandmhalhaeaaDoorW.PrintLast
set_option linter.unusedVariables false
set_option linter.unusedSimpArgs false
def ps (m : Nat) (l h : List Int) (i : Nat) : Nat → Int
  | 0 => 0
  | j + 1 => ps m l h i j + l.getD (pl m i j) 0 * h.getD j 0
theorem ps_abs {m : Nat} {l h : List Int} (wl : ∀ x ∈ l, W64 x) (wh : ∀ x ∈ h, W64 x) (i j : Nat) : (ps m l h i j).natAbs ≤ j * 85070591730234615865843651857942052864 := by
  induction j with
  | zero => simp [ps]
  | succ j ih =>
    have h1 := abs_mul (getD_w wl (pl m i j)).abs (getD_w wh j).abs
    have h2 := Int.natAbs_add_le (ps m l h i j) (l.getD (pl m i j) 0 * h.getD j 0)
    rw [ps]
    omega
theorem ps_inw {m : Nat} {l h : List Int} (wl : ∀ x ∈ l, W64 x) (wh : ∀ x ∈ h, W64 x) (i : Nat) {j : Nat} (hj : j ≤ 8) : (ps m l h i j).natAbs ≤ 2 ^ 255 := by
  have h1 := ps_abs (m := m) wl wh i j
  have h2 : 8 * 85070591730234615865843651857942052864 ≤ 2 ^ 255 := by decide
  have h3 : j * 85070591730234615865843651857942052864 ≤ 8 * 85070591730234615865843651857942052864 := Nat.mul_le_mul_right _ hj
  omega
def tmE (n : Int) (l : List Int) (g : Bool) : Int := if rightB n l = true ∧ g = true then 0 else 23
def tmN (n : Int) (l : List Int) (g : Bool) : Nat := if tmE n l g = 0 then n.toNat else 0
theorem tm_23 {n : Int} {l : List Int} {g : Bool} (h : rightB n l = false ∨ g = false) : tmE n l g = 23 ∧ tmN n l g = 0 := by
  have e : tmE n l g = 23 := by
    unfold tmE
    rw [if_neg (by rcases h with h | h <;> rw [h] <;> simp)]
  refine ⟨e, ?_⟩
  unfold tmN
  rw [e, if_neg (by decide)]
theorem tm_0 {n : Int} {l : List Int} {g : Bool} (h : rightB n l = true) (k : g = true) : tmE n l g = 0 ∧ tmN n l g = n.toNat := by
  have e : tmE n l g = 0 := by unfold tmE; rw [if_pos ⟨h, k⟩]
  refine ⟨e, ?_⟩
  unfold tmN
  rw [e, if_pos rfl]
def RowAt (w : World) (A : Option Addr) (sz n : Nat) (f : Nat → List Value) : Prop := 0 < n → ∃ g, A = some ⟨g, 0, none⟩ ∧ WR w g sz n f
theorem RowAt.keep {w w' : World} {A : Option Addr} {sz n : Nat} {f : Nat → List Value} (h : RowAt w A sz n f) (b : Below w.heap.size w w') : RowAt w' A sz n f := fun hp => by
  obtain ⟨g, e, k⟩ := h hp
  exact ⟨g, e, k.keep b⟩
def WTEnd (w : World) (code : Int) (n : Nat) (f : Nat → Int) (e : Ending) (w' : World) : Prop := ∃ A' c' v, e = .returned (.tuple #[.slice A' n c', v]) ∧ RowAt w' A' 16 n (fun k => uL (f k)) ∧ ErrFrom op5 w.heap.size w' v code ∧ Below w.heap.size w w'
/-- What the loop keeps: rows ahead of i are summed whole, row i as far as j. -/
def tf (m : Nat) (l h : List Int) (i j k : Nat) : Int := if k < i then ps m l h k m else if k = i then ps m l h i j else 0
theorem tf_next (m : Nat) (l h : List Int) (i j k : Nat) : (if k = i then uL (tf m l h i j i + l.getD (pl m i j) 0 * h.getD j 0) else uL (tf m l h i j k)) = uL (tf m l h i (j + 1) k) := by
  unfold tf
  by_cases e : k = i
  · subst e
    simp [ps]
  · simp [e]
theorem tf_row (m : Nat) (l h : List Int) (i k : Nat) : tf m l h i m k = tf m l h (i + 1) 0 k := by
  unfold tf
  rcases Nat.lt_trichotomy k i with e | e | e
  · rw [if_pos e, if_pos (by omega)]
  · subst e; simp
  · rw [if_neg (by omega), if_neg (by omega), if_neg (by omega)]
    split <;> simp [ps]
theorem tf_at (m : Nat) (l h : List Int) (i j : Nat) : tf m l h i j i = ps m l h i j := by unfold tf; simp
theorem uL_0 : (U zeros).toList = uL 0 := by unfold uL; rw [zeros_lim]
structure TIn (W wx : World) (m : Nat) (l h : List Int) (A : Option Addr) (c g i j : Nat) : Prop where
  k0 : Blk wx W.heap.size #[.int .i64 (m : Int), .slice A l.length c] 24
  row : WR wx g 16 m (fun k => uL (tf m l h i j k))
  gt : W.heap.size < g
  b : Below W.heap.size W wx
theorem TIn.keep {W wx wy : World} {m : Nat} {l h : List Int} {A : Option Addr} {c g i j : Nat} (h0 : TIn W wx m l h A c g i j) (b : Below wx.heap.size wx wy) : TIn W wy m l h A c g i j :=
  ⟨h0.k0.keep b, h0.row.keep b, h0.gt, bb h0.b b⟩
theorem TIn.put {W wx : World} {m : Nat} {l h : List Int} {A : Option Addr} {c g i j : Nat} (h0 : TIn W wx m l h A c g i j) (hi : i < m) : TIn W (wx.setCells g (i * 16) (U (lim (tf m l h i j i + l.getD (pl m i j) 0 * h.getD j 0))).toList) m l h A c g i (j + 1) :=
  ⟨h0.k0.setCells (Nat.ne_of_lt h0.gt) _ _, (h0.row.put hi _ (uL_len (tf m l h i j i + l.getD (pl m i j) 0 * h.getD j 0))).ext (fun k _ => tf_next m l h i j k), h0.gt, below_setCells g (Nat.le_of_lt h0.gt) _ _ _ h0.b⟩
theorem TIn.next {W wx : World} {m : Nat} {l h : List Int} {A : Option Addr} {c g i : Nat} (h0 : TIn W wx m l h A c g i m) : TIn W wx m l h A c g (i + 1) 0 :=
  ⟨h0.k0, h0.row.ext (fun k _ => by rw [tf_row]), h0.gt, h0.b⟩
theorem makeWs {m : Nat} (h : m ≤ 8) (W : World) : (Instr.makeSlice 60 (.int .i64 (m : Int)) (.int .i64 (m : Int))).run Tryd.prog W = .ok (.slice (some ⟨W.heap.size, 0, none⟩) m m) (W.alloc (.cells (madeCells (U zeros) (m * 16)) 79)) := by
  rcases (show m = 0 ∨ m = 1 ∨ m = 2 ∨ m = 3 ∨ m = 4 ∨ m = 5 ∨ m = 6 ∨ m = 7 ∨ m = 8 by omega) with rfl | rfl | rfl | rfl | rfl | rfl | rfl | rfl | rfl <;> kernel_rfl
theorem info_uL (l : List Int) (hl : l.length = 16) : (Tryd.prog.info? 79).map (·.size) = some (U l).toList.length := by rw [show (U l).toList.length = (U l).size from rfl]; exact ofLen hl
set_option maxRecDepth 100000 in
set_option maxHeartbeats 16000000 in
theorem STimes_c {n : Int} {w : World} {A B : Option Addr} {c d : Nat} {l h : List Int} (R : Rd w A l) (hc : l.length ≤ c) (hl : l.length ≤ 1000) (RH : Rd w B h) (hh : h.length ≤ 100) (wh : ∀ x ∈ h, W64 x) :
    Calls Tryd.prog 30 #[.agg #[.int .i64 n, .slice A l.length c], .slice B h.length d] w fun e w' => WTEnd w (tmE n l (decide ((h.length : Int) = n))) (tmN n l (decide ((h.length : Int) = n))) (fun k => ps n.toNat l h k n.toNat) e w' := by
  have k0 := Blk.new w #[.int .i64 n, .slice A l.length c] 24
  have b0 : Below w.heap.size w (w.alloc (.cells #[.int .i64 n, .slice A l.length c] 24)) := (Below.refl _ _).alloc (Nat.le_refl _) _
  have hs0 : w.heap.size + 1 ≤ (w.alloc (.cells #[.int .i64 n, .slice A l.length c] 24)).heap.size := by simp
  have IN := in_c (n := n) (B := none) (d := 0) (q := []) (R.keep b0) hc hl (Rd.nil _ _) (by decide)
  have HR0 := Lib.hid R
  replace R := R.keep b0
  have BD23 := fun W => bad_c 23 (by decide) W
  generalize hgd : decide ((h.length : Int) = n) = gd
  rw [inE_nil] at IN
  go_enter Tryd.func30, Tryd.ntmps30
  go_wp2_with fail
  refine IN.mono ?_; rintro e w1 ⟨ve, rfl, hve, g1⟩
  replace R := R.keep g1
  have b1 := bb b0 g1
  have hs1 := Nat.le_trans hs0 g1.size
  replace k0 := k0.keep g1
  replace hve := hve.mono (Nat.le_trans (Nat.le_succ _) hs0)
  have c0 := (k0.cell 0).trans (show _ = some (.int .i64 n) from rfl)
  have c1 := (k0.cell 1).trans (show _ = some (.slice A l.length c) from rfl)
  clear IN g1 b0 hs0
  cases hr : rightB n l with
  | false =>
    have HE := Lib.hid (tm_23 (g := gd) (.inl hr))
    rw [hr, if_neg (by decide)] at hve
    obtain ⟨a, rfl⟩ := hve.is.some (by decide)
    clear R hr hgd
    go_wp2_with fail
    go_ret2
    rw [HE.out.1, HE.out.2]
    exact ⟨none, 0, _, rfl, fun hp => absurd hp (by decide), hve, b1⟩
  | true =>
    rw [hr, if_pos rfl] at hve
    obtain rfl := hve.none
    clear hve
    by_cases hn : (h.length : Int) = n
    case neg =>
      have HE := Lib.hid (tm_23 (n := n) (l := l) (g := gd) (.inr (by rw [← hgd]; exact decide_eq_false hn)))
      have e1 : ((h.length : Int) != n) = true := by simpa using hn
      clear R hr hgd hn
      go_wp2_with fail
      refine (BD23 _).mono ?_; rintro e w2 ⟨v, rfl, hv, g2⟩
      have b2 := bb b1 g2
      replace hv := hv.mono (Nat.le_trans (Nat.le_succ _) hs1)
      go_wp2_with fail
      go_ret2
      rw [HE.out.1, HE.out.2]
      exact ⟨none, 0, _, rfl, fun hp => absurd hp (by decide), hv, b2⟩
    case pos =>
      have HT := Lib.hid (tm_0 (g := gd) hr (by rw [← hgd]; exact decide_eq_true hn))
      obtain ⟨m, rfl, hm, hlen, hall⟩ := rightB_nat hr
      have e1 : ((h.length : Int) != (m : Int)) = false := by simpa using hn
      simp only [Int.toNat_natCast] at *
      have MK := fun W => makeWs hm W
      have HLN := Lib.hid hlen
      have HWL := Lib.hid (okl_w hall)
      have HWH := Lib.hid wh
      have hnm : h.length = m := by omega
      have HNM := Lib.hid hnm
      have HM := Lib.hid hm
      have mI : (m : Int) ≤ 8 := by omega
      have m0 : (0 : Int) ≤ (m : Int) := by omega
      have HRH := Lib.hid RH
      have HB := Lib.hid b1
      have HK := Lib.hid k0
      have HS := Lib.hid hs1
      have HHC := Lib.hid hc
      clear hr hgd hn hlen hall wh hm RH hh BD23 R b1 k0 hs1 hc hl
      subst hnm
      go_wp2_with fail
      have bA : Below w1.heap.size w1 (w1.alloc (.cells (madeCells (U zeros) (h.length * 16)) 79)) := (Below.refl _ _).alloc (Nat.le_refl _) _
      have WN := WR.new w1 (U zeros) h.length 79 (by rw [U_size]; decide)
      rw [show (U zeros).size = 16 by rw [U_size]; rfl] at WN
      have OI : TIn w (w1.alloc (.cells (madeCells (U zeros) (h.length * 16)) 79)) h.length l h A c w1.heap.size 0 0 := ⟨HK.out.keep bA, WN.ext (fun k _ => by rw [uL_0]; congr 1; unfold tf; rw [if_neg (Nat.not_lt_zero _)]; split <;> rfl), by have := HS.out; omega, bb HB.out bA⟩
      have HO0 := Lib.hid OI
      clear OI WN bA c0 c1 HK HS HB
      generalize w1.alloc (.cells (madeCells (U zeros) (h.length * 16)) 79) = W5 at *
      generalize w1.heap.size = g at *
      go_loopw [29] (fun s29 wl => ∃ i : Nat, i ≤ h.length ∧ s29 = .int .i64 i ∧ TIn w wl h.length l h A c g i 0) (fun s29 _ => h.length - (intOf s29).toNat)
      case atStart => exact ⟨0, Nat.zero_le _, rfl, HO0.out⟩
      case round =>
        clear HO0
        obtain ⟨i, hi, rfl, OI⟩ := hrel
        have i0 : (0 : Int) ≤ (i : Int) := by omega
        by_cases him : i < h.length
        · have i1 : (i : Int) < (h.length : Int) := by omega
          have i2 : decide ((i : Int) < (h.length : Int)) = true := by simpa using him
          have HO := Lib.hid OI
          clear OI
          go_wp2_with fail
          clear i2
          go_loopw [34] (fun s34 wl => ∃ j : Nat, j ≤ h.length ∧ s34 = .int .i64 j ∧ TIn w wl h.length l h A c g i j) (fun s34 _ => h.length - (intOf s34).toNat)
          case atStart => exact ⟨0, Nat.zero_le _, rfl, HO.out⟩
          case round =>
            clear HO
            obtain ⟨j, hj, rfl, OI⟩ := hrel
            have j0 : (0 : Int) ≤ (j : Int) := by omega
            by_cases hjm : j < h.length
            · have j1 : (j : Int) < (h.length : Int) := by omega
              have j2 : decide ((j : Int) < (h.length : Int)) = true := by simpa using hjm
              have hp : pl h.length i j < tri h.length := pl_lt HM.out him hjm
              have q0 := (OI.k0.cell 0).trans (show _ = some (.int .i64 (h.length : Int)) from rfl)
              have q1 := (OI.k0.cell 1).trans (show _ = some (.slice A l.length c) from rfl)
              have hpl : pl h.length i j < l.length := by have := HLN.out; omega
              have p0 : (0 : Int) ≤ ((pl h.length i j : Nat) : Int) := by omega
              have p1 : ((pl h.length i j : Nat) : Int) < (l.length : Int) := by omega
              obtain ⟨gh, oh, rfl, HRC⟩ := (HRH.out.keep OI.b) (by omega)
              obtain ⟨ga, oa, rfl, HRA⟩ := (HR0.out.keep OI.b) (by omega)
              have cj := HRC j hjm
              have ca := HRA (pl h.length i j) hpl
              clear HRC HRA
              have wi := getD_w HWL.out (pl h.length i j)
              have wj := getD_w HWH.out j
              have PL := fun W => place_c HM.out (show i ≤ h.length by omega) (show j ≤ h.length by omega) W
              have OL := fun W => WOf_c wi W
              have OH := fun W => WOf_c wj W
              have ML := fun W => WMul_c (inw_1 wi) (inw_1 wj) (inw_2 wi wj) W
              have IS : InW (tf h.length l h i j i + l.getD (pl h.length i j) 0 * h.getD j 0) := by
                rw [tf_at]; exact inw_abs (ps_inw (m := h.length) HWL.out HWH.out i (j := j + 1) (by have := HM.out; omega))
              have IX : InW (tf h.length l h i j i) := by
                rw [tf_at]; exact inw_abs (ps_inw (m := h.length) HWL.out HWH.out i (j := j) (by have := HM.out; omega))
              have AD := fun W => WAdd_c IX (inw_2 wi wj) IS W
              have MR := OI.row.at_ i him
              have GL := OI.row.lt
              have TH := OI.row.free him
              have HP := Lib.hid (fun wy (b : Below wr.heap.size wr wy) => TIn.put (OI.keep b) him)
              have ls := lim_len (l.getD (pl h.length i j) 0 * h.getD j 0)
              have lx := lim_len (tf h.length l h i j i)
              have lz := lim_len (tf h.length l h i j i + l.getD (pl h.length i j) 0 * h.getD j 0)
              replace MR : World.rangeAt wr g (i * 16) (U (lim (tf h.length l h i j i))).toList := MR
              clear OI IS IX wi wj hpl hp
              generalize tf h.length l h i j i = sx at *
              generalize pl h.length i j = p at *
              generalize l.getD p 0 = lp at *
              generalize h.getD j 0 = hj' at *
              have THR : World.there wr g (i * 16) (U (lim (sx + lp * hj'))).size := by rw [U_size, lz]; exact TH
              clear TH
              go_wp2_with fail
              refine region_vals (σ := Nat → Value) [some 40, some 41, some 42, some 43, some 44, some 45, some 46, some 47, some 48, some 49, some 50, some 51, some 52, some 39, some 53, some 54, some 11, none, some 12] (VQ [some (.pointer (some ⟨w.heap.size, 1, none⟩)), some (.slice (some ⟨ga, oa, none⟩) l.length c), some (.pointer (some ⟨w.heap.size, 0, none⟩)), some (.int .i64 (h.length : Int)), some (.int .i64 (i : Int)), some (.int .i64 (j : Int)), some (.int .i64 (p : Int)), some (.pointer (some ⟨ga, oa + p, none⟩)), some (.int .i64 lp), some (.agg (U (lim lp))), some (.int .i64 hj'), some (.agg (U (lim hj'))), some (.tuple #[.agg (U (lim (lp * hj'))), .bool true]), some (.tuple #[.agg (U (lim (lp * hj'))), .bool true]), some (.agg (U (lim (lp * hj')))), some (.bool true), none, some (undef), some (.bool true)]) (fun L s wx => (Below wr.heap.size wr wx) ∧ (L 16 = true → ∃ g, s 16 = .pointer (some ⟨g, 0, none⟩) ∧ wr.heap.size ≤ g ∧ (L 17 = false → Blk wx g (U zeros) 79) ∧ (L 17 = true → Blk wx g (U (lim (lp * hj'))) 79)) ∧ (L 17 = true → L 16 = true)) (fun _ => undef) [0, 1, 2, 3, 4, 5, 6, 7, 8, 9, 10, 11, 12, 13, 14, 15, 16, 17, 18] _ _ rfl (by kernel_rfl) (by kernel_rfl) (by kernel_rfl) (by kernel_rfl) (by kernel_rfl) ⟨(Below.refl _ _).drew, fun h => absurd h (by decide), fun h => absurd h (by decide)⟩ ?stepsA ?finA (fun L L' s wx e h => by rw [e 16 (by decide), e 17 (by decide)] at h; exact h)
              case stepsA =>
                refine VSteps.cons rfl (fun x L s wx K kn hL hp hI hK => ?_) ?_
                · have e2 : x[2]? = some (.pointer (some ⟨w.heap.size, 0, none⟩)) := (kn.old 2 (by kernel_rfl)).trans rfl
                  refine want_ rfl ?_
                  obtain ⟨BW, A16, S16⟩ := hI
                  exact val_ (v := .pointer (some ⟨w.heap.size, 1, none⟩)) (by simp [go_sem, execOp, evr_, e2, addr_add]) (hK.out s _ (fun _ _ => rfl) ⟨BW, A16, S16⟩)
                refine VSteps.cons rfl (fun x L s wx K kn hL hp hI hK => ?_) ?_
                · have e40 : x[40]? = some (.pointer (some ⟨w.heap.size, 1, none⟩)) := kn.got 0 40 (hp ⟨0, .data⟩ (by simp) rfl) rfl
                  refine want_ rfl ?_
                  obtain ⟨BW, A16, S16⟩ := hI
                  have cA := (BW.cell (lt_of_cell q1)).trans q1
                  exact valw_ (v := .slice (some ⟨ga, oa, none⟩) l.length c) (w' := wx) (by simp [go_sem, execOp, evr_, e40, cA]) (hK.out s _ (fun _ _ => rfl) ⟨BW, A16, S16⟩)
                refine VSteps.cons rfl (fun x L s wx K kn hL hp hI hK => ?_) ?_
                · have e2 : x[2]? = some (.pointer (some ⟨w.heap.size, 0, none⟩)) := (kn.old 2 (by kernel_rfl)).trans rfl
                  refine want_ rfl ?_
                  obtain ⟨BW, A16, S16⟩ := hI
                  exact val_ (v := .pointer (some ⟨w.heap.size, 0, none⟩)) (by simp [go_sem, execOp, evr_, e2, addr_add]) (hK.out s _ (fun _ _ => rfl) ⟨BW, A16, S16⟩)
                refine VSteps.cons rfl (fun x L s wx K kn hL hp hI hK => ?_) ?_
                · have e42 : x[42]? = some (.pointer (some ⟨w.heap.size, 0, none⟩)) := kn.got 2 42 (hp ⟨2, .data⟩ (by simp) rfl) rfl
                  refine want_ rfl ?_
                  obtain ⟨BW, A16, S16⟩ := hI
                  have cA := (BW.cell (lt_of_cell q0)).trans q0
                  exact valw_ (v := .int .i64 (h.length : Int)) (w' := wx) (by simp [go_sem, execOp, evr_, e42, cA]) (hK.out s _ (fun _ _ => rfl) ⟨BW, A16, S16⟩)
                refine VSteps.cons rfl (fun x L s wx K kn hL hp hI hK => ?_) ?_
                · have e8 : x[8]? = some (.int .i64 (i : Int)) := (kn.old 8 (by kernel_rfl)).trans rfl
                  refine want_ rfl ?_
                  obtain ⟨BW, A16, S16⟩ := hI
                  exact val_ (v := .int .i64 (i : Int)) (by simp [go_sem, execOp, evr_, e8]) (hK.out s _ (fun _ _ => rfl) ⟨BW, A16, S16⟩)
                refine VSteps.cons rfl (fun x L s wx K kn hL hp hI hK => ?_) ?_
                · have e9 : x[9]? = some (.int .i64 (j : Int)) := (kn.old 9 (by kernel_rfl)).trans rfl
                  refine want_ rfl ?_
                  obtain ⟨BW, A16, S16⟩ := hI
                  exact val_ (v := .int .i64 (j : Int)) (by simp [go_sem, execOp, evr_, e9]) (hK.out s _ (fun _ _ => rfl) ⟨BW, A16, S16⟩)
                refine VSteps.cons rfl (fun x L s wx K kn hL hp hI hK => ?_) ?_
                · have e43 : x[43]? = some (.int .i64 (h.length : Int)) := kn.got 3 43 (hp ⟨3, .data⟩ (by simp) rfl) rfl
                  have e44 : x[44]? = some (.int .i64 (i : Int)) := kn.got 4 44 (hp ⟨4, .data⟩ (by simp) rfl) rfl
                  have e45 : x[45]? = some (.int .i64 (j : Int)) := kn.got 5 45 (hp ⟨5, .data⟩ (by simp) rfl) rfl
                  refine want_ rfl ?_
                  obtain ⟨BW, A16, S16⟩ := hI
                  refine goesK_ Tryd.func37 (by kernel_rfl) rfl #[.int .i64 (h.length : Int), .int .i64 (i : Int), .int .i64 (j : Int)] rfl (by simp only [List.map_toArray, List.map_cons, List.map_nil, evr_, ev_ e43, ev_ e44, ev_ e45]) ((PL _).mono ?_)
                  rintro e w' ⟨rfl, n6, rfl⟩
                  have g := below_drewN (Below.refl wx.heap.size wx) n6
                  exact ⟨_, rfl, hK.out s _ (fun _ _ => rfl) ⟨bb BW g, fun h => by
                    obtain ⟨g0, h1, h2, h3, h4⟩ := A16 h
                    exact ⟨g0, h1, h2, fun k => (h3 k).keep g, fun k => (h4 k).keep g⟩, S16⟩⟩
                refine VSteps.cons rfl (fun x L s wx K kn hL hp hI hK => ?_) ?_
                · have e41 : x[41]? = some (.slice (some ⟨ga, oa, none⟩) l.length c) := kn.got 1 41 (hp ⟨1, .data⟩ (by simp) rfl) rfl
                  have e46 : x[46]? = some (.int .i64 (p : Int)) := kn.got 6 46 (hp ⟨6, .data⟩ (by simp) rfl) rfl
                  refine want_ rfl ?_
                  obtain ⟨BW, A16, S16⟩ := hI
                  exact val_ (v := .pointer (some ⟨ga, oa + p, none⟩)) (by simp [go_sem, execOp, evr_, e41, e46, p0, p1, addr_add]) (hK.out s _ (fun _ _ => rfl) ⟨BW, A16, S16⟩)
                refine VSteps.cons rfl (fun x L s wx K kn hL hp hI hK => ?_) ?_
                · have e47 : x[47]? = some (.pointer (some ⟨ga, oa + p, none⟩)) := kn.got 7 47 (hp ⟨7, .data⟩ (by simp) rfl) rfl
                  refine want_ rfl ?_
                  obtain ⟨BW, A16, S16⟩ := hI
                  have cA := (BW.cell (lt_of_cell ca)).trans ca
                  exact valw_ (v := .int .i64 lp) (w' := wx) (by simp [go_sem, execOp, evr_, e47, cA]) (hK.out s _ (fun _ _ => rfl) ⟨BW, A16, S16⟩)
                refine VSteps.cons rfl (fun x L s wx K kn hL hp hI hK => ?_) ?_
                · have e48 : x[48]? = some (.int .i64 lp) := kn.got 8 48 (hp ⟨8, .data⟩ (by simp) rfl) rfl
                  refine want_ rfl ?_
                  obtain ⟨BW, A16, S16⟩ := hI
                  refine goesK_ Tryd.func43 (by kernel_rfl) rfl #[.int .i64 lp] rfl (by simp only [List.map_toArray, List.map_cons, List.map_nil, evr_, ev_ e48]) ((OL _).mono ?_)
                  rintro e w' ⟨rfl, g⟩
                  exact ⟨_, rfl, hK.out s _ (fun _ _ => rfl) ⟨bb BW g, fun h => by
                    obtain ⟨g0, h1, h2, h3, h4⟩ := A16 h
                    exact ⟨g0, h1, h2, fun k => (h3 k).keep g, fun k => (h4 k).keep g⟩, S16⟩⟩
                refine VSteps.cons rfl (fun x L s wx K kn hL hp hI hK => ?_) ?_
                · have e10 : x[10]? = some (.int .i64 hj') := (kn.old 10 (by kernel_rfl)).trans rfl
                  refine want_ rfl ?_
                  obtain ⟨BW, A16, S16⟩ := hI
                  exact val_ (v := .int .i64 hj') (by simp [go_sem, execOp, evr_, e10]) (hK.out s _ (fun _ _ => rfl) ⟨BW, A16, S16⟩)
                refine VSteps.cons rfl (fun x L s wx K kn hL hp hI hK => ?_) ?_
                · have e50 : x[50]? = some (.int .i64 hj') := kn.got 10 50 (hp ⟨10, .data⟩ (by simp) rfl) rfl
                  refine want_ rfl ?_
                  obtain ⟨BW, A16, S16⟩ := hI
                  refine goesK_ Tryd.func43 (by kernel_rfl) rfl #[.int .i64 hj'] rfl (by simp only [List.map_toArray, List.map_cons, List.map_nil, evr_, ev_ e50]) ((OH _).mono ?_)
                  rintro e w' ⟨rfl, g⟩
                  exact ⟨_, rfl, hK.out s _ (fun _ _ => rfl) ⟨bb BW g, fun h => by
                    obtain ⟨g0, h1, h2, h3, h4⟩ := A16 h
                    exact ⟨g0, h1, h2, fun k => (h3 k).keep g, fun k => (h4 k).keep g⟩, S16⟩⟩
                refine VSteps.cons rfl (fun x L s wx K kn hL hp hI hK => ?_) ?_
                · have e49 : x[49]? = some (.agg (U (lim lp))) := kn.got 9 49 (hp ⟨9, .data⟩ (by simp) rfl) rfl
                  have e51 : x[51]? = some (.agg (U (lim hj'))) := kn.got 11 51 (hp ⟨11, .data⟩ (by simp) rfl) rfl
                  refine want_ rfl ?_
                  obtain ⟨BW, A16, S16⟩ := hI
                  refine goesK_ Tryd.func52 (by kernel_rfl) rfl #[.agg (U (lim lp)), .agg (U (lim hj'))] rfl (by simp only [List.map_toArray, List.map_cons, List.map_nil, evr_, ev_ e49, ev_ e51]) ((ML _).mono ?_)
                  rintro e w' ⟨rfl, g⟩
                  exact ⟨_, rfl, hK.out s _ (fun _ _ => rfl) ⟨bb BW g, fun h => by
                    obtain ⟨g0, h1, h2, h3, h4⟩ := A16 h
                    exact ⟨g0, h1, h2, fun k => (h3 k).keep g, fun k => (h4 k).keep g⟩, S16⟩⟩
                refine VSteps.cons rfl (fun x L s wx K kn hL hp hI hK => ?_) ?_
                · have e52 : x[52]? = some (.tuple #[.agg (U (lim (lp * hj'))), .bool true]) := kn.got 12 52 (hp ⟨12, .data⟩ (by simp) rfl) rfl
                  refine want_ rfl ?_
                  obtain ⟨BW, A16, S16⟩ := hI
                  exact val_ (v := .tuple #[.agg (U (lim (lp * hj'))), .bool true]) (by simp [go_sem, execOp, evr_, e52]) (hK.out s _ (fun _ _ => rfl) ⟨BW, A16, S16⟩)
                refine VSteps.cons rfl (fun x L s wx K kn hL hp hI hK => ?_) ?_
                · have e39 : x[39]? = some (.tuple #[.agg (U (lim (lp * hj'))), .bool true]) := kn.got 13 39 (hp ⟨13, .data⟩ (by simp) rfl) rfl
                  refine want_ rfl ?_
                  obtain ⟨BW, A16, S16⟩ := hI
                  exact val_ (v := .agg (U (lim (lp * hj')))) (by simp [go_sem, execOp, evr_, e39]) (hK.out s _ (fun _ _ => rfl) ⟨BW, A16, S16⟩)
                refine VSteps.cons rfl (fun x L s wx K kn hL hp hI hK => ?_) ?_
                · have e39 : x[39]? = some (.tuple #[.agg (U (lim (lp * hj'))), .bool true]) := kn.got 13 39 (hp ⟨13, .data⟩ (by simp) rfl) rfl
                  refine want_ rfl ?_
                  obtain ⟨BW, A16, S16⟩ := hI
                  exact val_ (v := .bool true) (by simp [go_sem, execOp, evr_, e39]) (hK.out s _ (fun _ _ => rfl) ⟨BW, A16, S16⟩)
                refine VSteps.cons rfl (fun x L s wx K kn hL hp hI hK => ?_) ?_
                · refine want_ rfl ?_
                  obtain ⟨BW, A16, S16⟩ := hI
                  have g : Below wx.heap.size wx (wx.alloc (.cells #[.int .u64 0, .int .u64 0, .int .u64 0, .int .u64 0, .int .u64 0, .int .u64 0, .int .u64 0, .int .u64 0, .int .u64 0, .int .u64 0, .int .u64 0, .int .u64 0, .int .u64 0, .int .u64 0, .int .u64 0, .int .u64 0] 79)) := (Below.refl _ _).alloc (Nat.le_refl _) _
                  exact valw_ (v := .pointer (some ⟨wx.heap.size, 0, none⟩)) (w' := wx.alloc (.cells #[.int .u64 0, .int .u64 0, .int .u64 0, .int .u64 0, .int .u64 0, .int .u64 0, .int .u64 0, .int .u64 0, .int .u64 0, .int .u64 0, .int .u64 0, .int .u64 0, .int .u64 0, .int .u64 0, .int .u64 0, .int .u64 0] 79)) (by simp [go_sem, execOp, evr_]) (hK.out (updv s 16 (.pointer (some ⟨wx.heap.size, 0, none⟩))) _ (VQ_upd _ _ _ hL) ⟨bb BW g, fun _ => ⟨wx.heap.size, rfl, BW.size, fun _ => Blk.new _ _ _, fun h => absurd (S16 h) (by simp [hL])⟩, fun _ => by simp [YInv.up]⟩)
                refine VSteps.cons rfl (fun x L s wx K kn hL hp hI hK => ?_) ?_
                · have e11 : x[11]? = some (s 16) := kn.got 16 11 (hp ⟨16, .data⟩ (by simp) rfl) rfl
                  have e53 : x[53]? = some (.agg (U (lim (lp * hj')))) := kn.got 14 53 (hp ⟨14, .data⟩ (by simp) rfl) rfl
                  refine want_ rfl ?_
                  obtain ⟨BW, A16, S16⟩ := hI
                  obtain ⟨g0, h1, h2, h3, h4⟩ := A16 (hp ⟨16, .data⟩ (by simp) rfl)
                  have kz := h3 hL
                  rw [h1] at e11
                  exact wp_store_row 79 _ _ rfl g0 (U (lim (lp * hj'))) (ev_ e11) (ev_ e53) 79 (U zeros) kz (ofLen ls) (by rw [U_size, U_size, ls, zeros_len]) (one_cell _) (hK.out s _ (fun _ _ => rfl) ⟨below_row BW h2 _, fun _ => ⟨g0, h1, h2, fun h => absurd h (by simp [YInv.up]), fun _ => put_ kz⟩, fun _ => (hp ⟨16, .data⟩ (by simp) rfl)⟩)
                refine VSteps.cons rfl (fun x L s wx K kn hL hp hI hK => ?_) ?_
                · have e54 : x[54]? = some (.bool true) := kn.got 15 54 (hp ⟨15, .data⟩ (by simp) rfl) rfl
                  refine want_ rfl ?_
                  obtain ⟨BW, A16, S16⟩ := hI
                  exact val_ (v := .bool true) (by simp [go_sem, execOp, evr_, e54]) (hK.out s _ (fun _ _ => rfl) ⟨BW, A16, S16⟩)
                exact VSteps.nil
              intro s wx hI
              simp only [puts, VQ, List.getD_cons_zero, List.getD_cons_succ, List.set_cons_zero, List.set_cons_succ]
              obtain ⟨BW, A16, S16⟩ := hI
              obtain ⟨g16, E16, Z16, -, k16⟩ := A16 rfl
              have K16 := k16 rfl
              clear S16 k16 A16
              rw [E16]
              clear E16
              have MR := rangeAt_keep BW GL MR
              have THR := there_keep BW GL THR
              have GL := Nat.lt_of_lt_of_le GL BW.size
              have HP := Lib.hid (fun wy (b : Below wx.heap.size wx wy) => HP.out wy (bb BW b))
              clear BW q0 q1 ca cj PL OL OH ML
              generalize wx = wz at *
              go_wp2_with fail
              refine region_vals (σ := Nat → Value) [some 56, some 57, some 58, some 59, some 60, some 61, some 62, some 63, some 55, some 64, some 65, some 66, none] (VQ [some (.slice (some ⟨g, 0, none⟩) h.length h.length), some (.int .i64 (i : Int)), some (.slice (some ⟨g, 0, none⟩) h.length h.length), some (.int .i64 (i : Int)), some (.pointer (some ⟨g, i * 16, none⟩)), some (.agg (U (lim sx))), some (.agg (U (lim (lp * hj')))), some (.tuple #[.agg (U (lim (sx + lp * hj'))), .bool true]), some (.tuple #[.agg (U (lim (sx + lp * hj'))), .bool true]), some (.agg (U (lim (sx + lp * hj')))), some (.bool true), some (.pointer (some ⟨g, i * 16, none⟩)), some (undef)]) (fun L s wx => (L 12 = false → Below wz.heap.size wz wx) ∧ (L 12 = true → ∃ w1, Below wz.heap.size wz w1 ∧ wx = w1.setCells g (i * 16) (U (lim (sx + lp * hj'))).toList) ∧ (L 12 = true → L 5 = true ∧ L 6 = true ∧ L 7 = true)) (fun _ => undef) [0, 1, 2, 3, 4, 5, 6, 7, 8, 9, 10, 11, 12] _ _ rfl (by kernel_rfl) (by kernel_rfl) (by kernel_rfl) (by kernel_rfl) (by kernel_rfl) ⟨fun _ => (Below.refl _ _).drew, fun h => absurd h (by decide), fun h => absurd h (by decide)⟩ ?stepsB ?finB (fun L L' s wx e h => by rw [e 5 (by decide), e 6 (by decide), e 7 (by decide), e 12 (by decide)] at h; exact h)
              case stepsB =>
                refine VSteps.cons rfl (fun x L s wx K kn hL hp hI hK => ?_) ?_
                · have e7 : x[7]? = some (.slice (some ⟨g, 0, none⟩) h.length h.length) := (kn.old 7 (by kernel_rfl)).trans rfl
                  refine want_ rfl ?_
                  obtain ⟨BW, ST, SD⟩ := hI
                  exact val_ (v := .slice (some ⟨g, 0, none⟩) h.length h.length) (by simp [go_sem, execOp, evr_, e7]) (hK.out s _ (fun _ _ => rfl) ⟨BW, ST, SD⟩)
                refine VSteps.cons rfl (fun x L s wx K kn hL hp hI hK => ?_) ?_
                · have e8 : x[8]? = some (.int .i64 (i : Int)) := (kn.old 8 (by kernel_rfl)).trans rfl
                  refine want_ rfl ?_
                  obtain ⟨BW, ST, SD⟩ := hI
                  exact val_ (v := .int .i64 (i : Int)) (by simp [go_sem, execOp, evr_, e8]) (hK.out s _ (fun _ _ => rfl) ⟨BW, ST, SD⟩)
                refine VSteps.cons rfl (fun x L s wx K kn hL hp hI hK => ?_) ?_
                · have e7 : x[7]? = some (.slice (some ⟨g, 0, none⟩) h.length h.length) := (kn.old 7 (by kernel_rfl)).trans rfl
                  refine want_ rfl ?_
                  obtain ⟨BW, ST, SD⟩ := hI
                  exact val_ (v := .slice (some ⟨g, 0, none⟩) h.length h.length) (by simp [go_sem, execOp, evr_, e7]) (hK.out s _ (fun _ _ => rfl) ⟨BW, ST, SD⟩)
                refine VSteps.cons rfl (fun x L s wx K kn hL hp hI hK => ?_) ?_
                · have e8 : x[8]? = some (.int .i64 (i : Int)) := (kn.old 8 (by kernel_rfl)).trans rfl
                  refine want_ rfl ?_
                  obtain ⟨BW, ST, SD⟩ := hI
                  exact val_ (v := .int .i64 (i : Int)) (by simp [go_sem, execOp, evr_, e8]) (hK.out s _ (fun _ _ => rfl) ⟨BW, ST, SD⟩)
                refine VSteps.cons rfl (fun x L s wx K kn hL hp hI hK => ?_) ?_
                · have e58 : x[58]? = some (.slice (some ⟨g, 0, none⟩) h.length h.length) := kn.got 2 58 (hp ⟨2, .data⟩ (by simp) rfl) rfl
                  have e59 : x[59]? = some (.int .i64 (i : Int)) := kn.got 3 59 (hp ⟨3, .data⟩ (by simp) rfl) rfl
                  refine want_ rfl ?_
                  obtain ⟨BW, ST, SD⟩ := hI
                  exact val_ (v := .pointer (some ⟨g, i * 16, none⟩)) (by simp [go_sem, execOp, evr_, e58, e59, i0, i1, addr_add]) (hK.out s _ (fun _ _ => rfl) ⟨BW, ST, SD⟩)
                refine VSteps.cons rfl (fun x L s wx K kn hL hp hI hK => ?_) ?_
                · have e60 : x[60]? = some (.pointer (some ⟨g, i * 16, none⟩)) := kn.got 4 60 (hp ⟨4, .data⟩ (by simp) rfl) rfl
                  refine want_ rfl ?_
                  obtain ⟨BW, ST, SD⟩ := hI
                  have hS : L 12 = false := by
                    cases hz : L 12
                    · rfl
                    · exact absurd (SD hz) (by simp [hL])
                  replace BW := BW hS
                  exact ld_mid 79 _ rfl g (i * 16) (ev_ e60) (U (lim sx)) _ (rangeAt_keep BW GL MR) Tryd.underlying79 rfl (info_uL _ lx) (hK.out s _ (fun _ _ => rfl) ⟨fun _ => BW, fun h => absurd h (by simp [YInv.up, hS]), fun h => absurd h (by simp [YInv.up, hS])⟩)
                refine VSteps.cons rfl (fun x L s wx K kn hL hp hI hK => ?_) ?_
                · have e11 : x[11]? = some (.pointer (some ⟨g16, 0, none⟩)) := (kn.old 11 (by kernel_rfl)).trans rfl
                  refine want_ rfl ?_
                  obtain ⟨BW, ST, SD⟩ := hI
                  have hS : L 12 = false := by
                    cases hz : L 12
                    · rfl
                    · exact absurd (SD hz) (by simp [hL])
                  replace BW := BW hS
                  exact wp_load_row 79 _ rfl g16 (ev_ e11) 79 (U (lim (lp * hj'))) (0, 0) _ (Blk.keep K16 BW) Tryd.underlying79 rfl (ofLen ls) (hK.out s _ (fun _ _ => rfl) ⟨fun _ => BW, fun h => absurd h (by simp [YInv.up, hS]), fun h => absurd h (by simp [YInv.up, hS])⟩)
                refine VSteps.cons rfl (fun x L s wx K kn hL hp hI hK => ?_) ?_
                · have e61 : x[61]? = some (.agg (U (lim sx))) := kn.got 5 61 (hp ⟨5, .data⟩ (by simp) rfl) rfl
                  have e62 : x[62]? = some (.agg (U (lim (lp * hj')))) := kn.got 6 62 (hp ⟨6, .data⟩ (by simp) rfl) rfl
                  refine want_ rfl ?_
                  obtain ⟨BW, ST, SD⟩ := hI
                  have hS : L 12 = false := by
                    cases hz : L 12
                    · rfl
                    · exact absurd (SD hz) (by simp [hL])
                  replace BW := BW hS
                  refine goesK_ Tryd.func42 (by kernel_rfl) rfl #[.agg (U (lim sx)), .agg (U (lim (lp * hj')))] rfl (by simp only [List.map_toArray, List.map_cons, List.map_nil, evr_, ev_ e61, ev_ e62]) ((AD _).mono ?_)
                  rintro e w' ⟨rfl, g⟩
                  exact ⟨_, rfl, hK.out s _ (fun _ _ => rfl) ⟨fun _ => bb BW g, fun h => absurd h (by simp [YInv.up, hS]), fun h => absurd h (by simp [YInv.up, hS])⟩⟩
                refine VSteps.cons rfl (fun x L s wx K kn hL hp hI hK => ?_) ?_
                · have e63 : x[63]? = some (.tuple #[.agg (U (lim (sx + lp * hj'))), .bool true]) := kn.got 7 63 (hp ⟨7, .data⟩ (by simp) rfl) rfl
                  refine want_ rfl ?_
                  obtain ⟨BW, ST, SD⟩ := hI
                  exact val_ (v := .tuple #[.agg (U (lim (sx + lp * hj'))), .bool true]) (by simp [go_sem, execOp, evr_, e63]) (hK.out s _ (fun _ _ => rfl) ⟨BW, ST, SD⟩)
                refine VSteps.cons rfl (fun x L s wx K kn hL hp hI hK => ?_) ?_
                · have e55 : x[55]? = some (.tuple #[.agg (U (lim (sx + lp * hj'))), .bool true]) := kn.got 8 55 (hp ⟨8, .data⟩ (by simp) rfl) rfl
                  refine want_ rfl ?_
                  obtain ⟨BW, ST, SD⟩ := hI
                  exact val_ (v := .agg (U (lim (sx + lp * hj')))) (by simp [go_sem, execOp, evr_, e55]) (hK.out s _ (fun _ _ => rfl) ⟨BW, ST, SD⟩)
                refine VSteps.cons rfl (fun x L s wx K kn hL hp hI hK => ?_) ?_
                · have e55 : x[55]? = some (.tuple #[.agg (U (lim (sx + lp * hj'))), .bool true]) := kn.got 8 55 (hp ⟨8, .data⟩ (by simp) rfl) rfl
                  refine want_ rfl ?_
                  obtain ⟨BW, ST, SD⟩ := hI
                  exact val_ (v := .bool true) (by simp [go_sem, execOp, evr_, e55]) (hK.out s _ (fun _ _ => rfl) ⟨BW, ST, SD⟩)
                refine VSteps.cons rfl (fun x L s wx K kn hL hp hI hK => ?_) ?_
                · have e56 : x[56]? = some (.slice (some ⟨g, 0, none⟩) h.length h.length) := kn.got 0 56 (hp ⟨0, .data⟩ (by simp) rfl) rfl
                  have e57 : x[57]? = some (.int .i64 (i : Int)) := kn.got 1 57 (hp ⟨1, .data⟩ (by simp) rfl) rfl
                  refine want_ rfl ?_
                  obtain ⟨BW, ST, SD⟩ := hI
                  exact val_ (v := .pointer (some ⟨g, i * 16, none⟩)) (by simp [go_sem, execOp, evr_, e56, e57, i0, i1, addr_add]) (hK.out s _ (fun _ _ => rfl) ⟨BW, ST, SD⟩)
                refine VSteps.cons rfl (fun x L s wx K kn hL hp hI hK => ?_) ?_
                · have e66 : x[66]? = some (.pointer (some ⟨g, i * 16, none⟩)) := kn.got 11 66 (hp ⟨11, .data⟩ (by simp) rfl) rfl
                  have e64 : x[64]? = some (.agg (U (lim (sx + lp * hj')))) := kn.got 9 64 (hp ⟨9, .data⟩ (by simp) rfl) rfl
                  refine want_ rfl ?_
                  obtain ⟨BW, ST, SD⟩ := hI
                  replace BW := BW hL
                  exact wp_store_mid 79 _ _ rfl g (i * 16) (U (lim (sx + lp * hj'))) (ev_ e66) (ev_ e64) (there_keep BW GL THR) (ofLen lz) (one_cell _) (hK.out s _ (fun _ _ => rfl) ⟨fun h => absurd h (by simp [YInv.up]), fun _ => ⟨wx, BW, rfl⟩, fun _ => ⟨(hp ⟨5, .phase⟩ (by simp) rfl), (hp ⟨6, .phase⟩ (by simp) rfl), (hp ⟨7, .chain⟩ (by simp) rfl)⟩⟩)
                exact VSteps.nil
              intro s wx hI
              simp only [puts, VQ, List.getD_cons_zero, List.getD_cons_succ, List.set_cons_zero, List.set_cons_succ]
              obtain ⟨BW, ST, SD⟩ := hI
              clear BW SD
              obtain ⟨wv, BW, hx1⟩ := ST rfl
              subst hx1
              clear ST
              have HQ := Lib.hid (HP.out wv BW)
              clear HP BW
              go_wp2_with fail
              exact ⟨⟨j + 1, by omega, by go_num, HQ.out⟩, by simp [intOf]; omega⟩
            · obtain rfl : j = h.length := by omega
              have j2 : decide ((h.length : Int) < (h.length : Int)) = false := by simp
              have HO := Lib.hid OI.next
              clear OI
              go_wp2_with fail
              exact ⟨⟨i + 1, by omega, by go_num, HO.out⟩, by simp [intOf]; omega⟩
        · obtain rfl : i = h.length := by omega
          have i2 : decide ((h.length : Int) < (h.length : Int)) = false := by simp
          have HO := Lib.hid OI
          clear OI
          go_wp2_with fail
          go_ret2
          rw [HT.out.1, HT.out.2]
          exact ⟨_, _, _, rfl, fun _ => ⟨_, rfl, HO.out.row.ext (fun k hk => by unfold tf; rw [if_pos hk]; simp only [Int.toNat_natCast])⟩, ErrFrom.nil _ _ _, HO.out.b⟩
end Go.Proofs.YtfcandmhalhaeaaDoor.YSym
namespace Go.Proofs.YtfcandmhalhaeaaDoor.YSym
open Go.RowKit Go.Proofs.YtfcandmhalhaeaaDoor.YErr Go.Proofs.YtfcandmhalhaeaaDoor.YInv Go.Proofs.YtfcandmhalhaeaaDoor.YRef Go.Proofs.YtfcandmhalhaeaaDoor.YBits Go.Proofs.YtfcandmhalhaeaaDoor.YBig Go.Proofs.YtfcandmhalhaeaaDoor.QSy Go.Proofs.YtfcandmhalhaeaaDoor.YWide Go.Proofs.YtfcandmhalhaeaaDoorW.PrintWords Go.Proofs.YtfcandmhalhaeaaDoorW.PrintLast
set_option linter.unusedVariables false
set_option linter.unusedSimpArgs false
theorem BigAt.cells {w : World} {v : Value} {x : Int} {g o : Nat} {b : Bool} {A : Option Addr} {n c : Nat} (h : BigAt w v x) (r : w.rangeAt g o [.bool b, .slice A n c]) (cs : List Value) (hcs : cs.length = 2) : BigAt (w.setCells g o cs) v x := by
  obtain ⟨A', c', hv, hc, h1, h2, h3⟩ := h
  refine ⟨A', c', hv, hc, h1, h2, fun hp => ?_⟩
  obtain ⟨ad, e, hcells⟩ := h3 hp
  refine ⟨ad, e, fun j' p hj => ?_⟩
  obtain ⟨cl, hs, hK, hcl⟩ := hcells j' p hj
  refine ⟨cl, hs, hK, fun i u hu => ?_⟩
  have hq := hcl i u hu
  have hK' : cl = [.int .u64 p] := hK
  subst hK'
  rcases i with _ | i
  · cases hu
    rw [← hq]
    refine World.cell?_setCells_out g cs o w _ (fun hb hsp => ?_)
    rw [hcs]
    generalize ad.add (j' * (Kd.int .u64).sz + 0) = a at *
    obtain ⟨ab, ao, sp⟩ := a
    obtain rfl : ab = g := hb
    obtain rfl : sp = none := hsp
    show ao < o ∨ o + 2 ≤ ao
    have r0 := r 0 _ rfl
    have r1 := r 1 _ rfl
    by_cases a0 : ao = o
    · subst a0; rw [show ao + 0 = ao from rfl, hq] at r0; cases r0
    · by_cases a1 : ao = o + 1
      · subst a1; rw [hq] at r1; cases r1
      · omega
  · simp at hu
theorem BigAt.zero (w : World) : BigAt w (.agg #[.bool false, .slice none 0 0]) 0 := by
  have e : mag 0 = [] := limbs_nil (by decide)
  have e' : sg 0 = false := by decide
  unfold BigAt
  rw [e, e']
  exact ⟨none, 0, rfl, Nat.le_refl _, Kd.C_nil _ _⟩
theorem BigAt.form {w : World} {cs : Array Value} {x : Int} (h : BigAt w (.agg cs) x) : ∃ b A n c, cs = #[.bool b, .slice A n c] := by
  obtain ⟨A, c, e, -⟩ := h
  cases e
  exact ⟨_, _, _, _, rfl⟩
/-- A row of the reference's numbers. -/
structure BR (w : World) (g n : Nat) (f : Nat → Int) : Prop where
  lt : g < w.heap.size
  there : w.there g 0 (n * 2)
  at_ : ∀ k, k < n → ∃ b A m c, w.rangeAt g (k * 2) [.bool b, .slice A m c] ∧ BigAt w (.agg #[.bool b, .slice A m c]) (f k)
theorem BR.keep {w w' : World} {g n : Nat} {f : Nat → Int} (h : BR w g n f) (b : Below w.heap.size w w') : BR w' g n f :=
  ⟨Nat.lt_of_lt_of_le h.lt b.size, there_keep b h.lt h.there, fun k hk => by
    obtain ⟨x, A, m, c, h1, h2⟩ := h.at_ k hk
    exact ⟨x, A, m, c, rangeAt_keep b h.lt h1, h2.keep b⟩⟩
theorem BR.free {w : World} {g n k : Nat} {f : Nat → Int} (h : BR w g n f) (hk : k < n) : w.there g (k * 2) 2 := fun j hj => by
  have := h.there (k * 2 + j) (by omega)
  rwa [Nat.zero_add] at this
theorem BR.put {w : World} {g n k : Nat} {f : Nat → Int} (h : BR w g n f) (hk : k < n) {cs : Array Value} {x : Int} (hx : BigAt w (.agg cs) x) : BR (w.setCells g (k * 2) cs.toList) g n (fun j => if j = k then x else f j) := by
  obtain ⟨b0, A0, n0, c0, rfl⟩ := hx.form
  obtain ⟨b1, A1, n1, c1, hr, -⟩ := h.at_ k hk
  refine ⟨by rw [size_setCells]; exact h.lt, World.there_setCells h.there _ _ _, fun j hj => ?_⟩
  show ∃ b A m c, _ ∧ BigAt _ _ (if j = k then x else f j)
  by_cases e : j = k
  · subst e
    rw [if_pos rfl]
    exact ⟨b0, A0, n0, c0, World.rangeAt_setCells_same _ _ _ _ (h.free hk), hx.cells hr _ rfl⟩
  · rw [if_neg e]
    obtain ⟨b2, A2, n2, c2, hr2, h2⟩ := h.at_ j hj
    exact ⟨b2, A2, n2, c2, World.rangeAt_setCells_apart hr2 _ _ _ (.inr (by show j * 2 + 2 ≤ k * 2 ∨ k * 2 + 2 ≤ j * 2; omega)), h2.cells hr _ rfl⟩
theorem BR.ext {w : World} {g n : Nat} {f f' : Nat → Int} (h : BR w g n f) (e : ∀ k, k < n → f k = f' k) : BR w g n f' :=
  ⟨h.lt, h.there, fun k hk => by rw [← e k hk]; exact h.at_ k hk⟩
theorem BR.new (w : World) (n : Nat) (T : TypeId) : BR (w.alloc (.cells (madeCells #[.bool false, .slice none 0 0] (n * 2)) T)) w.heap.size n (fun _ => 0) := by
  have h := WR.new w #[.bool false, .slice none 0 0] n T (by decide)
  exact ⟨h.lt, h.there, fun k hk => ⟨false, none, 0, 0, h.at_ k hk, BigAt.zero _⟩⟩
def RowB (w : World) (A : Option Addr) (n : Nat) (f : Nat → Int) : Prop := 0 < n → ∃ g, A = some ⟨g, 0, none⟩ ∧ BR w g n f
theorem RowB.keep {w w' : World} {A : Option Addr} {n : Nat} {f : Nat → Int} (h : RowB w A n f) (b : Below w.heap.size w w') : RowB w' A n f := fun hp => by
  obtain ⟨g, e, k⟩ := h hp
  exact ⟨g, e, k.keep b⟩
def RTEnd (w : World) (code : Int) (n : Nat) (f : Nat → Int) (e : Ending) (w' : World) : Prop := ∃ A' c', e = .returned (.tuple #[.slice A' n c', .int .i64 code]) ∧ RowB w' A' n f ∧ Below w.heap.size w w'
theorem tfi_next (m : Nat) (l h : List Int) (i j k : Nat) : (if k = i then tf m l h i j i + l.getD (pl m i j) 0 * h.getD j 0 else tf m l h i j k) = tf m l h i (j + 1) k := by
  unfold tf
  by_cases e : k = i
  · subst e
    simp [ps]
  · simp [e]
structure TInB (W wx : World) (m : Nat) (l h : List Int) (A : Option Addr) (c g i j : Nat) : Prop where
  k0 : Blk wx W.heap.size #[.int .i64 (m : Int), .slice A l.length c] 24
  row : BR wx g m (tf m l h i j)
  gt : W.heap.size < g
  b : Below W.heap.size W wx
theorem TInB.keep {W wx wy : World} {m : Nat} {l h : List Int} {A : Option Addr} {c g i j : Nat} (h0 : TInB W wx m l h A c g i j) (b : Below wx.heap.size wx wy) : TInB W wy m l h A c g i j :=
  ⟨h0.k0.keep b, h0.row.keep b, h0.gt, bb h0.b b⟩
theorem TInB.put {W wx : World} {m : Nat} {l h : List Int} {A : Option Addr} {c g i j : Nat} (h0 : TInB W wx m l h A c g i j) (hi : i < m) {cs : Array Value} (hx : BigAt wx (.agg cs) (tf m l h i j i + l.getD (pl m i j) 0 * h.getD j 0)) : TInB W (wx.setCells g (i * 2) cs.toList) m l h A c g i (j + 1) :=
  ⟨h0.k0.setCells (Nat.ne_of_lt h0.gt) _ _, (h0.row.put hi hx).ext (fun k _ => tfi_next m l h i j k), h0.gt, below_setCells g (Nat.le_of_lt h0.gt) _ _ _ h0.b⟩
theorem TInB.next {W wx : World} {m : Nat} {l h : List Int} {A : Option Addr} {c g i : Nat} (h0 : TInB W wx m l h A c g i m) : TInB W wx m l h A c g (i + 1) 0 :=
  ⟨h0.k0, h0.row.ext (fun k _ => tf_row m l h i k), h0.gt, h0.b⟩
theorem makeBs {m : Nat} (h : m ≤ 8) (W : World) : (Instr.makeSlice 63 (.int .i64 (m : Int)) (.int .i64 (m : Int))).run Tryd.prog W = .ok (.slice (some ⟨W.heap.size, 0, none⟩) m m) (W.alloc (.cells (madeCells #[.bool false, .slice none 0 0] (m * 2)) 90)) := by
  rcases (show m = 0 ∨ m = 1 ∨ m = 2 ∨ m = 3 ∨ m = 4 ∨ m = 5 ∨ m = 6 ∨ m = 7 ∨ m = 8 by omega) with rfl | rfl | rfl | rfl | rfl | rfl | rfl | rfl | rfl <;> kernel_rfl
theorem ps_small {m : Nat} {l h : List Int} (wl : ∀ x ∈ l, W64 x) (wh : ∀ x ∈ h, W64 x) (i : Nat) {j : Nat} (hj : j ≤ 8) : Small (ps m l h i j) := small_abs (ps_inw wl wh i hj)
set_option maxRecDepth 100000 in
set_option maxHeartbeats 16000000 in
theorem RTimes_c {n : Int} {w : World} {A B : Option Addr} {c d : Nat} {l h : List Int} (R : Rd w A l) (hc : l.length ≤ c) (hl : l.length ≤ 1000) (RH : Rd w B h) (hh : h.length ≤ 100) (wh : ∀ x ∈ h, W64 x) :
    Calls Tryd.prog 31 #[.agg #[.int .i64 n, .slice A l.length c], .slice B h.length d] w fun e w' => RTEnd w (tmE n l (decide ((h.length : Int) = n))) (tmN n l (decide ((h.length : Int) = n))) (fun k => ps n.toNat l h k n.toNat) e w' := by
  have k0 := Blk.new w #[.int .i64 n, .slice A l.length c] 24
  have b0 : Below w.heap.size w (w.alloc (.cells #[.int .i64 n, .slice A l.length c] 24)) := (Below.refl _ _).alloc (Nat.le_refl _) _
  have hs0 : w.heap.size + 1 ≤ (w.alloc (.cells #[.int .i64 n, .slice A l.length c] 24)).heap.size := by simp
  have SR := SymRight_c (n := n) (R.keep b0) hc hl
  have HR0 := Lib.hid R
  replace R := R.keep b0
  generalize hgd : decide ((h.length : Int) = n) = gd
  go_enter Tryd.func31, Tryd.ntmps31
  go_wp2_with fail
  refine SR.mono ?_; rintro e w1 ⟨rfl, g1⟩
  replace R := R.keep g1
  have b1 := bb b0 g1
  have hs1 := Nat.le_trans hs0 g1.size
  replace k0 := k0.keep g1
  have c0 := (k0.cell 0).trans (show _ = some (.int .i64 n) from rfl)
  have c1 := (k0.cell 1).trans (show _ = some (.slice A l.length c) from rfl)
  clear SR g1 b0 hs0
  cases hr : rightB n l with
  | false =>
    have HE := Lib.hid (tm_23 (g := gd) (.inl hr))
    clear R hr hgd
    go_wp2_with fail
    go_ret2
    rw [HE.out.1, HE.out.2]
    exact ⟨none, 0, rfl, fun hp => absurd hp (by decide), b1⟩
  | true =>
    by_cases hn : (h.length : Int) = n
    case neg =>
      have HE := Lib.hid (tm_23 (n := n) (l := l) (g := gd) (.inr (by rw [← hgd]; exact decide_eq_false hn)))
      have e1 : ((h.length : Int) != n) = true := by simpa using hn
      clear R hr hgd hn
      go_wp2_with fail
      go_ret2
      rw [HE.out.1, HE.out.2]
      exact ⟨none, 0, rfl, fun hp => absurd hp (by decide), b1⟩
    case pos =>
      have HT := Lib.hid (tm_0 (g := gd) hr (by rw [← hgd]; exact decide_eq_true hn))
      obtain ⟨m, rfl, hm, hlen, hall⟩ := rightB_nat hr
      have e1 : ((h.length : Int) != (m : Int)) = false := by simpa using hn
      simp only [Int.toNat_natCast] at *
      have MK := fun W => makeBs hm W
      have HLN := Lib.hid hlen
      have HWL := Lib.hid (okl_w hall)
      have HWH := Lib.hid wh
      have hnm : h.length = m := by omega
      have HM := Lib.hid hm
      have mI : (m : Int) ≤ 8 := by omega
      have m0 : (0 : Int) ≤ (m : Int) := by omega
      have HRH := Lib.hid RH
      have HB := Lib.hid b1
      have HK := Lib.hid k0
      have HS := Lib.hid hs1
      have HHC := Lib.hid hc
      clear hr hgd hn hlen hall wh hm RH hh R b1 k0 hs1 hc hl
      subst hnm
      go_wp2_with fail
      have bA : Below w1.heap.size w1 (w1.alloc (.cells (madeCells #[.bool false, .slice none 0 0] (h.length * 2)) 90)) := (Below.refl _ _).alloc (Nat.le_refl _) _
      have WN := BR.new w1 h.length 90
      have OI : TInB w (w1.alloc (.cells (madeCells #[.bool false, .slice none 0 0] (h.length * 2)) 90)) h.length l h A c w1.heap.size 0 0 := ⟨HK.out.keep bA, WN.ext (fun k _ => by unfold tf; rw [if_neg (Nat.not_lt_zero _)]; split <;> rfl), by have := HS.out; omega, bb HB.out bA⟩
      have HO0 := Lib.hid OI
      clear OI WN bA c0 c1 HK HS HB
      generalize w1.alloc (.cells (madeCells #[.bool false, .slice none 0 0] (h.length * 2)) 90) = W5 at *
      generalize w1.heap.size = g at *
      go_loopw [7] (fun s7 wl => ∃ i : Nat, i ≤ h.length ∧ s7 = .int .i64 i ∧ TInB w wl h.length l h A c g i 0) (fun s7 _ => h.length - (intOf s7).toNat)
      case atStart => exact ⟨0, Nat.zero_le _, rfl, HO0.out⟩
      case round =>
        clear HO0
        obtain ⟨i, hi, rfl, OI⟩ := hrel
        have i0 : (0 : Int) ≤ (i : Int) := by omega
        have q0 := (OI.k0.cell 0).trans (show _ = some (.int .i64 (h.length : Int)) from rfl)
        by_cases him : i < h.length
        · have i1 : (i : Int) < (h.length : Int) := by omega
          have i2 : decide ((i : Int) < (h.length : Int)) = true := by simpa using him
          have HO := Lib.hid OI
          clear OI
          go_wp2_with fail
          clear i2 q0
          go_loopw [8] (fun s8 wl => ∃ j : Nat, j ≤ h.length ∧ s8 = .int .i64 j ∧ TInB w wl h.length l h A c g i j) (fun s8 _ => h.length - (intOf s8).toNat)
          case atStart => exact ⟨0, Nat.zero_le _, rfl, HO.out⟩
          case round =>
            clear HO
            obtain ⟨j, hj, rfl, OI⟩ := hrel
            have j0 : (0 : Int) ≤ (j : Int) := by omega
            have q0 := (OI.k0.cell 0).trans (show _ = some (.int .i64 (h.length : Int)) from rfl)
            by_cases hjm : j < h.length
            · have j1 : (j : Int) < (h.length : Int) := by omega
              have j2 : decide ((j : Int) < (h.length : Int)) = true := by simpa using hjm
              obtain ⟨gh, oh, rfl, HRC⟩ := (HRH.out.keep OI.b) (by omega)
              have cj := HRC j hjm
              clear HRC
              have wi := getD_w HWL.out (pl h.length i j)
              have wj := getD_w HWH.out j
              have AT := fun wx (b : Below wr.heap.size wr wx) => At_c (n := h.length) ((HR0.out.keep OI.b).keep b) HHC.out HM.out him hjm HLN.out
              have OL := fun W => ROf_c _ wi.1 wi.2 W
              have OH := fun W => ROf_c _ wj.1 wj.2 W
              have s1 := wi.small
              have s2 := wj.small
              have s3 := small_2 wi wj
              have s4 : Small (tf h.length l h i j i) := by
                rw [tf_at]; exact ps_small (m := h.length) HWL.out HWH.out i (j := j) (by have := HM.out; omega)
              obtain ⟨bx, Ax, mx, cx, MR, BX⟩ := OI.row.at_ i him
              have GL := OI.row.lt
              have THR := OI.row.free him
              have k0 := OI.k0
              have HP := Lib.hid (fun wy (b : Below wr.heap.size wr wy) cs (hx : BigAt wy (.agg cs) (tf h.length l h i j i + l.getD (pl h.length i j) 0 * h.getD j 0)) => TInB.put (OI.keep b) him hx)
              clear OI wi wj
              generalize tf h.length l h i j i = sx at *
              generalize l.getD (pl h.length i j) 0 = lp at *
              generalize h.getD j 0 = hj' at *
              go_wp2_with fail
              refine region_vals (σ := Nat → Value) [some 34, some 35, some 36, some 37, some 38, some 39, some 40, some 41, some 42, some 43, some 44, some 45, some 46, some 47, some 48, some 49, some 50, some 51, some 52, none] (VQ [some (.slice (some ⟨g, 0, none⟩) h.length h.length), some (.int .i64 (i : Int)), some (.slice (some ⟨g, 0, none⟩) h.length h.length), some (.int .i64 (i : Int)), some (.pointer (some ⟨g, i * 2, none⟩)), some (.agg #[.bool bx, .slice Ax mx cx]), some (.agg #[.int .i64 (h.length : Int), .slice A l.length c]), some (.int .i64 (i : Int)), some (.int .i64 (j : Int)), some (.int .i64 lp), none, some (.slice (some ⟨gh, oh, none⟩) h.length d), some (.int .i64 (j : Int)), some (.pointer (some ⟨gh, oh + j, none⟩)), some (.int .i64 hj'), none, none, none, some (.pointer (some ⟨g, i * 2, none⟩)), some (undef)]) (fun L s wx => (L 19 = false → Below wr.heap.size wr wx) ∧ (L 10 = true → L 19 = false → BigAt wx (s 10) (lp)) ∧ (L 15 = true → L 19 = false → BigAt wx (s 15) (hj')) ∧ (L 16 = true → L 19 = false → BigAt wx (s 16) (lp * hj')) ∧ (L 17 = true → L 19 = false → BigAt wx (s 17) (sx + lp * hj')) ∧ (L 19 = true → ∃ w1 cs, Below wr.heap.size wr w1 ∧ BigAt w1 (.agg cs) (sx + lp * hj') ∧ cs.size = 2 ∧ wx = w1.setCells g (i * 2) cs.toList) ∧ (L 19 = true → L 5 = true ∧ L 6 = true ∧ L 9 = true ∧ L 10 = true ∧ L 14 = true ∧ L 15 = true ∧ L 16 = true ∧ L 17 = true)) (fun _ => undef) [0, 1, 2, 3, 4, 5, 6, 7, 8, 9, 10, 11, 12, 13, 14, 15, 16, 17, 18, 19] _ _ rfl (by kernel_rfl) (by kernel_rfl) (by kernel_rfl) (by kernel_rfl) (by kernel_rfl) ⟨fun _ => (Below.refl _ _).drew, fun h => absurd h (by decide), fun h => absurd h (by decide), fun h => absurd h (by decide), fun h => absurd h (by decide), fun h => absurd h (by decide), fun h => absurd h (by decide)⟩ ?stepsA ?finA (fun L L' s wx e h => by rw [e 5 (by decide), e 6 (by decide), e 9 (by decide), e 10 (by decide), e 14 (by decide), e 15 (by decide), e 16 (by decide), e 17 (by decide), e 19 (by decide)] at h; exact h)
              case stepsA =>
                refine VSteps.cons rfl (fun x L s wx K kn hL hp hI hK => ?_) ?_
                · have e6 : x[6]? = some (.slice (some ⟨g, 0, none⟩) h.length h.length) := (kn.old 6 (by kernel_rfl)).trans rfl
                  refine want_ rfl ?_
                  obtain ⟨BW, D10, D15, D16, D17, ST, SD⟩ := hI
                  exact val_ (v := .slice (some ⟨g, 0, none⟩) h.length h.length) (by simp [go_sem, execOp, evr_, e6]) (hK.out s _ (fun _ _ => rfl) ⟨BW, D10, D15, D16, D17, ST, SD⟩)
                refine VSteps.cons rfl (fun x L s wx K kn hL hp hI hK => ?_) ?_
                · have e7 : x[7]? = some (.int .i64 (i : Int)) := (kn.old 7 (by kernel_rfl)).trans rfl
                  refine want_ rfl ?_
                  obtain ⟨BW, D10, D15, D16, D17, ST, SD⟩ := hI
                  exact val_ (v := .int .i64 (i : Int)) (by simp [go_sem, execOp, evr_, e7]) (hK.out s _ (fun _ _ => rfl) ⟨BW, D10, D15, D16, D17, ST, SD⟩)
                refine VSteps.cons rfl (fun x L s wx K kn hL hp hI hK => ?_) ?_
                · have e6 : x[6]? = some (.slice (some ⟨g, 0, none⟩) h.length h.length) := (kn.old 6 (by kernel_rfl)).trans rfl
                  refine want_ rfl ?_
                  obtain ⟨BW, D10, D15, D16, D17, ST, SD⟩ := hI
                  exact val_ (v := .slice (some ⟨g, 0, none⟩) h.length h.length) (by simp [go_sem, execOp, evr_, e6]) (hK.out s _ (fun _ _ => rfl) ⟨BW, D10, D15, D16, D17, ST, SD⟩)
                refine VSteps.cons rfl (fun x L s wx K kn hL hp hI hK => ?_) ?_
                · have e7 : x[7]? = some (.int .i64 (i : Int)) := (kn.old 7 (by kernel_rfl)).trans rfl
                  refine want_ rfl ?_
                  obtain ⟨BW, D10, D15, D16, D17, ST, SD⟩ := hI
                  exact val_ (v := .int .i64 (i : Int)) (by simp [go_sem, execOp, evr_, e7]) (hK.out s _ (fun _ _ => rfl) ⟨BW, D10, D15, D16, D17, ST, SD⟩)
                refine VSteps.cons rfl (fun x L s wx K kn hL hp hI hK => ?_) ?_
                · have e36 : x[36]? = some (.slice (some ⟨g, 0, none⟩) h.length h.length) := kn.got 2 36 (hp ⟨2, .data⟩ (by simp) rfl) rfl
                  have e37 : x[37]? = some (.int .i64 (i : Int)) := kn.got 3 37 (hp ⟨3, .data⟩ (by simp) rfl) rfl
                  refine want_ rfl ?_
                  obtain ⟨BW, D10, D15, D16, D17, ST, SD⟩ := hI
                  exact val_ (v := .pointer (some ⟨g, i * 2, none⟩)) (by simp [go_sem, execOp, evr_, e36, e37, i0, i1, addr_add]) (hK.out s _ (fun _ _ => rfl) ⟨BW, D10, D15, D16, D17, ST, SD⟩)
                refine VSteps.cons rfl (fun x L s wx K kn hL hp hI hK => ?_) ?_
                · have e38 : x[38]? = some (.pointer (some ⟨g, i * 2, none⟩)) := kn.got 4 38 (hp ⟨4, .data⟩ (by simp) rfl) rfl
                  refine want_ rfl ?_
                  obtain ⟨BW, D10, D15, D16, D17, ST, SD⟩ := hI
                  have hS : L 19 = false := by
                    cases hz : L 19
                    · rfl
                    · exact absurd (SD hz) (by simp [hL])
                  replace BW := BW hS
                  exact ld_mid 90 _ rfl g (i * 2) (ev_ e38) (#[.bool bx, .slice Ax mx cx]) _ (rangeAt_keep BW GL MR) Tryd.underlying90 rfl info_bigT (hK.out s _ (fun _ _ => rfl) ⟨fun _ => BW, fun h _ => D10 h hS, fun h _ => D15 h hS, fun h _ => D16 h hS, fun h _ => D17 h hS, fun h => absurd h (by simp [YInv.up, hS]), fun h => absurd h (by simp [YInv.up, hS])⟩)
                refine VSteps.cons rfl (fun x L s wx K kn hL hp hI hK => ?_) ?_
                · have e2 : x[2]? = some (.pointer (some ⟨w.heap.size, 0, none⟩)) := (kn.old 2 (by kernel_rfl)).trans rfl
                  refine want_ rfl ?_
                  obtain ⟨BW, D10, D15, D16, D17, ST, SD⟩ := hI
                  have hS : L 19 = false := by
                    cases hz : L 19
                    · rfl
                    · exact absurd (SD hz) (by simp [hL])
                  replace BW := BW hS
                  exact wp_load_row 24 _ rfl w.heap.size (ev_ e2) 24 #[.int .i64 (h.length : Int), .slice A l.length c] (0, 0) _ (Blk.keep k0 BW) Tryd.underlying24 rfl info_sym (hK.out s _ (fun _ _ => rfl) ⟨fun _ => BW, fun h _ => D10 h hS, fun h _ => D15 h hS, fun h _ => D16 h hS, fun h _ => D17 h hS, fun h => absurd h (by simp [YInv.up, hS]), fun h => absurd h (by simp [YInv.up, hS])⟩)
                refine VSteps.cons rfl (fun x L s wx K kn hL hp hI hK => ?_) ?_
                · have e7 : x[7]? = some (.int .i64 (i : Int)) := (kn.old 7 (by kernel_rfl)).trans rfl
                  refine want_ rfl ?_
                  obtain ⟨BW, D10, D15, D16, D17, ST, SD⟩ := hI
                  exact val_ (v := .int .i64 (i : Int)) (by simp [go_sem, execOp, evr_, e7]) (hK.out s _ (fun _ _ => rfl) ⟨BW, D10, D15, D16, D17, ST, SD⟩)
                refine VSteps.cons rfl (fun x L s wx K kn hL hp hI hK => ?_) ?_
                · have e8 : x[8]? = some (.int .i64 (j : Int)) := (kn.old 8 (by kernel_rfl)).trans rfl
                  refine want_ rfl ?_
                  obtain ⟨BW, D10, D15, D16, D17, ST, SD⟩ := hI
                  exact val_ (v := .int .i64 (j : Int)) (by simp [go_sem, execOp, evr_, e8]) (hK.out s _ (fun _ _ => rfl) ⟨BW, D10, D15, D16, D17, ST, SD⟩)
                refine VSteps.cons rfl (fun x L s wx K kn hL hp hI hK => ?_) ?_
                · have e40 : x[40]? = some (.agg #[.int .i64 (h.length : Int), .slice A l.length c]) := kn.got 6 40 (hp ⟨6, .data⟩ (by simp) rfl) rfl
                  have e41 : x[41]? = some (.int .i64 (i : Int)) := kn.got 7 41 (hp ⟨7, .data⟩ (by simp) rfl) rfl
                  have e42 : x[42]? = some (.int .i64 (j : Int)) := kn.got 8 42 (hp ⟨8, .data⟩ (by simp) rfl) rfl
                  refine want_ rfl ?_
                  obtain ⟨BW, D10, D15, D16, D17, ST, SD⟩ := hI
                  have hS : L 19 = false := by
                    cases hz : L 19
                    · rfl
                    · exact absurd (SD hz) (by simp [hL])
                  replace BW := BW hS
                  refine goesK_ Tryd.func16 (by kernel_rfl) rfl #[.agg #[.int .i64 (h.length : Int), .slice A l.length c], .int .i64 (i : Int), .int .i64 (j : Int)] rfl (by simp only [List.map_toArray, List.map_cons, List.map_nil, evr_, ev_ e40, ev_ e41, ev_ e42]) ((AT _ BW).mono ?_)
                  rintro e w' ⟨rfl, g⟩
                  exact ⟨_, rfl, hK.out s _ (fun _ _ => rfl) ⟨fun _ => bb BW g, fun h _ => (D10 h hS).keep g, fun h _ => (D15 h hS).keep g, fun h _ => (D16 h hS).keep g, fun h _ => (D17 h hS).keep g, fun h => absurd h (by simp [YInv.up, hS]), fun h => absurd h (by simp [YInv.up, hS])⟩⟩
                refine VSteps.cons rfl (fun x L s wx K kn hL hp hI hK => ?_) ?_
                · have e43 : x[43]? = some (.int .i64 lp) := kn.got 9 43 (hp ⟨9, .data⟩ (by simp) rfl) rfl
                  refine want_ rfl ?_
                  obtain ⟨BW, D10, D15, D16, D17, ST, SD⟩ := hI
                  have hS : L 19 = false := by
                    cases hz : L 19
                    · rfl
                    · exact absurd (SD hz) (by simp [hL])
                  replace BW := BW hS
                  refine goesK_ Tryd.func48 (by kernel_rfl) rfl #[.int .i64 lp] rfl (by simp only [List.map_toArray, List.map_cons, List.map_nil, evr_, ev_ e43]) ((OL _).mono ?_)
                  rintro e w' ⟨v, rfl, hv, g⟩
                  exact ⟨_, rfl, hK.out (updv s 10 v) _ (VQ_upd _ _ _ hL) ⟨fun _ => bb BW g, fun _ _ => hv, fun h _ => (D15 h hS).keep g, fun h _ => (D16 h hS).keep g, fun h _ => (D17 h hS).keep g, fun h => absurd h (by simp [YInv.up, hS]), fun h => absurd h (by simp [YInv.up, hS])⟩⟩
                refine VSteps.cons rfl (fun x L s wx K kn hL hp hI hK => ?_) ?_
                · have e1 : x[1]? = some (.slice (some ⟨gh, oh, none⟩) h.length d) := (kn.old 1 (by kernel_rfl)).trans rfl
                  refine want_ rfl ?_
                  obtain ⟨BW, D10, D15, D16, D17, ST, SD⟩ := hI
                  exact val_ (v := .slice (some ⟨gh, oh, none⟩) h.length d) (by simp [go_sem, execOp, evr_, e1]) (hK.out s _ (fun _ _ => rfl) ⟨BW, D10, D15, D16, D17, ST, SD⟩)
                refine VSteps.cons rfl (fun x L s wx K kn hL hp hI hK => ?_) ?_
                · have e8 : x[8]? = some (.int .i64 (j : Int)) := (kn.old 8 (by kernel_rfl)).trans rfl
                  refine want_ rfl ?_
                  obtain ⟨BW, D10, D15, D16, D17, ST, SD⟩ := hI
                  exact val_ (v := .int .i64 (j : Int)) (by simp [go_sem, execOp, evr_, e8]) (hK.out s _ (fun _ _ => rfl) ⟨BW, D10, D15, D16, D17, ST, SD⟩)
                refine VSteps.cons rfl (fun x L s wx K kn hL hp hI hK => ?_) ?_
                · have e45 : x[45]? = some (.slice (some ⟨gh, oh, none⟩) h.length d) := kn.got 11 45 (hp ⟨11, .data⟩ (by simp) rfl) rfl
                  have e46 : x[46]? = some (.int .i64 (j : Int)) := kn.got 12 46 (hp ⟨12, .data⟩ (by simp) rfl) rfl
                  refine want_ rfl ?_
                  obtain ⟨BW, D10, D15, D16, D17, ST, SD⟩ := hI
                  exact val_ (v := .pointer (some ⟨gh, oh + j, none⟩)) (by simp [go_sem, execOp, evr_, e45, e46, j0, j1, addr_add]) (hK.out s _ (fun _ _ => rfl) ⟨BW, D10, D15, D16, D17, ST, SD⟩)
                refine VSteps.cons rfl (fun x L s wx K kn hL hp hI hK => ?_) ?_
                · have e47 : x[47]? = some (.pointer (some ⟨gh, oh + j, none⟩)) := kn.got 13 47 (hp ⟨13, .data⟩ (by simp) rfl) rfl
                  refine want_ rfl ?_
                  obtain ⟨BW, D10, D15, D16, D17, ST, SD⟩ := hI
                  have hS : L 19 = false := by
                    cases hz : L 19
                    · rfl
                    · exact absurd (SD hz) (by simp [hL])
                  replace BW := BW hS
                  have cA := (BW.cell (lt_of_cell cj)).trans cj
                  exact valw_ (v := .int .i64 hj') (w' := wx) (by simp [go_sem, execOp, evr_, e47, cA]) (hK.out s _ (fun _ _ => rfl) ⟨fun _ => BW, fun h _ => D10 h hS, fun h _ => D15 h hS, fun h _ => D16 h hS, fun h _ => D17 h hS, fun h => absurd h (by simp [YInv.up, hS]), fun h => absurd h (by simp [YInv.up, hS])⟩)
                refine VSteps.cons rfl (fun x L s wx K kn hL hp hI hK => ?_) ?_
                · have e48 : x[48]? = some (.int .i64 hj') := kn.got 14 48 (hp ⟨14, .data⟩ (by simp) rfl) rfl
                  refine want_ rfl ?_
                  obtain ⟨BW, D10, D15, D16, D17, ST, SD⟩ := hI
                  have hS : L 19 = false := by
                    cases hz : L 19
                    · rfl
                    · exact absurd (SD hz) (by simp [hL])
                  replace BW := BW hS
                  refine goesK_ Tryd.func48 (by kernel_rfl) rfl #[.int .i64 hj'] rfl (by simp only [List.map_toArray, List.map_cons, List.map_nil, evr_, ev_ e48]) ((OH _).mono ?_)
                  rintro e w' ⟨v, rfl, hv, g⟩
                  exact ⟨_, rfl, hK.out (updv s 15 v) _ (VQ_upd _ _ _ hL) ⟨fun _ => bb BW g, fun h _ => (D10 h hS).keep g, fun _ _ => hv, fun h _ => (D16 h hS).keep g, fun h _ => (D17 h hS).keep g, fun h => absurd h (by simp [YInv.up, hS]), fun h => absurd h (by simp [YInv.up, hS])⟩⟩
                refine VSteps.cons rfl (fun x L s wx K kn hL hp hI hK => ?_) ?_
                · have e44 : x[44]? = some (s 10) := kn.got 10 44 (hp ⟨10, .data⟩ (by simp) rfl) rfl
                  have e49 : x[49]? = some (s 15) := kn.got 15 49 (hp ⟨15, .data⟩ (by simp) rfl) rfl
                  refine want_ rfl ?_
                  obtain ⟨BW, D10, D15, D16, D17, ST, SD⟩ := hI
                  have hS : L 19 = false := by
                    cases hz : L 19
                    · rfl
                    · exact absurd (SD hz) (by simp [hL])
                  replace BW := BW hS
                  refine goesK_ Tryd.func49 (by kernel_rfl) rfl #[s 10, s 15] rfl (by simp only [List.map_toArray, List.map_cons, List.map_nil, evr_, ev_ e44, ev_ e49]) ((RMul_c (D10 (hp ⟨10, .data⟩ (by simp) rfl) hS) (D15 (hp ⟨15, .data⟩ (by simp) rfl) hS) s1 s2).mono ?_)
                  rintro e w' ⟨v, rfl, hv, g⟩
                  exact ⟨_, rfl, hK.out (updv s 16 v) _ (VQ_upd _ _ _ hL) ⟨fun _ => bb BW g, fun h _ => (D10 h hS).keep g, fun h _ => (D15 h hS).keep g, fun _ _ => hv, fun h _ => (D17 h hS).keep g, fun h => absurd h (by simp [YInv.up, hS]), fun h => absurd h (by simp [YInv.up, hS])⟩⟩
                refine VSteps.cons rfl (fun x L s wx K kn hL hp hI hK => ?_) ?_
                · have e39 : x[39]? = some (.agg #[.bool bx, .slice Ax mx cx]) := kn.got 5 39 (hp ⟨5, .data⟩ (by simp) rfl) rfl
                  have e50 : x[50]? = some (s 16) := kn.got 16 50 (hp ⟨16, .data⟩ (by simp) rfl) rfl
                  refine want_ rfl ?_
                  obtain ⟨BW, D10, D15, D16, D17, ST, SD⟩ := hI
                  have hS : L 19 = false := by
                    cases hz : L 19
                    · rfl
                    · exact absurd (SD hz) (by simp [hL])
                  replace BW := BW hS
                  refine goesK_ Tryd.func47 (by kernel_rfl) rfl #[.agg #[.bool bx, .slice Ax mx cx], s 16] rfl (by simp only [List.map_toArray, List.map_cons, List.map_nil, evr_, ev_ e39, ev_ e50]) ((RAdd_c (BX.keep BW) (D16 (hp ⟨16, .data⟩ (by simp) rfl) hS) s4 s3).mono ?_)
                  rintro e w' ⟨v, rfl, hv, g⟩
                  exact ⟨_, rfl, hK.out (updv s 17 v) _ (VQ_upd _ _ _ hL) ⟨fun _ => bb BW g, fun h _ => (D10 h hS).keep g, fun h _ => (D15 h hS).keep g, fun h _ => (D16 h hS).keep g, fun _ _ => hv, fun h => absurd h (by simp [YInv.up, hS]), fun h => absurd h (by simp [YInv.up, hS])⟩⟩
                refine VSteps.cons rfl (fun x L s wx K kn hL hp hI hK => ?_) ?_
                · have e34 : x[34]? = some (.slice (some ⟨g, 0, none⟩) h.length h.length) := kn.got 0 34 (hp ⟨0, .data⟩ (by simp) rfl) rfl
                  have e35 : x[35]? = some (.int .i64 (i : Int)) := kn.got 1 35 (hp ⟨1, .data⟩ (by simp) rfl) rfl
                  refine want_ rfl ?_
                  obtain ⟨BW, D10, D15, D16, D17, ST, SD⟩ := hI
                  exact val_ (v := .pointer (some ⟨g, i * 2, none⟩)) (by simp [go_sem, execOp, evr_, e34, e35, i0, i1, addr_add]) (hK.out s _ (fun _ _ => rfl) ⟨BW, D10, D15, D16, D17, ST, SD⟩)
                refine VSteps.cons rfl (fun x L s wx K kn hL hp hI hK => ?_) ?_
                · have e52 : x[52]? = some (.pointer (some ⟨g, i * 2, none⟩)) := kn.got 18 52 (hp ⟨18, .data⟩ (by simp) rfl) rfl
                  have e51 : x[51]? = some (s 17) := kn.got 17 51 (hp ⟨17, .data⟩ (by simp) rfl) rfl
                  refine want_ rfl ?_
                  obtain ⟨BW, D10, D15, D16, D17, ST, SD⟩ := hI
                  replace BW := BW hL
                  have DV := D17 (hp ⟨17, .data⟩ (by simp) rfl) hL
                  obtain ⟨Av, cv, hv, hcv, hCv⟩ := D17 (hp ⟨17, .data⟩ (by simp) rfl) hL
                  rw [hv] at e51 DV
                  exact wp_store_mid 90 _ _ rfl g (i * 2) _ (ev_ e52) (ev_ e51) (there_keep BW GL THR) info_bigT (by simp [Value.oneCell']) (hK.out s _ (fun _ _ => rfl) ⟨fun h => absurd h (by simp [YInv.up]), fun _ h => absurd h (by simp [YInv.up]), fun _ h => absurd h (by simp [YInv.up]), fun _ h => absurd h (by simp [YInv.up]), fun _ h => absurd h (by simp [YInv.up]), fun _ => ⟨wx, _, BW, DV, rfl, rfl⟩, fun _ => ⟨(hp ⟨5, .phase⟩ (by simp) rfl), (hp ⟨6, .phase⟩ (by simp) rfl), (hp ⟨9, .phase⟩ (by simp) rfl), (hp ⟨10, .phase⟩ (by simp) rfl), (hp ⟨14, .phase⟩ (by simp) rfl), (hp ⟨15, .phase⟩ (by simp) rfl), (hp ⟨16, .phase⟩ (by simp) rfl), (hp ⟨17, .data⟩ (by simp) rfl)⟩⟩)
                exact VSteps.nil
              intro s wx hI
              simp only [puts, VQ, List.getD_cons_zero, List.getD_cons_succ, List.set_cons_zero, List.set_cons_succ]
              obtain ⟨BW, D10, D15, D16, D17, ST, SD⟩ := hI
              clear BW SD D10 D15 D16 D17
              obtain ⟨wv, csB, BW, DB, hcB, hx1⟩ := ST rfl
              subst hx1
              clear ST
              have HQ := Lib.hid (HP.out wv BW _ DB)
              clear HP BW DB hcB
              go_wp2_with fail
              exact ⟨⟨j + 1, by omega, by go_num, HQ.out⟩, by simp [intOf]; omega⟩
            · obtain rfl : j = h.length := by omega
              have j2 : decide ((h.length : Int) < (h.length : Int)) = false := by simp
              have HO := Lib.hid OI.next
              clear OI
              go_wp2_with fail
              exact ⟨⟨i + 1, by omega, by go_num, HO.out⟩, by simp [intOf]; omega⟩
        · obtain rfl : i = h.length := by omega
          have i2 : decide ((h.length : Int) < (h.length : Int)) = false := by simp
          have HO := Lib.hid OI
          clear OI
          go_wp2_with fail
          go_ret2
          rw [HT.out.1, HT.out.2]
          exact ⟨_, _, rfl, fun _ => ⟨_, rfl, HO.out.row.ext (fun k hk => by unfold tf; rw [if_pos hk]; simp only [Int.toNat_natCast])⟩, HO.out.b⟩
end Go.Proofs.YtfcandmhalhaeaaDoor.YSym
