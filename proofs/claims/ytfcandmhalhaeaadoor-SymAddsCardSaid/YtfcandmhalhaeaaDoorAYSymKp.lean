/- Lean functions, contracts and lemmas that this claim needs. No condition. -/
import Derived.Test.YtfcandmhalhaeaaDoorAYSymT
import Derived.Deep.RegionHeldLaw
namespace Go.Proofs.YtfcandmhalhaeaaDoor.YSym
open Go.RowKit Go.Proofs.YtfcandmhalhaeaaDoor.YErr Go.Proofs.YtfcandmhalhaeaaDoor.YInv Go.Proofs.YtfcandmhalhaeaaDoor.YRef Go.Proofs.YtfcandmhalhaeaaDoor.YBits Go.Proofs.YtfcandmhalhaeaaDoor.YNum Go.Proofs.YtfcandmhalhaeaaDoor.QSy Go.Proofs.YtfcandmhalhaeaaDoor.YWide Go.Proofs.YtfcandmhalhaeaaDoorW.PrintWords Go.Proofs.YtfcandmhalhaeaaDoorW.PrintLast
set_option linter.unusedVariables false
set_option linter.unusedSimpArgs false
set_option maxRecDepth 100000 in
set_option maxHeartbeats 8000000 in
theorem light_c {w : World} {n : Int} {A : Option Addr} {c k : Nat} : Calls Tryd.prog 8 #[.agg #[.int .i64 n, .slice A k c]] w fun e w' => e = .returned (.bool (decide ((k : Int) ≤ 60))) ∧ Below w.heap.size w w' := by
  have b0 : Below w.heap.size w (w.alloc (.cells #[.int .i64 n, .slice A k c] 24)) := (Below.refl _ _).alloc (Nat.le_refl _) _
  by_cases h : k ≤ 60
  · have e1 : decide ((k : Int) ≤ 60) = true := by simp; omega
    rw [e1]
    have e2 : decide (k ≤ 60) = true := by simpa using h
    clear h
    go_enter Tryd.func8, Tryd.ntmps8
    go_wp2_with fail
    go_ret
    exact ⟨rfl, b0⟩
  · have e1 : decide ((k : Int) ≤ 60) = false := by simp; omega
    rw [e1]
    have e2 : decide (k ≤ 60) = false := by simpa using h
    clear h
    go_enter Tryd.func8, Tryd.ntmps8
    go_wp2_with fail
    go_ret
    exact ⟨rfl, b0⟩
theorem _root_.Go.Proofs.YtfcandmhalhaeaaDoor.YErr.ErrFrom.keep {op : ByteArray} {B : Nat} {w w' : World} {v : Value} {c : Int} (h : ErrFrom op B w v c) (g : Below w.heap.size w w') : ErrFrom op B w' v c := ErrFrom.below (C := 0) h g
theorem _root_.Go.Proofs.YtfcandmhalhaeaaDoor.YErr.Laid.keep {w w' : World} (h : Laid w) (g : Below w.heap.size w w') : Laid w' := h.below g
/-- A slice's number of small wholes (of any kind) that lie there. -/
def RdK (k : IntKind) (w : World) (A : Option Addr) (l : List Int) : Prop := 0 < l.length → ∃ b off, A = some ⟨b, off, none⟩ ∧ ∀ i, i < l.length → w.cell? ⟨b, off + i, none⟩ = some (.int k (l.getD i 0))
theorem RdK.keep {k : IntKind} {w w' : World} {A : Option Addr} {l : List Int} (h : RdK k w A l) (b : Below w.heap.size w w') : RdK k w' A l := fun hp => by
  obtain ⟨g, o, e, hc⟩ := h hp
  exact ⟨g, o, e, fun i hi => (b.cell (p := ⟨g, o + i, none⟩) (lt_of_cell (a := ⟨g, o + i, none⟩) (hc i hi))).trans (hc i hi)⟩
/-- What the loop over the matrices knows of them. -/
def Two (w : World) (g : Nat) : Prop := ∀ r, r < 2 → ∃ (N : Int) (A : Option Addr) (C : Nat) (L : List Int), w.cell? ⟨g, r * 2, none⟩ = some (.int .i64 N) ∧ w.cell? ⟨g, r * 2 + 1, none⟩ = some (.slice A L.length C) ∧ Rd w A L ∧ L.length ≤ C ∧ L.length ≤ 60
theorem Two.keep {w w' : World} {g : Nat} (h : Two w g) (b : Below w.heap.size w w') : Two w' g := fun r hr => by
  obtain ⟨N, A, C, L, h1, h2, h3, h4⟩ := h r hr
  exact ⟨N, A, C, L, (b.cell (lt_of_cell h1)).trans h1, (b.cell (lt_of_cell h2)).trans h2, h3.keep b, h4⟩
/-- What the loop over the pairs knows of them. -/
def Prs (w : World) (g : Nat) : Prop := ∀ t, t < 3 → ∃ x y : Int, w.cell? ⟨g, t * 2, none⟩ = some (.int .i64 x) ∧ w.cell? ⟨g, t * 2 + 1, none⟩ = some (.int .i64 y)
theorem Prs.keep {w w' : World} {g : Nat} (h : Prs w g) (b : Below w.heap.size w w') : Prs w' g := fun t ht => by
  obtain ⟨x, y, h1, h2⟩ := h t ht
  exact ⟨x, y, (b.cell (lt_of_cell h1)).trans h1, (b.cell (lt_of_cell h2)).trans h2⟩
theorem Prs.of {w : World} {g : Nat} {a b c d e f : Int} {T : TypeId} (k : Blk w g #[.int .i64 a, .int .i64 b, .int .i64 c, .int .i64 d, .int .i64 e, .int .i64 f] T) : Prs w g := fun t ht => by
  match t, ht with
  | 0, _ => exact ⟨a, b, k.cell 0, k.cell 1⟩
  | 1, _ => exact ⟨c, d, k.cell 2, k.cell 3⟩
  | 2, _ => exact ⟨e, f, k.cell 4, k.cell 5⟩
theorem Two.of {w : World} {g : Nat} {n m : Int} {A A' : Option Addr} {c c' : Nat} {l l' : List Int} {T : TypeId} (k : Blk w g #[.int .i64 n, .slice A l.length c, .int .i64 m, .slice A' l'.length c'] T) (R : Rd w A l) (h1 : l.length ≤ c) (h2 : l.length ≤ 60) (R' : Rd w A' l') (h1' : l'.length ≤ c') (h2' : l'.length ≤ 60) : Two w g := fun t ht => by
  match t, ht with
  | 0, _ => exact ⟨n, A, c, l, k.cell 0, k.cell 1, R, h1, h2⟩
  | 1, _ => exact ⟨m, A', c', l', k.cell 2, k.cell 3, R', h1', h2'⟩
end Go.Proofs.YtfcandmhalhaeaaDoor.YSym
namespace Go.Proofs.YtfcandmhalhaeaaDoor.YSym
open Go.RowKit Go.Proofs.YtfcandmhalhaeaaDoor.YErr Go.Proofs.YtfcandmhalhaeaaDoor.YInv Go.Proofs.YtfcandmhalhaeaaDoor.YRef Go.Proofs.YtfcandmhalhaeaaDoor.YBits Go.Proofs.YtfcandmhalhaeaaDoor.YNum Go.Proofs.YtfcandmhalhaeaaDoor.QSy Go.Proofs.YtfcandmhalhaeaaDoor.YWide Go.Proofs.YtfcandmhalhaeaaDoorW.PrintWords Go.Proofs.YtfcandmhalhaeaaDoorW.PrintLast
set_option linter.unusedVariables false
set_option linter.unusedSimpArgs false
def groF (n N : Nat) (l : List Int) (q : Nat) : Int := if colOf N q < n then l.getD (pl n (rowOf N q) (colOf N q)) 0 else 0
/-- What Grow's loops keep. -/
structure GIn (W wx : World) (g7 n N : Nat) (l : List Int) (A : Option Addr) (c : Nat) (Ao : Option Addr) (co k : Nat) : Prop where
  k0 : Blk wx W.heap.size #[.int .i64 (n : Int), .slice A l.length c] 24
  k1 : Blk wx (W.heap.size + 1) #[.int .i64 0, .slice none 0 0] 24
  k7 : Blk wx g7 #[.int .i64 (N : Int), .slice Ao (tri N) co] 24
  rd : Rd wx A l
  ow : OwnI wx (W.heap.size + 2) Ao co (curL (groF n N l) (List.replicate (tri N) 0) k)
  b : Below W.heap.size W wx
theorem GIn.keep {W wx wy : World} {g7 n N : Nat} {l : List Int} {A : Option Addr} {c : Nat} {Ao : Option Addr} {co k : Nat} (h : GIn W wx g7 n N l A c Ao co k) (g : Below wx.heap.size wx wy) : GIn W wy g7 n N l A c Ao co k :=
  ⟨h.k0.keep g, h.k1.keep g, h.k7.keep g, h.rd.keep g, h.ow.keep g, bb h.b g⟩
/-- The row that is read is no row that is written: its cells were there when the call began. -/
theorem GIn.store {W wx : World} {g7 n N : Nat} {l : List Int} {A : Option Addr} {c g co k : Nat} (h : GIn W wx g7 n N l A c (some ⟨g, 0, none⟩) co k) (hA : Rd W A l) (hk : k < tri N) : GIn W (wx.setCell ⟨g, k, none⟩ (.int .i64 (groF n N l k))) g7 n N l A c (some ⟨g, 0, none⟩) co (k + 1) := by
  have hg : W.heap.size + 2 ≤ g := by
    rcases h.ow.form with ⟨e, _⟩ | ⟨g', e, hb, _⟩
    · cases e
    · cases e; exact hb
  have b2 := h.b.setCell (p := ⟨g, k, none⟩) (by show W.heap.size ≤ g; omega) (.int .i64 (groF n N l k))
  refine ⟨Blk.setOther h.k0 (by show g ≠ _; omega) _, Blk.setOther h.k1 (by show g ≠ _; omega) _, Blk.setOther h.k7 (fun e => h.ow.ne_ty h.k7 g rfl e.symm) _, hA.keep b2, ?_, b2⟩
  rw [← curL_set (by simpa using hk)]
  exact OwnI.set h.ow (by rw [curL_len (by simp; omega)]; simpa using hk) _
theorem GIn.skip {W wx : World} {g7 n N : Nat} {l : List Int} {A : Option Addr} {c : Nat} {Ao : Option Addr} {co k k' : Nat} (h : GIn W wx g7 n N l A c Ao co k) (hk : k ≤ k') (hl : k' ≤ tri N) (hf : ∀ q, k ≤ q → q < k' → n ≤ colOf N q) : GIn W wx g7 n N l A c Ao co k' :=
  ⟨h.k0, h.k1, h.k7, h.rd, by
    rw [curL_skips hk (by simpa using hl) (fun q h1 h2 => by
      unfold groF
      rw [if_neg (by have := hf q h1 h2; omega)]
      simp only [List.getD_eq_getElem?_getD, List.getElem?_replicate]; split <;> rfl)]
    exact h.ow, h.b⟩
end Go.Proofs.YtfcandmhalhaeaaDoor.YSym
namespace Go.Proofs.YtfcandmhalhaeaaDoor.YSym
open Go.RowKit Go.Proofs.YtfcandmhalhaeaaDoor.YErr Go.Proofs.YtfcandmhalhaeaaDoor.YInv Go.Proofs.YtfcandmhalhaeaaDoor.YRef Go.Proofs.YtfcandmhalhaeaaDoor.YBits Go.Proofs.YtfcandmhalhaeaaDoor.YNum Go.Proofs.YtfcandmhalhaeaaDoor.QSy Go.Proofs.YtfcandmhalhaeaaDoor.YWide Go.Proofs.YtfcandmhalhaeaaDoorW.PrintWords Go.Proofs.YtfcandmhalhaeaaDoorW.PrintLast
set_option linter.unusedVariables false
set_option linter.unusedSimpArgs false
/-- What Drop's loops keep. -/
structure DIn (W wx : World) (g9 n i k : Nat) (l : List Int) (A : Option Addr) (c : Nat) (Ao : Option Addr) (co : Nat) (cu : List Int) : Prop where
  k0 : Blk wx W.heap.size #[.int .i64 (n : Int), .slice A l.length c] 24
  k1 : Blk wx (W.heap.size + 1) #[.int .i64 0, .slice none 0 0] 24
  k9 : Blk wx g9 #[.int .i64 ((n : Int) - (k : Int)), .slice Ao cu.length co] 24
  h9 : W.heap.size + 2 ≤ g9
  ow : OwnI wx (W.heap.size + 2) Ao co cu
  b : Below W.heap.size W wx
theorem DIn.keep {W wx wy : World} {g9 n i k : Nat} {l : List Int} {A : Option Addr} {c : Nat} {Ao : Option Addr} {co : Nat} {cu : List Int} (h : DIn W wx g9 n i k l A c Ao co cu) (g : Below wx.heap.size wx wy) : DIn W wy g9 n i k l A c Ao co cu :=
  ⟨h.k0.keep g, h.k1.keep g, h.k9.keep g, h.h9, h.ow.keep g, bb h.b g⟩
end Go.Proofs.YtfcandmhalhaeaaDoor.YSym
namespace Go.Proofs.YtfcandmhalhaeaaDoor.YSym
open Go.RowKit Go.Proofs.YtfcandmhalhaeaaDoor.YErr Go.Proofs.YtfcandmhalhaeaaDoor.YInv Go.Proofs.YtfcandmhalhaeaaDoor.YRef Go.Proofs.YtfcandmhalhaeaaDoor.YBits Go.Proofs.YtfcandmhalhaeaaDoor.YNum Go.Proofs.YtfcandmhalhaeaaDoor.QSy Go.Proofs.YtfcandmhalhaeaaDoor.YWide Go.Proofs.YtfcandmhalhaeaaDoorW.PrintWords Go.Proofs.YtfcandmhalhaeaaDoorW.PrintLast
set_option linter.unusedVariables false
set_option linter.unusedSimpArgs false
theorem tmod_w {x : Int} (h : W64 x) : W64 (Int.tmod x 1000000) := by
  have h1 := Int.tmod_lt_of_pos x (show (0 : Int) < 1000000 by decide)
  have h2 := Int.lt_tmod_of_pos x (show (0 : Int) < 1000000 by decide)
  unfold W64; omega
theorem vec_l (N : Nat) (hN : N ≤ 8) (l h : List Int) (b : Bool) (wh : ∀ x ∈ h, W64 x) : ∀ d i acc, i + d = N → acc.length = i → (∀ x ∈ acc, W64 x) → ∀ k, d < k → ∃ r, leadlineseat_Vec.l0 k h b acc (i : Nat) (N : Int) l = some r ∧ r.length = N ∧ ∀ x ∈ r, W64 x := by
  intro d
  induction d with
  | zero =>
    intro i acc hi ha wa k hk
    obtain ⟨k, rfl⟩ : ∃ m, k = m + 1 := ⟨k - 1, by omega⟩
    simp only [leadlineseat_Vec.l0]
    rw [if_neg (by omega)]
    exact ⟨acc, rfl, by omega, wa⟩
  | succ d ih =>
    intro i acc hi ha wa k hk
    obtain ⟨k, rfl⟩ : ∃ m, k = m + 1 := ⟨k - 1, by omega⟩
    have step : ∀ y, W64 y → ∃ r, leadlineseat_Vec.l0 k h b (acc ++ [y]) (wrap64 ((i : Int) + 1)) (N : Int) l = some r ∧ r.length = N ∧ ∀ x ∈ r, W64 x := fun y hy => by
      rw [w64 (by omega)]
      refine ih (i + 1) (acc ++ [y]) (by omega) (by simp [ha]) (fun x hx => ?_) k (by omega)
      rcases List.mem_append.1 hx with hx | hx
      · exact wa x hx
      · simp at hx; subst hx; exact hy
    have wi : W64 (i : Int) := by unfold W64; omega
    have wr : i < h.length → W64 (rd h (i : Int)) := fun hh => by rw [show rd h (i : Int) = h[i] by simp [rd, List.getD, hh]]; exact wh _ (List.getElem_mem hh)
    simp only [leadlineseat_Vec.l0]
    rw [if_pos (by omega)]
    by_cases h1 : (i : Int) < (h.length : Int)
    · rw [if_pos h1, if_pos (by omega)]
      cases b
      · rw [if_neg (by decide), if_pos (by omega)]; exact step _ (wr (by omega))
      · rw [if_pos rfl, if_pos (by omega)]; exact step _ (tmod_w (wr (by omega)))
    · rw [if_neg h1]
      cases b
      · rw [if_neg (by decide), if_pos (by omega)]; exact step _ wi
      · rw [if_pos rfl, if_pos (by omega)]; exact step _ (tmod_w wi)
theorem Vec_c {N : Nat} {w : World} {A B : Option Addr} {c d : Nat} {l h : List Int} (hN : N ≤ 8) (R : Rd w A l) (hc : l.length ≤ c) (hl : l.length ≤ 1000) (RH : Rd w B h) (hd : h.length ≤ d) (hh : h.length ≤ 1000) (wh : ∀ x ∈ h, W64 x) (b : Bool) :
    Calls Tryd.prog 23 #[.agg #[.int .i64 (N : Int), .slice A l.length c], .slice B h.length d, .bool b] w fun e w' => ∃ A' c' r, e = .returned (.slice A' N c') ∧ OwnI w' w.heap.size A' c' r ∧ r.length = N ∧ (∀ x ∈ r, W64 x) ∧ Below w.heap.size w w' := by
  obtain ⟨r, e, hr, wr⟩ := vec_l N hN l h b wh N 0 [] (by omega) rfl (fun x hx => by cases hx) 100 (by omega)
  refine (leadlineseat_Vec.calls 100 (N : Int) A c l B d h b r w (rdC R hl) hc (rdC RH hh) hd e).mono ?_
  rintro e w' ⟨v, rfl, hv, g⟩
  obtain ⟨A', c', rfl, own⟩ := ownR hv
  exact ⟨A', c', r, by rw [hr], own, hr, wr, g⟩
theorem OwnI.lt {w : World} {B c : Nat} {A : Option Addr} {l : List Int} (S : OwnI w B A c l) : ∀ g, A = some ⟨g, 0, none⟩ → g < w.heap.size := fun g e => by
  rcases S.form with ⟨e', _⟩ | ⟨g', e', _, hg, _⟩
  · rw [e'] at e; cases e
  · rw [e'] at e; cases e; exact hg
theorem _root_.Go.Proofs.YtfcandmhalhaeaaDoor.YErr.Laid.set {w : World} (h : Laid w) {p : Addr} (hp : p.block ≠ 0) (u : Value) : Laid (w.setCell p u) := (World.cell?_setCell_far w p _ u hp).trans h
end Go.Proofs.YtfcandmhalhaeaaDoor.YSym
