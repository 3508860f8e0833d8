/- Lean functions, contracts and lemmas that this claim needs. No condition. -/
import Derived.Test.YtfcandmhalhaeaaDoorAYSymW
namespace Go.Proofs.YtfcandmhalhaeaaDoor.YSym
open Go.RowKit Go.Proofs.YtfcandmhalhaeaaDoor.YErr Go.Proofs.YtfcandmhalhaeaaDoor.QSy Go.Proofs.YtfcandmhalhaeaaDoorW.PrintWords Go.Proofs.YtfcandmhalhaeaaDoorW.PrintLast
set_option linter.unusedVariables false
set_option linter.unusedSimpArgs false
/-- What Set tells: the error's number, the matrix. -/
def setE (n : Int) (l : List Int) (i j v : Int) : Int := if inE n l [i, j] = 0 then (if okE v = true then 0 else 21) else inE n l [i, j]
theorem fits_c (x : Int) (W : World) : Calls Tryd.prog 35 #[.int .i64 x] W fun e w' => e = .returned (.bool (okE x)) ∧ ∃ m, w' = W.drewN m := by
  refine (sym_fits.calls x _ W (fits_f x)).mono ?_
  rintro e w' ⟨rfl, m, rfl⟩
  exact ⟨rfl, m, rfl⟩
/-- What a function that tells a matrix and an error leaves behind. -/
def SymEnd (w : World) (N : Int) (L : List Int) (E : Int) (e : Ending) (w' : World) : Prop :=
  ∃ A c v, e = .returned (.tuple #[.agg #[.int .i64 N, .slice A L.length c], v]) ∧ OwnI w' w.heap.size A c L ∧ ErrFrom op5 w.heap.size w' v E ∧ Below w.heap.size w w'
/-- What the reference's leaves behind. -/
def RSymEnd (w : World) (N : Int) (L : List Int) (E : Int) (e : Ending) (w' : World) : Prop :=
  ∃ A c, e = .returned (.tuple #[.agg #[.int .i64 N, .slice A L.length c], .int .i64 E]) ∧ OwnI w' w.heap.size A c L ∧ Below w.heap.size w w'
end Go.Proofs.YtfcandmhalhaeaaDoor.YSym
namespace Go.Proofs.YtfcandmhalhaeaaDoor.YSym
open Go.RowKit Go.Proofs.YtfcandmhalhaeaaDoor.YErr Go.Proofs.YtfcandmhalhaeaaDoor.QSy Go.Proofs.YtfcandmhalhaeaaDoorW.PrintWords Go.Proofs.YtfcandmhalhaeaaDoorW.PrintLast
set_option linter.unusedVariables false
set_option linter.unusedSimpArgs false
theorem okE_t {x : Int} (h : okE x = true) : -1073741824 ≤ x ∧ x ≤ 1073741824 := by simpa [okE] using h
theorem okE_f {x : Int} (h : okE x = false) : 1073741824 < x ∨ x < -1073741824 := by
  simp [okE] at h; omega
end Go.Proofs.YtfcandmhalhaeaaDoor.YSym
namespace Go.Proofs.YtfcandmhalhaeaaDoor.YSym
open Go.RowKit Go.Proofs.YtfcandmhalhaeaaDoor.YErr
set_option linter.unusedVariables false
set_option linter.unusedSimpArgs false
/-- The list whose first k entries are told anew. -/
def curL (f : Nat → Int) (l : List Int) (k : Nat) : List Int := (List.range k).map f ++ l.drop k
theorem curL_len {f : Nat → Int} {l : List Int} {k : Nat} (hk : k ≤ l.length) : (curL f l k).length = l.length := by simp [curL]; omega
theorem curL_at {f : Nat → Int} {l : List Int} {k i : Nat} (h : k ≤ i) : (curL f l k).getD i 0 = l.getD i 0 := by
  unfold curL
  simp only [List.getD_eq_getElem?_getD]
  rw [List.getElem?_append_right (by simp; exact h), List.getElem?_drop]
  simp [Nat.add_sub_cancel' h]
theorem curL_0 (f : Nat → Int) (l : List Int) : curL f l 0 = l := by simp [curL]
theorem curL_end (f : Nat → Int) (l : List Int) : curL f l l.length = (List.range l.length).map f := by simp [curL]
theorem curL_set {f : Nat → Int} {l : List Int} {k : Nat} (hk : k < l.length) : (curL f l k).set k (f k) = curL f l (k + 1) := by
  unfold curL
  rw [List.range_succ, List.map_append, List.append_assoc, List.set_append_right _ _ (by simp)]
  congr 1
  rw [show k - (List.map f (List.range k)).length = 0 by simp, List.drop_eq_getElem_cons hk]
  rfl
theorem curL_skip {f : Nat → Int} {l : List Int} {k : Nat} (hk : k < l.length) (h : f k = l.getD k 0) : curL f l (k + 1) = curL f l k := by
  unfold curL
  rw [List.range_succ, List.map_append, List.append_assoc]
  congr 1
  rw [List.drop_eq_getElem_cons hk]
  show f k :: _ = _
  rw [h]
  simp [List.getD, hk]
theorem curL_skips {f : Nat → Int} {l : List Int} {k m : Nat} (hkm : k ≤ m) (hm : m ≤ l.length) (h : ∀ q, k ≤ q → q < m → f q = l.getD q 0) : curL f l m = curL f l k := by
  induction m with
  | zero => obtain rfl : k = 0 := by omega
            rfl
  | succ m ih =>
    rcases Nat.lt_or_ge m k with h' | h'
    · obtain rfl : k = m + 1 := by omega
      rfl
    · rw [curL_skip (by omega) (h m h' (by omega))]
      exact ih h' (by omega) (fun q h1 h2 => h q h1 (by omega))
/-- What such a function tells: the error's number, the rows, the list. -/
def genE (n : Int) (l : List Int) (g : Bool) (f : Nat → Int) : Int := if rightB n l = true ∧ g = true then (if (∀ k, k < tri n.toNat → okE (f k) = true) then 0 else 21) else 23
def genN (n : Int) (l : List Int) (g : Bool) (f : Nat → Int) : Int := if genE n l g f = 0 then n else 0
def genL (n : Int) (l : List Int) (g : Bool) (f : Nat → Int) : List Int := if genE n l g f = 0 then (List.range (tri n.toNat)).map f else []
theorem gen_bad {n : Int} {l : List Int} {g : Bool} {f : Nat → Int} {e : Int} (h : genE n l g f = e) (he : e ≠ 0) : genN n l g f = 0 ∧ genL n l g f = [] := by
  unfold genN genL
  rw [h, if_neg he, if_neg he]
  exact ⟨rfl, rfl⟩
theorem gen_23 {n : Int} {l : List Int} {g : Bool} {f : Nat → Int} (h : rightB n l = false ∨ g = false) : genE n l g f = 23 := by
  unfold genE
  rw [if_neg (by rcases h with h | h <;> rw [h] <;> simp)]
theorem gen_21 {m k : Nat} {l : List Int} {g : Bool} {f : Nat → Int} (hr : rightB m l = true) (hg : g = true) (hk : k < tri m) (h : okE (f k) = false) : genE m l g f = 21 := by
  unfold genE
  rw [if_pos ⟨hr, hg⟩, if_neg (fun z => by have := z k (by simpa using hk); rw [h] at this; cases this)]
theorem gen_0 {m : Nat} {l : List Int} {g : Bool} {f : Nat → Int} (hr : rightB m l = true) (hg : g = true) (h : ∀ k, k < tri m → okE (f k) = true) : genE m l g f = 0 ∧ genN m l g f = m ∧ genL m l g f = (List.range (tri m)).map f := by
  have e : genE m l g f = 0 := by
    unfold genE
    rw [if_pos ⟨hr, hg⟩, if_pos (by simpa using h)]
  refine ⟨e, ?_, ?_⟩
  · unfold genN; rw [if_pos e]
  · unfold genL; rw [if_pos e]; rfl
/-- An outer product's entries; a diagonal's. -/
def outF (n : Nat) (l : List Int) (w : Int) (h : List Int) (k : Nat) : Int := l.getD k 0 + w * (h.getD (rowOf n k) 0 * h.getD (colOf n k) 0)
def diaF (n : Nat) (l : List Int) (v : Int) (k : Nat) : Int := if rowOf n k = colOf n k then l.getD k 0 + v else l.getD k 0
theorem outF_at {n i j : Nat} (hn : n ≤ 8) (hi : i ≤ j) (hj : j < n) (l : List Int) (w : Int) (h : List Int) : outF n l w h (pl n i j) = l.getD (pl n i j) 0 + w * (h.getD i 0 * h.getD j 0) := by
  unfold outF
  rw [(rc_pl hn hi hj).1, (rc_pl hn hi hj).2]
/-- What a loop over the entries keeps. -/
structure OIn (W wx : World) (m : Nat) (l : List Int) (f : Nat → Int) (A : Option Addr) (c : Nat) (k : Nat) : Prop where
  k0 : Blk wx W.heap.size #[.int .i64 (m : Int), .slice A l.length c] 24
  k1 : Blk wx (W.heap.size + 1) #[.int .i64 0, .slice none 0 0] 24
  ow : OwnI wx (W.heap.size + 2) A c (curL f l k)
  b : Below W.heap.size W wx
  ok : ∀ q, q < k → okE (f q) = true
theorem OIn.keep {W wx wy : World} {m : Nat} {l : List Int} {f : Nat → Int} {A : Option Addr} {c : Nat} {k : Nat} (h : OIn W wx m l f A c k) (g : Below wx.heap.size wx wy) : OIn W wy m l f A c k :=
  ⟨h.k0.keep g, h.k1.keep g, h.ow.keep g, bb h.b g, h.ok⟩
theorem OIn.store {W wx : World} {m : Nat} {l : List Int} {f : Nat → Int} {g : Nat} {c : Nat} {k : Nat} (h : OIn W wx m l f (some ⟨g, 0, none⟩) c k) (hk : k < l.length) (hok : okE (f k) = true) : OIn W (wx.setCell ⟨g, k, none⟩ (.int .i64 (f k))) m l f (some ⟨g, 0, none⟩) c (k + 1) := by
  have hg : W.heap.size + 2 ≤ g := by
    rcases h.ow.form with ⟨e, _⟩ | ⟨g', e, hb, _⟩
    · cases e
    · cases e; exact hb
  refine ⟨Blk.setOther h.k0 (by show g ≠ _; omega) _, Blk.setOther h.k1 (by show g ≠ _; omega) _, ?_, h.b.setCell (p := ⟨g, k, none⟩) (by show W.heap.size ≤ g; omega) _, fun q hq => ?_⟩
  · rw [← curL_set hk]
    exact OwnI.set h.ow (by rw [curL_len (by omega)]; exact hk) _
  · rcases Nat.lt_or_ge q k with h' | h'
    · exact h.ok q h'
    · obtain rfl : q = k := by omega
      exact hok
theorem OIn.skip {W wx : World} {m : Nat} {l : List Int} {f : Nat → Int} {A : Option Addr} {c k k' : Nat} (h : OIn W wx m l f A c k) (hk : k ≤ k') (hl : k' ≤ l.length) (hf : ∀ q, k ≤ q → q < k' → f q = l.getD q 0 ∧ okE (f q) = true) : OIn W wx m l f A c k' :=
  ⟨h.k0, h.k1, by rw [curL_skips hk hl (fun q h1 h2 => (hf q h1 h2).1)]; exact h.ow, h.b, fun q hq => by
    rcases Nat.lt_or_ge q k with h' | h'
    · exact h.ok q h'
    · exact (hf q h' hq).2⟩
theorem dia_mid {n i q : Nat} (hn : n ≤ 8) (hi : i < n) (h1 : pl n i i < q) (h2 : q < pl n (i + 1) (i + 1)) : rowOf n q ≠ colOf n q := by
  have h : ∀ n : Fin 9, ∀ i : Fin 8, ∀ q : Fin 37, i.1 < n.1 → pl n.1 i.1 i.1 < q.1 → q.1 < pl n.1 (i.1 + 1) (i.1 + 1) → rowOf n.1 q.1 ≠ colOf n.1 q.1 := by decide +kernel
  have e : pl n (i + 1) (i + 1) ≤ 36 := all3 (P := fun n i _ => i < n → pl n (i + 1) (i + 1) ≤ 36) (by decide +kernel) hn (i := i) (j := 0) (by omega) (by omega) hi
  exact h ⟨n, by omega⟩ ⟨i, by omega⟩ ⟨q, by omega⟩ hi h1 h2
theorem diaF_at {n i : Nat} (hn : n ≤ 8) (hi : i < n) (l : List Int) (v : Int) : diaF n l v (pl n i i) = l.getD (pl n i i) 0 + v := by
  unfold diaF
  rw [(rc_pl hn (Nat.le_refl i) hi).1, (rc_pl hn (Nat.le_refl i) hi).2, if_pos rfl]
theorem OIn.dia {W wx : World} {m : Nat} {l : List Int} {v : Int} {A : Option Addr} {c i : Nat} (h : OIn W wx m l (diaF m l v) A c (pl m i i + 1)) (hm : m ≤ 8) (hi : i < m) (hl : l.length = tri m) (hall : ∀ x ∈ l, -1073741824 ≤ x ∧ x ≤ 1073741824) : OIn W wx m l (diaF m l v) A c (pl m (i + 1) (i + 1)) := by
  have e1 := pl_row hm hi
  have e2 : pl m i i + 1 ≤ pl m i m := by unfold pl; rw [if_pos (by omega), if_pos (by omega)]; omega
  have e3 : pl m (i + 1) (i + 1) ≤ tri m := all3 (P := fun n i _ => i < n → pl n (i + 1) (i + 1) ≤ tri n) (by decide +kernel) hm (i := i) (j := 0) (by omega) (by omega) hi
  refine h.skip (by omega) (by omega) (fun q h1 h2 => ?_)
  have hne := dia_mid hm hi (by omega) h2
  have hq : q < l.length := by omega
  have e : diaF m l v q = l.getD q 0 := by unfold diaF; rw [if_neg hne]
  refine ⟨e, ?_⟩
  rw [e, show l.getD q 0 = l[q] by simp [List.getD, hq]]
  have := hall _ (List.getElem_mem hq)
  simp [okE, this]
end Go.Proofs.YtfcandmhalhaeaaDoor.YSym
