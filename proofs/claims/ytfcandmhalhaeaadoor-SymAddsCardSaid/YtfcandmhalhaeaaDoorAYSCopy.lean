/- Lean functions, contracts and lemmas that this claim needs. No condition. -/
import Derived.Test.YtfcandmhalhaeaaDoorAYErr
import Derived.Test.YtfcandmhalhaeaaDoorAYBlk
import Derived.Laws.AppendOwn
import Derived.Laws.OwnMore
import Derived.ArgAppend
import Derived.Deep.AppendLies
import Derived.Deep.Onto
import Derived.Laws.Rows
import Derived.IntWalk
import Derived.Lib.Hide
import Derived.Lib.SmallJoins
import Derived.Shelf.Slices.Clone
import Derived.Deep.QuietTactic
import Derived.Deep.RegionHeld3
import Derived.Deep.RegionLaw
import Derived.BigQuiet
namespace Go.Proofs.YtfcandmhalhaeaaDoor.YSym
open Go.RowKit
set_option linter.unusedVariables false
set_option linter.unusedSimpArgs false
def tri (n : Nat) : Nat := n * (n + 1) / 2
def pl (n i j : Nat) : Nat := if i ≤ j then i * n - i * (i - 1) / 2 + (j - i) else j * n - j * (j - 1) / 2 + (i - j)
theorem all3 {P : Nat → Nat → Nat → Prop} (h : ∀ n : Fin 9, ∀ i : Fin 9, ∀ j : Fin 9, P n.1 i.1 j.1) {n i j : Nat} (hn : n ≤ 8) (hi : i ≤ 8) (hj : j ≤ 8) : P n i j :=
  h ⟨n, by omega⟩ ⟨i, by omega⟩ ⟨j, by omega⟩
theorem pl_lt {n i j : Nat} (hn : n ≤ 8) (hi : i < n) (hj : j < n) : pl n i j < tri n :=
  all3 (P := fun n i j => i < n → j < n → pl n i j < tri n) (by decide +kernel) hn (by omega) (by omega) hi hj
theorem pl_next (n : Nat) {i j : Nat} (h : i ≤ j) : pl n i (j + 1) = pl n i j + 1 := by
  unfold pl
  rw [if_pos (by omega), if_pos h]
  omega
theorem pl_row {n i : Nat} (hn : n ≤ 8) (hi : i < n) : pl n (i + 1) (i + 1) = pl n i n :=
  all3 (P := fun n i _ => i < n → pl n (i + 1) (i + 1) = pl n i n) (by decide +kernel) hn (i := i) (j := 0) (by omega) (by omega) hi
theorem pl_first (n : Nat) : pl n 0 0 = 0 := by simp [pl]
theorem pl_end {n : Nat} (hn : n ≤ 8) : pl n n n = tri n :=
  all3 (P := fun n _ _ => pl n n n = tri n) (by decide +kernel) hn (i := 0) (j := 0) (by omega) (by omega)
theorem tri_le {n : Nat} (hn : n ≤ 8) : tri n ≤ 36 := all3 (P := fun n _ _ => tri n ≤ 36) (by decide +kernel) hn (i := 0) (j := 0) (by omega) (by omega)
/-- The row, the column of a place. -/
def rowOf (n k : Nat) : Nat := ((List.range n).filter (fun i => pl n i i ≤ k)).length - 1
def colOf (n k : Nat) : Nat := rowOf n k + (k - pl n (rowOf n k) (rowOf n k))
theorem rc_pl {n i j : Nat} (hn : n ≤ 8) (hi : i ≤ j) (hj : j < n) : rowOf n (pl n i j) = i ∧ colOf n (pl n i j) = j :=
  all3 (P := fun n i j => i ≤ j → j < n → rowOf n (pl n i j) = i ∧ colOf n (pl n i j) = j) (by decide +kernel) hn (i := i) (j := j) (by omega) (by omega) hi hj
def okE (x : Int) : Bool := decide (-1073741824 ≤ x) && decide (x ≤ 1073741824)
def rightB (n : Int) (l : List Int) : Bool := decide (0 ≤ n) && decide (n ≤ 8) && decide ((l.length : Int) = n * (n + 1) / 2) && l.all okE
theorem rightB_nat {n : Int} {l : List Int} (h : rightB n l = true) : ∃ m : Nat, n = m ∧ m ≤ 8 ∧ l.length = tri m ∧ ∀ x ∈ l, -1073741824 ≤ x ∧ x ≤ 1073741824 := by
  simp only [rightB, okE, Bool.and_eq_true, decide_eq_true_eq, List.all_eq_true] at h
  obtain ⟨⟨⟨h0, h1⟩, h2⟩, h3⟩ := h
  refine ⟨n.toNat, by omega, by omega, ?_, h3⟩
  have e : n = (n.toNat : Int) := by omega
  generalize n.toNat = m at *
  subst e
  unfold tri
  have : ((m * (m + 1) / 2 : Nat) : Int) = (m : Int) * ((m : Int) + 1) / 2 := by simp
  omega
theorem rightB_of {m : Nat} {l : List Int} (h1 : m ≤ 8) (h2 : l.length = tri m) (h3 : ∀ x ∈ l, -1073741824 ≤ x ∧ x ≤ 1073741824) : rightB m l = true := by
  simp only [rightB, okE, Bool.and_eq_true, decide_eq_true_eq, List.all_eq_true]
  refine ⟨⟨⟨by omega, by omega⟩, ?_⟩, h3⟩
  rw [h2]; unfold tri; simp
end Go.Proofs.YtfcandmhalhaeaaDoor.YSym
namespace Go.Proofs.YtfcandmhalhaeaaDoor.YSym
open Go.RowKit Go.Proofs.YtfcandmhalhaeaaDoor.YErr
set_option linter.unusedVariables false
set_option linter.unusedSimpArgs false
theorem addr_add (g o j : Nat) : (⟨g, o, none⟩ : Addr).add j = ⟨g, o + j, none⟩ := by
  unfold Addr.add
  split
  · rename_i h; subst h; rfl
  · rfl
/-- Numbers that lie there. -/
def Rd (w : World) (A : Option Addr) (l : List Int) : Prop := 0 < l.length → ∃ g o, A = some ⟨g, o, none⟩ ∧ ∀ i, i < l.length → w.cell? ⟨g, o + i, none⟩ = some (.int .i64 (l.getD i 0))
theorem Rd.keep {w w' : World} {A : Option Addr} {l : List Int} (h : Rd w A l) (b : Below w.heap.size w w') : Rd w' A l := fun hp => by
  obtain ⟨g, o, e, hc⟩ := h hp
  exact ⟨g, o, e, fun i hi => (b.cell (p := ⟨g, o + i, none⟩) (lt_of_cell (a := ⟨g, o + i, none⟩) (hc i hi))).trans (hc i hi)⟩
theorem Rd.nil (w : World) (A : Option Addr) : Rd w A [] := fun h => absurd h (by simp)
/-- Numbers in a row of their own, not older than block B. -/
def OwnI (w : World) (B : Nat) (A : Option Addr) (c : Nat) (l : List Int) : Prop := w.ownsRow B 2 1 (.slice A l.length c) l.length (l.map (Value.int .i64))
theorem own_sl {w : World} {B n size : Nat} {e : TypeId} {v : Value} {xs : List Value} (h : w.ownsRow B e size v n xs) : ∃ A c, v = .slice A n c := by
  rcases h.2 with ⟨rfl, rfl⟩ | ⟨g, cap, cur, rfl, _⟩
  · exact ⟨_, _, rfl⟩
  · exact ⟨_, _, rfl⟩
theorem OwnI.nil (w : World) (B : Nat) : OwnI w B none 0 [] := World.ownsRow_nil _ _ _ _
theorem OwnI.keep {w w' : World} {B c : Nat} {A : Option Addr} {l : List Int} (S : OwnI w B A c l) (g : Below w.heap.size w w') : OwnI w' B A c l := by
  obtain ⟨h1, h2 | ⟨b, cap, cur, hv, hb, hw, r⟩⟩ := S
  · exact ⟨h1, .inl h2⟩
  · exact ⟨h1, .inr ⟨b, cap, cur, hv, hb, Blk.keep (T := 2) hw g, r⟩⟩
theorem OwnI.mono {w : World} {B B' c : Nat} {A : Option Addr} {l : List Int} (S : OwnI w B A c l) (h : B' ≤ B) : OwnI w B' A c l := World.ownsRow.mono S h
theorem OwnI.form {w : World} {B c : Nat} {A : Option Addr} {l : List Int} (S : OwnI w B A c l) : (A = none ∧ c = 0 ∧ l = []) ∨ ∃ g, A = some ⟨g, 0, none⟩ ∧ B ≤ g ∧ g < w.heap.size ∧ l.length ≤ c ∧ c ≤ maxLen := by
  obtain ⟨h1, ⟨h2, h3⟩ | ⟨b, cap, cur, hv, hb, hw, hn, hm, hs, ht⟩⟩ := S
  · injection h2 with e1 e2 e3
    exact .inl ⟨e1, e3, List.eq_nil_of_length_eq_zero h3⟩
  · injection hv with e1 e2 e3
    subst e3
    exact .inr ⟨b, e1, hb, Blk.lt (T := 2) hw, hn, hm⟩
theorem OwnI.cap {w : World} {B c : Nat} {A : Option Addr} {l : List Int} (S : OwnI w B A c l) : l.length ≤ c := by
  rcases S.form with ⟨rfl, rfl, rfl⟩ | ⟨g, _, _, _, h, _⟩
  · simp
  · exact h
theorem OwnI.rd {w : World} {B c : Nat} {A : Option Addr} {l : List Int} (S : OwnI w B A c l) : Rd w A l := fun hp => by
  rcases S.form with ⟨rfl, rfl, rfl⟩ | ⟨g, rfl, hb, hg, hc⟩
  · simp at hp
  · refine ⟨g, 0, rfl, fun i hi => ?_⟩
    have := World.ownsRow.cellAt S i (by omega)
    rw [Nat.zero_add, this]
    simp [List.getD, hi]
theorem OwnI.free {w : World} {B c g : Nat} {l : List Int} (S : OwnI w B (some ⟨g, 0, none⟩) c l) (j : Nat) : w.frozen? ⟨g, j, none⟩ = false := World.ownsRow.frozenAt S j
theorem OwnI.at_ {w : World} {B c g : Nat} {l : List Int} (S : OwnI w B (some ⟨g, 0, none⟩) c l) {i : Nat} (hi : i < l.length) : w.cell? ⟨g, i, none⟩ = some (.int .i64 (l.getD i 0)) := by
  have := World.ownsRow.cellAt S i (by omega)
  rw [this]
  simp [List.getD, hi]
theorem OwnI.set {w : World} {B c g : Nat} {l : List Int} (S : OwnI w B (some ⟨g, 0, none⟩) c l) {i : Nat} (hi : i < l.length) (x : Int) : OwnI (w.setCell ⟨g, i, none⟩ (.int .i64 x)) B (some ⟨g, 0, none⟩) c (l.set i x) := by
  obtain ⟨h1, h2 | ⟨b, cap, cur, hv, hb, hw, hn, hm, hs, ht⟩⟩ := S
  · cases h2.1
  · injection hv with e1 e2 e3
    injection e1 with e1
    injection e1 with e1
    subst e1; subst e3
    refine ⟨by simp, .inr ⟨g, c, cur.setIfInBounds i (.int .i64 x), by simp, hb, Blk.set (T := 2) hw i _, by simpa using hn, hm, by simpa using hs, ?_⟩⟩
    simp only [List.length_set, Nat.mul_one, Array.toList_setIfInBounds, List.map_set] at *
    rw [← ht, List.take_set]
theorem OwnI.other {w : World} {B c : Nat} {A : Option Addr} {l : List Int} (S : OwnI w B A c l) {p : Addr} (hp : ∀ g, A = some ⟨g, 0, none⟩ → p.block ≠ g) (u : Value) : OwnI (w.setCell p u) B A c l := by
  obtain ⟨h1, h2 | ⟨b, cap, cur, hv, hb, hw, r⟩⟩ := S
  · exact ⟨h1, .inl h2⟩
  · injection hv with e1 e2 e3
    exact ⟨h1, .inr ⟨b, cap, cur, by rw [e1, e3], hb, Blk.setOther (T := 2) hw (hp b e1) u, r⟩⟩
theorem Rd.other {w : World} {A : Option Addr} {l : List Int} (h : Rd w A l) {p : Addr} (hp : ∀ g o, A = some ⟨g, o, none⟩ → p.block ≠ g) (u : Value) : Rd (w.setCell p u) A l := fun h0 => by
  obtain ⟨g, o, e, hc⟩ := h h0
  refine ⟨g, o, e, fun i hi => ?_⟩
  rw [← hc i hi]
  exact World.cell?_of_block (w := w) (Below.heap_setCell w p u g (fun e' => hp g o e e'.symm))
theorem infoI : (Tryd.prog.info? 2).map (fun i => (i.zero, i.size, i.bytes)) = some (some (.int .i64 0), 1, 8) := by kernel_rfl
theorem eqnil (c : Nat) (w : World) : (binOp .eql 22 (.slice none 0 c) (.slice none 0 0)).run Tryd.prog w = .ok (.bool true) w := by kernel_rfl
theorem eqsome (a : Addr) (n c : Nat) (w : World) : (binOp .eql 22 (.slice (some a) n c) (.slice none 0 0)).run Tryd.prog w = .ok (.bool false) w := by kernel_rfl
theorem Rd.at_ {w : World} {l : List Int} {ad : Addr} (R : Rd w (some ad) l) : ∀ j u, (l.map (Value.int .i64))[j]? = some u → w.cell? (ad.add j) = some u := by
  intro j u hj
  have hjl : j < l.length := by
    have := (List.getElem?_eq_some_iff.1 hj).1
    simpa using this
  obtain ⟨g', o', e, S⟩ := R (by omega)
  cases e
  rw [addr_add, S j hjl, ← hj]
  simp [List.getD, hjl]
set_option maxRecDepth 100000 in
set_option maxHeartbeats 8000000 in
theorem Clone_i {w : World} {c : Nat} {A : Option Addr} {l : List Int} (R : Rd w A l) (hn : l.length ≤ 1000) : Calls Tryd.prog 55 #[.slice A l.length c] w fun r w' => ∃ A' c', r = .returned (.slice A' l.length c') ∧ OwnI w' w.heap.size A' c' l ∧ Below w.heap.size w w' := by
  have hA : A = none → l = [] := fun h => by
    rcases Nat.eq_zero_or_pos l.length with h0 | h0
    · exact List.eq_nil_of_length_eq_zero h0
    · obtain ⟨_, _, e, _⟩ := R h0
      rw [h] at e; cases e
  rcases A with _ | ad
  · obtain rfl := hA rfl
    have e := eqnil c
    go_enter Tryd.func55, Tryd.ntmps55
    go_wp2
    go_ret
    exact ⟨_, _, rfl, OwnI.nil _ _, Below.refl _ _⟩
  · obtain ⟨i0, hi, hz0, hz1, hz2⟩ := info_parts infoI
    have e := eqsome
    have b1 : Below w.heap.size w (w.alloc (.cells #[] 2)) := (Below.refl _ _).alloc (Nat.le_refl _) _
    have own : (w.alloc (.cells #[] 2)).ownsRow w.heap.size 2 1 (.slice (some ⟨w.heap.size, 0, none⟩) 0 0) 0 [] :=
      ⟨rfl, .inr ⟨w.heap.size, 0, #[], rfl, Nat.le_refl _, heap_alloc_new w _, Nat.le_refl _, by unfold maxLen; omega, rfl, rfl⟩⟩
    have R1 := R.keep b1
    have hsz := b1.size
    generalize hW : w.alloc (.cells #[] 2) = W at *
    have HC := Lib.hid R1.at_
    have HN := Lib.hid hn
    clear R R1 hn hA
    go_enter Tryd.func55, Tryd.ntmps55
    go_wp2_with (first
      | (at_builtin; refine wpList_append_own _ rfl (.tmp 5) (.tmp 6) 22 rfl w.heap.size 2 i0 (.int .i64 0) 1 8 Tryd.underlying22 hi hz0 hz1 hz2 rfl (by decide) (.slice (some ⟨w.heap.size, 0, none⟩) 0 0) 0 [] rfl own ad l.length c (l.map (Value.int .i64)) rfl ?p1 ?p2 ?p3 ?p4 ?p5 ?p6 ?_)
      | go_in)
    case p1 => simp
    case p2 => exact HC.out
    case p3 => intro u hu; obtain ⟨x, _, rfl⟩ := List.mem_map.1 hu; rfl
    case p4 => have := HN.out; unfold maxLen; omega
    case p5 => have := HN.out; omega
    case p6 => exact hsz
    intro v' w3 hown3 hgrow _
    have hb3 : Below w.heap.size w w3 := b1.grown hgrow hsz (fun k h => (World.ownsRow.lt own k h).1)
    go_wp2
    go_ret
    have h3 : w3.ownsRow w.heap.size 2 1 v' l.length (l.map (Value.int .i64)) := by simpa using hown3
    obtain ⟨A', c', rfl⟩ := own_sl h3
    exact ⟨A', c', rfl, h3, hb3⟩
end Go.Proofs.YtfcandmhalhaeaaDoor.YSym
namespace Go.Proofs.YtfcandmhalhaeaaDoor.YSym
open Go.RowKit Go.Proofs.YtfcandmhalhaeaaDoor.YErr
set_option linter.unusedVariables false
set_option linter.unusedSimpArgs false
theorem bb {W w w' : World} (h : Below W.heap.size W w) (g : Below w.heap.size w w') : Below W.heap.size W w' := h.trans (g.mono h.size)
theorem info_sym : (Tryd.prog.info? 24).map (·.size) = some 2 := by kernel_rfl
section
variable {ops : Array Oper} {rest : List Oper} {o : Oper} {act : Act} {w : World} {Q : Exit → Act → World → Prop} {p : Nat}
end
/-- Both cells of a matrix's place are stored. -/
structure Put2 (W w w' : World) (p : Nat) (u0 u1 : Value) : Prop where
  blk : Blk w' p #[u0, u1] 24
  below : Below W.heap.size W w'
  own : ∀ {B A c l}, OwnI w B A c l → (∀ g, A = some ⟨g, 0, none⟩ → p ≠ g) → OwnI w' B A c l
  oth : ∀ {g cs T}, Blk w g cs T → p ≠ g → Blk w' g cs T
  err : ∀ {op B v c}, ErrFrom op B w v c → p < B → ErrFrom op B w' v c
  rd : ∀ {A l}, Rd w A l → (∀ g o, A = some ⟨g, o, none⟩ → p ≠ g) → Rd w' A l
  size : w'.heap.size = w.heap.size
theorem put2 {W w : World} {p : Nat} {x0 x1 : Value} (u0 u1 : Value) (k : Blk w p #[x0, x1] 24) (b : Below W.heap.size W w) (hp : W.heap.size ≤ p) : Put2 W w ((w.setCell ⟨p, 0, none⟩ u0).setCell ⟨p, 1, none⟩ u1) p u0 u1 where
  blk := by simpa using Blk.set (Blk.set k 0 u0) 1 u1
  below := (b.setCell (p := ⟨p, 0, none⟩) hp u0).setCell (p := ⟨p, 1, none⟩) hp u1
  own := fun S h => OwnI.other (OwnI.other S (p := ⟨p, 0, none⟩) h u0) (p := ⟨p, 1, none⟩) h u1
  oth := fun k h => Blk.setOther (Blk.setOther k (p := ⟨p, 0, none⟩) h u0) (p := ⟨p, 1, none⟩) h u1
  err := fun h hb => h.grown (b := p) (gro_set (gro_set (gro_refl _ _) 0 u0) 1 u1) hb
  rd := fun R h => Rd.other (Rd.other R (p := ⟨p, 0, none⟩) (fun g o e => h g o e) u0) (p := ⟨p, 1, none⟩) (fun g o e => h g o e) u1
  size := by simp
theorem OwnI.ne {w : World} {B c p : Nat} {A : Option Addr} {l : List Int} (S : OwnI w B A c l) (h : p < B) : ∀ g, A = some ⟨g, 0, none⟩ → p ≠ g := fun g e => by
  rcases S.form with ⟨e', _, _⟩ | ⟨g', e', hb, _⟩
  · rw [e'] at e; cases e
  · rw [e'] at e
    injection e with e; injection e with e
    omega
theorem OwnI.up {w w' : World} {B c : Nat} {A : Option Addr} {l : List Int} (S : OwnI w B A c l) (h : ∀ g, A = some ⟨g, 0, none⟩ → w'.heap[g]? = w.heap[g]?) : OwnI w' B A c l := by
  obtain ⟨h1, h2 | ⟨b, cap, cur, hv, hb, hw, r⟩⟩ := S
  · exact ⟨h1, .inl h2⟩
  · injection hv with e1 e2 e3
    exact ⟨h1, .inr ⟨b, cap, cur, by rw [e1, e3], hb, (h b e1).trans hw, r⟩⟩
theorem run_append_i {w : World} (ty : TypeId) (base : Nat) (v : Value) (n : Nat) (xs : List Value) (hown : w.ownsRow base 2 1 v n xs) {A : Option Addr} {c : Nat} {L : List Int} (R : Rd w A L) (hm : n + L.length ≤ 2000) (hb : base ≤ w.heap.size) :
    ∃ v' w', (Builtin.append_ #[22, 22] ty #[v, .slice A L.length c]).run Tryd.prog w = .ok v' w' ∧ w'.ownsRow base 2 1 v' (n + L.length) (xs ++ L.map (Value.int .i64)) ∧ w.grownBy w' v.ownBlock := by
  obtain ⟨i0, hi, hz0, hz1, hz2⟩ := info_parts infoI
  rcases A with _ | ad
  · have h0 : L = [] := by
      rcases Nat.eq_zero_or_pos L.length with h0 | h0
      · exact List.eq_nil_of_length_eq_zero h0
      · obtain ⟨_, _, e, _⟩ := R h0
        cases e
    subst h0
    refine ⟨v, w, ?_, by simpa using hown, gro_refl _ _⟩
    rcases hown.2 with ⟨rfl, rfl⟩ | ⟨g, cap, cur, rfl, _, _, hnc, _⟩
    · simp [Builtin.append_, run_underlying Tryd.underlying22, sizeOf, typeInfo, hi, Builtin.lenOf, Builtin.firstCells]
    · simp [Builtin.append_, run_underlying Tryd.underlying22, sizeOf, typeInfo, hi, Builtin.lenOf, Builtin.firstCells, hnc, storeCells]
  · obtain ⟨v', w', hr, h2, h3, _, _⟩ := run_append_own_at (P := Tryd.prog) w base 22 ty 2 i0 (.int .i64 0) 1 8 Tryd.underlying22 hi hz0 hz1 hz2 rfl (by decide) v n xs hown ad L.length c (L.map (Value.int .i64)) (by simp) R.at_ (fun u hu => by obtain ⟨x, _, rfl⟩ := List.mem_map.1 hu; rfl) (by unfold maxLen; omega) (by omega) hb
    exact ⟨v', w', hr, h2, h3⟩
theorem step_append_i {w : World} {ops : Array Oper} {o : Oper} {a : Act} {K : Act → World → Prop} {Q : Exit → Act → World → Prop} {E : Prop} (hgd : o.guard = Option.none) (s x : Operand)
    (ho : o.op = .call { callee := .builtin .append, args := #[s, x], argTypes := #[22, 22] }) (base : Nat) (v : Value) (n : Nat) (xs : List Value) (hs : a.eval s = v) (hown : w.ownsRow base 2 1 v n xs) {A : Option Addr} {c : Nat} {L : List Int} (hx : a.eval x = .slice A L.length c) (R : Rd w A L) (hm : n + L.length ≤ 2000) (hb : base ≤ w.heap.size)
    (h : ∀ v' w', w'.ownsRow base 2 1 v' (n + L.length) (xs ++ L.map (Value.int .i64)) → w.grownBy w' v.ownBlock → K (a.put o.dst v') w') :
    if Region.wanted o (yielded ops a.tmps) = true then Oper.wp Tryd.prog o a w K Q else E := by
  have hw : Region.wanted o (yielded ops a.tmps) = true := by simp [Region.wanted, hgd]
  rw [if_pos hw]
  obtain ⟨v', w', hrun, h2, h3⟩ := run_append_i (w := w) o.type base v n xs hown R hm hb (c := c)
  unfold Oper.wp execOp
  simp only [ho, resolve, invoke, builtin, Sem.run_bind, Sem.run_pure, Result.andThen_ok, List.map_toArray, List.map_cons, List.map_nil, hs, hx, hrun]
  exact h v' w' h2 h3
set_option maxRecDepth 100000 in
set_option maxHeartbeats 8000000 in
theorem Copy_c {n : Int} {w : World} {A : Option Addr} {c : Nat} {l : List Int} (R : Rd w A l) (hl : l.length ≤ 1000) :
    Calls Tryd.prog 22 #[.agg #[.int .i64 n, .slice A l.length c]] w fun e w' => ∃ A' c', e = .returned (.agg #[.int .i64 n, .slice A' l.length c']) ∧ OwnI w' w.heap.size A' c' l ∧ Below w.heap.size w w' := by
  have k0 := (Blk.new w #[.int .i64 n, .slice A l.length c] 24).alloc (.cells #[.int .i64 0, .slice none 0 0] 24)
  have k1 : Blk ((w.alloc (.cells #[.int .i64 n, .slice A l.length c] 24)).alloc (.cells #[.int .i64 0, .slice none 0 0] 24)) (w.heap.size + 1) #[.int .i64 0, .slice none 0 0] 24 := by
    have := Blk.new (w.alloc (.cells #[.int .i64 n, .slice A l.length c] 24)) #[.int .i64 0, .slice none 0 0] 24
    simpa using this
  have b0 : Below w.heap.size w ((w.alloc (.cells #[.int .i64 n, .slice A l.length c] 24)).alloc (.cells #[.int .i64 0, .slice none 0 0] 24)) := ((Below.refl _ _).alloc (Nat.le_refl _) _).alloc (by simp) _
  have hs0 : w.heap.size + 2 ≤ ((w.alloc (.cells #[.int .i64 n, .slice A l.length c] 24)).alloc (.cells #[.int .i64 0, .slice none 0 0] 24)).heap.size := by simp
  have RA := fun W h => Rd.keep (w' := W) R h
  have c0 := (k0.cell 0).trans (show _ = some (.int .i64 n) from rfl)
  have c1 := (k0.cell 1).trans (show _ = some (.slice A l.length c) from rfl)
  go_enter Tryd.func22, Tryd.ntmps22
  go_wp2_with fail
  generalize (w.alloc (.cells #[.int .i64 n, .slice A l.length c] 24)).alloc (.cells #[.int .i64 0, .slice none 0 0] 24) = W0 at *
  go_region_law (first | (refine step_append_i rfl (.const (.slice none 0 0)) (.tmp 6) rfl (w.heap.size + 2) (.slice none 0 0) 0 [] rfl (World.ownsRow_nil _ _ _ _) rfl (RA _ (by repeat (first | exact b0 | refine Below.drew ?_))) (by omega) (by exact hs0) ?_; intro v w4 own0 gr; have own := Lib.hid own0; obtain ⟨A', c', rfl⟩ := own_sl own0; clear own0; have g4 := below_gro (show World.grownBy _ w4 none by simpa [Value.ownBlock] using gr); clear gr; have k4 := Blk.keep (show Blk _ _ _ _ by exact k1) g4; have z0 := (k4.cell 0).trans (show _ = some (.int .i64 0) from rfl); have z1 := (k4.cell 1).trans (show _ = some (.slice none 0 0) from rfl); have y0 := k4.free 0; have y1 := k4.free 1; have k5 := Blk.keep (show Blk _ _ _ _ by exact k0) g4; have x0 := (k5.cell 0).trans (show _ = some (.int .i64 n) from rfl)))
  all_goals
    have b4 : Below w.heap.size w w4 := bb (by repeat (first | exact b0 | refine Below.drew ?_)) g4
    have ow1 : OwnI w4 (w.heap.size + 2) A' c' l := by have := own.out; simpa [OwnI] using this
    (try simp only [Nat.zero_add] at *)
    have P := put2 (.int .i64 n) (.slice A' l.length c') k4 b4 (by omega)
    generalize (w4.setCell ⟨w.heap.size + 1, 0, none⟩ (.int .i64 n)).setCell ⟨w.heap.size + 1, 1, none⟩ (.slice A' l.length c') = W5 at *
    go_wp2_with fail
    refine bodyPost_ret (v := .agg #[.int .i64 n, .slice A' l.length c']) (results_cell_row rfl _ _ (w.heap.size + 1) 24 _ (0, 0) _ rfl P.blk Tryd.underlying24 rfl info_sym) rfl ⟨A', c', rfl, (P.own ow1 (ow1.ne (by omega))).mono (by omega), P.below⟩
theorem cell_spot {w : World} {a : Addr} {v : Value} (h : w.cell? a = some v) : a.spot = none := by
  unfold World.cell? at h
  split at h
  · split at h
    · cases h
    · rename_i h'; simpa using h'
  · cases h
/-- What a printed function's slice of numbers says is what a slice of numbers says here. -/
theorem rd_of {w : World} {A : Option Addr} {l : List Int} (h : 0 < l.length → ∃ ad, A = some ad ∧ ∀ i, i < l.length → w.cell? (ad.add i) = some (.int .i64 (l.getD i 0))) : Rd w A l := by
  intro hp
  obtain ⟨ad, rfl, hc⟩ := h hp
  have h0 := hc 0 hp
  rw [show ad.add 0 = ad by unfold Addr.add; simp] at h0
  have hs := cell_spot h0
  obtain ⟨g, o, sp⟩ := ad
  obtain rfl : sp = none := hs
  exact ⟨g, o, rfl, fun i hi => by rw [← addr_add]; exact hc i hi⟩
end Go.Proofs.YtfcandmhalhaeaaDoor.YSym
