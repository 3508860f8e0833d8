/- Lean functions, contracts and lemmas that this claim needs. No condition. -/
import Derived.Test.YtfcandmhalhaeaaDoorAYWideReg
import Derived.Test.YtfcandmhalhaeaaDoorAYBig
import Derived.Test.YtfcandmhalhaeaaDoorAYRefCmp
import Derived.Test.YtfcandmhalhaeaaDoorAYSCopy
import Derived.Test.YtfcandmhalhaeaaDoorAYWideW2
namespace Go.Proofs.YtfcandmhalhaeaaDoor.YSym
open Go.RowKit Go.Proofs.YtfcandmhalhaeaaDoor.YErr Go.Proofs.YtfcandmhalhaeaaDoor.YInv Go.Proofs.YtfcandmhalhaeaaDoor.YRef Go.Proofs.YtfcandmhalhaeaaDoor.YBig Go.Proofs.YtfcandmhalhaeaaDoor.YBits Go.Proofs.YtfcandmhalhaeaaDoor.QSy Go.Proofs.YtfcandmhalhaeaaDoorW.PrintWords Go.Proofs.YtfcandmhalhaeaaDoorW.PrintLast
set_option linter.unusedVariables false
set_option linter.unusedSimpArgs false
def VQ (vs : List (Option Value)) (s : Nat → Value) (j : Nat) : Value := match vs.getD j none with | some v => v | none => s j
def updv (s : Nat → Value) (i : Nat) (b : Value) : Nat → Value := fun k => bif Nat.beq k i then b else s k
theorem VQ_upd (vs : List (Option Value)) (s : Nat → Value) {L : Nat → Bool} {i : Nat} (b : Value) (h : L i = false) : ∀ j, L j = true → VQ vs (updv s i b) j = VQ vs s j := by
  intro j hj
  have : Nat.beq j i = false := by
    cases e : Nat.beq j i with
    | false => rfl
    | true => rw [Nat.eq_of_beq_eq_true e, h] at hj; cases hj
  unfold VQ updv
  rw [this]
  rfl
/-- A value that reads as a number. -/
def BigAt (w : World) (v : Value) (x : Int) : Prop := ∃ A c, v = .agg #[.bool (sg x), .slice A (mag x).length c] ∧ (mag x).length ≤ c ∧ (Kd.int .u64).C w A (mag x).length (mag x)
theorem BigAt.of {w : World} {v : Value} {x : Int} (h : IsBig w v x) : BigAt w v x := by
  obtain ⟨A, c, hv, hc, h⟩ := h
  exact ⟨A, c, hv, hc, IsBig.C h⟩
theorem BigAt.keep {w w' : World} {v : Value} {x : Int} (h : BigAt w v x) (b : Below w.heap.size w w') : BigAt w' v x := by
  obtain ⟨A, c, hv, hc, h⟩ := h
  exact ⟨A, c, hv, hc, Kd.C_below h b⟩
theorem no_int {w : World} {g : Nat} {b : Bool} {A : Option Addr} {n c : Nat} {T : TypeId} (k : Blk w g #[.bool b, .slice A n c] T) {a : Addr} (ha : a.block = g) {x : Int} (h : w.cell? a = some (.int .u64 x)) : False := by
  have hs := cell_spot h
  obtain ⟨ab, ao, sp⟩ := a
  obtain rfl : sp = none := hs
  obtain rfl : ab = g := ha
  rw [k.cell] at h
  match ao, h with
  | 0, h => cases h
  | 1, h => cases h
  | n + 2, h => simp at h
theorem BigAt.row {w : World} {v : Value} {x : Int} {g : Nat} {b : Bool} {A : Option Addr} {n c : Nat} {T : TypeId} (h : BigAt w v x) (k : Blk w g #[.bool b, .slice A n c] T) (cs : Array Value) : BigAt (w.setRow g cs) v x := by
  obtain ⟨A', c', hv, hc, h1, h2, h3⟩ := h
  refine ⟨A', c', hv, hc, h1, h2, fun hp => ?_⟩
  obtain ⟨ad, e, hcells⟩ := h3 hp
  refine ⟨ad, e, fun j p hj => ?_⟩
  obtain ⟨cl, hs, hK, hcl⟩ := hcells j p hj
  refine ⟨cl, hs, hK, fun i u hu => ?_⟩
  have hq := hcl i u hu
  have hK' : cl = [.int .u64 p] := hK
  subst hK'
  rcases i with _ | i
  · cases hu
    have hne : (ad.add (j * (Kd.int .u64).sz + 0)).block ≠ g := fun e' => no_int k e' hq
    rw [← hq]
    exact World.cell?_of_block (w := w) (setRow_other _ _ _ _ hne)
  · simp at hu
theorem BigAt.set {w : World} {v : Value} {x : Int} {g : Nat} {b : Bool} {A : Option Addr} {n c : Nat} {T : TypeId} (h : BigAt w v x) (k : Blk w g #[.bool b, .slice A n c] T) (j : Nat) (u : Value) : BigAt (w.setCell ⟨g, j, none⟩ u) v x := by
  obtain ⟨A', c', hv, hc, h1, h2, h3⟩ := h
  refine ⟨A', c', hv, hc, h1, h2, fun hp => ?_⟩
  obtain ⟨ad, e, hcells⟩ := h3 hp
  refine ⟨ad, e, fun j' p hj => ?_⟩
  obtain ⟨cl, hs, hK, hcl⟩ := hcells j' p hj
  refine ⟨cl, hs, hK, fun i u hu => ?_⟩
  have hq := hcl i u hu
  have hK' : cl = [.int .u64 p] := hK
  subst hK'
  rcases i with _ | i
  · cases hu
    have hne : (ad.add (j' * (Kd.int .u64).sz + 0)).block ≠ g := fun e' => no_int k e' hq
    rw [← hq]
    exact World.cell?_of_block (w := w) (Below.heap_setCell w ⟨g, j, none⟩ _ _ (fun e' => hne e'))
  · simp at hu
theorem ROf_c (a : Int) (h0 : -9223372036854775808 ≤ a) (h1 : a ≤ 9223372036854775807) (W : World) : Calls Tryd.prog 48 #[.int .i64 a] W fun e w' => ∃ v, e = .returned v ∧ BigAt w' v a ∧ Below W.heap.size W w' := by
  refine (Of_c a h0 h1 W).mono ?_
  rintro e w' ⟨v, rfl, h, g⟩
  exact ⟨v, rfl, .of h, g⟩
theorem RMul_c {v u : Value} {x y : Int} {W : World} (hv : BigAt W v x) (hu : BigAt W u y) (sx : Small x) (sy : Small y) :
    Calls Tryd.prog 49 #[v, u] W fun e w' => ∃ r, e = .returned r ∧ BigAt w' r (x * y) ∧ Below W.heap.size W w' := by
  obtain ⟨A, c, rfl, hc, hv⟩ := hv
  obtain ⟨A', c', rfl, hc', hu⟩ := hu
  refine (leadlineref1_Mul.calls 2000 (sg x) A c (mag x) (sg y) A' c' (mag y) _ _ W hv hc hu hc' (Mul_tells 0 sx sy)).mono ?_
  rintro e w' ⟨v, rfl, hv, hb⟩
  exact ⟨_, rfl, .of (big_of (w1 := w') hv), hb⟩
theorem RAdd_c {v u : Value} {x y : Int} {W : World} (hv : BigAt W v x) (hu : BigAt W u y) (sx : Small x) (sy : Small y) :
    Calls Tryd.prog 47 #[v, u] W fun e w' => ∃ r, e = .returned r ∧ BigAt w' r (x + y) ∧ Below W.heap.size W w' := by
  obtain ⟨A, c, rfl, hc, hv⟩ := hv
  obtain ⟨A', c', rfl, hc', hu⟩ := hu
  refine (leadlineref1_Add.calls 2000 (sg x) A c (mag x) (sg y) A' c' (mag y) _ _ W hv hc hu hc' (Add_tells 0 sx sy)).mono ?_
  rintro e w' ⟨v, rfl, hv, hb⟩
  exact ⟨_, rfl, .of (big_of (w1 := w') hv), hb⟩
theorem RFits_c {v : Value} {x : Int} {W : World} (hv : BigAt W v x) (sx : Small x) :
    Calls Tryd.prog 50 #[v, .int .i64 1073741824] W fun e w' => e = .returned (.bool (okE x)) ∧ Below W.heap.size W w' := by
  obtain ⟨A, c, rfl, hc, hv⟩ := hv
  refine leadlineref1_Fits.calls 2000 (sg x) A c (mag x) _ _ W hv hc ((Fits_tells 0 sx (by decide) (by decide)).trans ?_)
  congr 1
  unfold okE ab
  split
  · rw [decide_eq_true (show x ≤ 1073741824 by omega), Bool.and_true]; exact decide_eq_decide.2 (by omega)
  · rw [decide_eq_true (show -1073741824 ≤ x by omega), Bool.true_and]
theorem RInt64_c {v : Value} {x : Int} {W : World} (hv : BigAt W v x) (h0 : -9223372036854775808 ≤ x) (h1 : x ≤ 9223372036854775807) :
    Calls Tryd.prog 51 #[v] W fun e w' => e = .returned (.tuple #[.int .i64 x, .bool true]) ∧ Below W.heap.size W w' := by
  obtain ⟨A, c, rfl, hc, hv⟩ := hv
  have e : fit64 x = (x, true) := by unfold fit64; rw [if_pos ⟨h0, h1⟩]
  exact leadlineref1_Int64.calls 2000 (sg x) A c (mag x) x true W hv hc ((Int64_tells 0 x).trans (by rw [e]))
theorem info_bigT : (Tryd.prog.info? 90).map (·.size) = some 2 := by kernel_rfl
end Go.Proofs.YtfcandmhalhaeaaDoor.YSym
