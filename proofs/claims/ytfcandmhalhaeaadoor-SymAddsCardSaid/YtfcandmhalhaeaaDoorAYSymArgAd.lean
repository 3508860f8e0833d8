/- Lean functions, contracts and lemmas that this claim needs. No condition. -/
import Derived.Test.YtfcandmhalhaeaaDoorProg
import Derived.ProofKit
import Derived.OpenShut
import Derived.Carry
import Derived.ChangeSlices
import Derived.SliceStrings
import Derived.Test.YtfcandmhalhaeaaDoorAYSymAd
import Derived.Deep.Slices
import Derived.ChangeArms
namespace Go.Proofs.YtfcandmhalhaeaaDoor.YOpen
open Go.ChangeShapes Go.WideShapes Go.ChangeAt Go.RowKit
set_option linter.unusedVariables false
set_option linter.unusedSimpArgs false
theorem agg_cells {P : Program} {w : World} {r : Reach} {b : Nat} {t : TypeId} {v : Value} (ts : List TypeId) (hs : (match P.underlying t with | some (.struct _) | some (.array _ _) => true | _ => false) = true)
    (hts : P.cellTypes P.depth t = some ts) (hC : P.cellsOf t = ts.length) (hv : Value.okWide P w r b t v) :
    ∃ cs : Array Value, v = .agg cs ∧ cs.size = ts.length ∧ ∀ (i : Nat) (u : TypeId), ts[i]? = some u → ∃ x, cs[i]? = some x ∧ Cell.okWide P w r b u x := by
  have key : ∃ cs : Array Value, v = .agg cs ∧ cs.size = P.cellsOf t ∧ Row.okWide P w r b t cs := by
    unfold Value.okWide at hv
    split at hs
    · rename_i h; rw [h] at hv; exact hv
    · rename_i h; rw [h] at hv; exact hv
    · cases hs
  obtain ⟨cs, hcs, hsz, ts', h1, _, h3⟩ := key
  obtain rfl := Option.some.inj (hts.symm.trans h1)
  refine ⟨cs, hcs, hsz.trans hC, fun i u hu => ?_⟩
  have hlt : i < ts.length := (List.getElem?_eq_some_iff.1 hu).1
  have hi : i < cs.size := by omega
  obtain ⟨u', hu', hok⟩ := h3 i cs[i] (by simp [hi])
  rw [Nat.mod_eq_of_lt hlt] at hu'
  obtain rfl := Option.some.inj (hu.symm.trans hu')
  exact ⟨cs[i], by simp [hi], hok⟩
theorem cell_spot {w : World} {a : Addr} {v : Value} (h : w.cell? a = some v) : a.spot = none := by
  unfold World.cell? at h
  split at h
  · split at h
    · cases h
    · rename_i h'; simpa using h'
  · cases h
/-- A slice of numbers: its form, its numbers, where they lie. -/
theorem ints_arg {H : Type} {enc : TypeId × Value → H} {P : Program} {w : World} {r : Reach} {b0 : Nat} {t e : TypeId} {k : IntKind} {v : Value} {d : DataW H} {ps : List MemPlace} (ht : P.underlying t = some (.slice e)) (he : P.underlying e = some (.int k)) (hc : P.cellsOf e = 1)
    (hv : Value.okWide P w r b0 t v) (h : DataW.Trod enc P w 0 (fun _ => true) true t v d ps) :
    ∃ (A : Option Addr) (c : Nat) (zs : List Int), v = .slice A zs.length c ∧ zs.length ≤ c ∧ c ≤ maxLen ∧ (∀ n ∈ zs, (Lit.int k n).wf = true) ∧
      (0 < zs.length → ∃ b off, A = some ⟨b, off, none⟩ ∧ ∀ i, i < zs.length → w.cell? ⟨b, off + i, none⟩ = some (.int k (zs.getD i 0))) := by
  obtain ⟨fuel, hf⟩ := h
  obtain ⟨A0, len0, cap0, rfl⟩ := okWide_slice ht hv
  have hf : DataW.trod enc P w 0 (fun _ => true) true fuel t [Value.slice A0 len0 cap0] = some (d, ps) := hf
  rcases open_ints ht he hc hf with ⟨h0, _⟩ | ⟨a, len, cap, zs, h0, _, hl, hm, hlen, _, hcell, hwf⟩
  · obtain ⟨rfl, rfl, rfl⟩ : A0 = none ∧ len0 = 0 ∧ cap0 = 0 := by simpa using h0
    exact ⟨none, 0, [], rfl, Nat.le_refl _, by unfold maxLen; omega, fun n hn => (by cases hn), fun h => absurd h (by simp)⟩
  · obtain ⟨rfl, rfl, rfl⟩ : A0 = some a ∧ len0 = len ∧ cap0 = cap := by simpa using h0
    have hlz : len0 ≤ zs.length := by simp at hlen; omega
    have e : (zs.take len0).length = len0 := by simp; omega
    refine ⟨some a, cap0, zs.take len0, by rw [e], by rw [e]; exact hl, hm, fun n hn => hwf n (List.mem_of_mem_take hn), fun hpos => ?_⟩
    rw [e] at hpos ⊢
    have hs' : a.spot = none := by
      have := cell_spot (hcell 0 (by omega))
      simpa [Addr.add] using this
    obtain ⟨ab, ao, asp⟩ := a
    obtain rfl : asp = none := hs'
    refine ⟨ab, ao, rfl, fun i hi => ?_⟩
    have hh := hcell i (by omega)
    have ea : (⟨ab, ao, none⟩ : Addr).add i = ⟨ab, ao + i, none⟩ := by
      unfold Addr.add
      split
      · rename_i h; subst h; rfl
      · rfl
    rw [ea] at hh
    rw [hh]
    simp [List.getD_eq_getElem?_getD, List.getElem?_take, hi]
end Go.Proofs.YtfcandmhalhaeaaDoor.YOpen
namespace Go.Proofs.YtfcandmhalhaeaaDoor.YSym
open Go.ChangeShapes Go.WideShapes Go.ChangeAt Go.RowKit Go.Deep
set_option linter.unusedVariables false
set_option linter.unusedSimpArgs false
section
variable {H : Type} {enc : TypeId × Value → H} {w : World} {fuel : Nat} {cs : List Value} {x : DataW H × List MemPlace}
set_option maxRecDepth 100000 in
theorem open_row (h : DataW.trod enc Tryd.prog w 0 (fun _ => true) true fuel 22 cs = some x) : ∃ (A : Option Addr) (c : Nat) (l : List Int), cs = [.slice A l.length c] ∧ l.length ≤ c ∧ c ≤ maxLen ∧ Rd w A l := by
  rcases open_ints Tryd.underlying22 Tryd.underlying2 (by kernel_rfl) h with ⟨h0, _⟩ | ⟨a, len, cap, zs, h0, _, hl, hm, hlen, _, hcell, hwf⟩
  · exact ⟨none, 0, [], h0, Nat.le_refl _, by unfold maxLen; omega, Rd.nil _ _⟩
  · have hlz : len ≤ zs.length := by simp at hlen; omega
    have e : (zs.take len).length = len := by simp; omega
    refine ⟨some a, cap, zs.take len, by rw [e]; exact h0, by rw [e]; exact hl, hm, rd_of fun hp => ⟨a, rfl, fun i hi => ?_⟩⟩
    rw [e] at hi
    rw [hcell i (by omega)]
    simp [List.getD_eq_getElem?_getD, List.getElem?_take, hi]
set_option maxRecDepth 100000 in
theorem open_sym (h : DataW.trod enc Tryd.prog w 0 (fun _ => true) true fuel 24 cs = some x) : ∃ (n : Int) (A : Option Addr) (c : Nat) (l : List Int), cs = [.int .i64 n, .slice A l.length c] ∧ l.length ≤ c ∧ c ≤ maxLen ∧ Rd w A l := by
  obtain ⟨xs, n, _, _, hl, hx, hf⟩ := DataW.trod_struct Tryd.underlying24 h
  have hl : cs.length = 2 := hl.trans (by kernel_rfl)
  match cs, hl with
  | [c0, c1], _ =>
    match xs, hx with
    | [y0, y1], _ =>
      have f0 : DataW.trod enc Tryd.prog w 0 (fun _ => true) true n 3 (([c0, c1].drop 0).take (Tryd.prog.cellsOf 3)) = _ := hf 0 _ rfl
      have f1 : DataW.trod enc Tryd.prog w 0 (fun _ => true) true n 22 (([c0, c1].drop 1).take (Tryd.prog.cellsOf 22)) = _ := hf 1 _ rfl
      rw [show Tryd.prog.cellsOf 3 = 1 by kernel_rfl] at f0
      rw [show Tryd.prog.cellsOf 22 = 1 by kernel_rfl] at f1
      obtain ⟨a, e0, _, _⟩ := DataW.trod_int Tryd.underlying3 f0
      obtain ⟨A, c, l, e1, h1, h2, h3⟩ := open_row f1
      simp at e0 e1
      exact ⟨a, A, c, l, by rw [e0, e1], h1, h2, h3⟩
end
set_option maxRecDepth 100000 in
theorem sym_arg {H : Type} {enc : TypeId × Value → H} {w : World} {r : Reach} {b0 : Nat} {v : Value} {d : DataW H} {ps : List MemPlace}
    (hv : Value.okWide Tryd.prog w r b0 24 v) (h : DataW.Trod enc Tryd.prog w 0 (fun _ => true) true 24 v d ps) :
    ∃ (n : Int) (A : Option Addr) (c : Nat) (l : List Int), v = .agg #[.int .i64 n, .slice A l.length c] ∧ l.length ≤ c ∧ c ≤ maxLen ∧ Rd w A l := by
  obtain ⟨cs, rfl, hsz, _⟩ := YOpen.agg_cells [3, 22] (by kernel_rfl) (by kernel_rfl) (by kernel_rfl) hv
  obtain ⟨fuel, hf⟩ := h
  have hf : DataW.trod enc Tryd.prog w 0 (fun _ => true) true fuel 24 cs.toList = some (d, ps) := hf
  obtain ⟨n, A, c, l, e, h1, h2, h3⟩ := open_sym hf
  refine ⟨n, A, c, l, ?_, h1, h2, h3⟩
  congr 1
  apply Array.ext'
  rw [e]
theorem wfu8 {a : Int} (h : (Lit.int .u8 a).wf = true) : 0 ≤ a ∧ a ≤ 255 := by
  simp [Lit.wf, IntKind.min, IntKind.max, IntKind.bits, IntKind.signed] at h; omega
theorem wfu16 {a : Int} (h : (Lit.int .u16 a).wf = true) : 0 ≤ a ∧ a ≤ 65535 := by
  simp [Lit.wf, IntKind.min, IntKind.max, IntKind.bits, IntKind.signed] at h; omega
theorem wfi16 {a : Int} (h : (Lit.int .i16 a).wf = true) : -32768 ≤ a ∧ a ≤ 32767 := by
  simp [Lit.wf, IntKind.min, IntKind.max, IntKind.bits, IntKind.signed] at h; omega
theorem wfi64 {a : Int} (h : (Lit.int .i64 a).wf = true) : W64 a := by
  simp [Lit.wf, IntKind.min, IntKind.max, IntKind.bits, IntKind.signed] at h; unfold W64; omega
theorem SymAdds_law (n : Int) (A : Option Addr) (c : Nat) (l : List Int) (a1 a2 : Int) (B : Option Addr) (d : Nat) (hs : List Int) (xw : Int) (B2 : Option Addr) (d2 : Nat) (h : List Int) (v : Int) (sm : Bool) (w : World) (hg : YErr.Laid w) (lc : l.length ≤ c) (cm : c ≤ maxLen) (RA : Rd w A l) (w1 : (Lit.int .u8 a1).wf = true) (w2 : (Lit.int .u16 a2).wf = true) (y : hs.length ≤ d) (z : d ≤ maxLen) (wh : ∀ x ∈ hs, (Lit.int .i16 x).wf = true) (RH : RdK .i16 w B hs) (w4 : (Lit.int .i64 xw).wf = true) (y2 : h.length ≤ d2) (z2 : d2 ≤ maxLen) (wh2 : ∀ x ∈ h, (Lit.int .i64 x).wf = true) (R2 : RdK .i64 w B2 h) (w6 : (Lit.int .i64 v).wf = true) :
    Calls Tryd.prog 6 #[.agg #[.int .i64 n, .slice A l.length c], .int .u8 a1, .int .u16 a2, .slice B hs.length d, .int .i64 xw, .slice B2 h.length d2, .int .i64 v, .bool sm] w fun e w' => e = .returned (.bool true) ∧ Below w.heap.size w w' :=
  SymAdds_c xw v sm hg lc RA (wfu8 w1).1 (wfu8 w1).2 (wfu16 w2).1 (wfu16 w2).2 (fun x hx => wfi16 (wh x hx)) RH (wfi64 w4) R2 y2 (fun x hx => wfi64 (wh2 x hx)) (wfi64 w6)
end Go.Proofs.YtfcandmhalhaeaaDoor.YSym
