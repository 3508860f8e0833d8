/- Lean functions, contracts and lemmas that this claim needs. No condition. -/
import Derived.Test.YtfcandmhalhaeaaDoorKYSymTl
import Derived.Deep.RegionHeldLaw
namespace Go.Proofs.YtfcandmhalhaeaaDoor.YSym
open Go.RowKit Go.Proofs.YtfcandmhalhaeaaDoor.YErr Go.Proofs.YtfcandmhalhaeaaDoor.YInv Go.Proofs.YtfcandmhalhaeaaDoor.YRef Go.Proofs.YtfcandmhalhaeaaDoor.YBits Go.Proofs.YtfcandmhalhaeaaDoor.YNum Go.Proofs.YtfcandmhalhaeaaDoor.QSy Go.Proofs.YtfcandmhalhaeaaDoor.YWide Go.Proofs.YtfcandmhalhaeaaDoorW.PrintWords Go.Proofs.YtfcandmhalhaeaaDoorW.PrintLast
set_option linter.unusedVariables false
set_option linter.unusedSimpArgs false
def groF (n N : Nat) (l : List Int) (q : Nat) : Int := if colOf N q < n then l.getD (pl n (rowOf N q) (colOf N q)) 0 else 0
/-- What Grow's loops keep. -/
structure GIn (W wx : World) (g7 n N : Nat) (l : List Int) (A : Option Addr) (c : Nat) (Ao : Option Addr) (co k : Nat) : Prop where
  k0 : Blk wx W.heap.size #[.int .i64 (n : Int), .slice A l.length c] 24
  k1 : Blk wx (W.heap.size + 1) #[.int .i64 0, .slice none 0 0] 24
  k7 : Blk wx g7 #[.int .i64 (N : Int), .slice Ao (tri N) co] 24
  rd : Rd wx A l
  ow : OwnI wx (W.heap.size + 2) Ao co (curL (groF n N l) (List.replicate (tri N) 0) k)
  b : Below W.heap.size W wx
theorem OwnI.typ {w : World} {B c : Nat} {A : Option Addr} {l : List Int} (S : OwnI w B A c l) : ∀ g, A = some ⟨g, 0, none⟩ → ∃ cur, Blk w g cur 2 := by
  intro g e
  obtain ⟨h1, h2 | ⟨b, cap, cur, hv, hb, hw, r⟩⟩ := S
  · injection h2.1 with e1; rw [e1] at e; cases e
  · injection hv with e1
    rw [e1] at e
    injection e with e
    injection e with e
    subst e
    exact ⟨cur, hw⟩
theorem GIn.keep {W wx wy : World} {g7 n N : Nat} {l : List Int} {A : Option Addr} {c : Nat} {Ao : Option Addr} {co k : Nat} (h : GIn W wx g7 n N l A c Ao co k) (g : Below wx.heap.size wx wy) : GIn W wy g7 n N l A c Ao co k :=
  ⟨h.k0.keep g, h.k1.keep g, h.k7.keep g, h.rd.keep g, h.ow.keep g, bb h.b g⟩
/-- The row that is read is no row that is written: its cells were there when the call began. -/
theorem GIn.store {W wx : World} {g7 n N : Nat} {l : List Int} {A : Option Addr} {c g co k : Nat} (h : GIn W wx g7 n N l A c (some ⟨g, 0, none⟩) co k) (hA : Rd W A l) (hk : k < tri N) : GIn W (wx.setCell ⟨g, k, none⟩ (.int .i64 (groF n N l k))) g7 n N l A c (some ⟨g, 0, none⟩) co (k + 1) := by
  have hg : W.heap.size + 2 ≤ g := by
    rcases h.ow.form with ⟨e, _⟩ | ⟨g', e, hb, _⟩
    · cases e
    · cases e; exact hb
  have b2 := h.b.setCell (p := ⟨g, k, none⟩) (by show W.heap.size ≤ g; omega) (.int .i64 (groF n N l k))
  refine ⟨Blk.setOther h.k0 (by show g ≠ _; omega) _, Blk.setOther h.k1 (by show g ≠ _; omega) _, Blk.setOther h.k7 (fun e => h.ow.ne_ty h.k7 g rfl e.symm) _, hA.keep b2, ?_, b2⟩
  rw [← curL_set (by simpa using hk)]
  exact OwnI.set h.ow (by rw [curL_len (by simp; omega)]; simpa using hk) _
theorem GIn.skip {W wx : World} {g7 n N : Nat} {l : List Int} {A : Option Addr} {c : Nat} {Ao : Option Addr} {co k k' : Nat} (h : GIn W wx g7 n N l A c Ao co k) (hk : k ≤ k') (hl : k' ≤ tri N) (hf : ∀ q, k ≤ q → q < k' → n ≤ colOf N q) : GIn W wx g7 n N l A c Ao co k' :=
  ⟨h.k0, h.k1, h.k7, h.rd, by
    rw [curL_skips hk (by simpa using hl) (fun q h1 h2 => by
      unfold groF
      rw [if_neg (by have := hf q h1 h2; omega)]
      simp only [List.getD_eq_getElem?_getD, List.getElem?_replicate]; split <;> rfl)]
    exact h.ow, h.b⟩
end Go.Proofs.YtfcandmhalhaeaaDoor.YSym
namespace Go.Proofs.YtfcandmhalhaeaaDoor.YSym
open Go.RowKit Go.Proofs.YtfcandmhalhaeaaDoor.YErr Go.Proofs.YtfcandmhalhaeaaDoor.YInv Go.Proofs.YtfcandmhalhaeaaDoor.YRef Go.Proofs.YtfcandmhalhaeaaDoor.YBits Go.Proofs.YtfcandmhalhaeaaDoor.YNum Go.Proofs.YtfcandmhalhaeaaDoor.QSy Go.Proofs.YtfcandmhalhaeaaDoor.YWide Go.Proofs.YtfcandmhalhaeaaDoorW.PrintWords Go.Proofs.YtfcandmhalhaeaaDoorW.PrintLast
set_option linter.unusedVariables false
set_option linter.unusedSimpArgs false
/-- What Drop tells. -/
def droE (n : Int) (l : List Int) (i k : Int) : Int := if rightB n l = true then (if i < 0 ∨ k < 0 ∨ n < i ∨ n - i < k then 20 else 0) else 23
def kee (N i k q : Nat) : Bool := (decide (rowOf N q < i) || decide (i + k ≤ rowOf N q)) && (decide (colOf N q < i) || decide (i + k ≤ colOf N q))
def droC (N i k : Nat) (l : List Int) (p : Nat) : List Int := ((List.range p).filter (kee N i k)).map (fun q => l.getD q 0)
def droN (n : Int) (l : List Int) (i k : Int) : Int := if droE n l i k = 0 then n - k else 0
def droL (n : Int) (l : List Int) (i k : Int) : List Int := if droE n l i k = 0 then droC n.toNat i.toNat k.toNat l (tri n.toNat) else []
theorem dro_bad {n : Int} {l : List Int} {i k e : Int} (h : droE n l i k = e) (he : e ≠ 0) : droN n l i k = 0 ∧ droL n l i k = [] := by
  unfold droN droL
  rw [h, if_neg he, if_neg he]
  exact ⟨rfl, rfl⟩
theorem droC_yes {N i k p : Nat} {l : List Int} (h : kee N i k p = true) : droC N i k l (p + 1) = droC N i k l p ++ [l.getD p 0] := by
  unfold droC
  rw [List.range_succ, List.filter_append, List.map_append]
  simp [h]
theorem droC_no {N i k p : Nat} {l : List Int} (h : kee N i k p = false) : droC N i k l (p + 1) = droC N i k l p := by
  unfold droC
  rw [List.range_succ, List.filter_append, List.map_append]
  simp [h]
theorem droC_len {N i k p : Nat} {l : List Int} : (droC N i k l p).length ≤ p := by
  unfold droC
  rw [List.length_map]
  exact Nat.le_trans (List.length_filter_le _ _) (by simp)
theorem kee_at {N r c i k : Nat} (hN : N ≤ 8) (hr : r ≤ c) (hc : c < N) : kee N i k (pl N r c) = ((decide (r < i) || decide (i + k ≤ r)) && (decide (c < i) || decide (i + k ≤ c))) := by
  unfold kee
  rw [(rc_pl hN hr hc).1, (rc_pl hN hr hc).2]
/-- What Drop's loops keep. -/
structure DIn (W wx : World) (g9 n i k : Nat) (l : List Int) (A : Option Addr) (c : Nat) (Ao : Option Addr) (co : Nat) (cu : List Int) : Prop where
  k0 : Blk wx W.heap.size #[.int .i64 (n : Int), .slice A l.length c] 24
  k1 : Blk wx (W.heap.size + 1) #[.int .i64 0, .slice none 0 0] 24
  k9 : Blk wx g9 #[.int .i64 ((n : Int) - (k : Int)), .slice Ao cu.length co] 24
  h9 : W.heap.size + 2 ≤ g9
  ow : OwnI wx (W.heap.size + 2) Ao co cu
  b : Below W.heap.size W wx
theorem DIn.keep {W wx wy : World} {g9 n i k : Nat} {l : List Int} {A : Option Addr} {c : Nat} {Ao : Option Addr} {co : Nat} {cu : List Int} (h : DIn W wx g9 n i k l A c Ao co cu) (g : Below wx.heap.size wx wy) : DIn W wy g9 n i k l A c Ao co cu :=
  ⟨h.k0.keep g, h.k1.keep g, h.k9.keep g, h.h9, h.ow.keep g, bb h.b g⟩
/-- A number is put behind: the row grows, its head is stored. -/
theorem DIn.app {W wx wy : World} {g9 n i k : Nat} {l : List Int} {A : Option Addr} {c : Nat} {Ao A' : Option Addr} {co c' : Nat} {cu cv : List Int} (h : DIn W wx g9 n i k l A c Ao co cu) (ow : OwnI wy (W.heap.size + 2) A' c' cv) (g : wx.grownBy wy (Value.slice Ao cu.length co).ownBlock) : DIn W (wy.setCell ⟨g9, 1, none⟩ (.slice A' cv.length c')) g9 n i k l A c A' c' cv := by
  have sz := h.b.size
  have hk1 := h.k1.lt
  have hob : ∀ q, (Value.slice Ao cu.length co).ownBlock = some q → W.heap.size + 2 ≤ q ∧ ∃ cur, Blk wx q cur 2 := by
    intro q hq
    rcases Ao with _ | ad
    · simp [Value.ownBlock] at hq
    · rcases h.ow.form with ⟨e, _⟩ | ⟨g', e, hb, _⟩
      · cases e
      · cases e
        simp [Value.ownBlock] at hq
        subst hq
        exact ⟨hb, h.ow.typ _ rfl⟩
  have nb : ∀ {q cs}, Blk wx q cs 24 → some q ≠ (Value.slice Ao cu.length co).ownBlock := by
    intro q cs hk e
    obtain ⟨_, cur, hc⟩ := hob q e.symm
    unfold Blk at hk hc
    rw [hk] at hc
    injection hc with hc
    injection hc with _ ht
    exact absurd ht (by decide)
  have by_ : Below W.heap.size W wy := h.b.grown g sz (fun q hq => by have := (hob q hq).1; omega)
  have K9 := Blk.grown h.k9 g (nb h.k9)
  have h9 := h.h9
  refine ⟨Blk.setOther (Blk.grown h.k0 g (nb h.k0)) (by show g9 ≠ _; omega) _, Blk.setOther (Blk.grown h.k1 g (nb h.k1)) (by show g9 ≠ _; omega) _, by simpa using Blk.set K9 1 (.slice A' cv.length c'), h.h9, OwnI.other ow (fun g e => ow.ne_ty K9 g e) _, by_.setCell (p := ⟨g9, 1, none⟩) (by show W.heap.size ≤ g9; omega) _⟩
theorem oper_append_i {w : World} {o : Oper} {a : Act} {K : Act → World → Prop} {Q : Exit → Act → World → Prop} (s x : Operand)
    (ho : o.op = .call { callee := .builtin .append, args := #[s, x], argTypes := #[22, 22] }) (base : Nat) (v : Value) (n : Nat) (xs : List Value) (hs : a.eval s = v) (hown : w.ownsRow base 2 1 v n xs) {A : Option Addr} {c : Nat} {L : List Int} (hx : a.eval x = .slice A L.length c) (R : Rd w A L) (hm : n + L.length ≤ 2000) (hb : base ≤ w.heap.size)
    (h : ∀ v' w', w'.ownsRow base 2 1 v' (n + L.length) (xs ++ L.map (Value.int .i64)) → w.grownBy w' v.ownBlock → K (a.put o.dst v') w') : Oper.wp Tryd.prog o a w K Q := by
  obtain ⟨v', w', hrun, h2, h3⟩ := run_append_i (w := w) o.type base v n xs hown R hm hb (c := c)
  unfold Oper.wp execOp
  simp only [ho, resolve, invoke, builtin, Sem.run_bind, Sem.run_pure, Result.andThen_ok, List.map_toArray, List.map_cons, List.map_nil, hs, hx, hrun]
  exact h v' w' h2 h3
theorem DIn.nb {W wx : World} {g9 n i k : Nat} {l : List Int} {A : Option Addr} {c : Nat} {Ao : Option Addr} {co : Nat} {cu : List Int} (h : DIn W wx g9 n i k l A c Ao co cu) {q : Nat} {cs : Array Value} (hk : Blk wx q cs 24) : some q ≠ (Value.slice Ao cu.length co).ownBlock := by
  intro e
  rcases Ao with _ | ad
  · simp [Value.ownBlock] at e
  · rcases h.ow.form with ⟨e', _⟩ | ⟨g', e', hb, _⟩
    · cases e'
    · cases e'
      simp [Value.ownBlock] at e
      exact h.ow.ne_ty hk _ rfl e
theorem DIn.nba {W wx : World} {g9 n i k : Nat} {l : List Int} {A : Option Addr} {c : Nat} {Ao : Option Addr} {co : Nat} {cu : List Int} (h : DIn W wx g9 n i k l A c Ao co cu) {q : Nat} (hq : q < W.heap.size) : some q ≠ (Value.slice Ao cu.length co).ownBlock := by
  intro e
  rcases Ao with _ | ad
  · simp [Value.ownBlock] at e
  · rcases h.ow.form with ⟨e', _⟩ | ⟨g', e', hb, _⟩
    · cases e'
    · cases e'
      simp [Value.ownBlock] at e
      omega
set_option maxRecDepth 100000 in
set_option maxHeartbeats 16000000 in
theorem SDrop_c {n : Int} {w : World} {A : Option Addr} {c : Nat} {l : List Int} (R : Rd w A l) (hc : l.length ≤ c) (hl : l.length ≤ 1000) (ii kk : Int) (hi64 : W64 ii) (hk64 : W64 kk) :
    Calls Tryd.prog 21 #[.agg #[.int .i64 n, .slice A l.length c], .int .i64 ii, .int .i64 kk] w fun e w' => SymEnd w (droN n l ii kk) (droL n l ii kk) (droE n l ii kk) e w' := by
  have k0 := ((Blk.new w #[.int .i64 n, .slice A l.length c] 24).alloc (.cells #[.int .i64 0, .slice none 0 0] 24))
  have k1 : Blk ((w.alloc (.cells #[.int .i64 n, .slice A l.length c] 24)).alloc (.cells #[.int .i64 0, .slice none 0 0] 24)) (w.heap.size + 1) #[.int .i64 0, .slice none 0 0] 24 := by
    have := (Blk.new (w.alloc (.cells #[.int .i64 n, .slice A l.length c] 24)) #[.int .i64 0, .slice none 0 0] 24)
    simpa using this
  have b0 : Below w.heap.size w ((w.alloc (.cells #[.int .i64 n, .slice A l.length c] 24)).alloc (.cells #[.int .i64 0, .slice none 0 0] 24)) := (((Below.refl _ _).alloc (Nat.le_refl _) _).alloc (by simp) _)
  have hs0 : w.heap.size + 2 ≤ ((w.alloc (.cells #[.int .i64 n, .slice A l.length c] 24)).alloc (.cells #[.int .i64 0, .slice none 0 0] 24)).heap.size := by simp
  have IN := in_c (n := n) (B := none) (d := 0) (q := []) (R.keep b0) hc hl (Rd.nil _ _) (by decide)
  have HR0 := Lib.hid R
  have BD20 := fun W => bad_c 20 (by decide) W
  rw [inE_nil] at IN
  go_enter Tryd.func21, Tryd.ntmps21
  go_wp2_with fail
  refine IN.mono ?_; rintro e w1 ⟨ve, rfl, hve, g1⟩
  have b1 := bb b0 g1
  have hs1 := Nat.le_trans hs0 g1.size
  replace k0 := k0.keep g1
  replace k1 := k1.keep g1
  replace hve := hve.mono hs0
  have z0 := (k1.cell 0).trans (show _ = some (.int .i64 0) from rfl)
  have z1 := (k1.cell 1).trans (show _ = some (.slice none 0 0) from rfl)
  have y0 := k1.free 0
  have y1 := k1.free 1
  have c0 := (k0.cell 0).trans (show _ = some (.int .i64 n) from rfl)
  have c1 := (k0.cell 1).trans (show _ = some (.slice A l.length c) from rfl)
  clear IN g1 b0 hs0 R
  cases hr : rightB n l with
  | false =>
    have HE := Lib.hid (show droE n l ii kk = 23 by unfold droE; rw [if_neg (by rw [hr]; decide)])
    have HB := Lib.hid (dro_bad HE.out (by decide))
    rw [hr, if_neg (by decide)] at hve
    obtain ⟨a, rfl⟩ := hve.is.some (by decide)
    clear hr
    go_wp2_with fail
    refine bodyPost_ret (v := .tuple #[.agg #[.int .i64 0, .slice none 0 0], .iface 131 (.pointer (some a))]) ?_ rfl ?_
    · rw [results_cell_tmp rfl]
      go_simp
    · rw [HB.out.1, HB.out.2, HE.out]
      have P := put2 (.int .i64 0) (.slice none 0 0) k1 b1 (by omega)
      exact ⟨none, 0, _, rfl, OwnI.nil _ _, (P.err hve (by omega)).mono (by omega), P.below⟩
  | true =>
    rw [hr, if_pos rfl] at hve
    obtain rfl := hve.none
    obtain ⟨m, rfl, hm, hlen, hall⟩ := rightB_nat hr
    have HR := Lib.hid hr
    have HLN := Lib.hid hlen
    have HM := Lib.hid hm
    have mI : (m : Int) ≤ 8 := by omega
    have m0 : (0 : Int) ≤ (m : Int) := by omega
    clear hve hr hlen hall
    obtain ⟨hi64a, hi64b⟩ := hi64
    obtain ⟨hk64a, hk64b⟩ := hk64
    by_cases h0 : ii < 0
    · have d0 : decide (ii < 0) = true := by simpa using h0
      have HE := Lib.hid (show droE m l ii kk = 20 by unfold droE; rw [if_pos HR.out, if_pos (by omega)])
      have HB := Lib.hid (dro_bad HE.out (by decide))
      go_wp2_with fail
      refine (BD20 _).mono ?_; rintro e w2 ⟨v, rfl, hv, g2⟩
      have b2 := bb b1 g2
      replace hv := hv.mono hs1
      replace k1 := k1.keep g2
      have z0 := (k1.cell 0).trans (show _ = some (.int .i64 0) from rfl)
      have z1 := (k1.cell 1).trans (show _ = some (.slice none 0 0) from rfl)
      have y0 := k1.free 0
      have y1 := k1.free 1
      go_wp2_with fail
      refine bodyPost_ret (v := .tuple #[.agg #[.int .i64 0, .slice none 0 0], v]) ?_ rfl ?_
      · rw [results_cell_tmp rfl]
        go_simp
      · rw [HB.out.1, HB.out.2, HE.out]
        have P := put2 (.int .i64 0) (.slice none 0 0) k1 b2 (by omega)
        exact ⟨none, 0, _, rfl, OwnI.nil _ _, (P.err hv (by omega)).mono (by omega), P.below⟩
    · have d0 : decide (ii < 0) = false := by simpa using h0
      by_cases h1 : kk < 0
      · have d1 : decide (kk < 0) = true := by simpa using h1
        have HE := Lib.hid (show droE m l ii kk = 20 by unfold droE; rw [if_pos HR.out, if_pos (by omega)])
        have HB := Lib.hid (dro_bad HE.out (by decide))
        go_wp2_with fail
        refine (BD20 _).mono ?_; rintro e w2 ⟨v, rfl, hv, g2⟩
        have b2 := bb b1 g2
        replace hv := hv.mono hs1
        replace k1 := k1.keep g2
        have z0 := (k1.cell 0).trans (show _ = some (.int .i64 0) from rfl)
        have z1 := (k1.cell 1).trans (show _ = some (.slice none 0 0) from rfl)
        have y0 := k1.free 0
        have y1 := k1.free 1
        go_wp2_with fail
        refine bodyPost_ret (v := .tuple #[.agg #[.int .i64 0, .slice none 0 0], v]) ?_ rfl ?_
        · rw [results_cell_tmp rfl]
          go_simp
        · rw [HB.out.1, HB.out.2, HE.out]
          have P := put2 (.int .i64 0) (.slice none 0 0) k1 b2 (by omega)
          exact ⟨none, 0, _, rfl, OwnI.nil _ _, (P.err hv (by omega)).mono (by omega), P.below⟩
      · have d1 : decide (kk < 0) = false := by simpa using h1
        by_cases h2 : (m : Int) < ii
        · have d2 : decide ((m : Int) < ii) = true := by simpa using h2
          have HE := Lib.hid (show droE m l ii kk = 20 by unfold droE; rw [if_pos HR.out, if_pos (by omega)])
          have HB := Lib.hid (dro_bad HE.out (by decide))
          go_wp2_with fail
          refine (BD20 _).mono ?_; rintro e w2 ⟨v, rfl, hv, g2⟩
          have b2 := bb b1 g2
          replace hv := hv.mono hs1
          replace k1 := k1.keep g2
          have z0 := (k1.cell 0).trans (show _ = some (.int .i64 0) from rfl)
          have z1 := (k1.cell 1).trans (show _ = some (.slice none 0 0) from rfl)
          have y0 := k1.free 0
          have y1 := k1.free 1
          go_wp2_with fail
          refine bodyPost_ret (v := .tuple #[.agg #[.int .i64 0, .slice none 0 0], v]) ?_ rfl ?_
          · rw [results_cell_tmp rfl]
            go_simp
          · rw [HB.out.1, HB.out.2, HE.out]
            have P := put2 (.int .i64 0) (.slice none 0 0) k1 b2 (by omega)
            exact ⟨none, 0, _, rfl, OwnI.nil _ _, (P.err hv (by omega)).mono (by omega), P.below⟩
        · have d2 : decide ((m : Int) < ii) = false := by simpa using h2
          by_cases h3 : (m : Int) - ii < kk
          · have d3 : decide ((m : Int) - ii < kk) = true := by simpa using h3
            have HE := Lib.hid (show droE m l ii kk = 20 by unfold droE; rw [if_pos HR.out, if_pos (by omega)])
            have HB := Lib.hid (dro_bad HE.out (by decide))
            go_wp2_with fail
            refine (BD20 _).mono ?_; rintro e w2 ⟨v, rfl, hv, g2⟩
            have b2 := bb b1 g2
            replace hv := hv.mono hs1
            replace k1 := k1.keep g2
            have z0 := (k1.cell 0).trans (show _ = some (.int .i64 0) from rfl)
            have z1 := (k1.cell 1).trans (show _ = some (.slice none 0 0) from rfl)
            have y0 := k1.free 0
            have y1 := k1.free 1
            go_wp2_with fail
            refine bodyPost_ret (v := .tuple #[.agg #[.int .i64 0, .slice none 0 0], v]) ?_ rfl ?_
            · rw [results_cell_tmp rfl]
              go_simp
            · rw [HB.out.1, HB.out.2, HE.out]
              have P := put2 (.int .i64 0) (.slice none 0 0) k1 b2 (by omega)
              exact ⟨none, 0, _, rfl, OwnI.nil _ _, (P.err hv (by omega)).mono (by omega), P.below⟩
          · have d3 : decide ((m : Int) - ii < kk) = false := by simpa using h3
            obtain ⟨i, rfl⟩ : ∃ i : Nat, ii = i := ⟨ii.toNat, by omega⟩
            obtain ⟨k, rfl⟩ : ∃ k : Nat, kk = k := ⟨kk.toNat, by omega⟩
            have HE := Lib.hid (show droE m l i k = 0 by unfold droE; rw [if_pos HR.out, if_neg (by omega)])
            have HN := Lib.hid (show droN m l i k = (m : Int) - (k : Int) by unfold droN; rw [if_pos HE.out])
            have HL := Lib.hid (show droL m l i k = droC m i k l (tri m) by unfold droL; rw [if_pos HE.out]; rfl)
            have iB : (i : Int) ≤ 8 := by omega
            have kB : (k : Int) ≤ 8 := by omega
            have i00 : (0 : Int) ≤ (i : Int) := by omega
            have k00 : (0 : Int) ≤ (k : Int) := by omega
            have KL := Blk.new w1 #[] 2
            have GA0 : Below w1.heap.size w1 (w1.alloc (.cells #[] 2)) := (Below.refl _ _).alloc (Nat.le_refl _) _
            have ow0 : OwnI (w1.alloc (.cells #[] 2)) (w.heap.size + 2) (some ⟨w1.heap.size, 0, none⟩) 0 [] := ⟨rfl, .inr ⟨w1.heap.size, 0, #[], rfl, hs1, KL, Nat.le_refl _, by unfold maxLen; omega, rfl, rfl⟩⟩
            have GA : Below (w1.alloc (.cells #[] 2)).heap.size (w1.alloc (.cells #[] 2)) ((w1.alloc (.cells #[] 2)).alloc (.cells #[.int .i64 ((m : Int) - (k : Int)), .slice (some ⟨w1.heap.size, 0, none⟩) 0 0] 24)) := (Below.refl _ _).alloc (Nat.le_refl _) _
            have DI : DIn w ((w1.alloc (.cells #[] 2)).alloc (.cells #[.int .i64 ((m : Int) - (k : Int)), .slice (some ⟨w1.heap.size, 0, none⟩) 0 0] 24)) (w1.heap.size + 1) m i k l A c (some ⟨w1.heap.size, 0, none⟩) 0 [] :=
              ⟨(k0.keep GA0).keep GA, (k1.keep GA0).keep GA, by simpa using Blk.new (w1.alloc (.cells #[] 2)) #[.int .i64 ((m : Int) - (k : Int)), .slice (some ⟨w1.heap.size, 0, none⟩) 0 0] 24, by omega, ow0.keep GA, bb (bb b1 GA0) GA⟩
            have HD := Lib.hid DI
            have q0 := (DI.k0.cell 0).trans (show _ = some (.int .i64 (m : Int)) from rfl)
            have HIK := Lib.hid (And.intro h0 (And.intro h1 (And.intro h2 h3)))
            clear KL GA0 ow0 GA k0 k1 b1 z0 z1 y0 y1 DI BD20
            go_wp2_with fail
            clear h0 h1 h2 h3 d0 d1 d2 d3 hi64a hi64b hk64a hk64b
            generalize (w1.alloc (.cells #[] 2)).alloc (.cells #[.int .i64 ((m : Int) - (k : Int)), .slice (some ⟨w1.heap.size, 0, none⟩) 0 0] 24) = w3 at *
            generalize w1.heap.size + 1 = g9 at *
            clear q0 c0 c1
            go_loopw [48] (fun s48 wl => ∃ (r : Nat) (Ao : Option Addr) (co : Nat), r ≤ m ∧ s48 = .int .i64 r ∧ DIn w wl g9 m i k l A c Ao co (droC m i k l (pl m r r))) (fun s48 _ => m - (intOf s48).toNat)
            case atStart => exact ⟨0, _, _, Nat.zero_le _, rfl, by rw [pl_first]; exact HD.out⟩
            case round =>
              clear HD
              obtain ⟨r, Ao, co, hr, rfl, DI⟩ := hrel
              have r0 : (0 : Int) ≤ (r : Int) := by omega
              by_cases hrm : r < m
              · have r1 : (r : Int) < (m : Int) := by omega
                have r2 : decide ((r : Int) < (m : Int)) = true := by simpa using hrm
                have HD := Lib.hid DI
                clear DI
                go_wp2_with fail
                clear r2
                go_loopw [11] (fun s11 wl => ∃ (j : Nat) (Ao : Option Addr) (co : Nat), r ≤ j ∧ j ≤ m ∧ s11 = .int .i64 j ∧ DIn w wl g9 m i k l A c Ao co (droC m i k l (pl m r j))) (fun s11 _ => m - (intOf s11).toNat)
                case atStart => exact ⟨r, Ao, co, Nat.le_refl _, hr, rfl, HD.out⟩
                case round =>
                  clear HD
                  obtain ⟨j, Ao, co, hrj, hj, rfl, DI⟩ := hrel
                  have j0 : (0 : Int) ≤ (j : Int) := by omega
                  have q0 := (DI.k0.cell 0).trans (show _ = some (.int .i64 (m : Int)) from rfl)
                  by_cases hjm : j < m
                  · have j1 : (j : Int) < (m : Int) := by omega
                    have j2 : decide ((j : Int) < (m : Int)) = true := by simpa using hjm
                    have hke := kee_at (i := i) (k := k) HM.out hrj hjm
                    have hnx := pl_next m hrj
                    have jB : (j : Int) ≤ 8 := by omega
                    have rB : (r : Int) ≤ 8 := by omega
                    have HCT := Lib.hid HR0.out
                    by_cases e1 : (r : Int) < (i : Int) ∨ (i : Int) + (k : Int) ≤ (r : Int)
                    · by_cases e2 : (j : Int) < (i : Int) ∨ (i : Int) + (k : Int) ≤ (j : Int)
                      · have hyes : kee m i k (pl m r j) = true := by rw [hke]; simp; omega
                        have hp : pl m r j < tri m := pl_lt HM.out hrm hjm
                        have P1 := fun W => place_c HM.out (show r ≤ m by omega) (show j ≤ m by omega) W
                        have hlen := HLN.out
                        have hcu := droC_len (N := m) (i := i) (k := k) (p := pl m r j) (l := l)
                        have htri := tri_le HM.out
                        have hyl := droC_yes (l := l) hyes
                        obtain ⟨ga, oa, rfl, HRC⟩ := (HR0.out.keep DI.b) (by omega)
                        have cp := HRC (pl m r j) (by omega)
                        have p0 : (0 : Int) ≤ ((pl m r j : Nat) : Int) := by omega
                        have p1 : ((pl m r j : Nat) : Int) < (l.length : Int) := by omega
                        have q1 := (DI.k0.cell 1).trans (show _ = some (.slice (some ⟨ga, oa, none⟩) l.length c) from rfl)
                        have u1 := (DI.k9.cell 1).trans (show _ = some (.slice Ao (droC m i k l (pl m r j)).length co) from rfl)
                        have f1 := DI.k9.free 1
                        have hga : ga < w.heap.size := by
                          obtain ⟨g', o', e, h'⟩ := HR0.out (by omega)
                          cases e
                          exact lt_of_cell (h' 0 (by omega))
                        have NB0 := DI.nb DI.k0
                        have NB9 := DI.nb DI.k9
                        have NBa := DI.nba hga
                        have h9 := DI.h9
                        have HNX := Lib.hid (show droC m i k l (pl m r (j + 1)) = droC m i k l (pl m r j) ++ [l.getD (pl m r j) 0] by rw [hnx]; exact hyl)
                        have hsz : w.heap.size + 2 ≤ wr.heap.size := by have := DI.k1.lt; omega
                        have hcu2 : (droC m i k l (pl m r j)).length ≤ 36 := by omega
                        clear hke hnx HRC hlen hyl hp hyes hcu htri
                        generalize hcv : droC m i k l (pl m r (j + 1)) = cv at *
                        have HCV := Lib.hid hcv
                        generalize droC m i k l (pl m r j) = cu at *
                        generalize l.getD (pl m r j) 0 = lq at *
                        generalize pl m r j = p at *
                        have HDI := Lib.hid DI
                        have HOW := Lib.hid DI.ow
                        have HE2 := Lib.hid (And.intro e1 e2)
                        clear DI hcv e1 e2
                        have CS : (decide ((r : Int) < (i : Int)) = true ∧ decide ((j : Int) < (i : Int)) = true) ∨ (decide ((r : Int) < (i : Int)) = true ∧ decide ((j : Int) < (i : Int)) = false ∧ decide ((i : Int) + (k : Int) ≤ (j : Int)) = true) ∨ (decide ((r : Int) < (i : Int)) = false ∧ decide ((i : Int) + (k : Int) ≤ (r : Int)) = true ∧ decide ((j : Int) < (i : Int)) = false ∧ decide ((i : Int) + (k : Int) ≤ (j : Int)) = true) := by
                          have := HE2.out
                          simp only [decide_eq_true_eq, decide_eq_false_iff_not]
                          omega
                        rcases CS with ⟨e3, e4⟩ | ⟨e3, e4, e5⟩ | ⟨e3, e5, e4, e6⟩
                        case' inl =>
                          have n3 : decide (r < i) = true := by simpa using e3
                          have n4 : decide (j < i) = true := by simpa using e4
                        case' inr.inl =>
                          have n3 : decide (r < i) = true := by simpa using e3
                          have n4 : decide (j < i) = false := by simpa using e4
                          have n5 : decide (i + k ≤ j) = true := by simp at e5 ⊢; omega
                        case' inr.inr =>
                          have n3 : decide (r < i) = false := by simpa using e3
                          have n4 : decide (j < i) = false := by simpa using e4
                          have n5 : decide (i + k ≤ j) = true := by simp at e6 ⊢; omega
                          have n6 : decide (i + k ≤ r) = true := by simp at e5 ⊢; omega
                        all_goals go_wp2_with fail
                        ·
                          refine region_vals (σ := Nat → Value) [some 80, some 81, some 82, some 83, some 84, some 85, some 86, some 87, some 88, some 89, some 90, some 91, some 92, some 93, none] (VQ [some (.pointer (some ⟨g9, 1, none⟩)), some (.slice Ao cu.length co), some (.pointer (some ⟨w.heap.size, 1, none⟩)), some (.slice (some ⟨ga, oa, none⟩) l.length c), some (.pointer (some ⟨w.heap.size, 0, none⟩)), some (.int .i64 (m : Int)), some (.int .i64 (r : Int)), some (.int .i64 (j : Int)), some (.int .i64 (p : Int)), some (.pointer (some ⟨ga, oa + p, none⟩)), some (.int .i64 lq), none, none, some (.pointer (some ⟨g9, 1, none⟩)), some (undef)]) (fun L s wx => (L 12 = false → Below wr.heap.size wr wx) ∧ (L 11 = true → ∃ gl, s 11 = .slice (some ⟨gl, 0, none⟩) 1 1 ∧ (L 12 = false → Blk wx gl #[.int .i64 lq] 2)) ∧ (L 12 = true → L 14 = false → ∃ A' c', s 12 = .slice A' (cu.length + 1) c' ∧ OwnI wx (w.heap.size + 2) A' c' (cu ++ [lq]) ∧ ∃ wy, Below wr.heap.size wr wy ∧ wy.grownBy wx (Value.slice Ao cu.length co).ownBlock) ∧ (L 14 = true → ∃ A' c', DIn w wx g9 m i k l (some ⟨ga, oa, none⟩) c A' c' (cu ++ [lq])) ∧ (L 14 = true → L 12 = true) ∧ (L 12 = true → L 1 = true ∧ L 3 = true ∧ L 5 = true ∧ L 8 = true ∧ L 10 = true ∧ L 11 = true) ∧ (L 11 = true → L 10 = true) ∧ (L 10 = true → L 9 = true) ∧ (L 9 = true → L 3 = true ∧ L 8 = true) ∧ (L 8 = true → L 5 = true)) (fun _ => undef) [0, 1, 2, 3, 4, 5, 6, 7, 8, 9, 10, 11, 12, 13, 14] _ _ rfl (by kernel_rfl) (by kernel_rfl) (by kernel_rfl) (by kernel_rfl) (by kernel_rfl) ⟨fun _ => (Below.refl _ _).drew, fun h => absurd h (by decide), fun h => absurd h (by decide), fun h => absurd h (by decide), fun h => absurd h (by decide), fun h => absurd h (by decide), fun h => absurd h (by decide), fun h => absurd h (by decide), fun h => absurd h (by decide), fun h => absurd h (by decide)⟩ ?stepsD1 ?finD1 (fun L L' s wx e h => by rw [e 1 (by decide), e 3 (by decide), e 5 (by decide), e 8 (by decide), e 9 (by decide), e 10 (by decide), e 11 (by decide), e 12 (by decide), e 14 (by decide)] at h; exact h)
                          case stepsD1 =>
                            refine VSteps.cons rfl (fun x L s wx K kn hL hp hI hK => ?_) ?_
                            · have e9 : x[9]? = some (.pointer (some ⟨g9, 0, none⟩)) := (kn.old 9 (by kernel_rfl)).trans rfl
                              refine want_ rfl ?_
                              obtain ⟨BW, AL, AP, ST, C1, C2, C3, C4, C5, C6⟩ := hI
                              exact val_ (v := .pointer (some ⟨g9, 1, none⟩)) (by simp [go_sem, execOp, evr_, e9, addr_add]) (hK.out s _ (fun _ _ => rfl) ⟨BW, AL, AP, ST, C1, C2, C3, C4, C5, C6⟩)
                            refine VSteps.cons rfl (fun x L s wx K kn hL hp hI hK => ?_) ?_
                            · have e80 : x[80]? = some (.pointer (some ⟨g9, 1, none⟩)) := kn.got 0 80 (hp ⟨0, .data⟩ (by simp) rfl) rfl
                              refine want_ rfl ?_
                              obtain ⟨BW, AL, AP, ST, C1, C2, C3, C4, C5, C6⟩ := hI
                              have n12 : L 12 = false := by
                                cases h : L 12 with
                                | false => rfl
                                | true => have z := C2 h; simp [hL] at z
                              have n14 : L 14 = false := by
                                cases h : L 14 with
                                | false => rfl
                                | true => rw [C1 h] at n12; cases n12
                              have cA := ((BW n12).cell (lt_of_cell u1)).trans u1
                              exact valw_ (v := .slice Ao cu.length co) (w' := wx) (by simp [go_sem, execOp, evr_, e80, cA]) (hK.out s _ (fun _ _ => rfl) ⟨BW, AL, AP, ST, C1, fun h => absurd h (by simp [YInv.up, n12]), C3, C4, C5, C6⟩)
                            refine VSteps.cons rfl (fun x L s wx K kn hL hp hI hK => ?_) ?_
                            · have e3 : x[3]? = some (.pointer (some ⟨w.heap.size, 0, none⟩)) := (kn.old 3 (by kernel_rfl)).trans rfl
                              refine want_ rfl ?_
                              obtain ⟨BW, AL, AP, ST, C1, C2, C3, C4, C5, C6⟩ := hI
                              exact val_ (v := .pointer (some ⟨w.heap.size, 1, none⟩)) (by simp [go_sem, execOp, evr_, e3, addr_add]) (hK.out s _ (fun _ _ => rfl) ⟨BW, AL, AP, ST, C1, C2, C3, C4, C5, C6⟩)
                            refine VSteps.cons rfl (fun x L s wx K kn hL hp hI hK => ?_) ?_
                            · have e82 : x[82]? = some (.pointer (some ⟨w.heap.size, 1, none⟩)) := kn.got 2 82 (hp ⟨2, .data⟩ (by simp) rfl) rfl
                              refine want_ rfl ?_
                              obtain ⟨BW, AL, AP, ST, C1, C2, C3, C4, C5, C6⟩ := hI
                              have n12 : L 12 = false := by
                                cases h : L 12 with
                                | false => rfl
                                | true => have z := C2 h; simp [hL] at z
                              have n14 : L 14 = false := by
                                cases h : L 14 with
                                | false => rfl
                                | true => rw [C1 h] at n12; cases n12
                              have cA := ((BW n12).cell (lt_of_cell q1)).trans q1
                              exact valw_ (v := .slice (some ⟨ga, oa, none⟩) l.length c) (w' := wx) (by simp [go_sem, execOp, evr_, e82, cA]) (hK.out s _ (fun _ _ => rfl) ⟨BW, AL, AP, ST, C1, fun h => absurd h (by simp [YInv.up, n12]), C3, C4, fun h => ⟨rfl, (C5 h).2⟩, C6⟩)
                            refine VSteps.cons rfl (fun x L s wx K kn hL hp hI hK => ?_) ?_
                            · have e3 : x[3]? = some (.pointer (some ⟨w.heap.size, 0, none⟩)) := (kn.old 3 (by kernel_rfl)).trans rfl
                              refine want_ rfl ?_
                              obtain ⟨BW, AL, AP, ST, C1, C2, C3, C4, C5, C6⟩ := hI
                              exact val_ (v := .pointer (some ⟨w.heap.size, 0, none⟩)) (by simp [go_sem, execOp, evr_, e3]) (hK.out s _ (fun _ _ => rfl) ⟨BW, AL, AP, ST, C1, C2, C3, C4, C5, C6⟩)
                            refine VSteps.cons rfl (fun x L s wx K kn hL hp hI hK => ?_) ?_
                            · have e84 : x[84]? = some (.pointer (some ⟨w.heap.size, 0, none⟩)) := kn.got 4 84 (hp ⟨4, .data⟩ (by simp) rfl) rfl
                              refine want_ rfl ?_
                              obtain ⟨BW, AL, AP, ST, C1, C2, C3, C4, C5, C6⟩ := hI
                              have n12 : L 12 = false := by
                                cases h : L 12 with
                                | false => rfl
                                | true => have z := C2 h; simp [hL] at z
                              have n14 : L 14 = false := by
                                cases h : L 14 with
                                | false => rfl
                                | true => rw [C1 h] at n12; cases n12
                              have cA := ((BW n12).cell (lt_of_cell q0)).trans q0
                              exact valw_ (v := .int .i64 (m : Int)) (w' := wx) (by simp [go_sem, execOp, evr_, e84, cA]) (hK.out s _ (fun _ _ => rfl) ⟨BW, AL, AP, ST, C1, fun h => absurd h (by simp [YInv.up, n12]), C3, C4, C5, fun _ => rfl⟩)
                            refine VSteps.cons rfl (fun x L s wx K kn hL hp hI hK => ?_) ?_
                            · have e10 : x[10]? = some (.int .i64 (r : Int)) := (kn.old 10 (by kernel_rfl)).trans rfl
                              refine want_ rfl ?_
                              obtain ⟨BW, AL, AP, ST, C1, C2, C3, C4, C5, C6⟩ := hI
                              exact val_ (v := .int .i64 (r : Int)) (by simp [go_sem, execOp, evr_, e10]) (hK.out s _ (fun _ _ => rfl) ⟨BW, AL, AP, ST, C1, C2, C3, C4, C5, C6⟩)
                            refine VSteps.cons rfl (fun x L s wx K kn hL hp hI hK => ?_) ?_
                            · have e11 : x[11]? = some (.int .i64 (j : Int)) := (kn.old 11 (by kernel_rfl)).trans rfl
                              refine want_ rfl ?_
                              obtain ⟨BW, AL, AP, ST, C1, C2, C3, C4, C5, C6⟩ := hI
                              exact val_ (v := .int .i64 (j : Int)) (by simp [go_sem, execOp, evr_, e11]) (hK.out s _ (fun _ _ => rfl) ⟨BW, AL, AP, ST, C1, C2, C3, C4, C5, C6⟩)
                            refine VSteps.cons rfl (fun x L s wx K kn hL hp hI hK => ?_) ?_
                            · have e85 : x[85]? = some (.int .i64 (m : Int)) := kn.got 5 85 (hp ⟨5, .data⟩ (by simp) rfl) rfl
                              have e86 : x[86]? = some (.int .i64 (r : Int)) := kn.got 6 86 (hp ⟨6, .data⟩ (by simp) rfl) rfl
                              have e87 : x[87]? = some (.int .i64 (j : Int)) := kn.got 7 87 (hp ⟨7, .data⟩ (by simp) rfl) rfl
                              refine want_ rfl ?_
                              obtain ⟨BW, AL, AP, ST, C1, C2, C3, C4, C5, C6⟩ := hI
                              have n12 : L 12 = false := by
                                cases h : L 12 with
                                | false => rfl
                                | true => have z := C2 h; simp [hL] at z
                              have n14 : L 14 = false := by
                                cases h : L 14 with
                                | false => rfl
                                | true => rw [C1 h] at n12; cases n12
                              refine goesK_ Tryd.func37 (by kernel_rfl) rfl #[.int .i64 (m : Int), .int .i64 (r : Int), .int .i64 (j : Int)] rfl (by simp only [List.map_toArray, List.map_cons, List.map_nil, evr_, ev_ e85, ev_ e86, ev_ e87]) ((P1 _).mono ?_)
                              rintro e w' ⟨rfl, n8, rfl⟩
                              exact ⟨_, rfl, hK.out s _ (fun _ _ => rfl) ⟨fun h => below_drewN (BW h) n8, fun h => (AL h).imp fun gl z => ⟨z.1, fun k => Blk.drewN (z.2 k) n8⟩, fun h => absurd h (by simp [YInv.up, n12]), fun h => absurd h (by simp [YInv.up, n14]), C1, fun h => absurd h (by simp [YInv.up, n12]), C3, C4, fun h => ⟨(C5 h).1, rfl⟩, fun _ => (hp ⟨5, .data⟩ (by simp) rfl)⟩⟩
                            refine VSteps.cons rfl (fun x L s wx K kn hL hp hI hK => ?_) ?_
                            · have e83 : x[83]? = some (.slice (some ⟨ga, oa, none⟩) l.length c) := kn.got 3 83 (hp ⟨3, .data⟩ (by simp) rfl) rfl
                              have e88 : x[88]? = some (.int .i64 (p : Int)) := kn.got 8 88 (hp ⟨8, .data⟩ (by simp) rfl) rfl
                              refine want_ rfl ?_
                              obtain ⟨BW, AL, AP, ST, C1, C2, C3, C4, C5, C6⟩ := hI
                              exact val_ (v := .pointer (some ⟨ga, oa + p, none⟩)) (by simp [go_sem, execOp, evr_, e83, e88, p0, p1, addr_add]) (hK.out s _ (fun _ _ => rfl) ⟨BW, AL, AP, ST, C1, C2, C3, fun _ => rfl, fun _ => ⟨(hp ⟨3, .data⟩ (by simp) rfl), (hp ⟨8, .data⟩ (by simp) rfl)⟩, C6⟩)
                            refine VSteps.cons rfl (fun x L s wx K kn hL hp hI hK => ?_) ?_
                            · have e89 : x[89]? = some (.pointer (some ⟨ga, oa + p, none⟩)) := kn.got 9 89 (hp ⟨9, .data⟩ (by simp) rfl) rfl
                              refine want_ rfl ?_
                              obtain ⟨BW, AL, AP, ST, C1, C2, C3, C4, C5, C6⟩ := hI
                              have n12 : L 12 = false := by
                                cases h : L 12 with
                                | false => rfl
                                | true => have z := C2 h; simp [hL] at z
                              have n14 : L 14 = false := by
                                cases h : L 14 with
                                | false => rfl
                                | true => rw [C1 h] at n12; cases n12
                              have cA := ((BW n12).cell (lt_of_cell cp)).trans cp
                              exact valw_ (v := .int .i64 lq) (w' := wx) (by simp [go_sem, execOp, evr_, e89, cA]) (hK.out s _ (fun _ _ => rfl) ⟨BW, AL, AP, ST, C1, fun h => absurd h (by simp [YInv.up, n12]), fun _ => rfl, fun _ => (hp ⟨9, .data⟩ (by simp) rfl), C5, C6⟩)
                            refine VSteps.cons rfl (fun x L s wx K kn hL hp hI hK => ?_) ?_
                            · have e90 : x[90]? = some (.int .i64 lq) := kn.got 10 90 (hp ⟨10, .data⟩ (by simp) rfl) rfl
                              refine want_ rfl ?_
                              obtain ⟨BW, AL, AP, ST, C1, C2, C3, C4, C5, C6⟩ := hI
                              have n12 : L 12 = false := by
                                cases h : L 12 with
                                | false => rfl
                                | true => have z := C2 h; simp [hL] at z
                              have n14 : L 14 = false := by
                                cases h : L 14 with
                                | false => rfl
                                | true => rw [C1 h] at n12; cases n12
                              exact valw_ (v := .slice (some ⟨wx.heap.size, 0, none⟩) 1 1) (w' := wx.alloc (.cells #[.int .i64 lq] 2)) (by simp [go_sem, execOp, evr_, e90]) (hK.out (updv s 11 (.slice (some ⟨wx.heap.size, 0, none⟩) 1 1)) _ (VQ_upd _ _ _ hL) ⟨fun h => bb (BW n12) ((Below.refl _ _).alloc (Nat.le_refl _) _), fun _ => ⟨wx.heap.size, rfl, fun _ => Blk.new _ _ _⟩, fun h => absurd h (by simp [YInv.up, n12]), fun h => absurd h (by simp [YInv.up, n14]), C1, fun h => absurd h (by simp [YInv.up, n12]), fun _ => (hp ⟨10, .data⟩ (by simp) rfl), C4, C5, C6⟩)
                            refine VSteps.cons rfl (fun x L s wx K kn hL hp hI hK => ?_) ?_
                            · have e81 : x[81]? = some (.slice Ao cu.length co) := kn.got 1 81 (hp ⟨1, .data⟩ (by simp) rfl) rfl
                              have e91 : x[91]? = some (s 11) := kn.got 11 91 (hp ⟨11, .data⟩ (by simp) rfl) rfl
                              refine want_ rfl ?_
                              obtain ⟨BW, AL, AP, ST, C1, C2, C3, C4, C5, C6⟩ := hI
                              have n14 : L 14 = false := by
                                cases h : L 14 with
                                | false => rfl
                                | true => rw [C1 h] at hL; cases hL
                              obtain ⟨gl, hgl, hkl⟩ := AL (hp ⟨11, .data⟩ (by simp) rfl)
                              have kl := hkl hL
                              rw [hgl] at e91
                              have owx := OwnI.keep HOW.out (BW hL)
                              refine oper_append_i (.tmp 81) (.tmp 91) rfl (w.heap.size + 2) (.slice Ao cu.length co) cu.length (cu.map (Value.int .i64)) (ev_ e81) owx (L := [lq]) (c := 1) (ev_ e91) (Rd.blk (l := [lq]) kl) (by simp; omega) (by have := (BW hL).size; omega) (fun v' w' own4 gr => ?_)
                              obtain ⟨A', c', rfl⟩ := own_sl own4
                              have C2a : L 1 = true ∧ L 3 = true ∧ L 5 = true ∧ L 8 = true ∧ L 10 = true ∧ L 11 = true := ⟨(hp ⟨1, .data⟩ (by simp) rfl), (C5 (C4 (C3 (hp ⟨11, .data⟩ (by simp) rfl)))).1, C6 (C5 (C4 (C3 (hp ⟨11, .data⟩ (by simp) rfl)))).2, (C5 (C4 (C3 (hp ⟨11, .data⟩ (by simp) rfl)))).2, C3 (hp ⟨11, .data⟩ (by simp) rfl), (hp ⟨11, .data⟩ (by simp) rfl)⟩
                              exact hK.out (updv s 12 (.slice A' (cu.length + 1) c')) _ (VQ_upd _ _ _ hL) ⟨fun h => absurd h (by simp [YInv.up]), fun h => ⟨gl, hgl, fun k => absurd k (by simp [YInv.up])⟩, fun _ _ => ⟨A', c', rfl, by simpa [OwnI] using own4, wx, BW hL, gr⟩, fun h => absurd h (by simp [YInv.up, n14]), fun _ => by simp [YInv.up], fun _ => ⟨C2a.1, C2a.2.1, C2a.2.2.1, C2a.2.2.2.1, C2a.2.2.2.2.1, C2a.2.2.2.2.2⟩, C3, C4, C5, C6⟩
                            refine VSteps.cons rfl (fun x L s wx K kn hL hp hI hK => ?_) ?_
                            · have e9 : x[9]? = some (.pointer (some ⟨g9, 0, none⟩)) := (kn.old 9 (by kernel_rfl)).trans rfl
                              refine want_ rfl ?_
                              obtain ⟨BW, AL, AP, ST, C1, C2, C3, C4, C5, C6⟩ := hI
                              exact val_ (v := .pointer (some ⟨g9, 1, none⟩)) (by simp [go_sem, execOp, evr_, e9, addr_add]) (hK.out s _ (fun _ _ => rfl) ⟨BW, AL, AP, ST, C1, C2, C3, C4, C5, C6⟩)
                            refine VSteps.cons rfl (fun x L s wx K kn hL hp hI hK => ?_) ?_
                            · have e93 : x[93]? = some (.pointer (some ⟨g9, 1, none⟩)) := kn.got 13 93 (hp ⟨13, .data⟩ (by simp) rfl) rfl
                              have e92 : x[92]? = some (s 12) := kn.got 12 92 (hp ⟨12, .data⟩ (by simp) rfl) rfl
                              refine want_ rfl ?_
                              obtain ⟨BW, AL, AP, ST, C1, C2, C3, C4, C5, C6⟩ := hI
                              obtain ⟨A', c', h12, own4, wy, By, gr⟩ := AP (hp ⟨12, .data⟩ (by simp) rfl) hL
                              rw [h12] at e92
                              have DY := HDI.out.keep By
                              have K9 := Blk.grown DY.k9 gr (DY.nb DY.k9)
                              have v0 := (K9.cell 1).trans (show _ = some (.slice Ao cu.length co) from rfl)
                              have v1 := K9.free 1
                              have DF := DY.app own4 gr
                              simp only [List.length_append, List.length_cons, List.length_nil, Nat.zero_add] at DF
                              exact skipw_ (w' := wx.setCell ⟨g9, 1, none⟩ (.slice A' (cu.length + 1) c')) (by simp [go_sem, execOp, evr_, e93, e92, v0, v1]) (hK.out s _ (fun _ _ => rfl) ⟨fun h => absurd (hp ⟨12, .data⟩ (by simp) rfl) (by have h' : L 12 = false := h; simp [h']), fun h => (AL h).imp fun gl z => ⟨z.1, fun k => absurd (hp ⟨12, .data⟩ (by simp) rfl) (by have h' : L 12 = false := k; simp [h'])⟩, fun _ h => absurd h (by simp [YInv.up]), fun _ => ⟨A', c', DF⟩, fun _ => (hp ⟨12, .data⟩ (by simp) rfl), C2, C3, C4, C5, C6⟩)
                            exact VSteps.nil
                          intro s wx hI
                          simp only [puts, VQ, List.getD_cons_zero, List.getD_cons_succ, List.set_cons_zero, List.set_cons_succ]
                          obtain ⟨BW, AL, AP, ST, C1, C2, C3, C4, C5, C6⟩ := hI
                          obtain ⟨A', c', DF⟩ := ST rfl
                          clear BW AL AP ST C1 C2 C3 C4 C5 C6
                          have HDF := Lib.hid DF
                          clear DF HDI HOW NB0 NB9 NBa q0 q1 u1 f1 cp P1
                          try clear e3 n3
                          try clear e4 n4
                          try clear e5 n5
                          try clear e6 n6
                          go_wp2_with fail
                          exact ⟨⟨j + 1, A', c', by omega, by omega, by go_num, by rw [HCV.out, HNX.out]; exact HDF.out⟩, by simp [intOf]; omega⟩
                        ·
                          refine region_vals (σ := Nat → Value) [some 80, some 81, some 82, some 83, some 84, some 85, some 86, some 87, some 88, some 89, some 90, some 91, some 92, some 93, none] (VQ [some (.pointer (some ⟨g9, 1, none⟩)), some (.slice Ao cu.length co), some (.pointer (some ⟨w.heap.size, 1, none⟩)), some (.slice (some ⟨ga, oa, none⟩) l.length c), some (.pointer (some ⟨w.heap.size, 0, none⟩)), some (.int .i64 (m : Int)), some (.int .i64 (r : Int)), some (.int .i64 (j : Int)), some (.int .i64 (p : Int)), some (.pointer (some ⟨ga, oa + p, none⟩)), some (.int .i64 lq), none, none, some (.pointer (some ⟨g9, 1, none⟩)), some (undef)]) (fun L s wx => (L 12 = false → Below wr.heap.size wr wx) ∧ (L 11 = true → ∃ gl, s 11 = .slice (some ⟨gl, 0, none⟩) 1 1 ∧ (L 12 = false → Blk wx gl #[.int .i64 lq] 2)) ∧ (L 12 = true → L 14 = false → ∃ A' c', s 12 = .slice A' (cu.length + 1) c' ∧ OwnI wx (w.heap.size + 2) A' c' (cu ++ [lq]) ∧ ∃ wy, Below wr.heap.size wr wy ∧ wy.grownBy wx (Value.slice Ao cu.length co).ownBlock) ∧ (L 14 = true → ∃ A' c', DIn w wx g9 m i k l (some ⟨ga, oa, none⟩) c A' c' (cu ++ [lq])) ∧ (L 14 = true → L 12 = true) ∧ (L 12 = true → L 1 = true ∧ L 3 = true ∧ L 5 = true ∧ L 8 = true ∧ L 10 = true ∧ L 11 = true) ∧ (L 11 = true → L 10 = true) ∧ (L 10 = true → L 9 = true) ∧ (L 9 = true → L 3 = true ∧ L 8 = true) ∧ (L 8 = true → L 5 = true)) (fun _ => undef) [0, 1, 2, 3, 4, 5, 6, 7, 8, 9, 10, 11, 12, 13, 14] _ _ rfl (by kernel_rfl) (by kernel_rfl) (by kernel_rfl) (by kernel_rfl) (by kernel_rfl) ⟨fun _ => (Below.refl _ _).drew, fun h => absurd h (by decide), fun h => absurd h (by decide), fun h => absurd h (by decide), fun h => absurd h (by decide), fun h => absurd h (by decide), fun h => absurd h (by decide), fun h => absurd h (by decide), fun h => absurd h (by decide), fun h => absurd h (by decide)⟩ ?stepsD2 ?finD2 (fun L L' s wx e h => by rw [e 1 (by decide), e 3 (by decide), e 5 (by decide), e 8 (by decide), e 9 (by decide), e 10 (by decide), e 11 (by decide), e 12 (by decide), e 14 (by decide)] at h; exact h)
                          case stepsD2 =>
                            refine VSteps.cons rfl (fun x L s wx K kn hL hp hI hK => ?_) ?_
                            · have e9 : x[9]? = some (.pointer (some ⟨g9, 0, none⟩)) := (kn.old 9 (by kernel_rfl)).trans rfl
                              refine want_ rfl ?_
                              obtain ⟨BW, AL, AP, ST, C1, C2, C3, C4, C5, C6⟩ := hI
                              exact val_ (v := .pointer (some ⟨g9, 1, none⟩)) (by simp [go_sem, execOp, evr_, e9, addr_add]) (hK.out s _ (fun _ _ => rfl) ⟨BW, AL, AP, ST, C1, C2, C3, C4, C5, C6⟩)
                            refine VSteps.cons rfl (fun x L s wx K kn hL hp hI hK => ?_) ?_
                            · have e80 : x[80]? = some (.pointer (some ⟨g9, 1, none⟩)) := kn.got 0 80 (hp ⟨0, .data⟩ (by simp) rfl) rfl
                              refine want_ rfl ?_
                              obtain ⟨BW, AL, AP, ST, C1, C2, C3, C4, C5, C6⟩ := hI
                              have n12 : L 12 = false := by
                                cases h : L 12 with
                                | false => rfl
                                | true => have z := C2 h; simp [hL] at z
                              have n14 : L 14 = false := by
                                cases h : L 14 with
                                | false => rfl
                                | true => rw [C1 h] at n12; cases n12
                              have cA := ((BW n12).cell (lt_of_cell u1)).trans u1
                              exact valw_ (v := .slice Ao cu.length co) (w' := wx) (by simp [go_sem, execOp, evr_, e80, cA]) (hK.out s _ (fun _ _ => rfl) ⟨BW, AL, AP, ST, C1, fun h => absurd h (by simp [YInv.up, n12]), C3, C4, C5, C6⟩)
                            refine VSteps.cons rfl (fun x L s wx K kn hL hp hI hK => ?_) ?_
                            · have e3 : x[3]? = some (.pointer (some ⟨w.heap.size, 0, none⟩)) := (kn.old 3 (by kernel_rfl)).trans rfl
                              refine want_ rfl ?_
                              obtain ⟨BW, AL, AP, ST, C1, C2, C3, C4, C5, C6⟩ := hI
                              exact val_ (v := .pointer (some ⟨w.heap.size, 1, none⟩)) (by simp [go_sem, execOp, evr_, e3, addr_add]) (hK.out s _ (fun _ _ => rfl) ⟨BW, AL, AP, ST, C1, C2, C3, C4, C5, C6⟩)
                            refine VSteps.cons rfl (fun x L s wx K kn hL hp hI hK => ?_) ?_
                            · have e82 : x[82]? = some (.pointer (some ⟨w.heap.size, 1, none⟩)) := kn.got 2 82 (hp ⟨2, .data⟩ (by simp) rfl) rfl
                              refine want_ rfl ?_
                              obtain ⟨BW, AL, AP, ST, C1, C2, C3, C4, C5, C6⟩ := hI
                              have n12 : L 12 = false := by
                                cases h : L 12 with
                                | false => rfl
                                | true => have z := C2 h; simp [hL] at z
                              have n14 : L 14 = false := by
                                cases h : L 14 with
                                | false => rfl
                                | true => rw [C1 h] at n12; cases n12
                              have cA := ((BW n12).cell (lt_of_cell q1)).trans q1
                              exact valw_ (v := .slice (some ⟨ga, oa, none⟩) l.length c) (w' := wx) (by simp [go_sem, execOp, evr_, e82, cA]) (hK.out s _ (fun _ _ => rfl) ⟨BW, AL, AP, ST, C1, fun h => absurd h (by simp [YInv.up, n12]), C3, C4, fun h => ⟨rfl, (C5 h).2⟩, C6⟩)
                            refine VSteps.cons rfl (fun x L s wx K kn hL hp hI hK => ?_) ?_
                            · have e3 : x[3]? = some (.pointer (some ⟨w.heap.size, 0, none⟩)) := (kn.old 3 (by kernel_rfl)).trans rfl
                              refine want_ rfl ?_
                              obtain ⟨BW, AL, AP, ST, C1, C2, C3, C4, C5, C6⟩ := hI
                              exact val_ (v := .pointer (some ⟨w.heap.size, 0, none⟩)) (by simp [go_sem, execOp, evr_, e3]) (hK.out s _ (fun _ _ => rfl) ⟨BW, AL, AP, ST, C1, C2, C3, C4, C5, C6⟩)
                            refine VSteps.cons rfl (fun x L s wx K kn hL hp hI hK => ?_) ?_
                            · have e84 : x[84]? = some (.pointer (some ⟨w.heap.size, 0, none⟩)) := kn.got 4 84 (hp ⟨4, .data⟩ (by simp) rfl) rfl
                              refine want_ rfl ?_
                              obtain ⟨BW, AL, AP, ST, C1, C2, C3, C4, C5, C6⟩ := hI
                              have n12 : L 12 = false := by
                                cases h : L 12 with
                                | false => rfl
                                | true => have z := C2 h; simp [hL] at z
                              have n14 : L 14 = false := by
                                cases h : L 14 with
                                | false => rfl
                                | true => rw [C1 h] at n12; cases n12
                              have cA := ((BW n12).cell (lt_of_cell q0)).trans q0
                              exact valw_ (v := .int .i64 (m : Int)) (w' := wx) (by simp [go_sem, execOp, evr_, e84, cA]) (hK.out s _ (fun _ _ => rfl) ⟨BW, AL, AP, ST, C1, fun h => absurd h (by simp [YInv.up, n12]), C3, C4, C5, fun _ => rfl⟩)
                            refine VSteps.cons rfl (fun x L s wx K kn hL hp hI hK => ?_) ?_
                            · have e10 : x[10]? = some (.int .i64 (r : Int)) := (kn.old 10 (by kernel_rfl)).trans rfl
                              refine want_ rfl ?_
                              obtain ⟨BW, AL, AP, ST, C1, C2, C3, C4, C5, C6⟩ := hI
                              exact val_ (v := .int .i64 (r : Int)) (by simp [go_sem, execOp, evr_, e10]) (hK.out s _ (fun _ _ => rfl) ⟨BW, AL, AP, ST, C1, C2, C3, C4, C5, C6⟩)
                            refine VSteps.cons rfl (fun x L s wx K kn hL hp hI hK => ?_) ?_
                            · have e11 : x[11]? = some (.int .i64 (j : Int)) := (kn.old 11 (by kernel_rfl)).trans rfl
                              refine want_ rfl ?_
                              obtain ⟨BW, AL, AP, ST, C1, C2, C3, C4, C5, C6⟩ := hI
                              exact val_ (v := .int .i64 (j : Int)) (by simp [go_sem, execOp, evr_, e11]) (hK.out s _ (fun _ _ => rfl) ⟨BW, AL, AP, ST, C1, C2, C3, C4, C5, C6⟩)
                            refine VSteps.cons rfl (fun x L s wx K kn hL hp hI hK => ?_) ?_
                            · have e85 : x[85]? = some (.int .i64 (m : Int)) := kn.got 5 85 (hp ⟨5, .data⟩ (by simp) rfl) rfl
                              have e86 : x[86]? = some (.int .i64 (r : Int)) := kn.got 6 86 (hp ⟨6, .data⟩ (by simp) rfl) rfl
                              have e87 : x[87]? = some (.int .i64 (j : Int)) := kn.got 7 87 (hp ⟨7, .data⟩ (by simp) rfl) rfl
                              refine want_ rfl ?_
                              obtain ⟨BW, AL, AP, ST, C1, C2, C3, C4, C5, C6⟩ := hI
                              have n12 : L 12 = false := by
                                cases h : L 12 with
                                | false => rfl
                                | true => have z := C2 h; simp [hL] at z
                              have n14 : L 14 = false := by
                                cases h : L 14 with
                                | false => rfl
                                | true => rw [C1 h] at n12; cases n12
                              refine goesK_ Tryd.func37 (by kernel_rfl) rfl #[.int .i64 (m : Int), .int .i64 (r : Int), .int .i64 (j : Int)] rfl (by simp only [List.map_toArray, List.map_cons, List.map_nil, evr_, ev_ e85, ev_ e86, ev_ e87]) ((P1 _).mono ?_)
                              rintro e w' ⟨rfl, n8, rfl⟩
                              exact ⟨_, rfl, hK.out s _ (fun _ _ => rfl) ⟨fun h => below_drewN (BW h) n8, fun h => (AL h).imp fun gl z => ⟨z.1, fun k => Blk.drewN (z.2 k) n8⟩, fun h => absurd h (by simp [YInv.up, n12]), fun h => absurd h (by simp [YInv.up, n14]), C1, fun h => absurd h (by simp [YInv.up, n12]), C3, C4, fun h => ⟨(C5 h).1, rfl⟩, fun _ => (hp ⟨5, .data⟩ (by simp) rfl)⟩⟩
                            refine VSteps.cons rfl (fun x L s wx K kn hL hp hI hK => ?_) ?_
                            · have e83 : x[83]? = some (.slice (some ⟨ga, oa, none⟩) l.length c) := kn.got 3 83 (hp ⟨3, .data⟩ (by simp) rfl) rfl
                              have e88 : x[88]? = some (.int .i64 (p : Int)) := kn.got 8 88 (hp ⟨8, .data⟩ (by simp) rfl) rfl
                              refine want_ rfl ?_
                              obtain ⟨BW, AL, AP, ST, C1, C2, C3, C4, C5, C6⟩ := hI
                              exact val_ (v := .pointer (some ⟨ga, oa + p, none⟩)) (by simp [go_sem, execOp, evr_, e83, e88, p0, p1, addr_add]) (hK.out s _ (fun _ _ => rfl) ⟨BW, AL, AP, ST, C1, C2, C3, fun _ => rfl, fun _ => ⟨(hp ⟨3, .data⟩ (by simp) rfl), (hp ⟨8, .data⟩ (by simp) rfl)⟩, C6⟩)
                            refine VSteps.cons rfl (fun x L s wx K kn hL hp hI hK => ?_) ?_
                            · have e89 : x[89]? = some (.pointer (some ⟨ga, oa + p, none⟩)) := kn.got 9 89 (hp ⟨9, .data⟩ (by simp) rfl) rfl
                              refine want_ rfl ?_
                              obtain ⟨BW, AL, AP, ST, C1, C2, C3, C4, C5, C6⟩ := hI
                              have n12 : L 12 = false := by
                                cases h : L 12 with
                                | false => rfl
                                | true => have z := C2 h; simp [hL] at z
                              have n14 : L 14 = false := by
                                cases h : L 14 with
                                | false => rfl
                                | true => rw [C1 h] at n12; cases n12
                              have cA := ((BW n12).cell (lt_of_cell cp)).trans cp
                              exact valw_ (v := .int .i64 lq) (w' := wx) (by simp [go_sem, execOp, evr_, e89, cA]) (hK.out s _ (fun _ _ => rfl) ⟨BW, AL, AP, ST, C1, fun h => absurd h (by simp [YInv.up, n12]), fun _ => rfl, fun _ => (hp ⟨9, .data⟩ (by simp) rfl), C5, C6⟩)
                            refine VSteps.cons rfl (fun x L s wx K kn hL hp hI hK => ?_) ?_
                            · have e90 : x[90]? = some (.int .i64 lq) := kn.got 10 90 (hp ⟨10, .data⟩ (by simp) rfl) rfl
                              refine want_ rfl ?_
                              obtain ⟨BW, AL, AP, ST, C1, C2, C3, C4, C5, C6⟩ := hI
                              have n12 : L 12 = false := by
                                cases h : L 12 with
                                | false => rfl
                                | true => have z := C2 h; simp [hL] at z
                              have n14 : L 14 = false := by
                                cases h : L 14 with
                                | false => rfl
                                | true => rw [C1 h] at n12; cases n12
                              exact valw_ (v := .slice (some ⟨wx.heap.size, 0, none⟩) 1 1) (w' := wx.alloc (.cells #[.int .i64 lq] 2)) (by simp [go_sem, execOp, evr_, e90]) (hK.out (updv s 11 (.slice (some ⟨wx.heap.size, 0, none⟩) 1 1)) _ (VQ_upd _ _ _ hL) ⟨fun h => bb (BW n12) ((Below.refl _ _).alloc (Nat.le_refl _) _), fun _ => ⟨wx.heap.size, rfl, fun _ => Blk.new _ _ _⟩, fun h => absurd h (by simp [YInv.up, n12]), fun h => absurd h (by simp [YInv.up, n14]), C1, fun h => absurd h (by simp [YInv.up, n12]), fun _ => (hp ⟨10, .data⟩ (by simp) rfl), C4, C5, C6⟩)
                            refine VSteps.cons rfl (fun x L s wx K kn hL hp hI hK => ?_) ?_
                            · have e81 : x[81]? = some (.slice Ao cu.length co) := kn.got 1 81 (hp ⟨1, .data⟩ (by simp) rfl) rfl
                              have e91 : x[91]? = some (s 11) := kn.got 11 91 (hp ⟨11, .data⟩ (by simp) rfl) rfl
                              refine want_ rfl ?_
                              obtain ⟨BW, AL, AP, ST, C1, C2, C3, C4, C5, C6⟩ := hI
                              have n14 : L 14 = false := by
                                cases h : L 14 with
                                | false => rfl
                                | true => rw [C1 h] at hL; cases hL
                              obtain ⟨gl, hgl, hkl⟩ := AL (hp ⟨11, .data⟩ (by simp) rfl)
                              have kl := hkl hL
                              rw [hgl] at e91
                              have owx := OwnI.keep HOW.out (BW hL)
                              refine oper_append_i (.tmp 81) (.tmp 91) rfl (w.heap.size + 2) (.slice Ao cu.length co) cu.length (cu.map (Value.int .i64)) (ev_ e81) owx (L := [lq]) (c := 1) (ev_ e91) (Rd.blk (l := [lq]) kl) (by simp; omega) (by have := (BW hL).size; omega) (fun v' w' own4 gr => ?_)
                              obtain ⟨A', c', rfl⟩ := own_sl own4
                              have C2a : L 1 = true ∧ L 3 = true ∧ L 5 = true ∧ L 8 = true ∧ L 10 = true ∧ L 11 = true := ⟨(hp ⟨1, .data⟩ (by simp) rfl), (C5 (C4 (C3 (hp ⟨11, .data⟩ (by simp) rfl)))).1, C6 (C5 (C4 (C3 (hp ⟨11, .data⟩ (by simp) rfl)))).2, (C5 (C4 (C3 (hp ⟨11, .data⟩ (by simp) rfl)))).2, C3 (hp ⟨11, .data⟩ (by simp) rfl), (hp ⟨11, .data⟩ (by simp) rfl)⟩
                              exact hK.out (updv s 12 (.slice A' (cu.length + 1) c')) _ (VQ_upd _ _ _ hL) ⟨fun h => absurd h (by simp [YInv.up]), fun h => ⟨gl, hgl, fun k => absurd k (by simp [YInv.up])⟩, fun _ _ => ⟨A', c', rfl, by simpa [OwnI] using own4, wx, BW hL, gr⟩, fun h => absurd h (by simp [YInv.up, n14]), fun _ => by simp [YInv.up], fun _ => ⟨C2a.1, C2a.2.1, C2a.2.2.1, C2a.2.2.2.1, C2a.2.2.2.2.1, C2a.2.2.2.2.2⟩, C3, C4, C5, C6⟩
                            refine VSteps.cons rfl (fun x L s wx K kn hL hp hI hK => ?_) ?_
                            · have e9 : x[9]? = some (.pointer (some ⟨g9, 0, none⟩)) := (kn.old 9 (by kernel_rfl)).trans rfl
                              refine want_ rfl ?_
                              obtain ⟨BW, AL, AP, ST, C1, C2, C3, C4, C5, C6⟩ := hI
                              exact val_ (v := .pointer (some ⟨g9, 1, none⟩)) (by simp [go_sem, execOp, evr_, e9, addr_add]) (hK.out s _ (fun _ _ => rfl) ⟨BW, AL, AP, ST, C1, C2, C3, C4, C5, C6⟩)
                            refine VSteps.cons rfl (fun x L s wx K kn hL hp hI hK => ?_) ?_
                            · have e93 : x[93]? = some (.pointer (some ⟨g9, 1, none⟩)) := kn.got 13 93 (hp ⟨13, .data⟩ (by simp) rfl) rfl
                              have e92 : x[92]? = some (s 12) := kn.got 12 92 (hp ⟨12, .data⟩ (by simp) rfl) rfl
                              refine want_ rfl ?_
                              obtain ⟨BW, AL, AP, ST, C1, C2, C3, C4, C5, C6⟩ := hI
                              obtain ⟨A', c', h12, own4, wy, By, gr⟩ := AP (hp ⟨12, .data⟩ (by simp) rfl) hL
                              rw [h12] at e92
                              have DY := HDI.out.keep By
                              have K9 := Blk.grown DY.k9 gr (DY.nb DY.k9)
                              have v0 := (K9.cell 1).trans (show _ = some (.slice Ao cu.length co) from rfl)
                              have v1 := K9.free 1
                              have DF := DY.app own4 gr
                              simp only [List.length_append, List.length_cons, List.length_nil, Nat.zero_add] at DF
                              exact skipw_ (w' := wx.setCell ⟨g9, 1, none⟩ (.slice A' (cu.length + 1) c')) (by simp [go_sem, execOp, evr_, e93, e92, v0, v1]) (hK.out s _ (fun _ _ => rfl) ⟨fun h => absurd (hp ⟨12, .data⟩ (by simp) rfl) (by have h' : L 12 = false := h; simp [h']), fun h => (AL h).imp fun gl z => ⟨z.1, fun k => absurd (hp ⟨12, .data⟩ (by simp) rfl) (by have h' : L 12 = false := k; simp [h'])⟩, fun _ h => absurd h (by simp [YInv.up]), fun _ => ⟨A', c', DF⟩, fun _ => (hp ⟨12, .data⟩ (by simp) rfl), C2, C3, C4, C5, C6⟩)
                            exact VSteps.nil
                          intro s wx hI
                          simp only [puts, VQ, List.getD_cons_zero, List.getD_cons_succ, List.set_cons_zero, List.set_cons_succ]
                          obtain ⟨BW, AL, AP, ST, C1, C2, C3, C4, C5, C6⟩ := hI
                          obtain ⟨A', c', DF⟩ := ST rfl
                          clear BW AL AP ST C1 C2 C3 C4 C5 C6
                          have HDF := Lib.hid DF
                          clear DF HDI HOW NB0 NB9 NBa q0 q1 u1 f1 cp P1
                          try clear e3 n3
                          try clear e4 n4
                          try clear e5 n5
                          try clear e6 n6
                          go_wp2_with fail
                          exact ⟨⟨j + 1, A', c', by omega, by omega, by go_num, by rw [HCV.out, HNX.out]; exact HDF.out⟩, by simp [intOf]; omega⟩
                        ·
                          refine region_vals (σ := Nat → Value) [some 80, some 81, some 82, some 83, some 84, some 85, some 86, some 87, some 88, some 89, some 90, some 91, some 92, some 93, none] (VQ [some (.pointer (some ⟨g9, 1, none⟩)), some (.slice Ao cu.length co), some (.pointer (some ⟨w.heap.size, 1, none⟩)), some (.slice (some ⟨ga, oa, none⟩) l.length c), some (.pointer (some ⟨w.heap.size, 0, none⟩)), some (.int .i64 (m : Int)), some (.int .i64 (r : Int)), some (.int .i64 (j : Int)), some (.int .i64 (p : Int)), some (.pointer (some ⟨ga, oa + p, none⟩)), some (.int .i64 lq), none, none, some (.pointer (some ⟨g9, 1, none⟩)), some (undef)]) (fun L s wx => (L 12 = false → Below wr.heap.size wr wx) ∧ (L 11 = true → ∃ gl, s 11 = .slice (some ⟨gl, 0, none⟩) 1 1 ∧ (L 12 = false → Blk wx gl #[.int .i64 lq] 2)) ∧ (L 12 = true → L 14 = false → ∃ A' c', s 12 = .slice A' (cu.length + 1) c' ∧ OwnI wx (w.heap.size + 2) A' c' (cu ++ [lq]) ∧ ∃ wy, Below wr.heap.size wr wy ∧ wy.grownBy wx (Value.slice Ao cu.length co).ownBlock) ∧ (L 14 = true → ∃ A' c', DIn w wx g9 m i k l (some ⟨ga, oa, none⟩) c A' c' (cu ++ [lq])) ∧ (L 14 = true → L 12 = true) ∧ (L 12 = true → L 1 = true ∧ L 3 = true ∧ L 5 = true ∧ L 8 = true ∧ L 10 = true ∧ L 11 = true) ∧ (L 11 = true → L 10 = true) ∧ (L 10 = true → L 9 = true) ∧ (L 9 = true → L 3 = true ∧ L 8 = true) ∧ (L 8 = true → L 5 = true)) (fun _ => undef) [0, 1, 2, 3, 4, 5, 6, 7, 8, 9, 10, 11, 12, 13, 14] _ _ rfl (by kernel_rfl) (by kernel_rfl) (by kernel_rfl) (by kernel_rfl) (by kernel_rfl) ⟨fun _ => (Below.refl _ _).drew, fun h => absurd h (by decide), fun h => absurd h (by decide), fun h => absurd h (by decide), fun h => absurd h (by decide), fun h => absurd h (by decide), fun h => absurd h (by decide), fun h => absurd h (by decide), fun h => absurd h (by decide), fun h => absurd h (by decide)⟩ ?stepsD3 ?finD3 (fun L L' s wx e h => by rw [e 1 (by decide), e 3 (by decide), e 5 (by decide), e 8 (by decide), e 9 (by decide), e 10 (by decide), e 11 (by decide), e 12 (by decide), e 14 (by decide)] at h; exact h)
                          case stepsD3 =>
                            refine VSteps.cons rfl (fun x L s wx K kn hL hp hI hK => ?_) ?_
                            · have e9 : x[9]? = some (.pointer (some ⟨g9, 0, none⟩)) := (kn.old 9 (by kernel_rfl)).trans rfl
                              refine want_ rfl ?_
                              obtain ⟨BW, AL, AP, ST, C1, C2, C3, C4, C5, C6⟩ := hI
                              exact val_ (v := .pointer (some ⟨g9, 1, none⟩)) (by simp [go_sem, execOp, evr_, e9, addr_add]) (hK.out s _ (fun _ _ => rfl) ⟨BW, AL, AP, ST, C1, C2, C3, C4, C5, C6⟩)
                            refine VSteps.cons rfl (fun x L s wx K kn hL hp hI hK => ?_) ?_
                            · have e80 : x[80]? = some (.pointer (some ⟨g9, 1, none⟩)) := kn.got 0 80 (hp ⟨0, .data⟩ (by simp) rfl) rfl
                              refine want_ rfl ?_
                              obtain ⟨BW, AL, AP, ST, C1, C2, C3, C4, C5, C6⟩ := hI
                              have n12 : L 12 = false := by
                                cases h : L 12 with
                                | false => rfl
                                | true => have z := C2 h; simp [hL] at z
                              have n14 : L 14 = false := by
                                cases h : L 14 with
                                | false => rfl
                                | true => rw [C1 h] at n12; cases n12
                              have cA := ((BW n12).cell (lt_of_cell u1)).trans u1
                              exact valw_ (v := .slice Ao cu.length co) (w' := wx) (by simp [go_sem, execOp, evr_, e80, cA]) (hK.out s _ (fun _ _ => rfl) ⟨BW, AL, AP, ST, C1, fun h => absurd h (by simp [YInv.up, n12]), C3, C4, C5, C6⟩)
                            refine VSteps.cons rfl (fun x L s wx K kn hL hp hI hK => ?_) ?_
                            · have e3 : x[3]? = some (.pointer (some ⟨w.heap.size, 0, none⟩)) := (kn.old 3 (by kernel_rfl)).trans rfl
                              refine want_ rfl ?_
                              obtain ⟨BW, AL, AP, ST, C1, C2, C3, C4, C5, C6⟩ := hI
                              exact val_ (v := .pointer (some ⟨w.heap.size, 1, none⟩)) (by simp [go_sem, execOp, evr_, e3, addr_add]) (hK.out s _ (fun _ _ => rfl) ⟨BW, AL, AP, ST, C1, C2, C3, C4, C5, C6⟩)
                            refine VSteps.cons rfl (fun x L s wx K kn hL hp hI hK => ?_) ?_
                            · have e82 : x[82]? = some (.pointer (some ⟨w.heap.size, 1, none⟩)) := kn.got 2 82 (hp ⟨2, .data⟩ (by simp) rfl) rfl
                              refine want_ rfl ?_
                              obtain ⟨BW, AL, AP, ST, C1, C2, C3, C4, C5, C6⟩ := hI
                              have n12 : L 12 = false := by
                                cases h : L 12 with
                                | false => rfl
                                | true => have z := C2 h; simp [hL] at z
                              have n14 : L 14 = false := by
                                cases h : L 14 with
                                | false => rfl
                                | true => rw [C1 h] at n12; cases n12
                              have cA := ((BW n12).cell (lt_of_cell q1)).trans q1
                              exact valw_ (v := .slice (some ⟨ga, oa, none⟩) l.length c) (w' := wx) (by simp [go_sem, execOp, evr_, e82, cA]) (hK.out s _ (fun _ _ => rfl) ⟨BW, AL, AP, ST, C1, fun h => absurd h (by simp [YInv.up, n12]), C3, C4, fun h => ⟨rfl, (C5 h).2⟩, C6⟩)
                            refine VSteps.cons rfl (fun x L s wx K kn hL hp hI hK => ?_) ?_
                            · have e3 : x[3]? = some (.pointer (some ⟨w.heap.size, 0, none⟩)) := (kn.old 3 (by kernel_rfl)).trans rfl
                              refine want_ rfl ?_
                              obtain ⟨BW, AL, AP, ST, C1, C2, C3, C4, C5, C6⟩ := hI
                              exact val_ (v := .pointer (some ⟨w.heap.size, 0, none⟩)) (by simp [go_sem, execOp, evr_, e3]) (hK.out s _ (fun _ _ => rfl) ⟨BW, AL, AP, ST, C1, C2, C3, C4, C5, C6⟩)
                            refine VSteps.cons rfl (fun x L s wx K kn hL hp hI hK => ?_) ?_
                            · have e84 : x[84]? = some (.pointer (some ⟨w.heap.size, 0, none⟩)) := kn.got 4 84 (hp ⟨4, .data⟩ (by simp) rfl) rfl
                              refine want_ rfl ?_
                              obtain ⟨BW, AL, AP, ST, C1, C2, C3, C4, C5, C6⟩ := hI
                              have n12 : L 12 = false := by
                                cases h : L 12 with
                                | false => rfl
                                | true => have z := C2 h; simp [hL] at z
                              have n14 : L 14 = false := by
                                cases h : L 14 with
                                | false => rfl
                                | true => rw [C1 h] at n12; cases n12
                              have cA := ((BW n12).cell (lt_of_cell q0)).trans q0
                              exact valw_ (v := .int .i64 (m : Int)) (w' := wx) (by simp [go_sem, execOp, evr_, e84, cA]) (hK.out s _ (fun _ _ => rfl) ⟨BW, AL, AP, ST, C1, fun h => absurd h (by simp [YInv.up, n12]), C3, C4, C5, fun _ => rfl⟩)
                            refine VSteps.cons rfl (fun x L s wx K kn hL hp hI hK => ?_) ?_
                            · have e10 : x[10]? = some (.int .i64 (r : Int)) := (kn.old 10 (by kernel_rfl)).trans rfl
                              refine want_ rfl ?_
                              obtain ⟨BW, AL, AP, ST, C1, C2, C3, C4, C5, C6⟩ := hI
                              exact val_ (v := .int .i64 (r : Int)) (by simp [go_sem, execOp, evr_, e10]) (hK.out s _ (fun _ _ => rfl) ⟨BW, AL, AP, ST, C1, C2, C3, C4, C5, C6⟩)
                            refine VSteps.cons rfl (fun x L s wx K kn hL hp hI hK => ?_) ?_
                            · have e11 : x[11]? = some (.int .i64 (j : Int)) := (kn.old 11 (by kernel_rfl)).trans rfl
                              refine want_ rfl ?_
                              obtain ⟨BW, AL, AP, ST, C1, C2, C3, C4, C5, C6⟩ := hI
                              exact val_ (v := .int .i64 (j : Int)) (by simp [go_sem, execOp, evr_, e11]) (hK.out s _ (fun _ _ => rfl) ⟨BW, AL, AP, ST, C1, C2, C3, C4, C5, C6⟩)
                            refine VSteps.cons rfl (fun x L s wx K kn hL hp hI hK => ?_) ?_
                            · have e85 : x[85]? = some (.int .i64 (m : Int)) := kn.got 5 85 (hp ⟨5, .data⟩ (by simp) rfl) rfl
                              have e86 : x[86]? = some (.int .i64 (r : Int)) := kn.got 6 86 (hp ⟨6, .data⟩ (by simp) rfl) rfl
                              have e87 : x[87]? = some (.int .i64 (j : Int)) := kn.got 7 87 (hp ⟨7, .data⟩ (by simp) rfl) rfl
                              refine want_ rfl ?_
                              obtain ⟨BW, AL, AP, ST, C1, C2, C3, C4, C5, C6⟩ := hI
                              have n12 : L 12 = false := by
                                cases h : L 12 with
                                | false => rfl
                                | true => have z := C2 h; simp [hL] at z
                              have n14 : L 14 = false := by
                                cases h : L 14 with
                                | false => rfl
                                | true => rw [C1 h] at n12; cases n12
                              refine goesK_ Tryd.func37 (by kernel_rfl) rfl #[.int .i64 (m : Int), .int .i64 (r : Int), .int .i64 (j : Int)] rfl (by simp only [List.map_toArray, List.map_cons, List.map_nil, evr_, ev_ e85, ev_ e86, ev_ e87]) ((P1 _).mono ?_)
                              rintro e w' ⟨rfl, n8, rfl⟩
                              exact ⟨_, rfl, hK.out s _ (fun _ _ => rfl) ⟨fun h => below_drewN (BW h) n8, fun h => (AL h).imp fun gl z => ⟨z.1, fun k => Blk.drewN (z.2 k) n8⟩, fun h => absurd h (by simp [YInv.up, n12]), fun h => absurd h (by simp [YInv.up, n14]), C1, fun h => absurd h (by simp [YInv.up, n12]), C3, C4, fun h => ⟨(C5 h).1, rfl⟩, fun _ => (hp ⟨5, .data⟩ (by simp) rfl)⟩⟩
                            refine VSteps.cons rfl (fun x L s wx K kn hL hp hI hK => ?_) ?_
                            · have e83 : x[83]? = some (.slice (some ⟨ga, oa, none⟩) l.length c) := kn.got 3 83 (hp ⟨3, .data⟩ (by simp) rfl) rfl
                              have e88 : x[88]? = some (.int .i64 (p : Int)) := kn.got 8 88 (hp ⟨8, .data⟩ (by simp) rfl) rfl
                              refine want_ rfl ?_
                              obtain ⟨BW, AL, AP, ST, C1, C2, C3, C4, C5, C6⟩ := hI
                              exact val_ (v := .pointer (some ⟨ga, oa + p, none⟩)) (by simp [go_sem, execOp, evr_, e83, e88, p0, p1, addr_add]) (hK.out s _ (fun _ _ => rfl) ⟨BW, AL, AP, ST, C1, C2, C3, fun _ => rfl, fun _ => ⟨(hp ⟨3, .data⟩ (by simp) rfl), (hp ⟨8, .data⟩ (by simp) rfl)⟩, C6⟩)
                            refine VSteps.cons rfl (fun x L s wx K kn hL hp hI hK => ?_) ?_
                            · have e89 : x[89]? = some (.pointer (some ⟨ga, oa + p, none⟩)) := kn.got 9 89 (hp ⟨9, .data⟩ (by simp) rfl) rfl
                              refine want_ rfl ?_
                              obtain ⟨BW, AL, AP, ST, C1, C2, C3, C4, C5, C6⟩ := hI
                              have n12 : L 12 = false := by
                                cases h : L 12 with
                                | false => rfl
                                | true => have z := C2 h; simp [hL] at z
                              have n14 : L 14 = false := by
                                cases h : L 14 with
                                | false => rfl
                                | true => rw [C1 h] at n12; cases n12
                              have cA := ((BW n12).cell (lt_of_cell cp)).trans cp
                              exact valw_ (v := .int .i64 lq) (w' := wx) (by simp [go_sem, execOp, evr_, e89, cA]) (hK.out s _ (fun _ _ => rfl) ⟨BW, AL, AP, ST, C1, fun h => absurd h (by simp [YInv.up, n12]), fun _ => rfl, fun _ => (hp ⟨9, .data⟩ (by simp) rfl), C5, C6⟩)
                            refine VSteps.cons rfl (fun x L s wx K kn hL hp hI hK => ?_) ?_
                            · have e90 : x[90]? = some (.int .i64 lq) := kn.got 10 90 (hp ⟨10, .data⟩ (by simp) rfl) rfl
                              refine want_ rfl ?_
                              obtain ⟨BW, AL, AP, ST, C1, C2, C3, C4, C5, C6⟩ := hI
                              have n12 : L 12 = false := by
                                cases h : L 12 with
                                | false => rfl
                                | true => have z := C2 h; simp [hL] at z
                              have n14 : L 14 = false := by
                                cases h : L 14 with
                                | false => rfl
                                | true => rw [C1 h] at n12; cases n12
                              exact valw_ (v := .slice (some ⟨wx.heap.size, 0, none⟩) 1 1) (w' := wx.alloc (.cells #[.int .i64 lq] 2)) (by simp [go_sem, execOp, evr_, e90]) (hK.out (updv s 11 (.slice (some ⟨wx.heap.size, 0, none⟩) 1 1)) _ (VQ_upd _ _ _ hL) ⟨fun h => bb (BW n12) ((Below.refl _ _).alloc (Nat.le_refl _) _), fun _ => ⟨wx.heap.size, rfl, fun _ => Blk.new _ _ _⟩, fun h => absurd h (by simp [YInv.up, n12]), fun h => absurd h (by simp [YInv.up, n14]), C1, fun h => absurd h (by simp [YInv.up, n12]), fun _ => (hp ⟨10, .data⟩ (by simp) rfl), C4, C5, C6⟩)
                            refine VSteps.cons rfl (fun x L s wx K kn hL hp hI hK => ?_) ?_
                            · have e81 : x[81]? = some (.slice Ao cu.length co) := kn.got 1 81 (hp ⟨1, .data⟩ (by simp) rfl) rfl
                              have e91 : x[91]? = some (s 11) := kn.got 11 91 (hp ⟨11, .data⟩ (by simp) rfl) rfl
                              refine want_ rfl ?_
                              obtain ⟨BW, AL, AP, ST, C1, C2, C3, C4, C5, C6⟩ := hI
                              have n14 : L 14 = false := by
                                cases h : L 14 with
                                | false => rfl
                                | true => rw [C1 h] at hL; cases hL
                              obtain ⟨gl, hgl, hkl⟩ := AL (hp ⟨11, .data⟩ (by simp) rfl)
                              have kl := hkl hL
                              rw [hgl] at e91
                              have owx := OwnI.keep HOW.out (BW hL)
                              refine oper_append_i (.tmp 81) (.tmp 91) rfl (w.heap.size + 2) (.slice Ao cu.length co) cu.length (cu.map (Value.int .i64)) (ev_ e81) owx (L := [lq]) (c := 1) (ev_ e91) (Rd.blk (l := [lq]) kl) (by simp; omega) (by have := (BW hL).size; omega) (fun v' w' own4 gr => ?_)
                              obtain ⟨A', c', rfl⟩ := own_sl own4
                              have C2a : L 1 = true ∧ L 3 = true ∧ L 5 = true ∧ L 8 = true ∧ L 10 = true ∧ L 11 = true := ⟨(hp ⟨1, .data⟩ (by simp) rfl), (C5 (C4 (C3 (hp ⟨11, .data⟩ (by simp) rfl)))).1, C6 (C5 (C4 (C3 (hp ⟨11, .data⟩ (by simp) rfl)))).2, (C5 (C4 (C3 (hp ⟨11, .data⟩ (by simp) rfl)))).2, C3 (hp ⟨11, .data⟩ (by simp) rfl), (hp ⟨11, .data⟩ (by simp) rfl)⟩
                              exact hK.out (updv s 12 (.slice A' (cu.length + 1) c')) _ (VQ_upd _ _ _ hL) ⟨fun h => absurd h (by simp [YInv.up]), fun h => ⟨gl, hgl, fun k => absurd k (by simp [YInv.up])⟩, fun _ _ => ⟨A', c', rfl, by simpa [OwnI] using own4, wx, BW hL, gr⟩, fun h => absurd h (by simp [YInv.up, n14]), fun _ => by simp [YInv.up], fun _ => ⟨C2a.1, C2a.2.1, C2a.2.2.1, C2a.2.2.2.1, C2a.2.2.2.2.1, C2a.2.2.2.2.2⟩, C3, C4, C5, C6⟩
                            refine VSteps.cons rfl (fun x L s wx K kn hL hp hI hK => ?_) ?_
                            · have e9 : x[9]? = some (.pointer (some ⟨g9, 0, none⟩)) := (kn.old 9 (by kernel_rfl)).trans rfl
                              refine want_ rfl ?_
                              obtain ⟨BW, AL, AP, ST, C1, C2, C3, C4, C5, C6⟩ := hI
                              exact val_ (v := .pointer (some ⟨g9, 1, none⟩)) (by simp [go_sem, execOp, evr_, e9, addr_add]) (hK.out s _ (fun _ _ => rfl) ⟨BW, AL, AP, ST, C1, C2, C3, C4, C5, C6⟩)
                            refine VSteps.cons rfl (fun x L s wx K kn hL hp hI hK => ?_) ?_
                            · have e93 : x[93]? = some (.pointer (some ⟨g9, 1, none⟩)) := kn.got 13 93 (hp ⟨13, .data⟩ (by simp) rfl) rfl
                              have e92 : x[92]? = some (s 12) := kn.got 12 92 (hp ⟨12, .data⟩ (by simp) rfl) rfl
                              refine want_ rfl ?_
                              obtain ⟨BW, AL, AP, ST, C1, C2, C3, C4, C5, C6⟩ := hI
                              obtain ⟨A', c', h12, own4, wy, By, gr⟩ := AP (hp ⟨12, .data⟩ (by simp) rfl) hL
                              rw [h12] at e92
                              have DY := HDI.out.keep By
                              have K9 := Blk.grown DY.k9 gr (DY.nb DY.k9)
                              have v0 := (K9.cell 1).trans (show _ = some (.slice Ao cu.length co) from rfl)
                              have v1 := K9.free 1
                              have DF := DY.app own4 gr
                              simp only [List.length_append, List.length_cons, List.length_nil, Nat.zero_add] at DF
                              exact skipw_ (w' := wx.setCell ⟨g9, 1, none⟩ (.slice A' (cu.length + 1) c')) (by simp [go_sem, execOp, evr_, e93, e92, v0, v1]) (hK.out s _ (fun _ _ => rfl) ⟨fun h => absurd (hp ⟨12, .data⟩ (by simp) rfl) (by have h' : L 12 = false := h; simp [h']), fun h => (AL h).imp fun gl z => ⟨z.1, fun k => absurd (hp ⟨12, .data⟩ (by simp) rfl) (by have h' : L 12 = false := k; simp [h'])⟩, fun _ h => absurd h (by simp [YInv.up]), fun _ => ⟨A', c', DF⟩, fun _ => (hp ⟨12, .data⟩ (by simp) rfl), C2, C3, C4, C5, C6⟩)
                            exact VSteps.nil
                          intro s wx hI
                          simp only [puts, VQ, List.getD_cons_zero, List.getD_cons_succ, List.set_cons_zero, List.set_cons_succ]
                          obtain ⟨BW, AL, AP, ST, C1, C2, C3, C4, C5, C6⟩ := hI
                          obtain ⟨A', c', DF⟩ := ST rfl
                          clear BW AL AP ST C1 C2 C3 C4 C5 C6
                          have HDF := Lib.hid DF
                          clear DF HDI HOW NB0 NB9 NBa q0 q1 u1 f1 cp P1
                          try clear e3 n3
                          try clear e4 n4
                          try clear e5 n5
                          try clear e6 n6
                          go_wp2_with fail
                          exact ⟨⟨j + 1, A', c', by omega, by omega, by go_num, by rw [HCV.out, HNX.out]; exact HDF.out⟩, by simp [intOf]; omega⟩
                      · have hno : kee m i k (pl m r j) = false := by rw [hke]; simp; omega
                        have HNX := Lib.hid (show droC m i k l (pl m r (j + 1)) = droC m i k l (pl m r j) by rw [hnx]; exact droC_no hno)
                        have HDI := Lib.hid DI
                        have HE2 := Lib.hid (And.intro e1 e2)
                        clear DI e1 e2 hno hke hnx
                        have CS : decide ((j : Int) < (i : Int)) = false ∧ decide ((i : Int) + (k : Int) ≤ (j : Int)) = false ∧ (decide ((r : Int) < (i : Int)) = true ∨ (decide ((r : Int) < (i : Int)) = false ∧ decide ((i : Int) + (k : Int) ≤ (r : Int)) = true)) := by
                          have := HE2.out
                          simp only [decide_eq_true_eq, decide_eq_false_iff_not]
                          omega
                        obtain ⟨e4, e6, e3 | ⟨e3, e5⟩⟩ := CS
                        case' inl =>
                          have n3 : decide (r < i) = true := by simpa using e3
                        case' inr =>
                          have n3 : decide (r < i) = false := by simpa using e3
                          have n5 : decide (i + k ≤ r) = true := by simp at e5 ⊢; omega
                        all_goals
                          have n4 : decide (j < i) = false := by simpa using e4
                          have n6 : decide (i + k ≤ j) = false := by simp at e6 ⊢; omega
                          go_wp2_with fail
                          exact ⟨⟨j + 1, Ao, co, by omega, by omega, by go_num, by rw [HNX.out]; exact HDI.out⟩, by simp [intOf]; omega⟩
                    · have hno : kee m i k (pl m r j) = false := by rw [hke]; simp; omega
                      have HNX := Lib.hid (show droC m i k l (pl m r (j + 1)) = droC m i k l (pl m r j) by rw [hnx]; exact droC_no hno)
                      have HDI := Lib.hid DI
                      have e3 : decide ((r : Int) < (i : Int)) = false := by simp; omega
                      have e5 : decide ((i : Int) + (k : Int) ≤ (r : Int)) = false := by simp; omega
                      have n3 : decide (r < i) = false := by simp; omega
                      have n5 : decide (i + k ≤ r) = false := by simp; omega
                      clear DI e1 hno hke hnx
                      go_wp2_with fail
                      exact ⟨⟨j + 1, Ao, co, by omega, by omega, by go_num, by rw [HNX.out]; exact HDI.out⟩, by simp [intOf]; omega⟩
                  · obtain rfl : j = m := by omega
                    have j2 : decide ((j : Int) < (j : Int)) = false := by simp
                    have HO := Lib.hid DI
                    have HRW := Lib.hid (pl_row HM.out hrm)
                    clear DI
                    go_wp2_with fail
                    exact ⟨⟨r + 1, Ao, co, by omega, by go_num, by rw [HRW.out]; exact HO.out⟩, by simp [intOf]; omega⟩
              · obtain rfl : r = m := by omega
                have r2 : decide ((r : Int) < (r : Int)) = false := by simp
                have HO := Lib.hid DI
                have k1 := DI.k1
                have b1 := DI.b
                have u0 := (DI.k9.cell 0).trans (show _ = some (.int .i64 ((r : Int) - (k : Int))) from rfl)
                have u1 := (DI.k9.cell 1).trans (show _ = some (.slice Ao (droC r i k l (pl r r r)).length co) from rfl)
                have z0 := (k1.cell 0).trans (show _ = some (.int .i64 0) from rfl)
                have z1 := (k1.cell 1).trans (show _ = some (.slice none 0 0) from rfl)
                have y0 := k1.free 0
                have y1 := k1.free 1
                clear DI
                generalize hcu : droC r i k l (pl r r r) = cu at *
                have HCU := Lib.hid hcu
                clear hcu
                go_wp2_with fail
                refine bodyPost_ret (v := .tuple #[.agg #[.int .i64 ((r : Int) - (k : Int)), .slice Ao cu.length co], .nilIface]) ?_ rfl ?_
                · rw [results_cell_tmp rfl]
                  go_simp
                · have P := put2 (.int .i64 ((r : Int) - (k : Int))) (.slice Ao cu.length co) k1 b1 (by omega)
                  have ow := HO.out.ow
                  rw [HE.out, HN.out, HL.out, ← pl_end HM.out, HCU.out]
                  exact ⟨Ao, co, .nilIface, rfl, (P.own ow (ow.ne (by omega))).mono (by omega), ErrFrom.nil _ _ _, P.below⟩
end Go.Proofs.YtfcandmhalhaeaaDoor.YSym
namespace Go.Proofs.YtfcandmhalhaeaaDoor.YSym
open Go.RowKit Go.Proofs.YtfcandmhalhaeaaDoor.YErr Go.Proofs.YtfcandmhalhaeaaDoor.YInv Go.Proofs.YtfcandmhalhaeaaDoor.YRef Go.Proofs.YtfcandmhalhaeaaDoor.YBits Go.Proofs.YtfcandmhalhaeaaDoor.YNum Go.Proofs.YtfcandmhalhaeaaDoor.QSy Go.Proofs.YtfcandmhalhaeaaDoor.YWide Go.Proofs.YtfcandmhalhaeaaDoorW.PrintWords Go.Proofs.YtfcandmhalhaeaaDoorW.PrintLast
set_option linter.unusedVariables false
set_option linter.unusedSimpArgs false
theorem tmod_w {x : Int} (h : W64 x) : W64 (Int.tmod x 1000000) := by
  have h1 := Int.tmod_lt_of_pos x (show (0 : Int) < 1000000 by decide)
  have h2 := Int.lt_tmod_of_pos x (show (0 : Int) < 1000000 by decide)
  unfold W64; omega
theorem tmod_w9 (x : Int) : W64 (Int.tmod x 900) := by
  have h1 := Int.tmod_lt_of_pos x (show (0 : Int) < 900 by decide)
  have h2 := Int.lt_tmod_of_pos x (show (0 : Int) < 900 by decide)
  unfold W64; omega
theorem vec_l (N : Nat) (hN : N ≤ 8) (l h : List Int) (b : Bool) (wh : ∀ x ∈ h, W64 x) : ∀ d i acc, i + d = N → acc.length = i → (∀ x ∈ acc, W64 x) → ∀ k, d < k → ∃ r, leadlineseat_Vec.l0 k h b acc (i : Nat) (N : Int) l = some r ∧ r.length = N ∧ ∀ x ∈ r, W64 x := by
  intro d
  induction d with
  | zero =>
    intro i acc hi ha wa k hk
    obtain ⟨k, rfl⟩ : ∃ m, k = m + 1 := ⟨k - 1, by omega⟩
    simp only [leadlineseat_Vec.l0]
    rw [if_neg (by omega)]
    exact ⟨acc, rfl, by omega, wa⟩
  | succ d ih =>
    intro i acc hi ha wa k hk
    obtain ⟨k, rfl⟩ : ∃ m, k = m + 1 := ⟨k - 1, by omega⟩
    have step : ∀ y, W64 y → ∃ r, leadlineseat_Vec.l0 k h b (acc ++ [y]) (wrap64 ((i : Int) + 1)) (N : Int) l = some r ∧ r.length = N ∧ ∀ x ∈ r, W64 x := fun y hy => by
      rw [w64 (by omega)]
      refine ih (i + 1) (acc ++ [y]) (by omega) (by simp [ha]) (fun x hx => ?_) k (by omega)
      rcases List.mem_append.1 hx with hx | hx
      · exact wa x hx
      · simp at hx; subst hx; exact hy
    have wi : W64 (i : Int) := by unfold W64; omega
    have wr : i < h.length → W64 (rd h (i : Int)) := fun hh => by rw [show rd h (i : Int) = h[i] by simp [rd, List.getD, hh]]; exact wh _ (List.getElem_mem hh)
    simp only [leadlineseat_Vec.l0]
    rw [if_pos (by omega)]
    by_cases h1 : (i : Int) < (h.length : Int)
    · rw [if_pos h1, if_pos (by omega)]
      cases b
      · rw [if_neg (by decide), if_pos (by omega)]; exact step _ (wr (by omega))
      · rw [if_pos rfl, if_pos (by omega)]; exact step _ (tmod_w (wr (by omega)))
    · rw [if_neg h1]
      cases b
      · rw [if_neg (by decide), if_pos (by omega)]; exact step _ wi
      · rw [if_pos rfl, if_pos (by omega)]; exact step _ (tmod_w wi)
theorem Vec_c {N : Nat} {w : World} {A B : Option Addr} {c d : Nat} {l h : List Int} (hN : N ≤ 8) (R : Rd w A l) (hc : l.length ≤ c) (hl : l.length ≤ 1000) (RH : Rd w B h) (hd : h.length ≤ d) (hh : h.length ≤ 1000) (wh : ∀ x ∈ h, W64 x) (b : Bool) :
    Calls Tryd.prog 23 #[.agg #[.int .i64 (N : Int), .slice A l.length c], .slice B h.length d, .bool b] w fun e w' => ∃ A' c' r, e = .returned (.slice A' N c') ∧ OwnI w' w.heap.size A' c' r ∧ r.length = N ∧ (∀ x ∈ r, W64 x) ∧ Below w.heap.size w w' := by
  obtain ⟨r, e, hr, wr⟩ := vec_l N hN l h b wh N 0 [] (by omega) rfl (fun x hx => by cases hx) 100 (by omega)
  refine (leadlineseat_Vec.calls 100 (N : Int) A c l B d h b r w (rdC R hl) hc (rdC RH hh) hd e).mono ?_
  rintro e w' ⟨v, rfl, hv, g⟩
  obtain ⟨A', c', rfl, own⟩ := ownR hv
  exact ⟨A', c', r, by rw [hr], own, hr, wr, g⟩
theorem out_back {n : Nat} {l h : List Int} {w : Int} {g : Bool} (hr : rightB n l = true) (hE : genE n l g (outF n l w h) = 0) :
    genE n (genL n l g (outF n l w h)) g (outF n (genL n l g (outF n l w h)) (-w) h) = 0 ∧ genN n (genL n l g (outF n l w h)) g (outF n (genL n l g (outF n l w h)) (-w) h) = (n : Int) ∧ genL n (genL n l g (outF n l w h)) g (outF n (genL n l g (outF n l w h)) (-w) h) = l := by
  obtain ⟨m, e, hm, hlen, hall⟩ := rightB_nat hr
  obtain rfl : n = m := by omega
  have hg : g = true := by
    unfold genE at hE
    by_cases hx : rightB n l = true ∧ g = true
    · exact hx.2
    · rw [if_neg hx] at hE; cases hE
  have hL : genL n l g (outF n l w h) = (List.range (tri n)).map (outF n l w h) := by unfold genL; rw [if_pos hE]; rfl
  have hR1 := (gen_right hE).2
  rw [hL] at hR1 ⊢
  have hv : ∀ q, q < tri n → outF n ((List.range (tri n)).map (outF n l w h)) (-w) h q = l.getD q 0 := fun q hq => by
    unfold outF
    rw [show ((List.range (tri n)).map (fun k => l.getD k 0 + w * (h.getD (rowOf n k) 0 * h.getD (colOf n k) 0))).getD q 0 = l.getD q 0 + w * (h.getD (rowOf n q) 0 * h.getD (colOf n q) 0) by simp [List.getD, hq], Int.neg_mul]
    omega
  have hk : ∀ q, q < tri n → okE (outF n ((List.range (tri n)).map (outF n l w h)) (-w) h q) = true := fun q hq => by
    rw [hv q hq, show l.getD q 0 = l[q]'(by omega) by simp [List.getD, show q < l.length by omega]]
    have := hall _ (List.getElem_mem (show q < l.length by omega))
    simp [okE, this]
  obtain ⟨e1, e2, e3⟩ := gen_0 hR1 hg hk
  refine ⟨e1, e2, e3.trans ?_⟩
  apply List.ext_getElem?
  intro q
  by_cases hq : q < l.length
  · have h2 := hv q (by omega)
    simp only [List.getElem?_map]
    rw [List.getElem?_range (by omega), Option.map_some, h2]
    simp [List.getD, hq]
  · rw [List.getElem?_eq_none (by simp; omega), List.getElem?_eq_none (by omega)]
theorem at_sym {n : Nat} {l : List Int} {i j : Int} (hr : rightB n l = true) : inE n l [i, j] = inE n l [j, i] ∧ atV n l i j = atV n l j i := by
  have e : inE n l [i, j] = inE n l [j, i] := by
    rw [inE_2, inE_2, if_pos hr, if_pos hr]
    by_cases h : (0 ≤ i ∧ i < (n : Int)) ∧ 0 ≤ j ∧ j < (n : Int)
    · rw [if_pos h, if_pos ⟨h.2, h.1⟩]
    · rw [if_neg h, if_neg (fun z => h ⟨z.2, z.1⟩)]
  refine ⟨e, ?_⟩
  unfold atV
  rw [e, pl_comm]
theorem OwnI.lt {w : World} {B c : Nat} {A : Option Addr} {l : List Int} (S : OwnI w B A c l) : ∀ g, A = some ⟨g, 0, none⟩ → g < w.heap.size := fun g e => by
  rcases S.form with ⟨e', _⟩ | ⟨g', e', _, hg, _⟩
  · rw [e'] at e; cases e
  · rw [e'] at e; cases e; exact hg
theorem _root_.Go.Proofs.YtfcandmhalhaeaaDoor.YErr.Laid.set {w : World} (h : Laid w) {p : Addr} (hp : p.block ≠ 0) (u : Value) : Laid (w.setCell p u) := (World.cell?_setCell_far w p _ u hp).trans h
set_option maxRecDepth 100000 in
set_option maxHeartbeats 16000000 in
theorem SymKeeps_c {a1 a2 : Int} {B : Option Addr} {d : Nat} {hs : List Int} {B2 : Option Addr} {d2 : Nat} {h : List Int} {qx ix jx : Int} {w : World} (hg : Laid w) (x0 : 0 ≤ a1) (x1 : a1 ≤ 255) (x2 : 0 ≤ a2) (x3 : a2 ≤ 65535) (wh : ∀ x ∈ hs, -32768 ≤ x ∧ x ≤ 32767) (RH : RdK .i16 w B hs) (y2 : h.length ≤ d2) (wh2 : ∀ x ∈ h, W64 x) (R2 : RdK .i64 w B2 h) (q0 : -128 ≤ qx) (q1 : qx ≤ 127) (i0 : 0 ≤ ix) (i1 : ix ≤ 255) (j0 : 0 ≤ jx) (j1 : jx ≤ 255) :
    Calls Tryd.prog 5 #[.int .u8 a1, .int .u16 a2, .slice B hs.length d, .slice B2 h.length d2, .int .i8 qx, .int .u8 ix, .int .u8 jx] w fun e w' => e = .returned (.bool true) ∧ Below w.heap.size w w' := by
  obtain ⟨kk, hkk⟩ : ∃ kk : Nat, a1 % 7 = (kk : Int) := ⟨(a1 % 7).toNat, by omega⟩
  obtain ⟨ir, hir⟩ : ∃ ir : Nat, ix % 8 = (ir : Int) := ⟨(ix % 8).toNat, by omega⟩
  obtain ⟨jr, hjr⟩ : ∃ jr : Nat, jx % 8 = (jr : Int) := ⟨(jx % 8).toNat, by omega⟩
  have hirt : Int.tmod ix 8 = (ir : Int) := by rw [Int.tmod_eq_emod_of_nonneg i0]; exact hir
  have hjrt : Int.tmod jx 8 = (jr : Int) := by rw [Int.tmod_eq_emod_of_nonneg j0]; exact hjr
  have k6 : kk ≤ 6 := by omega
  have b0 := Below.refl w.heap.size w
  have R2 : Rd w B2 h := R2
  go_enter Tryd.func5, Tryd.ntmps5
  go_wp2_with fail
  refine (known_c _ hg).mono ?_; rintro e w_1 ⟨rfl, g⟩
  replace hg := hg.keep g
  replace RH := RH.keep g
  replace R2 := R2.keep g
  have b_2 := bb b0 g
  clear b0
  clear g
  by_cases hhl : hs.length ≤ 60
  case neg =>
    have e1 : decide (60 < (hs.length : Int)) = true := by simp; omega
    have e2 : decide (60 < hs.length) = true := by simp; omega
    clear hhl
    go_wp2_with fail
    go_ret
    exact ⟨rfl, b_2⟩
  case pos =>
    have e1 : decide (60 < (hs.length : Int)) = false := by simp; omega
    have e2 : decide (60 < hs.length) = false := by simp; omega
    by_cases hh4 : h.length ≤ 40
    case neg =>
      have e3 : decide (40 < (h.length : Int)) = true := by simp; omega
      have e4 : decide (40 < h.length) = true := by simp; omega
      clear hhl hh4
      go_wp2_with fail
      go_ret
      exact ⟨rfl, b_2⟩
    case pos =>
      have e3 : decide (40 < (h.length : Int)) = false := by simp; omega
      have e4 : decide (40 < h.length) = false := by simp; omega
      have SS := seatSym_c (d := d) a1 a2 kk x0 x1 hkk x2 x3 wh hhl RH
      have HH := Lib.hid hh4
      clear x0 x1 x2 x3 wh hhl hkk hh4
      go_wp2_with fail
      refine (SS).mono ?_; rintro e w_3 ⟨A2, c2, l2, rfl, own2, hr2, g⟩
      replace hg := hg.keep g
      replace RH := RH.keep g
      replace R2 := R2.keep g
      have b_4 := bb b_2 g
      clear b_2
      clear g
      clear SS e1 e2 e3 e4
      clear RH
      have HR := Lib.hid hr2
      have hl2 : l2.length ≤ 60 := by obtain ⟨m, e, hm, hlen, _⟩ := rightB_nat hr2; have := tri_le hm; omega
      clear hr2
      have kI : (kk : Int) ≤ 6 := by omega
      have kP : (0 : Int) ≤ (kk : Int) := by omega
      have cap2 := OwnI.cap own2
      have HW := Lib.hid wh2
      clear wh2
      have ga : Below w_3.heap.size w_3 (w_3.alloc (.cells #[.int .i64 (kk : Int), .slice A2 l2.length c2] 24)) := (Below.refl _ _).alloc (Nat.le_refl _) _
      have k15 := Blk.new w_3 #[.int .i64 (kk : Int), .slice A2 l2.length c2] 24
      replace hg := hg.keep ga
      replace R2 := R2.keep ga
      replace own2 := own2.keep ga
      have b_6 := bb b_4 ga
      clear b_4
      clear ga
      have c_k15_0 := (Blk.cell k15 0).trans (show _ = some (.int .i64 (kk : Int)) from rfl)
      have c_k15_1 := (Blk.cell k15 1).trans (show _ = some (.slice A2 l2.length c2) from rfl)
      go_wp2_with fail
      generalize (w_3.alloc (.cells #[.int .i64 (kk : Int), .slice A2 l2.length c2] 24)) = w_5 at *
      generalize w_3.heap.size = g_k15 at *
      refine (Copy_c (n := (kk : Int)) (c := c2) own2.rd (by omega)).mono ?_; rintro e w_7 ⟨A3, c3, rfl, own3, g⟩
      clear c_k15_0 c_k15_1
      replace hg := hg.keep g
      replace R2 := R2.keep g
      replace own2 := own2.keep g
      replace k15 := k15.keep g
      have b_8 := bb b_6 g
      clear b_6
      clear g
      have c_k15_0 := (Blk.cell k15 0).trans (show _ = some (.int .i64 (kk : Int)) from rfl)
      have c_k15_1 := (Blk.cell k15 1).trans (show _ = some (.slice A2 l2.length c2) from rfl)
      have cap3 := OwnI.cap own3
      clear c_k15_0 c_k15_1
      have ga : Below w_7.heap.size w_7 (w_7.alloc (.cells #[.int .i64 (kk : Int), .slice A3 l2.length c3] 24)) := (Below.refl _ _).alloc (Nat.le_refl _) _
      have k16 := Blk.new w_7 #[.int .i64 (kk : Int), .slice A3 l2.length c3] 24
      replace hg := hg.keep ga
      replace R2 := R2.keep ga
      replace own2 := own2.keep ga
      replace k15 := k15.keep ga
      replace own3 := own3.keep ga
      have b_10 := bb b_8 ga
      clear b_8
      clear ga
      have c_k15_0 := (Blk.cell k15 0).trans (show _ = some (.int .i64 (kk : Int)) from rfl)
      have c_k15_1 := (Blk.cell k15 1).trans (show _ = some (.slice A2 l2.length c2) from rfl)
      have c_k16_0 := (Blk.cell k16 0).trans (show _ = some (.int .i64 (kk : Int)) from rfl)
      have c_k16_1 := (Blk.cell k16 1).trans (show _ = some (.slice A3 l2.length c3) from rfl)
      go_wp2_with fail
      generalize (w_7.alloc (.cells #[.int .i64 (kk : Int), .slice A3 l2.length c3] 24)) = w_9 at *
      generalize w_7.heap.size = g_k16 at *
      have hwv : w.heap.size ≤ w_9.heap.size := b_10.size
      have hlv : 0 < w_9.heap.size := lt_of_cell hg
      have hb15 := Blk.lt k15
      have hb16 := Blk.lt k16
      have hA2 := OwnI.lt own2
      have hA3 := OwnI.lt own3
      have hBB : w_9.heap.size = w_9.heap.size := rfl
      refine (Vec_c (N := kk) (by omega) own2.rd cap2 (by omega) R2 y2 (by have := HH.out; omega) HW.out true).mono ?_; rintro e w_11 ⟨A5, c5, xs, rfl, own5, hx5, wx5, g⟩
      clear c_k15_0 c_k15_1 c_k16_0 c_k16_1
      replace hg := hg.keep g
      replace R2 := R2.keep g
      replace own2 := own2.keep g
      replace k15 := k15.keep g
      replace own3 := own3.keep g
      replace k16 := k16.keep g
      have b_12 := bb b_10 g
      clear b_10
      clear g
      have c_k15_0 := (Blk.cell k15 0).trans (show _ = some (.int .i64 (kk : Int)) from rfl)
      have c_k15_1 := (Blk.cell k15 1).trans (show _ = some (.slice A2 l2.length c2) from rfl)
      have c_k16_0 := (Blk.cell k16 0).trans (show _ = some (.int .i64 (kk : Int)) from rfl)
      have c_k16_1 := (Blk.cell k16 1).trans (show _ = some (.slice A3 l2.length c3) from rfl)
      clear R2 hBB
      go_wp2_with fail
      clear c_k15_0 c_k15_1 c_k16_0 c_k16_1
      have hw0 : w.heap.size ≤ w_9.heap.size := hwv
      have hlaid : 0 < w_9.heap.size := hlv
      generalize w_9.heap.size = BB at *
      replace own2 := OwnI.mono own2 (Nat.zero_le _)
      replace own3 := OwnI.mono own3 (Nat.zero_le _)
      go_loopw [18] (fun s18 wl => ∃ (a : Nat) (ys : List Int), a ≤ kk ∧ s18 = .int .i64 a ∧ OwnI wl BB A5 c5 ys ∧ ys.length = kk ∧ (∀ x ∈ ys, W64 x) ∧ Blk wl g_k15 #[.int .i64 (kk : Int), .slice A2 l2.length c2] 24 ∧ Blk wl g_k16 #[.int .i64 (kk : Int), .slice A3 l2.length c3] 24 ∧ OwnI wl 0 A2 c2 l2 ∧ OwnI wl 0 A3 c3 l2 ∧ Laid wl ∧ Below w.heap.size w wl) (fun s18 _ => kk - (intOf s18).toNat)
      case atStart => exact ⟨0, xs, Nat.zero_le _, rfl, own5, hx5, wx5, k15, k16, own2, own3, hg, b_12⟩
      case round =>
        clear own5 hx5 wx5 k15 k16 own2 own3 hg b_12
        obtain ⟨a, ys, ha, rfl, own5, hy, wy, k15, k16, own2, own3, hg, bA⟩ := hrel
        have a0 : (0 : Int) ≤ (a : Int) := by omega
        by_cases hak : a < kk
        case pos =>
          have a1' : (a : Int) < (kk : Int) := by omega
          have a2' : decide ((a : Int) < (kk : Int)) = true := by simpa using hak
          rcases own5.form with ⟨_, _, e⟩ | ⟨g, rfl, hgB, hg2, hyc, _⟩
          · rw [e] at hy; simp at hy; omega
          have cq := own5.at_ (i := a) (by omega)
          have fq := own5.free a
          have O5 := own5.set (i := a) (by omega) (Int.tmod (ys.getD a 0) 900)
          have K15 := Blk.setOther k15 (p := ⟨g, a, none⟩) (by show g ≠ _; omega) (.int .i64 (Int.tmod (ys.getD a 0) 900))
          have K16 := Blk.setOther k16 (p := ⟨g, a, none⟩) (by show g ≠ _; omega) (.int .i64 (Int.tmod (ys.getD a 0) 900))
          have O2 := OwnI.other own2 (p := ⟨g, a, none⟩) (fun q e => by show g ≠ q; have := hA2 q e; omega) (.int .i64 (Int.tmod (ys.getD a 0) 900))
          have O3 := OwnI.other own3 (p := ⟨g, a, none⟩) (fun q e => by show g ≠ q; have := hA3 q e; omega) (.int .i64 (Int.tmod (ys.getD a 0) 900))
          have G9 := Laid.set hg (p := ⟨g, a, none⟩) (by show g ≠ _; omega) (.int .i64 (Int.tmod (ys.getD a 0) 900))
          have B9 := bA.setCell (p := ⟨g, a, none⟩) (by show w.heap.size ≤ g; omega) (.int .i64 (Int.tmod (ys.getD a 0) 900))
          have wz := tmod_w9 (ys.getD a 0)
          have HALL := Lib.hid (And.intro O5 (And.intro K15 (And.intro K16 (And.intro O2 (And.intro O3 (And.intro G9 B9))))))
          have HWY := Lib.hid wy
          have HGL := Lib.hid (show (ys.set a (Int.tmod (ys.getD a 0) 900)).length = kk ∧ ∀ x ∈ ys.set a (Int.tmod (ys.getD a 0) 900), W64 x from ⟨by simpa using hy, fun x hx => by rcases List.mem_or_eq_of_mem_set hx with h | h; exact wy x h; subst h; exact wz⟩)
          clear O5 K15 K16 O2 O3 G9 B9 own5 k15 k16 own2 own3 hg bA wy
          generalize hzz : ys.set a (Int.tmod (ys.getD a 0) 900) = zs at *
          clear hzz
          generalize ys.getD a 0 = yv at *
          generalize hyl : Int.tmod yv 900 = zv at *
          obtain ⟨wz0, wz1⟩ := wz
          go_wp2_with fail
          exact ⟨⟨a + 1, zs, by omega, by go_num, HALL.out.1, HGL.out.1, HGL.out.2, HALL.out.2.1, HALL.out.2.2.1, HALL.out.2.2.2.1, HALL.out.2.2.2.2.1, HALL.out.2.2.2.2.2.1, HALL.out.2.2.2.2.2.2⟩, by simp [intOf]; omega⟩
        case neg =>
          obtain rfl : a = kk := by omega
          have a2' : decide ((a : Int) < (a : Int)) = false := by simp
          clear hA2 hA3 hb15 hb16 hw0 hlaid
          have c_k15_0 := (Blk.cell k15 0).trans (show _ = some (.int .i64 (a : Int)) from rfl)
          have c_k15_1 := (Blk.cell k15 1).trans (show _ = some (.slice A2 l2.length c2) from rfl)
          have c_k16_0 := (Blk.cell k16 0).trans (show _ = some (.int .i64 (a : Int)) from rfl)
          have c_k16_1 := (Blk.cell k16 1).trans (show _ = some (.slice A3 l2.length c3) from rfl)
          have wq : W64 qx := by unfold W64; omega
          have wq' : W64 (-qx) := by unfold W64; omega
          have cap5 := OwnI.cap own5
          have CO := fun W (R : Rd W A2 l2) (RH : Rd W A5 ys) => SOuter_c (n := (a : Int)) (d := c5) R cap2 (by omega) RH (by omega) wy qx wq
          have eg : decide ((ys.length : Int) = (a : Int)) = true := by simp [hy]
          rw [eg] at CO
          have BK := out_back (h := ys) (w := qx) (g := true) HR.out
          have GR := gen_right (n := (a : Int)) (l := l2) (g := true) (f := outF (a : Int).toNat l2 qx ys)
          have CO2 := fun W (N2 : Int) (L2 : List Int) (A4 : Option Addr) (c4 : Nat) (R : Rd W A4 L2) (hc : L2.length ≤ c4) (hl : L2.length ≤ 1000) (RH : Rd W A5 ys) => SOuter_c (n := N2) (d := c5) R hc hl RH (by omega) wy (-qx) wq'
          have GB := gen_bad (n := (a : Int)) (l := l2) (g := true) (f := outF (a : Int).toNat l2 qx ys) (e := genE (a : Int) l2 true (outF (a : Int).toNat l2 qx ys)) rfl
          have HT := Lib.hid eg
          simp only [Int.toNat_natCast] at CO BK GR GB
          generalize hG1 : genE (a : Int) l2 true (outF a l2 qx ys) = gE at *
          generalize hG2 : genN (a : Int) l2 true (outF a l2 qx ys) = gN at *
          generalize hG3 : genL (a : Int) l2 true (outF a l2 qx ys) = gL at *
          have hgl : gL.length ≤ 1000 := by
            by_cases hz : gE = 0
            · obtain ⟨m, e, hm, hlen, _⟩ := rightB_nat (GR hz).2
              have := tri_le hm; omega
            · rw [(GB hz).2]; simp
          rw [hy] at CO
          simp only [hy] at CO2
          clear eg hG1 hG2 hG3
          go_wp2_with fail
          refine (CO _ own2.rd own5.rd).mono ?_; rintro e w_14 ⟨A6, c6, v1, rfl, own6, hv1, g⟩
          clear c_k15_0 c_k15_1 c_k16_0 c_k16_1
          replace hg := hg.keep g
          replace own2 := own2.keep g
          replace own3 := own3.keep g
          replace own5 := own5.keep g
          replace k15 := k15.keep g
          replace k16 := k16.keep g
          have b_15 := bb bA g
          clear bA
          clear g
          have c_k15_0 := (Blk.cell k15 0).trans (show _ = some (.int .i64 (a : Int)) from rfl)
          have c_k15_1 := (Blk.cell k15 1).trans (show _ = some (.slice A2 l2.length c2) from rfl)
          have c_k16_0 := (Blk.cell k16 0).trans (show _ = some (.int .i64 (a : Int)) from rfl)
          have c_k16_1 := (Blk.cell k16 1).trans (show _ = some (.slice A3 l2.length c3) from rfl)
          have cap6 := OwnI.cap own6
          clear c_k15_0 c_k15_1 c_k16_0 c_k16_1
          have ga : Below w_14.heap.size w_14 (w_14.alloc (.cells #[.int .i64 gN, .slice A6 gL.length c6] 24)) := (Below.refl _ _).alloc (Nat.le_refl _) _
          have k19 := Blk.new w_14 #[.int .i64 gN, .slice A6 gL.length c6] 24
          replace hg := hg.keep ga
          replace own2 := own2.keep ga
          replace own3 := own3.keep ga
          replace own5 := own5.keep ga
          replace k15 := k15.keep ga
          replace k16 := k16.keep ga
          replace own6 := own6.keep ga
          replace hv1 := hv1.keep ga
          have b_17 := bb b_15 ga
          clear b_15
          clear ga
          have c_k15_0 := (Blk.cell k15 0).trans (show _ = some (.int .i64 (a : Int)) from rfl)
          have c_k15_1 := (Blk.cell k15 1).trans (show _ = some (.slice A2 l2.length c2) from rfl)
          have c_k16_0 := (Blk.cell k16 0).trans (show _ = some (.int .i64 (a : Int)) from rfl)
          have c_k16_1 := (Blk.cell k16 1).trans (show _ = some (.slice A3 l2.length c3) from rfl)
          have c_k19_0 := (Blk.cell k19 0).trans (show _ = some (.int .i64 gN) from rfl)
          have c_k19_1 := (Blk.cell k19 1).trans (show _ = some (.slice A6 gL.length c6) from rfl)
          go_wp2_with fail
          generalize (w_14.alloc (.cells #[.int .i64 gN, .slice A6 gL.length c6] 24)) = w_16 at *
          generalize w_14.heap.size = g_k19 at *
          have CO3 := fun W (R : Rd W A6 gL) (RH : Rd W A5 ys) => CO2 W gN gL A6 c6 R cap6 hgl RH
          clear CO2
          generalize hG4 : genE gN gL (decide ((a : Int) = gN)) (outF gN.toNat gL (-qx) ys) = pE at *
          generalize hG5 : genN gN gL (decide ((a : Int) = gN)) (outF gN.toNat gL (-qx) ys) = pN at *
          generalize hG6 : genL gN gL (decide ((a : Int) = gN)) (outF gN.toNat gL (-qx) ys) = pL at *
          have PB : gE = 0 → pE = 0 ∧ pN = (a : Int) ∧ pL = l2 := fun hz => by
            obtain ⟨h1, h2, h3⟩ := BK hz
            have hN := (GR hz).1
            subst hN
            rw [show decide ((a : Int) = (a : Int)) = true by simp] at hG4 hG5 hG6
            simp only [Int.toNat_natCast] at hG4 hG5 hG6
            exact ⟨hG4.symm.trans h1, hG5.symm.trans h2, hG6.symm.trans h3⟩
          have HPB := Lib.hid PB
          clear PB hG4 hG5 hG6 BK GR GB
          refine (CO3 _ own6.rd own5.rd).mono ?_; rintro e w_18 ⟨A7, c7, v2, rfl, own7, hv2, g⟩
          clear c_k15_0 c_k15_1 c_k16_0 c_k16_1 c_k19_0 c_k19_1
          replace hg := hg.keep g
          replace own2 := own2.keep g
          replace own3 := own3.keep g
          replace own5 := own5.keep g
          replace k15 := k15.keep g
          replace k16 := k16.keep g
          replace own6 := own6.keep g
          replace hv1 := hv1.keep g
          replace k19 := k19.keep g
          have b_19 := bb b_17 g
          clear b_17
          clear g
          have c_k15_0 := (Blk.cell k15 0).trans (show _ = some (.int .i64 (a : Int)) from rfl)
          have c_k15_1 := (Blk.cell k15 1).trans (show _ = some (.slice A2 l2.length c2) from rfl)
          have c_k16_0 := (Blk.cell k16 0).trans (show _ = some (.int .i64 (a : Int)) from rfl)
          have c_k16_1 := (Blk.cell k16 1).trans (show _ = some (.slice A3 l2.length c3) from rfl)
          have c_k19_0 := (Blk.cell k19 0).trans (show _ = some (.int .i64 gN) from rfl)
          have c_k19_1 := (Blk.cell k19 1).trans (show _ = some (.slice A6 gL.length c6) from rfl)
          have cap7 := OwnI.cap own7
          clear c_k15_0 c_k15_1 c_k16_0 c_k16_1 c_k19_0 c_k19_1
          have ga : Below w_18.heap.size w_18 (w_18.alloc (.cells #[.int .i64 pN, .slice A7 pL.length c7] 24)) := (Below.refl _ _).alloc (Nat.le_refl _) _
          have k21 := Blk.new w_18 #[.int .i64 pN, .slice A7 pL.length c7] 24
          replace hg := hg.keep ga
          replace own2 := own2.keep ga
          replace own3 := own3.keep ga
          replace own5 := own5.keep ga
          replace k15 := k15.keep ga
          replace k16 := k16.keep ga
          replace own6 := own6.keep ga
          replace hv1 := hv1.keep ga
          replace k19 := k19.keep ga
          replace own7 := own7.keep ga
          replace hv2 := hv2.keep ga
          have b_21 := bb b_19 ga
          clear b_19
          clear ga
          have c_k15_0 := (Blk.cell k15 0).trans (show _ = some (.int .i64 (a : Int)) from rfl)
          have c_k15_1 := (Blk.cell k15 1).trans (show _ = some (.slice A2 l2.length c2) from rfl)
          have c_k16_0 := (Blk.cell k16 0).trans (show _ = some (.int .i64 (a : Int)) from rfl)
          have c_k16_1 := (Blk.cell k16 1).trans (show _ = some (.slice A3 l2.length c3) from rfl)
          have c_k19_0 := (Blk.cell k19 0).trans (show _ = some (.int .i64 gN) from rfl)
          have c_k19_1 := (Blk.cell k19 1).trans (show _ = some (.slice A6 gL.length c6) from rfl)
          have c_k21_0 := (Blk.cell k21 0).trans (show _ = some (.int .i64 pN) from rfl)
          have c_k21_1 := (Blk.cell k21 1).trans (show _ = some (.slice A7 pL.length c7) from rfl)
          go_wp2_with fail
          generalize (w_18.alloc (.cells #[.int .i64 pN, .slice A7 pL.length c7] 24)) = w_20 at *
          generalize w_18.heap.size = g_k21 at *
          clear CO CO3
          refine (SSet_c (n := (a : Int)) own2.rd cap2 (by omega) 0 0 7).mono ?_; rintro e w_22 ⟨A8, c8, v3, rfl, own8, hv3, g⟩
          clear c_k15_0 c_k15_1 c_k16_0 c_k16_1 c_k19_0 c_k19_1 c_k21_0 c_k21_1
          replace hg := hg.keep g
          replace own2 := own2.keep g
          replace own3 := own3.keep g
          replace own5 := own5.keep g
          replace k15 := k15.keep g
          replace k16 := k16.keep g
          replace own6 := own6.keep g
          replace hv1 := hv1.keep g
          replace k19 := k19.keep g
          replace own7 := own7.keep g
          replace hv2 := hv2.keep g
          replace k21 := k21.keep g
          have b_23 := bb b_21 g
          clear b_21
          clear g
          have c_k15_0 := (Blk.cell k15 0).trans (show _ = some (.int .i64 (a : Int)) from rfl)
          have c_k15_1 := (Blk.cell k15 1).trans (show _ = some (.slice A2 l2.length c2) from rfl)
          have c_k16_0 := (Blk.cell k16 0).trans (show _ = some (.int .i64 (a : Int)) from rfl)
          have c_k16_1 := (Blk.cell k16 1).trans (show _ = some (.slice A3 l2.length c3) from rfl)
          have c_k19_0 := (Blk.cell k19 0).trans (show _ = some (.int .i64 gN) from rfl)
          have c_k19_1 := (Blk.cell k19 1).trans (show _ = some (.slice A6 gL.length c6) from rfl)
          have c_k21_0 := (Blk.cell k21 0).trans (show _ = some (.int .i64 pN) from rfl)
          have c_k21_1 := (Blk.cell k21 1).trans (show _ = some (.slice A7 pL.length c7) from rfl)
          clear own8 hv3
          go_wp2_with fail
          refine (SDiag_c (n := (a : Int)) own2.rd cap2 (by omega) 3 (by unfold W64; omega)).mono ?_; rintro e w_24 ⟨A8, c8, v3, rfl, own8, hv3, g⟩
          clear c_k15_0 c_k15_1 c_k16_0 c_k16_1 c_k19_0 c_k19_1 c_k21_0 c_k21_1
          replace hg := hg.keep g
          replace own2 := own2.keep g
          replace own3 := own3.keep g
          replace own5 := own5.keep g
          replace k15 := k15.keep g
          replace k16 := k16.keep g
          replace own6 := own6.keep g
          replace hv1 := hv1.keep g
          replace k19 := k19.keep g
          replace own7 := own7.keep g
          replace hv2 := hv2.keep g
          replace k21 := k21.keep g
          have b_25 := bb b_23 g
          clear b_23
          clear g
          have c_k15_0 := (Blk.cell k15 0).trans (show _ = some (.int .i64 (a : Int)) from rfl)
          have c_k15_1 := (Blk.cell k15 1).trans (show _ = some (.slice A2 l2.length c2) from rfl)
          have c_k16_0 := (Blk.cell k16 0).trans (show _ = some (.int .i64 (a : Int)) from rfl)
          have c_k16_1 := (Blk.cell k16 1).trans (show _ = some (.slice A3 l2.length c3) from rfl)
          have c_k19_0 := (Blk.cell k19 0).trans (show _ = some (.int .i64 gN) from rfl)
          have c_k19_1 := (Blk.cell k19 1).trans (show _ = some (.slice A6 gL.length c6) from rfl)
          have c_k21_0 := (Blk.cell k21 0).trans (show _ = some (.int .i64 pN) from rfl)
          have c_k21_1 := (Blk.cell k21 1).trans (show _ = some (.slice A7 pL.length c7) from rfl)
          clear own8 hv3
          go_wp2_with fail
          refine (SDrop_c (n := (a : Int)) own2.rd cap2 (by omega) 0 1 (by unfold W64; omega) (by unfold W64; omega)).mono ?_; rintro e w_26 ⟨A8, c8, v3, rfl, own8, hv3, g⟩
          clear c_k15_0 c_k15_1 c_k16_0 c_k16_1 c_k19_0 c_k19_1 c_k21_0 c_k21_1
          replace hg := hg.keep g
          replace own2 := own2.keep g
          replace own3 := own3.keep g
          replace own5 := own5.keep g
          replace k15 := k15.keep g
          replace k16 := k16.keep g
          replace own6 := own6.keep g
          replace hv1 := hv1.keep g
          replace k19 := k19.keep g
          replace own7 := own7.keep g
          replace hv2 := hv2.keep g
          replace k21 := k21.keep g
          have b_27 := bb b_25 g
          clear b_25
          clear g
          have c_k15_0 := (Blk.cell k15 0).trans (show _ = some (.int .i64 (a : Int)) from rfl)
          have c_k15_1 := (Blk.cell k15 1).trans (show _ = some (.slice A2 l2.length c2) from rfl)
          have c_k16_0 := (Blk.cell k16 0).trans (show _ = some (.int .i64 (a : Int)) from rfl)
          have c_k16_1 := (Blk.cell k16 1).trans (show _ = some (.slice A3 l2.length c3) from rfl)
          have c_k19_0 := (Blk.cell k19 0).trans (show _ = some (.int .i64 gN) from rfl)
          have c_k19_1 := (Blk.cell k19 1).trans (show _ = some (.slice A6 gL.length c6) from rfl)
          have c_k21_0 := (Blk.cell k21 0).trans (show _ = some (.int .i64 pN) from rfl)
          have c_k21_1 := (Blk.cell k21 1).trans (show _ = some (.slice A7 pL.length c7) from rfl)
          clear own8 hv3
          go_wp2_with fail
          have SY := fun W (R : Rd W A2 l2) (S : Rd W A3 l2) => Syms_c (n := (a : Int)) (m := (a : Int)) R cap2 S cap3 (by omega) (by omega)
          simp only [and_self, decide_true] at SY
          refine (SY _ own2.rd own3.rd).mono ?_; rintro e w_28 ⟨rfl, g⟩
          clear c_k15_0 c_k15_1 c_k16_0 c_k16_1 c_k19_0 c_k19_1 c_k21_0 c_k21_1
          replace hg := hg.keep g
          replace own2 := own2.keep g
          replace own3 := own3.keep g
          replace own5 := own5.keep g
          replace k15 := k15.keep g
          replace k16 := k16.keep g
          replace own6 := own6.keep g
          replace hv1 := hv1.keep g
          replace k19 := k19.keep g
          replace own7 := own7.keep g
          replace hv2 := hv2.keep g
          replace k21 := k21.keep g
          have b_29 := bb b_27 g
          clear b_27
          clear g
          have c_k15_0 := (Blk.cell k15 0).trans (show _ = some (.int .i64 (a : Int)) from rfl)
          have c_k15_1 := (Blk.cell k15 1).trans (show _ = some (.slice A2 l2.length c2) from rfl)
          have c_k16_0 := (Blk.cell k16 0).trans (show _ = some (.int .i64 (a : Int)) from rfl)
          have c_k16_1 := (Blk.cell k16 1).trans (show _ = some (.slice A3 l2.length c3) from rfl)
          have c_k19_0 := (Blk.cell k19 0).trans (show _ = some (.int .i64 gN) from rfl)
          have c_k19_1 := (Blk.cell k19 1).trans (show _ = some (.slice A6 gL.length c6) from rfl)
          have c_k21_0 := (Blk.cell k21 0).trans (show _ = some (.int .i64 pN) from rfl)
          have c_k21_1 := (Blk.cell k21 1).trans (show _ = some (.slice A7 pL.length c7) from rfl)
          clear SY
          have AT1 := fun W (R : Rd W A2 l2) => SAt_c (n := (a : Int)) R cap2 (by omega) (ir : Int) (jr : Int)
          have AT2 := fun W (R : Rd W A2 l2) => SAt_c (n := (a : Int)) R cap2 (by omega) (jr : Int) (ir : Int)
          obtain ⟨s1, s2⟩ := at_sym (i := (ir : Int)) (j := (jr : Int)) HR.out
          rw [s1, s2] at AT1
          clear s1 s2
          generalize atV (a : Int) l2 (jr : Int) (ir : Int) = av at *
          generalize inE (a : Int) l2 [(jr : Int), (ir : Int)] = ie at *
          by_cases hz : gE = 0
          case pos =>
            obtain ⟨rfl, rfl, rfl⟩ := HPB.out hz
            subst hz
            obtain rfl := hv1.none
            obtain rfl := hv2.none
            clear hv1 hv2
            have SY := fun W (R : Rd W A7 pL) (S : Rd W A2 pL) => Syms_c (n := (a : Int)) (m := (a : Int)) R cap7 S cap2 (by omega) (by omega)
            simp only [and_self, decide_true] at SY
            go_wp2_with fail
            refine (SY _ own7.rd own2.rd).mono ?_; rintro e w_30 ⟨rfl, g⟩
            clear c_k15_0 c_k15_1 c_k16_0 c_k16_1 c_k19_0 c_k19_1 c_k21_0 c_k21_1
            replace hg := hg.keep g
            replace own2 := own2.keep g
            replace own3 := own3.keep g
            replace own5 := own5.keep g
            replace k15 := k15.keep g
            replace k16 := k16.keep g
            replace own6 := own6.keep g
            replace k19 := k19.keep g
            replace own7 := own7.keep g
            replace k21 := k21.keep g
            have b_31 := bb b_29 g
            clear b_29
            clear g
            have c_k15_0 := (Blk.cell k15 0).trans (show _ = some (.int .i64 (a : Int)) from rfl)
            have c_k15_1 := (Blk.cell k15 1).trans (show _ = some (.slice A2 pL.length c2) from rfl)
            have c_k16_0 := (Blk.cell k16 0).trans (show _ = some (.int .i64 (a : Int)) from rfl)
            have c_k16_1 := (Blk.cell k16 1).trans (show _ = some (.slice A3 pL.length c3) from rfl)
            have c_k19_0 := (Blk.cell k19 0).trans (show _ = some (.int .i64 gN) from rfl)
            have c_k19_1 := (Blk.cell k19 1).trans (show _ = some (.slice A6 gL.length c6) from rfl)
            have c_k21_0 := (Blk.cell k21 0).trans (show _ = some (.int .i64 (a : Int)) from rfl)
            have c_k21_1 := (Blk.cell k21 1).trans (show _ = some (.slice A7 pL.length c7) from rfl)
            clear SY
            go_wp2_with fail
            refine (AT1 _ own2.rd).mono ?_; rintro e w_32 ⟨v5, rfl, E5, g⟩
            clear c_k15_0 c_k15_1 c_k16_0 c_k16_1 c_k19_0 c_k19_1 c_k21_0 c_k21_1
            replace hg := hg.keep g
            replace own2 := own2.keep g
            replace own3 := own3.keep g
            replace own5 := own5.keep g
            replace k15 := k15.keep g
            replace k16 := k16.keep g
            replace own6 := own6.keep g
            replace k19 := k19.keep g
            replace own7 := own7.keep g
            replace k21 := k21.keep g
            have b_33 := bb b_31 g
            clear b_31
            clear g
            have c_k15_0 := (Blk.cell k15 0).trans (show _ = some (.int .i64 (a : Int)) from rfl)
            have c_k15_1 := (Blk.cell k15 1).trans (show _ = some (.slice A2 pL.length c2) from rfl)
            have c_k16_0 := (Blk.cell k16 0).trans (show _ = some (.int .i64 (a : Int)) from rfl)
            have c_k16_1 := (Blk.cell k16 1).trans (show _ = some (.slice A3 pL.length c3) from rfl)
            have c_k19_0 := (Blk.cell k19 0).trans (show _ = some (.int .i64 gN) from rfl)
            have c_k19_1 := (Blk.cell k19 1).trans (show _ = some (.slice A6 gL.length c6) from rfl)
            have c_k21_0 := (Blk.cell k21 0).trans (show _ = some (.int .i64 (a : Int)) from rfl)
            have c_k21_1 := (Blk.cell k21 1).trans (show _ = some (.slice A7 pL.length c7) from rfl)
            go_wp2_with fail
            refine (AT2 _ own2.rd).mono ?_; rintro e w_34 ⟨v6, rfl, E6, g⟩
            clear c_k15_0 c_k15_1 c_k16_0 c_k16_1 c_k19_0 c_k19_1 c_k21_0 c_k21_1
            replace hg := hg.keep g
            replace own2 := own2.keep g
            replace own3 := own3.keep g
            replace own5 := own5.keep g
            replace k15 := k15.keep g
            replace k16 := k16.keep g
            replace own6 := own6.keep g
            replace k19 := k19.keep g
            replace own7 := own7.keep g
            replace k21 := k21.keep g
            replace E5 := E5.keep g
            have b_35 := bb b_33 g
            clear b_33
            clear g
            have c_k15_0 := (Blk.cell k15 0).trans (show _ = some (.int .i64 (a : Int)) from rfl)
            have c_k15_1 := (Blk.cell k15 1).trans (show _ = some (.slice A2 pL.length c2) from rfl)
            have c_k16_0 := (Blk.cell k16 0).trans (show _ = some (.int .i64 (a : Int)) from rfl)
            have c_k16_1 := (Blk.cell k16 1).trans (show _ = some (.slice A3 pL.length c3) from rfl)
            have c_k19_0 := (Blk.cell k19 0).trans (show _ = some (.int .i64 gN) from rfl)
            have c_k19_1 := (Blk.cell k19 1).trans (show _ = some (.slice A6 gL.length c6) from rfl)
            have c_k21_0 := (Blk.cell k21 0).trans (show _ = some (.int .i64 (a : Int)) from rfl)
            have c_k21_1 := (Blk.cell k21 1).trans (show _ = some (.slice A7 pL.length c7) from rfl)
            go_wp2_with fail
            refine (Code_is _ hg E5.is).mono ?_; rintro e w_36 ⟨rfl, g⟩
            clear c_k15_0 c_k15_1 c_k16_0 c_k16_1 c_k19_0 c_k19_1 c_k21_0 c_k21_1
            replace hg := hg.keep g
            replace own2 := own2.keep g
            replace own3 := own3.keep g
            replace own5 := own5.keep g
            replace k15 := k15.keep g
            replace k16 := k16.keep g
            replace own6 := own6.keep g
            replace k19 := k19.keep g
            replace own7 := own7.keep g
            replace k21 := k21.keep g
            replace E5 := E5.keep g
            replace E6 := E6.keep g
            have b_37 := bb b_35 g
            clear b_35
            clear g
            have c_k15_0 := (Blk.cell k15 0).trans (show _ = some (.int .i64 (a : Int)) from rfl)
            have c_k15_1 := (Blk.cell k15 1).trans (show _ = some (.slice A2 pL.length c2) from rfl)
            have c_k16_0 := (Blk.cell k16 0).trans (show _ = some (.int .i64 (a : Int)) from rfl)
            have c_k16_1 := (Blk.cell k16 1).trans (show _ = some (.slice A3 pL.length c3) from rfl)
            have c_k19_0 := (Blk.cell k19 0).trans (show _ = some (.int .i64 gN) from rfl)
            have c_k19_1 := (Blk.cell k19 1).trans (show _ = some (.slice A6 gL.length c6) from rfl)
            have c_k21_0 := (Blk.cell k21 0).trans (show _ = some (.int .i64 (a : Int)) from rfl)
            have c_k21_1 := (Blk.cell k21 1).trans (show _ = some (.slice A7 pL.length c7) from rfl)
            go_wp2_with fail
            refine (Code_is _ hg E6.is).mono ?_; rintro e w_38 ⟨rfl, g⟩
            clear c_k15_0 c_k15_1 c_k16_0 c_k16_1 c_k19_0 c_k19_1 c_k21_0 c_k21_1
            replace hg := hg.keep g
            replace own2 := own2.keep g
            replace own3 := own3.keep g
            replace own5 := own5.keep g
            replace k15 := k15.keep g
            replace k16 := k16.keep g
            replace own6 := own6.keep g
            replace k19 := k19.keep g
            replace own7 := own7.keep g
            replace k21 := k21.keep g
            replace E5 := E5.keep g
            replace E6 := E6.keep g
            have b_39 := bb b_37 g
            clear b_37
            clear g
            have c_k15_0 := (Blk.cell k15 0).trans (show _ = some (.int .i64 (a : Int)) from rfl)
            have c_k15_1 := (Blk.cell k15 1).trans (show _ = some (.slice A2 pL.length c2) from rfl)
            have c_k16_0 := (Blk.cell k16 0).trans (show _ = some (.int .i64 (a : Int)) from rfl)
            have c_k16_1 := (Blk.cell k16 1).trans (show _ = some (.slice A3 pL.length c3) from rfl)
            have c_k19_0 := (Blk.cell k19 0).trans (show _ = some (.int .i64 gN) from rfl)
            have c_k19_1 := (Blk.cell k19 1).trans (show _ = some (.slice A6 gL.length c6) from rfl)
            have c_k21_0 := (Blk.cell k21 0).trans (show _ = some (.int .i64 (a : Int)) from rfl)
            have c_k21_1 := (Blk.cell k21 1).trans (show _ = some (.slice A7 pL.length c7) from rfl)
            go_wp2_with fail
            go_ret
            exact ⟨rfl, b_39⟩
          case neg =>
            obtain ⟨fa, rfl⟩ := hv1.is.some hz
            clear hz hv1
            go_wp2_with fail
            refine (AT1 _ own2.rd).mono ?_; rintro e w_30 ⟨v5, rfl, E5, g⟩
            clear c_k15_0 c_k15_1 c_k16_0 c_k16_1 c_k19_0 c_k19_1 c_k21_0 c_k21_1
            replace hg := hg.keep g
            replace own2 := own2.keep g
            replace own3 := own3.keep g
            replace own5 := own5.keep g
            replace k15 := k15.keep g
            replace k16 := k16.keep g
            replace own6 := own6.keep g
            replace k19 := k19.keep g
            replace own7 := own7.keep g
            replace hv2 := hv2.keep g
            replace k21 := k21.keep g
            have b_31 := bb b_29 g
            clear b_29
            clear g
            have c_k15_0 := (Blk.cell k15 0).trans (show _ = some (.int .i64 (a : Int)) from rfl)
            have c_k15_1 := (Blk.cell k15 1).trans (show _ = some (.slice A2 l2.length c2) from rfl)
            have c_k16_0 := (Blk.cell k16 0).trans (show _ = some (.int .i64 (a : Int)) from rfl)
            have c_k16_1 := (Blk.cell k16 1).trans (show _ = some (.slice A3 l2.length c3) from rfl)
            have c_k19_0 := (Blk.cell k19 0).trans (show _ = some (.int .i64 gN) from rfl)
            have c_k19_1 := (Blk.cell k19 1).trans (show _ = some (.slice A6 gL.length c6) from rfl)
            have c_k21_0 := (Blk.cell k21 0).trans (show _ = some (.int .i64 pN) from rfl)
            have c_k21_1 := (Blk.cell k21 1).trans (show _ = some (.slice A7 pL.length c7) from rfl)
            go_wp2_with fail
            refine (AT2 _ own2.rd).mono ?_; rintro e w_32 ⟨v6, rfl, E6, g⟩
            clear c_k15_0 c_k15_1 c_k16_0 c_k16_1 c_k19_0 c_k19_1 c_k21_0 c_k21_1
            replace hg := hg.keep g
            replace own2 := own2.keep g
            replace own3 := own3.keep g
            replace own5 := own5.keep g
            replace k15 := k15.keep g
            replace k16 := k16.keep g
            replace own6 := own6.keep g
            replace k19 := k19.keep g
            replace own7 := own7.keep g
            replace hv2 := hv2.keep g
            replace k21 := k21.keep g
            replace E5 := E5.keep g
            have b_33 := bb b_31 g
            clear b_31
            clear g
            have c_k15_0 := (Blk.cell k15 0).trans (show _ = some (.int .i64 (a : Int)) from rfl)
            have c_k15_1 := (Blk.cell k15 1).trans (show _ = some (.slice A2 l2.length c2) from rfl)
            have c_k16_0 := (Blk.cell k16 0).trans (show _ = some (.int .i64 (a : Int)) from rfl)
            have c_k16_1 := (Blk.cell k16 1).trans (show _ = some (.slice A3 l2.length c3) from rfl)
            have c_k19_0 := (Blk.cell k19 0).trans (show _ = some (.int .i64 gN) from rfl)
            have c_k19_1 := (Blk.cell k19 1).trans (show _ = some (.slice A6 gL.length c6) from rfl)
            have c_k21_0 := (Blk.cell k21 0).trans (show _ = some (.int .i64 pN) from rfl)
            have c_k21_1 := (Blk.cell k21 1).trans (show _ = some (.slice A7 pL.length c7) from rfl)
            go_wp2_with fail
            refine (Code_is _ hg E5.is).mono ?_; rintro e w_34 ⟨rfl, g⟩
            clear c_k15_0 c_k15_1 c_k16_0 c_k16_1 c_k19_0 c_k19_1 c_k21_0 c_k21_1
            replace hg := hg.keep g
            replace own2 := own2.keep g
            replace own3 := own3.keep g
            replace own5 := own5.keep g
            replace k15 := k15.keep g
            replace k16 := k16.keep g
            replace own6 := own6.keep g
            replace k19 := k19.keep g
            replace own7 := own7.keep g
            replace hv2 := hv2.keep g
            replace k21 := k21.keep g
            replace E5 := E5.keep g
            replace E6 := E6.keep g
            have b_35 := bb b_33 g
            clear b_33
            clear g
            have c_k15_0 := (Blk.cell k15 0).trans (show _ = some (.int .i64 (a : Int)) from rfl)
            have c_k15_1 := (Blk.cell k15 1).trans (show _ = some (.slice A2 l2.length c2) from rfl)
            have c_k16_0 := (Blk.cell k16 0).trans (show _ = some (.int .i64 (a : Int)) from rfl)
            have c_k16_1 := (Blk.cell k16 1).trans (show _ = some (.slice A3 l2.length c3) from rfl)
            have c_k19_0 := (Blk.cell k19 0).trans (show _ = some (.int .i64 gN) from rfl)
            have c_k19_1 := (Blk.cell k19 1).trans (show _ = some (.slice A6 gL.length c6) from rfl)
            have c_k21_0 := (Blk.cell k21 0).trans (show _ = some (.int .i64 pN) from rfl)
            have c_k21_1 := (Blk.cell k21 1).trans (show _ = some (.slice A7 pL.length c7) from rfl)
            go_wp2_with fail
            refine (Code_is _ hg E6.is).mono ?_; rintro e w_36 ⟨rfl, g⟩
            clear c_k15_0 c_k15_1 c_k16_0 c_k16_1 c_k19_0 c_k19_1 c_k21_0 c_k21_1
            replace hg := hg.keep g
            replace own2 := own2.keep g
            replace own3 := own3.keep g
            replace own5 := own5.keep g
            replace k15 := k15.keep g
            replace k16 := k16.keep g
            replace own6 := own6.keep g
            replace k19 := k19.keep g
            replace own7 := own7.keep g
            replace hv2 := hv2.keep g
            replace k21 := k21.keep g
            replace E5 := E5.keep g
            replace E6 := E6.keep g
            have b_37 := bb b_35 g
            clear b_35
            clear g
            have c_k15_0 := (Blk.cell k15 0).trans (show _ = some (.int .i64 (a : Int)) from rfl)
            have c_k15_1 := (Blk.cell k15 1).trans (show _ = some (.slice A2 l2.length c2) from rfl)
            have c_k16_0 := (Blk.cell k16 0).trans (show _ = some (.int .i64 (a : Int)) from rfl)
            have c_k16_1 := (Blk.cell k16 1).trans (show _ = some (.slice A3 l2.length c3) from rfl)
            have c_k19_0 := (Blk.cell k19 0).trans (show _ = some (.int .i64 gN) from rfl)
            have c_k19_1 := (Blk.cell k19 1).trans (show _ = some (.slice A6 gL.length c6) from rfl)
            have c_k21_0 := (Blk.cell k21 0).trans (show _ = some (.int .i64 pN) from rfl)
            have c_k21_1 := (Blk.cell k21 1).trans (show _ = some (.slice A7 pL.length c7) from rfl)
            go_wp2_with fail
            go_ret
            exact ⟨rfl, b_37⟩
end Go.Proofs.YtfcandmhalhaeaaDoor.YSym
