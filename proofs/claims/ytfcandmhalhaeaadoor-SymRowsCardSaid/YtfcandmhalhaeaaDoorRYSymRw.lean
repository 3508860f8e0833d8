/- Lean functions, contracts and lemmas that this claim needs. No condition. -/
import Derived.Test.YtfcandmhalhaeaaDoorRYSymTl
import Derived.Deep.RegionHeldLaw
namespace Go.Proofs.YtfcandmhalhaeaaDoor.YSym
open Go.RowKit Go.Proofs.YtfcandmhalhaeaaDoor.YErr Go.Proofs.YtfcandmhalhaeaaDoor.YInv Go.Proofs.YtfcandmhalhaeaaDoor.YRef Go.Proofs.YtfcandmhalhaeaaDoor.YBits Go.Proofs.YtfcandmhalhaeaaDoor.YNum Go.Proofs.YtfcandmhalhaeaaDoor.QSy Go.Proofs.YtfcandmhalhaeaaDoor.YWide Go.Proofs.YtfcandmhalhaeaaDoorW.PrintWords Go.Proofs.YtfcandmhalhaeaaDoorW.PrintLast
set_option linter.unusedVariables false
set_option linter.unusedSimpArgs false
/-- What Grow tells. -/
def groE (n : Int) (l : List Int) (k : Int) : Int := if rightB n l = true then (if k < 0 then 20 else if 8 - n < k then 23 else 0) else 23
def groF (n N : Nat) (l : List Int) (q : Nat) : Int := if colOf N q < n then l.getD (pl n (rowOf N q) (colOf N q)) 0 else 0
def groN (n : Int) (l : List Int) (k : Int) : Int := if groE n l k = 0 then n + k else 0
def groL (n : Int) (l : List Int) (k : Int) : List Int := if groE n l k = 0 then (List.range (tri (n + k).toNat)).map (groF n.toNat (n + k).toNat l) else []
theorem gro_bad {n : Int} {l : List Int} {k e : Int} (h : groE n l k = e) (he : e ≠ 0) : groN n l k = 0 ∧ groL n l k = [] := by
  unfold groN groL
  rw [h, if_neg he, if_neg he]
  exact ⟨rfl, rfl⟩
theorem groF_at {n N i j : Nat} (hN : N ≤ 8) (hn : n ≤ N) (hi : i ≤ j) (hj : j < n) (l : List Int) : groF n N l (pl N i j) = l.getD (pl n i j) 0 := by
  unfold groF
  rw [(rc_pl hN hi (by omega)).1, (rc_pl hN hi (by omega)).2, if_pos hj]
theorem groF_0 {n N i j : Nat} (hN : N ≤ 8) (hi : i ≤ j) (hj : j < N) (h : n ≤ j) (l : List Int) : groF n N l (pl N i j) = 0 := by
  unfold groF
  rw [(rc_pl hN hi hj).2, if_neg (by omega)]
theorem gro_mid {n N i q : Nat} (hN : N ≤ 8) (hn : n ≤ N) (hi : i < n) (h1 : pl N i n ≤ q) (h2 : q < pl N (i + 1) (i + 1)) : n ≤ colOf N q := by
  have h : ∀ N : Fin 9, ∀ n : Fin 9, ∀ i : Fin 8, ∀ q : Fin 37, n.1 ≤ N.1 → i.1 < n.1 → pl N.1 i.1 n.1 ≤ q.1 → q.1 < pl N.1 (i.1 + 1) (i.1 + 1) → n.1 ≤ colOf N.1 q.1 := by decide +kernel
  have e : pl N (i + 1) (i + 1) ≤ 36 := all3 (P := fun N i _ => i < N → pl N (i + 1) (i + 1) ≤ 36) (by decide +kernel) hN (i := i) (j := 0) (by omega) (by omega) (by omega)
  exact h ⟨N, by omega⟩ ⟨n, by omega⟩ ⟨i, by omega⟩ ⟨q, by omega⟩ hn hi h1 h2
theorem gro_end {n N q : Nat} (hN : N ≤ 8) (hn : n ≤ N) (h1 : pl N n n ≤ q) (h2 : q < tri N) : n ≤ colOf N q := by
  have h : ∀ N : Fin 9, ∀ n : Fin 9, ∀ q : Fin 37, n.1 ≤ N.1 → pl N.1 n.1 n.1 ≤ q.1 → q.1 < tri N.1 → n.1 ≤ colOf N.1 q.1 := by decide +kernel
  have := tri_le hN
  exact h ⟨N, by omega⟩ ⟨n, by omega⟩ ⟨q, by omega⟩ hn h1 h2
theorem curL_rep (f : Nat → Int) (T : Nat) : curL f (List.replicate T 0) T = (List.range T).map f := by
  have := curL_end f (List.replicate T 0)
  simpa using this
/-- What Grow's loops keep. -/
structure GIn (W wx : World) (g7 n N : Nat) (l : List Int) (A : Option Addr) (c : Nat) (Ao : Option Addr) (co k : Nat) : Prop where
  k0 : Blk wx W.heap.size #[.int .i64 (n : Int), .slice A l.length c] 24
  k1 : Blk wx (W.heap.size + 1) #[.int .i64 0, .slice none 0 0] 24
  k7 : Blk wx g7 #[.int .i64 (N : Int), .slice Ao (tri N) co] 24
  rd : Rd wx A l
  ow : OwnI wx (W.heap.size + 2) Ao co (curL (groF n N l) (List.replicate (tri N) 0) k)
  b : Below W.heap.size W wx
theorem OwnI.typ {w : World} {B c : Nat} {A : Option Addr} {l : List Int} (S : OwnI w B A c l) : ∀ g, A = some ⟨g, 0, none⟩ → ∃ cur, Blk w g cur 2 := by
  intro g e
  obtain ⟨h1, h2 | ⟨b, cap, cur, hv, hb, hw, r⟩⟩ := S
  · injection h2.1 with e1; rw [e1] at e; cases e
  · injection hv with e1
    rw [e1] at e
    injection e with e
    injection e with e
    subst e
    exact ⟨cur, hw⟩
theorem GIn.keep {W wx wy : World} {g7 n N : Nat} {l : List Int} {A : Option Addr} {c : Nat} {Ao : Option Addr} {co k : Nat} (h : GIn W wx g7 n N l A c Ao co k) (g : Below wx.heap.size wx wy) : GIn W wy g7 n N l A c Ao co k :=
  ⟨h.k0.keep g, h.k1.keep g, h.k7.keep g, h.rd.keep g, h.ow.keep g, bb h.b g⟩
/-- The row that is read is no row that is written: its cells were there when the call began. -/
theorem GIn.store {W wx : World} {g7 n N : Nat} {l : List Int} {A : Option Addr} {c g co k : Nat} (h : GIn W wx g7 n N l A c (some ⟨g, 0, none⟩) co k) (hA : Rd W A l) (hk : k < tri N) : GIn W (wx.setCell ⟨g, k, none⟩ (.int .i64 (groF n N l k))) g7 n N l A c (some ⟨g, 0, none⟩) co (k + 1) := by
  have hg : W.heap.size + 2 ≤ g := by
    rcases h.ow.form with ⟨e, _⟩ | ⟨g', e, hb, _⟩
    · cases e
    · cases e; exact hb
  have b2 := h.b.setCell (p := ⟨g, k, none⟩) (by show W.heap.size ≤ g; omega) (.int .i64 (groF n N l k))
  refine ⟨Blk.setOther h.k0 (by show g ≠ _; omega) _, Blk.setOther h.k1 (by show g ≠ _; omega) _, Blk.setOther h.k7 (fun e => h.ow.ne_ty h.k7 g rfl e.symm) _, hA.keep b2, ?_, b2⟩
  rw [← curL_set (by simpa using hk)]
  exact OwnI.set h.ow (by rw [curL_len (by simp; omega)]; simpa using hk) _
theorem GIn.skip {W wx : World} {g7 n N : Nat} {l : List Int} {A : Option Addr} {c : Nat} {Ao : Option Addr} {co k k' : Nat} (h : GIn W wx g7 n N l A c Ao co k) (hk : k ≤ k') (hl : k' ≤ tri N) (hf : ∀ q, k ≤ q → q < k' → n ≤ colOf N q) : GIn W wx g7 n N l A c Ao co k' :=
  ⟨h.k0, h.k1, h.k7, h.rd, by
    rw [curL_skips hk (by simpa using hl) (fun q h1 h2 => by
      unfold groF
      rw [if_neg (by have := hf q h1 h2; omega)]
      simp only [List.getD_eq_getElem?_getD, List.getElem?_replicate]; split <;> rfl)]
    exact h.ow, h.b⟩
set_option maxRecDepth 100000 in
set_option maxHeartbeats 16000000 in
theorem SGrow_c {n : Int} {w : World} {A : Option Addr} {c : Nat} {l : List Int} (R : Rd w A l) (hc : l.length ≤ c) (hl : l.length ≤ 1000) (kk : Int) (hk64 : W64 kk) :
    Calls Tryd.prog 20 #[.agg #[.int .i64 n, .slice A l.length c], .int .i64 kk] w fun e w' => SymEnd w (groN n l kk) (groL n l kk) (groE n l kk) e w' := by
  have k0 := ((Blk.new w #[.int .i64 n, .slice A l.length c] 24).alloc (.cells #[.int .i64 0, .slice none 0 0] 24))
  have k1 : Blk ((w.alloc (.cells #[.int .i64 n, .slice A l.length c] 24)).alloc (.cells #[.int .i64 0, .slice none 0 0] 24)) (w.heap.size + 1) #[.int .i64 0, .slice none 0 0] 24 := by
    have := (Blk.new (w.alloc (.cells #[.int .i64 n, .slice A l.length c] 24)) #[.int .i64 0, .slice none 0 0] 24)
    simpa using this
  have b0 : Below w.heap.size w ((w.alloc (.cells #[.int .i64 n, .slice A l.length c] 24)).alloc (.cells #[.int .i64 0, .slice none 0 0] 24)) := (((Below.refl _ _).alloc (Nat.le_refl _) _).alloc (by simp) _)
  have hs0 : w.heap.size + 2 ≤ ((w.alloc (.cells #[.int .i64 n, .slice A l.length c] 24)).alloc (.cells #[.int .i64 0, .slice none 0 0] 24)).heap.size := by simp
  have IN := in_c (n := n) (B := none) (d := 0) (q := []) (R.keep b0) hc hl (Rd.nil _ _) (by decide)
  have HR0 := Lib.hid R
  have BD23 := fun W => bad_c 23 (by decide) W
  have BD20 := fun W => bad_c 20 (by decide) W
  rw [inE_nil] at IN
  go_enter Tryd.func20, Tryd.ntmps20
  go_wp2_with fail
  refine IN.mono ?_; rintro e w1 ⟨ve, rfl, hve, g1⟩
  have b1 := bb b0 g1
  have hs1 := Nat.le_trans hs0 g1.size
  replace k0 := k0.keep g1
  replace k1 := k1.keep g1
  replace hve := hve.mono hs0
  have z0 := (k1.cell 0).trans (show _ = some (.int .i64 0) from rfl)
  have z1 := (k1.cell 1).trans (show _ = some (.slice none 0 0) from rfl)
  have y0 := k1.free 0
  have y1 := k1.free 1
  have c0 := (k0.cell 0).trans (show _ = some (.int .i64 n) from rfl)
  have c1 := (k0.cell 1).trans (show _ = some (.slice A l.length c) from rfl)
  clear IN g1 b0 hs0 R
  cases hr : rightB n l with
  | false =>
    have HE := Lib.hid (show groE n l kk = 23 by unfold groE; rw [if_neg (by rw [hr]; decide)])
    have HB := Lib.hid (gro_bad HE.out (by decide))
    rw [hr, if_neg (by decide)] at hve
    obtain ⟨a, rfl⟩ := hve.is.some (by decide)
    clear hr
    go_wp2_with fail
    refine bodyPost_ret (v := .tuple #[.agg #[.int .i64 0, .slice none 0 0], .iface 131 (.pointer (some a))]) ?_ rfl ?_
    · rw [results_cell_tmp rfl]
      go_simp
    · rw [HB.out.1, HB.out.2, HE.out]
      have P := put2 (.int .i64 0) (.slice none 0 0) k1 b1 (by omega)
      exact ⟨none, 0, _, rfl, OwnI.nil _ _, (P.err hve (by omega)).mono (by omega), P.below⟩
  | true =>
    rw [hr, if_pos rfl] at hve
    obtain rfl := hve.none
    obtain ⟨m, rfl, hm, hlen, hall⟩ := rightB_nat hr
    have HR := Lib.hid hr
    have HLN := Lib.hid hlen
    have HM := Lib.hid hm
    have mI : (m : Int) ≤ 8 := by omega
    have m0 : (0 : Int) ≤ (m : Int) := by omega
    have HX := Lib.hid hk64
    clear hve hr hlen hall
    by_cases hk0 : kk < 0
    case pos =>
      have HE := Lib.hid (show groE m l kk = 20 by unfold groE; rw [if_pos HR.out, if_pos hk0])
      have HB := Lib.hid (gro_bad HE.out (by decide))
      have e1 : decide (kk < 0) = true := by simpa using hk0
      clear hk0 hk64
      go_wp2_with fail
      refine (BD20 _).mono ?_; rintro e w2 ⟨v, rfl, hv, g2⟩
      have b2 := bb b1 g2
      replace hv := hv.mono hs1
      replace k1 := k1.keep g2
      have z0 := (k1.cell 0).trans (show _ = some (.int .i64 0) from rfl)
      have z1 := (k1.cell 1).trans (show _ = some (.slice none 0 0) from rfl)
      have y0 := k1.free 0
      have y1 := k1.free 1
      go_wp2_with fail
      refine bodyPost_ret (v := .tuple #[.agg #[.int .i64 0, .slice none 0 0], v]) ?_ rfl ?_
      · rw [results_cell_tmp rfl]
        go_simp
      · rw [HB.out.1, HB.out.2, HE.out]
        have P := put2 (.int .i64 0) (.slice none 0 0) k1 b2 (by omega)
        exact ⟨none, 0, _, rfl, OwnI.nil _ _, (P.err hv (by omega)).mono (by omega), P.below⟩
    case neg =>
      have e1 : decide (kk < 0) = false := by simpa using hk0
      by_cases hk1 : 8 - (m : Int) < kk
      case pos =>
        have HE := Lib.hid (show groE m l kk = 23 by unfold groE; rw [if_pos HR.out, if_neg hk0, if_pos hk1])
        have HB := Lib.hid (gro_bad HE.out (by decide))
        have e2 : decide (8 - (m : Int) < kk) = true := by simpa using hk1
        clear hk0 hk64 hk1
        go_wp2_with fail
        refine (BD23 _).mono ?_; rintro e w2 ⟨v, rfl, hv, g2⟩
        have b2 := bb b1 g2
        replace hv := hv.mono hs1
        replace k1 := k1.keep g2
        have z0 := (k1.cell 0).trans (show _ = some (.int .i64 0) from rfl)
        have z1 := (k1.cell 1).trans (show _ = some (.slice none 0 0) from rfl)
        have y0 := k1.free 0
        have y1 := k1.free 1
        go_wp2_with fail
        refine bodyPost_ret (v := .tuple #[.agg #[.int .i64 0, .slice none 0 0], v]) ?_ rfl ?_
        · rw [results_cell_tmp rfl]
          go_simp
        · rw [HB.out.1, HB.out.2, HE.out]
          have P := put2 (.int .i64 0) (.slice none 0 0) k1 b2 (by omega)
          exact ⟨none, 0, _, rfl, OwnI.nil _ _, (P.err hv (by omega)).mono (by omega), P.below⟩
      case neg =>
        have e2 : decide (8 - (m : Int) < kk) = false := by simpa using hk1
        obtain ⟨N, hN⟩ : ∃ N : Nat, (m : Int) + kk = (N : Int) := ⟨((m : Int) + kk).toNat, by omega⟩
        have hN8 : N ≤ 8 := by omega
        have hmN : m ≤ N := by omega
        have HE := Lib.hid (show groE m l kk = 0 by unfold groE; rw [if_pos HR.out, if_neg hk0, if_neg hk1])
        have HN := Lib.hid (show groN m l kk = (N : Int) by unfold groN; rw [if_pos HE.out, hN])
        have HL := Lib.hid (show groL m l kk = (List.range (tri N)).map (groF m N l) by unfold groL; rw [if_pos HE.out, hN]; rfl)
        have NW := fun W => New_c (N : Int) W
        rw [clip_of hN8] at NW
        simp only [List.length_replicate] at NW
        have HN8 := Lib.hid hN8
        have HMN := Lib.hid hmN
        have HHN := Lib.hid hN
        have NI : (N : Int) ≤ 8 := by omega
        have N0 : (0 : Int) ≤ (N : Int) := by omega
        have k2 : kk = (N : Int) - (m : Int) := by omega
        clear hk0 hk1 hk64 BD20 BD23
        subst k2
        have e3 : (m : Int) + ((N : Int) - (m : Int)) = (N : Int) := by omega
        go_wp2_with fail
        (try rw [e3])
        refine (NW _).mono ?_; rintro e w2 ⟨Ao, co, rfl, own, g2⟩
        have GA : Below w2.heap.size w2 (w2.alloc (.cells #[.int .i64 (N : Int), .slice Ao (tri N) co] 24)) := (Below.refl _ _).alloc (Nat.le_refl _) _
        have b3 := bb (bb b1 g2) GA
        have GI : GIn w (w2.alloc (.cells #[.int .i64 (N : Int), .slice Ao (tri N) co] 24)) w2.heap.size m N l A c Ao co 0 :=
          ⟨(k0.keep g2).keep GA, (k1.keep g2).keep GA, Blk.new w2 _ _, HR0.out.keep b3, by rw [curL_0]; exact (own.mono hs1).keep GA, b3⟩
        have HG := Lib.hid GI
        have q0 := (GI.k0.cell 0).trans (show _ = some (.int .i64 (m : Int)) from rfl)
        clear own g2 GA k0 k1 b1 b3 z0 z1 y0 y1 c0 c1 GI NW hs1 e1 e2
        go_wp2_with fail
        generalize w2.alloc (.cells #[.int .i64 (N : Int), .slice Ao (tri N) co] 24) = w3 at *
        generalize w2.heap.size = g7 at *
        clear q0
        go_loopw [36] (fun s36 wl => ∃ i : Nat, i ≤ m ∧ s36 = .int .i64 i ∧ GIn w wl g7 m N l A c Ao co (pl N i i)) (fun s36 _ => m - (intOf s36).toNat)
        case atStart => exact ⟨0, Nat.zero_le _, rfl, by rw [pl_first]; exact HG.out⟩
        case round =>
          clear HG
          obtain ⟨i, hi, rfl, GI⟩ := hrel
          have i0 : (0 : Int) ≤ (i : Int) := by omega
          by_cases him : i < m
          · have i1 : (i : Int) < (m : Int) := by omega
            have i2 : decide ((i : Int) < (m : Int)) = true := by simpa using him
            have HG := Lib.hid GI
            clear GI
            go_wp2_with fail
            clear i2
            go_loopw [9] (fun s9 wl => ∃ j : Nat, i ≤ j ∧ j ≤ m ∧ s9 = .int .i64 j ∧ GIn w wl g7 m N l A c Ao co (pl N i j)) (fun s9 _ => m - (intOf s9).toNat)
            case atStart => exact ⟨i, Nat.le_refl _, hi, rfl, HG.out⟩
            case round =>
              clear HG
              obtain ⟨j, hij, hj, rfl, GI⟩ := hrel
              have j0 : (0 : Int) ≤ (j : Int) := by omega
              have q0 := (GI.k0.cell 0).trans (show _ = some (.int .i64 (m : Int)) from rfl)
              have q1 := (GI.k0.cell 1).trans (show _ = some (.slice A l.length c) from rfl)
              have r0 := (GI.k7.cell 0).trans (show _ = some (.int .i64 (N : Int)) from rfl)
              have r1 := (GI.k7.cell 1).trans (show _ = some (.slice Ao (tri N) co) from rfl)
              by_cases hjm : j < m
              · have j1 : (j : Int) < (m : Int) := by omega
                have j2 : decide ((j : Int) < (m : Int)) = true := by simpa using hjm
                have hp : pl m i j < tri m := pl_lt HM.out him hjm
                have hP : pl N i j < tri N := pl_lt HN8.out (by have := HMN.out; omega) (by have := HMN.out; omega)
                have P1 := fun W => place_c HM.out (show i ≤ m by omega) (show j ≤ m by omega) W
                have P2 := fun W => place_c HN8.out (show i ≤ N by have := HMN.out; omega) (show j ≤ N by have := HMN.out; omega) W
                have hcl : (curL (groF m N l) (List.replicate (tri N) 0) (pl N i j)).length = tri N := by rw [curL_len (by simp; omega)]; simp
                rcases GI.ow.form with ⟨_, _, e⟩ | ⟨g, rfl, hg, hg2, _, _⟩
                · rw [e] at hcl; simp at hcl; omega
                have hlen := HLN.out
                obtain ⟨ga, oa, rfl, HRC⟩ := GI.rd (by omega)
                have hga : ga < w.heap.size := by
                  obtain ⟨g', o', e, h'⟩ := HR0.out (by omega)
                  cases e
                  exact lt_of_cell (h' 0 (by omega))
                have hne : g7 ≠ g := GI.ow.ne_ty GI.k7 g rfl
                have cp := HRC (pl m i j) (by omega)
                have p0 : (0 : Int) ≤ ((pl m i j : Nat) : Int) := by omega
                have p1 : ((pl m i j : Nat) : Int) < (l.length : Int) := by omega
                have p2 : (0 : Int) ≤ ((pl N i j : Nat) : Int) := by omega
                have p3 : ((pl N i j : Nat) : Int) < ((tri N : Nat) : Int) := by omega
                have cq := GI.ow.at_ (i := pl N i j) (by rw [hcl]; exact hP)
                have fq := GI.ow.free (pl N i j)
                have ST := Lib.hid (GI.store HR0.out hP)
                have HF := Lib.hid (groF_at HN8.out HMN.out hij hjm l)
                have HNX := Lib.hid (pl_next N hij)
                clear HRC hcl hlen hp hP GI
                generalize hq' : l.getD (pl m i j) 0 = lq at *
                generalize (curL (groF m N l) (List.replicate (tri N) 0) (pl N i j)).getD (pl N i j) 0 = oldv at *
                generalize pl m i j = p at *
                generalize hP' : pl N i j = q at *
                generalize hT : tri N = T at *
                have HP' := Lib.hid hP'
                have HT := Lib.hid hT
                have HQ' := Lib.hid hq'
                clear hP' hT hq'
                go_wp2_with fail
                go_region_held3 (fun w' => w'.cell? ⟨w.heap.size, 0, none⟩ = some (.int .i64 (m : Int)) ∧ w'.cell? ⟨w.heap.size, 1, none⟩ = some (.slice (some ⟨ga, oa, none⟩) l.length c) ∧ w'.cell? ⟨g7, 0, none⟩ = some (.int .i64 (N : Int)) ∧ w'.cell? ⟨g7, 1, none⟩ = some (.slice (some ⟨g, 0, none⟩) T co) ∧ w'.cell? ⟨ga, oa + p, none⟩ = some (.int .i64 lq))
                  (first | exact ⟨q0, q1, r0, r1, cp⟩ | exact ⟨(World.cell?_setCell_far _ _ _ _ (by show g ≠ w.heap.size; omega)).trans q0, (World.cell?_setCell_far _ _ _ _ (by show g ≠ w.heap.size; omega)).trans q1, (World.cell?_setCell_far _ _ _ _ (by show g ≠ g7; omega)).trans r0, (World.cell?_setCell_far _ _ _ _ (by show g ≠ g7; omega)).trans r1, (World.cell?_setCell_far _ _ _ _ (by show g ≠ ga; omega)).trans cp⟩)
                  (first
                    | (go_at_call 37; first
                      | ((with_reducible refine (P1 _).mono ?_); rintro e w8 ⟨rfl, n8, rfl⟩)
                      | ((with_reducible refine (P2 _).mono ?_); rintro e w9 ⟨rfl, n9, rfl⟩)))
                have G1 := ST.out
                rw [HF.out, ← HNX.out] at G1
                have G2 : GIn w ((wr.drewN (1 + n9 + n8)).setCell ⟨g, q, none⟩ (.int .i64 lq)) g7 m N l (some ⟨ga, oa, none⟩) c (some ⟨g, 0, none⟩) co (pl N i (j + 1)) := GIn.keep (wx := wr.setCell ⟨g, q, none⟩ (.int .i64 lq)) G1 (by exact below_drewN (Below.refl (wr.setCell ⟨g, q, none⟩ (.int .i64 lq)).heap.size (wr.setCell ⟨g, q, none⟩ (.int .i64 lq))) (1 + n9 + n8))
                have HG2 := Lib.hid G2
                clear G1 G2 ST P1 P2 q0 q1 r0 r1 cp cq fq
                generalize (wr.drewN (1 + n9 + n8)).setCell ⟨g, q, none⟩ (.int .i64 lq) = W9 at *
                go_wp2_with fail
                exact ⟨⟨j + 1, by omega, by omega, by go_num, HG2.out⟩, by simp [intOf]; omega⟩
              · obtain rfl : j = m := by omega
                have j2 : decide ((j : Int) < (j : Int)) = false := by simp
                have e9 : pl N (i + 1) (i + 1) ≤ tri N := all3 (P := fun N i _ => i < N → pl N (i + 1) (i + 1) ≤ tri N) (by decide +kernel) HN8.out (i := i) (j := 0) (by have := HN8.out; have := HMN.out; omega) (by omega) (by have := HMN.out; omega)
                have e8 : pl N i j ≤ pl N (i + 1) (i + 1) := by
                  rw [pl_row HN8.out (by have := HMN.out; omega)]
                  unfold pl; rw [if_pos (by omega), if_pos (by have := HMN.out; omega)]; have := HMN.out; omega
                have HO := Lib.hid (GI.skip e8 e9 (fun q h1 h2 => gro_mid HN8.out HMN.out him h1 h2))
                clear GI e8 e9
                go_wp2_with fail
                exact ⟨⟨i + 1, by omega, by go_num, HO.out⟩, by simp [intOf]; omega⟩
          · obtain rfl : i = m := by omega
            have i2 : decide ((i : Int) < (i : Int)) = false := by simp
            have e8 : pl N i i ≤ tri N := all3 (P := fun N i _ => i ≤ N → pl N i i ≤ tri N) (by decide +kernel) HN8.out (i := i) (j := 0) (by have := HN8.out; have := HMN.out; omega) (by omega) (by have := HMN.out; omega)
            have HO := Lib.hid (GI.skip e8 (Nat.le_refl _) (fun q h1 h2 => gro_end HN8.out HMN.out h1 h2))
            have k1 := GI.k1
            have b1 := GI.b
            have r0 := (GI.k7.cell 0).trans (show _ = some (.int .i64 (N : Int)) from rfl)
            have r1 := (GI.k7.cell 1).trans (show _ = some (.slice Ao (tri N) co) from rfl)
            have z0 := (k1.cell 0).trans (show _ = some (.int .i64 0) from rfl)
            have z1 := (k1.cell 1).trans (show _ = some (.slice none 0 0) from rfl)
            have y0 := k1.free 0
            have y1 := k1.free 1
            clear GI e8
            go_wp2_with fail
            refine bodyPost_ret (v := .tuple #[.agg #[.int .i64 (N : Int), .slice Ao (tri N) co], .nilIface]) ?_ rfl ?_
            · rw [results_cell_tmp rfl]
              go_simp
            · (try simp only [HHN.out])
              have ow := HO.out.ow
              rw [curL_rep] at ow
              have P := put2 (.int .i64 (N : Int)) (.slice Ao (tri N) co) k1 b1 (by omega)
              have eN : groN (i : Int) l ((N : Int) - (i : Int)) = (N : Int) := HN.out
              have eL : groL (i : Int) l ((N : Int) - (i : Int)) = (List.range (tri N)).map (groF i N l) := HL.out
              have eE : groE (i : Int) l ((N : Int) - (i : Int)) = 0 := HE.out
              rw [eE, eN, eL]
              exact ⟨Ao, co, .nilIface, by simp, (P.own ow (ow.ne (by omega))).mono (by omega), ErrFrom.nil _ _ _, P.below⟩
end Go.Proofs.YtfcandmhalhaeaaDoor.YSym
namespace Go.Proofs.YtfcandmhalhaeaaDoor.YSym
open Go.RowKit Go.Proofs.YtfcandmhalhaeaaDoor.YErr Go.Proofs.YtfcandmhalhaeaaDoor.YInv Go.Proofs.YtfcandmhalhaeaaDoor.YRef Go.Proofs.YtfcandmhalhaeaaDoor.YBits Go.Proofs.YtfcandmhalhaeaaDoor.YNum Go.Proofs.YtfcandmhalhaeaaDoor.QSy Go.Proofs.YtfcandmhalhaeaaDoor.YWide Go.Proofs.YtfcandmhalhaeaaDoorW.PrintWords Go.Proofs.YtfcandmhalhaeaaDoorW.PrintLast
set_option linter.unusedVariables false
set_option linter.unusedSimpArgs false
/-- What Drop tells. -/
def droE (n : Int) (l : List Int) (i k : Int) : Int := if rightB n l = true then (if i < 0 ∨ k < 0 ∨ n < i ∨ n - i < k then 20 else 0) else 23
def kee (N i k q : Nat) : Bool := (decide (rowOf N q < i) || decide (i + k ≤ rowOf N q)) && (decide (colOf N q < i) || decide (i + k ≤ colOf N q))
def droC (N i k : Nat) (l : List Int) (p : Nat) : List Int := ((List.range p).filter (kee N i k)).map (fun q => l.getD q 0)
def droN (n : Int) (l : List Int) (i k : Int) : Int := if droE n l i k = 0 then n - k else 0
def droL (n : Int) (l : List Int) (i k : Int) : List Int := if droE n l i k = 0 then droC n.toNat i.toNat k.toNat l (tri n.toNat) else []
theorem dro_bad {n : Int} {l : List Int} {i k e : Int} (h : droE n l i k = e) (he : e ≠ 0) : droN n l i k = 0 ∧ droL n l i k = [] := by
  unfold droN droL
  rw [h, if_neg he, if_neg he]
  exact ⟨rfl, rfl⟩
theorem droC_yes {N i k p : Nat} {l : List Int} (h : kee N i k p = true) : droC N i k l (p + 1) = droC N i k l p ++ [l.getD p 0] := by
  unfold droC
  rw [List.range_succ, List.filter_append, List.map_append]
  simp [h]
theorem droC_no {N i k p : Nat} {l : List Int} (h : kee N i k p = false) : droC N i k l (p + 1) = droC N i k l p := by
  unfold droC
  rw [List.range_succ, List.filter_append, List.map_append]
  simp [h]
theorem droC_len {N i k p : Nat} {l : List Int} : (droC N i k l p).length ≤ p := by
  unfold droC
  rw [List.length_map]
  exact Nat.le_trans (List.length_filter_le _ _) (by simp)
theorem kee_at {N r c i k : Nat} (hN : N ≤ 8) (hr : r ≤ c) (hc : c < N) : kee N i k (pl N r c) = ((decide (r < i) || decide (i + k ≤ r)) && (decide (c < i) || decide (i + k ≤ c))) := by
  unfold kee
  rw [(rc_pl hN hr hc).1, (rc_pl hN hr hc).2]
/-- What Drop's loops keep. -/
structure DIn (W wx : World) (g9 n i k : Nat) (l : List Int) (A : Option Addr) (c : Nat) (Ao : Option Addr) (co : Nat) (cu : List Int) : Prop where
  k0 : Blk wx W.heap.size #[.int .i64 (n : Int), .slice A l.length c] 24
  k1 : Blk wx (W.heap.size + 1) #[.int .i64 0, .slice none 0 0] 24
  k9 : Blk wx g9 #[.int .i64 ((n : Int) - (k : Int)), .slice Ao cu.length co] 24
  h9 : W.heap.size + 2 ≤ g9
  ow : OwnI wx (W.heap.size + 2) Ao co cu
  b : Below W.heap.size W wx
theorem DIn.keep {W wx wy : World} {g9 n i k : Nat} {l : List Int} {A : Option Addr} {c : Nat} {Ao : Option Addr} {co : Nat} {cu : List Int} (h : DIn W wx g9 n i k l A c Ao co cu) (g : Below wx.heap.size wx wy) : DIn W wy g9 n i k l A c Ao co cu :=
  ⟨h.k0.keep g, h.k1.keep g, h.k9.keep g, h.h9, h.ow.keep g, bb h.b g⟩
/-- A number is put behind: the row grows, its head is stored. -/
theorem DIn.app {W wx wy : World} {g9 n i k : Nat} {l : List Int} {A : Option Addr} {c : Nat} {Ao A' : Option Addr} {co c' : Nat} {cu cv : List Int} (h : DIn W wx g9 n i k l A c Ao co cu) (ow : OwnI wy (W.heap.size + 2) A' c' cv) (g : wx.grownBy wy (Value.slice Ao cu.length co).ownBlock) : DIn W (wy.setCell ⟨g9, 1, none⟩ (.slice A' cv.length c')) g9 n i k l A c A' c' cv := by
  have sz := h.b.size
  have hk1 := h.k1.lt
  have hob : ∀ q, (Value.slice Ao cu.length co).ownBlock = some q → W.heap.size + 2 ≤ q ∧ ∃ cur, Blk wx q cur 2 := by
    intro q hq
    rcases Ao with _ | ad
    · simp [Value.ownBlock] at hq
    · rcases h.ow.form with ⟨e, _⟩ | ⟨g', e, hb, _⟩
      · cases e
      · cases e
        simp [Value.ownBlock] at hq
        subst hq
        exact ⟨hb, h.ow.typ _ rfl⟩
  have nb : ∀ {q cs}, Blk wx q cs 24 → some q ≠ (Value.slice Ao cu.length co).ownBlock := by
    intro q cs hk e
    obtain ⟨_, cur, hc⟩ := hob q e.symm
    unfold Blk at hk hc
    rw [hk] at hc
    injection hc with hc
    injection hc with _ ht
    exact absurd ht (by decide)
  have by_ : Below W.heap.size W wy := h.b.grown g sz (fun q hq => by have := (hob q hq).1; omega)
  have K9 := Blk.grown h.k9 g (nb h.k9)
  have h9 := h.h9
  refine ⟨Blk.setOther (Blk.grown h.k0 g (nb h.k0)) (by show g9 ≠ _; omega) _, Blk.setOther (Blk.grown h.k1 g (nb h.k1)) (by show g9 ≠ _; omega) _, by simpa using Blk.set K9 1 (.slice A' cv.length c'), h.h9, OwnI.other ow (fun g e => ow.ne_ty K9 g e) _, by_.setCell (p := ⟨g9, 1, none⟩) (by show W.heap.size ≤ g9; omega) _⟩
theorem oper_append_i {w : World} {o : Oper} {a : Act} {K : Act → World → Prop} {Q : Exit → Act → World → Prop} (s x : Operand)
    (ho : o.op = .call { callee := .builtin .append, args := #[s, x], argTypes := #[22, 22] }) (base : Nat) (v : Value) (n : Nat) (xs : List Value) (hs : a.eval s = v) (hown : w.ownsRow base 2 1 v n xs) {A : Option Addr} {c : Nat} {L : List Int} (hx : a.eval x = .slice A L.length c) (R : Rd w A L) (hm : n + L.length ≤ 2000) (hb : base ≤ w.heap.size)
    (h : ∀ v' w', w'.ownsRow base 2 1 v' (n + L.length) (xs ++ L.map (Value.int .i64)) → w.grownBy w' v.ownBlock → K (a.put o.dst v') w') : Oper.wp Tryd.prog o a w K Q := by
  obtain ⟨v', w', hrun, h2, h3⟩ := run_append_i (w := w) o.type base v n xs hown R hm hb (c := c)
  unfold Oper.wp execOp
  simp only [ho, resolve, invoke, builtin, Sem.run_bind, Sem.run_pure, Result.andThen_ok, List.map_toArray, List.map_cons, List.map_nil, hs, hx, hrun]
  exact h v' w' h2 h3
theorem DIn.nb {W wx : World} {g9 n i k : Nat} {l : List Int} {A : Option Addr} {c : Nat} {Ao : Option Addr} {co : Nat} {cu : List Int} (h : DIn W wx g9 n i k l A c Ao co cu) {q : Nat} {cs : Array Value} (hk : Blk wx q cs 24) : some q ≠ (Value.slice Ao cu.length co).ownBlock := by
  intro e
  rcases Ao with _ | ad
  · simp [Value.ownBlock] at e
  · rcases h.ow.form with ⟨e', _⟩ | ⟨g', e', hb, _⟩
    · cases e'
    · cases e'
      simp [Value.ownBlock] at e
      exact h.ow.ne_ty hk _ rfl e
theorem DIn.nba {W wx : World} {g9 n i k : Nat} {l : List Int} {A : Option Addr} {c : Nat} {Ao : Option Addr} {co : Nat} {cu : List Int} (h : DIn W wx g9 n i k l A c Ao co cu) {q : Nat} (hq : q < W.heap.size) : some q ≠ (Value.slice Ao cu.length co).ownBlock := by
  intro e
  rcases Ao with _ | ad
  · simp [Value.ownBlock] at e
  · rcases h.ow.form with ⟨e', _⟩ | ⟨g', e', hb, _⟩
    · cases e'
    · cases e'
      simp [Value.ownBlock] at e
      omega
set_option maxRecDepth 100000 in
set_option maxHeartbeats 16000000 in
theorem SDrop_c {n : Int} {w : World} {A : Option Addr} {c : Nat} {l : List Int} (R : Rd w A l) (hc : l.length ≤ c) (hl : l.length ≤ 1000) (ii kk : Int) (hi64 : W64 ii) (hk64 : W64 kk) :
    Calls Tryd.prog 21 #[.agg #[.int .i64 n, .slice A l.length c], .int .i64 ii, .int .i64 kk] w fun e w' => SymEnd w (droN n l ii kk) (droL n l ii kk) (droE n l ii kk) e w' := by
  have k0 := ((Blk.new w #[.int .i64 n, .slice A l.length c] 24).alloc (.cells #[.int .i64 0, .slice none 0 0] 24))
  have k1 : Blk ((w.alloc (.cells #[.int .i64 n, .slice A l.length c] 24)).alloc (.cells #[.int .i64 0, .slice none 0 0] 24)) (w.heap.size + 1) #[.int .i64 0, .slice none 0 0] 24 := by
    have := (Blk.new (w.alloc (.cells #[.int .i64 n, .slice A l.length c] 24)) #[.int .i64 0, .slice none 0 0] 24)
    simpa using this
  have b0 : Below w.heap.size w ((w.alloc (.cells #[.int .i64 n, .slice A l.length c] 24)).alloc (.cells #[.int .i64 0, .slice none 0 0] 24)) := (((Below.refl _ _).alloc (Nat.le_refl _) _).alloc (by simp) _)
  have hs0 : w.heap.size + 2 ≤ ((w.alloc (.cells #[.int .i64 n, .slice A l.length c] 24)).alloc (.cells #[.int .i64 0, .slice none 0 0] 24)).heap.size := by simp
  have IN := in_c (n := n) (B := none) (d := 0) (q := []) (R.keep b0) hc hl (Rd.nil _ _) (by decide)
  have HR0 := Lib.hid R
  have BD20 := fun W => bad_c 20 (by decide) W
  rw [inE_nil] at IN
  go_enter Tryd.func21, Tryd.ntmps21
  go_wp2_with fail
  refine IN.mono ?_; rintro e w1 ⟨ve, rfl, hve, g1⟩
  have b1 := bb b0 g1
  have hs1 := Nat.le_trans hs0 g1.size
  replace k0 := k0.keep g1
  replace k1 := k1.keep g1
  replace hve := hve.mono hs0
  have z0 := (k1.cell 0).trans (show _ = some (.int .i64 0) from rfl)
  have z1 := (k1.cell 1).trans (show _ = some (.slice none 0 0) from rfl)
  have y0 := k1.free 0
  have y1 := k1.free 1
  have c0 := (k0.cell 0).trans (show _ = some (.int .i64 n) from rfl)
  have c1 := (k0.cell 1).trans (show _ = some (.slice A l.length c) from rfl)
  clear IN g1 b0 hs0 R
  cases hr : rightB n l with
  | false =>
    have HE := Lib.hid (show droE n l ii kk = 23 by unfold droE; rw [if_neg (by rw [hr]; decide)])
    have HB := Lib.hid (dro_bad HE.out (by decide))
    rw [hr, if_neg (by decide)] at hve
    obtain ⟨a, rfl⟩ := hve.is.some (by decide)
    clear hr
    go_wp2_with fail
    refine bodyPost_ret (v := .tuple #[.agg #[.int .i64 0, .slice none 0 0], .iface 131 (.pointer (some a))]) ?_ rfl ?_
    · rw [results_cell_tmp rfl]
      go_simp
    · rw [HB.out.1, HB.out.2, HE.out]
      have P := put2 (.int .i64 0) (.slice none 0 0) k1 b1 (by omega)
      exact ⟨none, 0, _, rfl, OwnI.nil _ _, (P.err hve (by omega)).mono (by omega), P.below⟩
  | true =>
    rw [hr, if_pos rfl] at hve
    obtain rfl := hve.none
    obtain ⟨m, rfl, hm, hlen, hall⟩ := rightB_nat hr
    have HR := Lib.hid hr
    have HLN := Lib.hid hlen
    have HM := Lib.hid hm
    have mI : (m : Int) ≤ 8 := by omega
    have m0 : (0 : Int) ≤ (m : Int) := by omega
    clear hve hr hlen hall
    obtain ⟨hi64a, hi64b⟩ := hi64
    obtain ⟨hk64a, hk64b⟩ := hk64
    by_cases h0 : ii < 0
    · have d0 : decide (ii < 0) = true := by simpa using h0
      have HE := Lib.hid (show droE m l ii kk = 20 by unfold droE; rw [if_pos HR.out, if_pos (by omega)])
      have HB := Lib.hid (dro_bad HE.out (by decide))
      go_wp2_with fail
      refine (BD20 _).mono ?_; rintro e w2 ⟨v, rfl, hv, g2⟩
      have b2 := bb b1 g2
      replace hv := hv.mono hs1
      replace k1 := k1.keep g2
      have z0 := (k1.cell 0).trans (show _ = some (.int .i64 0) from rfl)
      have z1 := (k1.cell 1).trans (show _ = some (.slice none 0 0) from rfl)
      have y0 := k1.free 0
      have y1 := k1.free 1
      go_wp2_with fail
      refine bodyPost_ret (v := .tuple #[.agg #[.int .i64 0, .slice none 0 0], v]) ?_ rfl ?_
      · rw [results_cell_tmp rfl]
        go_simp
      · rw [HB.out.1, HB.out.2, HE.out]
        have P := put2 (.int .i64 0) (.slice none 0 0) k1 b2 (by omega)
        exact ⟨none, 0, _, rfl, OwnI.nil _ _, (P.err hv (by omega)).mono (by omega), P.below⟩
    · have d0 : decide (ii < 0) = false := by simpa using h0
      by_cases h1 : kk < 0
      · have d1 : decide (kk < 0) = true := by simpa using h1
        have HE := Lib.hid (show droE m l ii kk = 20 by unfold droE; rw [if_pos HR.out, if_pos (by omega)])
        have HB := Lib.hid (dro_bad HE.out (by decide))
        go_wp2_with fail
        refine (BD20 _).mono ?_; rintro e w2 ⟨v, rfl, hv, g2⟩
        have b2 := bb b1 g2
        replace hv := hv.mono hs1
        replace k1 := k1.keep g2
        have z0 := (k1.cell 0).trans (show _ = some (.int .i64 0) from rfl)
        have z1 := (k1.cell 1).trans (show _ = some (.slice none 0 0) from rfl)
        have y0 := k1.free 0
        have y1 := k1.free 1
        go_wp2_with fail
        refine bodyPost_ret (v := .tuple #[.agg #[.int .i64 0, .slice none 0 0], v]) ?_ rfl ?_
        · rw [results_cell_tmp rfl]
          go_simp
        · rw [HB.out.1, HB.out.2, HE.out]
          have P := put2 (.int .i64 0) (.slice none 0 0) k1 b2 (by omega)
          exact ⟨none, 0, _, rfl, OwnI.nil _ _, (P.err hv (by omega)).mono (by omega), P.below⟩
      · have d1 : decide (kk < 0) = false := by simpa using h1
        by_cases h2 : (m : Int) < ii
        · have d2 : decide ((m : Int) < ii) = true := by simpa using h2
          have HE := Lib.hid (show droE m l ii kk = 20 by unfold droE; rw [if_pos HR.out, if_pos (by omega)])
          have HB := Lib.hid (dro_bad HE.out (by decide))
          go_wp2_with fail
          refine (BD20 _).mono ?_; rintro e w2 ⟨v, rfl, hv, g2⟩
          have b2 := bb b1 g2
          replace hv := hv.mono hs1
          replace k1 := k1.keep g2
          have z0 := (k1.cell 0).trans (show _ = some (.int .i64 0) from rfl)
          have z1 := (k1.cell 1).trans (show _ = some (.slice none 0 0) from rfl)
          have y0 := k1.free 0
          have y1 := k1.free 1
          go_wp2_with fail
          refine bodyPost_ret (v := .tuple #[.agg #[.int .i64 0, .slice none 0 0], v]) ?_ rfl ?_
          · rw [results_cell_tmp rfl]
            go_simp
          · rw [HB.out.1, HB.out.2, HE.out]
            have P := put2 (.int .i64 0) (.slice none 0 0) k1 b2 (by omega)
            exact ⟨none, 0, _, rfl, OwnI.nil _ _, (P.err hv (by omega)).mono (by omega), P.below⟩
        · have d2 : decide ((m : Int) < ii) = false := by simpa using h2
          by_cases h3 : (m : Int) - ii < kk
          · have d3 : decide ((m : Int) - ii < kk) = true := by simpa using h3
            have HE := Lib.hid (show droE m l ii kk = 20 by unfold droE; rw [if_pos HR.out, if_pos (by omega)])
            have HB := Lib.hid (dro_bad HE.out (by decide))
            go_wp2_with fail
            refine (BD20 _).mono ?_; rintro e w2 ⟨v, rfl, hv, g2⟩
            have b2 := bb b1 g2
            replace hv := hv.mono hs1
            replace k1 := k1.keep g2
            have z0 := (k1.cell 0).trans (show _ = some (.int .i64 0) from rfl)
            have z1 := (k1.cell 1).trans (show _ = some (.slice none 0 0) from rfl)
            have y0 := k1.free 0
            have y1 := k1.free 1
            go_wp2_with fail
            refine bodyPost_ret (v := .tuple #[.agg #[.int .i64 0, .slice none 0 0], v]) ?_ rfl ?_
            · rw [results_cell_tmp rfl]
              go_simp
            · rw [HB.out.1, HB.out.2, HE.out]
              have P := put2 (.int .i64 0) (.slice none 0 0) k1 b2 (by omega)
              exact ⟨none, 0, _, rfl, OwnI.nil _ _, (P.err hv (by omega)).mono (by omega), P.below⟩
          · have d3 : decide ((m : Int) - ii < kk) = false := by simpa using h3
            obtain ⟨i, rfl⟩ : ∃ i : Nat, ii = i := ⟨ii.toNat, by omega⟩
            obtain ⟨k, rfl⟩ : ∃ k : Nat, kk = k := ⟨kk.toNat, by omega⟩
            have HE := Lib.hid (show droE m l i k = 0 by unfold droE; rw [if_pos HR.out, if_neg (by omega)])
            have HN := Lib.hid (show droN m l i k = (m : Int) - (k : Int) by unfold droN; rw [if_pos HE.out])
            have HL := Lib.hid (show droL m l i k = droC m i k l (tri m) by unfold droL; rw [if_pos HE.out]; rfl)
            have iB : (i : Int) ≤ 8 := by omega
            have kB : (k : Int) ≤ 8 := by omega
            have i00 : (0 : Int) ≤ (i : Int) := by omega
            have k00 : (0 : Int) ≤ (k : Int) := by omega
            have KL := Blk.new w1 #[] 2
            have GA0 : Below w1.heap.size w1 (w1.alloc (.cells #[] 2)) := (Below.refl _ _).alloc (Nat.le_refl _) _
            have ow0 : OwnI (w1.alloc (.cells #[] 2)) (w.heap.size + 2) (some ⟨w1.heap.size, 0, none⟩) 0 [] := ⟨rfl, .inr ⟨w1.heap.size, 0, #[], rfl, hs1, KL, Nat.le_refl _, by unfold maxLen; omega, rfl, rfl⟩⟩
            have GA : Below (w1.alloc (.cells #[] 2)).heap.size (w1.alloc (.cells #[] 2)) ((w1.alloc (.cells #[] 2)).alloc (.cells #[.int .i64 ((m : Int) - (k : Int)), .slice (some ⟨w1.heap.size, 0, none⟩) 0 0] 24)) := (Below.refl _ _).alloc (Nat.le_refl _) _
            have DI : DIn w ((w1.alloc (.cells #[] 2)).alloc (.cells #[.int .i64 ((m : Int) - (k : Int)), .slice (some ⟨w1.heap.size, 0, none⟩) 0 0] 24)) (w1.heap.size + 1) m i k l A c (some ⟨w1.heap.size, 0, none⟩) 0 [] :=
              ⟨(k0.keep GA0).keep GA, (k1.keep GA0).keep GA, by simpa using Blk.new (w1.alloc (.cells #[] 2)) #[.int .i64 ((m : Int) - (k : Int)), .slice (some ⟨w1.heap.size, 0, none⟩) 0 0] 24, by omega, ow0.keep GA, bb (bb b1 GA0) GA⟩
            have HD := Lib.hid DI
            have q0 := (DI.k0.cell 0).trans (show _ = some (.int .i64 (m : Int)) from rfl)
            have HIK := Lib.hid (And.intro h0 (And.intro h1 (And.intro h2 h3)))
            clear KL GA0 ow0 GA k0 k1 b1 z0 z1 y0 y1 DI BD20
            go_wp2_with fail
            clear h0 h1 h2 h3 d0 d1 d2 d3 hi64a hi64b hk64a hk64b
            generalize (w1.alloc (.cells #[] 2)).alloc (.cells #[.int .i64 ((m : Int) - (k : Int)), .slice (some ⟨w1.heap.size, 0, none⟩) 0 0] 24) = w3 at *
            generalize w1.heap.size + 1 = g9 at *
            clear q0 c0 c1
            go_loopw [48] (fun s48 wl => ∃ (r : Nat) (Ao : Option Addr) (co : Nat), r ≤ m ∧ s48 = .int .i64 r ∧ DIn w wl g9 m i k l A c Ao co (droC m i k l (pl m r r))) (fun s48 _ => m - (intOf s48).toNat)
            case atStart => exact ⟨0, _, _, Nat.zero_le _, rfl, by rw [pl_first]; exact HD.out⟩
            case round =>
              clear HD
              obtain ⟨r, Ao, co, hr, rfl, DI⟩ := hrel
              have r0 : (0 : Int) ≤ (r : Int) := by omega
              by_cases hrm : r < m
              · have r1 : (r : Int) < (m : Int) := by omega
                have r2 : decide ((r : Int) < (m : Int)) = true := by simpa using hrm
                have HD := Lib.hid DI
                clear DI
                go_wp2_with fail
                clear r2
                go_loopw [11] (fun s11 wl => ∃ (j : Nat) (Ao : Option Addr) (co : Nat), r ≤ j ∧ j ≤ m ∧ s11 = .int .i64 j ∧ DIn w wl g9 m i k l A c Ao co (droC m i k l (pl m r j))) (fun s11 _ => m - (intOf s11).toNat)
                case atStart => exact ⟨r, Ao, co, Nat.le_refl _, hr, rfl, HD.out⟩
                case round =>
                  clear HD
                  obtain ⟨j, Ao, co, hrj, hj, rfl, DI⟩ := hrel
                  have j0 : (0 : Int) ≤ (j : Int) := by omega
                  have q0 := (DI.k0.cell 0).trans (show _ = some (.int .i64 (m : Int)) from rfl)
                  by_cases hjm : j < m
                  · have j1 : (j : Int) < (m : Int) := by omega
                    have j2 : decide ((j : Int) < (m : Int)) = true := by simpa using hjm
                    have hke := kee_at (i := i) (k := k) HM.out hrj hjm
                    have hnx := pl_next m hrj
                    have jB : (j : Int) ≤ 8 := by omega
                    have rB : (r : Int) ≤ 8 := by omega
                    have HCT := Lib.hid HR0.out
                    by_cases e1 : (r : Int) < (i : Int) ∨ (i : Int) + (k : Int) ≤ (r : Int)
                    · by_cases e2 : (j : Int) < (i : Int) ∨ (i : Int) + (k : Int) ≤ (j : Int)
                      · have hyes : kee m i k (pl m r j) = true := by rw [hke]; simp; omega
                        have hp : pl m r j < tri m := pl_lt HM.out hrm hjm
                        have P1 := fun W => place_c HM.out (show r ≤ m by omega) (show j ≤ m by omega) W
                        have hlen := HLN.out
                        have hcu := droC_len (N := m) (i := i) (k := k) (p := pl m r j) (l := l)
                        have htri := tri_le HM.out
                        have hyl := droC_yes (l := l) hyes
                        obtain ⟨ga, oa, rfl, HRC⟩ := (HR0.out.keep DI.b) (by omega)
                        have cp := HRC (pl m r j) (by omega)
                        have p0 : (0 : Int) ≤ ((pl m r j : Nat) : Int) := by omega
                        have p1 : ((pl m r j : Nat) : Int) < (l.length : Int) := by omega
                        have q1 := (DI.k0.cell 1).trans (show _ = some (.slice (some ⟨ga, oa, none⟩) l.length c) from rfl)
                        have u1 := (DI.k9.cell 1).trans (show _ = some (.slice Ao (droC m i k l (pl m r j)).length co) from rfl)
                        have f1 := DI.k9.free 1
                        have hga : ga < w.heap.size := by
                          obtain ⟨g', o', e, h'⟩ := HR0.out (by omega)
                          cases e
                          exact lt_of_cell (h' 0 (by omega))
                        have NB0 := DI.nb DI.k0
                        have NB9 := DI.nb DI.k9
                        have NBa := DI.nba hga
                        have h9 := DI.h9
                        have HNX := Lib.hid (show droC m i k l (pl m r (j + 1)) = droC m i k l (pl m r j) ++ [l.getD (pl m r j) 0] by rw [hnx]; exact hyl)
                        have hsz : w.heap.size + 2 ≤ wr.heap.size := by have := DI.k1.lt; omega
                        have hcu2 : (droC m i k l (pl m r j)).length ≤ 36 := by omega
                        clear hke hnx HRC hlen hyl hp hyes hcu htri
                        generalize hcv : droC m i k l (pl m r (j + 1)) = cv at *
                        have HCV := Lib.hid hcv
                        generalize droC m i k l (pl m r j) = cu at *
                        generalize l.getD (pl m r j) 0 = lq at *
                        generalize pl m r j = p at *
                        have HDI := Lib.hid DI
                        have HOW := Lib.hid DI.ow
                        have HE2 := Lib.hid (And.intro e1 e2)
                        clear DI hcv e1 e2
                        have CS : (decide ((r : Int) < (i : Int)) = true ∧ decide ((j : Int) < (i : Int)) = true) ∨ (decide ((r : Int) < (i : Int)) = true ∧ decide ((j : Int) < (i : Int)) = false ∧ decide ((i : Int) + (k : Int) ≤ (j : Int)) = true) ∨ (decide ((r : Int) < (i : Int)) = false ∧ decide ((i : Int) + (k : Int) ≤ (r : Int)) = true ∧ decide ((j : Int) < (i : Int)) = false ∧ decide ((i : Int) + (k : Int) ≤ (j : Int)) = true) := by
                          have := HE2.out
                          simp only [decide_eq_true_eq, decide_eq_false_iff_not]
                          omega
                        rcases CS with ⟨e3, e4⟩ | ⟨e3, e4, e5⟩ | ⟨e3, e5, e4, e6⟩
                        case' inl =>
                          have n3 : decide (r < i) = true := by simpa using e3
                          have n4 : decide (j < i) = true := by simpa using e4
                        case' inr.inl =>
                          have n3 : decide (r < i) = true := by simpa using e3
                          have n4 : decide (j < i) = false := by simpa using e4
                          have n5 : decide (i + k ≤ j) = true := by simp at e5 ⊢; omega
                        case' inr.inr =>
                          have n3 : decide (r < i) = false := by simpa using e3
                          have n4 : decide (j < i) = false := by simpa using e4
                          have n5 : decide (i + k ≤ j) = true := by simp at e6 ⊢; omega
                          have n6 : decide (i + k ≤ r) = true := by simp at e5 ⊢; omega
                        all_goals go_wp2_with fail
                        ·
                          refine region_vals (σ := Nat → Value) [some 80, some 81, some 82, some 83, some 84, some 85, some 86, some 87, some 88, some 89, some 90, some 91, some 92, some 93, none] (VQ [some (.pointer (some ⟨g9, 1, none⟩)), some (.slice Ao cu.length co), some (.pointer (some ⟨w.heap.size, 1, none⟩)), some (.slice (some ⟨ga, oa, none⟩) l.length c), some (.pointer (some ⟨w.heap.size, 0, none⟩)), some (.int .i64 (m : Int)), some (.int .i64 (r : Int)), some (.int .i64 (j : Int)), some (.int .i64 (p : Int)), some (.pointer (some ⟨ga, oa + p, none⟩)), some (.int .i64 lq), none, none, some (.pointer (some ⟨g9, 1, none⟩)), some (undef)]) (fun L s wx => (L 12 = false → Below wr.heap.size wr wx) ∧ (L 11 = true → ∃ gl, s 11 = .slice (some ⟨gl, 0, none⟩) 1 1 ∧ (L 12 = false → Blk wx gl #[.int .i64 lq] 2)) ∧ (L 12 = true → L 14 = false → ∃ A' c', s 12 = .slice A' (cu.length + 1) c' ∧ OwnI wx (w.heap.size + 2) A' c' (cu ++ [lq]) ∧ ∃ wy, Below wr.heap.size wr wy ∧ wy.grownBy wx (Value.slice Ao cu.length co).ownBlock) ∧ (L 14 = true → ∃ A' c', DIn w wx g9 m i k l (some ⟨ga, oa, none⟩) c A' c' (cu ++ [lq])) ∧ (L 14 = true → L 12 = true) ∧ (L 12 = true → L 1 = true ∧ L 3 = true ∧ L 5 = true ∧ L 8 = true ∧ L 10 = true ∧ L 11 = true) ∧ (L 11 = true → L 10 = true) ∧ (L 10 = true → L 9 = true) ∧ (L 9 = true → L 3 = true ∧ L 8 = true) ∧ (L 8 = true → L 5 = true)) (fun _ => undef) [0, 1, 2, 3, 4, 5, 6, 7, 8, 9, 10, 11, 12, 13, 14] _ _ rfl (by kernel_rfl) (by kernel_rfl) (by kernel_rfl) (by kernel_rfl) (by kernel_rfl) ⟨fun _ => (Below.refl _ _).drew, fun h => absurd h (by decide), fun h => absurd h (by decide), fun h => absurd h (by decide), fun h => absurd h (by decide), fun h => absurd h (by decide), fun h => absurd h (by decide), fun h => absurd h (by decide), fun h => absurd h (by decide), fun h => absurd h (by decide)⟩ ?stepsD1 ?finD1 (fun L L' s wx e h => by rw [e 1 (by decide), e 3 (by decide), e 5 (by decide), e 8 (by decide), e 9 (by decide), e 10 (by decide), e 11 (by decide), e 12 (by decide), e 14 (by decide)] at h; exact h)
                          case stepsD1 =>
                            refine VSteps.cons rfl (fun x L s wx K kn hL hp hI hK => ?_) ?_
                            · have e9 : x[9]? = some (.pointer (some ⟨g9, 0, none⟩)) := (kn.old 9 (by kernel_rfl)).trans rfl
                              refine want_ rfl ?_
                              obtain ⟨BW, AL, AP, ST, C1, C2, C3, C4, C5, C6⟩ := hI
                              exact val_ (v := .pointer (some ⟨g9, 1, none⟩)) (by simp [go_sem, execOp, evr_, e9, addr_add]) (hK.out s _ (fun _ _ => rfl) ⟨BW, AL, AP, ST, C1, C2, C3, C4, C5, C6⟩)
                            refine VSteps.cons rfl (fun x L s wx K kn hL hp hI hK => ?_) ?_
                            · have e80 : x[80]? = some (.pointer (some ⟨g9, 1, none⟩)) := kn.got 0 80 (hp ⟨0, .data⟩ (by simp) rfl) rfl
                              refine want_ rfl ?_
                              obtain ⟨BW, AL, AP, ST, C1, C2, C3, C4, C5, C6⟩ := hI
                              have n12 : L 12 = false := by
                                cases h : L 12 with
                                | false => rfl
                                | true => have z := C2 h; simp [hL] at z
                              have n14 : L 14 = false := by
                                cases h : L 14 with
                                | false => rfl
                                | true => rw [C1 h] at n12; cases n12
                              have cA := ((BW n12).cell (lt_of_cell u1)).trans u1
                              exact valw_ (v := .slice Ao cu.length co) (w' := wx) (by simp [go_sem, execOp, evr_, e80, cA]) (hK.out s _ (fun _ _ => rfl) ⟨BW, AL, AP, ST, C1, fun h => absurd h (by simp [YInv.up, n12]), C3, C4, C5, C6⟩)
                            refine VSteps.cons rfl (fun x L s wx K kn hL hp hI hK => ?_) ?_
                            · have e3 : x[3]? = some (.pointer (some ⟨w.heap.size, 0, none⟩)) := (kn.old 3 (by kernel_rfl)).trans rfl
                              refine want_ rfl ?_
                              obtain ⟨BW, AL, AP, ST, C1, C2, C3, C4, C5, C6⟩ := hI
                              exact val_ (v := .pointer (some ⟨w.heap.size, 1, none⟩)) (by simp [go_sem, execOp, evr_, e3, addr_add]) (hK.out s _ (fun _ _ => rfl) ⟨BW, AL, AP, ST, C1, C2, C3, C4, C5, C6⟩)
                            refine VSteps.cons rfl (fun x L s wx K kn hL hp hI hK => ?_) ?_
                            · have e82 : x[82]? = some (.pointer (some ⟨w.heap.size, 1, none⟩)) := kn.got 2 82 (hp ⟨2, .data⟩ (by simp) rfl) rfl
                              refine want_ rfl ?_
                              obtain ⟨BW, AL, AP, ST, C1, C2, C3, C4, C5, C6⟩ := hI
                              have n12 : L 12 = false := by
                                cases h : L 12 with
                                | false => rfl
                                | true => have z := C2 h; simp [hL] at z
                              have n14 : L 14 = false := by
                                cases h : L 14 with
                                | false => rfl
                                | true => rw [C1 h] at n12; cases n12
                              have cA := ((BW n12).cell (lt_of_cell q1)).trans q1
                              exact valw_ (v := .slice (some ⟨ga, oa, none⟩) l.length c) (w' := wx) (by simp [go_sem, execOp, evr_, e82, cA]) (hK.out s _ (fun _ _ => rfl) ⟨BW, AL, AP, ST, C1, fun h => absurd h (by simp [YInv.up, n12]), C3, C4, fun h => ⟨rfl, (C5 h).2⟩, C6⟩)
                            refine VSteps.cons rfl (fun x L s wx K kn hL hp hI hK => ?_) ?_
                            · have e3 : x[3]? = some (.pointer (some ⟨w.heap.size, 0, none⟩)) := (kn.old 3 (by kernel_rfl)).trans rfl
                              refine want_ rfl ?_
                              obtain ⟨BW, AL, AP, ST, C1, C2, C3, C4, C5, C6⟩ := hI
                              exact val_ (v := .pointer (some ⟨w.heap.size, 0, none⟩)) (by simp [go_sem, execOp, evr_, e3]) (hK.out s _ (fun _ _ => rfl) ⟨BW, AL, AP, ST, C1, C2, C3, C4, C5, C6⟩)
                            refine VSteps.cons rfl (fun x L s wx K kn hL hp hI hK => ?_) ?_
                            · have e84 : x[84]? = some (.pointer (some ⟨w.heap.size, 0, none⟩)) := kn.got 4 84 (hp ⟨4, .data⟩ (by simp) rfl) rfl
                              refine want_ rfl ?_
                              obtain ⟨BW, AL, AP, ST, C1, C2, C3, C4, C5, C6⟩ := hI
                              have n12 : L 12 = false := by
                                cases h : L 12 with
                                | false => rfl
                                | true => have z := C2 h; simp [hL] at z
                              have n14 : L 14 = false := by
                                cases h : L 14 with
                                | false => rfl
                                | true => rw [C1 h] at n12; cases n12
                              have cA := ((BW n12).cell (lt_of_cell q0)).trans q0
                              exact valw_ (v := .int .i64 (m : Int)) (w' := wx) (by simp [go_sem, execOp, evr_, e84, cA]) (hK.out s _ (fun _ _ => rfl) ⟨BW, AL, AP, ST, C1, fun h => absurd h (by simp [YInv.up, n12]), C3, C4, C5, fun _ => rfl⟩)
                            refine VSteps.cons rfl (fun x L s wx K kn hL hp hI hK => ?_) ?_
                            · have e10 : x[10]? = some (.int .i64 (r : Int)) := (kn.old 10 (by kernel_rfl)).trans rfl
                              refine want_ rfl ?_
                              obtain ⟨BW, AL, AP, ST, C1, C2, C3, C4, C5, C6⟩ := hI
                              exact val_ (v := .int .i64 (r : Int)) (by simp [go_sem, execOp, evr_, e10]) (hK.out s _ (fun _ _ => rfl) ⟨BW, AL, AP, ST, C1, C2, C3, C4, C5, C6⟩)
                            refine VSteps.cons rfl (fun x L s wx K kn hL hp hI hK => ?_) ?_
                            · have e11 : x[11]? = some (.int .i64 (j : Int)) := (kn.old 11 (by kernel_rfl)).trans rfl
                              refine want_ rfl ?_
                              obtain ⟨BW, AL, AP, ST, C1, C2, C3, C4, C5, C6⟩ := hI
                              exact val_ (v := .int .i64 (j : Int)) (by simp [go_sem, execOp, evr_, e11]) (hK.out s _ (fun _ _ => rfl) ⟨BW, AL, AP, ST, C1, C2, C3, C4, C5, C6⟩)
                            refine VSteps.cons rfl (fun x L s wx K kn hL hp hI hK => ?_) ?_
                            · have e85 : x[85]? = some (.int .i64 (m : Int)) := kn.got 5 85 (hp ⟨5, .data⟩ (by simp) rfl) rfl
                              have e86 : x[86]? = some (.int .i64 (r : Int)) := kn.got 6 86 (hp ⟨6, .data⟩ (by simp) rfl) rfl
                              have e87 : x[87]? = some (.int .i64 (j : Int)) := kn.got 7 87 (hp ⟨7, .data⟩ (by simp) rfl) rfl
                              refine want_ rfl ?_
                              obtain ⟨BW, AL, AP, ST, C1, C2, C3, C4, C5, C6⟩ := hI
                              have n12 : L 12 = false := by
                                cases h : L 12 with
                                | false => rfl
                                | true => have z := C2 h; simp [hL] at z
                              have n14 : L 14 = false := by
                                cases h : L 14 with
                                | false => rfl
                                | true => rw [C1 h] at n12; cases n12
                              refine goesK_ Tryd.func37 (by kernel_rfl) rfl #[.int .i64 (m : Int), .int .i64 (r : Int), .int .i64 (j : Int)] rfl (by simp only [List.map_toArray, List.map_cons, List.map_nil, evr_, ev_ e85, ev_ e86, ev_ e87]) ((P1 _).mono ?_)
                              rintro e w' ⟨rfl, n8, rfl⟩
                              exact ⟨_, rfl, hK.out s _ (fun _ _ => rfl) ⟨fun h => below_drewN (BW h) n8, fun h => (AL h).imp fun gl z => ⟨z.1, fun k => Blk.drewN (z.2 k) n8⟩, fun h => absurd h (by simp [YInv.up, n12]), fun h => absurd h (by simp [YInv.up, n14]), C1, fun h => absurd h (by simp [YInv.up, n12]), C3, C4, fun h => ⟨(C5 h).1, rfl⟩, fun _ => (hp ⟨5, .data⟩ (by simp) rfl)⟩⟩
                            refine VSteps.cons rfl (fun x L s wx K kn hL hp hI hK => ?_) ?_
                            · have e83 : x[83]? = some (.slice (some ⟨ga, oa, none⟩) l.length c) := kn.got 3 83 (hp ⟨3, .data⟩ (by simp) rfl) rfl
                              have e88 : x[88]? = some (.int .i64 (p : Int)) := kn.got 8 88 (hp ⟨8, .data⟩ (by simp) rfl) rfl
                              refine want_ rfl ?_
                              obtain ⟨BW, AL, AP, ST, C1, C2, C3, C4, C5, C6⟩ := hI
                              exact val_ (v := .pointer (some ⟨ga, oa + p, none⟩)) (by simp [go_sem, execOp, evr_, e83, e88, p0, p1, addr_add]) (hK.out s _ (fun _ _ => rfl) ⟨BW, AL, AP, ST, C1, C2, C3, fun _ => rfl, fun _ => ⟨(hp ⟨3, .data⟩ (by simp) rfl), (hp ⟨8, .data⟩ (by simp) rfl)⟩, C6⟩)
                            refine VSteps.cons rfl (fun x L s wx K kn hL hp hI hK => ?_) ?_
                            · have e89 : x[89]? = some (.pointer (some ⟨ga, oa + p, none⟩)) := kn.got 9 89 (hp ⟨9, .data⟩ (by simp) rfl) rfl
                              refine want_ rfl ?_
                              obtain ⟨BW, AL, AP, ST, C1, C2, C3, C4, C5, C6⟩ := hI
                              have n12 : L 12 = false := by
                                cases h : L 12 with
                                | false => rfl
                                | true => have z := C2 h; simp [hL] at z
                              have n14 : L 14 = false := by
                                cases h : L 14 with
                                | false => rfl
                                | true => rw [C1 h] at n12; cases n12
                              have cA := ((BW n12).cell (lt_of_cell cp)).trans cp
                              exact valw_ (v := .int .i64 lq) (w' := wx) (by simp [go_sem, execOp, evr_, e89, cA]) (hK.out s _ (fun _ _ => rfl) ⟨BW, AL, AP, ST, C1, fun h => absurd h (by simp [YInv.up, n12]), fun _ => rfl, fun _ => (hp ⟨9, .data⟩ (by simp) rfl), C5, C6⟩)
                            refine VSteps.cons rfl (fun x L s wx K kn hL hp hI hK => ?_) ?_
                            · have e90 : x[90]? = some (.int .i64 lq) := kn.got 10 90 (hp ⟨10, .data⟩ (by simp) rfl) rfl
                              refine want_ rfl ?_
                              obtain ⟨BW, AL, AP, ST, C1, C2, C3, C4, C5, C6⟩ := hI
                              have n12 : L 12 = false := by
                                cases h : L 12 with
                                | false => rfl
                                | true => have z := C2 h; simp [hL] at z
                              have n14 : L 14 = false := by
                                cases h : L 14 with
                                | false => rfl
                                | true => rw [C1 h] at n12; cases n12
                              exact valw_ (v := .slice (some ⟨wx.heap.size, 0, none⟩) 1 1) (w' := wx.alloc (.cells #[.int .i64 lq] 2)) (by simp [go_sem, execOp, evr_, e90]) (hK.out (updv s 11 (.slice (some ⟨wx.heap.size, 0, none⟩) 1 1)) _ (VQ_upd _ _ _ hL) ⟨fun h => bb (BW n12) ((Below.refl _ _).alloc (Nat.le_refl _) _), fun _ => ⟨wx.heap.size, rfl, fun _ => Blk.new _ _ _⟩, fun h => absurd h (by simp [YInv.up, n12]), fun h => absurd h (by simp [YInv.up, n14]), C1, fun h => absurd h (by simp [YInv.up, n12]), fun _ => (hp ⟨10, .data⟩ (by simp) rfl), C4, C5, C6⟩)
                            refine VSteps.cons rfl (fun x L s wx K kn hL hp hI hK => ?_) ?_
                            · have e81 : x[81]? = some (.slice Ao cu.length co) := kn.got 1 81 (hp ⟨1, .data⟩ (by simp) rfl) rfl
                              have e91 : x[91]? = some (s 11) := kn.got 11 91 (hp ⟨11, .data⟩ (by simp) rfl) rfl
                              refine want_ rfl ?_
                              obtain ⟨BW, AL, AP, ST, C1, C2, C3, C4, C5, C6⟩ := hI
                              have n14 : L 14 = false := by
                                cases h : L 14 with
                                | false => rfl
                                | true => rw [C1 h] at hL; cases hL
                              obtain ⟨gl, hgl, hkl⟩ := AL (hp ⟨11, .data⟩ (by simp) rfl)
                              have kl := hkl hL
                              rw [hgl] at e91
                              have owx := OwnI.keep HOW.out (BW hL)
                              refine oper_append_i (.tmp 81) (.tmp 91) rfl (w.heap.size + 2) (.slice Ao cu.length co) cu.length (cu.map (Value.int .i64)) (ev_ e81) owx (L := [lq]) (c := 1) (ev_ e91) (Rd.blk (l := [lq]) kl) (by simp; omega) (by have := (BW hL).size; omega) (fun v' w' own4 gr => ?_)
                              obtain ⟨A', c', rfl⟩ := own_sl own4
                              have C2a : L 1 = true ∧ L 3 = true ∧ L 5 = true ∧ L 8 = true ∧ L 10 = true ∧ L 11 = true := ⟨(hp ⟨1, .data⟩ (by simp) rfl), (C5 (C4 (C3 (hp ⟨11, .data⟩ (by simp) rfl)))).1, C6 (C5 (C4 (C3 (hp ⟨11, .data⟩ (by simp) rfl)))).2, (C5 (C4 (C3 (hp ⟨11, .data⟩ (by simp) rfl)))).2, C3 (hp ⟨11, .data⟩ (by simp) rfl), (hp ⟨11, .data⟩ (by simp) rfl)⟩
                              exact hK.out (updv s 12 (.slice A' (cu.length + 1) c')) _ (VQ_upd _ _ _ hL) ⟨fun h => absurd h (by simp [YInv.up]), fun h => ⟨gl, hgl, fun k => absurd k (by simp [YInv.up])⟩, fun _ _ => ⟨A', c', rfl, by simpa [OwnI] using own4, wx, BW hL, gr⟩, fun h => absurd h (by simp [YInv.up, n14]), fun _ => by simp [YInv.up], fun _ => ⟨C2a.1, C2a.2.1, C2a.2.2.1, C2a.2.2.2.1, C2a.2.2.2.2.1, C2a.2.2.2.2.2⟩, C3, C4, C5, C6⟩
                            refine VSteps.cons rfl (fun x L s wx K kn hL hp hI hK => ?_) ?_
                            · have e9 : x[9]? = some (.pointer (some ⟨g9, 0, none⟩)) := (kn.old 9 (by kernel_rfl)).trans rfl
                              refine want_ rfl ?_
                              obtain ⟨BW, AL, AP, ST, C1, C2, C3, C4, C5, C6⟩ := hI
                              exact val_ (v := .pointer (some ⟨g9, 1, none⟩)) (by simp [go_sem, execOp, evr_, e9, addr_add]) (hK.out s _ (fun _ _ => rfl) ⟨BW, AL, AP, ST, C1, C2, C3, C4, C5, C6⟩)
                            refine VSteps.cons rfl (fun x L s wx K kn hL hp hI hK => ?_) ?_
                            · have e93 : x[93]? = some (.pointer (some ⟨g9, 1, none⟩)) := kn.got 13 93 (hp ⟨13, .data⟩ (by simp) rfl) rfl
                              have e92 : x[92]? = some (s 12) := kn.got 12 92 (hp ⟨12, .data⟩ (by simp) rfl) rfl
                              refine want_ rfl ?_
                              obtain ⟨BW, AL, AP, ST, C1, C2, C3, C4, C5, C6⟩ := hI
                              obtain ⟨A', c', h12, own4, wy, By, gr⟩ := AP (hp ⟨12, .data⟩ (by simp) rfl) hL
                              rw [h12] at e92
                              have DY := HDI.out.keep By
                              have K9 := Blk.grown DY.k9 gr (DY.nb DY.k9)
                              have v0 := (K9.cell 1).trans (show _ = some (.slice Ao cu.length co) from rfl)
                              have v1 := K9.free 1
                              have DF := DY.app own4 gr
                              simp only [List.length_append, List.length_cons, List.length_nil, Nat.zero_add] at DF
                              exact skipw_ (w' := wx.setCell ⟨g9, 1, none⟩ (.slice A' (cu.length + 1) c')) (by simp [go_sem, execOp, evr_, e93, e92, v0, v1]) (hK.out s _ (fun _ _ => rfl) ⟨fun h => absurd (hp ⟨12, .data⟩ (by simp) rfl) (by have h' : L 12 = false := h; simp [h']), fun h => (AL h).imp fun gl z => ⟨z.1, fun k => absurd (hp ⟨12, .data⟩ (by simp) rfl) (by have h' : L 12 = false := k; simp [h'])⟩, fun _ h => absurd h (by simp [YInv.up]), fun _ => ⟨A', c', DF⟩, fun _ => (hp ⟨12, .data⟩ (by simp) rfl), C2, C3, C4, C5, C6⟩)
                            exact VSteps.nil
                          intro s wx hI
                          simp only [puts, VQ, List.getD_cons_zero, List.getD_cons_succ, List.set_cons_zero, List.set_cons_succ]
                          obtain ⟨BW, AL, AP, ST, C1, C2, C3, C4, C5, C6⟩ := hI
                          obtain ⟨A', c', DF⟩ := ST rfl
                          clear BW AL AP ST C1 C2 C3 C4 C5 C6
                          have HDF := Lib.hid DF
                          clear DF HDI HOW NB0 NB9 NBa q0 q1 u1 f1 cp P1
                          try clear e3 n3
                          try clear e4 n4
                          try clear e5 n5
                          try clear e6 n6
                          go_wp2_with fail
                          exact ⟨⟨j + 1, A', c', by omega, by omega, by go_num, by rw [HCV.out, HNX.out]; exact HDF.out⟩, by simp [intOf]; omega⟩
                        ·
                          refine region_vals (σ := Nat → Value) [some 80, some 81, some 82, some 83, some 84, some 85, some 86, some 87, some 88, some 89, some 90, some 91, some 92, some 93, none] (VQ [some (.pointer (some ⟨g9, 1, none⟩)), some (.slice Ao cu.length co), some (.pointer (some ⟨w.heap.size, 1, none⟩)), some (.slice (some ⟨ga, oa, none⟩) l.length c), some (.pointer (some ⟨w.heap.size, 0, none⟩)), some (.int .i64 (m : Int)), some (.int .i64 (r : Int)), some (.int .i64 (j : Int)), some (.int .i64 (p : Int)), some (.pointer (some ⟨ga, oa + p, none⟩)), some (.int .i64 lq), none, none, some (.pointer (some ⟨g9, 1, none⟩)), some (undef)]) (fun L s wx => (L 12 = false → Below wr.heap.size wr wx) ∧ (L 11 = true → ∃ gl, s 11 = .slice (some ⟨gl, 0, none⟩) 1 1 ∧ (L 12 = false → Blk wx gl #[.int .i64 lq] 2)) ∧ (L 12 = true → L 14 = false → ∃ A' c', s 12 = .slice A' (cu.length + 1) c' ∧ OwnI wx (w.heap.size + 2) A' c' (cu ++ [lq]) ∧ ∃ wy, Below wr.heap.size wr wy ∧ wy.grownBy wx (Value.slice Ao cu.length co).ownBlock) ∧ (L 14 = true → ∃ A' c', DIn w wx g9 m i k l (some ⟨ga, oa, none⟩) c A' c' (cu ++ [lq])) ∧ (L 14 = true → L 12 = true) ∧ (L 12 = true → L 1 = true ∧ L 3 = true ∧ L 5 = true ∧ L 8 = true ∧ L 10 = true ∧ L 11 = true) ∧ (L 11 = true → L 10 = true) ∧ (L 10 = true → L 9 = true) ∧ (L 9 = true → L 3 = true ∧ L 8 = true) ∧ (L 8 = true → L 5 = true)) (fun _ => undef) [0, 1, 2, 3, 4, 5, 6, 7, 8, 9, 10, 11, 12, 13, 14] _ _ rfl (by kernel_rfl) (by kernel_rfl) (by kernel_rfl) (by kernel_rfl) (by kernel_rfl) ⟨fun _ => (Below.refl _ _).drew, fun h => absurd h (by decide), fun h => absurd h (by decide), fun h => absurd h (by decide), fun h => absurd h (by decide), fun h => absurd h (by decide), fun h => absurd h (by decide), fun h => absurd h (by decide), fun h => absurd h (by decide), fun h => absurd h (by decide)⟩ ?stepsD2 ?finD2 (fun L L' s wx e h => by rw [e 1 (by decide), e 3 (by decide), e 5 (by decide), e 8 (by decide), e 9 (by decide), e 10 (by decide), e 11 (by decide), e 12 (by decide), e 14 (by decide)] at h; exact h)
                          case stepsD2 =>
                            refine VSteps.cons rfl (fun x L s wx K kn hL hp hI hK => ?_) ?_
                            · have e9 : x[9]? = some (.pointer (some ⟨g9, 0, none⟩)) := (kn.old 9 (by kernel_rfl)).trans rfl
                              refine want_ rfl ?_
                              obtain ⟨BW, AL, AP, ST, C1, C2, C3, C4, C5, C6⟩ := hI
                              exact val_ (v := .pointer (some ⟨g9, 1, none⟩)) (by simp [go_sem, execOp, evr_, e9, addr_add]) (hK.out s _ (fun _ _ => rfl) ⟨BW, AL, AP, ST, C1, C2, C3, C4, C5, C6⟩)
                            refine VSteps.cons rfl (fun x L s wx K kn hL hp hI hK => ?_) ?_
                            · have e80 : x[80]? = some (.pointer (some ⟨g9, 1, none⟩)) := kn.got 0 80 (hp ⟨0, .data⟩ (by simp) rfl) rfl
                              refine want_ rfl ?_
                              obtain ⟨BW, AL, AP, ST, C1, C2, C3, C4, C5, C6⟩ := hI
                              have n12 : L 12 = false := by
                                cases h : L 12 with
                                | false => rfl
                                | true => have z := C2 h; simp [hL] at z
                              have n14 : L 14 = false := by
                                cases h : L 14 with
                                | false => rfl
                                | true => rw [C1 h] at n12; cases n12
                              have cA := ((BW n12).cell (lt_of_cell u1)).trans u1
                              exact valw_ (v := .slice Ao cu.length co) (w' := wx) (by simp [go_sem, execOp, evr_, e80, cA]) (hK.out s _ (fun _ _ => rfl) ⟨BW, AL, AP, ST, C1, fun h => absurd h (by simp [YInv.up, n12]), C3, C4, C5, C6⟩)
                            refine VSteps.cons rfl (fun x L s wx K kn hL hp hI hK => ?_) ?_
                            · have e3 : x[3]? = some (.pointer (some ⟨w.heap.size, 0, none⟩)) := (kn.old 3 (by kernel_rfl)).trans rfl
                              refine want_ rfl ?_
                              obtain ⟨BW, AL, AP, ST, C1, C2, C3, C4, C5, C6⟩ := hI
                              exact val_ (v := .pointer (some ⟨w.heap.size, 1, none⟩)) (by simp [go_sem, execOp, evr_, e3, addr_add]) (hK.out s _ (fun _ _ => rfl) ⟨BW, AL, AP, ST, C1, C2, C3, C4, C5, C6⟩)
                            refine VSteps.cons rfl (fun x L s wx K kn hL hp hI hK => ?_) ?_
                            · have e82 : x[82]? = some (.pointer (some ⟨w.heap.size, 1, none⟩)) := kn.got 2 82 (hp ⟨2, .data⟩ (by simp) rfl) rfl
                              refine want_ rfl ?_
                              obtain ⟨BW, AL, AP, ST, C1, C2, C3, C4, C5, C6⟩ := hI
                              have n12 : L 12 = false := by
                                cases h : L 12 with
                                | false => rfl
                                | true => have z := C2 h; simp [hL] at z
                              have n14 : L 14 = false := by
                                cases h : L 14 with
                                | false => rfl
                                | true => rw [C1 h] at n12; cases n12
                              have cA := ((BW n12).cell (lt_of_cell q1)).trans q1
                              exact valw_ (v := .slice (some ⟨ga, oa, none⟩) l.length c) (w' := wx) (by simp [go_sem, execOp, evr_, e82, cA]) (hK.out s _ (fun _ _ => rfl) ⟨BW, AL, AP, ST, C1, fun h => absurd h (by simp [YInv.up, n12]), C3, C4, fun h => ⟨rfl, (C5 h).2⟩, C6⟩)
                            refine VSteps.cons rfl (fun x L s wx K kn hL hp hI hK => ?_) ?_
                            · have e3 : x[3]? = some (.pointer (some ⟨w.heap.size, 0, none⟩)) := (kn.old 3 (by kernel_rfl)).trans rfl
                              refine want_ rfl ?_
                              obtain ⟨BW, AL, AP, ST, C1, C2, C3, C4, C5, C6⟩ := hI
                              exact val_ (v := .pointer (some ⟨w.heap.size, 0, none⟩)) (by simp [go_sem, execOp, evr_, e3]) (hK.out s _ (fun _ _ => rfl) ⟨BW, AL, AP, ST, C1, C2, C3, C4, C5, C6⟩)
                            refine VSteps.cons rfl (fun x L s wx K kn hL hp hI hK => ?_) ?_
                            · have e84 : x[84]? = some (.pointer (some ⟨w.heap.size, 0, none⟩)) := kn.got 4 84 (hp ⟨4, .data⟩ (by simp) rfl) rfl
                              refine want_ rfl ?_
                              obtain ⟨BW, AL, AP, ST, C1, C2, C3, C4, C5, C6⟩ := hI
                              have n12 : L 12 = false := by
                                cases h : L 12 with
                                | false => rfl
                                | true => have z := C2 h; simp [hL] at z
                              have n14 : L 14 = false := by
                                cases h : L 14 with
                                | false => rfl
                                | true => rw [C1 h] at n12; cases n12
                              have cA := ((BW n12).cell (lt_of_cell q0)).trans q0
                              exact valw_ (v := .int .i64 (m : Int)) (w' := wx) (by simp [go_sem, execOp, evr_, e84, cA]) (hK.out s _ (fun _ _ => rfl) ⟨BW, AL, AP, ST, C1, fun h => absurd h (by simp [YInv.up, n12]), C3, C4, C5, fun _ => rfl⟩)
                            refine VSteps.cons rfl (fun x L s wx K kn hL hp hI hK => ?_) ?_
                            · have e10 : x[10]? = some (.int .i64 (r : Int)) := (kn.old 10 (by kernel_rfl)).trans rfl
                              refine want_ rfl ?_
                              obtain ⟨BW, AL, AP, ST, C1, C2, C3, C4, C5, C6⟩ := hI
                              exact val_ (v := .int .i64 (r : Int)) (by simp [go_sem, execOp, evr_, e10]) (hK.out s _ (fun _ _ => rfl) ⟨BW, AL, AP, ST, C1, C2, C3, C4, C5, C6⟩)
                            refine VSteps.cons rfl (fun x L s wx K kn hL hp hI hK => ?_) ?_
                            · have e11 : x[11]? = some (.int .i64 (j : Int)) := (kn.old 11 (by kernel_rfl)).trans rfl
                              refine want_ rfl ?_
                              obtain ⟨BW, AL, AP, ST, C1, C2, C3, C4, C5, C6⟩ := hI
                              exact val_ (v := .int .i64 (j : Int)) (by simp [go_sem, execOp, evr_, e11]) (hK.out s _ (fun _ _ => rfl) ⟨BW, AL, AP, ST, C1, C2, C3, C4, C5, C6⟩)
                            refine VSteps.cons rfl (fun x L s wx K kn hL hp hI hK => ?_) ?_
                            · have e85 : x[85]? = some (.int .i64 (m : Int)) := kn.got 5 85 (hp ⟨5, .data⟩ (by simp) rfl) rfl
                              have e86 : x[86]? = some (.int .i64 (r : Int)) := kn.got 6 86 (hp ⟨6, .data⟩ (by simp) rfl) rfl
                              have e87 : x[87]? = some (.int .i64 (j : Int)) := kn.got 7 87 (hp ⟨7, .data⟩ (by simp) rfl) rfl
                              refine want_ rfl ?_
                              obtain ⟨BW, AL, AP, ST, C1, C2, C3, C4, C5, C6⟩ := hI
                              have n12 : L 12 = false := by
                                cases h : L 12 with
                                | false => rfl
                                | true => have z := C2 h; simp [hL] at z
                              have n14 : L 14 = false := by
                                cases h : L 14 with
                                | false => rfl
                                | true => rw [C1 h] at n12; cases n12
                              refine goesK_ Tryd.func37 (by kernel_rfl) rfl #[.int .i64 (m : Int), .int .i64 (r : Int), .int .i64 (j : Int)] rfl (by simp only [List.map_toArray, List.map_cons, List.map_nil, evr_, ev_ e85, ev_ e86, ev_ e87]) ((P1 _).mono ?_)
                              rintro e w' ⟨rfl, n8, rfl⟩
                              exact ⟨_, rfl, hK.out s _ (fun _ _ => rfl) ⟨fun h => below_drewN (BW h) n8, fun h => (AL h).imp fun gl z => ⟨z.1, fun k => Blk.drewN (z.2 k) n8⟩, fun h => absurd h (by simp [YInv.up, n12]), fun h => absurd h (by simp [YInv.up, n14]), C1, fun h => absurd h (by simp [YInv.up, n12]), C3, C4, fun h => ⟨(C5 h).1, rfl⟩, fun _ => (hp ⟨5, .data⟩ (by simp) rfl)⟩⟩
                            refine VSteps.cons rfl (fun x L s wx K kn hL hp hI hK => ?_) ?_
                            · have e83 : x[83]? = some (.slice (some ⟨ga, oa, none⟩) l.length c) := kn.got 3 83 (hp ⟨3, .data⟩ (by simp) rfl) rfl
                              have e88 : x[88]? = some (.int .i64 (p : Int)) := kn.got 8 88 (hp ⟨8, .data⟩ (by simp) rfl) rfl
                              refine want_ rfl ?_
                              obtain ⟨BW, AL, AP, ST, C1, C2, C3, C4, C5, C6⟩ := hI
                              exact val_ (v := .pointer (some ⟨ga, oa + p, none⟩)) (by simp [go_sem, execOp, evr_, e83, e88, p0, p1, addr_add]) (hK.out s _ (fun _ _ => rfl) ⟨BW, AL, AP, ST, C1, C2, C3, fun _ => rfl, fun _ => ⟨(hp ⟨3, .data⟩ (by simp) rfl), (hp ⟨8, .data⟩ (by simp) rfl)⟩, C6⟩)
                            refine VSteps.cons rfl (fun x L s wx K kn hL hp hI hK => ?_) ?_
                            · have e89 : x[89]? = some (.pointer (some ⟨ga, oa + p, none⟩)) := kn.got 9 89 (hp ⟨9, .data⟩ (by simp) rfl) rfl
                              refine want_ rfl ?_
                              obtain ⟨BW, AL, AP, ST, C1, C2, C3, C4, C5, C6⟩ := hI
                              have n12 : L 12 = false := by
                                cases h : L 12 with
                                | false => rfl
                                | true => have z := C2 h; simp [hL] at z
                              have n14 : L 14 = false := by
                                cases h : L 14 with
                                | false => rfl
                                | true => rw [C1 h] at n12; cases n12
                              have cA := ((BW n12).cell (lt_of_cell cp)).trans cp
                              exact valw_ (v := .int .i64 lq) (w' := wx) (by simp [go_sem, execOp, evr_, e89, cA]) (hK.out s _ (fun _ _ => rfl) ⟨BW, AL, AP, ST, C1, fun h => absurd h (by simp [YInv.up, n12]), fun _ => rfl, fun _ => (hp ⟨9, .data⟩ (by simp) rfl), C5, C6⟩)
                            refine VSteps.cons rfl (fun x L s wx K kn hL hp hI hK => ?_) ?_
                            · have e90 : x[90]? = some (.int .i64 lq) := kn.got 10 90 (hp ⟨10, .data⟩ (by simp) rfl) rfl
                              refine want_ rfl ?_
                              obtain ⟨BW, AL, AP, ST, C1, C2, C3, C4, C5, C6⟩ := hI
                              have n12 : L 12 = false := by
                                cases h : L 12 with
                                | false => rfl
                                | true => have z := C2 h; simp [hL] at z
                              have n14 : L 14 = false := by
                                cases h : L 14 with
                                | false => rfl
                                | true => rw [C1 h] at n12; cases n12
                              exact valw_ (v := .slice (some ⟨wx.heap.size, 0, none⟩) 1 1) (w' := wx.alloc (.cells #[.int .i64 lq] 2)) (by simp [go_sem, execOp, evr_, e90]) (hK.out (updv s 11 (.slice (some ⟨wx.heap.size, 0, none⟩) 1 1)) _ (VQ_upd _ _ _ hL) ⟨fun h => bb (BW n12) ((Below.refl _ _).alloc (Nat.le_refl _) _), fun _ => ⟨wx.heap.size, rfl, fun _ => Blk.new _ _ _⟩, fun h => absurd h (by simp [YInv.up, n12]), fun h => absurd h (by simp [YInv.up, n14]), C1, fun h => absurd h (by simp [YInv.up, n12]), fun _ => (hp ⟨10, .data⟩ (by simp) rfl), C4, C5, C6⟩)
                            refine VSteps.cons rfl (fun x L s wx K kn hL hp hI hK => ?_) ?_
                            · have e81 : x[81]? = some (.slice Ao cu.length co) := kn.got 1 81 (hp ⟨1, .data⟩ (by simp) rfl) rfl
                              have e91 : x[91]? = some (s 11) := kn.got 11 91 (hp ⟨11, .data⟩ (by simp) rfl) rfl
                              refine want_ rfl ?_
                              obtain ⟨BW, AL, AP, ST, C1, C2, C3, C4, C5, C6⟩ := hI
                              have n14 : L 14 = false := by
                                cases h : L 14 with
                                | false => rfl
                                | true => rw [C1 h] at hL; cases hL
                              obtain ⟨gl, hgl, hkl⟩ := AL (hp ⟨11, .data⟩ (by simp) rfl)
                              have kl := hkl hL
                              rw [hgl] at e91
                              have owx := OwnI.keep HOW.out (BW hL)
                              refine oper_append_i (.tmp 81) (.tmp 91) rfl (w.heap.size + 2) (.slice Ao cu.length co) cu.length (cu.map (Value.int .i64)) (ev_ e81) owx (L := [lq]) (c := 1) (ev_ e91) (Rd.blk (l := [lq]) kl) (by simp; omega) (by have := (BW hL).size; omega) (fun v' w' own4 gr => ?_)
                              obtain ⟨A', c', rfl⟩ := own_sl own4
                              have C2a : L 1 = true ∧ L 3 = true ∧ L 5 = true ∧ L 8 = true ∧ L 10 = true ∧ L 11 = true := ⟨(hp ⟨1, .data⟩ (by simp) rfl), (C5 (C4 (C3 (hp ⟨11, .data⟩ (by simp) rfl)))).1, C6 (C5 (C4 (C3 (hp ⟨11, .data⟩ (by simp) rfl)))).2, (C5 (C4 (C3 (hp ⟨11, .data⟩ (by simp) rfl)))).2, C3 (hp ⟨11, .data⟩ (by simp) rfl), (hp ⟨11, .data⟩ (by simp) rfl)⟩
                              exact hK.out (updv s 12 (.slice A' (cu.length + 1) c')) _ (VQ_upd _ _ _ hL) ⟨fun h => absurd h (by simp [YInv.up]), fun h => ⟨gl, hgl, fun k => absurd k (by simp [YInv.up])⟩, fun _ _ => ⟨A', c', rfl, by simpa [OwnI] using own4, wx, BW hL, gr⟩, fun h => absurd h (by simp [YInv.up, n14]), fun _ => by simp [YInv.up], fun _ => ⟨C2a.1, C2a.2.1, C2a.2.2.1, C2a.2.2.2.1, C2a.2.2.2.2.1, C2a.2.2.2.2.2⟩, C3, C4, C5, C6⟩
                            refine VSteps.cons rfl (fun x L s wx K kn hL hp hI hK => ?_) ?_
                            · have e9 : x[9]? = some (.pointer (some ⟨g9, 0, none⟩)) := (kn.old 9 (by kernel_rfl)).trans rfl
                              refine want_ rfl ?_
                              obtain ⟨BW, AL, AP, ST, C1, C2, C3, C4, C5, C6⟩ := hI
                              exact val_ (v := .pointer (some ⟨g9, 1, none⟩)) (by simp [go_sem, execOp, evr_, e9, addr_add]) (hK.out s _ (fun _ _ => rfl) ⟨BW, AL, AP, ST, C1, C2, C3, C4, C5, C6⟩)
                            refine VSteps.cons rfl (fun x L s wx K kn hL hp hI hK => ?_) ?_
                            · have e93 : x[93]? = some (.pointer (some ⟨g9, 1, none⟩)) := kn.got 13 93 (hp ⟨13, .data⟩ (by simp) rfl) rfl
                              have e92 : x[92]? = some (s 12) := kn.got 12 92 (hp ⟨12, .data⟩ (by simp) rfl) rfl
                              refine want_ rfl ?_
                              obtain ⟨BW, AL, AP, ST, C1, C2, C3, C4, C5, C6⟩ := hI
                              obtain ⟨A', c', h12, own4, wy, By, gr⟩ := AP (hp ⟨12, .data⟩ (by simp) rfl) hL
                              rw [h12] at e92
                              have DY := HDI.out.keep By
                              have K9 := Blk.grown DY.k9 gr (DY.nb DY.k9)
                              have v0 := (K9.cell 1).trans (show _ = some (.slice Ao cu.length co) from rfl)
                              have v1 := K9.free 1
                              have DF := DY.app own4 gr
                              simp only [List.length_append, List.length_cons, List.length_nil, Nat.zero_add] at DF
                              exact skipw_ (w' := wx.setCell ⟨g9, 1, none⟩ (.slice A' (cu.length + 1) c')) (by simp [go_sem, execOp, evr_, e93, e92, v0, v1]) (hK.out s _ (fun _ _ => rfl) ⟨fun h => absurd (hp ⟨12, .data⟩ (by simp) rfl) (by have h' : L 12 = false := h; simp [h']), fun h => (AL h).imp fun gl z => ⟨z.1, fun k => absurd (hp ⟨12, .data⟩ (by simp) rfl) (by have h' : L 12 = false := k; simp [h'])⟩, fun _ h => absurd h (by simp [YInv.up]), fun _ => ⟨A', c', DF⟩, fun _ => (hp ⟨12, .data⟩ (by simp) rfl), C2, C3, C4, C5, C6⟩)
                            exact VSteps.nil
                          intro s wx hI
                          simp only [puts, VQ, List.getD_cons_zero, List.getD_cons_succ, List.set_cons_zero, List.set_cons_succ]
                          obtain ⟨BW, AL, AP, ST, C1, C2, C3, C4, C5, C6⟩ := hI
                          obtain ⟨A', c', DF⟩ := ST rfl
                          clear BW AL AP ST C1 C2 C3 C4 C5 C6
                          have HDF := Lib.hid DF
                          clear DF HDI HOW NB0 NB9 NBa q0 q1 u1 f1 cp P1
                          try clear e3 n3
                          try clear e4 n4
                          try clear e5 n5
                          try clear e6 n6
                          go_wp2_with fail
                          exact ⟨⟨j + 1, A', c', by omega, by omega, by go_num, by rw [HCV.out, HNX.out]; exact HDF.out⟩, by simp [intOf]; omega⟩
                        ·
                          refine region_vals (σ := Nat → Value) [some 80, some 81, some 82, some 83, some 84, some 85, some 86, some 87, some 88, some 89, some 90, some 91, some 92, some 93, none] (VQ [some (.pointer (some ⟨g9, 1, none⟩)), some (.slice Ao cu.length co), some (.pointer (some ⟨w.heap.size, 1, none⟩)), some (.slice (some ⟨ga, oa, none⟩) l.length c), some (.pointer (some ⟨w.heap.size, 0, none⟩)), some (.int .i64 (m : Int)), some (.int .i64 (r : Int)), some (.int .i64 (j : Int)), some (.int .i64 (p : Int)), some (.pointer (some ⟨ga, oa + p, none⟩)), some (.int .i64 lq), none, none, some (.pointer (some ⟨g9, 1, none⟩)), some (undef)]) (fun L s wx => (L 12 = false → Below wr.heap.size wr wx) ∧ (L 11 = true → ∃ gl, s 11 = .slice (some ⟨gl, 0, none⟩) 1 1 ∧ (L 12 = false → Blk wx gl #[.int .i64 lq] 2)) ∧ (L 12 = true → L 14 = false → ∃ A' c', s 12 = .slice A' (cu.length + 1) c' ∧ OwnI wx (w.heap.size + 2) A' c' (cu ++ [lq]) ∧ ∃ wy, Below wr.heap.size wr wy ∧ wy.grownBy wx (Value.slice Ao cu.length co).ownBlock) ∧ (L 14 = true → ∃ A' c', DIn w wx g9 m i k l (some ⟨ga, oa, none⟩) c A' c' (cu ++ [lq])) ∧ (L 14 = true → L 12 = true) ∧ (L 12 = true → L 1 = true ∧ L 3 = true ∧ L 5 = true ∧ L 8 = true ∧ L 10 = true ∧ L 11 = true) ∧ (L 11 = true → L 10 = true) ∧ (L 10 = true → L 9 = true) ∧ (L 9 = true → L 3 = true ∧ L 8 = true) ∧ (L 8 = true → L 5 = true)) (fun _ => undef) [0, 1, 2, 3, 4, 5, 6, 7, 8, 9, 10, 11, 12, 13, 14] _ _ rfl (by kernel_rfl) (by kernel_rfl) (by kernel_rfl) (by kernel_rfl) (by kernel_rfl) ⟨fun _ => (Below.refl _ _).drew, fun h => absurd h (by decide), fun h => absurd h (by decide), fun h => absurd h (by decide), fun h => absurd h (by decide), fun h => absurd h (by decide), fun h => absurd h (by decide), fun h => absurd h (by decide), fun h => absurd h (by decide), fun h => absurd h (by decide)⟩ ?stepsD3 ?finD3 (fun L L' s wx e h => by rw [e 1 (by decide), e 3 (by decide), e 5 (by decide), e 8 (by decide), e 9 (by decide), e 10 (by decide), e 11 (by decide), e 12 (by decide), e 14 (by decide)] at h; exact h)
                          case stepsD3 =>
                            refine VSteps.cons rfl (fun x L s wx K kn hL hp hI hK => ?_) ?_
                            · have e9 : x[9]? = some (.pointer (some ⟨g9, 0, none⟩)) := (kn.old 9 (by kernel_rfl)).trans rfl
                              refine want_ rfl ?_
                              obtain ⟨BW, AL, AP, ST, C1, C2, C3, C4, C5, C6⟩ := hI
                              exact val_ (v := .pointer (some ⟨g9, 1, none⟩)) (by simp [go_sem, execOp, evr_, e9, addr_add]) (hK.out s _ (fun _ _ => rfl) ⟨BW, AL, AP, ST, C1, C2, C3, C4, C5, C6⟩)
                            refine VSteps.cons rfl (fun x L s wx K kn hL hp hI hK => ?_) ?_
                            · have e80 : x[80]? = some (.pointer (some ⟨g9, 1, none⟩)) := kn.got 0 80 (hp ⟨0, .data⟩ (by simp) rfl) rfl
                              refine want_ rfl ?_
                              obtain ⟨BW, AL, AP, ST, C1, C2, C3, C4, C5, C6⟩ := hI
                              have n12 : L 12 = false := by
                                cases h : L 12 with
                                | false => rfl
                                | true => have z := C2 h; simp [hL] at z
                              have n14 : L 14 = false := by
                                cases h : L 14 with
                                | false => rfl
                                | true => rw [C1 h] at n12; cases n12
                              have cA := ((BW n12).cell (lt_of_cell u1)).trans u1
                              exact valw_ (v := .slice Ao cu.length co) (w' := wx) (by simp [go_sem, execOp, evr_, e80, cA]) (hK.out s _ (fun _ _ => rfl) ⟨BW, AL, AP, ST, C1, fun h => absurd h (by simp [YInv.up, n12]), C3, C4, C5, C6⟩)
                            refine VSteps.cons rfl (fun x L s wx K kn hL hp hI hK => ?_) ?_
                            · have e3 : x[3]? = some (.pointer (some ⟨w.heap.size, 0, none⟩)) := (kn.old 3 (by kernel_rfl)).trans rfl
                              refine want_ rfl ?_
                              obtain ⟨BW, AL, AP, ST, C1, C2, C3, C4, C5, C6⟩ := hI
                              exact val_ (v := .pointer (some ⟨w.heap.size, 1, none⟩)) (by simp [go_sem, execOp, evr_, e3, addr_add]) (hK.out s _ (fun _ _ => rfl) ⟨BW, AL, AP, ST, C1, C2, C3, C4, C5, C6⟩)
                            refine VSteps.cons rfl (fun x L s wx K kn hL hp hI hK => ?_) ?_
                            · have e82 : x[82]? = some (.pointer (some ⟨w.heap.size, 1, none⟩)) := kn.got 2 82 (hp ⟨2, .data⟩ (by simp) rfl) rfl
                              refine want_ rfl ?_
                              obtain ⟨BW, AL, AP, ST, C1, C2, C3, C4, C5, C6⟩ := hI
                              have n12 : L 12 = false := by
                                cases h : L 12 with
                                | false => rfl
                                | true => have z := C2 h; simp [hL] at z
                              have n14 : L 14 = false := by
                                cases h : L 14 with
                                | false => rfl
                                | true => rw [C1 h] at n12; cases n12
                              have cA := ((BW n12).cell (lt_of_cell q1)).trans q1
                              exact valw_ (v := .slice (some ⟨ga, oa, none⟩) l.length c) (w' := wx) (by simp [go_sem, execOp, evr_, e82, cA]) (hK.out s _ (fun _ _ => rfl) ⟨BW, AL, AP, ST, C1, fun h => absurd h (by simp [YInv.up, n12]), C3, C4, fun h => ⟨rfl, (C5 h).2⟩, C6⟩)
                            refine VSteps.cons rfl (fun x L s wx K kn hL hp hI hK => ?_) ?_
                            · have e3 : x[3]? = some (.pointer (some ⟨w.heap.size, 0, none⟩)) := (kn.old 3 (by kernel_rfl)).trans rfl
                              refine want_ rfl ?_
                              obtain ⟨BW, AL, AP, ST, C1, C2, C3, C4, C5, C6⟩ := hI
                              exact val_ (v := .pointer (some ⟨w.heap.size, 0, none⟩)) (by simp [go_sem, execOp, evr_, e3]) (hK.out s _ (fun _ _ => rfl) ⟨BW, AL, AP, ST, C1, C2, C3, C4, C5, C6⟩)
                            refine VSteps.cons rfl (fun x L s wx K kn hL hp hI hK => ?_) ?_
                            · have e84 : x[84]? = some (.pointer (some ⟨w.heap.size, 0, none⟩)) := kn.got 4 84 (hp ⟨4, .data⟩ (by simp) rfl) rfl
                              refine want_ rfl ?_
                              obtain ⟨BW, AL, AP, ST, C1, C2, C3, C4, C5, C6⟩ := hI
                              have n12 : L 12 = false := by
                                cases h : L 12 with
                                | false => rfl
                                | true => have z := C2 h; simp [hL] at z
                              have n14 : L 14 = false := by
                                cases h : L 14 with
                                | false => rfl
                                | true => rw [C1 h] at n12; cases n12
                              have cA := ((BW n12).cell (lt_of_cell q0)).trans q0
                              exact valw_ (v := .int .i64 (m : Int)) (w' := wx) (by simp [go_sem, execOp, evr_, e84, cA]) (hK.out s _ (fun _ _ => rfl) ⟨BW, AL, AP, ST, C1, fun h => absurd h (by simp [YInv.up, n12]), C3, C4, C5, fun _ => rfl⟩)
                            refine VSteps.cons rfl (fun x L s wx K kn hL hp hI hK => ?_) ?_
                            · have e10 : x[10]? = some (.int .i64 (r : Int)) := (kn.old 10 (by kernel_rfl)).trans rfl
                              refine want_ rfl ?_
                              obtain ⟨BW, AL, AP, ST, C1, C2, C3, C4, C5, C6⟩ := hI
                              exact val_ (v := .int .i64 (r : Int)) (by simp [go_sem, execOp, evr_, e10]) (hK.out s _ (fun _ _ => rfl) ⟨BW, AL, AP, ST, C1, C2, C3, C4, C5, C6⟩)
                            refine VSteps.cons rfl (fun x L s wx K kn hL hp hI hK => ?_) ?_
                            · have e11 : x[11]? = some (.int .i64 (j : Int)) := (kn.old 11 (by kernel_rfl)).trans rfl
                              refine want_ rfl ?_
                              obtain ⟨BW, AL, AP, ST, C1, C2, C3, C4, C5, C6⟩ := hI
                              exact val_ (v := .int .i64 (j : Int)) (by simp [go_sem, execOp, evr_, e11]) (hK.out s _ (fun _ _ => rfl) ⟨BW, AL, AP, ST, C1, C2, C3, C4, C5, C6⟩)
                            refine VSteps.cons rfl (fun x L s wx K kn hL hp hI hK => ?_) ?_
                            · have e85 : x[85]? = some (.int .i64 (m : Int)) := kn.got 5 85 (hp ⟨5, .data⟩ (by simp) rfl) rfl
                              have e86 : x[86]? = some (.int .i64 (r : Int)) := kn.got 6 86 (hp ⟨6, .data⟩ (by simp) rfl) rfl
                              have e87 : x[87]? = some (.int .i64 (j : Int)) := kn.got 7 87 (hp ⟨7, .data⟩ (by simp) rfl) rfl
                              refine want_ rfl ?_
                              obtain ⟨BW, AL, AP, ST, C1, C2, C3, C4, C5, C6⟩ := hI
                              have n12 : L 12 = false := by
                                cases h : L 12 with
                                | false => rfl
                                | true => have z := C2 h; simp [hL] at z
                              have n14 : L 14 = false := by
                                cases h : L 14 with
                                | false => rfl
                                | true => rw [C1 h] at n12; cases n12
                              refine goesK_ Tryd.func37 (by kernel_rfl) rfl #[.int .i64 (m : Int), .int .i64 (r : Int), .int .i64 (j : Int)] rfl (by simp only [List.map_toArray, List.map_cons, List.map_nil, evr_, ev_ e85, ev_ e86, ev_ e87]) ((P1 _).mono ?_)
                              rintro e w' ⟨rfl, n8, rfl⟩
                              exact ⟨_, rfl, hK.out s _ (fun _ _ => rfl) ⟨fun h => below_drewN (BW h) n8, fun h => (AL h).imp fun gl z => ⟨z.1, fun k => Blk.drewN (z.2 k) n8⟩, fun h => absurd h (by simp [YInv.up, n12]), fun h => absurd h (by simp [YInv.up, n14]), C1, fun h => absurd h (by simp [YInv.up, n12]), C3, C4, fun h => ⟨(C5 h).1, rfl⟩, fun _ => (hp ⟨5, .data⟩ (by simp) rfl)⟩⟩
                            refine VSteps.cons rfl (fun x L s wx K kn hL hp hI hK => ?_) ?_
                            · have e83 : x[83]? = some (.slice (some ⟨ga, oa, none⟩) l.length c) := kn.got 3 83 (hp ⟨3, .data⟩ (by simp) rfl) rfl
                              have e88 : x[88]? = some (.int .i64 (p : Int)) := kn.got 8 88 (hp ⟨8, .data⟩ (by simp) rfl) rfl
                              refine want_ rfl ?_
                              obtain ⟨BW, AL, AP, ST, C1, C2, C3, C4, C5, C6⟩ := hI
                              exact val_ (v := .pointer (some ⟨ga, oa + p, none⟩)) (by simp [go_sem, execOp, evr_, e83, e88, p0, p1, addr_add]) (hK.out s _ (fun _ _ => rfl) ⟨BW, AL, AP, ST, C1, C2, C3, fun _ => rfl, fun _ => ⟨(hp ⟨3, .data⟩ (by simp) rfl), (hp ⟨8, .data⟩ (by simp) rfl)⟩, C6⟩)
                            refine VSteps.cons rfl (fun x L s wx K kn hL hp hI hK => ?_) ?_
                            · have e89 : x[89]? = some (.pointer (some ⟨ga, oa + p, none⟩)) := kn.got 9 89 (hp ⟨9, .data⟩ (by simp) rfl) rfl
                              refine want_ rfl ?_
                              obtain ⟨BW, AL, AP, ST, C1, C2, C3, C4, C5, C6⟩ := hI
                              have n12 : L 12 = false := by
                                cases h : L 12 with
                                | false => rfl
                                | true => have z := C2 h; simp [hL] at z
                              have n14 : L 14 = false := by
                                cases h : L 14 with
                                | false => rfl
                                | true => rw [C1 h] at n12; cases n12
                              have cA := ((BW n12).cell (lt_of_cell cp)).trans cp
                              exact valw_ (v := .int .i64 lq) (w' := wx) (by simp [go_sem, execOp, evr_, e89, cA]) (hK.out s _ (fun _ _ => rfl) ⟨BW, AL, AP, ST, C1, fun h => absurd h (by simp [YInv.up, n12]), fun _ => rfl, fun _ => (hp ⟨9, .data⟩ (by simp) rfl), C5, C6⟩)
                            refine VSteps.cons rfl (fun x L s wx K kn hL hp hI hK => ?_) ?_
                            · have e90 : x[90]? = some (.int .i64 lq) := kn.got 10 90 (hp ⟨10, .data⟩ (by simp) rfl) rfl
                              refine want_ rfl ?_
                              obtain ⟨BW, AL, AP, ST, C1, C2, C3, C4, C5, C6⟩ := hI
                              have n12 : L 12 = false := by
                                cases h : L 12 with
                                | false => rfl
                                | true => have z := C2 h; simp [hL] at z
                              have n14 : L 14 = false := by
                                cases h : L 14 with
                                | false => rfl
                                | true => rw [C1 h] at n12; cases n12
                              exact valw_ (v := .slice (some ⟨wx.heap.size, 0, none⟩) 1 1) (w' := wx.alloc (.cells #[.int .i64 lq] 2)) (by simp [go_sem, execOp, evr_, e90]) (hK.out (updv s 11 (.slice (some ⟨wx.heap.size, 0, none⟩) 1 1)) _ (VQ_upd _ _ _ hL) ⟨fun h => bb (BW n12) ((Below.refl _ _).alloc (Nat.le_refl _) _), fun _ => ⟨wx.heap.size, rfl, fun _ => Blk.new _ _ _⟩, fun h => absurd h (by simp [YInv.up, n12]), fun h => absurd h (by simp [YInv.up, n14]), C1, fun h => absurd h (by simp [YInv.up, n12]), fun _ => (hp ⟨10, .data⟩ (by simp) rfl), C4, C5, C6⟩)
                            refine VSteps.cons rfl (fun x L s wx K kn hL hp hI hK => ?_) ?_
                            · have e81 : x[81]? = some (.slice Ao cu.length co) := kn.got 1 81 (hp ⟨1, .data⟩ (by simp) rfl) rfl
                              have e91 : x[91]? = some (s 11) := kn.got 11 91 (hp ⟨11, .data⟩ (by simp) rfl) rfl
                              refine want_ rfl ?_
                              obtain ⟨BW, AL, AP, ST, C1, C2, C3, C4, C5, C6⟩ := hI
                              have n14 : L 14 = false := by
                                cases h : L 14 with
                                | false => rfl
                                | true => rw [C1 h] at hL; cases hL
                              obtain ⟨gl, hgl, hkl⟩ := AL (hp ⟨11, .data⟩ (by simp) rfl)
                              have kl := hkl hL
                              rw [hgl] at e91
                              have owx := OwnI.keep HOW.out (BW hL)
                              refine oper_append_i (.tmp 81) (.tmp 91) rfl (w.heap.size + 2) (.slice Ao cu.length co) cu.length (cu.map (Value.int .i64)) (ev_ e81) owx (L := [lq]) (c := 1) (ev_ e91) (Rd.blk (l := [lq]) kl) (by simp; omega) (by have := (BW hL).size; omega) (fun v' w' own4 gr => ?_)
                              obtain ⟨A', c', rfl⟩ := own_sl own4
                              have C2a : L 1 = true ∧ L 3 = true ∧ L 5 = true ∧ L 8 = true ∧ L 10 = true ∧ L 11 = true := ⟨(hp ⟨1, .data⟩ (by simp) rfl), (C5 (C4 (C3 (hp ⟨11, .data⟩ (by simp) rfl)))).1, C6 (C5 (C4 (C3 (hp ⟨11, .data⟩ (by simp) rfl)))).2, (C5 (C4 (C3 (hp ⟨11, .data⟩ (by simp) rfl)))).2, C3 (hp ⟨11, .data⟩ (by simp) rfl), (hp ⟨11, .data⟩ (by simp) rfl)⟩
                              exact hK.out (updv s 12 (.slice A' (cu.length + 1) c')) _ (VQ_upd _ _ _ hL) ⟨fun h => absurd h (by simp [YInv.up]), fun h => ⟨gl, hgl, fun k => absurd k (by simp [YInv.up])⟩, fun _ _ => ⟨A', c', rfl, by simpa [OwnI] using own4, wx, BW hL, gr⟩, fun h => absurd h (by simp [YInv.up, n14]), fun _ => by simp [YInv.up], fun _ => ⟨C2a.1, C2a.2.1, C2a.2.2.1, C2a.2.2.2.1, C2a.2.2.2.2.1, C2a.2.2.2.2.2⟩, C3, C4, C5, C6⟩
                            refine VSteps.cons rfl (fun x L s wx K kn hL hp hI hK => ?_) ?_
                            · have e9 : x[9]? = some (.pointer (some ⟨g9, 0, none⟩)) := (kn.old 9 (by kernel_rfl)).trans rfl
                              refine want_ rfl ?_
                              obtain ⟨BW, AL, AP, ST, C1, C2, C3, C4, C5, C6⟩ := hI
                              exact val_ (v := .pointer (some ⟨g9, 1, none⟩)) (by simp [go_sem, execOp, evr_, e9, addr_add]) (hK.out s _ (fun _ _ => rfl) ⟨BW, AL, AP, ST, C1, C2, C3, C4, C5, C6⟩)
                            refine VSteps.cons rfl (fun x L s wx K kn hL hp hI hK => ?_) ?_
                            · have e93 : x[93]? = some (.pointer (some ⟨g9, 1, none⟩)) := kn.got 13 93 (hp ⟨13, .data⟩ (by simp) rfl) rfl
                              have e92 : x[92]? = some (s 12) := kn.got 12 92 (hp ⟨12, .data⟩ (by simp) rfl) rfl
                              refine want_ rfl ?_
                              obtain ⟨BW, AL, AP, ST, C1, C2, C3, C4, C5, C6⟩ := hI
                              obtain ⟨A', c', h12, own4, wy, By, gr⟩ := AP (hp ⟨12, .data⟩ (by simp) rfl) hL
                              rw [h12] at e92
                              have DY := HDI.out.keep By
                              have K9 := Blk.grown DY.k9 gr (DY.nb DY.k9)
                              have v0 := (K9.cell 1).trans (show _ = some (.slice Ao cu.length co) from rfl)
                              have v1 := K9.free 1
                              have DF := DY.app own4 gr
                              simp only [List.length_append, List.length_cons, List.length_nil, Nat.zero_add] at DF
                              exact skipw_ (w' := wx.setCell ⟨g9, 1, none⟩ (.slice A' (cu.length + 1) c')) (by simp [go_sem, execOp, evr_, e93, e92, v0, v1]) (hK.out s _ (fun _ _ => rfl) ⟨fun h => absurd (hp ⟨12, .data⟩ (by simp) rfl) (by have h' : L 12 = false := h; simp [h']), fun h => (AL h).imp fun gl z => ⟨z.1, fun k => absurd (hp ⟨12, .data⟩ (by simp) rfl) (by have h' : L 12 = false := k; simp [h'])⟩, fun _ h => absurd h (by simp [YInv.up]), fun _ => ⟨A', c', DF⟩, fun _ => (hp ⟨12, .data⟩ (by simp) rfl), C2, C3, C4, C5, C6⟩)
                            exact VSteps.nil
                          intro s wx hI
                          simp only [puts, VQ, List.getD_cons_zero, List.getD_cons_succ, List.set_cons_zero, List.set_cons_succ]
                          obtain ⟨BW, AL, AP, ST, C1, C2, C3, C4, C5, C6⟩ := hI
                          obtain ⟨A', c', DF⟩ := ST rfl
                          clear BW AL AP ST C1 C2 C3 C4 C5 C6
                          have HDF := Lib.hid DF
                          clear DF HDI HOW NB0 NB9 NBa q0 q1 u1 f1 cp P1
                          try clear e3 n3
                          try clear e4 n4
                          try clear e5 n5
                          try clear e6 n6
                          go_wp2_with fail
                          exact ⟨⟨j + 1, A', c', by omega, by omega, by go_num, by rw [HCV.out, HNX.out]; exact HDF.out⟩, by simp [intOf]; omega⟩
                      · have hno : kee m i k (pl m r j) = false := by rw [hke]; simp; omega
                        have HNX := Lib.hid (show droC m i k l (pl m r (j + 1)) = droC m i k l (pl m r j) by rw [hnx]; exact droC_no hno)
                        have HDI := Lib.hid DI
                        have HE2 := Lib.hid (And.intro e1 e2)
                        clear DI e1 e2 hno hke hnx
                        have CS : decide ((j : Int) < (i : Int)) = false ∧ decide ((i : Int) + (k : Int) ≤ (j : Int)) = false ∧ (decide ((r : Int) < (i : Int)) = true ∨ (decide ((r : Int) < (i : Int)) = false ∧ decide ((i : Int) + (k : Int) ≤ (r : Int)) = true)) := by
                          have := HE2.out
                          simp only [decide_eq_true_eq, decide_eq_false_iff_not]
                          omega
                        obtain ⟨e4, e6, e3 | ⟨e3, e5⟩⟩ := CS
                        case' inl =>
                          have n3 : decide (r < i) = true := by simpa using e3
                        case' inr =>
                          have n3 : decide (r < i) = false := by simpa using e3
                          have n5 : decide (i + k ≤ r) = true := by simp at e5 ⊢; omega
                        all_goals
                          have n4 : decide (j < i) = false := by simpa using e4
                          have n6 : decide (i + k ≤ j) = false := by simp at e6 ⊢; omega
                          go_wp2_with fail
                          exact ⟨⟨j + 1, Ao, co, by omega, by omega, by go_num, by rw [HNX.out]; exact HDI.out⟩, by simp [intOf]; omega⟩
                    · have hno : kee m i k (pl m r j) = false := by rw [hke]; simp; omega
                      have HNX := Lib.hid (show droC m i k l (pl m r (j + 1)) = droC m i k l (pl m r j) by rw [hnx]; exact droC_no hno)
                      have HDI := Lib.hid DI
                      have e3 : decide ((r : Int) < (i : Int)) = false := by simp; omega
                      have e5 : decide ((i : Int) + (k : Int) ≤ (r : Int)) = false := by simp; omega
                      have n3 : decide (r < i) = false := by simp; omega
                      have n5 : decide (i + k ≤ r) = false := by simp; omega
                      clear DI e1 hno hke hnx
                      go_wp2_with fail
                      exact ⟨⟨j + 1, Ao, co, by omega, by omega, by go_num, by rw [HNX.out]; exact HDI.out⟩, by simp [intOf]; omega⟩
                  · obtain rfl : j = m := by omega
                    have j2 : decide ((j : Int) < (j : Int)) = false := by simp
                    have HO := Lib.hid DI
                    have HRW := Lib.hid (pl_row HM.out hrm)
                    clear DI
                    go_wp2_with fail
                    exact ⟨⟨r + 1, Ao, co, by omega, by go_num, by rw [HRW.out]; exact HO.out⟩, by simp [intOf]; omega⟩
              · obtain rfl : r = m := by omega
                have r2 : decide ((r : Int) < (r : Int)) = false := by simp
                have HO := Lib.hid DI
                have k1 := DI.k1
                have b1 := DI.b
                have u0 := (DI.k9.cell 0).trans (show _ = some (.int .i64 ((r : Int) - (k : Int))) from rfl)
                have u1 := (DI.k9.cell 1).trans (show _ = some (.slice Ao (droC r i k l (pl r r r)).length co) from rfl)
                have z0 := (k1.cell 0).trans (show _ = some (.int .i64 0) from rfl)
                have z1 := (k1.cell 1).trans (show _ = some (.slice none 0 0) from rfl)
                have y0 := k1.free 0
                have y1 := k1.free 1
                clear DI
                generalize hcu : droC r i k l (pl r r r) = cu at *
                have HCU := Lib.hid hcu
                clear hcu
                go_wp2_with fail
                refine bodyPost_ret (v := .tuple #[.agg #[.int .i64 ((r : Int) - (k : Int)), .slice Ao cu.length co], .nilIface]) ?_ rfl ?_
                · rw [results_cell_tmp rfl]
                  go_simp
                · have P := put2 (.int .i64 ((r : Int) - (k : Int))) (.slice Ao cu.length co) k1 b1 (by omega)
                  have ow := HO.out.ow
                  rw [HE.out, HN.out, HL.out, ← pl_end HM.out, HCU.out]
                  exact ⟨Ao, co, .nilIface, rfl, (P.own ow (ow.ne (by omega))).mono (by omega), ErrFrom.nil _ _ _, P.below⟩
end Go.Proofs.YtfcandmhalhaeaaDoor.YSym
namespace Go.Proofs.YtfcandmhalhaeaaDoor.YSym
open Go.RowKit Go.Proofs.YtfcandmhalhaeaaDoor.YErr Go.Proofs.YtfcandmhalhaeaaDoor.YInv Go.Proofs.YtfcandmhalhaeaaDoor.YRef Go.Proofs.YtfcandmhalhaeaaDoor.YBits Go.Proofs.YtfcandmhalhaeaaDoor.YNum Go.Proofs.YtfcandmhalhaeaaDoor.QSy Go.Proofs.YtfcandmhalhaeaaDoor.YWide Go.Proofs.YtfcandmhalhaeaaDoorW.PrintWords Go.Proofs.YtfcandmhalhaeaaDoorW.PrintLast
set_option linter.unusedVariables false
set_option linter.unusedSimpArgs false
theorem gro_okay {n q : Nat} {l : List Int} (hr : rightB n l = true) (h : n + q ≤ 8) : groE n l q = 0 ∧ groN n l q = ((n + q : Nat) : Int) ∧ groL n l q = (List.range (tri (n + q))).map (groF n (n + q) l) := by
  have e : groE n l q = 0 := by unfold groE; rw [if_pos hr, if_neg (by omega), if_neg (by omega)]
  refine ⟨e, ?_, ?_⟩
  · unfold groN; rw [if_pos e]; omega
  · unfold groL; rw [if_pos e, show ((n : Int) + (q : Int)).toNat = n + q by omega]; rfl
theorem gro_right {n N : Nat} {l : List Int} (hl : ∀ x ∈ l, -1073741824 ≤ x ∧ x ≤ 1073741824) (h : N ≤ 8) : rightB N ((List.range (tri N)).map (groF n N l)) = true := by
  refine rightB_of h (by simp) (fun x hx => ?_)
  obtain ⟨k, _, rfl⟩ := List.mem_map.1 hx
  unfold groF
  split
  · by_cases hk : pl n (rowOf N k) (colOf N k) < l.length
    · rw [show l.getD (pl n (rowOf N k) (colOf N k)) 0 = l[pl n (rowOf N k) (colOf N k)] by simp [List.getD, hk]]; exact hl _ (List.getElem_mem hk)
    · rw [show l.getD (pl n (rowOf N k) (colOf N k)) 0 = 0 by simp [List.getD, hk]]; omega
  · omega
theorem kee_list {n N : Nat} (hN : N ≤ 8) (hn : n ≤ N) : ((List.range (tri N)).filter (kee N n (N - n))).map (fun p => pl n (rowOf N p) (colOf N p)) = List.range (tri n) := by
  have h : ∀ N : Fin 9, ∀ n : Fin 9, n.1 ≤ N.1 → ((List.range (tri N.1)).filter (kee N.1 n.1 (N.1 - n.1))).map (fun p => pl n.1 (rowOf N.1 p) (colOf N.1 p)) = List.range (tri n.1) := by decide +kernel
  exact h ⟨N, by omega⟩ ⟨n, by omega⟩ hn
theorem dro_gro {n q : Nat} {l : List Int} (h : n + q ≤ 8) (hl : l.length = tri n) : droC (n + q) n q ((List.range (tri (n + q))).map (groF n (n + q) l)) (tri (n + q)) = l := by
  have hk := kee_list h (Nat.le_add_right n q)
  rw [Nat.add_sub_cancel_left] at hk
  unfold droC
  have e : ((List.range (tri (n + q))).filter (kee (n + q) n q)).map (fun p => ((List.range (tri (n + q))).map (groF n (n + q) l)).getD p 0) = ((List.range (tri (n + q))).filter (kee (n + q) n q)).map (fun p => l.getD (pl n (rowOf (n + q) p) (colOf (n + q) p)) 0) := by
    apply List.map_congr_left
    intro p hp
    obtain ⟨h1, h2⟩ := List.mem_filter.1 hp
    have h3 := List.mem_range.1 h1
    have h4 := (pl_rc h h3).2.1
    rw [show ((List.range (tri (n + q))).map (groF n (n + q) l)).getD p 0 = groF n (n + q) l p by simp [List.getD, h3]]
    unfold groF
    rw [if_pos]
    unfold kee at h2
    simp only [Bool.and_eq_true, Bool.or_eq_true, decide_eq_true_eq] at h2
    omega
  rw [e, show (fun p => l.getD (pl n (rowOf (n + q) p) (colOf (n + q) p)) 0) = (fun x => l.getD x 0) ∘ (fun p => pl n (rowOf (n + q) p) (colOf (n + q) p)) from rfl, ← List.map_map, hk, ← hl]
  apply List.ext_getElem?
  intro i
  by_cases hi : i < l.length
  · simp [hi, List.getD]
  · simp [hi, List.getElem?_eq_none (Nat.le_of_not_lt hi)]
theorem dro_okay {n q : Nat} {l : List Int} (hr : rightB n l = true) (h : n + q ≤ 8) : droE ((n + q : Nat) : Int) ((List.range (tri (n + q))).map (groF n (n + q) l)) n q = 0 ∧ droN ((n + q : Nat) : Int) ((List.range (tri (n + q))).map (groF n (n + q) l)) n q = (n : Int) ∧ droL ((n + q : Nat) : Int) ((List.range (tri (n + q))).map (groF n (n + q) l)) n q = l := by
  obtain ⟨m, e, hm, hlen, hall⟩ := rightB_nat hr
  obtain rfl : n = m := by omega
  have e : droE ((n + q : Nat) : Int) ((List.range (tri (n + q))).map (groF n (n + q) l)) n q = 0 := by unfold droE; rw [if_pos (gro_right hall h), if_neg (by omega)]
  refine ⟨e, ?_, ?_⟩
  · unfold droN; rw [if_pos e]; omega
  · unfold droL; rw [if_pos e]; exact dro_gro h hlen
theorem gro_at {n q i j : Nat} {l : List Int} (hr : rightB n l = true) (h : n + q ≤ 8) (hi : n ≤ i) (hi2 : i < n + q) (hj : j < n + q) : inE ((n + q : Nat) : Int) ((List.range (tri (n + q))).map (groF n (n + q) l)) [(i : Int), (j : Int)] = 0 ∧ atV ((n + q : Nat) : Int) ((List.range (tri (n + q))).map (groF n (n + q) l)) i j = 0 := by
  obtain ⟨m, e, hm, hlen, hall⟩ := rightB_nat hr
  obtain rfl : n = m := by omega
  have e : inE ((n + q : Nat) : Int) ((List.range (tri (n + q))).map (groF n (n + q) l)) [(i : Int), (j : Int)] = 0 := by
    rw [inE_2, if_pos (gro_right hall h), if_pos (by omega)]
  refine ⟨e, ?_⟩
  unfold atV
  rw [if_pos e]
  simp only [Int.toNat_natCast]
  have hp := pl_lt h hi2 hj
  rw [show ((List.range (tri (n + q))).map (groF n (n + q) l)).getD (pl (n + q) i j) 0 = groF n (n + q) l (pl (n + q) i j) by simp [List.getD, hp]]
  rcases Nat.le_total i j with hij | hij
  · exact groF_0 h hij hj (by omega) l
  · rw [pl_comm]; exact groF_0 h hij hi2 hi l
set_option maxRecDepth 100000 in
set_option maxHeartbeats 16000000 in
theorem SymRows_c {a1 a2 : Int} {B : Option Addr} {d : Nat} {hs : List Int} {kx : Int} {w : World} (hg : Laid w) (x0 : 0 ≤ a1) (x1 : a1 ≤ 255) (x2 : 0 ≤ a2) (x3 : a2 ≤ 65535) (wh : ∀ x ∈ hs, -32768 ≤ x ∧ x ≤ 32767) (RH : RdK .i16 w B hs) (y0 : 0 ≤ kx) (y1 : kx ≤ 255) :
    Calls Tryd.prog 4 #[.int .u8 a1, .int .u16 a2, .slice B hs.length d, .int .u8 kx] w fun e w' => e = .returned (.bool true) ∧ Below w.heap.size w w' := by
  obtain ⟨kk, hkk⟩ : ∃ kk : Nat, a1 % 7 = (kk : Int) := ⟨(a1 % 7).toNat, by omega⟩
  obtain ⟨q, hq⟩ : ∃ q : Nat, kx % 5 = (q : Int) := ⟨(kx % 5).toNat, by omega⟩
  have hqt : Int.tmod kx 5 = (q : Int) := by rw [Int.tmod_eq_emod_of_nonneg y0]; exact hq
  have k6 : kk ≤ 6 := by omega
  have q4 : q ≤ 4 := by omega
  have b0 := Below.refl w.heap.size w
  go_enter Tryd.func4, Tryd.ntmps4
  go_wp2_with fail
  refine (known_c _ hg).mono ?_; rintro e w_1 ⟨rfl, g⟩
  replace hg := hg.keep g
  replace RH := RH.keep g
  have b_2 := bb b0 g
  clear b0
  clear g
  by_cases hhl : hs.length ≤ 60
  case neg =>
    have e1 : decide (60 < (hs.length : Int)) = true := by simp; omega
    have e2 : decide (60 < hs.length) = true := by simp; omega
    clear hhl
    go_wp2_with fail
    go_ret
    exact ⟨rfl, b_2⟩
  case pos =>
    have e1 : decide (60 < (hs.length : Int)) = false := by simp; omega
    have e2 : decide (60 < hs.length) = false := by simp; omega
    have SS := seatSym_c (d := d) a1 a2 kk x0 x1 hkk x2 x3 wh hhl RH
    clear x0 x1 x2 x3 wh hhl hkk
    go_wp2_with fail
    refine (SS).mono ?_; rintro e w_3 ⟨A2, c2, l2, rfl, own2, hr2, g⟩
    replace hg := hg.keep g
    replace RH := RH.keep g
    have b_4 := bb b_2 g
    clear b_2
    clear g
    clear SS e1 e2
    clear RH
    have HR := Lib.hid hr2
    have hl2 : l2.length ≤ 60 := by obtain ⟨m, e, hm, hlen, _⟩ := rightB_nat hr2; have := tri_le hm; omega
    clear hr2
    have kI : (kk : Int) ≤ 6 := by omega
    have kP : (0 : Int) ≤ (kk : Int) := by omega
    have qI : (q : Int) ≤ 4 := by omega
    have qP : (0 : Int) ≤ (q : Int) := by omega
    have ga : Below w_3.heap.size w_3 (w_3.alloc (.cells #[.int .i64 (kk : Int), .slice A2 l2.length c2] 24)) := (Below.refl _ _).alloc (Nat.le_refl _) _
    have k9 := Blk.new w_3 #[.int .i64 (kk : Int), .slice A2 l2.length c2] 24
    replace hg := hg.keep ga
    replace own2 := own2.keep ga
    have b_6 := bb b_4 ga
    clear b_4
    clear ga
    have c_k9_0 := (Blk.cell k9 0).trans (show _ = some (.int .i64 (kk : Int)) from rfl)
    have c_k9_1 := (Blk.cell k9 1).trans (show _ = some (.slice A2 l2.length c2) from rfl)
    go_wp2_with fail
    generalize (w_3.alloc (.cells #[.int .i64 (kk : Int), .slice A2 l2.length c2] 24)) = w_5 at *
    generalize w_3.heap.size = g_k9 at *
    have CG := fun W (R : Rd W A2 l2) => SGrow_c (n := (kk : Int)) R (OwnI.cap own2) (by omega) (q : Int) (by unfold W64; omega)
    by_cases hbig : kk + q ≤ 8
    case neg =>
      have hE : groE kk l2 q = 23 := by unfold groE; rw [if_pos HR.out, if_neg (by omega), if_pos (by omega)]
      obtain ⟨hN, hL⟩ := gro_bad hE (by decide)
      rw [hE, hN, hL] at CG
      have e3 : decide (8 < (kk : Int) + (q : Int)) = true := by simp; omega
      have e4 : decide (8 < kk + q) = true := by simp; omega
      clear hE hN hL
      refine (CG _ own2.rd).mono ?_; rintro e w_7 ⟨A3, c3, v, rfl, own3, hv, g⟩
      clear c_k9_0 c_k9_1
      replace hg := hg.keep g
      replace own2 := own2.keep g
      replace k9 := k9.keep g
      have b_8 := bb b_6 g
      clear b_6
      clear g
      have c_k9_0 := (Blk.cell k9 0).trans (show _ = some (.int .i64 (kk : Int)) from rfl)
      have c_k9_1 := (Blk.cell k9 1).trans (show _ = some (.slice A2 l2.length c2) from rfl)
      clear own3 CG
      clear c_k9_0 c_k9_1
      have ga : Below w_7.heap.size w_7 (w_7.alloc (.cells #[.int .i64 0, .slice A3 0 c3] 24)) := (Below.refl _ _).alloc (Nat.le_refl _) _
      have k10 := Blk.new w_7 #[.int .i64 0, .slice A3 0 c3] 24
      replace hg := hg.keep ga
      replace own2 := own2.keep ga
      replace k9 := k9.keep ga
      replace hv := hv.keep ga
      have b_10 := bb b_8 ga
      clear b_8
      clear ga
      have c_k9_0 := (Blk.cell k9 0).trans (show _ = some (.int .i64 (kk : Int)) from rfl)
      have c_k9_1 := (Blk.cell k9 1).trans (show _ = some (.slice A2 l2.length c2) from rfl)
      have c_k10_0 := (Blk.cell k10 0).trans (show _ = some (.int .i64 0) from rfl)
      have c_k10_1 := (Blk.cell k10 1).trans (show _ = some (.slice A3 0 c3) from rfl)
      go_wp2_with fail
      generalize (w_7.alloc (.cells #[.int .i64 0, .slice A3 0 c3] 24)) = w_9 at *
      generalize w_7.heap.size = g_k10 at *
      have SY := says5 23 _ hg hv.is
      rw [show decide ((23 : Int) = 23) = true from rfl] at SY
      refine (SY).mono ?_; rintro e w_11 ⟨rfl, g⟩
      clear c_k9_0 c_k9_1 c_k10_0 c_k10_1
      replace hg := hg.keep g
      replace own2 := own2.keep g
      replace k9 := k9.keep g
      replace hv := hv.keep g
      replace k10 := k10.keep g
      have b_12 := bb b_10 g
      clear b_10
      clear g
      have c_k9_0 := (Blk.cell k9 0).trans (show _ = some (.int .i64 (kk : Int)) from rfl)
      have c_k9_1 := (Blk.cell k9 1).trans (show _ = some (.slice A2 l2.length c2) from rfl)
      have c_k10_0 := (Blk.cell k10 0).trans (show _ = some (.int .i64 0) from rfl)
      have c_k10_1 := (Blk.cell k10 1).trans (show _ = some (.slice A3 0 c3) from rfl)
      go_wp2_with fail
      go_ret
      exact ⟨rfl, b_12⟩
    case pos =>
      obtain ⟨hE, hN, hL⟩ := gro_okay HR.out hbig
      obtain ⟨dE, dN, dL⟩ := dro_okay HR.out hbig
      have GA := fun (i j : Nat) h1 h2 h3 => gro_at (q := q) (i := i) (j := j) HR.out hbig h1 h2 h3
      rw [hE, hN, hL] at CG
      have hgl : ((List.range (tri (kk + q))).map (groF kk (kk + q) l2)).length ≤ 36 := by have := tri_le hbig; simp; omega
      generalize (List.range (tri (kk + q))).map (groF kk (kk + q) l2) = gl at *
      have e3 : decide (8 < (kk : Int) + (q : Int)) = false := by simp; omega
      have e4 : decide (8 < kk + q) = false := by simp; omega
      clear hE hN hL
      obtain ⟨nn, hnn⟩ : ∃ nn : Nat, kk + q = nn := ⟨_, rfl⟩
      rw [hnn] at CG dE dN dL GA hbig
      have hnI : (kk : Int) + (q : Int) = (nn : Int) := by omega
      have nB : (nn : Int) ≤ 8 := by omega
      have nP : (0 : Int) ≤ (nn : Int) := by omega
      have HGA := Lib.hid GA
      clear GA
      refine (CG _ own2.rd).mono ?_; rintro e w_7 ⟨A3, c3, v, rfl, own3, hv, g⟩
      clear c_k9_0 c_k9_1
      replace hg := hg.keep g
      replace own2 := own2.keep g
      replace k9 := k9.keep g
      have b_8 := bb b_6 g
      clear b_6
      clear g
      have c_k9_0 := (Blk.cell k9 0).trans (show _ = some (.int .i64 (kk : Int)) from rfl)
      have c_k9_1 := (Blk.cell k9 1).trans (show _ = some (.slice A2 l2.length c2) from rfl)
      obtain rfl := hv.none
      clear hv CG
      clear c_k9_0 c_k9_1
      have ga : Below w_7.heap.size w_7 (w_7.alloc (.cells #[.int .i64 (nn : Int), .slice A3 gl.length c3] 24)) := (Below.refl _ _).alloc (Nat.le_refl _) _
      have k10 := Blk.new w_7 #[.int .i64 (nn : Int), .slice A3 gl.length c3] 24
      replace hg := hg.keep ga
      replace own2 := own2.keep ga
      replace k9 := k9.keep ga
      replace own3 := own3.keep ga
      have b_10 := bb b_8 ga
      clear b_8
      clear ga
      have c_k9_0 := (Blk.cell k9 0).trans (show _ = some (.int .i64 (kk : Int)) from rfl)
      have c_k9_1 := (Blk.cell k9 1).trans (show _ = some (.slice A2 l2.length c2) from rfl)
      have c_k10_0 := (Blk.cell k10 0).trans (show _ = some (.int .i64 (nn : Int)) from rfl)
      have c_k10_1 := (Blk.cell k10 1).trans (show _ = some (.slice A3 gl.length c3) from rfl)
      go_wp2_with fail
      generalize (w_7.alloc (.cells #[.int .i64 (nn : Int), .slice A3 gl.length c3] 24)) = w_9 at *
      generalize w_7.heap.size = g_k10 at *
      have CD := fun W (R : Rd W A3 gl) => SDrop_c (n := (nn : Int)) R (OwnI.cap own3) (by omega) (kk : Int) (q : Int) (by unfold W64; omega) (by unfold W64; omega)
      rw [dE, dN, dL] at CD
      clear dE dN dL
      refine (CD _ own3.rd).mono ?_; rintro e w_11 ⟨A4, c4, v, rfl, own4, hv, g⟩
      clear c_k9_0 c_k9_1 c_k10_0 c_k10_1
      replace hg := hg.keep g
      replace own2 := own2.keep g
      replace k9 := k9.keep g
      replace own3 := own3.keep g
      replace k10 := k10.keep g
      have b_12 := bb b_10 g
      clear b_10
      clear g
      have c_k9_0 := (Blk.cell k9 0).trans (show _ = some (.int .i64 (kk : Int)) from rfl)
      have c_k9_1 := (Blk.cell k9 1).trans (show _ = some (.slice A2 l2.length c2) from rfl)
      have c_k10_0 := (Blk.cell k10 0).trans (show _ = some (.int .i64 (nn : Int)) from rfl)
      have c_k10_1 := (Blk.cell k10 1).trans (show _ = some (.slice A3 gl.length c3) from rfl)
      obtain rfl := hv.none
      clear hv CD
      clear c_k9_0 c_k9_1 c_k10_0 c_k10_1
      have ga : Below w_11.heap.size w_11 (w_11.alloc (.cells #[.int .i64 (kk : Int), .slice A4 l2.length c4] 24)) := (Below.refl _ _).alloc (Nat.le_refl _) _
      have k12 := Blk.new w_11 #[.int .i64 (kk : Int), .slice A4 l2.length c4] 24
      replace hg := hg.keep ga
      replace own2 := own2.keep ga
      replace k9 := k9.keep ga
      replace own3 := own3.keep ga
      replace k10 := k10.keep ga
      replace own4 := own4.keep ga
      have b_14 := bb b_12 ga
      clear b_12
      clear ga
      have c_k9_0 := (Blk.cell k9 0).trans (show _ = some (.int .i64 (kk : Int)) from rfl)
      have c_k9_1 := (Blk.cell k9 1).trans (show _ = some (.slice A2 l2.length c2) from rfl)
      have c_k10_0 := (Blk.cell k10 0).trans (show _ = some (.int .i64 (nn : Int)) from rfl)
      have c_k10_1 := (Blk.cell k10 1).trans (show _ = some (.slice A3 gl.length c3) from rfl)
      have c_k12_0 := (Blk.cell k12 0).trans (show _ = some (.int .i64 (kk : Int)) from rfl)
      have c_k12_1 := (Blk.cell k12 1).trans (show _ = some (.slice A4 l2.length c4) from rfl)
      go_wp2_with fail
      generalize (w_11.alloc (.cells #[.int .i64 (kk : Int), .slice A4 l2.length c4] 24)) = w_13 at *
      generalize w_11.heap.size = g_k12 at *
      have SY := fun W (R : Rd W A4 l2) (S : Rd W A2 l2) => Syms_c (n := (kk : Int)) (m := (kk : Int)) R (OwnI.cap own4) S (OwnI.cap own2) (by omega) (by omega)
      simp only [and_self, decide_true] at SY
      refine (SY _ own4.rd own2.rd).mono ?_; rintro e w_15 ⟨rfl, g⟩
      clear c_k9_0 c_k9_1 c_k10_0 c_k10_1 c_k12_0 c_k12_1
      replace hg := hg.keep g
      replace own2 := own2.keep g
      replace k9 := k9.keep g
      replace own3 := own3.keep g
      replace k10 := k10.keep g
      replace own4 := own4.keep g
      replace k12 := k12.keep g
      have b_16 := bb b_14 g
      clear b_14
      clear g
      have c_k9_0 := (Blk.cell k9 0).trans (show _ = some (.int .i64 (kk : Int)) from rfl)
      have c_k9_1 := (Blk.cell k9 1).trans (show _ = some (.slice A2 l2.length c2) from rfl)
      have c_k10_0 := (Blk.cell k10 0).trans (show _ = some (.int .i64 (nn : Int)) from rfl)
      have c_k10_1 := (Blk.cell k10 1).trans (show _ = some (.slice A3 gl.length c3) from rfl)
      have c_k12_0 := (Blk.cell k12 0).trans (show _ = some (.int .i64 (kk : Int)) from rfl)
      have c_k12_1 := (Blk.cell k12 1).trans (show _ = some (.slice A4 l2.length c4) from rfl)
      clear SY
      clear own4 own2 k12 c_k12_0 c_k12_1
      go_wp2_with fail
      clear c_k9_0 c_k9_1 c_k10_0 c_k10_1
      have capg := OwnI.cap own3
      have RG := own3.rd
      clear own3 k9 e3 e4 hg
      go_loopw [14] (fun s14 wl => ∃ i : Nat, kk ≤ i ∧ i ≤ nn ∧ s14 = .int .i64 i ∧ Blk wl g_k10 #[.int .i64 (nn : Int), .slice A3 gl.length c3] 24 ∧ Rd wl A3 gl ∧ Below w.heap.size w wl) (fun s14 _ => nn - (intOf s14).toNat)
      case atStart => exact ⟨kk, Nat.le_refl _, by omega, rfl, k10, RG, b_16⟩
      case round =>
        clear k10 RG b_16
        obtain ⟨i, hi, hi2, rfl, k10, RG, bI⟩ := hrel
        have i0 : (0 : Int) ≤ (i : Int) := by omega
        have c0 := (Blk.cell k10 0).trans (show _ = some (.int .i64 (nn : Int)) from rfl)
        by_cases him : i < nn
        case neg =>
          obtain rfl : i = nn := by omega
          have i2 : decide ((i : Int) < (i : Int)) = false := by simp
          go_wp2_with fail
          go_ret
          exact ⟨rfl, bI⟩
        case pos =>
          have i1 : (i : Int) < (nn : Int) := by omega
          have i2 : decide ((i : Int) < (nn : Int)) = true := by simpa using him
          go_wp2_with fail
          clear c0 i2
          go_loopw [15] (fun s15 wl => ∃ j : Nat, j ≤ nn ∧ s15 = .int .i64 j ∧ Blk wl g_k10 #[.int .i64 (nn : Int), .slice A3 gl.length c3] 24 ∧ Rd wl A3 gl ∧ Below w.heap.size w wl) (fun s15 _ => nn - (intOf s15).toNat)
          case atStart => exact ⟨0, Nat.zero_le _, rfl, k10, RG, bI⟩
          case round =>
            clear k10 RG bI
            obtain ⟨j, hj, rfl, k10, RG, bJ⟩ := hrel
            have j0 : (0 : Int) ≤ (j : Int) := by omega
            have c0 := (Blk.cell k10 0).trans (show _ = some (.int .i64 (nn : Int)) from rfl)
            have c1 := (Blk.cell k10 1).trans (show _ = some (.slice A3 gl.length c3) from rfl)
            by_cases hjn : j < nn
            case neg =>
              obtain rfl : j = nn := by omega
              have j2 : decide ((j : Int) < (j : Int)) = false := by simp
              go_wp2_with fail
              exact ⟨⟨i + 1, by omega, by omega, by go_num, k10, RG, bJ⟩, by simp [intOf]; omega⟩
            case pos =>
              have j1 : (j : Int) < (nn : Int) := by omega
              have j2 : decide ((j : Int) < (nn : Int)) = true := by simpa using hjn
              obtain ⟨aE, aV⟩ := HGA.out i j hi him hjn
              have AT := fun W (R : Rd W A3 gl) => SAt_c (n := (nn : Int)) R capg (by omega) (i : Int) (j : Int)
              rw [aE, aV] at AT
              clear aE aV
              go_wp2_with fail
              refine (AT _ RG).mono ?_; rintro e w9 ⟨v, rfl, hv, g⟩
              obtain rfl := hv.none
              replace k10 := k10.keep g
              replace RG := RG.keep g
              have b9 := bb bJ g
              clear hv g AT bJ c0 c1
              go_wp2_with fail
              exact ⟨⟨j + 1, by omega, by go_num, k10, RG, b9⟩, by simp [intOf]; omega⟩
end Go.Proofs.YtfcandmhalhaeaaDoor.YSym
