/- Lean functions, contracts and lemmas that this claim needs. No condition. -/
import Derived.Test.YtaiolioggjknfaaDoorLYLineRefs
import Derived.Deep.DeepCutAuto
import Derived.Deep.CutBlock
import Derived.RegionTactic
import Derived.Deep.RegionLaw
namespace Go.Proofs.YtaiolioggjknfaaDoor.YLine
open Go.RowKit Go.Extern.Stop Go.Stop Go.Extern Go.Proofs.YtaiolioggjknfaaDoor.QSn Go.Proofs.YtaiolioggjknfaaDoor.YBits Go.Proofs.YtaiolioggjknfaaDoor.YFx Go.Proofs.YtaiolioggjknfaaDoor.YErr Go.Proofs.YtaiolioggjknfaaDoorW.PrintWords Go.Proofs.YtaiolioggjknfaaDoorW.PrintLast
set_option linter.unusedVariables false
set_option linter.unusedSimpArgs false
def In64 (x : Int) : Prop := -9223372036854775808 ≤ x ∧ x ≤ 9223372036854775807
theorem info_P : (Tryd.prog.info? 65).map (·.size) = some 4 := by kernel_rfl
theorem stP {ops : Array Oper} {rest : List Oper} {o : Oper} {act : Act} {w : World} {Q : Exit → Act → World → Prop} {p : Nat} {old : Array Value} {x y z u : Int} (k : Blk w p old 65) (h0 : old.size = 4) (a b : Operand) (hgd : o.guard = Option.none) (ho : o.op = .store 65 a b) (hx : act.eval a = .pointer (some ⟨p, 0, Option.none⟩)) (hy : act.eval b = .agg #[.int .i64 x, .int .i64 y, .int .i64 z, .int .i64 u])
    (h : wpList Tryd.prog ops Q rest (act.put o.dst undef) (w.setRow p #[.int .i64 x, .int .i64 y, .int .i64 z, .int .i64 u])) : wpList Tryd.prog ops Q (o :: rest) act w :=
  wpList_store_row hgd 65 a b ho p #[.int .i64 x, .int .i64 y, .int .i64 z, .int .i64 u] hx hy 65 old k info_P h0 (by simp [Value.oneCell']) h
/-- A new block, stored into at once. -/
theorem newW (w : World) (z cs : Array Value) (T : TypeId) : Blk (w.alloc (.cells z T)) w.heap.size z T ∧ ∃ w', w' = (w.alloc (.cells z T)).setRow w.heap.size cs ∧ Blk w' w.heap.size cs T ∧ Below w.heap.size w w' ∧ w.heap.size < w'.heap.size := by
  have K0 := Blk.new w z T
  have B0 : Below w.heap.size w (w.alloc (.cells z T)) := (Below.refl _ _).alloc (Nat.le_refl _) _
  exact ⟨K0, _, rfl, setRow3 K0, below_setRow B0 (Nat.le_refl _), Blk.lt (setRow3 (cs := cs) K0)⟩
theorem wf64' {x : Int} (h : (Lit.int .i64 x).wf = true) : In64 x := by
  simp [Lit.wf, IntKind.min, IntKind.max, IntKind.bits, IntKind.signed] at h; exact ⟨by omega, by omega⟩
theorem and_little (a m : Int) (m0 : 0 ≤ m) (m1 : m ≤ 1000) : 0 ≤ Go.bits .and .i64 a m ∧ Go.bits .and .i64 a m ≤ m := by
  obtain ⟨b, rfl⟩ := Int.eq_ofNat_of_zero_le m0
  have h2 : (BitVec.ofInt 64 (b : Int)).toNat = b := by
    rw [BitVec.ofInt_natCast, BitVec.toNat_ofNat]; exact Nat.mod_eq_of_lt (by omega)
  have h3 : Go.bits .and .i64 a (b : Int) = IntKind.i64.wrap (((BitVec.ofInt 64 a &&& BitVec.ofInt 64 (b : Int)).toNat : Nat) : Int) := rfl
  have h4 : (BitVec.ofInt 64 a &&& BitVec.ofInt 64 (b : Int)).toNat ≤ b := by
    rw [BitVec.toNat_and, h2]; exact Nat.and_le_right
  rw [h3]
  generalize (BitVec.ofInt 64 a &&& BitVec.ofInt 64 (b : Int)).toNat = c at *
  have h5 : IntKind.i64.wrap (c : Int) = (c : Int) := by rw [i64_w]; exact wid (by omega) (by omega)
  rw [h5]; omega
theorem tmod64 {x m : Int} (h : In64 x) (hm : 0 < m) : In64 (Int.tmod x m) := by
  have h1 := Int.tmod_lt_of_pos x hm
  obtain ⟨h0, h2⟩ := h
  rcases Int.le_total 0 x with hx | hx
  · have := Int.tmod_nonneg m hx
    have h3 : Int.tmod x m ≤ x := by
      rw [Int.tmod_eq_emod_of_nonneg hx]
      have := Int.emod_add_mul_ediv x m
      have h4 : 0 ≤ x / m := Int.ediv_nonneg hx (by omega)
      have h5 : 0 ≤ m * (x / m) := Int.mul_nonneg (by omega) h4
      omega
    exact ⟨by omega, by omega⟩
  · have e : Int.tmod x m = -(Int.tmod (-x) m) := by rw [Int.neg_tmod]; omega
    have h6 := Int.tmod_nonneg m (show 0 ≤ -x by omega)
    have h3 : Int.tmod (-x) m ≤ -x := by
      rw [Int.tmod_eq_emod_of_nonneg (show 0 ≤ -x by omega)]
      have := Int.emod_add_mul_ediv (-x) m
      have h4 : 0 ≤ (-x) / m := Int.ediv_nonneg (by omega) (by omega)
      have h5 : 0 ≤ m * ((-x) / m) := Int.mul_nonneg (by omega) h4
      omega
    exact ⟨by omega, by omega⟩
theorem wrap_in (x : Int) : In64 (wrap64 x) := by unfold wrap64 In64; omega
/-- Three ways from place to place: which one is taken. -/
theorem row12 {w : World} {g : Nat} {x0 x1 x2 x3 X Y : Int} (k : Blk w g #[.int .i64 x0, .int .i64 x1, .int .i64 x2, .int .i64 x3, .int .i64 x2, .int .i64 x3, .int .i64 x0, .int .i64 x1, .int .i64 x0, .int .i64 x1, .int .i64 X, .int .i64 Y] 65) (i0 : In64 x0) (i1 : In64 x1) (i2 : In64 x2) (i3 : In64 x3) (iX : In64 X) (iY : In64 Y) (j : Nat) (hj : j < 3) :
    ∃ a b c d : Int, In64 a ∧ In64 b ∧ In64 c ∧ In64 d ∧ w.cell? ⟨g, j * 4, none⟩ = some (.int .i64 a) ∧ w.cell? ⟨g, j * 4 + 1, none⟩ = some (.int .i64 b) ∧ w.cell? ⟨g, j * 4 + 2, none⟩ = some (.int .i64 c) ∧ w.cell? ⟨g, j * 4 + 3, none⟩ = some (.int .i64 d) := by
  match j, hj with
  | 0, _ => exact ⟨x0, x1, x2, x3, i0, i1, i2, i3, k.cell 0, k.cell 1, k.cell 2, k.cell 3⟩
  | 1, _ => exact ⟨x2, x3, x0, x1, i2, i3, i0, i1, k.cell 4, k.cell 5, k.cell 6, k.cell 7⟩
  | 2, _ => exact ⟨x0, x1, X, Y, i0, i1, iX, iY, k.cell 8, k.cell 9, k.cell 10, k.cell 11⟩
theorem row6 {w : World} {g : Nat} {a b c d e f : Int} (k : Blk w g #[.int .i64 a, .int .i64 b, .int .i64 c, .int .i64 d, .int .i64 e, .int .i64 f] 69) (i0 : In64 a) (i1 : In64 b) (i2 : In64 c) (i3 : In64 d) (i4 : In64 e) (i5 : In64 f) (j : Nat) (hj : j < 3) :
    ∃ x y : Int, In64 x ∧ In64 y ∧ w.cell? ⟨g, j * 2, none⟩ = some (.int .i64 x) ∧ w.cell? ⟨g, j * 2 + 1, none⟩ = some (.int .i64 y) := by
  match j, hj with
  | 0, _ => exact ⟨a, b, i0, i1, k.cell 0, k.cell 1⟩
  | 1, _ => exact ⟨c, d, i2, i3, k.cell 2, k.cell 3⟩
  | 2, _ => exact ⟨e, f, i4, i5, k.cell 4, k.cell 5⟩
theorem info_2 : (Tryd.prog.info? 69).map (·.size) = some 2 := by kernel_rfl
theorem st2 {ops : Array Oper} {rest : List Oper} {o : Oper} {act : Act} {w : World} {Q : Exit → Act → World → Prop} {p : Nat} {old : Array Value} {x y : Int} (k : Blk w p old 69) (h0 : old.size = 2) (a b : Operand) (hgd : o.guard = Option.none) (ho : o.op = .store 69 a b) (hx : act.eval a = .pointer (some ⟨p, 0, Option.none⟩)) (hy : act.eval b = .agg #[.int .i64 x, .int .i64 y])
    (h : wpList Tryd.prog ops Q rest (act.put o.dst undef) (w.setRow p #[.int .i64 x, .int .i64 y])) : wpList Tryd.prog ops Q (o :: rest) act w :=
  wpList_store_row hgd 69 a b ho p #[.int .i64 x, .int .i64 y] hx hy 69 old k info_2 h0 (by simp [Value.oneCell']) h
theorem rowOut_len (n at_ a b : Int) : (rowOut n at_ a b).length ≤ 100 := by
  unfold rowOut
  split
  · rename_i h
    rw [rowL_len]
    unfold rowC at h
    split at h
    · cases h
    · rename_i h'
      unfold rowBad at h'
      omega
  · simp
theorem says_ok {w w' : World} {v : Value} {c : Int} (hg : Laid w) (b : Below w.heap.size w w') (h : ErrIs op16 w' v c) : Calls Tryd.prog 22 #[v, .int .i64 c] w' fun e w2 => e = .returned (.bool true) ∧ Below w'.heap.size w' w2 := by
  have := says16 c w' (hg.below b) h
  simpa only [decide_true] using this
set_option maxRecDepth 100000 in
set_option maxHeartbeats 16000000 in
theorem LineTells_calls (ax ay bx by_ n at_ h0 h1 : Int) (small : Bool) (w : World) (hg : Laid w) (wax : In64 ax) (way : In64 ay) (wbx : In64 bx) (wby : In64 by_) (wn : In64 n) (wat : In64 at_) (wh0 : In64 h0) (wh1 : In64 h1) :
    Calls Tryd.prog 13 #[.agg #[.int .i64 ax, .int .i64 ay], .agg #[.int .i64 bx, .int .i64 by_], .int .i64 n, .int .i64 at_, .agg #[.int .i64 h0, .int .i64 h1], .bool small] w fun e w' => e = .returned (.bool true) ∧ Below w.heap.size w w' := by
  have kA : Blk (((w.alloc (.cells #[.int .i64 ax, .int .i64 ay] 35)).alloc (.cells #[.int .i64 bx, .int .i64 by_] 35)).alloc (.cells #[.int .i64 h0, .int .i64 h1] 39)) w.heap.size #[.int .i64 ax, .int .i64 ay] 35 := ((Blk.new w _ _).alloc _).alloc _
  have kB : Blk (((w.alloc (.cells #[.int .i64 ax, .int .i64 ay] 35)).alloc (.cells #[.int .i64 bx, .int .i64 by_] 35)).alloc (.cells #[.int .i64 h0, .int .i64 h1] 39)) (w.heap.size + 1) #[.int .i64 bx, .int .i64 by_] 35 := by
    have := (Blk.new (w.alloc (.cells #[.int .i64 ax, .int .i64 ay] 35)) #[.int .i64 bx, .int .i64 by_] 35).alloc (.cells #[.int .i64 h0, .int .i64 h1] 39)
    simpa using this
  have kH : Blk (((w.alloc (.cells #[.int .i64 ax, .int .i64 ay] 35)).alloc (.cells #[.int .i64 bx, .int .i64 by_] 35)).alloc (.cells #[.int .i64 h0, .int .i64 h1] 39)) (w.heap.size + 1 + 1) #[.int .i64 h0, .int .i64 h1] 39 := by
    have := Blk.new ((w.alloc (.cells #[.int .i64 ax, .int .i64 ay] 35)).alloc (.cells #[.int .i64 bx, .int .i64 by_] 35)) #[.int .i64 h0, .int .i64 h1] 39
    simpa using this
  have b0 : Below w.heap.size w (((w.alloc (.cells #[.int .i64 ax, .int .i64 ay] 35)).alloc (.cells #[.int .i64 bx, .int .i64 by_] 35)).alloc (.cells #[.int .i64 h0, .int .i64 h1] 39)) := (((Below.refl _ _).alloc (Nat.le_refl _) _).alloc (by simp) _).alloc (by simp; omega) _
  have K := fun (W : World) (b : Below w.heap.size w W) => known_calls W (hg.below b)
  go_enter Tryd.func13, Tryd.ntmps13
  go_upto_region 1 with fail
  generalize hw3 : ((w.alloc (.cells #[.int .i64 ax, .int .i64 ay] 35)).alloc (.cells #[.int .i64 bx, .int .i64 by_] 35)).alloc (.cells #[.int .i64 h0, .int .i64 h1] 39) = w3 at *
  clear hw3
  go_wp2_with fail
  refine (K _ b0).mono ?_; rintro r w4 ⟨rfl, g4⟩
  replace kA := kA.keep g4
  replace kB := kB.keep g4
  replace kH := kH.keep g4
  have b4 := bb b0 g4
  clear b0 g4 K w3
  go_upto_if 27 with fail
  go_cut [] (fun wx => ∃ x0 x1 x2 x3 : Int, In64 x0 ∧ In64 x1 ∧ In64 x2 ∧ In64 x3 ∧ Blk wx w.heap.size #[.int .i64 x0, .int .i64 x1] 35 ∧ Blk wx (w.heap.size + 1) #[.int .i64 x2, .int .i64 x3] 35 ∧ Blk wx (w.heap.size + 1 + 1) #[.int .i64 h0, .int .i64 h1] 39 ∧ Below w.heap.size w wx)
  case first =>
    cases small with
    | false =>
      go_wp2_with fail
      go_meet
      exact ⟨ax, ay, bx, by_, wax, way, wbx, wby, kA, kB, kH, b4⟩
    | true =>
      have q0 := (Blk.cell kA 0).trans (show _ = some (.int .i64 ax) from rfl)
      have q1 := (Blk.cell kA 1).trans (show _ = some (.int .i64 ay) from rfl)
      have q2 := (Blk.cell kB 0).trans (show _ = some (.int .i64 bx) from rfl)
      have q3 := (Blk.cell kB 1).trans (show _ = some (.int .i64 by_) from rfl)
      have f0 := Blk.free kA 0
      have f1 := Blk.free kA 1
      have f2 := Blk.free kB 0
      have f3 := Blk.free kB 1
      go_wp2_with fail
      have F : Blk ((((w4.setCell ⟨w.heap.size, 0, none⟩ (.int .i64 (ax.tmod 4194306))).setCell ⟨w.heap.size, 1, none⟩ (.int .i64 (ay.tmod 4194306))).setCell ⟨w.heap.size + 1, 0, none⟩ (.int .i64 (bx.tmod 5000))).setCell ⟨w.heap.size + 1, 1, none⟩ (.int .i64 (by_.tmod 5000))).drew w.heap.size #[.int .i64 (ax.tmod 4194306), .int .i64 (ay.tmod 4194306)] 35 :=
        Blk.drew (((((kA.set 0 _).set 1 _).setOther (p := ⟨w.heap.size + 1, 0, none⟩) (by simp) _).setOther (p := ⟨w.heap.size + 1, 1, none⟩) (by simp) _))
      have F2 : Blk ((((w4.setCell ⟨w.heap.size, 0, none⟩ (.int .i64 (ax.tmod 4194306))).setCell ⟨w.heap.size, 1, none⟩ (.int .i64 (ay.tmod 4194306))).setCell ⟨w.heap.size + 1, 0, none⟩ (.int .i64 (bx.tmod 5000))).setCell ⟨w.heap.size + 1, 1, none⟩ (.int .i64 (by_.tmod 5000))).drew (w.heap.size + 1) #[.int .i64 (bx.tmod 5000), .int .i64 (by_.tmod 5000)] 35 :=
        Blk.drew (((((kB.setOther (p := ⟨w.heap.size, 0, none⟩) (by simp) _).setOther (p := ⟨w.heap.size, 1, none⟩) (by simp) _).set 0 _).set 1 _))
      have F3 : Blk ((((w4.setCell ⟨w.heap.size, 0, none⟩ (.int .i64 (ax.tmod 4194306))).setCell ⟨w.heap.size, 1, none⟩ (.int .i64 (ay.tmod 4194306))).setCell ⟨w.heap.size + 1, 0, none⟩ (.int .i64 (bx.tmod 5000))).setCell ⟨w.heap.size + 1, 1, none⟩ (.int .i64 (by_.tmod 5000))).drew (w.heap.size + 1 + 1) #[.int .i64 h0, .int .i64 h1] 39 :=
        Blk.drew (((((kH.setOther (p := ⟨w.heap.size, 0, none⟩) (by simp; omega) _).setOther (p := ⟨w.heap.size, 1, none⟩) (by simp; omega) _).setOther (p := ⟨w.heap.size + 1, 0, none⟩) (by simp) _).setOther (p := ⟨w.heap.size + 1, 1, none⟩) (by simp) _))
      have F4 := ((((b4.setCell (p := ⟨w.heap.size, 0, none⟩) (Nat.le_refl _) (.int .i64 (ax.tmod 4194306))).setCell (p := ⟨w.heap.size, 1, none⟩) (Nat.le_refl _) (.int .i64 (ay.tmod 4194306))).setCell (p := ⟨w.heap.size + 1, 0, none⟩) (by simp) (.int .i64 (bx.tmod 5000))).setCell (p := ⟨w.heap.size + 1, 1, none⟩) (by simp) (.int .i64 (by_.tmod 5000))).drew
      have FF := Lib.hid (And.intro F (And.intro F2 (And.intro F3 F4)))
      clear F F2 F3 F4
      go_region_law (fail)
      all_goals (go_wp2_with fail; go_meet; obtain ⟨F, F2, F3, F4⟩ := FF.out; exact ⟨_, _, _, _, tmod64 wax (by decide), tmod64 way (by decide), tmod64 wbx (by decide), tmod64 wby (by decide), F, F2, F3, F4⟩)
  case rest =>
    obtain ⟨x0, x1, x2, x3, i0, i1, i2, i3, kA, kB, kH, b5⟩ := hcut
    clear b4 wax way wbx wby
    have q0 := (Blk.cell kA 0).trans (show _ = some (.int .i64 x0) from rfl)
    have q1 := (Blk.cell kA 1).trans (show _ = some (.int .i64 x1) from rfl)
    have q2 := (Blk.cell kB 0).trans (show _ = some (.int .i64 x2) from rfl)
    have q3 := (Blk.cell kB 1).trans (show _ = some (.int .i64 x3) from rfl)
    have q4 := (Blk.cell kH 0).trans (show _ = some (.int .i64 h0) from rfl)
    have q5 := (Blk.cell kH 1).trans (show _ = some (.int .i64 h1) from rfl)
    go_wp2_with fail
    have kS := Blk.new wc #[.int .i64 x0, .int .i64 x1, .int .i64 x2, .int .i64 x3, .int .i64 x2, .int .i64 x3, .int .i64 x0, .int .i64 x1, .int .i64 x0, .int .i64 x1, .int .i64 (wrap64 (x0 + h0.tmod 1500)), .int .i64 (wrap64 (x1 + h1.tmod 1500))] 65
    have b6 := b5.alloc b5.size (.cells #[.int .i64 x0, .int .i64 x1, .int .i64 x2, .int .i64 x3, .int .i64 x2, .int .i64 x3, .int .i64 x0, .int .i64 x1, .int .i64 x0, .int .i64 x1, .int .i64 (wrap64 (x0 + h0.tmod 1500)), .int .i64 (wrap64 (x1 + h1.tmod 1500))] 65)
    replace kH := kH.alloc (.cells #[.int .i64 x0, .int .i64 x1, .int .i64 x2, .int .i64 x3, .int .i64 x2, .int .i64 x3, .int .i64 x0, .int .i64 x1, .int .i64 x0, .int .i64 x1, .int .i64 (wrap64 (x0 + h0.tmod 1500)), .int .i64 (wrap64 (x1 + h1.tmod 1500))] 65)
    have iX := wrap_in (x0 + h0.tmod 1500)
    have iY := wrap_in (x1 + h1.tmod 1500)
    clear q0 q1 q2 q3 q4 q5 kA kB b5
    generalize wrap64 (x0 + h0.tmod 1500) = X at *
    generalize wrap64 (x1 + h1.tmod 1500) = Y at *
    generalize (wc.alloc (.cells #[.int .i64 x0, .int .i64 x1, .int .i64 x2, .int .i64 x3, .int .i64 x2, .int .i64 x3, .int .i64 x0, .int .i64 x1, .int .i64 x0, .int .i64 x1, .int .i64 X, .int .i64 Y] 65)) = w6 at *
    generalize wc.heap.size = sb at *
    have E := eq2
    go_loopw [65] (fun i wr => ∃ j : Nat, j ≤ 3 ∧ i = .int .i64 j ∧ Blk wr sb #[.int .i64 x0, .int .i64 x1, .int .i64 x2, .int .i64 x3, .int .i64 x2, .int .i64 x3, .int .i64 x0, .int .i64 x1, .int .i64 x0, .int .i64 x1, .int .i64 X, .int .i64 Y] 65 ∧ Blk wr (w.heap.size + 1 + 1) #[.int .i64 h0, .int .i64 h1] 39 ∧ Below w.heap.size w wr) (fun i _ => 3 - (intOf i).toNat)
    case atStart => exact ⟨0, by decide, rfl, kS, kH, b6⟩
    case round =>
      obtain ⟨j, hj, rfl, kS, kH, B⟩ := hrel
      clear b6
      by_cases hlt : j < 3
      · obtain ⟨a, b, c, d, ⟨a0, a1⟩, ⟨a2, a3⟩, ⟨a4, a5⟩, ⟨a6, a7⟩, q0, q1, q2, q3⟩ := row12 kS i0 i1 i2 i3 iX iY j hlt
        have hlt' : (j : Int) < 3 := by omega
        have hj0 : (0 : Int) ≤ (j : Int) := by omega
        obtain ⟨kz, w7, hw7, k7, b7, z7⟩ := newW wr #[.int .i64 0, .int .i64 0, .int .i64 0, .int .i64 0] #[.int .i64 a, .int .i64 b, .int .i64 c, .int .i64 d] 65
        go_upto_region 8 with (first | (refine stP kz rfl _ _ rfl rfl rfl rfl ?_))
        rw [← hw7]
        replace kS := kS.keep b7
        replace kH := kH.keep b7
        replace B := bb B b7
        clear hw7 kz q0 q1 q2 q3 b7
        generalize wr.heap.size = pb at *
        have q0 := (Blk.cell k7 0).trans (show _ = some (.int .i64 a) from rfl)
        have q1 := (Blk.cell k7 1).trans (show _ = some (.int .i64 b) from rfl)
        have q2 := (Blk.cell k7 2).trans (show _ = some (.int .i64 c) from rfl)
        have q3 := (Blk.cell k7 3).trans (show _ = some (.int .i64 d) from rfl)
        have M1 := fun W => Of_any a b c d W
        have M2 := fun W => rLine_any a b c d a0 a1 a2 a3 a4 a5 a6 a7 W
        generalize lnX a b c d = LX at *
        generalize lnY a b c d = LY at *
        generalize lnR a b c d = LR at *
        generalize lnC a b c d = LC at *
        go_wp2_with fail
        refine (M1 _).mono ?_; rintro e w8 ⟨v8, rfl, E8, g8⟩
        clear M1 q0 q1 q2 q3
        obtain ⟨kz, w9, hw9, k9, b9, z9⟩ := newW w8 #[.int .i64 0, .int .i64 0, .int .i64 0] #[.int .i64 LX, .int .i64 LY, .int .i64 LR] 41
        go_upto_region 9 with (first | (refine stL kz rfl _ _ rfl rfl rfl rfl ?_))
        rw [← hw9]
        have g9 := bb g8 b9
        replace k7 := k7.keep g9
        replace kS := kS.keep g9
        replace kH := kH.keep g9
        replace B := bb B g9
        replace E8 := E8.below b9
        clear hw9 kz g8 b9 g9
        generalize w8.heap.size = xb at *
        have q0 := (Blk.cell k7 0).trans (show _ = some (.int .i64 a) from rfl)
        have q1 := (Blk.cell k7 1).trans (show _ = some (.int .i64 b) from rfl)
        have q2 := (Blk.cell k7 2).trans (show _ = some (.int .i64 c) from rfl)
        have q3 := (Blk.cell k7 3).trans (show _ = some (.int .i64 d) from rfl)
        go_wp2_with fail
        refine (M2 _).mono ?_; rintro e w10 ⟨rfl, g10⟩
        clear M2 q0 q1 q2 q3
        obtain ⟨kz, w11, hw11, k11, b11, z11⟩ := newW w10 #[.int .i64 0, .int .i64 0, .int .i64 0] #[.int .i64 LX, .int .i64 LY, .int .i64 LR] 41
        go_upto_region 10 with (first | (refine stL kz rfl _ _ rfl rfl rfl rfl ?_))
        rw [← hw11]
        have g11 := bb g10 b11
        replace k9 := k9.keep g11
        replace kS := kS.keep g11
        replace kH := kH.keep g11
        replace B := bb B g11
        replace E8 := E8.below g11
        clear hw11 kz g10 b11 g11 k7
        generalize w10.heap.size = yb at *
        have SY := says_ok hg B E8
        go_wp2_with fail
        refine SY.mono ?_; rintro e w12 ⟨rfl, g12⟩
        replace k9 := k9.keep g12
        replace k11 := k11.keep g12
        replace kS := kS.keep g12
        replace kH := kH.keep g12
        replace B := bb B g12
        clear SY E8 g12
        have q0 := (Blk.cell k9 0).trans (show _ = some (.int .i64 LX) from rfl)
        have q1 := (Blk.cell k9 1).trans (show _ = some (.int .i64 LY) from rfl)
        have q2 := (Blk.cell k9 2).trans (show _ = some (.int .i64 LR) from rfl)
        have r0 := (Blk.cell k11 0).trans (show _ = some (.int .i64 LX) from rfl)
        have r1 := (Blk.cell k11 1).trans (show _ = some (.int .i64 LY) from rfl)
        have r2 := (Blk.cell k11 2).trans (show _ = some (.int .i64 LR) from rfl)
        go_wp2_with fail
        exact ⟨⟨j + 1, by omega, by go_num, kS, kH, B⟩, by simp [intOf]; omega⟩
      · obtain rfl : j = 3 := by omega
        clear kS i0 i1 i2 i3 iX iY E
        have q4 := (Blk.cell kH 0).trans (show _ = some (.int .i64 h0) from rfl)
        have q5 := (Blk.cell kH 1).trans (show _ = some (.int .i64 h1) from rfl)
        go_wp2_with fail
        have kT := Blk.new wr #[.int .i64 n, .int .i64 at_, .int .i64 (Go.bits .and .i64 n 15), .int .i64 (Go.bits .and .i64 at_ 7), .int .i64 8, .int .i64 (Go.bits .and .i64 at_ 7)] 69
        have b7 := B.alloc B.size (.cells #[.int .i64 n, .int .i64 at_, .int .i64 (Go.bits .and .i64 n 15), .int .i64 (Go.bits .and .i64 at_ 7), .int .i64 8, .int .i64 (Go.bits .and .i64 at_ 7)] 69)
        replace kH := kH.alloc (.cells #[.int .i64 n, .int .i64 at_, .int .i64 (Go.bits .and .i64 n 15), .int .i64 (Go.bits .and .i64 at_ 7), .int .i64 8, .int .i64 (Go.bits .and .i64 at_ 7)] 69)
        have iN : In64 (Go.bits .and .i64 n 15) := by have := and_little n 15 (by decide) (by decide); exact ⟨by omega, by omega⟩
        have iA : In64 (Go.bits .and .i64 at_ 7) := by have := and_little at_ 7 (by decide) (by decide); exact ⟨by omega, by omega⟩
        have i8 : In64 8 := ⟨by decide, by decide⟩
        clear q4 q5 B
        generalize Go.bits .and .i64 n 15 = N5 at *
        generalize Go.bits .and .i64 at_ 7 = A7 at *
        generalize (wr.alloc (.cells #[.int .i64 n, .int .i64 at_, .int .i64 N5, .int .i64 A7, .int .i64 8, .int .i64 A7] 69)) = w7 at *
        generalize wr.heap.size = tb at *
        go_loopw [108] (fun i wq => ∃ j : Nat, j ≤ 3 ∧ i = .int .i64 j ∧ Blk wq tb #[.int .i64 n, .int .i64 at_, .int .i64 N5, .int .i64 A7, .int .i64 8, .int .i64 A7] 69 ∧ Blk wq (w.heap.size + 1 + 1) #[.int .i64 h0, .int .i64 h1] 39 ∧ Below w.heap.size w wq) (fun i _ => 3 - (intOf i).toNat)
        case atStart => exact ⟨0, by decide, rfl, kT, kH, b7⟩
        case round =>
          obtain ⟨j, hj, rfl, kT, kH, B⟩ := hrel
          clear b7
          by_cases hlt : j < 3
          · obtain ⟨a, b, ⟨a0, a1⟩, ⟨a2, a3⟩, q0, q1⟩ := row6 kT wn wat iN iA i8 iA j hlt
            have hlt' : (j : Int) < 3 := by omega
            have hj0 : (0 : Int) ≤ (j : Int) := by omega
            obtain ⟨kz, w8, hw8, k8, b8, z8⟩ := newW wr #[.int .i64 0, .int .i64 0] #[.int .i64 a, .int .i64 b] 69
            go_upto_region 16 with (first | (refine st2 kz rfl _ _ rfl rfl rfl rfl ?_))
            rw [← hw8]
            replace kT := kT.keep b8
            replace kH := kH.keep b8
            replace B := bb B b8
            clear hw8 kz q0 q1 b8
            generalize wr.heap.size = pb at *
            have q0 := (Blk.cell k8 0).trans (show _ = some (.int .i64 a) from rfl)
            have q1 := (Blk.cell k8 1).trans (show _ = some (.int .i64 b) from rfl)
            have q4 := (Blk.cell kH 0).trans (show _ = some (.int .i64 h0) from rfl)
            have q5 := (Blk.cell kH 1).trans (show _ = some (.int .i64 h1) from rfl)
            have M1 := fun W => Row_any a b h0 h1 a0 a1 a2 a3 wh0.1 wh0.2 wh1.1 wh1.2 W
            have M2 := fun W => rRow_any a b h0 h1 a0 a1 a2 a3 wh0.1 wh0.2 wh1.1 wh1.2 W
            have LL : (rowOut a b h0 h1).length ≤ 100 := rowOut_len a b h0 h1
            generalize rowOut a b h0 h1 = RO at *
            generalize rowC a b h0 h1 = RC at *
            go_wp2_with fail
            refine (M1 _).mono ?_; rintro e w9 ⟨A1, c1, v9, rfl, hc1, I9, E9, g9⟩
            replace k8 := k8.keep g9
            replace kT := kT.keep g9
            replace kH := kH.keep g9
            replace B := bb B g9
            clear M1 q0 q1 q4 q5 g9
            have q0 := (Blk.cell k8 0).trans (show _ = some (.int .i64 a) from rfl)
            have q1 := (Blk.cell k8 1).trans (show _ = some (.int .i64 b) from rfl)
            have q4 := (Blk.cell kH 0).trans (show _ = some (.int .i64 h0) from rfl)
            have q5 := (Blk.cell kH 1).trans (show _ = some (.int .i64 h1) from rfl)
            go_wp2_with fail
            refine (M2 _).mono ?_; rintro e w10 ⟨A2, c2, rfl, hc2, I10, g10⟩
            replace kT := kT.keep g10
            replace kH := kH.keep g10
            replace B := bb B g10
            replace I9 := I9.keep g10
            replace E9 := E9.below g10
            clear M2 q0 q1 q4 q5 g10 k8
            have SY := says_ok hg B E9
            go_wp2_with fail
            refine SY.mono ?_; rintro e w11 ⟨rfl, g11⟩
            replace kT := kT.keep g11
            replace kH := kH.keep g11
            replace B := bb B g11
            have IC := Ints_c (I9.keep g11) (I10.keep g11) LL hc1 hc2
            clear SY E9 g11 I9 I10
            go_wp2_with fail
            refine IC.mono ?_; rintro e w12 ⟨rfl, kk, rfl⟩
            go_wp2_with fail
            refine ⟨?_, by simp [intOf]; omega⟩
            (repeat apply Exists.intro)
            exact ⟨⟨j + 1, by omega, by go_num, kT.drewN kk, kH.drewN kk, below_drewN B⟩, rfl⟩
          · obtain rfl : j = 3 := by omega
            go_wp2_with fail
            go_ret
            exact ⟨rfl, B⟩
theorem LineTells_law (ax ay bx by_ n at_ h0 h1 : Int) (small : Bool) (w : World) (hg : Laid w) (wax : (Lit.int .i64 ax).wf = true) (way : (Lit.int .i64 ay).wf = true) (wbx : (Lit.int .i64 bx).wf = true) (wby : (Lit.int .i64 by_).wf = true) (wn : (Lit.int .i64 n).wf = true) (wat : (Lit.int .i64 at_).wf = true) (wh0 : (Lit.int .i64 h0).wf = true) (wh1 : (Lit.int .i64 h1).wf = true) :
    Calls Tryd.prog 13 #[.agg #[.int .i64 ax, .int .i64 ay], .agg #[.int .i64 bx, .int .i64 by_], .int .i64 n, .int .i64 at_, .agg #[.int .i64 h0, .int .i64 h1], .bool small] w fun e w' => e = .returned (.bool true) ∧ Below w.heap.size w w' :=
  LineTells_calls ax ay bx by_ n at_ h0 h1 small w hg (wf64' wax) (wf64' way) (wf64' wbx) (wf64' wby) (wf64' wn) (wf64' wat) (wf64' wh0) (wf64' wh1)
end Go.Proofs.YtaiolioggjknfaaDoor.YLine
