/- The law TableFull of layer 24: the walk. Condition: errors.errorType holds its type's handle. -/
import Derived.Test.YtekcemncmgingaaDoorYTable3
namespace Go.Proofs.YtekcemncmgingaaDoor.YErr
open Go.RowKit Go.Extern.Stop Go.Stop Go.Extern
set_option linter.unusedVariables false
set_option linter.unusedSimpArgs false
theorem One.blk {w w' : World} {p q : Nat} {cs : Array Value} {T : TypeId} (h : One w w' p) (k : Blk w q cs T) (hn : q ≠ p) : Blk w' q cs T := (h.2.2.2.2 q (Blk.lt k) hn).trans k
theorem wf8 {x : Int} (h : (Lit.int .u8 x).wf = true) : 0 ≤ x ∧ x ≤ 255 := by
  simp [Lit.wf, IntKind.min, IntKind.max, IntKind.bits, IntKind.signed] at h; omega
theorem new_th (x : Int) : (Sl.new x).th = true := rfl
theorem none_th : Sl.none.th = false := rfl
theorem bare_none : Sl.none.bare := ⟨rfl, rfl, rfl⟩
theorem bare_new (x : Int) : (Sl.new x).bare := ⟨rfl, rfl, rfl⟩

set_option maxRecDepth 100000 in
set_option maxHeartbeats 16000000 in
theorem known24 (w : World) (hg : Laid w) : Calls Tryd.prog 8 #[] w fun r w' => r = .returned (.bool true) ∧ Below w.heap.size w w' := by
  go_enter Tryd.func8, Tryd.ntmps8
  go_wp2_with fail
  refine (New_c w).mono ?_; rintro r w1 ⟨rfl, T, B1⟩
  have hp : w.heap.size ≤ w.heap.size := Nat.le_refl _
  go_wp2_with fail
  refine (See_free0 T none_th (Slot_FFF (id := 7) T none_th none_th none_th)).mono ?_; rintro r w2 ⟨rfl, T1, h1⟩
  have B2 := One.below h1 B1 hp
  clear B1 T
  have T := T1
  clear T1
  clear h1
  go_wp2_with fail
  refine (See_found (k := 0) (Slot_Y (id := 7) T (new_th _) rfl)).mono ?_; rintro r w3 ⟨rfl, h2⟩
  have B3 := bbT B2 h2
  replace T := T.keep h2
  clear B2 h2
  go_wp2_with fail
  refine (See_free1 T (new_th _) none_th (Slot_NFF (id := 9) T (new_th _) (show ¬ (Sl.new 7).id = 9 by decide) none_th none_th)).mono ?_; rintro r w4 ⟨rfl, T3, h3⟩
  have B4 := One.below h3 B3 hp
  clear B3 T
  have T := T3
  clear T3
  clear h3
  go_wp2_with fail
  refine (Score_none2 T none_th true).mono ?_; rintro r w5 ⟨v, rfl, E, h4⟩
  have B5 := bbT B4 h4
  replace T := T.keep h4
  clear B4 h4
  have SY := says24 36 w5 (hg.below B5) E
  simp only [decide_true] at SY
  obtain ⟨uu, rfl⟩ := E.some (by decide)
  go_wp2_with fail
  refine SY.mono ?_; rintro r w6 ⟨rfl, h5⟩
  have B6 := bbT B5 h5
  replace T := T.keep h5
  clear SY E
  go_wp2_with fail
  refine (All_bare T (bare_new _) (bare_new _) bare_none).mono ?_; rintro r w7 ⟨gg, cap, rfl, h6⟩
  have B7 := bbT B6 h6
  replace T := T.keep h6
  go_wp2_with fail
  refine (Set_ok1 T (new_th _) rfl).mono ?_; rintro r w8 ⟨rfl, T7, h7⟩
  have B8 := One.below h7 B7 hp
  clear B7 T
  have T := T7
  clear T7
  go_wp2_with fail
  refine (Set_there1 T rfl rfl).mono ?_; rintro r w9 ⟨v2, rfl, E, h8⟩
  have B9 := bbT B8 h8
  replace T := T.keep h8
  have SY := says24 37 w9 (hg.below B9) E
  simp only [decide_true] at SY
  obtain ⟨uu, rfl⟩ := E.some (by decide)
  go_wp2_with fail
  refine SY.mono ?_; rintro r w10 ⟨rfl, h9⟩
  have B10 := bbT B9 h9
  replace T := T.keep h9
  clear SY E
  go_wp2_with fail
  go_ret
  exact ⟨rfl, B10⟩

set_option maxRecDepth 100000 in
set_option maxHeartbeats 16000000 in
theorem TableFull_calls (a b c d gone : Int) (w : World) (hg : Laid w) (g0 : 0 ≤ gone) (g1 : gone ≤ 255) : Calls Tryd.prog 4 #[.int .u8 a, .int .u8 b, .int .u8 c, .int .u8 d, .int .u8 gone] w fun r w' => r = .returned (.bool true) ∧ Below w.heap.size w w' := by
  have K := known24 w hg
  go_enter Tryd.func4, Tryd.ntmps4
  go_wp2_with fail
  refine K.mono ?_; rintro r w0 ⟨rfl, B0⟩
  clear K
  by_cases nab : a = b
  · subst nab
    go_wp2_with fail
    go_ret
    exact ⟨rfl, B0⟩
  by_cases nac : a = c
  · subst nac
    go_wp2_with fail
    go_ret
    exact ⟨rfl, B0⟩
  by_cases nad : a = d
  · subst nad
    go_wp2_with fail
    go_ret
    exact ⟨rfl, B0⟩
  by_cases nbc : b = c
  · subst nbc
    go_wp2_with fail
    go_ret
    exact ⟨rfl, B0⟩
  by_cases nbd : b = d
  · subst nbd
    go_wp2_with fail
    go_ret
    exact ⟨rfl, B0⟩
  by_cases ncd : c = d
  · subst ncd
    go_wp2_with fail
    go_ret
    exact ⟨rfl, B0⟩
  have mab : (a == b) = false := by simpa using nab
  have mac : (a == c) = false := by simpa using nac
  have mad : (a == d) = false := by simpa using nad
  have mbc : (b == c) = false := by simpa using nbc
  have mbd : (b == d) = false := by simpa using nbd
  have mcd : (c == d) = false := by simpa using ncd
  go_wp2_with fail
  clear mab mac mad mbc mbd mcd
  refine (New_c w0).mono ?_; rintro r w1 ⟨rfl, T, h0⟩
  have B1 := bbT B0 h0
  have hp : w.heap.size ≤ w0.heap.size := B0.size
  go_wp2_with fail
  refine (See_free0 T none_th (Slot_FFF (id := a) T none_th none_th none_th)).mono ?_; rintro r w2 ⟨rfl, T1, h1⟩
  have B2 := One.below h1 B1 hp
  clear B1 T
  have T := T1
  clear T1
  clear h1
  go_wp2_with fail
  refine (See_free1 T (new_th _) none_th (Slot_NFF (id := b) T (new_th _) (nab) none_th none_th)).mono ?_; rintro r w3 ⟨rfl, T2, h2⟩
  have B3 := One.below h2 B2 hp
  clear B2 T
  have T := T2
  clear T2
  clear h2
  go_wp2_with fail
  refine (See_free2 T (new_th _) (new_th _) none_th (Slot_NNF (id := c) T (new_th _) (nac) (new_th _) (nbc) none_th)).mono ?_; rintro r w4 ⟨rfl, T3, h3⟩
  have B4 := One.below h3 B3 hp
  clear B3 T
  have T := T3
  clear T3
  clear h3
  go_wp2_with fail
  refine (See_full T (new_th _) (new_th _) (new_th _) (Slot_NNN (id := d) T (new_th _) (nad) (new_th _) (nbd) (new_th _) (ncd))).mono ?_; rintro r w5 ⟨u1, rfl, E, h4⟩
  have B5 := bbT B4 h4
  replace T := T.keep h4
  clear B4 h4
  have SY := says24 35 w5 (hg.below B5) E
  simp only [decide_true] at SY
  obtain ⟨uu, rfl⟩ := E.some (by decide)
  go_wp2_with fail
  refine SY.mono ?_; rintro r w6 ⟨rfl, h5⟩
  have B6 := bbT B5 h5
  replace T := T.keep h5
  clear SY E
  have TLT := Blk.lt T
  have LB := Blk.new w6 #[.int .u8 a, .int .u8 b, .int .u8 c] 5
  replace T := Blk.alloc T (.cells #[.int .u8 a, .int .u8 b, .int .u8 c] 5)
  have B7 := B6.alloc B6.size (.cells #[.int .u8 a, .int .u8 b, .int .u8 c] 5)
  have hm : gone % 3 = 0 ∨ gone % 3 = 1 ∨ gone % 3 = 2 := by omega
  have hq : w6.heap.size ≠ w0.heap.size := by
    have hz := TLT
    omega
  rcases hm with hm | hm | hm
  · have l0 := (Blk.cell LB 0).trans (show (#[.int .u8 a, .int .u8 b, .int .u8 c] : Array Value)[0]? = some (.int .u8 a) from rfl)
    go_wp2_with fail
    generalize w6.alloc (.cells #[.int .u8 a, .int .u8 b, .int .u8 c] 5) = w7 at *
    clear l0
    refine (Drop_0 T (Slot_Y (id := a) T (new_th _) rfl)).mono ?_; rintro r w8 ⟨rfl, T7, h7⟩
    replace LB := One.blk h7 LB hq
    have B8 := One.below h7 B7 hp
    clear B7 T
    have T := T7
    clear T7
    have l0 := (Blk.cell LB 0).trans (show (#[.int .u8 a, .int .u8 b, .int .u8 c] : Array Value)[0]? = some (.int .u8 a) from rfl)
    go_wp2_with fail
    clear l0
    refine (Drop_none (Slot_FNN (id := a) T none_th (new_th _) (fun h => nab h.symm) (new_th _) (fun h => nac h.symm))).mono ?_; rintro r w9 ⟨v8, rfl, E, h8⟩
    have B9 := bbT B8 h8
    replace T := T.keep h8
    replace LB := Blk.keep LB h8
    have SY := says24 36 w9 (hg.below B9) E
    simp only [decide_true] at SY
    obtain ⟨uu, rfl⟩ := E.some (by decide)
    go_wp2_with fail
    refine SY.mono ?_; rintro r w10 ⟨rfl, h9⟩
    have B10 := bbT B9 h9
    replace T := T.keep h9
    clear SY E
    replace LB := Blk.keep LB h9
    go_wp2_with fail
    refine (See_free0 T none_th (Slot_FNN (id := d) T none_th (new_th _) (nbd) (new_th _) (ncd))).mono ?_; rintro r w11 ⟨rfl, T10, h10⟩
    replace LB := One.blk h10 LB hq
    have B11 := One.below h10 B10 hp
    clear B10 T
    have T := T10
    clear T10
    clear h10
    have l0 := (Blk.cell LB 1).trans (show (#[.int .u8 a, .int .u8 b, .int .u8 c] : Array Value)[1]? = some (.int .u8 b) from rfl)
    go_wp2_with fail
    clear l0
    refine (See_found (k := 1) (Slot_NY (id := b) T (new_th _) (fun h => nbd h.symm) (new_th _) rfl)).mono ?_; rintro r w12 ⟨rfl, h11⟩
    have B12 := bbT B11 h11
    replace T := T.keep h11
    clear B11 h11
    go_wp2_with fail
    go_ret
    exact ⟨rfl, B12⟩
  · have l0 := (Blk.cell LB 1).trans (show (#[.int .u8 a, .int .u8 b, .int .u8 c] : Array Value)[1]? = some (.int .u8 b) from rfl)
    go_wp2_with fail
    generalize w6.alloc (.cells #[.int .u8 a, .int .u8 b, .int .u8 c] 5) = w7 at *
    clear l0
    refine (Drop_1 T (Slot_NY (id := b) T (new_th _) (nab) (new_th _) rfl)).mono ?_; rintro r w8 ⟨rfl, T7, h7⟩
    replace LB := One.blk h7 LB hq
    have B8 := One.below h7 B7 hp
    clear B7 T
    have T := T7
    clear T7
    have l0 := (Blk.cell LB 1).trans (show (#[.int .u8 a, .int .u8 b, .int .u8 c] : Array Value)[1]? = some (.int .u8 b) from rfl)
    go_wp2_with fail
    clear l0
    refine (Drop_none (Slot_NFN (id := b) T (new_th _) (nab) none_th (new_th _) (fun h => nbc h.symm))).mono ?_; rintro r w9 ⟨v8, rfl, E, h8⟩
    have B9 := bbT B8 h8
    replace T := T.keep h8
    replace LB := Blk.keep LB h8
    have SY := says24 36 w9 (hg.below B9) E
    simp only [decide_true] at SY
    obtain ⟨uu, rfl⟩ := E.some (by decide)
    go_wp2_with fail
    refine SY.mono ?_; rintro r w10 ⟨rfl, h9⟩
    have B10 := bbT B9 h9
    replace T := T.keep h9
    clear SY E
    replace LB := Blk.keep LB h9
    go_wp2_with fail
    refine (See_free1 T (new_th _) none_th (Slot_NFN (id := d) T (new_th _) (nad) none_th (new_th _) (ncd))).mono ?_; rintro r w11 ⟨rfl, T10, h10⟩
    replace LB := One.blk h10 LB hq
    have B11 := One.below h10 B10 hp
    clear B10 T
    have T := T10
    clear T10
    clear h10
    have l0 := (Blk.cell LB 2).trans (show (#[.int .u8 a, .int .u8 b, .int .u8 c] : Array Value)[2]? = some (.int .u8 c) from rfl)
    go_wp2_with fail
    clear l0
    refine (See_found (k := 2) (Slot_NNY (id := c) T (new_th _) (nac) (new_th _) (fun h => ncd h.symm) (new_th _) rfl)).mono ?_; rintro r w12 ⟨rfl, h11⟩
    have B12 := bbT B11 h11
    replace T := T.keep h11
    clear B11 h11
    go_wp2_with fail
    go_ret
    exact ⟨rfl, B12⟩
  · have l0 := (Blk.cell LB 2).trans (show (#[.int .u8 a, .int .u8 b, .int .u8 c] : Array Value)[2]? = some (.int .u8 c) from rfl)
    go_wp2_with fail
    generalize w6.alloc (.cells #[.int .u8 a, .int .u8 b, .int .u8 c] 5) = w7 at *
    clear l0
    refine (Drop_2 T (Slot_NNY (id := c) T (new_th _) (nac) (new_th _) (nbc) (new_th _) rfl)).mono ?_; rintro r w8 ⟨rfl, T7, h7⟩
    replace LB := One.blk h7 LB hq
    have B8 := One.below h7 B7 hp
    clear B7 T
    have T := T7
    clear T7
    have l0 := (Blk.cell LB 2).trans (show (#[.int .u8 a, .int .u8 b, .int .u8 c] : Array Value)[2]? = some (.int .u8 c) from rfl)
    go_wp2_with fail
    clear l0
    refine (Drop_none (Slot_NNF (id := c) T (new_th _) (nac) (new_th _) (nbc) none_th)).mono ?_; rintro r w9 ⟨v8, rfl, E, h8⟩
    have B9 := bbT B8 h8
    replace T := T.keep h8
    replace LB := Blk.keep LB h8
    have SY := says24 36 w9 (hg.below B9) E
    simp only [decide_true] at SY
    obtain ⟨uu, rfl⟩ := E.some (by decide)
    go_wp2_with fail
    refine SY.mono ?_; rintro r w10 ⟨rfl, h9⟩
    have B10 := bbT B9 h9
    replace T := T.keep h9
    clear SY E
    replace LB := Blk.keep LB h9
    go_wp2_with fail
    refine (See_free2 T (new_th _) (new_th _) none_th (Slot_NNF (id := d) T (new_th _) (nad) (new_th _) (nbd) none_th)).mono ?_; rintro r w11 ⟨rfl, T10, h10⟩
    replace LB := One.blk h10 LB hq
    have B11 := One.below h10 B10 hp
    clear B10 T
    have T := T10
    clear T10
    clear h10
    have l0 := (Blk.cell LB 0).trans (show (#[.int .u8 a, .int .u8 b, .int .u8 c] : Array Value)[0]? = some (.int .u8 a) from rfl)
    go_wp2_with fail
    clear l0
    refine (See_found (k := 0) (Slot_Y (id := a) T (new_th _) rfl)).mono ?_; rintro r w12 ⟨rfl, h11⟩
    have B12 := bbT B11 h11
    replace T := T.keep h11
    clear B11 h11
    go_wp2_with fail
    go_ret
    exact ⟨rfl, B12⟩

theorem TableFull_law (a b c d gone : Int) (w : World) (hg : Laid w) (w0 : (Lit.int .u8 a).wf = true) (w1 : (Lit.int .u8 b).wf = true) (w2 : (Lit.int .u8 c).wf = true) (w3 : (Lit.int .u8 d).wf = true) (w4 : (Lit.int .u8 gone).wf = true) : Calls Tryd.prog 4 #[.int .u8 a, .int .u8 b, .int .u8 c, .int .u8 d, .int .u8 gone] w fun r w' => r = .returned (.bool true) ∧ Below w.heap.size w w' :=
  TableFull_calls a b c d gone w hg (wf8 w4).1 (wf8 w4).2
end Go.Proofs.YtekcemncmgingaaDoor.YErr
