/- Lean functions, contracts and lemmas that this claim needs. No condition. -/
import Derived.Test.YtpdljoalfmgfiaaZtYWideMade
import Derived.Test.YtpdljoalfmgfiaaZtYWideKnown
import Derived.BigFrame
import Derived.Test.YtpdljoalfmgfiaaZtYWideReg
import Derived.Test.YtpdljoalfmgfiaaZtYWideAny
import Derived.Test.YtpdljoalfmgfiaaZtYRefCmp
namespace Go.Proofs.Ytpdljoalfmgfiaa.YWide
open Go.RowKit Go.Proofs.Ytpdljoalfmgfiaa.YInv Go.Proofs.Ytpdljoalfmgfiaa.YErr Go.Proofs.Ytpdljoalfmgfiaa.YRef Go.Proofs.Ytpdljoalfmgfiaa.YNum Go.Proofs.Ytpdljoalfmgfiaa.YBits Go.Proofs.Ytpdljoalfmgfiaa.XCarry Go.Proofs.Ytpdljoalfmgfiaa.QWd Go.Proofs.YtpdljoalfmgfiaaW.PrintWords Go.Proofs.YtpdljoalfmgfiaaW.PrintLast
set_option linter.unusedVariables false
set_option linter.unusedSimpArgs false
theorem ldWg {ops : Array Oper} {rest : List Oper} {o : Oper} {a : Act} {w : World} {b : Nat} {l : List Int} {Q : Exit → Act → World → Prop} (k : Blk w b (U l) 27) (hl : l.length = 16) (x : Operand) (ho : o.op = .load 27 x) (hx : a.eval x = .pointer (some ⟨b, 0, none⟩)) (hw : Region.wanted o (yielded ops a.tmps) = true)
    (h : wpList Try.prog ops Q rest (a.put o.dst (.agg (U l))) w) : wpList Try.prog ops Q (o :: rest) a w :=
  BigFrame.wpList_want hw fun K hK => wp_load_row 27 x ho b hx 27 (U l) (0, 0) _ k Try.underlying27 rfl (ofLen hl) (hK _ _ h)
/-- A number of at most so many bits. -/
def Bd (k : Nat) (x : Int) : Prop := x.natAbs < 2 ^ k
theorem Bd.of {k : Nat} {x : Int} (h0 : -(2 ^ k) < x) (h1 : x < 2 ^ k) : Bd k x := by
  have e : ((2 ^ k : Nat) : Int) = (2 : Int) ^ k := by simp
  unfold Bd
  omega
theorem Bd.mono {k l : Nat} {x : Int} (h : Bd k x) (hl : k ≤ l) : Bd l x := Nat.lt_of_lt_of_le h (Nat.pow_le_pow_right (by decide) hl)
theorem Bd.add {k : Nat} {x y : Int} (h : Bd k x) (g : Bd k y) : Bd (k + 1) (x + y) := by
  unfold Bd at *
  rw [Nat.pow_succ]
  omega
theorem cl_in {z : Int} (h : InW z) : cl z = z := by unfold cl; rw [if_pos h]
section
variable {W w : World} {x y : List Int}
end
section
variable (w : World)
end
theorem wf_u16' {x : Int} (h : (Lit.int .u16 x).wf = true) : 0 ≤ x ∧ x ≤ 65535 := by
  simp [Lit.wf, IntKind.min, IntKind.max, IntKind.bits, IntKind.signed] at h; omega
theorem dig_wf {l : List Int} (h : ∀ n ∈ l, (Lit.int .u64 n).wf = true) : Dig l := fun x hx => by
  have := h x hx
  simp [Lit.wf, IntKind.min, IntKind.max, IntKind.bits, IntKind.signed] at this
  omega
end Go.Proofs.Ytpdljoalfmgfiaa.YWide
namespace Go.Proofs.Ytpdljoalfmgfiaa.YInv
open Go.RowKit
def updV (s : Nat → Value) (i : Nat) (v : Value) : Nat → Value := fun k => bif Nat.beq k i then v else s k
theorem updV_self (s : Nat → Value) (i : Nat) (v : Value) : updV s i v i = v := by
  unfold updV
  rw [Nat.beq_refl]; rfl
theorem updV_ne (s : Nat → Value) (v : Value) {i j : Nat} (h : Nat.beq j i = false) : updV s i v j = s j := by
  unfold updV
  rw [h]; rfl
def VB (vs : List (Option Value)) (s : Nat → Value) (j : Nat) : Value := match vs.getD j none with | some v => v | none => s j
theorem VB_upd (vs : List (Option Value)) (s : Nat → Value) {L : Nat → Bool} {i : Nat} (v : Value) (h : L i = false) : ∀ j, L j = true → VB vs (updV s i v) j = VB vs s j := by
  intro j hj
  have : Nat.beq j i = false := by
    cases e : Nat.beq j i with
    | false => rfl
    | true => rw [Nat.eq_of_beq_eq_true e, h] at hj; cases hj
  unfold VB
  rw [updV_ne _ _ this]
end Go.Proofs.Ytpdljoalfmgfiaa.YInv
namespace Go.Proofs.Ytpdljoalfmgfiaa.YWide
open Go.RowKit Go.Proofs.Ytpdljoalfmgfiaa.YInv Go.Proofs.Ytpdljoalfmgfiaa.YErr Go.Proofs.Ytpdljoalfmgfiaa.YRef Go.Proofs.Ytpdljoalfmgfiaa.YNum Go.Proofs.Ytpdljoalfmgfiaa.YBits Go.Proofs.Ytpdljoalfmgfiaa.XCarry Go.Proofs.Ytpdljoalfmgfiaa.QWd Go.Proofs.YtpdljoalfmgfiaaW.PrintWords Go.Proofs.YtpdljoalfmgfiaaW.PrintLast
open Go.Proofs.Ytpdljoalfmgfiaa.YBig (IsBig)
set_option linter.unusedVariables false
set_option linter.unusedSimpArgs false
theorem wf_u8' {x : Int} (h : (Lit.int .u8 x).wf = true) : 0 ≤ x ∧ x ≤ 255 := by
  simp [Lit.wf, IntKind.min, IntKind.max, IntKind.bits, IntKind.signed] at h; omega
theorem ab_of {x : Int} {P : Nat} {q : Int} (hP : q = (P : Int)) (h : x.natAbs < P) : YRef.ab x < q := by
  rw [hP]
  unfold YRef.ab
  split <;> omega
theorem Bd.ab {k : Nat} {x : Int} (h : Bd k x) (hk : k ≤ 1023) : ab x < 2 ^ 1023 := ab_of (P := 2 ^ 1023) (by decide +kernel) (h.mono hk)
/-- made with any number of bits. -/
theorem made_all {A : Option Addr} {c : Nat} {l : List Int} {w : World} (hl : LiesK .u64 w A l) (hd : Dig l) (hlm : l.length ≤ 9223372036854775807) (n : Int) (n0 : 0 ≤ n) (n1 : n ≤ 65535) (neg : Bool) (k : Int) (k0 : 0 ≤ k) (k1 : k ≤ 255) : Calls Try.prog 11 #[.slice A l.length c, .int .u16 n, .bool neg, .int .u8 k] w fun e w' => ∃ x : Int, InW x ∧ e = .returned (.agg (U (lim x))) ∧ Below w.heap.size w w' :=
  made_any hl hd hlm n (n % 1025).toNat n0 n1 (by omega) neg k k0 k1
end Go.Proofs.Ytpdljoalfmgfiaa.YWide
namespace Go.Proofs.Ytpdljoalfmgfiaa.YWide
open Go.RowKit Go.Proofs.Ytpdljoalfmgfiaa.YInv Go.Proofs.Ytpdljoalfmgfiaa.YErr Go.Proofs.Ytpdljoalfmgfiaa.YRef Go.Proofs.Ytpdljoalfmgfiaa.YNum Go.Proofs.Ytpdljoalfmgfiaa.YBits Go.Proofs.Ytpdljoalfmgfiaa.XCarry Go.Proofs.Ytpdljoalfmgfiaa.QWd Go.Proofs.YtpdljoalfmgfiaaW.PrintWords Go.Proofs.YtpdljoalfmgfiaaW.PrintLast
open Go.Proofs.Ytpdljoalfmgfiaa.YBig (IsBig)
set_option linter.unusedVariables false
set_option linter.unusedSimpArgs false
/-- The whole number of 1024 bits that any of the reference's numbers is, or that there is none. -/
theorem To_all {v : Value} {z : Int} {w : World} (hv : IsBig w v z) (hs : Small z) : Calls Try.prog 31 #[v] w fun e w' => e = .returned (.tuple #[.agg (U (lim (cl z))), .bool (decide (InW z))]) ∧ Below w.heap.size w w' := by
  have b := B16
  have p := two_pos' 1023
  have iff : InW z ↔ (-(2 ^ 1023) ≤ z ∧ z < 2 ^ 1023) := by unfold InW; rw [b]; constructor <;> intro h <;> omega
  have h40 : ab z < 18446744073709551616 ^ 40 := hs.fit.2
  by_cases c : ab z < 2 ^ 1023
  · have hi : InW z := iff.2 (by unfold YRef.ab at c; split at c <;> omega)
    rw [cl_in hi, decide_eq_true hi]
    exact To_c hv c
  · obtain ⟨A, c', rfl, hc, hV⟩ := hv
    have em : mag z = limbs (ab z) := rfl
    rw [em] at hV hc ⊢
    by_cases e : sg z = true ∧ ab z = 2 ^ 1023
    · have ez : z = -(ab z) := by
        have h := e.1
        unfold sg at h
        have h : z < 0 := of_decide_eq_true h
        unfold YRef.ab; rw [if_pos h]; omega
      have hi : InW z := iff.2 (by rw [ez, e.2]; omega)
      rw [cl_in hi, decide_eq_true hi, e.1]
      have h := To_least hV hc e.2
      rwa [← ez] at h
    · have hi : ¬ InW z := fun h => by
        have h := iff.1 h
        apply e
        unfold sg
        unfold YRef.ab at c ⊢
        by_cases hz : z < 0
        · rw [if_pos hz] at c ⊢
          exact ⟨decide_eq_true hz, by omega⟩
        · rw [if_neg hz] at c; omega
      have ec : cl z = 0 := by unfold cl; rw [if_neg hi]
      rw [ec, decide_eq_false hi, ← zeros_lim]
      exact To_none (sg z) hV hc (Int.not_lt.1 c) h40 e
theorem CmpR {v u : Value} {x y : Int} {W : World} (hv : IsBig W v x) (hu : IsBig W u y) (sx : Small x) (sy : Small y) : Calls Try.prog 21 #[v, u] W fun e w' => e = .returned (.int .i64 (cm x y)) ∧ Below W.heap.size W w' := by
  obtain ⟨A, c, rfl, hc, hv⟩ := hv
  obtain ⟨A', c', rfl, hc', hu⟩ := hu
  exact leadlineref1_Cmp.calls 2000 (sg x) A c (mag x) (sg y) A' c' (mag y) _ W (YBig.IsBig.C hv) hc (YBig.IsBig.C hu) hc' (Cmp_tells 0 sx sy)
theorem BitsR {v : Value} {x : Int} {W : World} {t : Nat} (hv : IsBig W v x) (hx : InW x) (ht : BitsIs (ab x) t) : Calls Try.prog 25 #[v] W fun e w' => e = .returned (.int .i64 (t : Int)) ∧ Below W.heap.size W w' := by
  obtain ⟨A, c, rfl, hc, hv⟩ := hv
  have h0 : 0 ≤ ab x := ht.1
  have h1 : ab x < 18446744073709551616 ^ 16 := by unfold InW at hx; unfold YRef.ab; split <;> omega
  have l16 := limbs_lt16 h1
  obtain ⟨s, e, hs, _⟩ := size_tells 100 h0 (by omega)
  obtain rfl := bits_one hs ht
  exact leadlineref1_Bits.calls 101 (sg x) A c (mag x) _ W (YBig.IsBig.C hv) hc (by unfold leadlineref1_Bits.f mag; rw [e]; rfl)
theorem BitsW {x : Int} {W : World} {t : Nat} (hx : InW x) (ht : BitsIs (ab x) t) : Calls Try.prog 24 #[.agg (U (lim x))] W fun e w' => e = .returned (.int .i64 (t : Int)) ∧ Below W.heap.size W w' := by
  refine (Bits_c hx W).mono ?_
  rintro e w' ⟨s, hs, rfl, g⟩
  obtain rfl := bits_one hs ht
  exact ⟨rfl, g⟩
theorem bits_ex {x : Int} (hx : InW x) : ∃ t : Nat, BitsIs (ab x) t := by
  have h0 : 0 ≤ ab x := by unfold YRef.ab; split <;> omega
  have h1 : ab x < 18446744073709551616 ^ 16 := by unfold InW at hx; unfold YRef.ab; split <;> omega
  have l16 := limbs_lt16 h1
  obtain ⟨s, e, hs, _⟩ := size_tells 100 h0 (by omega)
  exact ⟨s, hs⟩
set_option maxRecDepth 100000 in
set_option maxHeartbeats 8000000 in
/-- Is an answer the document's, or none? -/
theorem fits_c {v : Value} {z : Int} {w : World} (hv : IsBig w v z) (hs : Small z) : Calls Try.prog 16 #[.agg (U (lim (cl z))), .bool (decide (InW z)), v] w fun e w' => e = .returned (.bool true) ∧ Below w.heap.size w w' := by
  have TO := fun W (g : Below w.heap.size w W) => To_all (hv.below g) hs
  have la := lim_len (cl z)
  have EQ := fun W => eql_same W (cl z)
  have EZ : decide (InW z) = false → ∀ W, (binOp .eql 27 (.agg (U (lim (cl z)))) (.agg #[.int .u64 0, .int .u64 0, .int .u64 0, .int .u64 0, .int .u64 0, .int .u64 0, .int .u64 0, .int .u64 0, .int .u64 0, .int .u64 0, .int .u64 0, .int .u64 0, .int .u64 0, .int .u64 0, .int .u64 0, .int .u64 0])).run Try.prog W = .ok (.bool true) W := fun h W => by
    have e : cl z = 0 := by unfold cl; rw [if_neg (of_decide_eq_false h)]
    rw [e, run_eqlZ, decide_eq_true zeros_lim.symm]
  obtain ⟨A, c, rfl, hc, hV⟩ := hv
  have k1 := (Blk.new w (U (lim (cl z))) 27).alloc (.cells #[.bool (sg z), .slice A (mag z).length c] 30)
  have k2 : Blk ((w.alloc (.cells (U (lim (cl z))) 27)).alloc (.cells #[.bool (sg z), .slice A (mag z).length c] 30)) (w.heap.size + 1) #[.bool (sg z), .slice A (mag z).length c] 30 := by
    have := Blk.new (w.alloc (.cells (U (lim (cl z))) 27)) #[.bool (sg z), .slice A (mag z).length c] 30
    simpa using this
  have b0 : Below w.heap.size w ((w.alloc (.cells (U (lim (cl z))) 27)).alloc (.cells #[.bool (sg z), .slice A (mag z).length c] 30)) := ((Below.refl _ _).alloc (Nat.le_refl _) _).alloc (by simp) _
  have TO := TO _ b0
  clear hV hc hs
  generalize decide (InW z) = ok at *
  generalize lim (cl z) = Z at *
  go_enter Try.func16, Try.ntmps16
  go_wp2_with (refine ldBig k2 rfl _ rfl rfl rfl ?_)
  refine TO.mono ?_; rintro e w1 ⟨rfl, g1⟩
  replace k1 := k1.keep g1
  have b1 := bb b0 g1
  clear k2 b0 g1 TO
  have kN := Blk.new w1 (U zeros) 27
  have kM := put_ (cs := U Z) kN
  have kA : Blk ((w1.alloc (.cells (U zeros) 27)).setRow w1.heap.size (U Z)) w.heap.size (U Z) 27 := far_ (k1.alloc _) (Nat.ne_of_lt k1.lt)
  have hb := below_row (b1.alloc b1.size (.cells (U zeros) 27)) b1.size (U Z)
  cases ok with
  | true =>
    go_wp2_with (first | (refine stW kN zeros_len la _ _ rfl rfl rfl rfl ?_) | (refine ldW kM la _ rfl rfl rfl ?_) | go_skip | (refine ldWg kM la _ rfl rfl (by kernel_rfl) ?_) | (refine ldWg kA la _ rfl rfl (by kernel_rfl) ?_))
    go_ret
    exact ⟨rfl, hb⟩
  | false =>
    have EZ := EZ rfl
    clear EQ
    go_wp2_with (first | (refine stW kN zeros_len la _ _ rfl rfl rfl rfl ?_) | (refine ldW kM la _ rfl rfl rfl ?_) | go_skip | (refine ldWg kM la _ rfl rfl (by kernel_rfl) ?_) | (refine ldWg kA la _ rfl rfl (by kernel_rfl) ?_))
    go_ret
    exact ⟨rfl, hb⟩
end Go.Proofs.Ytpdljoalfmgfiaa.YWide
namespace Go.Proofs.Ytpdljoalfmgfiaa.YWide
open Go.RowKit Go.Proofs.Ytpdljoalfmgfiaa.YInv Go.Proofs.Ytpdljoalfmgfiaa.YErr Go.Proofs.Ytpdljoalfmgfiaa.YRef Go.Proofs.Ytpdljoalfmgfiaa.YNum Go.Proofs.Ytpdljoalfmgfiaa.YBits Go.Proofs.Ytpdljoalfmgfiaa.XCarry Go.Proofs.Ytpdljoalfmgfiaa.QWd Go.Proofs.YtpdljoalfmgfiaaW.PrintWords Go.Proofs.YtpdljoalfmgfiaaW.PrintLast
open Go.Proofs.Ytpdljoalfmgfiaa.YBig (IsBig)
set_option linter.unusedVariables false
set_option linter.unusedSimpArgs false
def ptr (g : Nat) : Value := .pointer (some ⟨g, 0, none⟩)
theorem ptr_inj {g k : Nat} (h : ptr g = ptr k) : g = k := by
  unfold ptr at h
  injection h with h
  injection h with h
  injection h
def ZB : Array Value := #[.bool false, .slice none 0 0]
/-- Blocks that aren't the new places. -/
def Ok4 (L : Nat → Bool) (s : Nat → Value) (k : Nat) : Prop := (L 4 = true → s 4 ≠ ptr k) ∧ (L 5 = true → s 5 ≠ ptr k)
/-- A new place, and what is laid into it. -/
def At4 (N : Nat) (a st q : Nat) (L : Nat → Bool) (s : Nat → Value) (w : World) : Prop :=
  (L a = true → ∃ g, s a = ptr g ∧ N ≤ g ∧ g < w.heap.size ∧ (L st = false → Blk w g ZB 30)) ∧
  (L st = true → L a = true ∧ L q = true ∧ ∃ g cs, s a = ptr g ∧ s q = .agg cs ∧ Blk w g cs 30)
structure R4 (W : World) (N pa pb : Nat) (x y : Int) (L : Nat → Bool) (s : Nat → Value) (w : World) : Prop where
  K0 : Blk w pa (U (lim x)) 27
  K1 : Blk w pb (U (lim y)) 27
  B1 : L 1 = true → IsBigO w (s 1) x (Ok4 L s)
  B3 : L 3 = true → IsBigO w (s 3) y (Ok4 L s)
  A4 : At4 N 4 6 1 L s w
  A5 : At4 N 5 7 3 L s w
  D : L 4 = true → L 5 = true → s 4 ≠ s 5
  n0 : pa < N
  n1 : pb < N
  BN : N ≤ w.heap.size
  BW : Below W.heap.size W w
theorem IsBigO.below {w w' : World} {v : Value} {x : Int} {ok ok' : Nat → Prop} (h : IsBigO w v x ok) (g : Below w.heap.size w w') (hk : ∀ k, ok k → ok' k) : IsBigO w' v x ok' := by
  obtain ⟨A, c, hv, hc, hV⟩ := h
  exact ⟨A, c, hv, hc, Kd.V_mono (Kd.V_below hV g) hk⟩
theorem IsBigO.alloc {w : World} {v : Value} {x : Int} {ok ok' : Nat → Prop} (h : IsBigO w v x ok) (o : Obj) (hk : ∀ k, ok k → k < w.heap.size → ok' k) : IsBigO (w.alloc o) v x ok' := by
  obtain ⟨A, c, hv, hc, hV⟩ := h
  exact ⟨A, c, hv, hc, Kd.V_mono (Kd.V_alloc (Kd.V_bound hV) o) (fun k hk' => hk k hk'.1 hk'.2)⟩
theorem IsBigO.row {w : World} {v : Value} {x : Int} {ok ok' : Nat → Prop} {g : Nat} {cs : Array Value} (h : IsBigO w v x ok) (hg : ∀ k, ok k → k ≠ g) (hk : ∀ k, ok k → ok' k) : IsBigO (w.setRow g cs) v x ok' := by
  obtain ⟨A, c, hv, hc, hV⟩ := h
  exact ⟨A, c, hv, hc, Kd.V_mono (Kd.V_step hV (fun k hk' _ => setRow_other _ _ _ _ (hg k hk'))) hk⟩
theorem upd_o {s : Nat → Value} {v : Value} {i j : Nat} (h : Nat.beq j i = false) : updV s i v j = s j := updV_ne s v h
theorem up_o {L : Nat → Bool} {i j : Nat} (h : j ≠ i) : YInv.up L i j = L j := YInv.up_ne L h
theorem up_s {L : Nat → Bool} {i : Nat} : YInv.up L i i = true := YInv.up_self L i
section
variable {W w w' : World} {N pa pb : Nat} {x y : Int} {L : Nat → Bool} {s : Nat → Value} {v : Value}
/-- A number is made. -/
theorem R4.call1 (h : R4 W N pa pb x y L s w) (hL : L 1 = false) (hv : IsBigO w' v x (fun k => w.heap.size ≤ k)) (g : Below w.heap.size w w') : R4 W N pa pb x y (YInv.up L 1) (updV s 1 v) w' := by
  have e4 : updV s 1 v 4 = s 4 := upd_o rfl
  have e5 : updV s 1 v 5 = s 5 := upd_o rfl
  have eo : updV s 1 v 3 = s 3 := upd_o rfl
  have l4 : YInv.up L 1 4 = L 4 := up_o (by decide)
  have l5 : YInv.up L 1 5 = L 5 := up_o (by decide)
  have l6 : YInv.up L 1 6 = L 6 := up_o (by decide)
  have l7 : YInv.up L 1 7 = L 7 := up_o (by decide)
  have lo : YInv.up L 1 3 = L 3 := up_o (by decide)
  have ok : ∀ k, Ok4 (YInv.up L 1) (updV s 1 v) k ↔ Ok4 L s k := fun k => by unfold Ok4; rw [e4, e5, l4, l5]
  have hO : IsBigO w' v x (Ok4 (YInv.up L 1) (updV s 1 v)) := by
    obtain ⟨A, c, hv', hc, hV⟩ := hv
    refine ⟨A, c, hv', hc, Kd.V_mono hV (fun k hk => (ok k).2 ⟨fun h4 e => ?_, fun h5 e => ?_⟩)⟩
    · obtain ⟨g', hg, _, hlt, _⟩ := h.A4.1 h4
      have := ptr_inj (hg.symm.trans e)
      omega
    · obtain ⟨g', hg, _, hlt, _⟩ := h.A5.1 h5
      have := ptr_inj (hg.symm.trans e)
      omega
  have at_ : ∀ a st, At4 N a st 3 L s w → updV s 1 v a = s a → YInv.up L 1 a = L a → YInv.up L 1 st = L st → At4 N a st 3 (YInv.up L 1) (updV s 1 v) w' := by
    intro a st ⟨h1, h2⟩ ea la ls
    refine ⟨fun hh => ?_, fun hh => ?_⟩
    · rw [la] at hh
      obtain ⟨g', hg, hn, hlt, hz⟩ := h1 hh
      exact ⟨g', ea.trans hg, hn, Nat.lt_of_lt_of_le hlt g.size, fun hs => (hz (by rw [← ls]; exact hs)).keep g⟩
    · rw [ls] at hh
      obtain ⟨ha, hq, g', cs, hg, hc, hb⟩ := h2 hh
      exact ⟨la.trans ha, lo.trans hq, g', cs, ea.trans hg, eo.trans hc, hb.keep g⟩
  have at2 : ∀ a st, At4 N a st 1 L s w → updV s 1 v a = s a → YInv.up L 1 a = L a → YInv.up L 1 st = L st → At4 N a st 1 (YInv.up L 1) (updV s 1 v) w' := by
    intro a st ⟨h1, h2⟩ ea la ls
    refine ⟨fun hh => ?_, fun hh => ?_⟩
    · rw [la] at hh
      obtain ⟨g', hg, hn, hlt, hz⟩ := h1 hh
      exact ⟨g', ea.trans hg, hn, Nat.lt_of_lt_of_le hlt g.size, fun hs => (hz (by rw [← ls]; exact hs)).keep g⟩
    · rw [ls] at hh
      obtain ⟨ha, hq, _⟩ := h2 hh
      rw [hL] at hq; cases hq
  exact { K0 := h.K0.keep g, K1 := h.K1.keep g, B1 := fun _ => (updV_self s 1 v).symm ▸ hO, B3 := fun hh => eo.symm ▸ (h.B3 (lo ▸ hh)).below g (fun k hk => (ok k).2 hk), A4 := at2 4 6 h.A4 e4 l4 l6, A5 := at_ 5 7 h.A5 e5 l5 l7, D := fun h4 h5 => by rw [e4, e5]; exact h.D (l4 ▸ h4) (l5 ▸ h5), n0 := h.n0, n1 := h.n1, BN := Nat.le_trans h.BN g.size, BW := bb h.BW g }
/-- A number is made. -/
theorem R4.call3 (h : R4 W N pa pb x y L s w) (hL : L 3 = false) (hv : IsBigO w' v y (fun k => w.heap.size ≤ k)) (g : Below w.heap.size w w') : R4 W N pa pb x y (YInv.up L 3) (updV s 3 v) w' := by
  have e4 : updV s 3 v 4 = s 4 := upd_o rfl
  have e5 : updV s 3 v 5 = s 5 := upd_o rfl
  have eo : updV s 3 v 1 = s 1 := upd_o rfl
  have l4 : YInv.up L 3 4 = L 4 := up_o (by decide)
  have l5 : YInv.up L 3 5 = L 5 := up_o (by decide)
  have l6 : YInv.up L 3 6 = L 6 := up_o (by decide)
  have l7 : YInv.up L 3 7 = L 7 := up_o (by decide)
  have lo : YInv.up L 3 1 = L 1 := up_o (by decide)
  have ok : ∀ k, Ok4 (YInv.up L 3) (updV s 3 v) k ↔ Ok4 L s k := fun k => by unfold Ok4; rw [e4, e5, l4, l5]
  have hO : IsBigO w' v y (Ok4 (YInv.up L 3) (updV s 3 v)) := by
    obtain ⟨A, c, hv', hc, hV⟩ := hv
    refine ⟨A, c, hv', hc, Kd.V_mono hV (fun k hk => (ok k).2 ⟨fun h4 e => ?_, fun h5 e => ?_⟩)⟩
    · obtain ⟨g', hg, _, hlt, _⟩ := h.A4.1 h4
      have := ptr_inj (hg.symm.trans e)
      omega
    · obtain ⟨g', hg, _, hlt, _⟩ := h.A5.1 h5
      have := ptr_inj (hg.symm.trans e)
      omega
  have at_ : ∀ a st, At4 N a st 1 L s w → updV s 3 v a = s a → YInv.up L 3 a = L a → YInv.up L 3 st = L st → At4 N a st 1 (YInv.up L 3) (updV s 3 v) w' := by
    intro a st ⟨h1, h2⟩ ea la ls
    refine ⟨fun hh => ?_, fun hh => ?_⟩
    · rw [la] at hh
      obtain ⟨g', hg, hn, hlt, hz⟩ := h1 hh
      exact ⟨g', ea.trans hg, hn, Nat.lt_of_lt_of_le hlt g.size, fun hs => (hz (by rw [← ls]; exact hs)).keep g⟩
    · rw [ls] at hh
      obtain ⟨ha, hq, g', cs, hg, hc, hb⟩ := h2 hh
      exact ⟨la.trans ha, lo.trans hq, g', cs, ea.trans hg, eo.trans hc, hb.keep g⟩
  have at2 : ∀ a st, At4 N a st 3 L s w → updV s 3 v a = s a → YInv.up L 3 a = L a → YInv.up L 3 st = L st → At4 N a st 3 (YInv.up L 3) (updV s 3 v) w' := by
    intro a st ⟨h1, h2⟩ ea la ls
    refine ⟨fun hh => ?_, fun hh => ?_⟩
    · rw [la] at hh
      obtain ⟨g', hg, hn, hlt, hz⟩ := h1 hh
      exact ⟨g', ea.trans hg, hn, Nat.lt_of_lt_of_le hlt g.size, fun hs => (hz (by rw [← ls]; exact hs)).keep g⟩
    · rw [ls] at hh
      obtain ⟨ha, hq, _⟩ := h2 hh
      rw [hL] at hq; cases hq
  exact { K0 := h.K0.keep g, K1 := h.K1.keep g, B3 := fun _ => (updV_self s 3 v).symm ▸ hO, B1 := fun hh => eo.symm ▸ (h.B1 (lo ▸ hh)).below g (fun k hk => (ok k).2 hk), A5 := at2 5 7 h.A5 e5 l5 l7, A4 := at_ 4 6 h.A4 e4 l4 l6, D := fun h4 h5 => by rw [e4, e5]; exact h.D (l4 ▸ h4) (l5 ▸ h5), n0 := h.n0, n1 := h.n1, BN := Nat.le_trans h.BN g.size, BW := bb h.BW g }
/-- A new place. -/
theorem R4.new4 (h : R4 W N pa pb x y L s w) (hL : L 4 = false) : R4 W N pa pb x y (YInv.up L 4) (updV s 4 (ptr w.heap.size)) (w.alloc (.cells ZB 30)) := by
  have e1 : updV s 4 (ptr w.heap.size) 1 = s 1 := upd_o rfl
  have e3 : updV s 4 (ptr w.heap.size) 3 = s 3 := upd_o rfl
  have ea : updV s 4 (ptr w.heap.size) 5 = s 5 := upd_o rfl
  have es : updV s 4 (ptr w.heap.size) 4 = ptr w.heap.size := updV_self _ _ _
  have l1 : YInv.up L 4 1 = L 1 := up_o (by decide)
  have l3 : YInv.up L 4 3 = L 3 := up_o (by decide)
  have la : YInv.up L 4 5 = L 5 := up_o (by decide)
  have l6 : YInv.up L 4 6 = L 6 := up_o (by decide)
  have l7 : YInv.up L 4 7 = L 7 := up_o (by decide)
  have ls : YInv.up L 4 4 = true := up_s
  have g : Below w.heap.size w (w.alloc (.cells ZB 30)) := (Below.refl _ _).alloc (Nat.le_refl _) _
  have nst : L 6 = false := by
    cases e : L 6 with
    | false => rfl
    | true => have := (h.A4.2 e).1; rw [hL] at this; cases this
  have ok : ∀ k, Ok4 L s k → k < w.heap.size → Ok4 (YInv.up L 4) (updV s 4 (ptr w.heap.size)) k := fun k hk hlt => by
    unfold Ok4 at *
    refine ⟨fun h4 => ?_, fun h5 => ?_⟩
    · rw [es]; intro e; have := ptr_inj e; omega
    · rw [ea]; exact hk.2 (la ▸ h5)
  refine { K0 := h.K0.keep g, K1 := h.K1.keep g, B1 := fun hh => e1.symm ▸ (h.B1 (l1 ▸ hh)).alloc _ ok, B3 := fun hh => e3.symm ▸ (h.B3 (l3 ▸ hh)).alloc _ ok, A4 := ⟨fun _ => ⟨w.heap.size, es, h.BN, by simp, fun _ => Blk.new _ _ _⟩, fun hh => ?zs⟩, A5 := ⟨fun hh => ?za, fun hh => ?zb⟩, D := ?zd, n0 := h.n0, n1 := h.n1, BN := Nat.le_trans h.BN g.size, BW := bb h.BW g }
  case zs => rw [l6, nst] at hh; cases hh
  case za =>
    rw [la] at hh
    obtain ⟨g', hg, hn, hlt, hz⟩ := h.A5.1 hh
    exact ⟨g', ea.trans hg, hn, Nat.lt_of_lt_of_le hlt g.size, fun hs => (hz (by rw [← l7]; exact hs)).keep g⟩
  case zb =>
    rw [l7] at hh
    obtain ⟨ha, hq, g', cs, hg, hc, hb⟩ := h.A5.2 hh
    exact ⟨la.trans ha, l3.trans hq, g', cs, ea.trans hg, e3.trans hc, hb.keep g⟩
  case zd =>
    intro h4 h5 e
    rw [es, ea] at e; obtain ⟨g', hg, _, hlt, _⟩ := h.A5.1 (la ▸ h5); have := ptr_inj (e.trans hg); omega
/-- A number is laid into its place. -/
theorem R4.set4 (hW : W.heap.size ≤ N) (h : R4 W N pa pb x y L s w) (hL : L 6 = false) (ha : L 4 = true) (hq : L 1 = true) {g : Nat} {cs : Array Value} (hg : s 4 = ptr g) (hc : s 1 = .agg cs) : R4 W N pa pb x y (YInv.up L 6) s (w.setRow g cs) := by
  have l1 : YInv.up L 6 1 = L 1 := up_o (by decide)
  have l3 : YInv.up L 6 3 = L 3 := up_o (by decide)
  have l4 : YInv.up L 6 4 = L 4 := up_o (by decide)
  have l5 : YInv.up L 6 5 = L 5 := up_o (by decide)
  have lt : YInv.up L 6 7 = L 7 := up_o (by decide)
  have ls : YInv.up L 6 6 = true := up_s
  obtain ⟨g', hg', hn, hlt, hz⟩ := h.A4.1 ha
  obtain rfl := ptr_inj (hg'.symm.trans hg)
  have kZ := hz hL
  have okg : ∀ k, Ok4 L s k → k ≠ g' := fun k hk e => by subst e; exact hk.1 ha hg
  have ok : ∀ k, Ok4 L s k → Ok4 (YInv.up L 6) s k := fun k hk => by unfold Ok4 at *; rw [l4, l5]; exact hk
  have hz' := h.BW.size
  have wn : W.heap.size ≤ g' ∨ True := .inr trivial
  have sz : (w.setRow g' cs).heap.size = w.heap.size := by simp
  refine { K0 := far_ h.K0 (by have := h.n0; omega), K1 := far_ h.K1 (by have := h.n1; omega), B1 := fun hh => (h.B1 (l1 ▸ hh)).row okg ok, B3 := fun hh => (h.B3 (l3 ▸ hh)).row okg ok, A4 := ⟨fun _ => ⟨g', hg, hn, by rw [sz]; exact hlt, fun hs => by rw [ls] at hs; cases hs⟩, fun _ => ⟨l4.trans ha, l1.trans hq, g', cs, hg, hc, put_ kZ⟩⟩, A5 := ⟨fun hh => ?za, fun hh => ?zb⟩, D := fun h4 h5 => h.D (l4 ▸ h4) (l5 ▸ h5), n0 := h.n0, n1 := h.n1, BN := by rw [sz]; exact h.BN, BW := below_row h.BW (Nat.le_trans hW hn) _ }
  case za =>
    rw [l5] at hh
    obtain ⟨g2, hg2, hn2, hlt2, hz2⟩ := h.A5.1 hh
    have ne : g2 ≠ g' := fun e => by subst e; exact h.D ha hh (hg.trans hg2.symm)
    exact ⟨g2, hg2, hn2, by rw [sz]; exact hlt2, fun hs => far_ (hz2 (by rw [← lt]; exact hs)) ne⟩
  case zb =>
    rw [lt] at hh
    obtain ⟨ha2, hq2, g2, cs2, hg2, hc2, hb2⟩ := h.A5.2 hh
    have ne : g2 ≠ g' := fun e => by subst e; exact h.D ha ha2 (hg.trans hg2.symm)
    exact ⟨l5.trans ha2, l3.trans hq2, g2, cs2, hg2, hc2, far_ hb2 ne⟩
/-- A new place. -/
theorem R4.new5 (h : R4 W N pa pb x y L s w) (hL : L 5 = false) : R4 W N pa pb x y (YInv.up L 5) (updV s 5 (ptr w.heap.size)) (w.alloc (.cells ZB 30)) := by
  have e1 : updV s 5 (ptr w.heap.size) 1 = s 1 := upd_o rfl
  have e3 : updV s 5 (ptr w.heap.size) 3 = s 3 := upd_o rfl
  have ea : updV s 5 (ptr w.heap.size) 4 = s 4 := upd_o rfl
  have es : updV s 5 (ptr w.heap.size) 5 = ptr w.heap.size := updV_self _ _ _
  have l1 : YInv.up L 5 1 = L 1 := up_o (by decide)
  have l3 : YInv.up L 5 3 = L 3 := up_o (by decide)
  have la : YInv.up L 5 4 = L 4 := up_o (by decide)
  have l6 : YInv.up L 5 6 = L 6 := up_o (by decide)
  have l7 : YInv.up L 5 7 = L 7 := up_o (by decide)
  have ls : YInv.up L 5 5 = true := up_s
  have g : Below w.heap.size w (w.alloc (.cells ZB 30)) := (Below.refl _ _).alloc (Nat.le_refl _) _
  have nst : L 7 = false := by
    cases e : L 7 with
    | false => rfl
    | true => have := (h.A5.2 e).1; rw [hL] at this; cases this
  have ok : ∀ k, Ok4 L s k → k < w.heap.size → Ok4 (YInv.up L 5) (updV s 5 (ptr w.heap.size)) k := fun k hk hlt => by
    unfold Ok4 at *
    refine ⟨fun h4 => ?_, fun h5 => ?_⟩
    · rw [ea]; exact hk.1 (la ▸ h4)
    · rw [es]; intro e; have := ptr_inj e; omega
  refine { K0 := h.K0.keep g, K1 := h.K1.keep g, B1 := fun hh => e1.symm ▸ (h.B1 (l1 ▸ hh)).alloc _ ok, B3 := fun hh => e3.symm ▸ (h.B3 (l3 ▸ hh)).alloc _ ok, A5 := ⟨fun _ => ⟨w.heap.size, es, h.BN, by simp, fun _ => Blk.new _ _ _⟩, fun hh => ?zs⟩, A4 := ⟨fun hh => ?za, fun hh => ?zb⟩, D := ?zd, n0 := h.n0, n1 := h.n1, BN := Nat.le_trans h.BN g.size, BW := bb h.BW g }
  case zs => rw [l7, nst] at hh; cases hh
  case za =>
    rw [la] at hh
    obtain ⟨g', hg, hn, hlt, hz⟩ := h.A4.1 hh
    exact ⟨g', ea.trans hg, hn, Nat.lt_of_lt_of_le hlt g.size, fun hs => (hz (by rw [← l6]; exact hs)).keep g⟩
  case zb =>
    rw [l6] at hh
    obtain ⟨ha, hq, g', cs, hg, hc, hb⟩ := h.A4.2 hh
    exact ⟨la.trans ha, l1.trans hq, g', cs, ea.trans hg, e1.trans hc, hb.keep g⟩
  case zd =>
    intro h4 h5 e
    rw [es, ea] at e; obtain ⟨g', hg, _, hlt, _⟩ := h.A4.1 (la ▸ h4); have := ptr_inj (e.symm.trans hg); omega
/-- A number is laid into its place. -/
theorem R4.set5 (hW : W.heap.size ≤ N) (h : R4 W N pa pb x y L s w) (hL : L 7 = false) (ha : L 5 = true) (hq : L 3 = true) {g : Nat} {cs : Array Value} (hg : s 5 = ptr g) (hc : s 3 = .agg cs) : R4 W N pa pb x y (YInv.up L 7) s (w.setRow g cs) := by
  have l1 : YInv.up L 7 1 = L 1 := up_o (by decide)
  have l3 : YInv.up L 7 3 = L 3 := up_o (by decide)
  have l4 : YInv.up L 7 4 = L 4 := up_o (by decide)
  have l5 : YInv.up L 7 5 = L 5 := up_o (by decide)
  have lt : YInv.up L 7 6 = L 6 := up_o (by decide)
  have ls : YInv.up L 7 7 = true := up_s
  obtain ⟨g', hg', hn, hlt, hz⟩ := h.A5.1 ha
  obtain rfl := ptr_inj (hg'.symm.trans hg)
  have kZ := hz hL
  have okg : ∀ k, Ok4 L s k → k ≠ g' := fun k hk e => by subst e; exact hk.2 ha hg
  have ok : ∀ k, Ok4 L s k → Ok4 (YInv.up L 7) s k := fun k hk => by unfold Ok4 at *; rw [l4, l5]; exact hk
  have hz' := h.BW.size
  have wn : W.heap.size ≤ g' ∨ True := .inr trivial
  have sz : (w.setRow g' cs).heap.size = w.heap.size := by simp
  refine { K0 := far_ h.K0 (by have := h.n0; omega), K1 := far_ h.K1 (by have := h.n1; omega), B1 := fun hh => (h.B1 (l1 ▸ hh)).row okg ok, B3 := fun hh => (h.B3 (l3 ▸ hh)).row okg ok, A5 := ⟨fun _ => ⟨g', hg, hn, by rw [sz]; exact hlt, fun hs => by rw [ls] at hs; cases hs⟩, fun _ => ⟨l5.trans ha, l3.trans hq, g', cs, hg, hc, put_ kZ⟩⟩, A4 := ⟨fun hh => ?za, fun hh => ?zb⟩, D := fun h4 h5 => h.D (l4 ▸ h4) (l5 ▸ h5), n0 := h.n0, n1 := h.n1, BN := by rw [sz]; exact h.BN, BW := below_row h.BW (Nat.le_trans hW hn) _ }
  case za =>
    rw [l4] at hh
    obtain ⟨g2, hg2, hn2, hlt2, hz2⟩ := h.A4.1 hh
    have ne : g2 ≠ g' := fun e => by subst e; exact h.D hh ha (hg2.trans hg.symm)
    exact ⟨g2, hg2, hn2, by rw [sz]; exact hlt2, fun hs => far_ (hz2 (by rw [← lt]; exact hs)) ne⟩
  case zb =>
    rw [lt] at hh
    obtain ⟨ha2, hq2, g2, cs2, hg2, hc2, hb2⟩ := h.A4.2 hh
    have ne : g2 ≠ g' := fun e => by subst e; exact h.D ha2 ha (hg2.trans hg.symm)
    exact ⟨l4.trans ha2, l1.trans hq2, g2, cs2, hg2, hc2, far_ hb2 ne⟩
theorem R4.congr {L' : Nat → Bool} (l1 : L 1 = L' 1) (l3 : L 3 = L' 3) (l4 : L 4 = L' 4) (l5 : L 5 = L' 5) (l6 : L 6 = L' 6) (l7 : L 7 = L' 7) (h : R4 W N pa pb x y L s w) : R4 W N pa pb x y L' s w := by
  have ok : ∀ k, Ok4 L' s k ↔ Ok4 L s k := fun k => by unfold Ok4; rw [l4, l5]
  have ok' : Ok4 L' s = Ok4 L s := funext fun k => propext (ok k)
  exact { K0 := h.K0, K1 := h.K1, B1 := fun hh => ok' ▸ h.B1 (l1 ▸ hh), B3 := fun hh => ok' ▸ h.B3 (l3 ▸ hh), A4 := by have := h.A4; unfold At4 at *; rwa [← l4, ← l6, ← l1], A5 := by have := h.A5; unfold At4 at *; rwa [← l5, ← l7, ← l3], D := fun h4 h5 => h.D (l4 ▸ h4) (l5 ▸ h5), n0 := h.n0, n1 := h.n1, BN := h.BN, BW := h.BW }
theorem R4.start (k0 : Blk w pa (U (lim x)) 27) (k1 : Blk w pb (U (lim y)) 27) (b : Below W.heap.size W w) : R4 W w.heap.size pa pb x y (fun _ => false) (fun _ => undef) w.drew :=
  { K0 := k0.drew, K1 := k1.drew, B1 := fun h => absurd h (by decide), B3 := fun h => absurd h (by decide), A4 := ⟨fun h => absurd h (by decide), fun h => absurd h (by decide)⟩, A5 := ⟨fun h => absurd h (by decide), fun h => absurd h (by decide)⟩, D := fun h => absurd h (by decide), n0 := k0.lt, n1 := k1.lt, BN := Nat.le_refl _, BW := b.drew }
/-- A number is laid into a new place; all else is as it was. -/
theorem new1g (b : Below W.heap.size W w) (x : List Int) : ∀ w0 w', w0 = w.alloc (.cells #[.int .u64 0, .int .u64 0, .int .u64 0, .int .u64 0, .int .u64 0, .int .u64 0, .int .u64 0, .int .u64 0, .int .u64 0, .int .u64 0, .int .u64 0, .int .u64 0, .int .u64 0, .int .u64 0, .int .u64 0, .int .u64 0] 27) → w' = w0.setRow w.heap.size (U x) →
    Blk w0 w.heap.size (U zeros) 27 ∧ Blk w' w.heap.size (U x) 27 ∧ Below W.heap.size W w' ∧ (∀ g c T, Blk w g c T → Blk w' g c T) ∧ Below w.heap.size w w' := by
  rintro w0 w' rfl rfl
  have k : Blk (w.alloc (.cells #[.int .u64 0, .int .u64 0, .int .u64 0, .int .u64 0, .int .u64 0, .int .u64 0, .int .u64 0, .int .u64 0, .int .u64 0, .int .u64 0, .int .u64 0, .int .u64 0, .int .u64 0, .int .u64 0, .int .u64 0, .int .u64 0] 27)) w.heap.size (U zeros) 27 := Blk.new w (U zeros) 27
  exact ⟨k, put_ k, below_row (b.alloc b.size _) b.size _, fun g c T h => far_ (h.alloc _) (Nat.ne_of_lt h.lt), below_row ((Below.refl _ _).alloc (Nat.le_refl _) _) (Nat.le_refl _) _⟩
end
end Go.Proofs.Ytpdljoalfmgfiaa.YWide
namespace Go.Proofs.Ytpdljoalfmgfiaa.YWide
open Go.RowKit Go.Proofs.Ytpdljoalfmgfiaa.YInv Go.Proofs.Ytpdljoalfmgfiaa.YErr Go.Proofs.Ytpdljoalfmgfiaa.YRef Go.Proofs.Ytpdljoalfmgfiaa.YNum Go.Proofs.Ytpdljoalfmgfiaa.YBits Go.Proofs.Ytpdljoalfmgfiaa.XCarry Go.Proofs.Ytpdljoalfmgfiaa.QWd Go.Proofs.YtpdljoalfmgfiaaW.PrintWords Go.Proofs.YtpdljoalfmgfiaaW.PrintLast
open Go.Proofs.Ytpdljoalfmgfiaa.YBig (IsBig)
set_option linter.unusedVariables false
set_option linter.unusedSimpArgs false
theorem small_W {x : Int} (h : InW x) : Small x := by
  unfold InW at h
  unfold Small
  have : (18446744073709551616 : Int) ^ 40 = 18446744073709551616 ^ 16 * 18446744073709551616 ^ 24 := by rw [← Int.pow_add]
  rw [this]
  have := pw_pos 24
  have p := pw_pos 16
  have := Int.mul_le_mul_of_nonneg_left this (show (0 : Int) ≤ 18446744073709551616 ^ 16 by omega)
  omega
theorem nat_W {x : Int} (h : InW x) : x.natAbs ≤ 18446744073709551616 ^ 16 := by
  unfold InW at h
  have e : ((18446744073709551616 ^ 16 : Nat) : Int) = (18446744073709551616 : Int) ^ 16 := by simp
  omega
theorem small_nat {x : Int} (h : x.natAbs < 18446744073709551616 ^ 40) : Small x := by
  unfold Small
  have e : ((18446744073709551616 ^ 40 : Nat) : Int) = (18446744073709551616 : Int) ^ 40 := by simp
  omega
theorem small_add {x y : Int} (h : InW x) (g : InW y) : Small (x + y) := small_nat (by have := nat_W h; have := nat_W g; omega)
theorem small_sub {x y : Int} (h : InW x) (g : InW y) : Small (x - y) := small_nat (by have := nat_W h; have := nat_W g; omega)
theorem small_mul {x y : Int} (h : InW x) (g : InW y) : Small (x * y) := small_nat (by
  rw [Int.natAbs_mul]
  exact Nat.lt_of_le_of_lt (Nat.mul_le_mul (nat_W h) (nat_W g)) (by decide +kernel))
set_option maxRecDepth 100000 in
set_option maxHeartbeats 32000000 in
theorem WideSums_calls (A0 : Option Addr) (c0 : Nat) (l0 : List Int) (A1 : Option Addr) (c1 : Nat) (l1 : List Int) (n p k j : Int) (ng mg : Bool) (w : World) (y0 : l0.length ≤ c0) (z0 : c0 ≤ maxLen) (wl0 : ∀ n ∈ l0, (Lit.int .u64 n).wf = true) (hl0 : LiesK .u64 w A0 l0) (y1 : l1.length ≤ c1) (z1 : c1 ≤ maxLen) (wl1 : ∀ n ∈ l1, (Lit.int .u64 n).wf = true) (hl1 : LiesK .u64 w A1 l1) (wn0 : (Lit.int .u16 n).wf = true) (wp0 : (Lit.int .u16 p).wf = true) (wk : (Lit.int .u8 k).wf = true) (wj : (Lit.int .u8 j).wf = true) : Calls Try.prog 3 #[.slice A0 l0.length c0, .slice A1 l1.length c1, .int .u16 n, .int .u16 p, .int .u8 k, .int .u8 j, .bool ng, .bool mg] w fun e w' => e = .returned (.bool true) ∧ Below w.heap.size w w' := by
  have d0 := dig_wf wl0
  have m0 : l0.length ≤ 9223372036854775807 := by unfold maxLen at z0; omega
  have d1 := dig_wf wl1
  have m1 : l1.length ≤ 9223372036854775807 := by unfold maxLen at z1; omega
  obtain ⟨n0, n1⟩ := wf_u16' wn0
  obtain ⟨p0, p1⟩ := wf_u16' wp0
  obtain ⟨k0, k1⟩ := wf_u8' wk
  obtain ⟨j0, j1⟩ := wf_u8' wj
  have HA := fun (W : World) (h : LiesK .u64 W A0 l0) => made_all (c := c0) h d0 m0 n n0 n1 ng k k0 k1
  have HB := fun (W : World) (h : LiesK .u64 W A1 l1) => made_all (c := c1) h d1 m1 p p0 p1 mg j j0 j1
  have KN := fun W => known_c W
  have b0 := Below.refl w.heap.size w
  clear wl0 wl1 wn0 wp0 wk wj d0 d1 n0 n1 p0 p1 k0 k1 j0 j1
  go_enter Try.func3, Try.ntmps3
  go_wp2_with fail
  refine (KN _).mono ?_; rintro e w1 ⟨rfl, g⟩
  have b1 := bb b0 g
  clear g b0
  go_wp2_with fail
  refine (HA _ (hl0.keep b1)).mono ?_; rintro e w2 ⟨a, ia, rfl, g⟩
  have b2 := bb b1 g
  clear g b1
  go_wp2_with fail
  refine (HB _ (hl1.keep b2)).mono ?_; rintro e w3 ⟨b, ib, rfl, g⟩
  have b3 := bb b2 g
  clear g b2
  clear HA HB KN
  have la := lim_len a
  have lb := lim_len b
  obtain ⟨t0, t1, k4_0, k4_1, b4, up⟩ := new2 b3 (lim a) (lim b) _ _ _ rfl rfl rfl
  have z4 := b3.size
  go_upto_region 4 with (first | (with_reducible refine ldW k4_0 la _ (by with_unfolding_all rfl) (by with_unfolding_all rfl) (by with_unfolding_all rfl) ?_) | (with_reducible refine ldW k4_1 lb _ (by with_unfolding_all rfl) (by with_unfolding_all rfl) (by with_unfolding_all rfl) ?_) | go_skip | (with_reducible refine ldWg k4_0 la _ (by with_unfolding_all rfl) (by with_unfolding_all rfl) (by kernel_rfl) ?_) | (with_reducible refine ldWg k4_1 lb _ (by with_unfolding_all rfl) (by with_unfolding_all rfl) (by kernel_rfl) ?_) | (with_reducible refine stW t0 zeros_len la _ _ (by with_unfolding_all rfl) (by with_unfolding_all rfl) (by with_unfolding_all rfl) (by with_unfolding_all rfl) ?_) | (with_reducible refine stW t1 zeros_len lb _ _ (by with_unfolding_all rfl) (by with_unfolding_all rfl) (by with_unfolding_all rfl) (by with_unfolding_all rfl) ?_))
  clear up t0 t1 b3
  generalize (((w3.alloc (.cells #[.int .u64 0, .int .u64 0, .int .u64 0, .int .u64 0, .int .u64 0, .int .u64 0, .int .u64 0, .int .u64 0, .int .u64 0, .int .u64 0, .int .u64 0, .int .u64 0, .int .u64 0, .int .u64 0, .int .u64 0, .int .u64 0] 27)).alloc (.cells #[.int .u64 0, .int .u64 0, .int .u64 0, .int .u64 0, .int .u64 0, .int .u64 0, .int .u64 0, .int .u64 0, .int .u64 0, .int .u64 0, .int .u64 0, .int .u64 0, .int .u64 0, .int .u64 0, .int .u64 0, .int .u64 0] 27)).setRow w3.heap.size (U (lim a))).setRow (w3.heap.size + 1) (U (lim b)) = w4 at *
  have hWN := b4.size
  refine region_vals (σ := Nat → Value) [some 39, some 40, some 41, some 42, some 19, some 20, none, none] (VB [some (.agg (U (lim a))), none, some (.agg (U (lim b))), none, none, none, some undef, some undef]) (fun L s wx => R4 w w4.heap.size w3.heap.size (w3.heap.size + 1) a b L s wx) (fun _ => undef) [0, 1, 2, 3, 4, 5, 6, 7] _ _ rfl (by kernel_rfl) (by kernel_rfl) (by kernel_rfl) (by kernel_rfl) (by kernel_rfl) (R4.start k4_0 k4_1 b4) ?steps4 ?fin4 (fun L L' s wx e h => R4.congr (e 1 (by decide)) (e 3 (by decide)) (e 4 (by decide)) (e 5 (by decide)) (e 6 (by decide)) (e 7 (by decide)) h)
  case steps4 =>
    refine VSteps.cons rfl (fun x L s wx K kn hL hp hI hK => ?_) ?_
    · refine want_ rfl ?_
      have e1 : x[17]? = some (.pointer (some ⟨w3.heap.size, 0, none⟩)) := (kn.old 17 (by kernel_rfl)).trans rfl
      exact wp_load_row 27 _ rfl w3.heap.size (ev_ e1) 27 (U (lim a)) (0, 0) _ hI.K0 Try.underlying27 rfl (ofLen la) (hK.out s _ (fun _ _ => rfl) (R4.congr (L := L) (L' := YInv.up L 0) rfl rfl rfl rfl rfl rfl hI))
    refine VSteps.cons rfl (fun x L s wx K kn hL hp hI hK => ?_) ?_
    · refine want_ rfl ?_
      have e1 : x[39]? = some (.agg (U (lim a))) := kn.got 0 39 (hp ⟨0, .data⟩ (by simp) rfl) rfl
      refine goesK_ Try.func12 (by kernel_rfl) rfl #[.agg (U (lim a))] rfl (by simp only [List.map_toArray, List.map_cons, List.map_nil, ev_ e1]) ((From_o ia _).mono ?_)
      rintro e w' ⟨v, rfl, hv, g⟩
      exact ⟨_, rfl, hK.out (updV s 1 v) _ (VB_upd _ _ _ hL) (hI.call1 hL hv g)⟩
    refine VSteps.cons rfl (fun x L s wx K kn hL hp hI hK => ?_) ?_
    · refine want_ rfl ?_
      have e1 : x[18]? = some (.pointer (some ⟨(w3.heap.size + 1), 0, none⟩)) := (kn.old 18 (by kernel_rfl)).trans rfl
      exact wp_load_row 27 _ rfl (w3.heap.size + 1) (ev_ e1) 27 (U (lim b)) (0, 0) _ hI.K1 Try.underlying27 rfl (ofLen lb) (hK.out s _ (fun _ _ => rfl) (R4.congr (L := L) (L' := YInv.up L 2) rfl rfl rfl rfl rfl rfl hI))
    refine VSteps.cons rfl (fun x L s wx K kn hL hp hI hK => ?_) ?_
    · refine want_ rfl ?_
      have e1 : x[41]? = some (.agg (U (lim b))) := kn.got 2 41 (hp ⟨2, .data⟩ (by simp) rfl) rfl
      refine goesK_ Try.func12 (by kernel_rfl) rfl #[.agg (U (lim b))] rfl (by simp only [List.map_toArray, List.map_cons, List.map_nil, ev_ e1]) ((From_o ib _).mono ?_)
      rintro e w' ⟨v, rfl, hv, g⟩
      exact ⟨_, rfl, hK.out (updV s 3 v) _ (VB_upd _ _ _ hL) (hI.call3 hL hv g)⟩
    refine VSteps.cons rfl (fun x L s wx K kn hL hp hI hK => ?_) ?_
    · refine want_ rfl ?_
      exact valw_ (v := ptr wx.heap.size) (w' := wx.alloc (.cells ZB 30)) (by simp [go_sem, execOp, evr_, ptr, ZB]) (hK.out (updV s 4 (ptr wx.heap.size)) _ (VB_upd _ _ _ hL) (hI.new4 hL))
    refine VSteps.cons rfl (fun x L s wx K kn hL hp hI hK => ?_) ?_
    · refine want_ rfl ?_
      exact valw_ (v := ptr wx.heap.size) (w' := wx.alloc (.cells ZB 30)) (by simp [go_sem, execOp, evr_, ptr, ZB]) (hK.out (updV s 5 (ptr wx.heap.size)) _ (VB_upd _ _ _ hL) (hI.new5 hL))
    refine VSteps.cons rfl (fun x L s wx K kn hL hp hI hK => ?_) ?_
    · refine want_ rfl ?_
      have la := (hp ⟨4, .data⟩ (by simp) rfl)
      have lq := (hp ⟨1, .data⟩ (by simp) rfl)
      have e1 : x[19]? = some (s 4) := kn.got 4 19 la rfl
      have e2 : x[40]? = some (s 1) := kn.got 1 40 lq rfl
      obtain ⟨g, hg, hn, hlt, hz⟩ := hI.A4.1 la
      obtain ⟨A, c, hv, hc, hV⟩ := hI.B1 lq
      have kz := hz hL
      have e1' := e1
      have e2' := e2
      rw [hg] at e1'
      rw [hv] at e2'
      exact wp_store_row 30 _ _ rfl g _ (ev_ e1') (ev_ e2') 30 ZB kz YWide.info_big (by rfl) (by simp [Value.oneCell']) (hK.out s _ (fun _ _ => rfl) (hI.set4 hWN hL la lq hg hv))
    refine VSteps.cons rfl (fun x L s wx K kn hL hp hI hK => ?_) ?_
    · refine want_ rfl ?_
      have la := (hp ⟨5, .data⟩ (by simp) rfl)
      have lq := (hp ⟨3, .data⟩ (by simp) rfl)
      have e1 : x[20]? = some (s 5) := kn.got 5 20 la rfl
      have e2 : x[42]? = some (s 3) := kn.got 3 42 lq rfl
      obtain ⟨g, hg, hn, hlt, hz⟩ := hI.A5.1 la
      obtain ⟨A, c, hv, hc, hV⟩ := hI.B3 lq
      have kz := hz hL
      have e1' := e1
      have e2' := e2
      rw [hg] at e1'
      rw [hv] at e2'
      exact wp_store_row 30 _ _ rfl g _ (ev_ e1') (ev_ e2') 30 ZB kz YWide.info_big (by rfl) (by simp [Value.oneCell']) (hK.out s _ (fun _ _ => rfl) (hI.set5 hWN hL la lq hg hv))
    exact VSteps.nil
  case fin4 =>
    intro s wx hI
    simp only [puts, VB, List.getD_cons_zero, List.getD_cons_succ, List.set_cons_zero, List.set_cons_succ]
    obtain ⟨_, _, g4, cs4, h4, h1, kp⟩ := hI.A4.2 rfl
    obtain ⟨_, _, g5, cs5, h5, h3, kq⟩ := hI.A5.2 rfl
    have jp := (hI.B1 rfl).is
    have jq := (hI.B3 rfl).is
    obtain ⟨sz4, sz5⟩ : cs4.size = 2 ∧ cs5.size = 2 := by
      obtain ⟨A, c, e, _⟩ := jp
      obtain ⟨A', c', e', _⟩ := jq
      rw [h1] at e
      rw [h3] at e'
      injection e with e
      injection e' with e'
      exact ⟨by rw [e]; rfl, by rw [e']; rfl⟩
    have k40 := hI.K0
    have k41 := hI.K1
    have b40 := hI.BW
    rw [h1] at jp
    rw [h3] at jq
    rw [h4, h5, h1, h3]
    unfold ptr
    clear hI h1 h3 h4 h5 k4_0 k4_1 b4 hWN
    generalize wx = w40 at *
    have lx := lim_len (cl (a + b))
    have AD := fun W => Add_c ia ib W
    go_wp2_with (first | (with_reducible refine ldW k40 la _ (by with_unfolding_all rfl) (by with_unfolding_all rfl) (by with_unfolding_all rfl) ?_) | (with_reducible refine ldW k41 lb _ (by with_unfolding_all rfl) (by with_unfolding_all rfl) (by with_unfolding_all rfl) ?_) | go_skip | (with_reducible refine ldWg k40 la _ (by with_unfolding_all rfl) (by with_unfolding_all rfl) (by kernel_rfl) ?_) | (with_reducible refine ldWg k41 lb _ (by with_unfolding_all rfl) (by with_unfolding_all rfl) (by kernel_rfl) ?_))
    refine (AD _).mono ?_; rintro e w41 ⟨rfl, g⟩
    replace k40 := k40.keep g
    replace k41 := k41.keep g
    replace kp := kp.keep g
    replace jp := jp.below g
    replace kq := kq.keep g
    replace jq := jq.below g
    have b41 := bb b40 g
    clear g b40
    obtain ⟨t0, k42_0, b42, up, bn⟩ := new1g b41 (lim (cl (a + b))) _ _ rfl rfl
    replace k40 := up _ _ _ k40
    replace k41 := up _ _ _ k41
    replace kp := up _ _ _ kp
    replace jp := jp.below bn
    replace kq := up _ _ _ kq
    replace jq := jq.below bn
    go_upto_region 6 with (with_reducible refine stW t0 zeros_len lx _ _ (by with_unfolding_all rfl) (by with_unfolding_all rfl) (by with_unfolding_all rfl) (by with_unfolding_all rfl) ?_)
    clear up bn t0 b41
    generalize (w41.alloc (.cells #[.int .u64 0, .int .u64 0, .int .u64 0, .int .u64 0, .int .u64 0, .int .u64 0, .int .u64 0, .int .u64 0, .int .u64 0, .int .u64 0, .int .u64 0, .int .u64 0, .int .u64 0, .int .u64 0, .int .u64 0, .int .u64 0] 27)).setRow w41.heap.size (U (lim (cl (a + b)))) = w42 at *
    clear AD
    have ly := lim_len (cl (a - b))
    have SU := fun W => Sub_c ia ib W
    go_wp2_with (first | (with_reducible refine ldW k40 la _ (by with_unfolding_all rfl) (by with_unfolding_all rfl) (by with_unfolding_all rfl) ?_) | (with_reducible refine ldW k41 lb _ (by with_unfolding_all rfl) (by with_unfolding_all rfl) (by with_unfolding_all rfl) ?_) | (with_reducible refine ldW k42_0 lx _ (by with_unfolding_all rfl) (by with_unfolding_all rfl) (by with_unfolding_all rfl) ?_) | go_skip | (with_reducible refine ldWg k40 la _ (by with_unfolding_all rfl) (by with_unfolding_all rfl) (by kernel_rfl) ?_) | (with_reducible refine ldWg k41 lb _ (by with_unfolding_all rfl) (by with_unfolding_all rfl) (by kernel_rfl) ?_) | (with_reducible refine ldWg k42_0 lx _ (by with_unfolding_all rfl) (by with_unfolding_all rfl) (by kernel_rfl) ?_))
    refine (SU _).mono ?_; rintro e w43 ⟨rfl, g⟩
    replace k40 := k40.keep g
    replace k41 := k41.keep g
    replace k42_0 := k42_0.keep g
    replace kp := kp.keep g
    replace jp := jp.below g
    replace kq := kq.keep g
    replace jq := jq.below g
    have b43 := bb b42 g
    clear g b42
    obtain ⟨t0, k44_0, b44, up, bn⟩ := new1g b43 (lim (cl (a - b))) _ _ rfl rfl
    replace k40 := up _ _ _ k40
    replace k41 := up _ _ _ k41
    replace k42_0 := up _ _ _ k42_0
    replace kp := up _ _ _ kp
    replace jp := jp.below bn
    replace kq := up _ _ _ kq
    replace jq := jq.below bn
    go_upto_region 7 with (with_reducible refine stW t0 zeros_len ly _ _ (by with_unfolding_all rfl) (by with_unfolding_all rfl) (by with_unfolding_all rfl) (by with_unfolding_all rfl) ?_)
    clear up bn t0 b43
    generalize (w43.alloc (.cells #[.int .u64 0, .int .u64 0, .int .u64 0, .int .u64 0, .int .u64 0, .int .u64 0, .int .u64 0, .int .u64 0, .int .u64 0, .int .u64 0, .int .u64 0, .int .u64 0, .int .u64 0, .int .u64 0, .int .u64 0, .int .u64 0] 27)).setRow w43.heap.size (U (lim (cl (a - b)))) = w44 at *
    clear SU
    have lz := lim_len (cl (a * b))
    have MU := fun W => Mul_w ia ib W
    go_wp2_with (first | (with_reducible refine ldW k40 la _ (by with_unfolding_all rfl) (by with_unfolding_all rfl) (by with_unfolding_all rfl) ?_) | (with_reducible refine ldW k41 lb _ (by with_unfolding_all rfl) (by with_unfolding_all rfl) (by with_unfolding_all rfl) ?_) | (with_reducible refine ldW k42_0 lx _ (by with_unfolding_all rfl) (by with_unfolding_all rfl) (by with_unfolding_all rfl) ?_) | (with_reducible refine ldW k44_0 ly _ (by with_unfolding_all rfl) (by with_unfolding_all rfl) (by with_unfolding_all rfl) ?_) | go_skip | (with_reducible refine ldWg k40 la _ (by with_unfolding_all rfl) (by with_unfolding_all rfl) (by kernel_rfl) ?_) | (with_reducible refine ldWg k41 lb _ (by with_unfolding_all rfl) (by with_unfolding_all rfl) (by kernel_rfl) ?_) | (with_reducible refine ldWg k42_0 lx _ (by with_unfolding_all rfl) (by with_unfolding_all rfl) (by kernel_rfl) ?_) | (with_reducible refine ldWg k44_0 ly _ (by with_unfolding_all rfl) (by with_unfolding_all rfl) (by kernel_rfl) ?_))
    refine (MU _).mono ?_; rintro e w45 ⟨rfl, g⟩
    replace k40 := k40.keep g
    replace k41 := k41.keep g
    replace k42_0 := k42_0.keep g
    replace k44_0 := k44_0.keep g
    replace kp := kp.keep g
    replace jp := jp.below g
    replace kq := kq.keep g
    replace jq := jq.below g
    have b45 := bb b44 g
    clear g b44
    obtain ⟨t0, k46_0, b46, up, bn⟩ := new1g b45 (lim (cl (a * b))) _ _ rfl rfl
    replace k40 := up _ _ _ k40
    replace k41 := up _ _ _ k41
    replace k42_0 := up _ _ _ k42_0
    replace k44_0 := up _ _ _ k44_0
    replace kp := up _ _ _ kp
    replace jp := jp.below bn
    replace kq := up _ _ _ kq
    replace jq := jq.below bn
    go_upto_region 8 with (with_reducible refine stW t0 zeros_len lz _ _ (by with_unfolding_all rfl) (by with_unfolding_all rfl) (by with_unfolding_all rfl) (by with_unfolding_all rfl) ?_)
    clear up bn t0 b45
    generalize (w45.alloc (.cells #[.int .u64 0, .int .u64 0, .int .u64 0, .int .u64 0, .int .u64 0, .int .u64 0, .int .u64 0, .int .u64 0, .int .u64 0, .int .u64 0, .int .u64 0, .int .u64 0, .int .u64 0, .int .u64 0, .int .u64 0, .int .u64 0] 27)).setRow w45.heap.size (U (lim (cl (a * b)))) = w46 at *
    clear MU
    have sa := small_W ia
    have sb := small_W ib
    have s1 := small_add ia ib
    have s2 := small_sub ia ib
    have s3 := small_mul ia ib
    obtain ⟨t, ht⟩ := bits_ex ia
    have SWa := fun W => Sign_c ia W
    have SRa := fun W p (hp : IsBig W p a) => Go.Proofs.Ytpdljoalfmgfiaa.YBig.Sign_c hp
    have CW := fun W => Cmp_c ia ib W
    have CR := fun W p q (hp : IsBig W p a) (hq : IsBig W q b) => CmpR hp hq sa sb
    have TW := fun W => BitsW (W := W) ia ht
    have TR := fun W p (hp : IsBig W p a) => BitsR hp ia ht
    have RA := fun W p q (hp : IsBig W p a) (hq : IsBig W q b) => Go.Proofs.Ytpdljoalfmgfiaa.YBig.Add_c hp hq sa sb
    have RS := fun W p q (hp : IsBig W p a) (hq : IsBig W q b) => Go.Proofs.Ytpdljoalfmgfiaa.YBig.Sub_c hp hq sa sb
    have RM := fun W p q (hp : IsBig W p a) (hq : IsBig W q b) => Go.Proofs.Ytpdljoalfmgfiaa.YBig.Mul_c hp hq sa sb
    have FA := fun W p (hp : IsBig W p (a + b)) => fits_c hp s1
    have FS := fun W p (hp : IsBig W p (a - b)) => fits_c hp s2
    have FM := fun W p (hp : IsBig W p (a * b)) => fits_c hp s3
    clear ht sa sb s1 s2 s3 ia ib
    generalize decide (InW (a + b)) = o1 at *
    generalize decide (InW (a - b)) = o2 at *
    generalize decide (InW (a * b)) = o3 at *
    generalize (if a = 0 then (0 : Int) else if a < 0 then -1 else 1) = sg at *
    generalize cm a b = cc at *
    refine region_vals (σ := Nat → Value) [some 61, some 62, some 63, some 64, some 65, some 66, some 67, some 68, some 69, some 70, some 71, some 72, some 73, some 74, some 75, some 76, some 77, some 78, some 79, some 80, some 81, some 82, some 83, some 84, some 85, some 86, some 87, some 88, some 89, some 90, some 91, some 92, some 93, some 94, some 95, some 96, some 97, some 98, some 99, some 100, some 101, some 102, some 103, some 104, some 105, some 16] (VB [some (.agg (U (lim (cl (a + b))))), some (.bool o1), some (.agg cs4), some (.agg cs5), none, some (.bool true), some (.bool true), some (.agg (U (lim (cl (a - b))))), some (.bool o2), some (.agg cs4), some (.agg cs5), none, some (.bool true), some (.bool true), some (.bool true), some (.agg (U (lim (cl (a * b))))), some (.bool o3), some (.agg cs4), some (.agg cs5), none, some (.bool true), some (.bool true), some (.bool true), some (.agg (U (lim a))), some (.agg (U (lim b))), some (.int .i64 (cc)), some (.agg cs4), some (.agg cs5), some (.int .i64 (cc)), some (.bool true), some (.bool true), some (.bool true), some (.agg (U (lim a))), some (.int .i64 (sg)), some (.agg cs4), some (.int .i64 (sg)), some (.bool true), some (.bool true), some (.bool true), some (.agg (U (lim a))), some (.int .i64 ((t : Int))), some (.agg cs4), some (.int .i64 ((t : Int))), some (.bool true), some (.bool true), some (.bool true)]) (fun L s wx => Blk wx w3.heap.size (U (lim a)) 27 ∧ Blk wx (w3.heap.size + 1) (U (lim b)) 27 ∧ Blk wx w41.heap.size (U (lim (cl (a + b)))) 27 ∧ Blk wx w43.heap.size (U (lim (cl (a - b)))) 27 ∧ Blk wx w45.heap.size (U (lim (cl (a * b)))) 27 ∧ Blk wx g4 (cs4) 30 ∧ Blk wx g5 (cs5) 30 ∧ IsBig wx (.agg (cs4)) (a) ∧ IsBig wx (.agg (cs5)) (b) ∧ (L 4 = true → IsBig wx (s 4) (a + b)) ∧ (L 11 = true → IsBig wx (s 11) (a - b)) ∧ (L 19 = true → IsBig wx (s 19) (a * b)) ∧ Below w.heap.size w wx) (fun _ => undef) [0, 1, 2, 3, 4, 5, 6, 7, 8, 9, 10, 11, 12, 13, 14, 15, 16, 17, 18, 19, 20, 21, 22, 23, 24, 25, 26, 27, 28, 29, 30, 31, 32, 33, 34, 35, 36, 37, 38, 39, 40, 41, 42, 43, 44, 45] _ _ rfl (by kernel_rfl) (by kernel_rfl) (by kernel_rfl) (by kernel_rfl) (by kernel_rfl) ⟨k40.drew, k41.drew, k42_0.drew, k44_0.drew, k46_0.drew, kp.drew, kq.drew, jp.below (Below.refl _ _).drew, jq.below (Below.refl _ _).drew, fun h => absurd h (by decide), fun h => absurd h (by decide), fun h => absurd h (by decide), b46.drew⟩ ?steps8 ?fin8 (fun L L' s wx e h => by rw [e 4 (by decide), e 11 (by decide), e 19 (by decide)] at h; exact h)
    case steps8 =>
      refine VSteps.cons rfl (fun x L s wx K kn hL hp hI hK => ?_) ?_
      · have e21 : x[21]? = some (.pointer (some ⟨w41.heap.size, 0, none⟩)) := (kn.old 21 (by kernel_rfl)).trans rfl
        refine want_ rfl ?_
        obtain ⟨K0, K1, K2, K3, K4, K5, K6, I0, I1, B4, B11, B19, BW⟩ := hI
        exact wp_load_row 27 _ rfl w41.heap.size (ev_ e21) 27 (U (lim (cl (a + b)))) (0, 0) _ K2 Try.underlying27 rfl (ofLen lx) (hK.out s _ (fun _ _ => rfl) ⟨K0, K1, K2, K3, K4, K5, K6, I0, I1, B4, B11, B19, BW⟩)
      refine VSteps.cons rfl (fun x L s wx K kn hL hp hI hK => ?_) ?_
      · have e22 : x[22]? = some (.bool o1) := (kn.old 22 (by kernel_rfl)).trans rfl
        refine want_ rfl ?_
        exact val_ (v := .bool o1) (by simp [go_sem, execOp, evr_, e22]) (hK.out s _ (fun _ _ => rfl) hI)
      refine VSteps.cons rfl (fun x L s wx K kn hL hp hI hK => ?_) ?_
      · have e19 : x[19]? = some (.pointer (some ⟨g4, 0, none⟩)) := (kn.old 19 (by kernel_rfl)).trans rfl
        refine want_ rfl ?_
        obtain ⟨K0, K1, K2, K3, K4, K5, K6, I0, I1, B4, B11, B19, BW⟩ := hI
        exact wp_load_row 30 _ rfl g4 (ev_ e19) 30 (cs4) (0, 0) _ K5 Try.underlying30 rfl (by rw [sz4]; exact info_big) (hK.out s _ (fun _ _ => rfl) ⟨K0, K1, K2, K3, K4, K5, K6, I0, I1, B4, B11, B19, BW⟩)
      refine VSteps.cons rfl (fun x L s wx K kn hL hp hI hK => ?_) ?_
      · have e20 : x[20]? = some (.pointer (some ⟨g5, 0, none⟩)) := (kn.old 20 (by kernel_rfl)).trans rfl
        refine want_ rfl ?_
        obtain ⟨K0, K1, K2, K3, K4, K5, K6, I0, I1, B4, B11, B19, BW⟩ := hI
        exact wp_load_row 30 _ rfl g5 (ev_ e20) 30 (cs5) (0, 0) _ K6 Try.underlying30 rfl (by rw [sz5]; exact info_big) (hK.out s _ (fun _ _ => rfl) ⟨K0, K1, K2, K3, K4, K5, K6, I0, I1, B4, B11, B19, BW⟩)
      refine VSteps.cons rfl (fun x L s wx K kn hL hp hI hK => ?_) ?_
      · have e63 : x[63]? = some (.agg cs4) := kn.got 2 63 (hp ⟨2, .data⟩ (by simp) rfl) rfl
        have e64 : x[64]? = some (.agg cs5) := kn.got 3 64 (hp ⟨3, .data⟩ (by simp) rfl) rfl
        refine want_ rfl ?_
        obtain ⟨K0, K1, K2, K3, K4, K5, K6, I0, I1, B4, B11, B19, BW⟩ := hI
        refine goesK_ Try.func17 (by kernel_rfl) rfl #[.agg cs4, .agg cs5] rfl (by simp only [List.map_toArray, List.map_cons, List.map_nil, evr_, ev_ e63, ev_ e64]) ((RA _ _ _ I0 I1).mono ?_)
        rintro e w' ⟨v, rfl, hv, g⟩
        exact ⟨_, rfl, hK.out (updV s 4 v) _ (VB_upd _ _ _ hL) ⟨K0.keep g, K1.keep g, K2.keep g, K3.keep g, K4.keep g, K5.keep g, K6.keep g, I0.below g, I1.below g, fun _ => (by show IsBig w' (updV s 4 v 4) _; rw [updV_self]; exact hv), fun h => (by have h' := (show L 11 = true from h); show IsBig w' (updV s 4 v 11) _; rw [updV_ne _ _ (by decide)]; exact (B11 h').below g), fun h => (by have h' := (show L 19 = true from h); show IsBig w' (updV s 4 v 19) _; rw [updV_ne _ _ (by decide)]; exact (B19 h').below g), bb BW g⟩⟩
      refine VSteps.cons rfl (fun x L s wx K kn hL hp hI hK => ?_) ?_
      · have e61 : x[61]? = some (.agg (U (lim (cl (a + b))))) := kn.got 0 61 (hp ⟨0, .data⟩ (by simp) rfl) rfl
        have e62 : x[62]? = some (.bool o1) := kn.got 1 62 (hp ⟨1, .data⟩ (by simp) rfl) rfl
        have e65 : x[65]? = some (s 4) := kn.got 4 65 (hp ⟨4, .data⟩ (by simp) rfl) rfl
        refine want_ rfl ?_
        obtain ⟨K0, K1, K2, K3, K4, K5, K6, I0, I1, B4, B11, B19, BW⟩ := hI
        refine goesK_ Try.func16 (by kernel_rfl) rfl #[.agg (U (lim (cl (a + b)))), .bool o1, s 4] rfl (by simp only [List.map_toArray, List.map_cons, List.map_nil, evr_, ev_ e61, ev_ e62, ev_ e65]) ((FA _ _ (B4 (hp ⟨4, .data⟩ (by simp) rfl))).mono ?_)
        rintro e w' ⟨rfl, g⟩
        exact ⟨_, rfl, hK.out s _ (fun _ _ => rfl) ⟨K0.keep g, K1.keep g, K2.keep g, K3.keep g, K4.keep g, K5.keep g, K6.keep g, I0.below g, I1.below g, fun h => (B4 h).below g, fun h => (B11 h).below g, fun h => (B19 h).below g, bb BW g⟩⟩
      refine VSteps.cons rfl (fun x L s wx K kn hL hp hI hK => ?_) ?_
      · have e66 : x[66]? = some (.bool true) := kn.got 5 66 (hp ⟨5, .data⟩ (by simp) rfl) rfl
        refine want_ rfl ?_
        exact val_ (v := .bool true) (by simp [go_sem, execOp, evr_, e66]) (hK.out s _ (fun _ _ => rfl) hI)
      refine VSteps.cons rfl (fun x L s wx K kn hL hp hI hK => ?_) ?_
      · have e23 : x[23]? = some (.pointer (some ⟨w43.heap.size, 0, none⟩)) := (kn.old 23 (by kernel_rfl)).trans rfl
        refine want_ ((guard_ rfl rfl true (show x[67]? = some (.bool true) from kn.got 6 67 (hp ⟨6, .guard⟩ (by simp) rfl) rfl)).trans rfl) ?_
        obtain ⟨K0, K1, K2, K3, K4, K5, K6, I0, I1, B4, B11, B19, BW⟩ := hI
        exact wp_load_row 27 _ rfl w43.heap.size (ev_ e23) 27 (U (lim (cl (a - b)))) (0, 0) _ K3 Try.underlying27 rfl (ofLen ly) (hK.out s _ (fun _ _ => rfl) ⟨K0, K1, K2, K3, K4, K5, K6, I0, I1, B4, B11, B19, BW⟩)
      refine VSteps.cons rfl (fun x L s wx K kn hL hp hI hK => ?_) ?_
      · have e24 : x[24]? = some (.bool o2) := (kn.old 24 (by kernel_rfl)).trans rfl
        refine want_ ((guard_ rfl rfl true (show x[67]? = some (.bool true) from kn.got 6 67 (hp ⟨6, .guard⟩ (by simp) rfl) rfl)).trans rfl) ?_
        exact val_ (v := .bool o2) (by simp [go_sem, execOp, evr_, e24]) (hK.out s _ (fun _ _ => rfl) hI)
      refine VSteps.cons rfl (fun x L s wx K kn hL hp hI hK => ?_) ?_
      · have e19 : x[19]? = some (.pointer (some ⟨g4, 0, none⟩)) := (kn.old 19 (by kernel_rfl)).trans rfl
        refine want_ ((guard_ rfl rfl true (show x[67]? = some (.bool true) from kn.got 6 67 (hp ⟨6, .guard⟩ (by simp) rfl) rfl)).trans rfl) ?_
        obtain ⟨K0, K1, K2, K3, K4, K5, K6, I0, I1, B4, B11, B19, BW⟩ := hI
        exact wp_load_row 30 _ rfl g4 (ev_ e19) 30 (cs4) (0, 0) _ K5 Try.underlying30 rfl (by rw [sz4]; exact info_big) (hK.out s _ (fun _ _ => rfl) ⟨K0, K1, K2, K3, K4, K5, K6, I0, I1, B4, B11, B19, BW⟩)
      refine VSteps.cons rfl (fun x L s wx K kn hL hp hI hK => ?_) ?_
      · have e20 : x[20]? = some (.pointer (some ⟨g5, 0, none⟩)) := (kn.old 20 (by kernel_rfl)).trans rfl
        refine want_ ((guard_ rfl rfl true (show x[67]? = some (.bool true) from kn.got 6 67 (hp ⟨6, .guard⟩ (by simp) rfl) rfl)).trans rfl) ?_
        obtain ⟨K0, K1, K2, K3, K4, K5, K6, I0, I1, B4, B11, B19, BW⟩ := hI
        exact wp_load_row 30 _ rfl g5 (ev_ e20) 30 (cs5) (0, 0) _ K6 Try.underlying30 rfl (by rw [sz5]; exact info_big) (hK.out s _ (fun _ _ => rfl) ⟨K0, K1, K2, K3, K4, K5, K6, I0, I1, B4, B11, B19, BW⟩)
      refine VSteps.cons rfl (fun x L s wx K kn hL hp hI hK => ?_) ?_
      · have e70 : x[70]? = some (.agg cs4) := kn.got 9 70 (hp ⟨9, .data⟩ (by simp) rfl) rfl
        have e71 : x[71]? = some (.agg cs5) := kn.got 10 71 (hp ⟨10, .data⟩ (by simp) rfl) rfl
        refine want_ ((guard_ rfl rfl true (show x[67]? = some (.bool true) from kn.got 6 67 (hp ⟨6, .chain⟩ (by simp) rfl) rfl)).trans rfl) ?_
        obtain ⟨K0, K1, K2, K3, K4, K5, K6, I0, I1, B4, B11, B19, BW⟩ := hI
        refine goesK_ Try.func18 (by kernel_rfl) rfl #[.agg cs4, .agg cs5] rfl (by simp only [List.map_toArray, List.map_cons, List.map_nil, evr_, ev_ e70, ev_ e71]) ((RS _ _ _ I0 I1).mono ?_)
        rintro e w' ⟨v, rfl, hv, g⟩
        exact ⟨_, rfl, hK.out (updV s 11 v) _ (VB_upd _ _ _ hL) ⟨K0.keep g, K1.keep g, K2.keep g, K3.keep g, K4.keep g, K5.keep g, K6.keep g, I0.below g, I1.below g, fun h => (by have h' := (show L 4 = true from h); show IsBig w' (updV s 11 v 4) _; rw [updV_ne _ _ (by decide)]; exact (B4 h').below g), fun _ => (by show IsBig w' (updV s 11 v 11) _; rw [updV_self]; exact hv), fun h => (by have h' := (show L 19 = true from h); show IsBig w' (updV s 11 v 19) _; rw [updV_ne _ _ (by decide)]; exact (B19 h').below g), bb BW g⟩⟩
      refine VSteps.cons rfl (fun x L s wx K kn hL hp hI hK => ?_) ?_
      · have e68 : x[68]? = some (.agg (U (lim (cl (a - b))))) := kn.got 7 68 (hp ⟨7, .data⟩ (by simp) rfl) rfl
        have e69 : x[69]? = some (.bool o2) := kn.got 8 69 (hp ⟨8, .data⟩ (by simp) rfl) rfl
        have e72 : x[72]? = some (s 11) := kn.got 11 72 (hp ⟨11, .data⟩ (by simp) rfl) rfl
        refine want_ ((guard_ rfl rfl true (show x[67]? = some (.bool true) from kn.got 6 67 (hp ⟨6, .guard⟩ (by simp) rfl) rfl)).trans rfl) ?_
        obtain ⟨K0, K1, K2, K3, K4, K5, K6, I0, I1, B4, B11, B19, BW⟩ := hI
        refine goesK_ Try.func16 (by kernel_rfl) rfl #[.agg (U (lim (cl (a - b)))), .bool o2, s 11] rfl (by simp only [List.map_toArray, List.map_cons, List.map_nil, evr_, ev_ e68, ev_ e69, ev_ e72]) ((FS _ _ (B11 (hp ⟨11, .data⟩ (by simp) rfl))).mono ?_)
        rintro e w' ⟨rfl, g⟩
        exact ⟨_, rfl, hK.out s _ (fun _ _ => rfl) ⟨K0.keep g, K1.keep g, K2.keep g, K3.keep g, K4.keep g, K5.keep g, K6.keep g, I0.below g, I1.below g, fun h => (B4 h).below g, fun h => (B11 h).below g, fun h => (B19 h).below g, bb BW g⟩⟩
      refine VSteps.cons rfl (fun x L s wx K kn hL hp hI hK => ?_) ?_
      · have e67 : x[67]? = some (.bool true) := kn.got 6 67 (hp ⟨6, .data⟩ (by simp) rfl) rfl
        have e73 : x[73]? = some (.bool true) := kn.got 12 73 (hp ⟨12, .data⟩ (by simp) rfl) rfl
        refine want_ rfl ?_
        exact val_ (v := .bool true) (by simp [go_sem, execOp, evr_, e67, e73]) (hK.out s _ (fun _ _ => rfl) hI)
      refine VSteps.cons rfl (fun x L s wx K kn hL hp hI hK => ?_) ?_
      · have e74 : x[74]? = some (.bool true) := kn.got 13 74 (hp ⟨13, .data⟩ (by simp) rfl) rfl
        refine want_ rfl ?_
        exact val_ (v := .bool true) (by simp [go_sem, execOp, evr_, e74]) (hK.out s _ (fun _ _ => rfl) hI)
      refine VSteps.cons rfl (fun x L s wx K kn hL hp hI hK => ?_) ?_
      · have e25 : x[25]? = some (.pointer (some ⟨w45.heap.size, 0, none⟩)) := (kn.old 25 (by kernel_rfl)).trans rfl
        refine want_ ((guard_ rfl rfl true (show x[75]? = some (.bool true) from kn.got 14 75 (hp ⟨14, .guard⟩ (by simp) rfl) rfl)).trans rfl) ?_
        obtain ⟨K0, K1, K2, K3, K4, K5, K6, I0, I1, B4, B11, B19, BW⟩ := hI
        exact wp_load_row 27 _ rfl w45.heap.size (ev_ e25) 27 (U (lim (cl (a * b)))) (0, 0) _ K4 Try.underlying27 rfl (ofLen lz) (hK.out s _ (fun _ _ => rfl) ⟨K0, K1, K2, K3, K4, K5, K6, I0, I1, B4, B11, B19, BW⟩)
      refine VSteps.cons rfl (fun x L s wx K kn hL hp hI hK => ?_) ?_
      · have e26 : x[26]? = some (.bool o3) := (kn.old 26 (by kernel_rfl)).trans rfl
        refine want_ ((guard_ rfl rfl true (show x[75]? = some (.bool true) from kn.got 14 75 (hp ⟨14, .guard⟩ (by simp) rfl) rfl)).trans rfl) ?_
        exact val_ (v := .bool o3) (by simp [go_sem, execOp, evr_, e26]) (hK.out s _ (fun _ _ => rfl) hI)
      refine VSteps.cons rfl (fun x L s wx K kn hL hp hI hK => ?_) ?_
      · have e19 : x[19]? = some (.pointer (some ⟨g4, 0, none⟩)) := (kn.old 19 (by kernel_rfl)).trans rfl
        refine want_ ((guard_ rfl rfl true (show x[75]? = some (.bool true) from kn.got 14 75 (hp ⟨14, .guard⟩ (by simp) rfl) rfl)).trans rfl) ?_
        obtain ⟨K0, K1, K2, K3, K4, K5, K6, I0, I1, B4, B11, B19, BW⟩ := hI
        exact wp_load_row 30 _ rfl g4 (ev_ e19) 30 (cs4) (0, 0) _ K5 Try.underlying30 rfl (by rw [sz4]; exact info_big) (hK.out s _ (fun _ _ => rfl) ⟨K0, K1, K2, K3, K4, K5, K6, I0, I1, B4, B11, B19, BW⟩)
      refine VSteps.cons rfl (fun x L s wx K kn hL hp hI hK => ?_) ?_
      · have e20 : x[20]? = some (.pointer (some ⟨g5, 0, none⟩)) := (kn.old 20 (by kernel_rfl)).trans rfl
        refine want_ ((guard_ rfl rfl true (show x[75]? = some (.bool true) from kn.got 14 75 (hp ⟨14, .guard⟩ (by simp) rfl) rfl)).trans rfl) ?_
        obtain ⟨K0, K1, K2, K3, K4, K5, K6, I0, I1, B4, B11, B19, BW⟩ := hI
        exact wp_load_row 30 _ rfl g5 (ev_ e20) 30 (cs5) (0, 0) _ K6 Try.underlying30 rfl (by rw [sz5]; exact info_big) (hK.out s _ (fun _ _ => rfl) ⟨K0, K1, K2, K3, K4, K5, K6, I0, I1, B4, B11, B19, BW⟩)
      refine VSteps.cons rfl (fun x L s wx K kn hL hp hI hK => ?_) ?_
      · have e78 : x[78]? = some (.agg cs4) := kn.got 17 78 (hp ⟨17, .data⟩ (by simp) rfl) rfl
        have e79 : x[79]? = some (.agg cs5) := kn.got 18 79 (hp ⟨18, .data⟩ (by simp) rfl) rfl
        refine want_ ((guard_ rfl rfl true (show x[75]? = some (.bool true) from kn.got 14 75 (hp ⟨14, .chain⟩ (by simp) rfl) rfl)).trans rfl) ?_
        obtain ⟨K0, K1, K2, K3, K4, K5, K6, I0, I1, B4, B11, B19, BW⟩ := hI
        refine goesK_ Try.func19 (by kernel_rfl) rfl #[.agg cs4, .agg cs5] rfl (by simp only [List.map_toArray, List.map_cons, List.map_nil, evr_, ev_ e78, ev_ e79]) ((RM _ _ _ I0 I1).mono ?_)
        rintro e w' ⟨v, rfl, hv, g⟩
        exact ⟨_, rfl, hK.out (updV s 19 v) _ (VB_upd _ _ _ hL) ⟨K0.keep g, K1.keep g, K2.keep g, K3.keep g, K4.keep g, K5.keep g, K6.keep g, I0.below g, I1.below g, fun h => (by have h' := (show L 4 = true from h); show IsBig w' (updV s 19 v 4) _; rw [updV_ne _ _ (by decide)]; exact (B4 h').below g), fun h => (by have h' := (show L 11 = true from h); show IsBig w' (updV s 19 v 11) _; rw [updV_ne _ _ (by decide)]; exact (B11 h').below g), fun _ => (by show IsBig w' (updV s 19 v 19) _; rw [updV_self]; exact hv), bb BW g⟩⟩
      refine VSteps.cons rfl (fun x L s wx K kn hL hp hI hK => ?_) ?_
      · have e76 : x[76]? = some (.agg (U (lim (cl (a * b))))) := kn.got 15 76 (hp ⟨15, .data⟩ (by simp) rfl) rfl
        have e77 : x[77]? = some (.bool o3) := kn.got 16 77 (hp ⟨16, .data⟩ (by simp) rfl) rfl
        have e80 : x[80]? = some (s 19) := kn.got 19 80 (hp ⟨19, .data⟩ (by simp) rfl) rfl
        refine want_ ((guard_ rfl rfl true (show x[75]? = some (.bool true) from kn.got 14 75 (hp ⟨14, .guard⟩ (by simp) rfl) rfl)).trans rfl) ?_
        obtain ⟨K0, K1, K2, K3, K4, K5, K6, I0, I1, B4, B11, B19, BW⟩ := hI
        refine goesK_ Try.func16 (by kernel_rfl) rfl #[.agg (U (lim (cl (a * b)))), .bool o3, s 19] rfl (by simp only [List.map_toArray, List.map_cons, List.map_nil, evr_, ev_ e76, ev_ e77, ev_ e80]) ((FM _ _ (B19 (hp ⟨19, .data⟩ (by simp) rfl))).mono ?_)
        rintro e w' ⟨rfl, g⟩
        exact ⟨_, rfl, hK.out s _ (fun _ _ => rfl) ⟨K0.keep g, K1.keep g, K2.keep g, K3.keep g, K4.keep g, K5.keep g, K6.keep g, I0.below g, I1.below g, fun h => (B4 h).below g, fun h => (B11 h).below g, fun h => (B19 h).below g, bb BW g⟩⟩
      refine VSteps.cons rfl (fun x L s wx K kn hL hp hI hK => ?_) ?_
      · have e75 : x[75]? = some (.bool true) := kn.got 14 75 (hp ⟨14, .data⟩ (by simp) rfl) rfl
        have e81 : x[81]? = some (.bool true) := kn.got 20 81 (hp ⟨20, .data⟩ (by simp) rfl) rfl
        refine want_ rfl ?_
        exact val_ (v := .bool true) (by simp [go_sem, execOp, evr_, e75, e81]) (hK.out s _ (fun _ _ => rfl) hI)
      refine VSteps.cons rfl (fun x L s wx K kn hL hp hI hK => ?_) ?_
      · have e82 : x[82]? = some (.bool true) := kn.got 21 82 (hp ⟨21, .data⟩ (by simp) rfl) rfl
        refine want_ rfl ?_
        exact val_ (v := .bool true) (by simp [go_sem, execOp, evr_, e82]) (hK.out s _ (fun _ _ => rfl) hI)
      refine VSteps.cons rfl (fun x L s wx K kn hL hp hI hK => ?_) ?_
      · have e17 : x[17]? = some (.pointer (some ⟨w3.heap.size, 0, none⟩)) := (kn.old 17 (by kernel_rfl)).trans rfl
        refine want_ ((guard_ rfl rfl true (show x[83]? = some (.bool true) from kn.got 22 83 (hp ⟨22, .guard⟩ (by simp) rfl) rfl)).trans rfl) ?_
        obtain ⟨K0, K1, K2, K3, K4, K5, K6, I0, I1, B4, B11, B19, BW⟩ := hI
        exact wp_load_row 27 _ rfl w3.heap.size (ev_ e17) 27 (U (lim a)) (0, 0) _ K0 Try.underlying27 rfl (ofLen la) (hK.out s _ (fun _ _ => rfl) ⟨K0, K1, K2, K3, K4, K5, K6, I0, I1, B4, B11, B19, BW⟩)
      refine VSteps.cons rfl (fun x L s wx K kn hL hp hI hK => ?_) ?_
      · have e18 : x[18]? = some (.pointer (some ⟨(w3.heap.size + 1), 0, none⟩)) := (kn.old 18 (by kernel_rfl)).trans rfl
        refine want_ ((guard_ rfl rfl true (show x[83]? = some (.bool true) from kn.got 22 83 (hp ⟨22, .guard⟩ (by simp) rfl) rfl)).trans rfl) ?_
        obtain ⟨K0, K1, K2, K3, K4, K5, K6, I0, I1, B4, B11, B19, BW⟩ := hI
        exact wp_load_row 27 _ rfl (w3.heap.size + 1) (ev_ e18) 27 (U (lim b)) (0, 0) _ K1 Try.underlying27 rfl (ofLen lb) (hK.out s _ (fun _ _ => rfl) ⟨K0, K1, K2, K3, K4, K5, K6, I0, I1, B4, B11, B19, BW⟩)
      refine VSteps.cons rfl (fun x L s wx K kn hL hp hI hK => ?_) ?_
      · have e84 : x[84]? = some (.agg (U (lim a))) := kn.got 23 84 (hp ⟨23, .data⟩ (by simp) rfl) rfl
        have e85 : x[85]? = some (.agg (U (lim b))) := kn.got 24 85 (hp ⟨24, .data⟩ (by simp) rfl) rfl
        refine want_ ((guard_ rfl rfl true (show x[83]? = some (.bool true) from kn.got 22 83 (hp ⟨22, .chain⟩ (by simp) rfl) rfl)).trans rfl) ?_
        obtain ⟨K0, K1, K2, K3, K4, K5, K6, I0, I1, B4, B11, B19, BW⟩ := hI
        refine goesK_ Try.func20 (by kernel_rfl) rfl #[.agg (U (lim a)), .agg (U (lim b))] rfl (by simp only [List.map_toArray, List.map_cons, List.map_nil, evr_, ev_ e84, ev_ e85]) ((CW _).mono ?_)
        rintro e w' ⟨rfl, g⟩
        exact ⟨_, rfl, hK.out s _ (fun _ _ => rfl) ⟨K0.keep g, K1.keep g, K2.keep g, K3.keep g, K4.keep g, K5.keep g, K6.keep g, I0.below g, I1.below g, fun h => (B4 h).below g, fun h => (B11 h).below g, fun h => (B19 h).below g, bb BW g⟩⟩
      refine VSteps.cons rfl (fun x L s wx K kn hL hp hI hK => ?_) ?_
      · have e19 : x[19]? = some (.pointer (some ⟨g4, 0, none⟩)) := (kn.old 19 (by kernel_rfl)).trans rfl
        refine want_ ((guard_ rfl rfl true (show x[83]? = some (.bool true) from kn.got 22 83 (hp ⟨22, .guard⟩ (by simp) rfl) rfl)).trans rfl) ?_
        obtain ⟨K0, K1, K2, K3, K4, K5, K6, I0, I1, B4, B11, B19, BW⟩ := hI
        exact wp_load_row 30 _ rfl g4 (ev_ e19) 30 (cs4) (0, 0) _ K5 Try.underlying30 rfl (by rw [sz4]; exact info_big) (hK.out s _ (fun _ _ => rfl) ⟨K0, K1, K2, K3, K4, K5, K6, I0, I1, B4, B11, B19, BW⟩)
      refine VSteps.cons rfl (fun x L s wx K kn hL hp hI hK => ?_) ?_
      · have e20 : x[20]? = some (.pointer (some ⟨g5, 0, none⟩)) := (kn.old 20 (by kernel_rfl)).trans rfl
        refine want_ ((guard_ rfl rfl true (show x[83]? = some (.bool true) from kn.got 22 83 (hp ⟨22, .guard⟩ (by simp) rfl) rfl)).trans rfl) ?_
        obtain ⟨K0, K1, K2, K3, K4, K5, K6, I0, I1, B4, B11, B19, BW⟩ := hI
        exact wp_load_row 30 _ rfl g5 (ev_ e20) 30 (cs5) (0, 0) _ K6 Try.underlying30 rfl (by rw [sz5]; exact info_big) (hK.out s _ (fun _ _ => rfl) ⟨K0, K1, K2, K3, K4, K5, K6, I0, I1, B4, B11, B19, BW⟩)
      refine VSteps.cons rfl (fun x L s wx K kn hL hp hI hK => ?_) ?_
      · have e87 : x[87]? = some (.agg cs4) := kn.got 26 87 (hp ⟨26, .data⟩ (by simp) rfl) rfl
        have e88 : x[88]? = some (.agg cs5) := kn.got 27 88 (hp ⟨27, .data⟩ (by simp) rfl) rfl
        refine want_ ((guard_ rfl rfl true (show x[83]? = some (.bool true) from kn.got 22 83 (hp ⟨22, .guard⟩ (by simp) rfl) rfl)).trans rfl) ?_
        obtain ⟨K0, K1, K2, K3, K4, K5, K6, I0, I1, B4, B11, B19, BW⟩ := hI
        refine goesK_ Try.func21 (by kernel_rfl) rfl #[.agg cs4, .agg cs5] rfl (by simp only [List.map_toArray, List.map_cons, List.map_nil, evr_, ev_ e87, ev_ e88]) ((CR _ _ _ I0 I1).mono ?_)
        rintro e w' ⟨rfl, g⟩
        exact ⟨_, rfl, hK.out s _ (fun _ _ => rfl) ⟨K0.keep g, K1.keep g, K2.keep g, K3.keep g, K4.keep g, K5.keep g, K6.keep g, I0.below g, I1.below g, fun h => (B4 h).below g, fun h => (B11 h).below g, fun h => (B19 h).below g, bb BW g⟩⟩
      refine VSteps.cons rfl (fun x L s wx K kn hL hp hI hK => ?_) ?_
      · have e86 : x[86]? = some (.int .i64 (cc)) := kn.got 25 86 (hp ⟨25, .data⟩ (by simp) rfl) rfl
        have e89 : x[89]? = some (.int .i64 (cc)) := kn.got 28 89 (hp ⟨28, .data⟩ (by simp) rfl) rfl
        refine want_ ((guard_ rfl rfl true (show x[83]? = some (.bool true) from kn.got 22 83 (hp ⟨22, .guard⟩ (by simp) rfl) rfl)).trans rfl) ?_
        exact val_ (v := .bool true) (by simp [go_sem, execOp, evr_, e86, e89]) (hK.out s _ (fun _ _ => rfl) hI)
      refine VSteps.cons rfl (fun x L s wx K kn hL hp hI hK => ?_) ?_
      · have e83 : x[83]? = some (.bool true) := kn.got 22 83 (hp ⟨22, .data⟩ (by simp) rfl) rfl
        have e90 : x[90]? = some (.bool true) := kn.got 29 90 (hp ⟨29, .data⟩ (by simp) rfl) rfl
        refine want_ rfl ?_
        exact val_ (v := .bool true) (by simp [go_sem, execOp, evr_, e83, e90]) (hK.out s _ (fun _ _ => rfl) hI)
      refine VSteps.cons rfl (fun x L s wx K kn hL hp hI hK => ?_) ?_
      · have e91 : x[91]? = some (.bool true) := kn.got 30 91 (hp ⟨30, .data⟩ (by simp) rfl) rfl
        refine want_ rfl ?_
        exact val_ (v := .bool true) (by simp [go_sem, execOp, evr_, e91]) (hK.out s _ (fun _ _ => rfl) hI)
      refine VSteps.cons rfl (fun x L s wx K kn hL hp hI hK => ?_) ?_
      · have e17 : x[17]? = some (.pointer (some ⟨w3.heap.size, 0, none⟩)) := (kn.old 17 (by kernel_rfl)).trans rfl
        refine want_ ((guard_ rfl rfl true (show x[92]? = some (.bool true) from kn.got 31 92 (hp ⟨31, .guard⟩ (by simp) rfl) rfl)).trans rfl) ?_
        obtain ⟨K0, K1, K2, K3, K4, K5, K6, I0, I1, B4, B11, B19, BW⟩ := hI
        exact wp_load_row 27 _ rfl w3.heap.size (ev_ e17) 27 (U (lim a)) (0, 0) _ K0 Try.underlying27 rfl (ofLen la) (hK.out s _ (fun _ _ => rfl) ⟨K0, K1, K2, K3, K4, K5, K6, I0, I1, B4, B11, B19, BW⟩)
      refine VSteps.cons rfl (fun x L s wx K kn hL hp hI hK => ?_) ?_
      · have e93 : x[93]? = some (.agg (U (lim a))) := kn.got 32 93 (hp ⟨32, .data⟩ (by simp) rfl) rfl
        refine want_ ((guard_ rfl rfl true (show x[92]? = some (.bool true) from kn.got 31 92 (hp ⟨31, .chain⟩ (by simp) rfl) rfl)).trans rfl) ?_
        obtain ⟨K0, K1, K2, K3, K4, K5, K6, I0, I1, B4, B11, B19, BW⟩ := hI
        refine goesK_ Try.func22 (by kernel_rfl) rfl #[.agg (U (lim a))] rfl (by simp only [List.map_toArray, List.map_cons, List.map_nil, evr_, ev_ e93]) ((SWa _).mono ?_)
        rintro e w' ⟨rfl, g⟩
        exact ⟨_, rfl, hK.out s _ (fun _ _ => rfl) ⟨K0.keep g, K1.keep g, K2.keep g, K3.keep g, K4.keep g, K5.keep g, K6.keep g, I0.below g, I1.below g, fun h => (B4 h).below g, fun h => (B11 h).below g, fun h => (B19 h).below g, bb BW g⟩⟩
      refine VSteps.cons rfl (fun x L s wx K kn hL hp hI hK => ?_) ?_
      · have e19 : x[19]? = some (.pointer (some ⟨g4, 0, none⟩)) := (kn.old 19 (by kernel_rfl)).trans rfl
        refine want_ ((guard_ rfl rfl true (show x[92]? = some (.bool true) from kn.got 31 92 (hp ⟨31, .guard⟩ (by simp) rfl) rfl)).trans rfl) ?_
        obtain ⟨K0, K1, K2, K3, K4, K5, K6, I0, I1, B4, B11, B19, BW⟩ := hI
        exact wp_load_row 30 _ rfl g4 (ev_ e19) 30 (cs4) (0, 0) _ K5 Try.underlying30 rfl (by rw [sz4]; exact info_big) (hK.out s _ (fun _ _ => rfl) ⟨K0, K1, K2, K3, K4, K5, K6, I0, I1, B4, B11, B19, BW⟩)
      refine VSteps.cons rfl (fun x L s wx K kn hL hp hI hK => ?_) ?_
      · have e95 : x[95]? = some (.agg cs4) := kn.got 34 95 (hp ⟨34, .data⟩ (by simp) rfl) rfl
        refine want_ ((guard_ rfl rfl true (show x[92]? = some (.bool true) from kn.got 31 92 (hp ⟨31, .guard⟩ (by simp) rfl) rfl)).trans rfl) ?_
        obtain ⟨K0, K1, K2, K3, K4, K5, K6, I0, I1, B4, B11, B19, BW⟩ := hI
        refine goesK_ Try.func23 (by kernel_rfl) rfl #[.agg cs4] rfl (by simp only [List.map_toArray, List.map_cons, List.map_nil, evr_, ev_ e95]) ((SRa _ _ I0).mono ?_)
        rintro e w' ⟨rfl, g⟩
        exact ⟨_, rfl, hK.out s _ (fun _ _ => rfl) ⟨K0.keep g, K1.keep g, K2.keep g, K3.keep g, K4.keep g, K5.keep g, K6.keep g, I0.below g, I1.below g, fun h => (B4 h).below g, fun h => (B11 h).below g, fun h => (B19 h).below g, bb BW g⟩⟩
      refine VSteps.cons rfl (fun x L s wx K kn hL hp hI hK => ?_) ?_
      · have e94 : x[94]? = some (.int .i64 (sg)) := kn.got 33 94 (hp ⟨33, .data⟩ (by simp) rfl) rfl
        have e96 : x[96]? = some (.int .i64 (sg)) := kn.got 35 96 (hp ⟨35, .data⟩ (by simp) rfl) rfl
        refine want_ ((guard_ rfl rfl true (show x[92]? = some (.bool true) from kn.got 31 92 (hp ⟨31, .guard⟩ (by simp) rfl) rfl)).trans rfl) ?_
        exact val_ (v := .bool true) (by simp [go_sem, execOp, evr_, e94, e96]) (hK.out s _ (fun _ _ => rfl) hI)
      refine VSteps.cons rfl (fun x L s wx K kn hL hp hI hK => ?_) ?_
      · have e92 : x[92]? = some (.bool true) := kn.got 31 92 (hp ⟨31, .data⟩ (by simp) rfl) rfl
        have e97 : x[97]? = some (.bool true) := kn.got 36 97 (hp ⟨36, .data⟩ (by simp) rfl) rfl
        refine want_ rfl ?_
        exact val_ (v := .bool true) (by simp [go_sem, execOp, evr_, e92, e97]) (hK.out s _ (fun _ _ => rfl) hI)
      refine VSteps.cons rfl (fun x L s wx K kn hL hp hI hK => ?_) ?_
      · have e98 : x[98]? = some (.bool true) := kn.got 37 98 (hp ⟨37, .data⟩ (by simp) rfl) rfl
        refine want_ rfl ?_
        exact val_ (v := .bool true) (by simp [go_sem, execOp, evr_, e98]) (hK.out s _ (fun _ _ => rfl) hI)
      refine VSteps.cons rfl (fun x L s wx K kn hL hp hI hK => ?_) ?_
      · have e17 : x[17]? = some (.pointer (some ⟨w3.heap.size, 0, none⟩)) := (kn.old 17 (by kernel_rfl)).trans rfl
        refine want_ ((guard_ rfl rfl true (show x[99]? = some (.bool true) from kn.got 38 99 (hp ⟨38, .guard⟩ (by simp) rfl) rfl)).trans rfl) ?_
        obtain ⟨K0, K1, K2, K3, K4, K5, K6, I0, I1, B4, B11, B19, BW⟩ := hI
        exact wp_load_row 27 _ rfl w3.heap.size (ev_ e17) 27 (U (lim a)) (0, 0) _ K0 Try.underlying27 rfl (ofLen la) (hK.out s _ (fun _ _ => rfl) ⟨K0, K1, K2, K3, K4, K5, K6, I0, I1, B4, B11, B19, BW⟩)
      refine VSteps.cons rfl (fun x L s wx K kn hL hp hI hK => ?_) ?_
      · have e100 : x[100]? = some (.agg (U (lim a))) := kn.got 39 100 (hp ⟨39, .data⟩ (by simp) rfl) rfl
        refine want_ ((guard_ rfl rfl true (show x[99]? = some (.bool true) from kn.got 38 99 (hp ⟨38, .chain⟩ (by simp) rfl) rfl)).trans rfl) ?_
        obtain ⟨K0, K1, K2, K3, K4, K5, K6, I0, I1, B4, B11, B19, BW⟩ := hI
        refine goesK_ Try.func24 (by kernel_rfl) rfl #[.agg (U (lim a))] rfl (by simp only [List.map_toArray, List.map_cons, List.map_nil, evr_, ev_ e100]) ((TW _).mono ?_)
        rintro e w' ⟨rfl, g⟩
        exact ⟨_, rfl, hK.out s _ (fun _ _ => rfl) ⟨K0.keep g, K1.keep g, K2.keep g, K3.keep g, K4.keep g, K5.keep g, K6.keep g, I0.below g, I1.below g, fun h => (B4 h).below g, fun h => (B11 h).below g, fun h => (B19 h).below g, bb BW g⟩⟩
      refine VSteps.cons rfl (fun x L s wx K kn hL hp hI hK => ?_) ?_
      · have e19 : x[19]? = some (.pointer (some ⟨g4, 0, none⟩)) := (kn.old 19 (by kernel_rfl)).trans rfl
        refine want_ ((guard_ rfl rfl true (show x[99]? = some (.bool true) from kn.got 38 99 (hp ⟨38, .guard⟩ (by simp) rfl) rfl)).trans rfl) ?_
        obtain ⟨K0, K1, K2, K3, K4, K5, K6, I0, I1, B4, B11, B19, BW⟩ := hI
        exact wp_load_row 30 _ rfl g4 (ev_ e19) 30 (cs4) (0, 0) _ K5 Try.underlying30 rfl (by rw [sz4]; exact info_big) (hK.out s _ (fun _ _ => rfl) ⟨K0, K1, K2, K3, K4, K5, K6, I0, I1, B4, B11, B19, BW⟩)
      refine VSteps.cons rfl (fun x L s wx K kn hL hp hI hK => ?_) ?_
      · have e102 : x[102]? = some (.agg cs4) := kn.got 41 102 (hp ⟨41, .data⟩ (by simp) rfl) rfl
        refine want_ ((guard_ rfl rfl true (show x[99]? = some (.bool true) from kn.got 38 99 (hp ⟨38, .guard⟩ (by simp) rfl) rfl)).trans rfl) ?_
        obtain ⟨K0, K1, K2, K3, K4, K5, K6, I0, I1, B4, B11, B19, BW⟩ := hI
        refine goesK_ Try.func25 (by kernel_rfl) rfl #[.agg cs4] rfl (by simp only [List.map_toArray, List.map_cons, List.map_nil, evr_, ev_ e102]) ((TR _ _ I0).mono ?_)
        rintro e w' ⟨rfl, g⟩
        exact ⟨_, rfl, hK.out s _ (fun _ _ => rfl) ⟨K0.keep g, K1.keep g, K2.keep g, K3.keep g, K4.keep g, K5.keep g, K6.keep g, I0.below g, I1.below g, fun h => (B4 h).below g, fun h => (B11 h).below g, fun h => (B19 h).below g, bb BW g⟩⟩
      refine VSteps.cons rfl (fun x L s wx K kn hL hp hI hK => ?_) ?_
      · have e101 : x[101]? = some (.int .i64 ((t : Int))) := kn.got 40 101 (hp ⟨40, .data⟩ (by simp) rfl) rfl
        have e103 : x[103]? = some (.int .i64 ((t : Int))) := kn.got 42 103 (hp ⟨42, .data⟩ (by simp) rfl) rfl
        refine want_ ((guard_ rfl rfl true (show x[99]? = some (.bool true) from kn.got 38 99 (hp ⟨38, .guard⟩ (by simp) rfl) rfl)).trans rfl) ?_
        exact val_ (v := .bool true) (by simp [go_sem, execOp, evr_, e101, e103]) (hK.out s _ (fun _ _ => rfl) hI)
      refine VSteps.cons rfl (fun x L s wx K kn hL hp hI hK => ?_) ?_
      · have e99 : x[99]? = some (.bool true) := kn.got 38 99 (hp ⟨38, .data⟩ (by simp) rfl) rfl
        have e104 : x[104]? = some (.bool true) := kn.got 43 104 (hp ⟨43, .data⟩ (by simp) rfl) rfl
        refine want_ rfl ?_
        exact val_ (v := .bool true) (by simp [go_sem, execOp, evr_, e99, e104]) (hK.out s _ (fun _ _ => rfl) hI)
      refine VSteps.cons rfl (fun x L s wx K kn hL hp hI hK => ?_) ?_
      · have e105 : x[105]? = some (.bool true) := kn.got 44 105 (hp ⟨44, .data⟩ (by simp) rfl) rfl
        refine want_ rfl ?_
        exact val_ (v := .bool true) (by simp [go_sem, execOp, evr_, e105]) (hK.out s _ (fun _ _ => rfl) hI)
      exact VSteps.nil
    case fin8 =>
      intro s wx hI
      simp only [puts, VB, List.getD_cons_zero, List.getD_cons_succ, List.set_cons_zero, List.set_cons_succ]
      obtain ⟨K0, K1, K2, K3, K4, K5, K6, I0, I1, B4, B11, B19, BW⟩ := hI
      go_wp2_with fail
      go_ret
      exact ⟨rfl, BW⟩
end Go.Proofs.Ytpdljoalfmgfiaa.YWide
