/- fault.Ops and fault.Text of errors that are trees. Conditions: the error reads as the tree; of Text: no joined ones. -/
import Derived.Test.YtobcgomfbkcaeaaDoorYFault
import Derived.IntWalk
import Derived.Deep.RegionHeld3
namespace Go.Proofs.YtobcgomfbkcaeaaDoor.YErr
open Go.RowKit Go.Extern.Stop Go.Stop Go.Extern
set_option linter.unusedVariables false
set_option linter.unusedSimpArgs false

theorem isFaultJ (p : Value) (w : World) : (Instr.typeAssert (.iface 69 p) 25 34 true).run Tryd.prog w = .ok (.tuple #[.pointer none, .bool false]) w := by kernel_rfl
set_option maxRecDepth 100000 in
set_option maxHeartbeats 8000000 in
theorem first_two (b c : Nat) (t : TypeId) (u : Value) (w : World) (h : w.cell? ⟨b, 0, none⟩ = some (.iface t u)) :
    Calls Tryd.prog 29 #[.slice (some ⟨b, 0, none⟩) 2 c] w fun e w' => e = .returned (.iface t u) ∧ w' = w := by
  go_enter Tryd.func29, Tryd.ntmps29
  go_wp2
  refine wp_loop_rounds 1 ?_
  rw [rounds_succ]
  go_wp2
  go_ret
  exact ⟨rfl, rfl⟩
set_option maxRecDepth 100000 in
set_option maxHeartbeats 8000000 in
theorem within_join (a : Addr) (b c : Nat) (t : TypeId) (u : Value) (w : World) (h0 : w.cell? a = some (.slice (some ⟨b, 0, none⟩) 2 c)) (h : w.cell? ⟨b, 0, none⟩ = some (.iface t u)) :
    Calls Tryd.prog 20 #[.iface 69 (.pointer (some a))] w fun e w' => e = .returned (.tuple #[.slice none 0 0, .iface t u]) ∧ w' = w := by
  have uJ := unwrapsJ
  have mJ := methodUnwraps
  have hU := unwraps_calls a _ w h0
  have hF := first_two b c t u w h
  go_enter Tryd.func20, Tryd.ntmps20
  go_wp2_with (first | (go_at_call 66; refine hU.mono ?_; rintro e w' ⟨rfl, rfl⟩) | (go_at_call 29; refine hF.mono ?_; rintro e w' ⟨rfl, rfl⟩) | go_in)
  go_ret2
  exact ⟨rfl, rfl⟩
/-- A slice of strings of the call's own. -/
def Strs (w : World) (base : Nat) (o : Value) (l : List ByteArray) : Prop := w.ownsRow base 9 1 o l.length (l.map Value.string)

set_option maxRecDepth 100000 in
set_option maxHeartbeats 8000000 in
theorem Ops_tree {e : E} {v : Value} {w : World} (hat : At w v e) (hl : e.ops.length ≤ 1000) :
    Calls Tryd.prog 13 #[v] w fun r w' => ∃ o, r = .returned o ∧ Strs w' w.heap.size o e.ops ∧ Below w.heap.size w w' := by
  obtain ⟨i0, hi, hz0, hz1, hz2⟩ := info_parts infoStr
  go_enter Tryd.func13, Tryd.ntmps13
  go_wp2
  go_loopg [0, 3] e.size (fun k p o wr => Below w.heap.size w wr ∧ ∃ done : List ByteArray, Strs wr w.heap.size o done ∧ ((p = .nilIface ∧ done = e.ops) ∨ ∃ e', At w p e' ∧ e'.size ≤ k ∧ done ++ e'.ops = e.ops))
  case atStart => exact ⟨Below.refl _ _, [], World.ownsRow_nil _ _ _ _, .inr ⟨e, hat, Nat.le_refl _, rfl⟩⟩
  case round =>
    obtain ⟨hb, done, hown, hc⟩ := hrel
    rcases hc with ⟨rfl, hd⟩ | ⟨e', he, hk, hd⟩
    · go_wp2
      go_ret
      exact ⟨_, rfl, hd ▸ hown, hb⟩
    · have he1 := he.below hb
      have hdl : done.length ≤ 1000 := by have := congrArg List.length hd; simp at this; omega
      have hf : u3 = .slice none 0 0 ∨ ∃ g cap, u3 = .slice (some ⟨g, 0, none⟩) done.length cap ∧ done.length ≤ cap := by
        obtain ⟨_, ⟨h, _⟩ | ⟨g, cap, cur, h, _, _, hc, _⟩⟩ := hown
        · exact .inl h
        · exact .inr ⟨g, cap, h, hc⟩
      cases e' with
      | num c =>
        obtain rfl := he
        have hV := within_num c wr
        rcases hf with rfl | ⟨g, cap, rfl, hcap⟩
        all_goals
          go_wp2_with (first | (go_at_call 20; refine hV.mono ?_; rintro e w' ⟨rfl, rfl⟩) | go_in)
          go_roundg (gk - 1)
          case measure => simp [E.size] at hk; omega
          case rel => exact ⟨hb, done, hown, .inl ⟨rfl, by simpa [E.ops] using hd⟩⟩
      | two x y =>
        obtain ⟨a0, b0, c0, u10, u20, rfl, d0, d1, d2, hx0, hy0⟩ := he
        have c0' := (hb.cell (lt_cell d0)).trans d0
        have c1 := (hb.cell (lt_cell d1)).trans d1
        obtain ⟨ty, pv, rfl⟩ := hx0.some
        have hW := within_join a0 b0 c0 ty pv wr c0' c1
        rcases hf with rfl | ⟨g, cap, rfl, hcap⟩
        all_goals
          go_wp2_with (first | (go_at_call 20; refine hW.mono ?_; rintro e w' ⟨rfl, rfl⟩) | go_in)
          go_roundg (gk - 1)
          case measure => have := x.size_pos; simp [E.size] at hk; omega
          case rel => exact ⟨hb, done, hown, .inr ⟨x, hx0, by simp [E.size] at hk; omega, by simpa [E.ops] using hd⟩⟩
      | wrap op e2 =>
        obtain ⟨a, u, rfl, d0, d1, hu0⟩ := he
        have c0 := (hb.cell (lt_cell d0)).trans d0
        have c1 := (hb.cell (lt_cell d1)).trans d1
        have hW := within_one a op u wr c0 c1
        have hb2 : Below w.heap.size w (wr.alloc (.cells #[.string op] 9)).drew := (hb.alloc hb.size _).drew
        have hown2 : ((wr.alloc (.cells #[.string op] 9)).drew).ownsRow w.heap.size 9 1 u3 done.length (done.map Value.string) := (hown.alloc _).drew
        have hc : ((wr.alloc (.cells #[.string op] 9)).drew).cell? ⟨wr.heap.size, 0, none⟩ = some (.string op) := by go_simp
        have hsz := hb2.size
        generalize hw2 : (wr.alloc (.cells #[.string op] 9)).drew = w2 at *
        go_wp2_with (first
          | (go_at_call 20; refine hW.mono ?_; rintro e w' ⟨rfl, rfl⟩)
          | (at_builtin; go_loud (refine wpList_append_own _ rfl (.tmp 13) (.tmp 14) 22 rfl w.heap.size 9 i0 (.string (ByteArray.mk #[])) 1 16 Tryd.underlying22 hi hz0 hz1 hz2 rfl (by decide) u3 done.length (done.map Value.string) rfl hown2 ⟨wr.heap.size, 0, none⟩ 1 1 [.string op] rfl rfl ?qc2 ?qc3 ?qc4 ?qc5a ?qc5b ?_))
          | go_in)
        case qc2 =>
          intro j u hj
          match j, hj with
          | 0, hj => simp at hj; subst hj; simpa [Addr.add] using hc
        case qc3 => intro u hu; simp at hu; subst hu; rfl
        case qc4 => unfold maxLen; omega
        case qc5a => omega
        case qc5b => exact hsz
        intro v' w3 hown3 hgrow _
        have hb3 : Below w.heap.size w w3 := hb2.grown hgrow hsz (fun k h => (World.ownsRow.lt hown2 k h).1)
        go_wp2
        go_roundg (gk - 1)
        case measure => have := e2.size_pos; simp [E.size] at hk; omega
        case rel => exact ⟨hb3, done ++ [op], by simpa [Strs] using hown3, .inr ⟨e2, hu0, by simp [E.size] at hk; omega, by simpa [E.ops] using hd⟩⟩
end Go.Proofs.YtobcgomfbkcaeaaDoor.YErr
