/- Package clock, and the reference's: what their functions tell. No condition but the numbers' kinds. -/
import Derived.Test.YtbfflffekdadnaaDoorYBlk
import Derived.Test.YtbfflffekdadnaaDoorYSays14
import Derived.RegionTactic
import Derived.BigRegion
import Derived.Deep.QuietTactic
import Derived.BigQuiet
namespace Go.Proofs.YtbfflffekdadnaaDoor.YErr
open Go.RowKit Go.Extern.Stop Go.Stop Go.Extern
set_option linter.unusedVariables false
set_option linter.unusedSimpArgs false

def Clk (w : World) (b : Nat) (l : Int) (a : Bool) : Prop := Blk w b #[.int .u32 l, .bool a] 66
theorem u32w (n : Int) : IntKind.u32.wrap n = n % 4294967296 := by simp [IntKind.wrap, IntKind.bits, IntKind.signed]
theorem New_calls (w : World) : Calls Tryd.prog 10 #[] w fun e w' => e = .returned (.pointer (some ⟨w.heap.size, 0, none⟩)) ∧ Clk w' w.heap.size 0 false ∧ Below w.heap.size w w' := by
  go_enter Tryd.func10, Tryd.ntmps10
  go_wp2
  go_ret
  exact ⟨rfl, Blk.new _ _ _, (Below.refl _ _).alloc (Nat.le_refl _) _⟩
set_option maxHeartbeats 1000000 in
theorem Take_first {w : World} {b : Nat} {l : Int} (t : Int) (h : Clk w b l false) :
    Calls Tryd.prog 11 #[.pointer (some ⟨b, 0, none⟩), .int .u32 t] w fun e w' => e = .returned (.tuple #[.int .u32 0, .nilIface]) ∧ Clk w' b t true ∧ w.grownBy w' (some b) := by
  have c0 : w.cell? ⟨b, 0, none⟩ = some (.int .u32 l) := Blk.cell h 0
  have c1 : w.cell? ⟨b, 1, none⟩ = some (.bool false) := Blk.cell h 1
  have f0 := Blk.free h 0
  have f1 := Blk.free h 1
  go_enter Tryd.func11, Tryd.ntmps11
  go_wp2
  go_ret2
  exact ⟨rfl, (h.set 0 (.int .u32 t)).set 1 (.bool true), gro_set (gro_set (gro_refl _ _) _ _) _ _⟩
set_option maxHeartbeats 1000000 in
theorem Take_new {w : World} {b : Nat} {l : Int} (t : Int) (h : Clk w b l true) (hd : (t - l) % 4294967296 < 2147483648) :
    Calls Tryd.prog 11 #[.pointer (some ⟨b, 0, none⟩), .int .u32 t] w fun e w' => e = .returned (.tuple #[.int .u32 ((t - l) % 4294967296), .nilIface]) ∧ Clk w' b t true ∧ w.grownBy w' (some b) := by
  have c0 : w.cell? ⟨b, 0, none⟩ = some (.int .u32 l) := Blk.cell h 0
  have c1 : w.cell? ⟨b, 1, none⟩ = some (.bool true) := Blk.cell h 1
  have f0 := Blk.free h 0
  have f1 := Blk.free h 1
  have ew : IntKind.u32.wrap (t - l) = (t - l) % 4294967296 := u32w _
  go_enter Tryd.func11, Tryd.ntmps11
  go_wp2
  go_ret2
  exact ⟨rfl, h.set 0 (.int .u32 t), gro_set (gro_refl _ _) _ _⟩
set_option maxHeartbeats 1000000 in
theorem Take_old {w : World} {b : Nat} {l : Int} (t : Int) (h : Clk w b l true) (hd : 2147483648 ≤ (t - l) % 4294967296) :
    Calls Tryd.prog 11 #[.pointer (some ⟨b, 0, none⟩), .int .u32 t] w fun e w' => ∃ v, e = .returned (.tuple #[.int .u32 0, v]) ∧ ErrFrom op14 w.heap.size w' v 28 ∧ Clk w' b l true ∧ Below w.heap.size w w' := by
  have c0 : w.cell? ⟨b, 0, none⟩ = some (.int .u32 l) := Blk.cell h 0
  have c1 : w.cell? ⟨b, 1, none⟩ = some (.bool true) := Blk.cell h 1
  have f0 := Blk.free h 0
  have f1 := Blk.free h 1
  have ew : IntKind.u32.wrap (t - l) = (t - l) % 4294967296 := u32w _
  have B := fun W => Wrap_from op14 28 (by decide) W
  unfold op14 at B
  go_enter Tryd.func11, Tryd.ntmps11
  go_wp2_with (first | (go_at_call 33; refine (B _).mono ?_; rintro e w3 ⟨v, rfl, hv, hb⟩) | go_in)
  go_ret2
  exact ⟨_, rfl, hv, Blk.keep h hb, hb⟩
set_option maxHeartbeats 1000000 in
theorem Last_calls {w : World} {b : Nat} {l : Int} {a : Bool} (h : Clk w b l a) :
    Calls Tryd.prog 12 #[.pointer (some ⟨b, 0, none⟩)] w fun e w' => e = .returned (.tuple #[.int .u32 l, .bool a]) ∧ ∃ n, w' = w.drewN n := by
  have c0 : w.cell? ⟨b, 0, none⟩ = some (.int .u32 l) := Blk.cell h 0
  have c1 : w.cell? ⟨b, 1, none⟩ = some (.bool a) := Blk.cell h 1
  go_enter Tryd.func12, Tryd.ntmps12
  go_wp2
  go_quiet (fail)
  go_wp2
  go_ret2
  exact ⟨rfl, _, rfl⟩
end Go.Proofs.YtbfflffekdadnaaDoor.YErr
