/- The text of errors: the numbers' and the faults'. Conditions: numbers from 1 to 60; the error reads as a tree without joined ones. -/
import Derived.Test.YtobcgomfbkcaeaaDoorYFaultOps
namespace Go.Proofs.YtobcgomfbkcaeaaDoor.YErr
open Go.RowKit Go.Extern.Stop Go.Stop Go.Extern
set_option linter.unusedVariables false
set_option linter.unusedSimpArgs false

def digits : ByteArray := ⟨#[48, 49, 50, 51, 52, 53, 54, 55, 56, 57, 97, 98, 99, 100, 101, 102, 103, 104, 105, 106, 107, 108, 109, 110, 111, 112, 113, 114, 115, 116, 117, 118, 119, 120, 121, 122]⟩
def smalls : ByteArray := ⟨#[48, 48, 48, 49, 48, 50, 48, 51, 48, 52, 48, 53, 48, 54, 48, 55, 48, 56, 48, 57, 49, 48, 49, 49, 49, 50, 49, 51, 49, 52, 49, 53, 49, 54, 49, 55, 49, 56, 49, 57, 50, 48, 50, 49, 50, 50, 50, 51, 50, 52, 50, 53, 50, 54, 50, 55, 50, 56, 50, 57, 51, 48, 51, 49, 51, 50, 51, 51, 51, 52, 51, 53, 51, 54, 51, 55, 51, 56, 51, 57, 52, 48, 52, 49, 52, 50, 52, 51, 52, 52, 52, 53, 52, 54, 52, 55, 52, 56, 52, 57, 53, 48, 53, 49, 53, 50, 53, 51, 53, 52, 53, 53, 53, 54, 53, 55, 53, 56, 53, 57, 54, 48, 54, 49, 54, 50, 54, 51, 54, 52, 54, 53, 54, 54, 54, 55, 54, 56, 54, 57, 55, 48, 55, 49, 55, 50, 55, 51, 55, 52, 55, 53, 55, 54, 55, 55, 55, 56, 55, 57, 56, 48, 56, 49, 56, 50, 56, 51, 56, 52, 56, 53, 56, 54, 56, 55, 56, 56, 56, 57, 57, 48, 57, 49, 57, 50, 57, 51, 57, 52, 57, 53, 57, 54, 57, 55, 57, 56, 57, 57]⟩
set_option maxRecDepth 100000 in
theorem digits_size : digits.size = 36 := rfl
set_option maxRecDepth 100000 in
theorem smalls_size : smalls.size = 200 := rfl
/-- A number below a hundred, spelt. -/
def itoa (c : Int) : ByteArray := if c < 10 then digits.extract c.toNat (c + 1).toNat else smalls.extract (c * 2).toNat (c * 2 + 2).toNat
theorem slice_str (s : ByteArray) (l h : Int) (h0 : 0 ≤ l) (h1 : l ≤ h) (h2 : h ≤ s.size) (w : World) :
    (Instr.slice 9 (.string s) (some (.int .i64 l)) (some (.int .i64 h)) none).run Tryd.prog w = .ok (.string (s.extract l.toNat h.toNat)) w := by
  have eh : (h.toNat : Int) = h := Int.toNat_of_nonneg (by omega)
  simp [Instr.slice, run_underlying Tryd.underlying9, Instr.sliceBounds, run_sliceBound, sliced, *, eh, (by omega : 0 ≤ h)]
set_option maxRecDepth 100000 in
set_option maxHeartbeats 8000000 in
theorem small_calls (c : Int) (h0 : 1 ≤ c) (h1 : c ≤ 60) (w : World) :
    Calls Tryd.prog 33 #[.int .i64 c] w fun r w' => r = .returned (.string (itoa c)) ∧ w' = w := by
  by_cases hc : c < 10
  · have q : (Instr.slice 9 (.string ⟨#[48, 49, 50, 51, 52, 53, 54, 55, 56, 57, 97, 98, 99, 100, 101, 102, 103, 104, 105, 106, 107, 108, 109, 110, 111, 112, 113, 114, 115, 116, 117, 118, 119, 120, 121, 122]⟩) (some (.int .i64 c)) (some (.int .i64 (c + 1))) none).run Tryd.prog w = .ok (.string (itoa c)) w := by
      show (Instr.slice 9 (.string digits) (some (.int .i64 c)) (some (.int .i64 (c + 1))) none).run Tryd.prog w = _
      rw [slice_str digits _ _ (by omega) (by omega) (by rw [digits_size]; omega)]
      simp [itoa, hc]
    go_enter Tryd.func33, Tryd.ntmps33
    go_wp2
    go_ret
    exact ⟨rfl, rfl⟩
  · have q : (Instr.slice 9 (.string ⟨#[48, 48, 48, 49, 48, 50, 48, 51, 48, 52, 48, 53, 48, 54, 48, 55, 48, 56, 48, 57, 49, 48, 49, 49, 49, 50, 49, 51, 49, 52, 49, 53, 49, 54, 49, 55, 49, 56, 49, 57, 50, 48, 50, 49, 50, 50, 50, 51, 50, 52, 50, 53, 50, 54, 50, 55, 50, 56, 50, 57, 51, 48, 51, 49, 51, 50, 51, 51, 51, 52, 51, 53, 51, 54, 51, 55, 51, 56, 51, 57, 52, 48, 52, 49, 52, 50, 52, 51, 52, 52, 52, 53, 52, 54, 52, 55, 52, 56, 52, 57, 53, 48, 53, 49, 53, 50, 53, 51, 53, 52, 53, 53, 53, 54, 53, 55, 53, 56, 53, 57, 54, 48, 54, 49, 54, 50, 54, 51, 54, 52, 54, 53, 54, 54, 54, 55, 54, 56, 54, 57, 55, 48, 55, 49, 55, 50, 55, 51, 55, 52, 55, 53, 55, 54, 55, 55, 55, 56, 55, 57, 56, 48, 56, 49, 56, 50, 56, 51, 56, 52, 56, 53, 56, 54, 56, 55, 56, 56, 56, 57, 57, 48, 57, 49, 57, 50, 57, 51, 57, 52, 57, 53, 57, 54, 57, 55, 57, 56, 57, 57]⟩) (some (.int .i64 (c * 2))) (some (.int .i64 (c * 2 + 2))) none).run Tryd.prog w = .ok (.string (itoa c)) w := by
      show (Instr.slice 9 (.string smalls) (some (.int .i64 (c * 2))) (some (.int .i64 (c * 2 + 2))) none).run Tryd.prog w = _
      rw [slice_str smalls _ _ (by omega) (by omega) (by rw [smalls_size]; omega)]
      simp [itoa, hc]
    go_enter Tryd.func33, Tryd.ntmps33
    go_wp2
    go_ret
    exact ⟨rfl, rfl⟩
/-- What a number tells. -/
def estr (c : Int) : ByteArray := ⟨#[101, 114, 114, 32]⟩ ++ itoa c
set_option maxRecDepth 100000 in
set_option maxHeartbeats 8000000 in
theorem itoa_size (c : Int) (h0 : 1 ≤ c) (h1 : c ≤ 60) : (itoa c).size ≤ 2 := by
  unfold itoa
  split
  · rw [ByteArray.size_extract, digits_size]; omega
  · rw [ByteArray.size_extract, smalls_size]; omega
theorem estr_size (c : Int) (h0 : 1 ≤ c) (h1 : c ≤ 60) : (estr c).size ≤ 6 := by
  have := itoa_size c h0 h1
  have h4 : (ByteArray.mk #[101, 114, 114, 32]).size = 4 := rfl
  unfold estr
  rw [ByteArray.size_append, h4]; omega
set_option maxRecDepth 100000 in
set_option maxHeartbeats 8000000 in
theorem Error_num (c : Int) (h0 : 1 ≤ c) (h1 : c ≤ 60) (w : World) :
    Calls Tryd.prog 11 #[.int .i64 c] w fun r w' => r = .returned (.string (estr c)) ∧ w' = w := by
  have h := small_calls c h0 h1
  have n1 : ¬ 9223372036854775807 < 4 + (itoa c).size := by have := itoa_size c h0 h1; omega
  have hF : ∀ w, Calls Tryd.prog 32 #[.int .i64 c, .int .i64 10] w fun r w' => r = .returned (.string (itoa c)) ∧ w' = w := by
    intro w
    go_enter Tryd.func32, Tryd.ntmps32
    go_wp2_with (first | (go_at_call 33; refine (h _).mono ?_; rintro r w' ⟨rfl, rfl⟩) | go_in)
    go_ret
    exact ⟨rfl, rfl⟩
  have hI : ∀ w, Calls Tryd.prog 26 #[.int .i64 c] w fun r w' => r = .returned (.string (itoa c)) ∧ w' = w := by
    intro w
    go_enter Tryd.func26, Tryd.ntmps26
    go_wp2_with (first | (go_at_call 32; refine (hF _).mono ?_; rintro r w' ⟨rfl, rfl⟩) | go_in)
    go_ret
    exact ⟨rfl, rfl⟩
  have hJ : ∀ w, Calls Tryd.prog 18 #[.int .i64 c] w fun r w' => r = .returned (.string (itoa c)) ∧ w' = w := by
    intro w
    go_enter Tryd.func18, Tryd.ntmps18
    go_wp2_with (first | (go_at_call 26; refine (hI _).mono ?_; rintro r w' ⟨rfl, rfl⟩) | go_in)
    go_ret
    exact ⟨rfl, rfl⟩
  go_enter Tryd.func11, Tryd.ntmps11
  go_wp2_with (first | (go_at_call 18; refine (hJ _).mono ?_; rintro r w' ⟨rfl, rfl⟩) | go_in)
  go_ret
  exact ⟨rfl, rfl⟩

namespace E
/-- No joined ones, and a number from 1 to 60. -/
def ok : E → Prop
  | num c => 1 ≤ c ∧ c ≤ 60
  | wrap _ e => ok e
  | two _ _ => False
def text : E → ByteArray
  | num c => estr c
  | wrap op e => op ++ ⟨#[58, 32]⟩ ++ text e
  | two _ _ => ⟨#[]⟩
end E
theorem methodErrF (a : Addr) (w : World) : (Go.method 231 34 (.pointer (some a)) "Error").run Tryd.prog w = .ok (61, .pointer (some a)) w := by kernel_rfl
theorem methodErrE (n : Int) (w : World) : (Go.method 231 27 (.int .i64 n) "Error").run Tryd.prog w = .ok (11, .int .i64 n) w := by kernel_rfl
theorem undrew' {w w' : World} (g : Below w.drew.heap.size w.drew w') : Below w.heap.size w w' := ((Below.refl _ _).drew).trans g

set_option maxRecDepth 100000 in
set_option maxHeartbeats 8000000 in
theorem Error_fault (e : E) : ∀ (op : ByteArray) (a : Addr) (u : Value) (w : World), e.ok → op.size + 2 + e.text.size ≤ 1000000000 → w.cell? a = some (.string op) → w.cell? ⟨a.block, a.off + 1, none⟩ = some u → At w u e →
    Calls Tryd.prog 61 #[.pointer (some a)] w fun r w' => r = .returned (.string (op ++ ⟨#[58, 32]⟩ ++ e.text)) ∧ Below w.heap.size w w' := by
  have mF := methodErrF
  have mE := methodErrE
  induction e with
  | num c =>
    intro op a u w hok hsz h0 h1 hat
    obtain rfl := hat
    have hE := fun W => Error_num c hok.1 hok.2 W
    have n1 : ¬ 9223372036854775807 < op.size + 2 := by omega
    have n2 : ¬ 9223372036854775807 < op.size + 2 + (estr c).size := by have := estr_size c hok.1 hok.2; omega
    go_enter Tryd.func61, Tryd.ntmps61
    go_wp2
    go_region_held3 (fun w' => w'.cell? a = some (.string op) ∧ w'.cell? ⟨a.block, a.off + 1, none⟩ = some (.iface 27 (.int .i64 c)))
      (first | exact ⟨h0, h1⟩)
      (first
        | (go_at_call 11; refine (hE _).mono ?_; rintro e w4 ⟨rfl, rfl⟩))
    go_wp2
    go_ret
    exact ⟨rfl, (Below.refl _ _).drew⟩
  | wrap op2 e2 ih =>
    intro op a u w hok hsz h0 h1 hat
    obtain ⟨a2, u2, rfl, d0, d1, hat2⟩ := hat
    have e1 : (E.wrap op2 e2).text = op2 ++ ⟨#[58, 32]⟩ ++ e2.text := rfl
    have e2s : (ByteArray.mk #[58, 32]).size = 2 := rfl
    rw [e1] at hsz
    simp only [ByteArray.size_append, e2s] at hsz
    have n1 : ¬ 9223372036854775807 < op.size + 2 := by omega
    have n2 : ¬ 9223372036854775807 < op.size + 2 + (op2.size + 2 + e2.text.size) := by omega
    have hE := ih op2 a2 u2 w.drew hok (by omega) d0 d1 (hat2.below (Below.refl _ _).drew)
    go_enter Tryd.func61, Tryd.ntmps61
    go_wp2
    go_region_held3 (fun w' => w'.cell? a = some (.string op) ∧ w'.cell? ⟨a.block, a.off + 1, none⟩ = some (.iface 34 (.pointer (some a2))))
      (first | exact ⟨h0, h1⟩ | exact ⟨((undrew' g).cell (lt_cell h0)).trans h0, ((undrew' g).cell (lt_cell h1)).trans h1⟩)
      (first
        | (go_at_call 61; refine hE.mono ?_; rintro e w4 ⟨rfl, g⟩))
    go_wp2
    go_ret
    exact ⟨rfl, undrew' g⟩
  | two x y => intro op a u w hok; exact hok.elim
set_option maxRecDepth 100000 in
set_option maxHeartbeats 8000000 in
/-- fault.Text of a tree without joined ones. -/
theorem Text_tree {e : E} {v : Value} {w : World} (hok : e.ok) (hsz : e.text.size ≤ 1000000000) (hat : At w v e) :
    Calls Tryd.prog 10 #[v] w fun r w' => r = .returned (.string e.text) ∧ Below w.heap.size w w' := by
  have mF := methodErrF
  have mE := methodErrE
  cases e with
  | num c =>
    obtain rfl := hat
    have hE := fun W => Error_num c hok.1 hok.2 W
    go_enter Tryd.func10, Tryd.ntmps10
    go_wp2_with (first | (go_at_call 11; refine (hE _).mono ?_; rintro e w4 ⟨rfl, rfl⟩) | go_in)
    go_ret
    exact ⟨rfl, Below.refl _ _⟩
  | wrap op e2 =>
    obtain ⟨a, u, rfl, d0, d1, hat2⟩ := hat
    have e1 : (E.wrap op e2).text = op ++ ⟨#[58, 32]⟩ ++ e2.text := rfl
    have e2s : (ByteArray.mk #[58, 32]).size = 2 := rfl
    rw [e1] at hsz
    simp only [ByteArray.size_append, e2s] at hsz
    have hE := Error_fault e2 op a u w hok hsz d0 d1 hat2
    go_enter Tryd.func10, Tryd.ntmps10
    go_wp2_with (first | (go_at_call 61; refine hE.mono ?_; rintro e w4 ⟨rfl, g⟩) | go_in)
    go_ret
    exact ⟨rfl, g⟩
  | two x y => exact hok.elim
set_option maxRecDepth 100000 in
set_option maxHeartbeats 8000000 in
theorem Text_nil (w : World) : Calls Tryd.prog 10 #[.nilIface] w fun r w' => r = .returned (.string ⟨#[]⟩) ∧ w' = w := by
  go_enter Tryd.func10, Tryd.ntmps10
  go_wp2
  go_ret
  exact ⟨rfl, rfl⟩
end Go.Proofs.YtobcgomfbkcaeaaDoor.YErr
