/- Package store: Write. Under way. -/
import Derived.Test.YtbfflffekdadnaaDoorYStore
import Derived.Laws.CopyRow
import Derived.Laws.Slices
import Derived.Laws.IdiomCopy
import Derived.StillTailTactics
namespace Go.Proofs.YtbfflffekdadnaaDoor.YErr
open Go.RowKit Go.Extern.Stop Go.Stop Go.Extern Go.Proofs.YtbfflffekdadnaaDoorW.PrintWords Go.Proofs.YtbfflffekdadnaaDoorW.PrintLast
set_option linter.unusedVariables false
set_option linter.unusedSimpArgs false
theorem info_byte1 : (Tryd.prog.info? 5).map (·.size) = some 1 := by kernel_rfl
/-- The bytes xs at place a of a row of bytes. -/
def putAt (l : List Int) (a : Nat) (xs : List Int) : List Int := l.take a ++ xs ++ l.drop (a + xs.length)
/-- Just these bytes lie at a slice's place. -/
def Src (w : World) (A : Option Addr) (xs : List Int) : Prop := ∀ i, i < xs.length → ∃ q, A = some q ∧ w.cell? (q.add i) = some (.int .u8 (xs.getD i 0))
theorem copied {w : World} {b a n m c : Nat} {l xs : List Int} {q : Addr} (hB : Byt w b l) (hs : Src w (some q) xs) (ha : a + xs.length ≤ l.length) (hn : xs.length ≤ n) :
    (Builtin.copy_ #[59, 59] 3 #[.slice (some ⟨b, a, none⟩) n m, .slice (some q) xs.length c]).run Tryd.prog w = .ok (goInt xs.length) (w.setRow b ((putAt l a xs).map (Value.int .u8)).toArray) := by
  have h := run_copy_row (P := Tryd.prog) w 59 59 3 5 b a n m q xs.length c ((l.map (Value.int .u8)).toArray) 5 (xs.map (Value.int .u8)) Tryd.underlying59 info_byte1 hB (by rw [List.length_map]; exact (Nat.min_eq_left hn).symm)
    (fun j v hv => by
      have hj : j < xs.length := by have := (List.getElem?_eq_some_iff.1 hv).1; simpa using this
      obtain ⟨q', e, h⟩ := hs j hj
      cases e
      rw [h, ← hv]
      simp [List.getD, hj])
    (by simpa using ha) (fun v hv => by obtain ⟨x, _, rfl⟩ := List.mem_map.1 hv; rfl)
  simpa [putAt] using h
theorem copied' {w : World} {b a n m c : Nat} {l xs : List Int} {A : Option Addr} (hB : Byt w b l) (hs : Src w A xs) (ha : a + xs.length ≤ l.length) (hn : xs.length ≤ n) :
    (Builtin.copy_ #[59, 59] 3 #[.slice (some ⟨b, a, none⟩) n m, .slice A xs.length c]).run Tryd.prog w = .ok (goInt xs.length) (w.setRow b ((putAt l a xs).map (Value.int .u8)).toArray) := by
  cases xs with
  | nil =>
    have h := run_copy_none (P := Tryd.prog) w 59 59 3 5 (some ⟨b, a, none⟩) A n m 0 c Tryd.underlying59 info_byte1 (Nat.zero_min n)
    have e : putAt l a [] = l := by simp [putAt]
    rw [e, setRow_self w b _ 5 (0, 0) hB]
    exact h
  | cons x r =>
    obtain ⟨q, rfl, _⟩ := hs 0 (by simp)
    exact copied hB hs ha hn
theorem Src.take {w : World} {A : Option Addr} {xs : List Int} (h : Src w A xs) (n : Nat) : Src w A (xs.take n) := by
  intro i hi
  have hi' : i < n ∧ i < xs.length := by simp at hi; omega
  obtain ⟨q, e, hq⟩ := h i hi'.2
  refine ⟨q, e, ?_⟩
  rw [hq]
  simp [List.getD, hi'.1]

theorem bad_c (c : Int) (hc : c ≠ 0) (w : World) : Calls Tryd.prog 40 #[.int .i64 c] w fun e w' => ∃ v, e = .returned v ∧ ErrFrom op25 w.heap.size w' v c ∧ Below w.heap.size w w' := by
  have B := Wrap_from op25 c hc w
  have e : op25 = { data := #[115, 116, 111, 114, 101] } := rfl
  rw [e] at B ⊢
  clear e
  go_enter Tryd.func40, Tryd.ntmps40
  go_wp2_with (go_at_call 33; refine B.mono ?_; rintro e w3 ⟨v, rfl, hv, hb⟩)
  go_ret
  exact ⟨_, rfl, hv, hb⟩
/-- Nothing is touched but two blocks. -/
def Two (w w' : World) (p b : Nat) : Prop := w'.os = w.os ∧ w'.tape = w.tape ∧ w'.output = w.output ∧ w.heap.size ≤ w'.heap.size ∧ ∀ k, k < w.heap.size → k ≠ p → k ≠ b → w'.heap[k]? = w.heap[k]?
section
variable {w w' w2 : World} {p b : Nat}
theorem Two.refl (w : World) (p b : Nat) : Two w w p b := ⟨rfl, rfl, rfl, Nat.le_refl _, fun _ _ _ _ => rfl⟩
theorem Two.trans (h : Two w w' p b) (g : Two w' w2 p b) : Two w w2 p b :=
  ⟨g.1.trans h.1, g.2.1.trans h.2.1, g.2.2.1.trans h.2.2.1, Nat.le_trans h.2.2.2.1 g.2.2.2.1, fun k hk h1 h2 => (g.2.2.2.2 k (Nat.lt_of_lt_of_le hk h.2.2.2.1) h1 h2).trans (h.2.2.2.2 k hk h1 h2)⟩
theorem Two.set (h : Two w w' p b) (j : Nat) (v : Value) : Two w (w'.setCell ⟨p, j, none⟩ v) p b :=
  h.trans ⟨rfl, rfl, rfl, by simp [World.setCell], fun k _ h1 _ => Below.heap_setCell _ _ _ _ h1⟩
theorem Two.row (h : Two w w' p b) (cs : Array Value) : Two w (w'.setRow b cs) p b :=
  h.trans ⟨rfl, rfl, rfl, by simp, fun k _ _ h2 => setRow_other _ _ _ _ h2⟩
theorem Two.drew (h : Two w w' p b) : Two w w'.drew p b := h
theorem Two.drewN (h : Two w w' p b) (n : Nat) : Two w (w'.drewN n) p b := h
theorem Two.below (g : Below w.heap.size w w') : Two w w' p b := ⟨g.os, g.tape, g.output, g.size, fun k hk _ _ => g.block k hk⟩
theorem Two.grown {q : Nat} (g : w.grownBy w' (some q)) (hq : q = p ∨ q = b) : Two w w' p b := ⟨g.os, g.tape, g.output, g.size, fun k hk h1 h2 => g.block k hk (by rcases hq with rfl | rfl <;> simp [h1, h2])⟩
theorem Two.under {w0 : World} (h : Two w w' p b) (g : Below w0.heap.size w0 w) (hp : w0.heap.size ≤ p) (hb : w0.heap.size ≤ b) : Below w0.heap.size w0 w' :=
  ⟨h.1.trans g.os, h.2.1.trans g.tape, h.2.2.1.trans g.output, Nat.le_trans g.size h.2.2.2.1, fun k hk =>
    (h.2.2.2.2 k (Nat.lt_of_lt_of_le hk g.size) (by omega) (by omega)).trans (g.block k hk)⟩
theorem Blk.two {k : Nat} {cs : Array Value} {T : TypeId} (h : Blk w k cs T) (g : Two w w' p b) (h1 : k ≠ p) (h2 : k ≠ b) : Blk w' k cs T := (g.2.2.2.2 k h.lt h1 h2).trans h
theorem Blk.row {k : Nat} {cs : Array Value} {T : TypeId} (h : Blk w k cs T) (hk : k ≠ b) (cs' : Array Value) : Blk (w.setRow b cs') k cs T := (setRow_other _ _ _ _ hk).trans h
theorem Byt.row {l : List Int} (h : Byt w b l) (l' : List Int) : Byt (w.setRow b ((l'.map (Value.int .u8)).toArray)) b l' := setRow_heap _ _ _ _ _ _ h
theorem Src.keep {A : Option Addr} {xs : List Int} (h : Src w A xs) (hk : ∀ q : Addr, A = some q → 0 < xs.length → w'.heap[q.block]? = w.heap[q.block]?) : Src w' A xs := by
  intro i hi
  obtain ⟨q, rfl, hq⟩ := h i hi
  exact ⟨q, rfl, (World.cell?_of_block (w := w) (by rw [show (q.add i).block = q.block by unfold Addr.add; split <;> rfl]; exact hk q rfl (by omega))).trans hq⟩
end
theorem putAt_len {l : List Int} {a : Nat} {xs : List Int} (h : a + xs.length ≤ l.length) : (putAt l a xs).length = l.length := by
  unfold putAt; simp; omega
section
variable {w : World} {p b : Nat} {l : List Int} {left : Int}
theorem wrote {w' : World} {a : Nat} {xs : List Int} {left : Int} {down : Bool} (h : Sto w p b l left down) (an : a + xs.length ≤ l.length) (e : w' = w.setRow b ((putAt l a xs).map (Value.int .u8)).toArray) : Sto w' p b (putAt l a xs) left down := by
  subst e
  obtain ⟨h1, h2, h3, h4⟩ := h
  refine ⟨?_, Byt.row h2 _, h3, by rw [putAt_len an]; exact h4⟩
  rw [putAt_len an]
  exact Blk.row h1 (Ne.symm h3) _
set_option maxRecDepth 100000 in
set_option maxHeartbeats 4000000 in
theorem Write_free {a c : Nat} {A : Option Addr} {xs : List Int} (h : Sto w p b l left false) (hl : left < 0) (an : a + xs.length ≤ l.length) (hx : xs.length ≤ c) (hs : Src w A xs) (alt : a < l.length) :
    Calls Tryd.prog 27 #[.pointer (some ⟨p, 0, none⟩), .int .i64 (a : Int), .slice A xs.length c] w fun e w' => e = .returned .nilIface ∧ Sto w' p b (putAt l a xs) left false ∧ Two w w' p b := by
  have c0 : w.cell? ⟨p, 0, none⟩ = some (.slice (some ⟨b, 0, none⟩) l.length l.length) := Blk.cell h.1 0
  have c1 : w.cell? ⟨p, 1, none⟩ = some (.int .i64 left) := Blk.cell h.1 1
  have O := out_ok (a := (a : Int)) (n := (xs.length : Int)) h (by omega) (by omega) (by omega)
  have s1 : (a : Int) ≤ (l.length : Int) := by omega
  have s2 : (xs.length : Int) ≤ (c : Int) := by omega
  have s3 : ¬ l.length = a := by omega
  have CP := copied' (w := w.drew) (b := b) (a := a) (n := l.length - a) (m := l.length - a) (c := c) (A := A) (l := l) (xs := xs) h.2.1 hs an (by omega)
  have fin : Sto (w.drew.setRow b ((putAt l a xs).map (Value.int .u8)).toArray) p b (putAt l a xs) left false ∧ Two w (w.drew.setRow b ((putAt l a xs).map (Value.int .u8)).toArray) p b := ⟨wrote (w := w.drew) h an rfl, (Two.refl w p b).drew.row _⟩
  clear hs h
  go_enter Tryd.func27, Tryd.ntmps27
  go_wp2_with fail
  refine O.mono ?_; rintro e w1 ⟨rfl, rfl⟩
  go_wp2_with fail
  go_still_tail 9, (by kernel_rfl)
  go_wp2_with fail
  go_ret
  exact ⟨rfl, fin⟩
set_option maxRecDepth 100000 in
set_option maxHeartbeats 4000000 in
theorem Write_fits {a c m : Nat} {A : Option Addr} {xs : List Int} (h : Sto w p b l (m : Int) false) (hm : xs.length ≤ m) (mm : m ≤ 4096) (an : a + xs.length ≤ l.length) (hx : xs.length ≤ c) (hs : Src w A xs) (hp : ∀ q, A = some q → 0 < xs.length → q.block ≠ p) (alt : a < l.length) :
    Calls Tryd.prog 27 #[.pointer (some ⟨p, 0, none⟩), .int .i64 (a : Int), .slice A xs.length c] w fun e w' => e = .returned .nilIface ∧ Sto w' p b (putAt l a xs) ((m - xs.length : Nat) : Int) false ∧ Two w w' p b := by
  have c0 : w.cell? ⟨p, 0, none⟩ = some (.slice (some ⟨b, 0, none⟩) l.length l.length) := Blk.cell h.1 0
  have c1 : w.cell? ⟨p, 1, none⟩ = some (.int .i64 (m : Int)) := Blk.cell h.1 1
  have f1 := Blk.free h.1 1
  have O := out_ok (a := (a : Int)) (n := (xs.length : Int)) h (by omega) (by omega) (by omega)
  have s1 : (a : Int) ≤ (l.length : Int) := by omega
  have s2 : (xs.length : Int) ≤ (c : Int) := by omega
  have s3 : ¬ l.length = a := by omega
  have h2 := sto_left h ((m : Int) - xs.length)
  have hs2 : Src (w.setCell ⟨p, 1, none⟩ (.int .i64 ((m : Int) - xs.length))) A xs := hs.keep fun q hq h0 => Below.heap_setCell _ _ _ _ (hp q hq h0)
  have CP := copied' (w := (w.setCell ⟨p, 1, none⟩ (.int .i64 ((m : Int) - xs.length))).drew) (b := b) (a := a) (n := l.length - a) (m := l.length - a) (c := c) (A := A) (l := l) (xs := xs) h2.2.1 hs2 an (by omega)
  have fin : Sto ((w.setCell ⟨p, 1, none⟩ (.int .i64 ((m : Int) - xs.length))).drew.setRow b ((putAt l a xs).map (Value.int .u8)).toArray) p b (putAt l a xs) ((m - xs.length : Nat) : Int) false ∧ Two w ((w.setCell ⟨p, 1, none⟩ (.int .i64 ((m : Int) - xs.length))).drew.setRow b ((putAt l a xs).map (Value.int .u8)).toArray) p b :=
    ⟨wrote (w := (w.setCell ⟨p, 1, none⟩ (.int .i64 ((m : Int) - xs.length))).drew) (by rw [show ((m - xs.length : Nat) : Int) = (m : Int) - xs.length by omega]; exact h2) an rfl, ((Two.refl w p b).set 1 _).drew.row _⟩
  have m0 : (0 : Int) ≤ (m : Int) := by omega
  have m2 : (m : Int) ≤ 4096 := by omega
  have m1 : (xs.length : Int) ≤ (m : Int) := by omega
  have d0 : (w.setCell ⟨p, 1, none⟩ (.int .i64 ((m : Int) - xs.length))).cell? ⟨p, 0, none⟩ = some (.slice (some ⟨b, 0, none⟩) l.length l.length) := Blk.cell h2.1 0
  clear hs h hs2 h2 hp
  have D0 := Lib.hid d0
  clear d0
  go_enter Tryd.func27, Tryd.ntmps27
  go_wp2_with fail
  refine O.mono ?_; rintro e w1 ⟨rfl, rfl⟩
  go_wp2_with fail
  have d0 := D0.out
  clear D0 O c0 c1
  generalize w1.setCell ⟨p, 1, none⟩ (.int .i64 ((m : Int) - xs.length)) = w2 at *
  go_still_tail 9, (by kernel_rfl)
  go_wp2_with fail
  go_ret
  exact ⟨rfl, fin⟩
set_option maxRecDepth 100000 in
set_option maxHeartbeats 4000000 in
theorem Write_torn {a c m : Nat} {A : Option Addr} {xs : List Int} (h : Sto w p b l (m : Int) false) (hm : m < xs.length) (mm : m ≤ 4096) (an : a + xs.length ≤ l.length) (hx : xs.length ≤ c) (hs : Src w A xs) (hp : ∀ q, A = some q → 0 < xs.length → q.block ≠ p) (alt : a < l.length) :
    Calls Tryd.prog 27 #[.pointer (some ⟨p, 0, none⟩), .int .i64 (a : Int), .slice A xs.length c] w fun e w' => ∃ v, e = .returned v ∧ ErrFrom op25 w.heap.size w' v 40 ∧ Sto w' p b (putAt l a (xs.take m)) 0 true ∧ Two w w' p b := by
  have c0 : w.cell? ⟨p, 0, none⟩ = some (.slice (some ⟨b, 0, none⟩) l.length l.length) := Blk.cell h.1 0
  have c1 : w.cell? ⟨p, 1, none⟩ = some (.int .i64 (m : Int)) := Blk.cell h.1 1
  have c2 : w.cell? ⟨p, 2, none⟩ = some (.bool false) := Blk.cell h.1 2
  have f1 := Blk.free h.1 1
  have O := out_ok (a := (a : Int)) (n := (xs.length : Int)) h (by omega) (by omega) (by omega)
  have s1 : (a : Int) ≤ (l.length : Int) := by omega
  have s2 : (xs.length : Int) ≤ (c : Int) := by omega
  have s3 : ¬ l.length = a := by omega
  have h2 := sto_left h 0
  have hs2 : Src (w.setCell ⟨p, 1, none⟩ (.int .i64 0)) A (xs.take m) := (hs.keep fun q hq h0 => Below.heap_setCell _ _ _ _ (hp q hq h0)).take m
  have e : (xs.take m).length = m := by simp; omega
  have CP := copied' (w := (w.setCell ⟨p, 1, none⟩ (.int .i64 0)).drew) (b := b) (a := a) (n := l.length - a) (m := l.length - a) (c := c) (A := A) (l := l) (xs := xs.take m) h2.2.1 hs2 (by omega) (by omega)
  rw [e] at CP
  have k3 : Sto ((w.setCell ⟨p, 1, none⟩ (.int .i64 0)).drew.setRow b ((putAt l a (xs.take m)).map (Value.int .u8)).toArray) p b (putAt l a (xs.take m)) 0 false := wrote (w := (w.setCell ⟨p, 1, none⟩ (.int .i64 0)).drew) h2 (by omega) rfl
  have t3 : Two w ((w.setCell ⟨p, 1, none⟩ (.int .i64 0)).drew.setRow b ((putAt l a (xs.take m)).map (Value.int .u8)).toArray) p b := ((Two.refl w p b).set 1 _).drew.row _
  have g2 := Blk.free k3.1 2
  have e2 : ((w.setCell ⟨p, 1, none⟩ (.int .i64 0)).drew.setRow b ((putAt l a (xs.take m)).map (Value.int .u8)).toArray).cell? ⟨p, 2, none⟩ = some (.bool false) := Blk.cell k3.1 2
  have k4 : Sto (((w.setCell ⟨p, 1, none⟩ (.int .i64 0)).drew.setRow b ((putAt l a (xs.take m)).map (Value.int .u8)).toArray).setCell ⟨p, 2, none⟩ (.bool true)) p b (putAt l a (xs.take m)) 0 true :=
    ⟨k3.1.set 2 (.bool true), Blk.setOther k3.2.1 (Ne.symm k3.2.2.1) _, k3.2.2⟩
  have t4 := t3.set 2 (.bool true)
  generalize hW : ((w.setCell ⟨p, 1, none⟩ (.int .i64 0)).drew.setRow b ((putAt l a (xs.take m)).map (Value.int .u8)).toArray).setCell ⟨p, 2, none⟩ (.bool true) = W at *
  have B1 := bad_c 40 (by decide) W
  have m0 : (0 : Int) ≤ (m : Int) := by omega
  have m2 : (m : Int) ≤ 4096 := by omega
  have m1 : (m : Int) < (xs.length : Int) := by omega
  have m3 : (m : Int) ≤ (c : Int) := by omega
  have hz := t4.2.2.2.1
  have d0 : (w.setCell ⟨p, 1, none⟩ (.int .i64 0)).cell? ⟨p, 0, none⟩ = some (.slice (some ⟨b, 0, none⟩) l.length l.length) := Blk.cell h2.1 0
  clear hs h hs2 h2 hp e k3 t3
  have D0 := Lib.hid d0
  have HW := Lib.hid hW
  clear d0 hW
  go_enter Tryd.func27, Tryd.ntmps27
  go_wp2_with fail
  refine O.mono ?_; rintro e w1 ⟨rfl, rfl⟩
  go_wp2_with fail
  have d0 := D0.out
  have hW := HW.out
  clear D0 HW O c0 c1 c2
  generalize w1.setCell ⟨p, 1, none⟩ (.int .i64 0) = w2 at *
  go_still_tail 9, (by kernel_rfl)
  go_wp2_with fail
  refine B1.mono ?_; rintro e w3 ⟨v, rfl, hv, hb⟩
  go_wp2_with fail
  go_ret
  exact ⟨_, rfl, hv.mono hz, ⟨k4.1.keep hb, k4.2.1.keep hb, k4.2.2⟩, t4.trans (.below hb)⟩
end
end Go.Proofs.YtbfflffekdadnaaDoor.YErr
