/- Lean functions, contracts and lemmas that this claim needs. No condition. -/
import Derived.Test.YtfcandmhalhaeaaDoorAYSCopy
import Derived.Test.YtfcandmhalhaeaaDoorAQSyx1
import Derived.Test.YtfcandmhalhaeaaDoorAQSyx2
import Derived.Test.YtfcandmhalhaeaaDoorAQSyx6
namespace Go.Proofs.YtfcandmhalhaeaaDoor.YSym
open Go.RowKit Go.Proofs.YtfcandmhalhaeaaDoor.YErr Go.Proofs.YtfcandmhalhaeaaDoor.QSy Go.Proofs.YtfcandmhalhaeaaDoorW.PrintWords Go.Proofs.YtfcandmhalhaeaaDoorW.PrintLast
set_option linter.unusedVariables false
set_option linter.unusedSimpArgs false
theorem rdC {w : World} {A : Option Addr} {l : List Int} (h : Rd w A l) (hl : l.length ≤ 1000) : (Kd.int .i64).C w A l.length l := by
  refine ⟨rfl, by omega, fun hp => ?_⟩
  obtain ⟨g, o, rfl, hc⟩ := h hp
  refine ⟨_, rfl, fun j p hj => ⟨[.int .i64 p], rfl, rfl, fun i u hu => ?_⟩⟩
  obtain ⟨hjl, rfl⟩ := List.getElem?_eq_some_iff.1 hj
  rcases i with _ | i
  · cases hu
    rw [addr_add, Nat.add_zero, show j * (Kd.int .i64).sz = j from Nat.mul_one j, hc j hjl]
    simp [List.getD, hjl]
  · simp at hu
theorem ownR {w : World} {base e : Nat} {ok : Nat → Prop} {v : Value} {l : List Int} (h : Kd.R (Kd.int .i64) e w base ok v l) : ∃ A c, v = .slice A l.length c ∧ w.ownsRow base e 1 (.slice A l.length c) l.length (l.map (Value.int .i64)) := by
  have h := Kd.own_of_R h
  obtain ⟨A, c, rfl⟩ := own_sl h
  exact ⟨A, c, rfl, h⟩
theorem drawn_below {B : Nat} {a w w' : World} (h : Below B a w) (hd : Drawn0 w w') : Below B a w' := by
  obtain ⟨n, rfl⟩ := hd
  exact below_drewN h n
theorem place_f {n i j : Nat} (hn : n ≤ 8) (hi : i ≤ n) (hj : j ≤ n) : sym_place.f n i j = some ((pl n i j : Nat) : Int) :=
  all3 (P := fun n i j => i ≤ n → j ≤ n → sym_place.f n i j = some ((pl n i j : Nat) : Int)) (by decide +kernel) hn (by omega) (by omega) hi hj
theorem at_f {n i j : Nat} (hn : n ≤ 8) (hi : i ≤ n) (hj : j ≤ n) : leadlineref1_at.f n i j = some ((pl n i j : Nat) : Int) :=
  all3 (P := fun n i j => i ≤ n → j ≤ n → leadlineref1_at.f n i j = some ((pl n i j : Nat) : Int)) (by decide +kernel) hn (by omega) (by omega) hi hj
theorem place_c {n i j : Nat} (hn : n ≤ 8) (hi : i ≤ n) (hj : j ≤ n) (W : World) : Calls Tryd.prog 37 #[.int .i64 n, .int .i64 i, .int .i64 j] W fun e w' => e = .returned (.int .i64 ((pl n i j : Nat) : Int)) ∧ ∃ m, w' = W.drewN m := by
  refine (sym_place.calls n i j _ W (place_f hn hi hj)).mono ?_
  rintro e w' ⟨rfl, m, rfl⟩
  exact ⟨rfl, m, rfl⟩
theorem at_c {n i j : Nat} (hn : n ≤ 8) (hi : i ≤ n) (hj : j ≤ n) (W : World) : Calls Tryd.prog 40 #[.int .i64 n, .int .i64 i, .int .i64 j] W fun e w' => e = .returned (.int .i64 ((pl n i j : Nat) : Int)) ∧ ∃ m, w' = W.drewN m := by
  refine (leadlineref1_at.calls n i j _ W (at_f hn hi hj)).mono ?_
  rintro e w' ⟨rfl, m, rfl⟩
  exact ⟨rfl, m, rfl⟩
theorem At_c {n i j : Nat} {w : World} {A : Option Addr} {c : Nat} {l : List Int} (R : Rd w A l) (hc : l.length ≤ c) (hn : n ≤ 8) (hi : i < n) (hj : j < n) (hl : l.length = tri n) :
    Calls Tryd.prog 16 #[.agg #[.int .i64 n, .slice A l.length c], .int .i64 i, .int .i64 j] w fun e w' => e = .returned (.int .i64 (l.getD (pl n i j) 0)) ∧ Below w.heap.size w w' := by
  have hp := pl_lt hn hi hj
  have ht := tri_le hn
  refine leadlineref1_At.calls n A c l i j _ w (rdC R (by omega)) hc ?_
  unfold leadlineref1_At.f
  rw [at_f hn (by omega) (by omega), Option.bind_some, if_pos (by omega), if_pos (by omega)]
  rfl
theorem room_f {n : Int} (h0 : 0 ≤ n) (h1 : n ≤ 8) : sym_room.f n = some (n * (n + 1) / 2) := by
  have h : ∀ m : Fin 9, sym_room.f (m.1 : Nat) = some (((m.1 : Nat) : Int) * (((m.1 : Nat) : Int) + 1) / 2) := by decide +kernel
  have := h ⟨n.toNat, by omega⟩
  rw [show (((⟨n.toNat, by omega⟩ : Fin 9).1 : Nat) : Int) = n by simp; omega] at this
  exact this
theorem roomw {n : Int} (h0 : 0 ≤ n) (h1 : n ≤ 8) : wrap64 (Int.tdiv (wrap64 (n * (wrap64 (n + 1)))) 2) = n * (n + 1) / 2 := Option.some.inj (room_f h0 h1)
theorem fits_f (x : Int) : sym_fits.f x = some (okE x) := by
  unfold sym_fits.f okE
  by_cases h : x ≥ -1073741824
  · rw [if_pos h, decide_eq_true (show -1073741824 ≤ x by omega), Bool.true_and]
  · rw [if_neg h, decide_eq_false (show ¬ -1073741824 ≤ x by omega), Bool.false_and]
theorem w64 {i : Nat} (h : i ≤ 10000) : wrap64 ((i : Int) + 1) = ((i + 1 : Nat) : Int) := by unfold wrap64; omega
theorem right_l (l : List Int) (hl : l.length ≤ 1000) : ∀ d i, i + d = l.length → ∀ k, d < k → sym_Right.l0 k l l.length (i : Nat) = some ((l.drop i).all okE) := by
  intro d
  induction d with
  | zero =>
    intro i hi k hk
    obtain ⟨k, rfl⟩ : ∃ m, k = m + 1 := ⟨k - 1, by omega⟩
    simp only [sym_Right.l0]
    rw [if_neg (by omega), List.drop_eq_nil_of_le (by omega)]
    rfl
  | succ d ih =>
    intro i hi k hk
    obtain ⟨k, rfl⟩ : ∃ m, k = m + 1 := ⟨k - 1, by omega⟩
    have hil : i < l.length := by omega
    simp only [sym_Right.l0]
    rw [if_pos (by omega), if_pos (by omega), if_pos (by omega), fits_f, Option.bind_some, show rd l (i : Int) = l[i] by simp [rd, List.getD, hil], w64 (by omega), ih (i + 1) (by omega) k (by omega), List.drop_eq_getElem_cons hil, List.all_cons]
    cases okE l[i] <;> simp
theorem Right_f (n : Int) (l : List Int) (hl : l.length ≤ 1000) : sym_Right.f 1100 n l = some (rightB n l) := by
  unfold sym_Right.f rightB
  by_cases h0 : n < 0
  · rw [if_pos h0, decide_eq_false (show ¬ 0 ≤ n by omega)]
    simp [sym_Right.j0]
  · by_cases h1 : n > 8
    · rw [if_neg h0, if_pos h1, decide_eq_false (show ¬ n ≤ 8 by omega)]
      simp [sym_Right.j0]
    · rw [if_neg h0, if_neg h1, room_f (by omega) (by omega), Option.bind_some, decide_eq_true (show 0 ≤ n by omega), decide_eq_true (show n ≤ 8 by omega)]
      have := right_l l hl l.length 0 (by omega) 1099 (by omega)
      rw [List.drop_zero, show ((0 : Nat) : Int) = 0 from rfl] at this
      by_cases h2 : (l.length : Int) = n * (n + 1) / 2
      · simp only [sym_Right.j0]
        rw [if_neg (by simp [h2]), this, decide_eq_true h2]
        simp
      · simp only [sym_Right.j0]
        rw [if_pos (by simp [h2]), decide_eq_false h2]
        simp
theorem Right_c {n : Int} {w : World} {A : Option Addr} {c : Nat} {l : List Int} (R : Rd w A l) (hc : l.length ≤ c) (hl : l.length ≤ 1000) :
    Calls Tryd.prog 10 #[.agg #[.int .i64 n, .slice A l.length c]] w fun e w' => e = .returned (.bool (rightB n l)) ∧ Below w.heap.size w w' :=
  sym_Right.calls 1100 n A c l _ w (rdC R hl) hc (Right_f n l hl)
theorem rright_l (n : Int) (l : List Int) (hl : l.length ≤ 1000) : ∀ d i, i + d = l.length → ∀ k, d < k → leadlineref1_SymRight.l0 k (i : Nat) n l = some ((l.drop i).all okE) := by
  intro d
  induction d with
  | zero =>
    intro i hi k hk
    obtain ⟨k, rfl⟩ : ∃ m, k = m + 1 := ⟨k - 1, by omega⟩
    simp only [leadlineref1_SymRight.l0]
    rw [if_neg (by omega), List.drop_eq_nil_of_le (by omega)]
    rfl
  | succ d ih =>
    intro i hi k hk
    obtain ⟨k, rfl⟩ : ∃ m, k = m + 1 := ⟨k - 1, by omega⟩
    have hil : i < l.length := by omega
    have ei : rd l (i : Int) = l[i] := by simp [rd, List.getD, hil]
    simp only [leadlineref1_SymRight.l0]
    rw [if_pos (by omega), if_pos (by omega), ei, w64 (by omega), ih (i + 1) (by omega) k (by omega), List.drop_eq_getElem_cons hil, List.all_cons]
    unfold okE
    by_cases h0 : l[i] > 1073741824
    · rw [if_pos h0, decide_eq_false (show ¬ l[i] ≤ 1073741824 by omega)]; simp
    · rw [if_neg h0, decide_eq_true (show l[i] ≤ 1073741824 by omega)]
      by_cases h1 : l[i] < -1073741824
      · rw [if_pos h1, decide_eq_false (show ¬ -1073741824 ≤ l[i] by omega)]; simp
      · rw [if_neg h1, decide_eq_true (show -1073741824 ≤ l[i] by omega)]; simp
theorem SymRight_f (n : Int) (l : List Int) (hl : l.length ≤ 1000) : leadlineref1_SymRight.f 1100 n l = some (rightB n l) := by
  unfold leadlineref1_SymRight.f rightB
  by_cases h0 : n < 0
  · rw [if_pos h0, decide_eq_false (show ¬ 0 ≤ n by omega)]
    simp [leadlineref1_SymRight.j0]
  · by_cases h1 : n > 8
    · rw [if_neg h0, if_pos h1, decide_eq_false (show ¬ n ≤ 8 by omega)]
      simp [leadlineref1_SymRight.j0]
    · rw [if_neg h0, if_neg h1, roomw (by omega) (by omega), decide_eq_true (show 0 ≤ n by omega), decide_eq_true (show n ≤ 8 by omega)]
      have := rright_l n l hl l.length 0 (by omega) 1099 (by omega)
      rw [List.drop_zero, show ((0 : Nat) : Int) = 0 from rfl] at this
      by_cases h2 : (l.length : Int) = n * (n + 1) / 2
      · simp only [leadlineref1_SymRight.j0]
        rw [if_neg (by simp [h2]), this, decide_eq_true h2]
        simp
      · simp only [leadlineref1_SymRight.j0]
        rw [if_pos (by simp [h2]), decide_eq_false h2]
        simp
theorem SymRight_c {n : Int} {w : World} {A : Option Addr} {c : Nat} {l : List Int} (R : Rd w A l) (hc : l.length ≤ c) (hl : l.length ≤ 1000) :
    Calls Tryd.prog 11 #[.agg #[.int .i64 n, .slice A l.length c]] w fun e w' => e = .returned (.bool (rightB n l)) ∧ Below w.heap.size w w' :=
  leadlineref1_SymRight.calls 1100 n A c l _ w (rdC R hl) hc (SymRight_f n l hl)
/-- Between 0 and 8. -/
def clip (n : Int) : Nat := if n ≤ 0 then 0 else if n ≤ 8 then n.toNat else 8
theorem clip_le (n : Int) : clip n ≤ 8 := by unfold clip; split; omega; split <;> omega
theorem clip_of {n : Nat} (h : n ≤ 8) : clip n = n := by unfold clip; split; omega; rw [if_pos (by omega)]; omega
theorem mnmx (n : Int) : mn (mx n 0) 8 = ((clip n : Nat) : Int) := by unfold mn mx clip; split <;> split <;> (try split) <;> (try split) <;> omega
theorem trii (n : Nat) : (n : Int) * ((n : Int) + 1) / 2 = ((tri n : Nat) : Int) := by unfold tri; simp
theorem New_f (n : Int) : sym_New.f n = some (((clip n : Nat) : Int), List.replicate (tri (clip n)) 0) := by
  have h := clip_le n
  have ht := tri_le h
  unfold sym_New.f
  rw [mnmx, room_f (by omega) (by omega), Option.bind_some, trii, if_pos (by omega), if_pos (by omega), Int.toNat_natCast]
theorem roomw' {n : Int} (h0 : 0 ≤ n) (h1 : n ≤ 8) : wrap64 (Int.tdiv (wrap64 (n * (n + 1))) 2) = n * (n + 1) / 2 := by
  have := roomw h0 h1
  rwa [show wrap64 (n + 1) = n + 1 by unfold wrap64; omega] at this
theorem SymNew_f (n : Int) : leadlineref1_SymNew.f n = some (((clip n : Nat) : Int), List.replicate (tri (clip n)) 0) := by
  have h := clip_le n
  have ht := tri_le h
  unfold leadlineref1_SymNew.f
  rw [mnmx, roomw' (by omega) (by omega), trii, if_pos (by omega), if_pos (by omega), Int.toNat_natCast]
theorem New_c (n : Int) (W : World) : Calls Tryd.prog 18 #[.int .i64 n] W fun e w' => ∃ A c, e = .returned (.agg #[.int .i64 ((clip n : Nat) : Int), .slice A (List.replicate (tri (clip n)) (0 : Int)).length c]) ∧ OwnI w' W.heap.size A c (List.replicate (tri (clip n)) 0) ∧ Below W.heap.size W w' := by
  refine (sym_New.calls n _ _ W (New_f n)).mono ?_
  rintro e w' ⟨v, rfl, h, b⟩
  obtain ⟨A, c, rfl, h'⟩ := ownR h
  exact ⟨A, c, rfl, h', b⟩
theorem SymNew_c (n : Int) (W : World) : Calls Tryd.prog 19 #[.int .i64 n] W fun e w' => ∃ A c, e = .returned (.agg #[.int .i64 ((clip n : Nat) : Int), .slice A (List.replicate (tri (clip n)) (0 : Int)).length c]) ∧ OwnI w' W.heap.size A c (List.replicate (tri (clip n)) 0) ∧ Below W.heap.size W w' := by
  refine (leadlineref1_SymNew.calls n _ _ W (SymNew_f n)).mono ?_
  rintro e w' ⟨v, rfl, h, b⟩
  obtain ⟨A, c, rfl, h'⟩ := ownR h
  exact ⟨A, c, rfl, h', b⟩
theorem ints_l (a b : List Int) (hl : a.length = b.length) (ha : a.length ≤ 1000) : ∀ d i, i + d = a.length → ∀ k, d < k → leadlinehelp_Ints.l0 k a b (i : Nat) = some (decide (a.drop i = b.drop i)) := by
  intro d
  induction d with
  | zero =>
    intro i hi k hk
    obtain ⟨k, rfl⟩ : ∃ m, k = m + 1 := ⟨k - 1, by omega⟩
    simp only [leadlinehelp_Ints.l0]
    rw [if_neg (by omega), List.drop_eq_nil_of_le (by omega), List.drop_eq_nil_of_le (by omega)]
    rfl
  | succ d ih =>
    intro i hi k hk
    obtain ⟨k, rfl⟩ : ∃ m, k = m + 1 := ⟨k - 1, by omega⟩
    have ha' : i < a.length := by omega
    have hb' : i < b.length := by omega
    simp only [leadlinehelp_Ints.l0]
    rw [if_pos (by omega), if_pos (by omega), if_pos (by omega), show rd a (i : Int) = a[i] by simp [rd, List.getD, ha'], show rd b (i : Int) = b[i] by simp [rd, List.getD, hb'], w64 (by omega), ih (i + 1) (by omega) k (by omega), List.drop_eq_getElem_cons ha', List.drop_eq_getElem_cons hb']
    by_cases h : a[i] = b[i]
    · rw [if_pos h]; congr 1; exact decide_eq_decide.2 ⟨fun e => by rw [h, e], fun e => (List.cons.inj e).2⟩
    · rw [if_neg h]; congr 1; symm; exact decide_eq_false (fun e => h (List.cons.inj e).1)
theorem Ints_f (a b : List Int) (ha : a.length ≤ 1000) : leadlinehelp_Ints.f 1100 a b = some (decide (a = b)) := by
  unfold leadlinehelp_Ints.f
  by_cases h : (a.length : Int) = b.length
  · rw [if_pos h]
    have := ints_l a b (by omega) ha a.length 0 (by omega) 1100 (by omega)
    simpa using this
  · rw [if_neg h, decide_eq_false (fun e => h (by rw [e]))]
theorem Ints_c {w : World} {A B : Option Addr} {c d : Nat} {a b : List Int} (R : Rd w A a) (hc : a.length ≤ c) (S : Rd w B b) (hd : b.length ≤ d) (ha : a.length ≤ 1000) (hb : b.length ≤ 1000) :
    Calls Tryd.prog 33 #[.slice A a.length c, .slice B b.length d] w fun e w' => e = .returned (.bool (decide (a = b))) ∧ Below w.heap.size w w' := by
  refine (leadlinehelp_Ints.calls 1100 A c a B d b _ w (rdC R ha) hc (rdC S hb) hd (Ints_f a b ha)).mono ?_
  rintro e w' ⟨rfl, g⟩
  exact ⟨rfl, drawn_below (Below.refl _ _) g⟩
theorem Syms_c {w : World} {n m : Int} {A B : Option Addr} {c d : Nat} {a b : List Int} (R : Rd w A a) (hc : a.length ≤ c) (S : Rd w B b) (hd : b.length ≤ d) (ha : a.length ≤ 1000) (hb : b.length ≤ 1000) :
    Calls Tryd.prog 17 #[.agg #[.int .i64 n, .slice A a.length c], .agg #[.int .i64 m, .slice B b.length d]] w fun e w' => e = .returned (.bool (decide (n = m ∧ a = b))) ∧ Below w.heap.size w w' := by
  refine leadlinehelp_Syms.calls 1100 n A c a m B d b _ w (rdC R ha) hc (rdC S hb) hd ?_
  unfold leadlinehelp_Syms.f
  by_cases h : n = m
  · rw [if_pos h, Ints_f a b ha, Option.bind_some]; simp [h]
  · rw [if_neg h]; simp [h]
end Go.Proofs.YtfcandmhalhaeaaDoor.YSym
