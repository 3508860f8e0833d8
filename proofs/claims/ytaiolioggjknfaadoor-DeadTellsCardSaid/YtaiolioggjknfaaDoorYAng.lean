/- Binary angles: sine and cosine, the program's and the reference's. No condition but the kind of the angle. -/
import Derived.Test.YtaiolioggjknfaaDoorQSnx10
import Derived.Test.YtaiolioggjknfaaDoorYBits
namespace Go.Proofs.YtaiolioggjknfaaDoor.YAng
open Go.RowKit Go.Proofs.YtaiolioggjknfaaDoor.QSn Go.Proofs.YtaiolioggjknfaaDoor.YBits Go.Proofs.YtaiolioggjknfaaDoorW.PrintWords Go.Proofs.YtaiolioggjknfaaDoorW.PrintLast
set_option linter.unusedVariables false
set_option linter.unusedSimpArgs false

theorem u16w (n : Int) : IntKind.u16.wrap n = n % 65536 := by simp [IntKind.wrap, IntKind.bits, IntKind.signed]
theorem i16w (n : Int) : IntKind.i16.wrap n = (n + 32768) % 65536 - 32768 := by
  simp [IntKind.wrap, IntKind.bits, IntKind.signed]
  split <;> omega
theorem u16_id (n : Int) (h0 : 0 ≤ n) (h1 : n < 2 ^ 16) : IntKind.u16.wrap n = n := by rw [u16w]; omega
theorem low14 (a : Int) (h0 : 0 ≤ a) (h1 : a < 65536) : Go.bits .and .u16 a 16383 = a % 16384 :=
  bits_mask .u16 16 (by decide) u16_id 14 (by decide) a h0 h1

/-- A sine within the first quarter. -/
def sn (x : Int) : Int := x * (51472 - (x * x / 16384) * (21024 - (x * x / 16384) * 2320 / 16384) / 16384) / 16384

theorem sine_tells (x : Int) (h0 : 0 ≤ x) (h1 : x ≤ 16384) : angle_sine.f x = some (sn x) ∧ 0 ≤ sn x ∧ sn x ≤ 51472 := by
  have hxx0 : 0 ≤ x * x := Int.mul_nonneg h0 h0
  have hxx1 : x * x ≤ 16384 * 16384 := Int.mul_le_mul h1 h1 h0 (by decide)
  unfold angle_sine.f sn
  rw [wid (x := x * x) (by omega) (by omega)]
  generalize ht : x * x / 16384 = t
  have t0 : 0 ≤ t := by omega
  have t1 : t ≤ 16384 := by omega
  rw [wid (x := t * 2320) (by omega) (by omega)]
  generalize hu : t * 2320 / 16384 = u
  have u0 : 0 ≤ u := by omega
  have u1 : u ≤ 2320 := by omega
  rw [wid (x := 21024 - u) (by omega) (by omega)]
  have p0 : 0 ≤ t * (21024 - u) := Int.mul_nonneg t0 (by omega)
  have p1 : t * (21024 - u) ≤ 16384 * 21024 := Int.mul_le_mul t1 (by omega) (by omega) (by decide)
  generalize hp : t * (21024 - u) = p at p0 p1 ⊢
  rw [wid (x := p) (by omega) (by omega)]
  generalize hv : p / 16384 = v
  have v0 : 0 ≤ v := by omega
  have v1 : v ≤ 21024 := by omega
  rw [wid (x := 51472 - v) (by omega) (by omega)]
  have q0 : 0 ≤ x * (51472 - v) := Int.mul_nonneg h0 (by omega)
  have q1 : x * (51472 - v) ≤ 16384 * 51472 := Int.mul_le_mul h1 (by omega) (by omega) (by decide)
  generalize hq : x * (51472 - v) = q at q0 q1 ⊢
  rw [wid (x := q) (by omega) (by omega)]
  exact ⟨rfl, by omega, by omega⟩

/-- The sine of any angle. -/
def sinN (a : Int) : Int := if a / 16384 = 0 then sn (a % 16384) else if a / 16384 = 1 then sn (16384 - a % 16384) else if a / 16384 = 2 then -sn (a % 16384) else -sn (16384 - a % 16384)

theorem sin_tells (a : Int) (h0 : 0 ≤ a) (h1 : a < 65536) : angle_Sin.f a = some (sinN a) ∧ -51472 ≤ sinN a ∧ sinN a ≤ 51472 := by
  obtain ⟨e1, l1, g1⟩ := sine_tells (a % 16384) (by omega) (by omega)
  obtain ⟨e2, l2, g2⟩ := sine_tells (16384 - a % 16384) (by omega) (by omega)
  unfold angle_Sin.f sinN
  rw [low14 a h0 h1, wid (x := a % 16384) (by omega) (by omega), wid (x := 16384 - a % 16384) (by omega) (by omega), e1, e2]
  simp only [Option.bind_some]
  have hq : a / 16384 = 0 ∨ a / 16384 = 1 ∨ a / 16384 = 2 ∨ a / 16384 = 3 := by omega
  rcases hq with hq | hq | hq | hq <;> simp only [hq] <;> simp
  · exact ⟨by omega, by omega⟩
  · exact ⟨by omega, by omega⟩
  · exact ⟨wid (by omega) (by omega), by omega, by omega⟩
  · exact ⟨wid (by omega) (by omega), by omega, by omega⟩

def cosN (a : Int) : Int := sinN ((a + 16384) % 65536)

theorem cos_tells (a : Int) : angle_Cos.f a = some (cosN a) ∧ -51472 ≤ cosN a ∧ cosN a ≤ 51472 := by
  obtain ⟨e, l, g⟩ := sin_tells ((a + 16384) % 65536) (by omega) (by omega)
  unfold angle_Cos.f cosN
  rw [u16w, e]
  exact ⟨rfl, l, g⟩

theorem sin_half (a : Int) (h0 : 0 ≤ a) (h1 : a < 65536) : sinN ((a + 32768) % 65536) = -sinN a := by
  have hm : ((a + 32768) % 65536) % 16384 = a % 16384 := by omega
  unfold sinN
  rw [hm]
  have hq : a / 16384 = 0 ∨ a / 16384 = 1 ∨ a / 16384 = 2 ∨ a / 16384 = 3 := by omega
  rcases hq with hq | hq | hq | hq
  · have h2 : (a + 32768) % 65536 / 16384 = 2 := by omega
    rw [hq, h2]; simp
  · have h2 : (a + 32768) % 65536 / 16384 = 3 := by omega
    rw [hq, h2]; simp
  · have h2 : (a + 32768) % 65536 / 16384 = 0 := by omega
    rw [hq, h2]; simp
  · have h2 : (a + 32768) % 65536 / 16384 = 1 := by omega
    rw [hq, h2]; simp

theorem cos_half (a : Int) : cosN ((a + 32768) % 65536) = -cosN a := by
  unfold cosN
  have e : ((a + 32768) % 65536 + 16384) % 65536 = ((a + 16384) % 65536 + 32768) % 65536 := by omega
  rw [e, sin_half _ (by omega) (by omega)]

theorem ref_sin (a : Int) : leadlineref1_Sin.f a = if a / 16384 = 0 then (angle_sine.f (wrap64 (Go.bits .and .u16 a 16383))) else if a / 16384 = 1 then (angle_sine.f (wrap64 (16384 - (wrap64 (Go.bits .and .u16 a 16383))))) else if a / 16384 = 2 then ((angle_sine.f (wrap64 (Go.bits .and .u16 a 16383))).bind fun t => some (wrap64 (-t))) else ((angle_sine.f (wrap64 (16384 - (wrap64 (Go.bits .and .u16 a 16383))))).bind fun t => some (wrap64 (-t))) := by
  unfold leadlineref1_Sin.f leadlineref1_quarter.f angle_sine.f
  simp only [Option.bind_some]

theorem ref_sin_tells (a : Int) (h0 : 0 ≤ a) (h1 : a < 65536) : leadlineref1_Sin.f a = some (sinN a) := by
  obtain ⟨e1, l1, g1⟩ := sine_tells (a % 16384) (by omega) (by omega)
  obtain ⟨e2, l2, g2⟩ := sine_tells (16384 - a % 16384) (by omega) (by omega)
  rw [ref_sin]
  unfold sinN
  rw [low14 a h0 h1, wid (x := a % 16384) (by omega) (by omega), wid (x := 16384 - a % 16384) (by omega) (by omega), e1, e2]
  simp only [Option.bind_some]
  have hq : a / 16384 = 0 ∨ a / 16384 = 1 ∨ a / 16384 = 2 ∨ a / 16384 = 3 := by omega
  rcases hq with hq | hq | hq | hq <;> simp only [hq] <;> simp
  · exact wid (by omega) (by omega)
  · exact wid (by omega) (by omega)

theorem ref_cos_tells (a : Int) : leadlineref1_Cos.f a = some (cosN a) := by
  have e := ref_sin_tells ((a + 16384) % 65536) (by omega) (by omega)
  unfold leadlineref1_Cos.f cosN
  rw [u16w, e]; rfl

end Go.Proofs.YtaiolioggjknfaaDoor.YAng
