/-
  Plain laws of vectors: Cauchy-Schwarz, the triangle inequality, the length of a normalized vector.
  Conditions: stated in each law.
-/
import Derived.Test.YtcgcapfppceggaaFxMath
namespace Go.Proofs.Ytcgcapfppceggaa.VeM
open Go.Proofs.Ytcgcapfppceggaa.FxMath

theorem sq_nonneg (x : Int) : 0 ≤ x * x := by
  rcases Int.le_total 0 x with h | h
  · exact Int.mul_nonneg h h
  · exact Int.mul_nonneg_of_nonpos_of_nonpos h h

theorem cauchy_id (p q r s : Int) : (p * p + q * q) * (r * r + s * s) = (p * r + q * s) * (p * r + q * s) + (p * s - q * r) * (p * s - q * r) := by grind
theorem cauchy (p q r s : Int) : (p * r + q * s) * (p * r + q * s) ≤ (p * p + q * q) * (r * r + s * s) := by
  have h1 := cauchy_id p q r s
  have h2 := sq_nonneg (p * s - q * r)
  omega

/-- The inner product by the rounded lengths. -/
theorem inner_lt (p q r s : Int) : -((isq (p * p + q * q) + 1) * (isq (r * r + s * s) + 1)) < p * r + q * s ∧ p * r + q * s < (isq (p * p + q * q) + 1) * (isq (r * r + s * s) + 1) := by
  have n1 : 0 ≤ p * p + q * q := by have := sq_nonneg p; have := sq_nonneg q; omega
  have n2 : 0 ≤ r * r + s * s := by have := sq_nonneg r; have := sq_nonneg s; omega
  have a := (isq_spec _ n1).2
  have b := (isq_spec _ n2).2
  have a0 := isq_nonneg (p * p + q * q)
  have b0 := isq_nonneg (r * r + s * s)
  have c := cauchy p q r s
  generalize isq (p * p + q * q) = l at *
  generalize isq (r * r + s * s) = m at *
  generalize p * p + q * q = N at *
  generalize r * r + s * s = M at *
  generalize p * r + q * s = d at *
  have h1 : N * M ≤ N * ((m + 1) * (m + 1)) := Int.mul_le_mul_of_nonneg_left (by omega) n1
  have h2 : N * ((m + 1) * (m + 1)) < ((l + 1) * (l + 1)) * ((m + 1) * (m + 1)) := Int.mul_lt_mul_of_pos_right a (by have := sq_lt (a := 0) (b := m + 1) (by omega) (by omega); omega)
  have e : ((l + 1) * (l + 1)) * ((m + 1) * (m + 1)) = ((l + 1) * (m + 1)) * ((l + 1) * (m + 1)) := by grind
  have g0 : 0 ≤ (l + 1) * (m + 1) := Int.mul_nonneg (by omega) (by omega)
  have f1 : d < (l + 1) * (m + 1) := lt_of_sq g0 (by omega)
  have f2 : -d < (l + 1) * (m + 1) := lt_of_sq g0 (by rw [Int.neg_mul_neg]; omega)
  omega

theorem tri (p q r s : Int) : isq ((p + r) * (p + r) + (q + s) * (q + s)) ≤ isq (p * p + q * q) + isq (r * r + s * s) + 1 := by
  have n1 : 0 ≤ p * p + q * q := by have := sq_nonneg p; have := sq_nonneg q; omega
  have n2 : 0 ≤ r * r + s * s := by have := sq_nonneg r; have := sq_nonneg s; omega
  have a := (isq_spec _ n1).2
  have b := (isq_spec _ n2).2
  have a0 := isq_nonneg (p * p + q * q)
  have b0 := isq_nonneg (r * r + s * s)
  have c := (inner_lt p q r s).2
  have e : (p + r) * (p + r) + (q + s) * (q + s) = (p * p + q * q) + (r * r + s * s) + 2 * (p * r + q * s) := by grind
  refine isq_le _ _ (by omega) ?_
  rw [e]
  generalize isq (p * p + q * q) = l at *
  generalize isq (r * r + s * s) = m at *
  have g : (l + m + 1 + 1) * (l + m + 1 + 1) = (l + 1) * (l + 1) + (m + 1) * (m + 1) + 2 * ((l + 1) * (m + 1)) := by grind
  omega

/-- The length of a rounded unit vector. -/
theorem unit_bd (x y l u v : Int) (hl : 1024 ≤ l) (h1 : l * l ≤ x * x + y * y) (h2 : x * x + y * y < (l + 1) * (l + 1)) (hu : 0 ≤ 1024 * x - l * u ∧ 1024 * x - l * u < l) (hv : 0 ≤ 1024 * y - l * v ∧ 1024 * y - l * v < l) :
    1022 ≤ isq (u * u + v * v) ∧ isq (u * u + v * v) ≤ 1026 := by
  obtain ⟨r, hr⟩ : ∃ r, r = 1024 * x - l * u := ⟨_, rfl⟩
  obtain ⟨s, hs⟩ : ∃ s, s = 1024 * y - l * v := ⟨_, rfl⟩
  rw [← hr] at hu
  rw [← hs] at hv
  have hN0 : 0 ≤ u * u + v * v := by have := sq_nonneg u; have := sq_nonneg v; omega
  -- the squares
  have eS : l * l * (u * u + v * v) = (1024 * x - r) * (1024 * x - r) + (1024 * y - s) * (1024 * y - s) := by grind
  have i1 : 0 ≤ (1024 * x - 724 * r) * (1024 * x - 724 * r) + (1024 * y - 724 * s) * (1024 * y - 724 * s) := by
    have := sq_nonneg (1024 * x - 724 * r); have := sq_nonneg (1024 * y - 724 * s); omega
  have i2 : 0 ≤ (1024 * x + 724 * r) * (1024 * x + 724 * r) + (1024 * y + 724 * s) * (1024 * y + 724 * s) := by
    have := sq_nonneg (1024 * x + 724 * r); have := sq_nonneg (1024 * y + 724 * s); omega
  have e1 : (1024 * x - 724 * r) * (1024 * x - 724 * r) + (1024 * y - 724 * s) * (1024 * y - 724 * s) = 1048576 * (x * x + y * y) - 1448 * (1024 * (x * r + y * s)) + 524176 * (r * r + s * s) := by grind
  have e2 : (1024 * x + 724 * r) * (1024 * x + 724 * r) + (1024 * y + 724 * s) * (1024 * y + 724 * s) = 1048576 * (x * x + y * y) + 1448 * (1024 * (x * r + y * s)) + 524176 * (r * r + s * s) := by grind
  have e3 : (1024 * x - r) * (1024 * x - r) + (1024 * y - s) * (1024 * y - s) = 1048576 * (x * x + y * y) - 2 * (1024 * (x * r + y * s)) + (r * r + s * s) := by grind
  have rr : r * r ≤ l * l := sq_le hu.1 (by omega)
  have ss : s * s ≤ l * l := sq_le hv.1 (by omega)
  have r0 := sq_nonneg r
  have s0 := sq_nonneg s
  have ll : 1048576 * ((l + 1) * (l + 1)) ≤ 1050625 * (l * l) := by
    have h := sq_le (a := 1024 * (l + 1)) (b := 1025 * l) (by omega) (by omega)
    have f1 : (1024 * (l + 1)) * (1024 * (l + 1)) = 1048576 * ((l + 1) * (l + 1)) := by grind
    have f2 : (1025 * l) * (1025 * l) = 1050625 * (l * l) := by grind
    omega
  have lpos : 0 < l * l := Int.mul_pos (by omega) (by omega)
  have lo : 1044484 * (l * l) ≤ l * l * (u * u + v * v) := by omega
  have hi : l * l * (u * u + v * v) < 1054729 * (l * l) := by omega
  have lo' : 1044484 ≤ u * u + v * v := by
    refine Int.le_of_mul_le_mul_left ?_ lpos
    rw [Int.mul_comm (l * l) 1044484]; exact lo
  have hi' : u * u + v * v < 1054729 := by
    refine Int.lt_of_mul_lt_mul_left ?_ (Int.le_of_lt lpos)
    rw [Int.mul_comm (l * l) 1054729]; exact hi
  refine ⟨?_, isq_le _ _ (by decide) (by omega)⟩
  have hs := (isq_spec _ hN0).2
  have h0 := isq_nonneg (u * u + v * v)
  refine Int.not_lt.mp fun hc => ?_
  have := sq_le (a := isq (u * u + v * v) + 1) (b := 1022) (by omega) (by omega)
  omega
/-- A component of a rounded unit vector. -/
theorem comp_bd (x y l u : Int) (hl : 1024 ≤ l) (h2 : x * x + y * y < (l + 1) * (l + 1)) (hu : 0 ≤ 1024 * x - l * u ∧ 1024 * x - l * u < l) : -1026 ≤ u ∧ u ≤ 1026 := by
  have y0 := sq_nonneg y
  have hx : x < l + 1 := lt_of_sq (by omega) (by omega)
  have hx2 : -x < l + 1 := lt_of_sq (by omega) (by rw [Int.neg_mul_neg]; omega)
  constructor
  · refine Int.not_lt.mp fun hc => ?_
    have : l * u ≤ l * (-1027) := Int.mul_le_mul_of_nonneg_left (by omega) (by omega)
    omega
  · refine Int.not_lt.mp fun hc => ?_
    have : l * 1027 ≤ l * u := Int.mul_le_mul_of_nonneg_left (by omega) (by omega)
    omega
end Go.Proofs.Ytcgcapfppceggaa.VeM
