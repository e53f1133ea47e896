/-
  Plain laws of contacts of circles, and the soundness of the separating axes.
  Conditions: stated in each law.
-/
import Derived.Test.YtcgcapfppceggaaCoL
import Derived.Test.YtcgcapfppceggaaVeM
namespace Go.Proofs.Ytcgcapfppceggaa.Co
open Go.RowKit Go.Proofs.Ytcgcapfppceggaa.FxMath Go.Proofs.Ytcgcapfppceggaa.FxA Go.Proofs.Ytcgcapfppceggaa.Ve Go.Proofs.Ytcgcapfppceggaa.Sh
set_option linter.unusedVariables false
set_option linter.unusedSimpArgs false
theorem un_ne (x y : Int) : ¬ (unx x y = 0 ∧ uny x y = 0) := by
  unfold unx uny
  split
  · omega
  · assumption
/-- An axis of a vector that is not short. -/
theorem axis_good {x y l : Int} (h : l = isq (x * x + y * y)) (hl : 1024 ≤ l) :
    (0 ≤ 1024 * x - l * unx x y ∧ 1024 * x - l * unx x y < l) ∧ (0 ≤ 1024 * y - l * uny x y ∧ 1024 * y - l * uny x y < l) ∧ unx x y * unx x y + uny x y * uny x y ≤ 1054728 := by
  have hs := isq_spec (x * x + y * y) (by have := sq0 x; have := sq0 y; omega)
  rw [← h] at hs
  have eu : nmx x y = x * 1024 / l := by unfold nmx; rw [← h]; exact fdv_pos _ _ (by omega)
  have ev : nmy x y = y * 1024 / l := by unfold nmy; rw [← h]; exact fdv_pos _ _ (by omega)
  have hu : 0 ≤ 1024 * x - l * nmx x y ∧ 1024 * x - l * nmx x y < l := by
    rw [eu]
    have a := Int.emod_add_mul_ediv (x * 1024) l
    have b := Int.emod_nonneg (x * 1024) (show l ≠ 0 by omega)
    have c := Int.emod_lt_of_pos (x * 1024) (show 0 < l by omega)
    omega
  have hv : 0 ≤ 1024 * y - l * nmy x y ∧ 1024 * y - l * nmy x y < l := by
    rw [ev]
    have a := Int.emod_add_mul_ediv (y * 1024) l
    have b := Int.emod_nonneg (y * 1024) (show l ≠ 0 by omega)
    have c := Int.emod_lt_of_pos (y * 1024) (show 0 < l by omega)
    omega
  have ub := Go.Proofs.Ytcgcapfppceggaa.VeM.unit_bd x y l (nmx x y) (nmy x y) hl hs.1 hs.2 hu hv
  have nn : 0 ≤ nmx x y * nmx x y + nmy x y * nmy x y := by have := sq0 (nmx x y); have := sq0 (nmy x y); omega
  have hq := (isq_spec _ nn).2
  have h2 : nmx x y * nmx x y + nmy x y * nmy x y < 1027 * 1027 := by
    have := sq_le (a := isq (nmx x y * nmx x y + nmy x y * nmy x y) + 1) (b := 1027) (by have := isq_nonneg (nmx x y * nmx x y + nmy x y * nmy x y); omega) (by omega)
    omega
  have hne : ¬ (nmx x y = 0 ∧ nmy x y = 0) := by
    rintro ⟨a, b⟩
    rw [a, b] at ub
    have : isq (0 * 0 + 0 * 0) = 0 := isq_neg _ (by decide)
    omega
  have e1 : unx x y = nmx x y := by unfold unx; rw [if_neg hne]
  have e2 : uny x y = nmy x y := by unfold uny; rw [if_neg hne]
  rw [e1, e2]
  exact ⟨hu, hv, by omega⟩
/-- The vector's length along its own axis. -/
theorem along {x y l u v : Int} (h : l = isq (x * x + y * y)) (hl : 1024 ≤ l) (hu : 0 ≤ 1024 * x - l * u ∧ 1024 * x - l * u < l) (hv : 0 ≤ 1024 * y - l * v ∧ 1024 * y - l * v < l) :
    1022 * l ≤ x * u + y * v ∧ x * u + y * v ≤ 1026 * l + 2048 := by
  have hs := isq_spec (x * x + y * y) (by have := sq0 x; have := sq0 y; omega)
  have ax := abs_le_isq x y
  have ay := abs_le_isq y x
  rw [Int.add_comm (y * y)] at ay
  rw [← h] at hs ax ay
  obtain ⟨r, hr⟩ : ∃ r, r = 1024 * x - l * u := ⟨_, rfl⟩
  obtain ⟨s, hs'⟩ : ∃ s, s = 1024 * y - l * v := ⟨_, rfl⟩
  rw [← hr] at hu
  rw [← hs'] at hv
  have e : l * (x * u + y * v) = 1024 * (x * x + y * y) - (x * r + y * s) := by
    have e1 : l * (x * u) = x * (l * u) := by grind
    have e2 : l * (y * v) = y * (l * v) := by grind
    rw [Int.mul_add, e1, e2, show l * u = 1024 * x - r by omega, show l * v = 1024 * y - s by omega]
    grind
  have m1 := mul_bd (a := x) (b := r) (A := l) (B := l) (by omega) (by omega) (by omega) (by omega)
  have m2 := mul_bd (a := y) (b := s) (A := l) (B := l) (by omega) (by omega) (by omega) (by omega)
  have lpos : 0 < l := by omega
  have e3 : (l + 1) * (l + 1) = l * l + 2 * l + 1 := by grind
  constructor
  · refine Int.le_of_mul_le_mul_left ?_ lpos
    rw [e, show l * (1022 * l) = 1022 * (l * l) by grind]
    omega
  · refine Int.le_of_mul_le_mul_left ?_ lpos
    rw [e, show l * (1026 * l + 2048) = 1026 * (l * l) + 2048 * l by grind]
    omega
theorem mid_diff (px py qx qy u v : Int) : (qx - px) * u + (qy - py) * v - 1024 < 1024 * ((qx * u + qy * v) / 1024 - (px * u + py * v) / 1024) ∧ 1024 * ((qx * u + qy * v) / 1024 - (px * u + py * v) / 1024) < (qx - px) * u + (qy - py) * v + 1024 := by
  have e : (qx - px) * u + (qy - py) * v = (qx * u + qy * v) - (px * u + py * v) := by grind
  rw [e]
  omega
/-- Two circles at a distance. -/
theorem circles_law {R1 R2 px py qx qy l : Int} (h1 : 1024 ≤ R1) (h2 : 1024 ≤ R2) (h : l = isq ((qx - px) * (qx - px) + (qy - py) * (qy - py))) (hl : 1024 ≤ l) :
    (cis R1 [] px py R2 [] qx qy = true → cdp R1 [] px py R2 [] qx qy ≤ R1 + R2 - l + (l / 256 + 3) ∧ l < R1 + R2 + (l / 256 + 3)) ∧ (cis R1 [] px py R2 [] qx qy = false → R1 + R2 - (l / 256 + 3) < l) := by
  obtain ⟨hu, hv, _⟩ := axis_good h hl
  have al := along h hl hu hv
  have md := mid_diff px py qx qy (unx (qx - px) (qy - py)) (uny (qx - px) (qy - py))
  have ax := abs_le_isq (qx - px) (qy - py)
  have ay := abs_le_isq (qy - py) (qx - px)
  rw [Int.add_comm ((qy - py) * (qy - py))] at ay
  rw [← h] at ax ay
  have e : cis R1 [] px py R2 [] qx qy = (ovl R1 [] px py R2 [] qx qy && decide (0 < dpt R1 [] px py R2 [] qx qy (unx (qx - px) (qy - py), uny (qx - px) (qy - py)))) := by
    unfold cis axs eax cax
    simp
  have e2 : cdp R1 [] px py R2 [] qx qy = if cis R1 [] px py R2 [] qx qy then dpt R1 [] px py R2 [] qx qy (unx (qx - px) (qy - py), uny (qx - px) (qy - py)) else 0 := by
    unfold cdp cbn axs eax cax bst
    simp [stp]
  have eo : ovl R1 [] px py R2 [] qx qy = (decide (px - R1 ≤ qx + R2) && decide (qx - R2 ≤ px + R1) && (decide (py - R1 ≤ qy + R2) && decide (qy - R2 ≤ py + R1))) := by
    unfold ovl bx0 bx1 by0 by1
    simp
  have ed : dpt R1 [] px py R2 [] qx qy (unx (qx - px) (qy - py), uny (qx - px) (qy - py)) = min ((px * unx (qx - px) (qy - py) + py * uny (qx - px) (qy - py)) / 1024 + R1) ((qx * unx (qx - px) (qy - py) + qy * uny (qx - px) (qy - py)) / 1024 + R2) - max ((px * unx (qx - px) (qy - py) + py * uny (qx - px) (qy - py)) / 1024 - R1) ((qx * unx (qx - px) (qy - py) + qy * uny (qx - px) (qy - py)) / 1024 - R2) := by
    unfold dpt ph pl phi plo
    simp
  rw [e2, e, ed, eo]
  generalize (px * unx (qx - px) (qy - py) + py * uny (qx - px) (qy - py)) / 1024 = mA at *
  generalize (qx * unx (qx - px) (qy - py) + qy * uny (qx - px) (qy - py)) / 1024 = mB at *
  generalize (qx - px) * unx (qx - px) (qy - py) + (qy - py) * uny (qx - px) (qy - py) = D at *
  clear e e2 ed eo hu hv h
  constructor
  · intro hc
    rw [hc, if_pos rfl]
    simp only [Bool.and_eq_true, decide_eq_true_eq] at hc
    omega
  · intro hc
    by_cases ho : (px - R1 ≤ qx + R2) ∧ (qx - R2 ≤ px + R1) ∧ (py - R1 ≤ qy + R2) ∧ (qy - R2 ≤ py + R1)
    · obtain ⟨o1, o2, o3, o4⟩ := ho
      simp only [o1, o2, o3, o4, decide_true, Bool.and_self, Bool.true_and, decide_eq_false_iff_not] at hc
      omega
    · omega
end Go.Proofs.Ytcgcapfppceggaa.Co
