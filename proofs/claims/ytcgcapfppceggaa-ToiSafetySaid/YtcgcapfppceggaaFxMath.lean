/-
  Plain laws of floor quotients and integer square roots (no program in sight).
  Conditions: stated in each law.
-/
import Derived.Lib.Hide
namespace Go.Proofs.Ytcgcapfppceggaa.FxMath

/-- The quotient rounded toward negative infinity, 0 for a divisor 0. -/
def fdv (a b : Int) : Int := if b = 0 then 0 else if a.tmod b ≠ 0 ∧ ¬ (a < 0 ↔ b < 0) then a.tdiv b - 1 else a.tdiv b

theorem fdv_zero (a : Int) : fdv a 0 = 0 := by simp [fdv]

theorem tmod_sign (a b : Int) : (0 ≤ a → 0 ≤ a.tmod b) ∧ (a ≤ 0 → a.tmod b ≤ 0) := by
  constructor
  · intro h; exact Int.tmod_nonneg b h
  · intro h
    have := Int.tmod_nonneg (a := -a) b (by omega)
    rw [Int.neg_tmod] at this; omega

theorem tmod_abs (a b : Int) (hb : b ≠ 0) : -(b.natAbs : Int) < a.tmod b ∧ a.tmod b < b.natAbs := by
  have h := Int.natAbs_tmod a b
  have h2 : a.natAbs % b.natAbs < b.natAbs := Nat.mod_lt _ (by omega)
  rw [← h] at h2
  omega

/-- The remainder of the floor quotient has the divisor's sign. -/
theorem fdv_spec (a b : Int) (hb : b ≠ 0) : (0 < b → 0 ≤ a - b * fdv a b ∧ a - b * fdv a b < b) ∧ (b < 0 → a - b * fdv a b ≤ 0 ∧ b < a - b * fdv a b) := by
  have h1 := Int.mul_tdiv_add_tmod a b
  have h2 := tmod_sign a b
  have h3 := tmod_abs a b hb
  have h4 : b * (a.tdiv b - 1) = b * a.tdiv b - b := by rw [Int.mul_sub, Int.mul_one]
  unfold fdv
  rw [if_neg hb]
  by_cases hm : a.tmod b = 0
  · rw [if_neg (by simp [hm])]; omega
  · by_cases ha : a < 0 <;> by_cases hbn : b < 0
    · rw [if_neg (by simp [ha, hbn])]; omega
    · rw [if_pos ⟨hm, by simp [ha, hbn]⟩, h4]; omega
    · rw [if_pos ⟨hm, by simp [ha, hbn]⟩, h4]; omega
    · rw [if_neg (by simp [ha, hbn])]; omega

theorem fdv_unique (a b q : Int) (hb : 0 < b) (h : 0 ≤ a - b * q ∧ a - b * q < b) : fdv a b = q := by
  have hs := (fdv_spec a b (by omega)).1 hb
  have hd : b * (fdv a b - q) = b * fdv a b - b * q := Int.mul_sub b _ q
  have hlt : fdv a b - q < 1 := by
    refine Int.not_le.mp fun hc => ?_
    have := Int.mul_le_mul_of_nonneg_left hc (Int.le_of_lt hb)
    omega
  have hgt : -1 < fdv a b - q := by
    refine Int.not_le.mp fun hc => ?_
    have := Int.mul_le_mul_of_nonneg_left hc (Int.le_of_lt hb)
    omega
  omega

theorem fdv_pos (a b : Int) (hb : 0 < b) : fdv a b = a / b := by
  refine fdv_unique a b _ hb ?_
  have h1 := Int.mul_ediv_add_emod a b
  have h2 := Int.emod_nonneg a (show b ≠ 0 by omega)
  have h3 := Int.emod_lt_of_pos a hb
  omega

theorem fdv_neg_neg (a b : Int) (hb : b ≠ 0) : fdv (-a) (-b) = fdv a b := by
  unfold fdv
  rw [if_neg (by omega), if_neg hb, Int.neg_tdiv, Int.tdiv_neg, Int.neg_tmod, Int.tmod_neg, Int.neg_neg]
  have ht : a.tmod b ≠ 0 → a ≠ 0 := by intro h h0; rw [h0] at h; simp at h
  by_cases hm : a.tmod b = 0
  · rw [if_neg (by omega), if_neg (by omega)]
  · have h0 := ht hm
    by_cases hc : (a < 0 ↔ b < 0)
    · rw [if_neg (by omega), if_neg (by omega)]
    · rw [if_pos (by omega), if_pos (by omega)]

theorem fdv_neg (a b : Int) (hb : b < 0) : fdv a b = (-a) / (-b) := by
  rw [← fdv_neg_neg a b (by omega), fdv_pos _ _ (by omega)]

/-- The size of the truncated quotient. -/
theorem tdiv_le (a b : Int) : -(a.natAbs : Int) ≤ a.tdiv b ∧ a.tdiv b ≤ a.natAbs := by
  have h := Int.natAbs_tdiv a b
  have h2 : a.natAbs / b.natAbs ≤ a.natAbs := Nat.div_le_self _ _
  have h3 : (a.tdiv b).natAbs = a.natAbs / b.natAbs := h
  omega

theorem fdv_le (a b : Int) : -(a.natAbs : Int) - 1 ≤ fdv a b ∧ fdv a b ≤ a.natAbs := by
  unfold fdv
  split
  · omega
  · have := tdiv_le a b
    split <;> omega

/-! ### The square root, rounded down -/
def rootN : Nat → Nat
  | 0 => 0
  | n + 1 => if (rootN n + 1) * (rootN n + 1) ≤ n + 1 then rootN n + 1 else rootN n

theorem rootN_spec (n : Nat) : rootN n * rootN n ≤ n ∧ n < (rootN n + 1) * (rootN n + 1) := by
  induction n with
  | zero => simp [rootN]
  | succ n ih =>
    unfold rootN
    split
    · rename_i h
      refine ⟨h, ?_⟩
      have e : (rootN n + 1 + 1) * (rootN n + 1 + 1) = (rootN n + 1) * (rootN n + 1) + 2 * (rootN n + 1) + 1 := by simp only [Nat.add_mul, Nat.mul_add]; omega
      omega
    · rename_i h; exact ⟨by omega, by omega⟩

/-- The square root of an integer, rounded down; 0 for negative numbers. -/
def isq (n : Int) : Int := (rootN n.toNat : Nat)

theorem isq_nonneg (n : Int) : 0 ≤ isq n := by unfold isq; omega

theorem isq_spec (n : Int) (h : 0 ≤ n) : isq n * isq n ≤ n ∧ n < (isq n + 1) * (isq n + 1) := by
  have := rootN_spec n.toNat
  unfold isq
  constructor
  · have h1 : ((rootN n.toNat * rootN n.toNat : Nat) : Int) ≤ (n.toNat : Int) := by exact_mod_cast this.1
    rw [Int.natCast_mul] at h1; omega
  · have h1 : (n.toNat : Int) < (((rootN n.toNat + 1) * (rootN n.toNat + 1) : Nat) : Int) := by exact_mod_cast this.2
    rw [Int.natCast_mul] at h1; push_cast at h1; omega

theorem isq_neg (n : Int) (h : n ≤ 0) : isq n = 0 := by
  unfold isq; rw [show n.toNat = 0 by omega]; rfl

/-- Squares grow. -/
theorem sq_lt {a b : Int} (ha : 0 ≤ a) (h : a < b) : a * a < b * b := by
  have h1 : a * a ≤ a * b := Int.mul_le_mul_of_nonneg_left (by omega) ha
  have h2 : a * b < b * b := Int.mul_lt_mul_of_pos_right h (by omega)
  omega
theorem sq_le {a b : Int} (ha : 0 ≤ a) (h : a ≤ b) : a * a ≤ b * b := by
  rcases Int.lt_or_eq_of_le h with h | h
  · exact Int.le_of_lt (sq_lt ha h)
  · rw [h]; exact Int.le_refl _
theorem lt_of_sq {a b : Int} (hb : 0 ≤ b) (h : a * a < b * b) : a < b := by
  refine Int.not_le.mp fun hc => ?_
  have := sq_le hb hc; omega
theorem le_of_sq {a b : Int} (hb : 0 ≤ b) (h : a * a ≤ b * b) : a ≤ b := by
  refine Int.not_lt.mp fun hc => ?_
  have := sq_lt hb hc; omega

theorem isq_unique (n r : Int) (hr : 0 ≤ r) (h1 : r * r ≤ n) (h2 : n < (r + 1) * (r + 1)) : isq n = r := by
  have hn : 0 ≤ n := Int.le_trans (Int.mul_nonneg hr hr) h1
  have hs := isq_spec n hn
  have h0 := isq_nonneg n
  have a1 : isq n < r + 1 := lt_of_sq (by omega) (by omega)
  have a2 : r < isq n + 1 := lt_of_sq (by omega) (by omega)
  omega

theorem isq_mono (m n : Int) (h : m ≤ n) : isq m ≤ isq n := by
  by_cases hm : 0 ≤ m
  · have h1 := isq_spec m hm
    have h2 := isq_spec n (by omega)
    have := lt_of_sq (a := isq m) (b := isq n + 1) (by have := isq_nonneg n; omega) (by omega)
    omega
  · rw [isq_neg m (by omega)]; exact isq_nonneg n

theorem isq_le (n r : Int) (hr : 0 ≤ r) (h : n < (r + 1) * (r + 1)) : isq n ≤ r := by
  by_cases hn : 0 ≤ n
  · have h1 := isq_spec n hn
    have := lt_of_sq (a := isq n) (b := r + 1) (by omega) (by omega)
    omega
  · rw [isq_neg n (by omega)]; exact hr
end Go.Proofs.Ytcgcapfppceggaa.FxMath
