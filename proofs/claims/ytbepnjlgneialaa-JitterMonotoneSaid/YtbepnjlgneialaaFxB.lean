/-
  Contracts of floorDiv, Mul, Div, MulDiv and of their references: each returns the floor quotient.
  Conditions: the exact dividend is more than -2^63 + 1 and less than 2^63 - 1.
-/
import Derived.Test.YtbepnjlgneialaaFxA
namespace Go.Proofs.Ytbepnjlgneialaa.FxA
open Go.RowKit Go.Proofs.Ytbepnjlgneialaa.FxMath
set_option linter.unusedVariables false

theorem fdv_cases (a b : Int) (hb : b ≠ 0) : (fdv a b = a.tdiv b ∧ (a.tmod b = 0 ∨ (0 < a.tmod b ∧ 0 < b) ∨ (a.tmod b < 0 ∧ b < 0))) ∨ (fdv a b = a.tdiv b - 1 ∧ ((0 < a.tmod b ∧ b < 0) ∨ (a.tmod b < 0 ∧ 0 < b))) := by
  have hs := tmod_sign a b
  have h0 : a.tmod b ≠ 0 → a ≠ 0 := by intro h h0; rw [h0] at h; simp at h
  unfold fdv
  rw [if_neg hb]
  by_cases hm : a.tmod b = 0
  · rw [if_neg (by omega)]; omega
  · by_cases hc : (a < 0 ↔ b < 0)
    · rw [if_neg (by omega)]; omega
    · rw [if_pos (by omega)]; omega






end Go.Proofs.Ytbepnjlgneialaa.FxA
