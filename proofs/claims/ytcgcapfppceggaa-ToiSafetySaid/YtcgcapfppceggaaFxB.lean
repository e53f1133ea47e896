/-
  Contracts of floorDiv, Mul, Div, MulDiv and of their references: each returns the floor quotient.
  Conditions: the exact dividend is more than -2^63 + 1 and less than 2^63 - 1.
-/
import Derived.Test.YtcgcapfppceggaaFxA
namespace Go.Proofs.Ytcgcapfppceggaa.FxA
open Go.RowKit Go.Proofs.Ytcgcapfppceggaa.FxMath
set_option linter.unusedVariables false

theorem fdv_cases (a b : Int) (hb : b ≠ 0) : (fdv a b = a.tdiv b ∧ (a.tmod b = 0 ∨ (0 < a.tmod b ∧ 0 < b) ∨ (a.tmod b < 0 ∧ b < 0))) ∨ (fdv a b = a.tdiv b - 1 ∧ ((0 < a.tmod b ∧ b < 0) ∨ (a.tmod b < 0 ∧ 0 < b))) := by
  have hs := tmod_sign a b
  have h0 : a.tmod b ≠ 0 → a ≠ 0 := by intro h h0; rw [h0] at h; simp at h
  unfold fdv
  rw [if_neg hb]
  by_cases hm : a.tmod b = 0
  · rw [if_neg (by omega)]; omega
  · by_cases hc : (a < 0 ↔ b < 0)
    · rw [if_neg (by omega)]; omega
    · rw [if_pos (by omega)]; omega

theorem floorDiv_zero (a : Int) (w : World) : Calls Try.prog 87 #[.int .i64 a, .int .i64 0] w fun e w' => e = .returned (.int .i64 0) ∧ w = w' := by
  go_enter Try.func87, Try.ntmps87
  go_wp2
  go_ret
  exact ⟨rfl, rfl⟩

theorem floorDiv_some (a b : Int) (w : World) (h0 : -9223372036854775806 ≤ a) (h1 : a ≤ 9223372036854775806) (hb : (b == 0) = false) :
    Calls Try.prog 87 #[.int .i64 a, .int .i64 b] w fun e w' => e = .returned (.int .i64 (fdv a b)) ∧ ∃ n, w' = w.drewN n := by
  have hb0 : b ≠ 0 := by simpa using hb
  have hc := Lib.hid (fdv_cases a b hb0)
  have hq := tdiv_le a b
  have hq1 : -9223372036854775806 ≤ a.tdiv b := by omega
  have hq2 : a.tdiv b ≤ 9223372036854775806 := by omega
  clear hq
  have hw1 : IntKind.i64.wrap (a.tdiv b) = a.tdiv b := IntWalk.i64_in _ (by omega)
  go_enter Try.func87, Try.ntmps87
  go_wp2
  go_quiet (fail)
  go_wp2
  all_goals
    go_ret
    refine ⟨ret_int ?_, _, rfl⟩
    have hc' := hc.out
    omega

/-- floorDiv at every divisor. -/
theorem floorDiv_any (a b : Int) (w : World) (h0 : -9223372036854775806 ≤ a) (h1 : a ≤ 9223372036854775806) :
    Calls Try.prog 87 #[.int .i64 a, .int .i64 b] w fun e w' => e = .returned (.int .i64 (fdv a b)) ∧ ∃ n, w' = w.drewN n := by
  by_cases hb : b = 0
  · subst hb
    refine (floorDiv_zero a w).mono ?_
    rintro e w' ⟨rfl, rfl⟩
    exact ⟨by rw [fdv_zero], 0, rfl⟩
  · exact floorDiv_some a b w h0 h1 (by simpa using hb)



theorem mulDiv_any (a b c : Int) (w : World) (h0 : -9223372036854775806 ≤ a * b) (h1 : a * b ≤ 9223372036854775806) :
    Calls Try.prog 75 #[.int .i64 a, .int .i64 b, .int .i64 c] w fun e w' => e = .returned (.int .i64 (fdv (a * b) c)) ∧ ∃ n, w' = w.drewN n := by
  go_enter Try.func75, Try.ntmps75
  go_wp2_with (go_at_call 87; refine (floorDiv_any _ _ _ h0 h1).mono ?_; rintro e w' ⟨rfl, n, rfl⟩)
  go_ret
  exact ⟨rfl, _, rfl⟩
end Go.Proofs.Ytcgcapfppceggaa.FxA
