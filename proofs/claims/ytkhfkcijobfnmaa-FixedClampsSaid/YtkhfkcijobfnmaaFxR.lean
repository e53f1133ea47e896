/-
  Contracts of Isqrt at every number, of the reference's Isqrt, and of Sqrt, Clamp, Abs, Sign with their references.
  Conditions: the reference's Isqrt: numbers up to 2^62; Sqrt: numbers whose product with One fits.
-/
import Derived.Test.YtkhfkcijobfnmaaFxI
namespace Go.Proofs.Ytkhfkcijobfnmaa.FxA
open Go.RowKit Go.Proofs.Ytkhfkcijobfnmaa.FxMath
set_option linter.unusedVariables false

theorem isqrt_any (n : Int) (w : World) (h1 : n ≤ 9223372036854775807) :
    Calls Try.prog 15 #[.int .i64 n] w fun e w' => e = .returned (.int .i64 (isq n)) ∧ w = w' := by
  by_cases h0 : 0 < n
  · exact isqrt_pos n w h0 h1
  · have hn : n ≤ 0 := by omega
    go_enter Try.func15, Try.ntmps15
    go_wp2
    go_step3
    go_wp2
    rw [Exit.noGoto_ret]
    go_ret
    exact ⟨ret_int (isq_neg n hn).symm, rfl⟩

theorem mid_bd (lo hi : Int) (h0 : 0 ≤ lo) (h1 : hi ≤ 2147483649) (h : lo + 1 < hi) : 0 ≤ (lo + (hi - lo) / 2) * (lo + (hi - lo) / 2) ∧ (lo + (hi - lo) / 2) * (lo + (hi - lo) / 2) ≤ 4611686018427387904 := by
  have a : 0 ≤ lo + (hi - lo) / 2 := by omega
  have b : lo + (hi - lo) / 2 ≤ 2147483648 := by omega
  have := sq_le a b
  exact ⟨Int.mul_nonneg a a, by omega⟩

theorem risqrt_nonneg (n : Int) (w : World) (h0 : 0 ≤ n) (h1 : n ≤ 4611686018427387904) :
    Calls Try.prog 21 #[.int .i64 n] w fun e w' => e = .returned (.int .i64 (isq n)) ∧ w = w' := by
  go_enter Try.func21, Try.ntmps21
  go_wp2
  go_loop [3, 4] (fun l h => ∃ lo hi : Int, 0 ≤ lo ∧ lo < hi ∧ hi ≤ 2147483649 ∧ Hid (lo * lo ≤ n) ∧ Hid (n < hi * hi) ∧ l = .int .i64 lo ∧ h = .int .i64 hi) (fun l h => (intOf h - intOf l).toNat)
  case atStart => exact ⟨0, 2147483649, by omega, by omega, by omega, Lib.hid (by omega), Lib.hid (by omega), rfl, rfl⟩
  case round =>
    obtain ⟨lo, hi, hb0, hb1, hb2, H1, H2, rfl, rfl⟩ := hrel
    by_cases hlt : 1 < hi - lo
    · have hm := mid_bd lo hi hb0 hb2 (by omega)
      obtain ⟨m, hmid⟩ : ∃ m, m = lo + (hi - lo) / 2 := ⟨_, rfl⟩
      have hm1 : lo < m := by omega
      have hm2 : m < hi := by omega
      go_wp2
      · go_round
        case rel => exact ⟨lo + (hi - lo) / 2, hi, by omega, by omega, by omega, Lib.hid (by assumption), H2, rfl, rfl⟩
        case measure => simp [intOf]; omega
      · go_round
        case rel => exact ⟨lo, lo + (hi - lo) / 2, by omega, by omega, by omega, H1, Lib.hid (by assumption), rfl, rfl⟩
        case measure => simp [intOf]; omega
    · go_wp2
      go_ret
      have e : hi = lo + 1 := by omega
      subst e
      exact ⟨ret_int (isq_unique n lo hb0 H1.out H2.out).symm, rfl⟩

theorem risqrt_any (n : Int) (w : World) (h1 : n ≤ 4611686018427387904) :
    Calls Try.prog 21 #[.int .i64 n] w fun e w' => e = .returned (.int .i64 (isq n)) ∧ w = w' := by
  by_cases h0 : 0 ≤ n
  · exact risqrt_nonneg n w h0 h1
  · have hn : n < 0 := by omega
    go_enter Try.func21, Try.ntmps21
    go_wp2
    go_ret
    exact ⟨ret_int (isq_neg n (by omega)).symm, rfl⟩

theorem sqrt_any (n : Int) (w : World) (h1 : n ≤ 9007199254740991) :
    Calls Try.prog 22 #[.int .i64 n] w fun e w' => e = .returned (.int .i64 (isq (n * 1024))) ∧ w = w' := by
  by_cases h0 : n < 0
  · go_enter Try.func22, Try.ntmps22
    go_wp2
    go_ret
    exact ⟨ret_int (isq_neg _ (by omega)).symm, rfl⟩
  · go_enter Try.func22, Try.ntmps22
    go_wp2_with (go_at_call 15; refine (isqrt_any _ _ (by omega)).mono ?_; rintro e w' ⟨rfl, rfl⟩)
    go_ret
    exact ⟨rfl, rfl⟩
theorem rsqrt_any (n : Int) (w : World) (h1 : n ≤ 4503599627370496) :
    Calls Try.prog 23 #[.int .i64 n] w fun e w' => e = .returned (.int .i64 (isq (n * 1024))) ∧ w = w' := by
  by_cases h0 : n < 0
  · go_enter Try.func23, Try.ntmps23
    go_wp2
    go_ret
    exact ⟨ret_int (isq_neg _ (by omega)).symm, rfl⟩
  · go_enter Try.func23, Try.ntmps23
    go_wp2_with (go_at_call 21; refine (risqrt_any _ _ (by omega)).mono ?_; rintro e w' ⟨rfl, rfl⟩)
    go_ret
    exact ⟨rfl, rfl⟩

/-- The nearest number of a range. -/
def clm (n lo hi : Int) : Int := if n < lo then lo else if hi < n then hi else n
theorem clamp_any (n lo hi : Int) (w : World) :
    Calls Try.prog 25 #[.int .i64 n, .int .i64 lo, .int .i64 hi] w fun e w' => e = .returned (.int .i64 (clm n lo hi)) ∧ w = w' := by
  by_cases h0 : n < lo <;> by_cases h1 : hi < n
  all_goals
    go_enter Try.func25, Try.ntmps25
    go_wp2
    go_ret
    refine ⟨ret_int ?_, rfl⟩
    unfold clm
    split <;> first | omega | (split <;> omega)
theorem rclamp_any (n lo hi : Int) (w : World) :
    Calls Try.prog 26 #[.int .i64 n, .int .i64 lo, .int .i64 hi] w fun e w' => e = .returned (.int .i64 (clm n lo hi)) ∧ w = w' := by
  by_cases h0 : n < lo <;> by_cases h1 : hi < n
  all_goals
    go_enter Try.func26, Try.ntmps26
    go_wp2
    go_ret
    refine ⟨ret_int ?_, rfl⟩
    unfold clm
    split <;> first | omega | (split <;> omega)
/-- The absolute value. -/
def abv (n : Int) : Int := if n < 0 then -n else n
theorem abs_any (n : Int) (w : World) (h0 : -9223372036854775807 ≤ n) (h1 : n ≤ 9223372036854775807) :
    Calls Try.prog 24 #[.int .i64 n] w fun e w' => e = .returned (.int .i64 (abv n)) ∧ w = w' := by
  by_cases h0 : n < 0
  all_goals
    go_enter Try.func24, Try.ntmps24
    go_wp2
    go_ret
    exact ⟨ret_int (by unfold abv; split <;> omega), rfl⟩
theorem rabs_any (n : Int) (w : World) (h0 : -9223372036854775807 ≤ n) (h1 : n ≤ 9223372036854775807) :
    Calls Try.prog 27 #[.int .i64 n] w fun e w' => e = .returned (.int .i64 (abv n)) ∧ w = w' := by
  by_cases h0 : n < 0
  all_goals
    go_enter Try.func27, Try.ntmps27
    go_wp2
    go_ret
    exact ⟨ret_int (by unfold abv; split <;> omega), rfl⟩
/-- The sign. -/
def sgn (n : Int) : Int := if n < 0 then -1 else if 0 < n then 1 else 0
theorem sign_any (n : Int) (w : World) :
    Calls Try.prog 28 #[.int .i64 n] w fun e w' => e = .returned (.int .i64 (sgn n)) ∧ w = w' := by
  by_cases h0 : n < 0 <;> by_cases h1 : 0 < n
  all_goals
    go_enter Try.func28, Try.ntmps28
    go_wp2
    go_ret
    refine ⟨ret_int ?_, rfl⟩
    unfold sgn
    split <;> first | omega | (split <;> omega)
theorem rsign_any (n : Int) (w : World) :
    Calls Try.prog 29 #[.int .i64 n] w fun e w' => e = .returned (.int .i64 (sgn n)) ∧ w = w' := by
  by_cases h0 : n < 0 <;> by_cases h1 : 0 < n
  all_goals
    go_enter Try.func29, Try.ntmps29
    go_wp2
    go_ret
    refine ⟨ret_int ?_, rfl⟩
    unfold sgn
    split <;> first | omega | (split <;> omega)

/-- The section's example: it works. -/
theorem lives_any (w : World) :
    Calls Try.prog 13 #[] w fun e w' => e = .returned (.bool true) ∧ ∃ n, w' = w.drewN n := by
  have e1 : fdv (1536 * 2048) 1024 = 3072 := by decide +kernel
  have e2 : fdv (-1 * 1) 1024 = -1 := by decide +kernel
  have e3 : fdv (1 * 1024) 3 = 341 := by decide +kernel
  have e4 : isq 24 = 4 := by decide +kernel
  go_enter Try.func13, Try.ntmps13
  go_wp2_with (first | (go_at_call 12; refine (mul_any _ _ _ (by decide) (by decide)).mono ?_; rintro e w' ⟨rfl, n, rfl⟩) | (go_at_call 17; refine (div_any _ _ _ (by decide) (by decide)).mono ?_; rintro e w' ⟨rfl, n, rfl⟩) | (go_at_call 15; refine (isqrt_any _ _ (by decide)).mono ?_; rintro e w' ⟨rfl, rfl⟩))
  go_ret
  exact ⟨rfl, _, rfl⟩
end Go.Proofs.Ytkhfkcijobfnmaa.FxA
