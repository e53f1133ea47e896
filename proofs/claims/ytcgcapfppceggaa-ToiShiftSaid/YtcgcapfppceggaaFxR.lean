/-
  Contracts of Isqrt at every number, of the reference's Isqrt, and of Sqrt, Clamp, Abs, Sign with their references.
  Conditions: the reference's Isqrt: numbers up to 2^62; Sqrt: numbers whose product with One fits.
-/
import Derived.Test.YtcgcapfppceggaaFxI
namespace Go.Proofs.Ytcgcapfppceggaa.FxA
open Go.RowKit Go.Proofs.Ytcgcapfppceggaa.FxMath
set_option linter.unusedVariables false

theorem isqrt_any (n : Int) (w : World) (h1 : n ≤ 9223372036854775807) :
    Calls Try.prog 52 #[.int .i64 n] w fun e w' => e = .returned (.int .i64 (isq n)) ∧ w = w' := by
  by_cases h0 : 0 < n
  · exact isqrt_pos n w h0 h1
  · have hn : n ≤ 0 := by omega
    go_enter Try.func52, Try.ntmps52
    go_wp2
    go_step3
    go_wp2
    rw [Exit.noGoto_ret]
    go_ret
    exact ⟨ret_int (isq_neg n hn).symm, rfl⟩

theorem mid_bd (lo hi : Int) (h0 : 0 ≤ lo) (h1 : hi ≤ 2147483649) (h : lo + 1 < hi) : 0 ≤ (lo + (hi - lo) / 2) * (lo + (hi - lo) / 2) ∧ (lo + (hi - lo) / 2) * (lo + (hi - lo) / 2) ≤ 4611686018427387904 := by
  have a : 0 ≤ lo + (hi - lo) / 2 := by omega
  have b : lo + (hi - lo) / 2 ≤ 2147483648 := by omega
  have := sq_le a b
  exact ⟨Int.mul_nonneg a a, by omega⟩

theorem risqrt_nonneg (n : Int) (w : World) (h0 : 0 ≤ n) (h1 : n ≤ 4611686018427387904) :
    Calls Try.prog 98 #[.int .i64 n] w fun e w' => e = .returned (.int .i64 (isq n)) ∧ w = w' := by
  go_enter Try.func98, Try.ntmps98
  go_wp2
  go_loop [3, 4] (fun l h => ∃ lo hi : Int, 0 ≤ lo ∧ lo < hi ∧ hi ≤ 2147483649 ∧ Hid (lo * lo ≤ n) ∧ Hid (n < hi * hi) ∧ l = .int .i64 lo ∧ h = .int .i64 hi) (fun l h => (intOf h - intOf l).toNat)
  case atStart => exact ⟨0, 2147483649, by omega, by omega, by omega, Lib.hid (by omega), Lib.hid (by omega), rfl, rfl⟩
  case round =>
    obtain ⟨lo, hi, hb0, hb1, hb2, H1, H2, rfl, rfl⟩ := hrel
    by_cases hlt : 1 < hi - lo
    · have hm := mid_bd lo hi hb0 hb2 (by omega)
      obtain ⟨m, hmid⟩ : ∃ m, m = lo + (hi - lo) / 2 := ⟨_, rfl⟩
      have hm1 : lo < m := by omega
      have hm2 : m < hi := by omega
      go_wp2
      · go_round
        case rel => exact ⟨lo + (hi - lo) / 2, hi, by omega, by omega, by omega, Lib.hid (by assumption), H2, rfl, rfl⟩
        case measure => simp [intOf]; omega
      · go_round
        case rel => exact ⟨lo, lo + (hi - lo) / 2, by omega, by omega, by omega, H1, Lib.hid (by assumption), rfl, rfl⟩
        case measure => simp [intOf]; omega
    · go_wp2
      go_ret
      have e : hi = lo + 1 := by omega
      subst e
      exact ⟨ret_int (isq_unique n lo hb0 H1.out H2.out).symm, rfl⟩

theorem risqrt_any (n : Int) (w : World) (h1 : n ≤ 4611686018427387904) :
    Calls Try.prog 98 #[.int .i64 n] w fun e w' => e = .returned (.int .i64 (isq n)) ∧ w = w' := by
  by_cases h0 : 0 ≤ n
  · exact risqrt_nonneg n w h0 h1
  · have hn : n < 0 := by omega
    go_enter Try.func98, Try.ntmps98
    go_wp2
    go_ret
    exact ⟨ret_int (isq_neg n (by omega)).symm, rfl⟩


/-- The nearest number of a range. -/
def clm (n lo hi : Int) : Int := if n < lo then lo else if hi < n then hi else n
theorem rclamp_any (n lo hi : Int) (w : World) :
    Calls Try.prog 69 #[.int .i64 n, .int .i64 lo, .int .i64 hi] w fun e w' => e = .returned (.int .i64 (clm n lo hi)) ∧ w = w' := by
  by_cases h0 : n < lo <;> by_cases h1 : hi < n
  all_goals
    go_enter Try.func69, Try.ntmps69
    go_wp2
    go_ret
    refine ⟨ret_int ?_, rfl⟩
    unfold clm
    split <;> first | omega | (split <;> omega)
/-- The absolute value. -/
def abv (n : Int) : Int := if n < 0 then -n else n
theorem rabs_any (n : Int) (w : World) (h0 : -9223372036854775807 ≤ n) (h1 : n ≤ 9223372036854775807) :
    Calls Try.prog 44 #[.int .i64 n] w fun e w' => e = .returned (.int .i64 (abv n)) ∧ w = w' := by
  by_cases h0 : n < 0
  all_goals
    go_enter Try.func44, Try.ntmps44
    go_wp2
    go_ret
    exact ⟨ret_int (by unfold abv; split <;> omega), rfl⟩
/-- The sign. -/
def sgn (n : Int) : Int := if n < 0 then -1 else if 0 < n then 1 else 0

end Go.Proofs.Ytcgcapfppceggaa.FxA
