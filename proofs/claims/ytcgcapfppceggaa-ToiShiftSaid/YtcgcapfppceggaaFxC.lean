/-
  Contracts of the references' Floor, Mul, Div and MulDiv.
  Conditions: the exact dividend is more than -2^63 + 1 and less than 2^63 - 1.
-/
import Derived.Test.YtcgcapfppceggaaFxB
namespace Go.Proofs.Ytcgcapfppceggaa.FxA
open Go.RowKit Go.Proofs.Ytcgcapfppceggaa.FxMath
set_option linter.unusedVariables false

theorem floor_some (a b : Int) (w : World) (h0 : -9223372036854775806 ≤ a) (h1 : a ≤ 9223372036854775806) (hb : (b == 0) = false) :
    Calls Try.prog 99 #[.int .i64 a, .int .i64 b] w fun e w' => e = .returned (.int .i64 (fdv a b)) ∧ w = w' := by
  have hb0 : b ≠ 0 := by simpa using hb
  have hc := Lib.hid (fdv_cases a b hb0)
  have hs := Lib.hid (tmod_sign a b)
  have hq := tdiv_le a b
  have hq1 : -9223372036854775806 ≤ a.tdiv b := by omega
  have hq2 : a.tdiv b ≤ 9223372036854775806 := by omega
  clear hq
  have hw1 : IntKind.i64.wrap (a.tdiv b) = a.tdiv b := IntWalk.i64_in _ (by omega)
  have hm3 : Hid (0 ≤ a → a.tmod b = a % b) := Lib.hid fun h => Int.tmod_eq_emod_of_nonneg h
  by_cases ha : a < 0 <;> by_cases hbn : b < 0
  all_goals
    go_enter Try.func99, Try.ntmps99
    go_wp2
    all_goals
      go_ret
      refine ⟨ret_int ?_, rfl⟩
      have hc' := hc.out
      have hs' := hs.out
      have hm2 := hm3.out
      omega



theorem rmulDiv_any (a b c : Int) (w : World) (h0 : -9223372036854775806 ≤ a * b) (h1 : a * b ≤ 9223372036854775806) :
    Calls Try.prog 97 #[.int .i64 a, .int .i64 b, .int .i64 c] w fun e w' => e = .returned (.int .i64 (fdv (a * b) c)) ∧ w = w' := by
  by_cases hb : c = 0
  · subst hb
    go_enter Try.func97, Try.ntmps97
    go_wp2
    go_ret
    exact ⟨ret_int (fdv_zero _).symm, rfl⟩
  · have hb' : (c == 0) = false := by simpa using hb
    go_enter Try.func97, Try.ntmps97
    go_wp2_with (go_at_call 99; refine (floor_some _ _ _ h0 h1 hb').mono ?_; rintro e w' ⟨rfl, rfl⟩)
    go_ret
    exact ⟨rfl, rfl⟩

/-- What Bound(n, most) is. -/
def bnd (n m : Int) : Int := aro n (2 * m + 1) - m
theorem bnd_bd (n m : Int) (hm : 0 ≤ m) : -m ≤ bnd n m ∧ bnd n m ≤ m := by
  unfold bnd
  have := aro_bd n (2 * m + 1) (by omega)
  omega
theorem bound_any (n m : Int) (w : World) (h0 : -9223372036854775808 ≤ n) (h1 : n ≤ 9223372036854775807) (hm : 0 ≤ m) (hm2 : m ≤ 2305843009213693952) :
    Calls Try.prog 35 #[.int .i64 n, .int .i64 m] w fun e w' => e = .returned (.int .i64 (bnd n m)) ∧ w = w' := by
  have hb := aro_bd n (2 * m + 1) (by omega)
  go_enter Try.func35, Try.ntmps35
  go_wp2_with (go_at_call 23; refine (around_any _ _ _ h0 h1 (by omega) (by omega)).mono ?_; rintro e w' ⟨rfl, rfl⟩)
  go_ret
  exact ⟨rfl, rfl⟩

end Go.Proofs.Ytcgcapfppceggaa.FxA
