/-
  Contracts of the references' Floor, Mul, Div and MulDiv.
  Conditions: the exact dividend is more than -2^63 + 1 and less than 2^63 - 1.
-/
import Derived.Test.YtiihnicmkenemaaFxB
namespace Go.Proofs.Ytiihnicmkenemaa.FxA
open Go.RowKit Go.Proofs.Ytiihnicmkenemaa.FxMath
set_option linter.unusedVariables false





/-- What Bound(n, most) is. -/
def bnd (n m : Int) : Int := aro n (2 * m + 1) - m
theorem bnd_bd (n m : Int) (hm : 0 ≤ m) : -m ≤ bnd n m ∧ bnd n m ≤ m := by
  unfold bnd
  have := aro_bd n (2 * m + 1) (by omega)
  omega
theorem bound_any (n m : Int) (w : World) (h0 : -9223372036854775808 ≤ n) (h1 : n ≤ 9223372036854775807) (hm : 0 ≤ m) (hm2 : m ≤ 2305843009213693952) :
    Calls Try.prog 27 #[.int .i64 n, .int .i64 m] w fun e w' => e = .returned (.int .i64 (bnd n m)) ∧ w = w' := by
  have hb := aro_bd n (2 * m + 1) (by omega)
  go_enter Try.func27, Try.ntmps27
  go_wp2_with (go_at_call 17; refine (around_any _ _ _ h0 h1 (by omega) (by omega)).mono ?_; rintro e w' ⟨rfl, rfl⟩)
  go_ret
  exact ⟨rfl, rfl⟩

end Go.Proofs.Ytiihnicmkenemaa.FxA
