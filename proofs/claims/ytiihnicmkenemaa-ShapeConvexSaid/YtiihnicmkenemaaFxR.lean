/-
  Contracts of Isqrt at every number, of the reference's Isqrt, and of Sqrt, Clamp, Abs, Sign with their references.
  Conditions: the reference's Isqrt: numbers up to 2^62; Sqrt: numbers whose product with One fits.
-/
import Derived.Test.YtiihnicmkenemaaFxI
namespace Go.Proofs.Ytiihnicmkenemaa.FxA
open Go.RowKit Go.Proofs.Ytiihnicmkenemaa.FxMath
set_option linter.unusedVariables false






/-- The nearest number of a range. -/
def clm (n lo hi : Int) : Int := if n < lo then lo else if hi < n then hi else n
/-- The absolute value. -/
def abv (n : Int) : Int := if n < 0 then -n else n
theorem rabs_any (n : Int) (w : World) (h0 : -9223372036854775807 ≤ n) (h1 : n ≤ 9223372036854775807) :
    Calls Try.prog 23 #[.int .i64 n] w fun e w' => e = .returned (.int .i64 (abv n)) ∧ w = w' := by
  by_cases h0 : n < 0
  all_goals
    go_enter Try.func23, Try.ntmps23
    go_wp2
    go_ret
    exact ⟨ret_int (by unfold abv; split <;> omega), rfl⟩
/-- The sign. -/
def sgn (n : Int) : Int := if n < 0 then -1 else if 0 < n then 1 else 0

end Go.Proofs.Ytiihnicmkenemaa.FxA
