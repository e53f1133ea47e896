/-
  Contracts of Isqrt at every number, of the reference's Isqrt, and of Sqrt, Clamp, Abs, Sign with their references.
  Conditions: the reference's Isqrt: numbers up to 2^62; Sqrt: numbers whose product with One fits.
-/
import Derived.Test.YtpbcagckikindabFxI
namespace Go.Proofs.Ytpbcagckikindab.FxA
open Go.RowKit Go.Proofs.Ytpbcagckikindab.FxMath
set_option linter.unusedVariables false

theorem isqrt_any (n : Int) (w : World) (h1 : n ≤ 9223372036854775807) :
    Calls Try.prog 33 #[.int .i64 n] w fun e w' => e = .returned (.int .i64 (isq n)) ∧ w = w' := by
  by_cases h0 : 0 < n
  · exact isqrt_pos n w h0 h1
  · have hn : n ≤ 0 := by omega
    go_enter Try.func33, Try.ntmps33
    go_wp2
    go_step3
    go_wp2
    rw [Exit.noGoto_ret]
    go_ret
    exact ⟨ret_int (isq_neg n hn).symm, rfl⟩





/-- The nearest number of a range. -/
def clm (n lo hi : Int) : Int := if n < lo then lo else if hi < n then hi else n
/-- The absolute value. -/
def abv (n : Int) : Int := if n < 0 then -n else n
/-- The sign. -/
def sgn (n : Int) : Int := if n < 0 then -1 else if 0 < n then 1 else 0

end Go.Proofs.Ytpbcagckikindab.FxA
