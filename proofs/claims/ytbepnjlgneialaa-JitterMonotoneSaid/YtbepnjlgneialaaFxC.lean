/-
  Contracts of the references' Floor, Mul, Div and MulDiv.
  Conditions: the exact dividend is more than -2^63 + 1 and less than 2^63 - 1.
-/
import Derived.Test.YtbepnjlgneialaaFxB
namespace Go.Proofs.Ytbepnjlgneialaa.FxA
open Go.RowKit Go.Proofs.Ytbepnjlgneialaa.FxMath
set_option linter.unusedVariables false






end Go.Proofs.Ytbepnjlgneialaa.FxA
