/-
  Contracts of Validate.
  Conditions: a polygon has 3 .. 6 vertices with components within 32768; a circle any radius of 64 bits.
-/
import Derived.Test.YtcgcapfppceggaaShE
namespace Go.Proofs.Ytcgcapfppceggaa.Sh
open Go.RowKit Go.Proofs.Ytcgcapfppceggaa.FxMath Go.Proofs.Ytcgcapfppceggaa.FxA Go.Proofs.Ytcgcapfppceggaa.Qt Go.Proofs.Ytcgcapfppceggaa.Ve Go.Shelf
set_option linter.unusedVariables false
set_option linter.unusedSimpArgs false

end Go.Proofs.Ytcgcapfppceggaa.Sh
