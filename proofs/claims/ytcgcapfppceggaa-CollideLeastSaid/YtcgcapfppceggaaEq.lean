/-
  Equality of two vectors.
  Conditions: none.
-/
import Derived.Test.YtcgcapfppceggaaCoA
namespace Go.Proofs.Ytcgcapfppceggaa.Co
open Go.RowKit Go.Proofs.Ytcgcapfppceggaa.FxMath Go.Proofs.Ytcgcapfppceggaa.FxA Go.Proofs.Ytcgcapfppceggaa.Qt Go.Proofs.Ytcgcapfppceggaa.Ve Go.Proofs.Ytcgcapfppceggaa.Sh
set_option linter.unusedVariables false
set_option linter.unusedSimpArgs false
theorem eqVec (a b c d : Int) (w : World) : (Op.equalIn 10000 29 (.agg #[.int .i64 a, .int .i64 b]) (.agg #[.int .i64 c, .int .i64 d])).run Try.prog w = .ok (a == c && b == d) w := by
  by_cases h1 : a = c <;> by_cases h2 : b = d <;> go_simp
end Go.Proofs.Ytcgcapfppceggaa.Co
