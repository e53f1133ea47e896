/-
  The section's examples of package shape: they work.
  Conditions: none.
-/
import Derived.Test.YtcgcapfppceggaaShL
namespace Go.Proofs.Ytcgcapfppceggaa.Sh
open Go.RowKit Go.Proofs.Ytcgcapfppceggaa.FxMath Go.Proofs.Ytcgcapfppceggaa.FxA Go.Proofs.Ytcgcapfppceggaa.Qt Go.Proofs.Ytcgcapfppceggaa.Ve Go.Shelf
set_option linter.unusedVariables false
set_option linter.unusedSimpArgs false
def sqz : List (Int × Int) := [(-2, -2), (2, -2), (2, 2), (-2, 2)]
theorem sq_bd : Bd sqz 32768 := by
  intro i
  unfold vx vy sqz
  rw [List.getD_eq_getElem?_getD]
  match i with
  | 0 => decide
  | 1 => decide
  | 2 => decide
  | 3 => decide
  | j + 4 => rw [List.getElem?_eq_none (by simp)]; decide
end Go.Proofs.Ytcgcapfppceggaa.Sh
