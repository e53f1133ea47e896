/-
  Contracts of the functions of package fixed without loops, and of their references: each returns the stated number and leaves the world as it was.
  Conditions: the exact products fit 64 bits.
-/
import Derived.Test.YtcgcapfppceggaaChecked
import Derived.WalkKit
import Derived.ProofKit
import Derived.Deep.QuietTactic
import Derived.BigQuiet
import Derived.Lib.Hide
import Derived.Test.YtcgcapfppceggaaFxMath
namespace Go.Proofs.Ytcgcapfppceggaa.FxA
open Go.RowKit Go.Proofs.Ytcgcapfppceggaa.FxMath
set_option linter.unusedVariables false

theorem ret_int {k : IntKind} {a b : Int} (h : a = b) : Ending.returned (.int k a) = .returned (.int k b) := by rw [h]

/-- What Around(n, most) is. -/
def aro (n m : Int) : Int := (if n < 0 then -(n + 1) else n) % m

theorem aro_bd (n m : Int) (hm : 1 ≤ m) : 0 ≤ aro n m ∧ aro n m < m := by
  unfold aro
  exact ⟨Int.emod_nonneg _ (by omega), Int.emod_lt_of_pos _ (by omega)⟩

theorem aro_neg (n m : Int) (hn : n < 0) : -(n + 1).tmod m = aro n m := by
  unfold aro
  rw [if_pos hn, ← Int.tmod_eq_emod_of_nonneg (by omega), Int.neg_tmod]
theorem aro_pos (n m : Int) (hn : 0 ≤ n) : n % m = aro n m := by
  unfold aro
  rw [if_neg (by omega)]

theorem around_any (n m : Int) (w : World) (h0 : -9223372036854775808 ≤ n) (h1 : n ≤ 9223372036854775807) (hm : 1 ≤ m) (hm2 : m ≤ 9223372036854775807) :
    Calls Try.prog 23 #[.int .i64 n, .int .i64 m] w fun e w' => e = .returned (.int .i64 (aro n m)) ∧ w = w' := by
  have hm0 : (m == 0) = false := by simp; omega
  by_cases hn : n < 0
  · go_enter Try.func23, Try.ntmps23
    go_wp2
    go_ret
    exact ⟨ret_int (aro_neg n m hn), rfl⟩
  · go_enter Try.func23, Try.ntmps23
    go_wp2
    go_ret
    exact ⟨ret_int (aro_pos n m (by omega)), rfl⟩
end Go.Proofs.Ytcgcapfppceggaa.FxA
