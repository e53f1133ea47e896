/-
  What the generators give, as facts for the walks of the laws of package resolve.
  Conditions: none.
-/
import Derived.Test.YtpbcagckikindaaReS
import Derived.Test.YtpbcagckikindaaReL
namespace Go.Proofs.Ytpbcagckikindaa.Re
open Go.RowKit Go.Proofs.Ytpbcagckikindaa.FxMath Go.Proofs.Ytpbcagckikindaa.FxA Go.Proofs.Ytpbcagckikindaa.Qt Go.Proofs.Ytpbcagckikindaa.Ve
set_option linter.unusedVariables false

theorem tmod_bd (a : Int) (m : Int) (hm : 0 < m) : -m < a.tmod m ∧ a.tmod m < m := by
  have := tmod_abs a m (by omega)
  omega
theorem motionE {w : World} {a : Option Addr} {len cap : Nat} {zs : List Int} (h : Fr.IsRow .i64 w a len cap zs) :
    ∃ px py vx vy m : Int, Mo px py vx vy m ∧ ∀ W : World, Below w.heap.size w W → Calls Try.prog 16 #[.slice a len cap] W fun e w' => e = .returned (.agg #[.int .i64 px, .int .i64 py, .int .i64 vx, .int .i64 vy, .int .i64 m]) ∧ Below W.heap.size W w' := by
  have b0 := bdv_bd (pck len zs 0 1000000007) 1048576 (by omega)
  have b1 := bdv_bd (pck len zs 1 1000000007) 1048576 (by omega)
  have b2 := bdv_bd (pck len zs 2 1000000007) 16384 (by omega)
  have b3 := bdv_bd (pck len zs 3 1000000007) 16384 (by omega)
  have b4 := mas_bd (pck len zs 4 1000000)
  exact ⟨_, _, _, _, _, ⟨b0.1, b0.2, b1.1, b1.2, b2.1, b2.2, b3.1, b3.2, b4.1, b4.2⟩, fun W hb => motion_any a len cap zs W (row_later h hb) _ _ _ _ _ rfl rfl rfl rfl rfl⟩
theorem slowE {w : World} {a : Option Addr} {len cap : Nat} {zs : List Int} (h : Fr.IsRow .i64 w a len cap zs) :
    ∃ px py vx vy m : Int, (-262144 ≤ px ∧ px ≤ 262144 ∧ -262144 ≤ py ∧ py ≤ 262144 ∧ -2000 ≤ vx ∧ vx ≤ 2000 ∧ -2000 ≤ vy ∧ vy ≤ 2000 ∧ 0 ≤ m ∧ m ≤ 4096) ∧ ∀ W : World, Below w.heap.size w W → Calls Try.prog 24 #[.slice a len cap] W fun e w' => e = .returned (.agg #[.int .i64 px, .int .i64 py, .int .i64 vx, .int .i64 vy, .int .i64 m]) ∧ Below W.heap.size W w' := by
  have b0 := tmod_bd (bdv (pck len zs 0 1000000007) 1048576) 262145 (by omega)
  have b1 := tmod_bd (bdv (pck len zs 1 1000000007) 1048576) 262145 (by omega)
  have b2 := tmod_bd (bdv (pck len zs 2 1000000007) 16384) 2001 (by omega)
  have b3 := tmod_bd (bdv (pck len zs 3 1000000007) 16384) 2001 (by omega)
  have b4 := mas_bd (pck len zs 4 1000000)
  exact ⟨_, _, _, _, _, ⟨by omega, by omega, by omega, by omega, by omega, by omega, by omega, by omega, b4.1, b4.2⟩, fun W hb => slow_any a len cap zs W (row_later h hb) _ _ _ _ _ rfl rfl rfl rfl rfl⟩
theorem contactE {w : World} {a : Option Addr} {len cap : Nat} {zs : List Int} (h : Fr.IsRow .i64 w a len cap zs) :
    ∃ nx ny d : Int, (-1024 ≤ nx ∧ nx ≤ 1024 ∧ -1024 ≤ ny ∧ ny ≤ 1024 ∧ 0 ≤ d ∧ d ≤ 1048576) ∧ ∀ W : World, Below w.heap.size w W → Calls Try.prog 17 #[.slice a len cap] W fun e w' => e = .returned (.agg #[.int .i64 nx, .int .i64 ny, .int .i64 d]) ∧ Below W.heap.size W w' := by
  have b1 := pck_bd len zs 1 5000 (by omega)
  have b2 := pck_bd len zs 1 1048577 (by omega)
  have b3 := pck_bd len zs 2 2049 (by omega)
  have hx := ax_cases (pck len zs 0 1000000 / 3)
  have e1 : -1024 ≤ ctX len zs ∧ ctX len zs ≤ 1024 := by unfold ctX; split <;> omega
  have e2 : -1024 ≤ ctY len zs ∧ ctY len zs ≤ 1024 := by unfold ctY; split <;> omega
  have e3 : 0 ≤ ctD len zs ∧ ctD len zs ≤ 1048576 := by unfold ctD; split <;> omega
  exact ⟨_, _, _, ⟨e1.1, e1.2, e2.1, e2.2, e3.1, e3.2⟩, fun W hb => contact_any a len cap zs W (row_later h hb) _ _ _ rfl rfl rfl⟩
theorem axisE (n : Int) (hn : (Lit.int .i64 n).wf = true) :
    ∃ nx ny : Int, ((nx = 1024 ∧ ny = 0) ∨ (nx = 0 ∧ ny = 1024) ∨ (nx = -1024 ∧ ny = 0) ∨ (nx = 0 ∧ ny = -1024)) ∧ Gives Try.prog 26 #[.int .i64 n] (.agg #[.int .i64 nx, .int .i64 ny]) :=
  ⟨_, _, ax_cases n, axis_any n (i64_bd hn).1 (i64_bd hn).2⟩
end Go.Proofs.Ytpbcagckikindaa.Re
