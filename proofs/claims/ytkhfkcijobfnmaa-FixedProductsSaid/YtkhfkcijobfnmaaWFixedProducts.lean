/-
  The walk of the law FixedProducts: it returns true at every input.
-/
import Derived.Test.YtkhfkcijobfnmaaFxG
namespace Go.Proofs.Ytkhfkcijobfnmaa.FxW
open Go.RowKit Go.Proofs.Ytkhfkcijobfnmaa.FxMath Go.Proofs.Ytkhfkcijobfnmaa.FxA
set_option linter.unusedVariables false

theorem FixedProducts_walk (a0 a1 a2 : Int) (w0 : (Lit.int .i64 a0).wf = true) (w1 : (Lit.int .i64 a1).wf = true) (w2 : (Lit.int .i64 a2).wf = true) (w : World) :
    Calls Try.prog 6 #[.int .i64 a0, .int .i64 a1, .int .i64 a2] w fun e w' => e = .returned (.bool true) ∧ Grown w w' := by
  obtain ⟨x, hx0, hx1, c0⟩ := smallE a0 w0
  obtain ⟨y, hy0, hy1, c1⟩ := smallE a1 w1
  obtain ⟨z, hz0, hz1, c2⟩ := smallE a2 w2
  have p1 := mul_bd hx0 hx1 hy0 hy1
  go_enter Try.func6, Try.ntmps6
  go_wp2_with (first | (go_at_call 14; with_reducible refine (c0 _).mono ?_; rintro e w' ⟨rfl, rfl⟩) | (go_at_call 14; with_reducible refine (c1 _).mono ?_; rintro e w' ⟨rfl, rfl⟩) | (go_at_call 14; with_reducible refine (c2 _).mono ?_; rintro e w' ⟨rfl, rfl⟩) | (go_at_call 12; refine (mul_any _ _ _ (by omega) (by omega)).mono ?_; rintro e w' ⟨rfl, n, rfl⟩) | (go_at_call 16; refine (rmul_any _ _ _ (by omega) (by omega)).mono ?_; rintro e w' ⟨rfl, rfl⟩) | (go_at_call 17; refine (div_any _ _ _ (by omega) (by omega)).mono ?_; rintro e w' ⟨rfl, n, rfl⟩) | (go_at_call 18; refine (rdiv_any _ _ _ (by omega) (by omega)).mono ?_; rintro e w' ⟨rfl, rfl⟩) | (go_at_call 19; refine (mulDiv_any _ _ _ _ (by omega) (by omega)).mono ?_; rintro e w' ⟨rfl, n, rfl⟩) | (go_at_call 20; refine (rmulDiv_any _ _ _ _ (by omega) (by omega)).mono ?_; rintro e w' ⟨rfl, rfl⟩) | (go_at_call 13; refine (lives_any _).mono ?_; rintro e w' ⟨rfl, n, rfl⟩))
  go_ret
  exact ⟨rfl, by repeat (first | exact Grown.refl _ | apply grown_drewN | apply Grown.drew | apply Grown.alloc)⟩
end Go.Proofs.Ytkhfkcijobfnmaa.FxW
