/-
  The walk of the law FixedRoots: it returns true at every input.
-/
import Derived.Test.YtkhfkcijobfnmaaFxG
namespace Go.Proofs.Ytkhfkcijobfnmaa.FxW
open Go.RowKit Go.Proofs.Ytkhfkcijobfnmaa.FxMath Go.Proofs.Ytkhfkcijobfnmaa.FxA
set_option linter.unusedVariables false

theorem FixedRoots_walk (a0 a1 : Int) (w0 : (Lit.int .i64 a0).wf = true) (w1 : (Lit.int .i64 a1).wf = true) (w : World) :
    Calls Try.prog 7 #[.int .i64 a0, .int .i64 a1] w fun e w' => e = .returned (.bool true) ∧ Grown w w' := by
  obtain ⟨x, hx0, hx1, c0⟩ := aroundE a0 4611686018427387904 w0 (by omega) (by omega)
  obtain ⟨m, hy0, hy1, c1⟩ := boundE a1 4503599627370496 w1 (by omega) (by omega)
  have t1 := tmod_abs m 1000 (by decide)
  have t2 : m.tmod 1000 ≤ 1000 := by omega
  have t3 : m % 1000 ≤ 1000 := by omega
  clear t1
  by_cases h0 : a0 < 0
  · go_enter Try.func7, Try.ntmps7
    go_wp2_with (first | (go_at_call 11; with_reducible refine (c0 _).mono ?_; rintro e w' ⟨rfl, rfl⟩) | (go_at_call 10; with_reducible refine (c1 _).mono ?_; rintro e w' ⟨rfl, rfl⟩) | (go_at_call 15; refine (isqrt_any _ _ (by omega)).mono ?_; rintro e w' ⟨rfl, rfl⟩) | (go_at_call 21; refine (risqrt_any _ _ (by omega)).mono ?_; rintro e w' ⟨rfl, rfl⟩) | (go_at_call 22; refine (sqrt_any _ _ (by omega)).mono ?_; rintro e w' ⟨rfl, rfl⟩) | (go_at_call 23; refine (rsqrt_any _ _ (by omega)).mono ?_; rintro e w' ⟨rfl, rfl⟩) | (go_at_call 13; refine (lives_any _).mono ?_; rintro e w' ⟨rfl, n, rfl⟩))
    go_ret
    exact ⟨rfl, by repeat (first | exact Grown.refl _ | apply grown_drewN | apply Grown.drew | apply Grown.alloc)⟩
  · go_enter Try.func7, Try.ntmps7
    go_wp2_with (first | (go_at_call 11; with_reducible refine (c0 _).mono ?_; rintro e w' ⟨rfl, rfl⟩) | (go_at_call 10; with_reducible refine (c1 _).mono ?_; rintro e w' ⟨rfl, rfl⟩) | (go_at_call 15; refine (isqrt_any _ _ (by omega)).mono ?_; rintro e w' ⟨rfl, rfl⟩) | (go_at_call 21; refine (risqrt_any _ _ (by omega)).mono ?_; rintro e w' ⟨rfl, rfl⟩) | (go_at_call 22; refine (sqrt_any _ _ (by omega)).mono ?_; rintro e w' ⟨rfl, rfl⟩) | (go_at_call 23; refine (rsqrt_any _ _ (by omega)).mono ?_; rintro e w' ⟨rfl, rfl⟩) | (go_at_call 13; refine (lives_any _).mono ?_; rintro e w' ⟨rfl, n, rfl⟩))
    go_ret
    exact ⟨rfl, by repeat (first | exact Grown.refl _ | apply grown_drewN | apply Grown.drew | apply Grown.alloc)⟩
end Go.Proofs.Ytkhfkcijobfnmaa.FxW
