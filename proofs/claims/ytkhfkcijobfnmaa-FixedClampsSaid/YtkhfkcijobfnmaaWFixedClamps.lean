/-
  The walk of the law FixedClamps: it returns true at every input.
-/
import Derived.Test.YtkhfkcijobfnmaaFxG
namespace Go.Proofs.Ytkhfkcijobfnmaa.FxW
open Go.RowKit Go.Proofs.Ytkhfkcijobfnmaa.FxMath Go.Proofs.Ytkhfkcijobfnmaa.FxA
set_option linter.unusedVariables false

theorem FixedClamps_walk (a0 a1 a2 : Int) (w0 : (Lit.int .i64 a0).wf = true) (w1 : (Lit.int .i64 a1).wf = true) (w2 : (Lit.int .i64 a2).wf = true) (w : World) :
    Calls Try.prog 9 #[.int .i64 a0, .int .i64 a1, .int .i64 a2] w fun e w' => e = .returned (.bool true) ∧ Grown w w' := by
  have b0 := i64_bd w0
  obtain ⟨k, hk, hk0, hk1⟩ : ∃ k : Int, max a0 (-9223372036854775807) = k ∧ -9223372036854775807 ≤ k ∧ k ≤ 9223372036854775807 := ⟨_, rfl, by omega, by omega⟩
  go_enter Try.func9, Try.ntmps9
  go_wp2_with (first | (go_at_call 25; refine (clamp_any _ _ _ _).mono ?_; rintro e w' ⟨rfl, rfl⟩) | (go_at_call 26; refine (rclamp_any _ _ _ _).mono ?_; rintro e w' ⟨rfl, rfl⟩) | (go_at_call 24; refine (abs_any _ _ (by omega) (by omega)).mono ?_; rintro e w' ⟨rfl, rfl⟩) | (go_at_call 27; refine (rabs_any _ _ (by omega) (by omega)).mono ?_; rintro e w' ⟨rfl, rfl⟩) | (go_at_call 28; refine (sign_any _ _).mono ?_; rintro e w' ⟨rfl, rfl⟩) | (go_at_call 29; refine (rsign_any _ _).mono ?_; rintro e w' ⟨rfl, rfl⟩) | (go_at_call 13; refine (lives_any _).mono ?_; rintro e w' ⟨rfl, n, rfl⟩))
  go_ret
  exact ⟨rfl, by repeat (first | exact Grown.refl _ | apply grown_drewN | apply Grown.drew | apply Grown.alloc)⟩
end Go.Proofs.Ytkhfkcijobfnmaa.FxW
