/-
  The walk of the law FixedSquares: it returns true at every input.
-/
import Derived.Test.YtkhfkcijobfnmaaFxG
namespace Go.Proofs.Ytkhfkcijobfnmaa.FxW
open Go.RowKit Go.Proofs.Ytkhfkcijobfnmaa.FxMath Go.Proofs.Ytkhfkcijobfnmaa.FxA
set_option linter.unusedVariables false

theorem sq_exact (r : Int) (h : 0 ≤ r) : isq (r * r) = r := isq_unique _ r h (Int.le_refl _) (sq_lt h (by omega))
theorem sq_above (r : Int) (h : 0 ≤ r) : isq (r * r + 2 * r) = r := by
  refine isq_unique _ r h (by omega) ?_
  have e : (r + 1) * (r + 1) = r * r + 2 * r + 1 := by simp only [Int.add_mul, Int.mul_add]; omega
  omega
theorem sq_below (r : Int) (h : 0 < r) : isq (r * r - 1) = r - 1 := by
  refine isq_unique _ (r - 1) (by omega) ?_ ?_
  · have := sq_lt (a := r - 1) (b := r) (by omega) (by omega); omega
  · rw [show r - 1 + 1 = r by omega]; omega

theorem FixedSquares_walk (a0 a1 a2 : Int) (w0 : (Lit.int .i64 a0).wf = true) (w1 : (Lit.int .i64 a1).wf = true) (w2 : (Lit.int .i64 a2).wf = true) (w : World) :
    Calls Try.prog 5 #[.int .i64 a0, .int .i64 a1, .int .i64 a2] w fun e w' => e = .returned (.bool true) ∧ Grown w w' := by
  obtain ⟨r, hx0, hx1, c0⟩ := aroundE a0 2147483647 w0 (by omega) (by omega)
  obtain ⟨n, hy0, hy1, c1⟩ := aroundE a1 4611686018427387904 w1 (by omega) (by omega)
  obtain ⟨m, hz0, hz1, c2⟩ := aroundE a2 4611686018427387904 w2 (by omega) (by omega)
  have p1 := mul_bd (a := r) (b := r) (A := 2147483646) (B := 2147483646) (by omega) (by omega) (by omega) (by omega)
  have r1 : isq (r * r) = r := sq_exact r hx0
  have r2 : isq (r * r + 2 * r) = r := sq_above r hx0
  have hmono : ∃ u v : Int, min n m = u ∧ max n m = v ∧ u ≤ 4611686018427387904 ∧ v ≤ 4611686018427387904 ∧ isq u ≤ isq v := ⟨min n m, max n m, rfl, rfl, by omega, by omega, isq_mono _ _ (by omega)⟩
  obtain ⟨u, v, m1, m2, hu, hv, huv⟩ := hmono
  by_cases h0 : r = 0
  · subst h0
    have r3 : isq 0 = 0 := isq_neg 0 (by omega)
    clear r1 r2 p1
    go_enter Try.func5, Try.ntmps5
    go_wp2_with (first | (go_at_call 11; with_reducible refine (c0 _).mono ?_; rintro e w' ⟨rfl, rfl⟩) | (go_at_call 11; with_reducible refine (c1 _).mono ?_; rintro e w' ⟨rfl, rfl⟩) | (go_at_call 11; with_reducible refine (c2 _).mono ?_; rintro e w' ⟨rfl, rfl⟩) | (go_at_call 15; refine (isqrt_any _ _ (by omega)).mono ?_; rintro e w' ⟨rfl, rfl⟩) | (go_at_call 13; refine (lives_any _).mono ?_; rintro e w' ⟨rfl, n, rfl⟩))
    go_ret
    exact ⟨rfl, by repeat (first | exact Grown.refl _ | apply grown_drewN | apply Grown.drew | apply Grown.alloc)⟩
  · have hr : 0 < r := by omega
    have r3 : isq (r * r - 1) = r - 1 := sq_below r hr
    clear h0
    go_enter Try.func5, Try.ntmps5
    go_wp2_with (first | (go_at_call 11; with_reducible refine (c0 _).mono ?_; rintro e w' ⟨rfl, rfl⟩) | (go_at_call 11; with_reducible refine (c1 _).mono ?_; rintro e w' ⟨rfl, rfl⟩) | (go_at_call 11; with_reducible refine (c2 _).mono ?_; rintro e w' ⟨rfl, rfl⟩) | (go_at_call 15; refine (isqrt_any _ _ (by omega)).mono ?_; rintro e w' ⟨rfl, rfl⟩) | (go_at_call 13; refine (lives_any _).mono ?_; rintro e w' ⟨rfl, n, rfl⟩))
    go_ret
    exact ⟨rfl, by repeat (first | exact Grown.refl _ | apply grown_drewN | apply Grown.drew | apply Grown.alloc)⟩
end Go.Proofs.Ytkhfkcijobfnmaa.FxW
