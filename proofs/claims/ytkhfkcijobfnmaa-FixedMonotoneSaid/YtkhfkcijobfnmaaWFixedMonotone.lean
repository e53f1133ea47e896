/-
  The walk of the law FixedMonotone: it returns true at every input.
-/
import Derived.Test.YtkhfkcijobfnmaaFxG
namespace Go.Proofs.Ytkhfkcijobfnmaa.FxW
open Go.RowKit Go.Proofs.Ytkhfkcijobfnmaa.FxMath Go.Proofs.Ytkhfkcijobfnmaa.FxA
set_option linter.unusedVariables false

theorem fdv_mono (a b : Int) (h : a ≤ b) : fdv a 1024 ≤ fdv b 1024 := by
  rw [fdv_pos _ _ (by omega), fdv_pos _ _ (by omega)]; omega
theorem mono_step (x y : Int) : fdv ((x + 1024) * y) 1024 = fdv (x * y) 1024 + y := by
  have e : (x + 1024) * y = x * y + 1024 * y := Int.add_mul x 1024 y
  rw [e, fdv_pos _ _ (by omega), fdv_pos _ _ (by omega)]; omega

theorem FixedMonotone_walk (a0 a1 a2 : Int) (w0 : (Lit.int .i64 a0).wf = true) (w1 : (Lit.int .i64 a1).wf = true) (w2 : (Lit.int .i64 a2).wf = true) (w : World) :
    Calls Try.prog 3 #[.int .i64 a0, .int .i64 a1, .int .i64 a2] w fun e w' => e = .returned (.bool true) ∧ Grown w w' := by
  obtain ⟨x, hx0, hx1, c0⟩ := boundE a0 1073741824 w0 (by omega) (by omega)
  obtain ⟨y, hy0, hy1, c1⟩ := boundE a1 1073741824 w1 (by omega) (by omega)
  obtain ⟨z, hz0, hz1, c2⟩ := aroundE a2 1073741824 w2 (by omega) (by omega)
  have p1 := mul_bd hx0 hx1 hy0 hy1
  have p2 := mul_bd (a := x) (b := z) (A := 1073741824) (B := 1073741824) (by omega) (by omega) (by omega) (by omega)
  have p3 := mul_bd (a := y) (b := z) (A := 1073741824) (B := 1073741824) (by omega) (by omega) (by omega) (by omega)
  have p4 := mul_bd (a := x + 1024) (b := y) (A := 1073742848) (B := 1073741824) (by omega) (by omega) (by omega) (by omega)
  have q1 : y * x = x * y := Int.mul_comm y x
  have q2 := mono_step x y
  have q3 := fdv_le (x * y) 1024
  have q3a : -1152921504606846977 ≤ fdv (x * y) 1024 := by omega
  have q3b : fdv (x * y) 1024 ≤ 1152921504606846977 := by omega
  clear q3
  by_cases hxy : x ≤ y
  · have m1 : min x y = x := by omega
    have m2 : max x y = y := by omega
    have q4 : fdv (x * z) 1024 ≤ fdv (y * z) 1024 := fdv_mono _ _ (Int.mul_le_mul_of_nonneg_right hxy hz0)
    clear hxy
    go_enter Try.func3, Try.ntmps3
    go_wp2_with (first | (go_at_call 10; with_reducible refine (c0 _).mono ?_; rintro e w' ⟨rfl, rfl⟩) | (go_at_call 10; with_reducible refine (c1 _).mono ?_; rintro e w' ⟨rfl, rfl⟩) | (go_at_call 11; with_reducible refine (c2 _).mono ?_; rintro e w' ⟨rfl, rfl⟩) | (go_at_call 12; refine (mul_any _ _ _ (by omega) (by omega)).mono ?_; rintro e w' ⟨rfl, n, rfl⟩) | (go_at_call 13; refine (lives_any _).mono ?_; rintro e w' ⟨rfl, n, rfl⟩))
    go_ret
    exact ⟨rfl, by repeat (first | exact Grown.refl _ | apply grown_drewN | apply Grown.drew | apply Grown.alloc)⟩
  · have m1 : min x y = y := by omega
    have m2 : max x y = x := by omega
    have q4 : fdv (y * z) 1024 ≤ fdv (x * z) 1024 := fdv_mono _ _ (Int.mul_le_mul_of_nonneg_right (by omega) hz0)
    clear hxy
    go_enter Try.func3, Try.ntmps3
    go_wp2_with (first | (go_at_call 10; with_reducible refine (c0 _).mono ?_; rintro e w' ⟨rfl, rfl⟩) | (go_at_call 10; with_reducible refine (c1 _).mono ?_; rintro e w' ⟨rfl, rfl⟩) | (go_at_call 11; with_reducible refine (c2 _).mono ?_; rintro e w' ⟨rfl, rfl⟩) | (go_at_call 12; refine (mul_any _ _ _ (by omega) (by omega)).mono ?_; rintro e w' ⟨rfl, n, rfl⟩) | (go_at_call 13; refine (lives_any _).mono ?_; rintro e w' ⟨rfl, n, rfl⟩))
    go_ret
    exact ⟨rfl, by repeat (first | exact Grown.refl _ | apply grown_drewN | apply Grown.drew | apply Grown.alloc)⟩
end Go.Proofs.Ytkhfkcijobfnmaa.FxW
