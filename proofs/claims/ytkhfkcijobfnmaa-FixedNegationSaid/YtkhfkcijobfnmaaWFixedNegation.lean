/-
  The walk of the law FixedNegation: it returns true at every input.
-/
import Derived.Test.YtkhfkcijobfnmaaFxG
namespace Go.Proofs.Ytkhfkcijobfnmaa.FxW
open Go.RowKit Go.Proofs.Ytkhfkcijobfnmaa.FxMath Go.Proofs.Ytkhfkcijobfnmaa.FxA
set_option linter.unusedVariables false

theorem tmod_zero (p : Int) : p.tmod 1024 = 0 ↔ p % 1024 = 0 := by
  have h1 := Int.mul_tdiv_add_tmod p 1024
  have h2 := tmod_abs p 1024 (by decide)
  omega
theorem neg_exact (p : Int) (h : p.tmod 1024 = 0) : fdv (-p) 1024 = -fdv p 1024 := by
  have h1 := (tmod_zero p).mp h
  rw [fdv_pos _ _ (by omega), fdv_pos _ _ (by omega)]; omega
theorem neg_less (p : Int) (h : ¬ p.tmod 1024 = 0) : fdv (-p) 1024 = -fdv p 1024 - 1 := by
  have h1 : p % 1024 ≠ 0 := fun k => h ((tmod_zero p).mpr k)
  rw [fdv_pos _ _ (by omega), fdv_pos _ _ (by omega)]; omega

theorem FixedNegation_walk (a0 a1 : Int) (w0 : (Lit.int .i64 a0).wf = true) (w1 : (Lit.int .i64 a1).wf = true) (w : World) :
    Calls Try.prog 4 #[.int .i64 a0, .int .i64 a1] w fun e w' => e = .returned (.bool true) ∧ Grown w w' := by
  obtain ⟨x, hx0, hx1, c0⟩ := smallE a0 w0
  obtain ⟨y, hy0, hy1, c1⟩ := smallE a1 w1
  have p1 := mul_bd hx0 hx1 hy0 hy1
  have q1 : -x * -y = x * y := Int.neg_mul_neg x y
  have q0 : -x * y = -(x * y) := Int.neg_mul x y
  have q3 := fdv_le (x * y) 1024
  have q3a : -4611686018427387905 ≤ fdv (x * y) 1024 := by omega
  have q3b : fdv (x * y) 1024 ≤ 4611686018427387905 := by omega
  clear q3
  by_cases hm : (x * y).tmod 1024 = 0
  · have hm0 : ((x * y).tmod 1024 == 0) = true := by simpa using hm
    have q2 : fdv (-(x * y)) 1024 = -fdv (x * y) 1024 := neg_exact _ hm
    clear hm
    go_enter Try.func4, Try.ntmps4
    go_wp2_with (first | (go_at_call 14; with_reducible refine (c0 _).mono ?_; rintro e w' ⟨rfl, rfl⟩) | (go_at_call 14; with_reducible refine (c1 _).mono ?_; rintro e w' ⟨rfl, rfl⟩) | (go_at_call 12; refine (mul_any _ _ _ (by omega) (by omega)).mono ?_; rintro e w' ⟨rfl, n, rfl⟩) | (go_at_call 13; refine (lives_any _).mono ?_; rintro e w' ⟨rfl, n, rfl⟩))
    go_ret
    exact ⟨rfl, by repeat (first | exact Grown.refl _ | apply grown_drewN | apply Grown.drew | apply Grown.alloc)⟩
  · have hm0 : ((x * y).tmod 1024 == 0) = false := by simpa using hm
    have q2 : fdv (-(x * y)) 1024 = -fdv (x * y) 1024 - 1 := neg_less _ hm
    clear hm
    go_enter Try.func4, Try.ntmps4
    go_wp2_with (first | (go_at_call 14; with_reducible refine (c0 _).mono ?_; rintro e w' ⟨rfl, rfl⟩) | (go_at_call 14; with_reducible refine (c1 _).mono ?_; rintro e w' ⟨rfl, rfl⟩) | (go_at_call 12; refine (mul_any _ _ _ (by omega) (by omega)).mono ?_; rintro e w' ⟨rfl, n, rfl⟩) | (go_at_call 13; refine (lives_any _).mono ?_; rintro e w' ⟨rfl, n, rfl⟩))
    go_ret
    exact ⟨rfl, by repeat (first | exact Grown.refl _ | apply grown_drewN | apply Grown.drew | apply Grown.alloc)⟩
end Go.Proofs.Ytkhfkcijobfnmaa.FxW
