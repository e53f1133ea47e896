/-
  The walk of the law FixedRemainder: it returns true at every input.
-/
import Derived.Test.YtkhfkcijobfnmaaFxG
namespace Go.Proofs.Ytkhfkcijobfnmaa.FxW
open Go.RowKit Go.Proofs.Ytkhfkcijobfnmaa.FxMath Go.Proofs.Ytkhfkcijobfnmaa.FxA
set_option linter.unusedVariables false

theorem self_quot (x z : Int) (hz : z ≠ 0) : fdv (x * z) z = x := by
  by_cases h : 0 < z
  · exact fdv_unique _ _ _ h (by rw [Int.mul_comm z x]; omega)
  · rw [fdv_neg _ _ (by omega), Int.neg_mul_eq_mul_neg]
    exact Int.mul_ediv_cancel _ (by omega)

theorem FixedRemainder_walk (a0 a1 a2 : Int) (w0 : (Lit.int .i64 a0).wf = true) (w1 : (Lit.int .i64 a1).wf = true) (w2 : (Lit.int .i64 a2).wf = true) (w : World) :
    Calls Try.prog 8 #[.int .i64 a0, .int .i64 a1, .int .i64 a2] w fun e w' => e = .returned (.bool true) ∧ Grown w w' := by
  obtain ⟨x, hx0, hx1, c0⟩ := smallE a0 w0
  obtain ⟨y, hy0, hy1, c1⟩ := smallE a1 w1
  obtain ⟨z, hz0, hz1, c2⟩ := smallE a2 w2
  have p1 := mul_bd hx0 hx1 hy0 hy1
  have p2 := mul_bd hx0 hx1 hz0 hz1
  have r1 : fdv (x * 1024) 1024 = x := fdv_unique _ _ _ (by omega) (by omega)
  have r2 : fdv (x * y) 0 = 0 := fdv_zero _
  have r3 : fdv (x * 1024) 0 = 0 := fdv_zero _
  by_cases hz : z = 0
  · subst hz
    clear p2
    go_enter Try.func8, Try.ntmps8
    go_wp2_with (first | (go_at_call 14; with_reducible refine (c0 _).mono ?_; rintro e w' ⟨rfl, rfl⟩) | (go_at_call 14; with_reducible refine (c1 _).mono ?_; rintro e w' ⟨rfl, rfl⟩) | (go_at_call 14; with_reducible refine (c2 _).mono ?_; rintro e w' ⟨rfl, rfl⟩) | (go_at_call 12; refine (mul_any _ _ _ (by omega) (by omega)).mono ?_; rintro e w' ⟨rfl, n, rfl⟩) | (go_at_call 17; refine (div_any _ _ _ (by omega) (by omega)).mono ?_; rintro e w' ⟨rfl, n, rfl⟩) | (go_at_call 19; refine (mulDiv_any _ _ _ _ (by omega) (by omega)).mono ?_; rintro e w' ⟨rfl, n, rfl⟩) | (go_at_call 13; refine (lives_any _).mono ?_; rintro e w' ⟨rfl, n, rfl⟩))
    go_ret
    exact ⟨rfl, by repeat (first | exact Grown.refl _ | apply grown_drewN | apply Grown.drew | apply Grown.alloc)⟩
  · have hz' : (z == 0) = false := by simpa using hz
    have r4 : fdv (x * z) z = x := self_quot x z hz
    have hs := fdv_spec (x * y) z hz
    obtain ⟨q, hq⟩ : ∃ q, fdv (x * y) z = q := ⟨_, rfl⟩
    rw [hq] at hs
    by_cases hz0 : 0 < z
    · have hs1 := (hs.1 hz0).1
      have hs2 := (hs.1 hz0).2
      have ha : abv (x * y - z * q) < abv z := by unfold abv; split <;> split <;> omega
      clear hs hz
      by_cases hr : x * y - z * q = 0
      · have hr' : (x * y - z * q != 0) = false := by simpa using hr
        clear hr
        go_enter Try.func8, Try.ntmps8
        go_wp2_with (first | (go_at_call 14; with_reducible refine (c0 _).mono ?_; rintro e w' ⟨rfl, rfl⟩) | (go_at_call 14; with_reducible refine (c1 _).mono ?_; rintro e w' ⟨rfl, rfl⟩) | (go_at_call 14; with_reducible refine (c2 _).mono ?_; rintro e w' ⟨rfl, rfl⟩) | (go_at_call 12; refine (mul_any _ _ _ (by omega) (by omega)).mono ?_; rintro e w' ⟨rfl, n, rfl⟩) | (go_at_call 17; refine (div_any _ _ _ (by omega) (by omega)).mono ?_; rintro e w' ⟨rfl, n, rfl⟩) | (go_at_call 19; refine (mulDiv_any _ _ _ _ (by omega) (by omega)).mono ?_; rintro e w' ⟨rfl, n, rfl⟩) | (go_at_call 24; refine (abs_any _ _ (by omega) (by omega)).mono ?_; rintro e w' ⟨rfl, rfl⟩) | (go_at_call 13; refine (lives_any _).mono ?_; rintro e w' ⟨rfl, n, rfl⟩))
        go_ret
        exact ⟨rfl, by repeat (first | exact Grown.refl _ | apply grown_drewN | apply Grown.drew | apply Grown.alloc)⟩
      · have hr' : (x * y - z * q != 0) = true := by simpa using hr
        have hd : decide (x * y - z * q < 0) = false := by simpa using hs1
        have hd2 : decide (z < 0) = false := by simp; omega
        clear hr
        go_enter Try.func8, Try.ntmps8
        go_wp2_with (first | (go_at_call 14; with_reducible refine (c0 _).mono ?_; rintro e w' ⟨rfl, rfl⟩) | (go_at_call 14; with_reducible refine (c1 _).mono ?_; rintro e w' ⟨rfl, rfl⟩) | (go_at_call 14; with_reducible refine (c2 _).mono ?_; rintro e w' ⟨rfl, rfl⟩) | (go_at_call 12; refine (mul_any _ _ _ (by omega) (by omega)).mono ?_; rintro e w' ⟨rfl, n, rfl⟩) | (go_at_call 17; refine (div_any _ _ _ (by omega) (by omega)).mono ?_; rintro e w' ⟨rfl, n, rfl⟩) | (go_at_call 19; refine (mulDiv_any _ _ _ _ (by omega) (by omega)).mono ?_; rintro e w' ⟨rfl, n, rfl⟩) | (go_at_call 24; refine (abs_any _ _ (by omega) (by omega)).mono ?_; rintro e w' ⟨rfl, rfl⟩) | (go_at_call 13; refine (lives_any _).mono ?_; rintro e w' ⟨rfl, n, rfl⟩))
        go_ret
        exact ⟨rfl, by repeat (first | exact Grown.refl _ | apply grown_drewN | apply Grown.drew | apply Grown.alloc)⟩
    · have hs1 := (hs.2 (by omega)).1
      have hs2 := (hs.2 (by omega)).2
      have ha : abv (x * y - z * q) < abv z := by unfold abv; split <;> split <;> omega
      have hzn : z < 0 := by omega
      clear hs hz hz0
      by_cases hr : x * y - z * q = 0
      · have hr' : (x * y - z * q != 0) = false := by simpa using hr
        clear hr
        go_enter Try.func8, Try.ntmps8
        go_wp2_with (first | (go_at_call 14; with_reducible refine (c0 _).mono ?_; rintro e w' ⟨rfl, rfl⟩) | (go_at_call 14; with_reducible refine (c1 _).mono ?_; rintro e w' ⟨rfl, rfl⟩) | (go_at_call 14; with_reducible refine (c2 _).mono ?_; rintro e w' ⟨rfl, rfl⟩) | (go_at_call 12; refine (mul_any _ _ _ (by omega) (by omega)).mono ?_; rintro e w' ⟨rfl, n, rfl⟩) | (go_at_call 17; refine (div_any _ _ _ (by omega) (by omega)).mono ?_; rintro e w' ⟨rfl, n, rfl⟩) | (go_at_call 19; refine (mulDiv_any _ _ _ _ (by omega) (by omega)).mono ?_; rintro e w' ⟨rfl, n, rfl⟩) | (go_at_call 24; refine (abs_any _ _ (by omega) (by omega)).mono ?_; rintro e w' ⟨rfl, rfl⟩) | (go_at_call 13; refine (lives_any _).mono ?_; rintro e w' ⟨rfl, n, rfl⟩))
        go_ret
        exact ⟨rfl, by repeat (first | exact Grown.refl _ | apply grown_drewN | apply Grown.drew | apply Grown.alloc)⟩
      · have hr' : (x * y - z * q != 0) = true := by simpa using hr
        have hr1 : x * y - z * q < 0 := by omega
        clear hr
        go_enter Try.func8, Try.ntmps8
        go_wp2_with (first | (go_at_call 14; with_reducible refine (c0 _).mono ?_; rintro e w' ⟨rfl, rfl⟩) | (go_at_call 14; with_reducible refine (c1 _).mono ?_; rintro e w' ⟨rfl, rfl⟩) | (go_at_call 14; with_reducible refine (c2 _).mono ?_; rintro e w' ⟨rfl, rfl⟩) | (go_at_call 12; refine (mul_any _ _ _ (by omega) (by omega)).mono ?_; rintro e w' ⟨rfl, n, rfl⟩) | (go_at_call 17; refine (div_any _ _ _ (by omega) (by omega)).mono ?_; rintro e w' ⟨rfl, n, rfl⟩) | (go_at_call 19; refine (mulDiv_any _ _ _ _ (by omega) (by omega)).mono ?_; rintro e w' ⟨rfl, n, rfl⟩) | (go_at_call 24; refine (abs_any _ _ (by omega) (by omega)).mono ?_; rintro e w' ⟨rfl, rfl⟩) | (go_at_call 13; refine (lives_any _).mono ?_; rintro e w' ⟨rfl, n, rfl⟩))
        go_ret
        exact ⟨rfl, by repeat (first | exact Grown.refl _ | apply grown_drewN | apply Grown.drew | apply Grown.alloc)⟩
end Go.Proofs.Ytkhfkcijobfnmaa.FxW
