/-
  Contracts of the references for package vec, and of the maker Of of vectors.
  Conditions: the exact numbers fit 64 bits.
-/
import Derived.Test.YtiihnicmkenemaaFxG
import Derived.Test.YtiihnicmkenemaaQt
import Derived.Test.YtiihnicmkenemaaVeB
namespace Go.Proofs.Ytiihnicmkenemaa.Ve
open Go.RowKit Go.Proofs.Ytiihnicmkenemaa.FxMath Go.Proofs.Ytiihnicmkenemaa.FxA Go.Proofs.Ytiihnicmkenemaa.Qt
set_option linter.unusedVariables false
set_option linter.unusedSimpArgs false

theorem rfloor_any (n : Int) (w : World) (h0 : -9223372036854775808 ≤ n) (h1 : n ≤ 9223372036854775807) :
    Calls Try.prog 45 #[.int .i64 n] w fun e w' => e = .returned (.int .i64 (n / 1024)) ∧ w = w' := by
  have t1 := Int.mul_tdiv_add_tmod n 1024
  have t2 := tmod_sign n 1024
  have t3 := tmod_abs n 1024 (by decide)
  have q1 : -9007199254740992 ≤ n.tdiv 1024 := by omega
  have q2 : n.tdiv 1024 ≤ 9007199254740992 := by omega
  have q3 : -9223372036854775808 ≤ n.tdiv 1024 * 1024 := by omega
  have q4 : n.tdiv 1024 * 1024 ≤ 9223372036854775807 := by omega
  have H := Lib.hid (show 1024 * n.tdiv 1024 + n.tmod 1024 = n ∧ ((0 ≤ n → 0 ≤ n.tmod 1024) ∧ (n ≤ 0 → n.tmod 1024 ≤ 0)) ∧ n.tmod 1024 < 1024 ∧ -1024 < n.tmod 1024 from ⟨t1, t2, by omega, by omega⟩)
  clear t1 t2 t3
  go_enter Try.func45, Try.ntmps45
  go_wp2
  all_goals
    go_ret
    refine ⟨ret_int ?_, rfl⟩
    have H' := H.out
    omega
theorem radd_any (x y a b : Int) (h0 : -9223372036854775808 ≤ x + a) (h1 : x + a ≤ 9223372036854775807) (h2 : -9223372036854775808 ≤ y + b) (h3 : y + b ≤ 9223372036854775807) :
    Gives Try.prog 19 #[.agg #[.int .i64 x, .int .i64 y], .agg #[.int .i64 a, .int .i64 b]] (.agg #[.int .i64 (x + a), .int .i64 (y + b)]) := by
  intro w
  go_enter Try.func19, Try.ntmps19
  go_wp2
  refine bodyPost_ret (v := .agg #[.int .i64 (x + a), .int .i64 (y + b)]) (by simp [results, Try.results19, go_sem]) rfl ⟨rfl, ?_⟩
  (repeat (first | exact Below.refl _ _ | (with_reducible refine Below.drew ?_) | (with_reducible refine below_drewN ?_ _) | (with_reducible refine Below.setCell ?_ (by first | (simp; done) | (simp; omega) | omega) _) | (with_reducible refine Below.alloc ?_ (by first | (simp; done) | (simp; omega) | omega) _) | (with_reducible refine Below.trans ?_ (Below.mono (by assumption) (by first | (simp; done) | (simp; omega) | omega))) | (with_reducible refine Below.trans ?_ (Below.mono (Later.below _) (by first | (simp; done) | (simp; omega) | omega)))))
theorem rsub_any (x y a b : Int) (h0 : -9223372036854775808 ≤ x - a) (h1 : x - a ≤ 9223372036854775807) (h2 : -9223372036854775808 ≤ y - b) (h3 : y - b ≤ 9223372036854775807) :
    Gives Try.prog 39 #[.agg #[.int .i64 x, .int .i64 y], .agg #[.int .i64 a, .int .i64 b]] (.agg #[.int .i64 (x - a), .int .i64 (y - b)]) := by
  intro w
  go_enter Try.func39, Try.ntmps39
  go_wp2
  refine bodyPost_ret (v := .agg #[.int .i64 (x - a), .int .i64 (y - b)]) (by simp [results, Try.results39, go_sem]) rfl ⟨rfl, ?_⟩
  (repeat (first | exact Below.refl _ _ | (with_reducible refine Below.drew ?_) | (with_reducible refine below_drewN ?_ _) | (with_reducible refine Below.setCell ?_ (by first | (simp; done) | (simp; omega) | omega) _) | (with_reducible refine Below.alloc ?_ (by first | (simp; done) | (simp; omega) | omega) _) | (with_reducible refine Below.trans ?_ (Below.mono (by assumption) (by first | (simp; done) | (simp; omega) | omega))) | (with_reducible refine Below.trans ?_ (Below.mono (Later.below _) (by first | (simp; done) | (simp; omega) | omega)))))
theorem rdot_any (x y a b : Int) (h1 : -4611686018427387904 ≤ x * a) (h2 : x * a ≤ 4611686018427387903) (h3 : -4611686018427387904 ≤ y * b) (h4 : y * b ≤ 4611686018427387903) :
    Gives Try.prog 38 #[.agg #[.int .i64 x, .int .i64 y], .agg #[.int .i64 a, .int .i64 b]] (.int .i64 ((x * a + y * b) / 1024)) := by
  intro w
  go_enter Try.func38, Try.ntmps38
  go_wp2_with (go_at_call 45; refine (rfloor_any _ _ (by omega) (by omega)).mono ?_; rintro e w' ⟨rfl, rfl⟩)
  go_ret
  exact ⟨rfl, by (repeat (first | exact Below.refl _ _ | (with_reducible refine Below.drew ?_) | (with_reducible refine below_drewN ?_ _) | (with_reducible refine Below.setCell ?_ (by first | (simp; done) | (simp; omega) | omega) _) | (with_reducible refine Below.alloc ?_ (by first | (simp; done) | (simp; omega) | omega) _) | (with_reducible refine Below.trans ?_ (Below.mono (by assumption) (by first | (simp; done) | (simp; omega) | omega))) | (with_reducible refine Below.trans ?_ (Below.mono (Later.below _) (by first | (simp; done) | (simp; omega) | omega)))))⟩
theorem ofM (x y : Int) (hx : (Lit.int .i64 x).wf = true) (hy : (Lit.int .i64 y).wf = true) :
    ∃ a b : Int, -8388608 ≤ a ∧ a ≤ 8388608 ∧ -8388608 ≤ b ∧ b ≤ 8388608 ∧ Gives Try.prog 11 #[.int .i64 x, .int .i64 y] (.agg #[.int .i64 a, .int .i64 b]) := by
  have bx := i64_bd hx
  have by' := i64_bd hy
  have t1 := Int.mul_tdiv_add_tmod x 2
  have t2 := tmod_abs x 2 (by decide)
  have t3 : -9223372036854775808 ≤ x.tdiv 2 := by omega
  have t4 : x.tdiv 2 ≤ 9223372036854775807 := by omega
  clear t1 t2
  have c2 := aro_bd x 2 (by decide)
  have one : ∀ (m : Int) (hm : m = 5000 ∨ m = 8388608) (u1 : 0 ≤ aro (x.tdiv 2) (2 * m + 1)) (u2 : aro (x.tdiv 2) (2 * m + 1) < 2 * m + 1) (u3 : 0 ≤ aro y (2 * m + 1)) (u4 : aro y (2 * m + 1) < 2 * m + 1) (h1 : (aro x 2 == 1) = decide (m = 5000)), Gives Try.prog 11 #[.int .i64 x, .int .i64 y] (.agg #[.int .i64 (aro (x.tdiv 2) (2 * m + 1) - m), .int .i64 (aro y (2 * m + 1) - m)]) := by
    rintro m (rfl | rfl) u1 u2 u3 u4 h1 w
    · have h1' : (aro x 2 == 1) = true := by simpa using h1
      clear h1
      simp only [show (2 * 5000 + 1 : Int) = 10001 by decide] at u1 u2 u3 u4 ⊢
      go_enter Try.func11, Try.ntmps11
      go_wp2_with (go_at_call 17; refine (around_any _ _ _ (by omega) (by omega) (by omega) (by omega)).mono ?_; rintro e w' ⟨rfl, rfl⟩)
      refine bodyPost_ret (v := .agg #[.int .i64 (aro (x.tdiv 2) 10001 - 5000), .int .i64 (aro y 10001 - 5000)]) (by simp [results, Try.results11, go_sem]) rfl ⟨rfl, ?_⟩
      (repeat (first | exact Below.refl _ _ | (with_reducible refine Below.drew ?_) | (with_reducible refine below_drewN ?_ _) | (with_reducible refine Below.setCell ?_ (by first | (simp; done) | (simp; omega) | omega) _) | (with_reducible refine Below.alloc ?_ (by first | (simp; done) | (simp; omega) | omega) _) | (with_reducible refine Below.trans ?_ (Below.mono (by assumption) (by first | (simp; done) | (simp; omega) | omega))) | (with_reducible refine Below.trans ?_ (Below.mono (Later.below _) (by first | (simp; done) | (simp; omega) | omega)))))
    · have h1' : (aro x 2 == 1) = false := by simpa using h1
      clear h1
      simp only [show (2 * 8388608 + 1 : Int) = 16777217 by decide] at u1 u2 u3 u4 ⊢
      go_enter Try.func11, Try.ntmps11
      go_wp2_with (go_at_call 17; refine (around_any _ _ _ (by omega) (by omega) (by omega) (by omega)).mono ?_; rintro e w' ⟨rfl, rfl⟩)
      refine bodyPost_ret (v := .agg #[.int .i64 (aro (x.tdiv 2) 16777217 - 8388608), .int .i64 (aro y 16777217 - 8388608)]) (by simp [results, Try.results11, go_sem]) rfl ⟨rfl, ?_⟩
      (repeat (first | exact Below.refl _ _ | (with_reducible refine Below.drew ?_) | (with_reducible refine below_drewN ?_ _) | (with_reducible refine Below.setCell ?_ (by first | (simp; done) | (simp; omega) | omega) _) | (with_reducible refine Below.alloc ?_ (by first | (simp; done) | (simp; omega) | omega) _) | (with_reducible refine Below.trans ?_ (Below.mono (by assumption) (by first | (simp; done) | (simp; omega) | omega))) | (with_reducible refine Below.trans ?_ (Below.mono (Later.below _) (by first | (simp; done) | (simp; omega) | omega)))))
  by_cases h1 : aro x 2 = 1
  · have u := aro_bd (x.tdiv 2) (2 * 5000 + 1) (by decide)
    have v := aro_bd y (2 * 5000 + 1) (by decide)
    exact ⟨_, _, by omega, by omega, by omega, by omega, one 5000 (.inl rfl) u.1 u.2 v.1 v.2 (by simp [h1])⟩
  · have u := aro_bd (x.tdiv 2) (2 * 8388608 + 1) (by decide)
    have v := aro_bd y (2 * 8388608 + 1) (by decide)
    exact ⟨_, _, by omega, by omega, by omega, by omega, one 8388608 (.inr rfl) u.1 u.2 v.1 v.2 (by simp [h1])⟩
end Go.Proofs.Ytiihnicmkenemaa.Ve
