/-
  Contracts of MulDiv, Scale and Add of package vec.
  Conditions: the exact numbers fit 64 bits.
-/
import Derived.Test.YtiihnicmkenemaaVeA
namespace Go.Proofs.Ytiihnicmkenemaa.Ve
open Go.RowKit Go.Proofs.Ytiihnicmkenemaa.FxMath Go.Proofs.Ytiihnicmkenemaa.FxA Go.Proofs.Ytiihnicmkenemaa.Qt
set_option linter.unusedVariables false
set_option linter.unusedSimpArgs false
theorem mul_self_nonneg' (x : Int) : 0 ≤ x * x := by
  rcases Int.le_total 0 x with h | h
  · exact Int.mul_nonneg h h
  · exact Int.mul_nonneg_of_nonpos_of_nonpos h h
theorem add_any (x y a b : Int) (h0 : -9223372036854775808 ≤ x + a) (h1 : x + a ≤ 9223372036854775807) (h2 : -9223372036854775808 ≤ y + b) (h3 : y + b ≤ 9223372036854775807) :
    Gives Try.prog 12 #[.agg #[.int .i64 x, .int .i64 y], .agg #[.int .i64 a, .int .i64 b]] (.agg #[.int .i64 (x + a), .int .i64 (y + b)]) := by
  intro w
  go_enter Try.func12, Try.ntmps12
  go_wp2_with (go_at_call 30; refine (combine_add _ _ _ _ h0 h1 h2 h3 _).mono ?_; rintro e w1 ⟨rfl, hb1⟩; obtain ⟨N1, hN1, hc1, hf1, hs1⟩ := bcell hb1; (try simp only [World.size_alloc, World.size_setCell, World.size_drew] at hN1))
  refine bodyPost_ret (v := .agg #[.int .i64 (x + a), .int .i64 (y + b)]) (by simp [results, Try.results12, go_sem, hc1, alloc_if, ↓IntWalk.iteOmega]) rfl ⟨rfl, ?_⟩
  (repeat (first | exact Below.refl _ _ | (with_reducible refine Below.drew ?_) | (with_reducible refine below_drewN ?_ _) | (with_reducible refine Below.setCell ?_ (by first | (simp; done) | (simp; omega) | omega) _) | (with_reducible refine Below.alloc ?_ (by first | (simp; done) | (simp; omega) | omega) _) | (with_reducible refine Below.trans ?_ (Below.mono (by assumption) (by first | (simp; done) | (simp; omega) | omega))) | (with_reducible refine Below.trans ?_ (Below.mono (Later.below _) (by first | (simp; done) | (simp; omega) | omega)))))
end Go.Proofs.Ytiihnicmkenemaa.Ve
