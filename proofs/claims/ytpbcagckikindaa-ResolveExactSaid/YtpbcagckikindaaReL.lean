/-
  The section's example of package resolve: it works.
  Conditions: none.
-/
import Derived.Test.YtpbcagckikindaaReR
namespace Go.Proofs.Ytpbcagckikindaa.Re
open Go.RowKit Go.Proofs.Ytpbcagckikindaa.FxMath Go.Proofs.Ytpbcagckikindaa.FxA Go.Proofs.Ytpbcagckikindaa.Qt Go.Proofs.Ytpbcagckikindaa.Ve
set_option linter.unusedVariables false
set_option linter.unusedSimpArgs false
set_option maxHeartbeats 2000000 in
theorem lives_any : Gives Try.prog 21 #[] (.bool true) := by
  intro w
  have R := resolve_any 0 0 100 0 1024 90 0 (-100) 0 1024 1024 0 10 1024 ⟨by decide, by decide, by decide, by decide, by decide, by decide, by decide, by decide, by decide, by decide⟩ ⟨by decide, by decide, by decide, by decide, by decide, by decide, by decide, by decide, by decide, by decide⟩ ⟨by decide, by decide, by decide, by decide, by decide, by decide, by decide, by decide⟩ (-200) 200 200 5 5 (by decide +kernel) (by decide +kernel) (by decide +kernel) (by decide +kernel) (by decide +kernel)
  rw [show clm (0 - fdv (1024 * 5) 1024) (-1048576) 1048576 = -5 by decide +kernel, show clm (0 - fdv (0 * 5) 1024) (-1048576) 1048576 = 0 by decide +kernel, show clm (100 - fdv (1024 * 200) 1024) (-16384) 16384 = -100 by decide +kernel, show clm (0 - fdv (0 * 200) 1024) (-16384) 16384 = 0 by decide +kernel, show clm (90 + fdv (1024 * 5) 1024) (-1048576) 1048576 = 95 by decide +kernel, show clm (0 + fdv (0 * 5) 1024) (-1048576) 1048576 = 0 by decide +kernel, show clm (-100 + fdv (1024 * 200) 1024) (-16384) 16384 = 100 by decide +kernel, show clm (0 + fdv (0 * 200) 1024) (-16384) 16384 = 0 by decide +kernel] at R
  have H := Lib.hid R
  clear R
  have hal := alloc_if; have hfal := allocF_if
  go_enter Try.func21, Try.ntmps21
  go_wp2_with ((with_reducible refine (H.out _).mono ?_; rintro e w1 ⟨rfl, hb1⟩; obtain ⟨N1, hN1, hc1, hf1, hs1⟩ := bcell hb1; (try simp only [World.size_alloc, World.size_setCell, World.size_drew] at hN1)))
  go_ret
  exact ⟨rfl, by (repeat (first | exact Below.refl _ _ | (with_reducible refine Below.drew ?_) | (with_reducible refine below_drewN ?_ _) | (with_reducible refine Below.setCell ?_ (by first | (simp; done) | (simp; omega) | omega) _) | (with_reducible refine Below.alloc ?_ (by first | (simp; done) | (simp; omega) | omega) _) | (with_reducible refine Below.trans ?_ (Below.mono (by assumption) (by first | (simp; done) | (simp; omega) | omega)))))⟩
end Go.Proofs.Ytpbcagckikindaa.Re
