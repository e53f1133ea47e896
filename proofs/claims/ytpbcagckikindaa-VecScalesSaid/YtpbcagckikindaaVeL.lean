/-
  The section's examples of package vec: they work.
  Conditions: none.
-/
import Derived.Test.YtpbcagckikindaaVeC
import Derived.Test.YtpbcagckikindaaVeR
import Derived.Test.YtpbcagckikindaaFxG
import Derived.Test.YtpbcagckikindaaFr
namespace Go.Proofs.Ytpbcagckikindaa.Ve
open Go.RowKit Go.Proofs.Ytpbcagckikindaa.FxMath Go.Proofs.Ytpbcagckikindaa.FxA Go.Proofs.Ytpbcagckikindaa.Qt
set_option linter.unusedVariables false
set_option linter.unusedSimpArgs false
theorem lives_any : Gives Try.prog 38 #[] (.bool true) := by
  intro w
  have e1 : ((1024 : Int) * 1024 + 2048 * 0) / 1024 = 1024 := by decide
  have i1 : isq (3072 * 3072 + 4096 * 4096) = 5120 := isq_unique _ _ (by decide) (by decide) (by decide)
  have i2 : isq (3 * 3 + 4 * 4) = 5 := isq_unique _ _ (by decide) (by decide) (by decide)
  have f1 : fdv (3072 * 1024) 5120 = 614 := by decide +kernel
  have f2 : fdv (4096 * 1024) 5120 = 819 := by decide +kernel
  have d := dot_any 1024 2048 1024 0 (by decide) (by decide) (by decide) (by decide)
  rw [e1] at d
  have n := normalize_any 3072 4096 (by decide) (by decide) (by decide) (by decide) (by decide) (by decide)
  rw [i1, f1, f2] at n
  have l := len_any 3 4 (by decide) (by decide)
  rw [i2] at l
  have D := Lib.hid d
  have N := Lib.hid n
  have L := Lib.hid l
  clear d n l e1 i1 i2 f1 f2
  go_enter Try.func38, Try.ntmps38
  go_wp2_with (first | (go_at_call 22; refine (D.out _).mono ?_; rintro e w1 ⟨rfl, hb1⟩; obtain ⟨N1, hN1, hc1, hf1, hs1⟩ := bcell hb1; (try simp only [World.size_alloc, World.size_setCell, World.size_drew] at hN1)) | (go_at_call 36; refine (N.out _).mono ?_; rintro e w1 ⟨rfl, hb1⟩; obtain ⟨N1, hN1, hc1, hf1, hs1⟩ := bcell hb1; (try simp only [World.size_alloc, World.size_setCell, World.size_drew] at hN1)) | (go_at_call 34; refine (L.out _).mono ?_; rintro e w1 ⟨rfl, hb1⟩; obtain ⟨N1, hN1, hc1, hf1, hs1⟩ := bcell hb1; (try simp only [World.size_alloc, World.size_setCell, World.size_drew] at hN1)))
  go_ret
  exact ⟨rfl, by (repeat (first | exact Below.refl _ _ | (with_reducible refine Below.drew ?_) | (with_reducible refine below_drewN ?_ _) | (with_reducible refine Below.setCell ?_ (by first | (simp; done) | (simp; omega) | omega) _) | (with_reducible refine Below.alloc ?_ (by first | (simp; done) | (simp; omega) | omega) _) | (with_reducible refine Below.trans ?_ (Below.mono (by assumption) (by first | (simp; done) | (simp; omega) | omega)))))⟩
end Go.Proofs.Ytpbcagckikindaa.Ve
