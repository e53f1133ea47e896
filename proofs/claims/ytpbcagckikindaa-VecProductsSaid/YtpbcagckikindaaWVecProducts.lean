/-
  The walk of the law VecProducts: it returns true at every input.
  Conditions: none.
-/
import Derived.Test.YtpbcagckikindaaVeL
namespace Go.Proofs.Ytpbcagckikindaa.W
open Go.RowKit Go.Proofs.Ytpbcagckikindaa.FxMath Go.Proofs.Ytpbcagckikindaa.FxA Go.Proofs.Ytpbcagckikindaa.Qt Go.Proofs.Ytpbcagckikindaa.Ve
set_option linter.unusedVariables false
set_option linter.unusedSimpArgs false
set_option maxHeartbeats 4000000 in
theorem VecProducts_walk (a0a a0b a0c a0d : Int) (w : World) (w0a : (Lit.int .i64 a0a).wf = true) (w0b : (Lit.int .i64 a0b).wf = true) (w0c : (Lit.int .i64 a0c).wf = true) (w0d : (Lit.int .i64 a0d).wf = true) :
    Calls Try.prog 9 #[.agg #[.int .i64 a0a, .int .i64 a0b, .int .i64 a0c, .int .i64 a0d]] w fun e w' => e = .returned (.bool true) ∧ Below w.heap.size w w' := by
  obtain ⟨x, y, hx0, hx1, hy0, hy1, c0⟩ := ofM a0a a0b w0a w0b
  obtain ⟨a, b, ha0, ha1, hb0, hb1, c1⟩ := ofM a0c a0d w0c w0d
  have C0 := Lib.hid c0
  have C1 := Lib.hid c1
  clear c0 c1
  have hal := alloc_if; have hfal := allocF_if
  have p1 := mul_bd hx0 hx1 ha0 ha1
  have p2 := mul_bd hy0 hy1 hb0 hb1
  have p3 := mul_bd hx0 hx1 hb0 hb1
  have p4 := mul_bd hy0 hy1 ha0 ha1
  have p5 := mul_bd hx0 hx1 hx0 hx1
  have p6 := mul_bd hy0 hy1 hy0 hy1
  go_enter Try.func9, Try.ntmps9
  go_wp2_with (first | (go_at_call 30; (with_reducible refine (C0.out _).mono ?_); rintro e w1 ⟨rfl, hb1⟩; obtain ⟨N1, hN1, hc1, hf1, hs1⟩ := bcell hb1; (try simp only [World.size_alloc, World.size_setCell, World.size_drew] at hN1)) | (go_at_call 30; (with_reducible refine (C1.out _).mono ?_); rintro e w1 ⟨rfl, hb1⟩; obtain ⟨N1, hN1, hc1, hf1, hs1⟩ := bcell hb1; (try simp only [World.size_alloc, World.size_setCell, World.size_drew] at hN1)))
  refine wp_region_later (by kernel_rfl) (by kernel_rfl) fun NL hL => ?_; obtain ⟨hNL, hlc, hlf⟩ := hL; (try simp only [World.size_alloc, World.size_setCell, World.size_drew] at hNL)
  repeat (go_big_quiet_step (first | (go_at_call 22; exact later_call (dot_any _ _ _ _ (by omega) (by omega) (by omega) (by omega) _)) | (go_at_call 31; exact later_call (rdot_any _ _ _ _ (by omega) (by omega) (by omega) (by omega) _)) | (go_at_call 32; exact later_call (cross_any _ _ _ _ (by omega) (by omega) (by omega) (by omega) _)) | (go_at_call 33; exact later_call (rcross_any _ _ _ _ (by omega) (by omega) (by omega) (by omega) _)) | (go_at_call 34; exact later_call (len_any _ _ (by omega) (by omega) _)) | (go_at_call 35; exact later_call (rlen_any _ _ (by omega) (by omega) _)) | (go_at_call 36; with_reducible exact later_call (normalize_zero _)) | (go_at_call 36; exact later_call (normalize_any _ _ (by omega) (by omega) (by omega) (by omega) (by omega) (by omega) _)) | (go_at_call 37; exact later_call (rnormalize_any _ _ (by omega) (by omega) (by omega) (by omega) (by omega) (by omega) _)) | (go_at_call 38; exact later_call (lives_any _))))
  (refine wpQuiet_nil ?_; intro w1 hw1; obtain ⟨⟨w1, hb1⟩, rfl⟩ := hw1; clear hlc hlf hNL NL; obtain ⟨N1, hN1, hc1, hf1, hs1⟩ := bcell hb1; (try simp only [World.size_alloc, World.size_setCell, World.size_drew] at hN1))
  go_wp2
  go_ret
  exact ⟨rfl, by (repeat (first | exact Below.refl _ _ | (with_reducible refine Below.drew ?_) | (with_reducible refine below_drewN ?_ _) | (with_reducible refine Below.setCell ?_ (by first | (simp; done) | (simp; omega) | omega) _) | (with_reducible refine Below.alloc ?_ (by first | (simp; done) | (simp; omega) | omega) _) | (with_reducible refine Below.trans ?_ (Below.mono (by assumption) (by first | (simp; done) | (simp; omega) | omega)))))⟩
end Go.Proofs.Ytpbcagckikindaa.W
