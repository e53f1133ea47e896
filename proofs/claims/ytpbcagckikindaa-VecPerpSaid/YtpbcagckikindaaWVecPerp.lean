/-
  The walk of the law VecPerp: it returns true at every input.
  Conditions: none.
-/
import Derived.Test.YtpbcagckikindaaVeL
import Derived.Test.YtpbcagckikindaaVeM
import Derived.Test.YtpbcagckikindaaFxG
namespace Go.Proofs.Ytpbcagckikindaa.W
open Go.RowKit Go.Proofs.Ytpbcagckikindaa.FxMath Go.Proofs.Ytpbcagckikindaa.FxA Go.Proofs.Ytpbcagckikindaa.Qt Go.Proofs.Ytpbcagckikindaa.Ve
set_option linter.unusedVariables false
set_option linter.unusedSimpArgs false
set_option maxHeartbeats 4000000 in
theorem VecPerp_walk (a0a a0b a0c a0d : Int) (w : World) (w0a : (Lit.int .i64 a0a).wf = true) (w0b : (Lit.int .i64 a0b).wf = true) (w0c : (Lit.int .i64 a0c).wf = true) (w0d : (Lit.int .i64 a0d).wf = true) :
    Calls Try.prog 11 #[.agg #[.int .i64 a0a, .int .i64 a0b, .int .i64 a0c, .int .i64 a0d]] w fun e w' => e = .returned (.bool true) ∧ Below w.heap.size w w' := by
  obtain ⟨x, y, hx0, hx1, hy0, hy1, c0⟩ := ofM a0a a0b w0a w0b
  obtain ⟨a, b, ha0, ha1, hb0, hb1, c1⟩ := ofM a0c a0d w0c w0d
  have p1 := mul_bd hx0 hx1 ha0 ha1
  have p2 := mul_bd hy0 hy1 hb0 hb1
  have p3 := mul_bd hx0 hx1 hb0 hb1
  have p4 := mul_bd hy0 hy1 ha0 ha1
  have p5 := mul_bd hx0 hx1 hx0 hx1
  have p6 := mul_bd hy0 hy1 hy0 hy1
  have h1 := perp_any x y (by omega) (by omega)
  have h2 := perp_any (-y) x (by omega) (by omega)
  have h3 := neg_any x y (by omega) (by omega) (by omega) (by omega)
  have e4 : x * -y = -(x * y) := Int.mul_neg x y
  have e5 : y * x = x * y := Int.mul_comm y x
  have p7 := mul_bd hx0 hx1 hy0 hy1
  have h4 := dot_any x y (-y) x (by omega) (by omega) (by omega) (by omega)
  rw [show x * -y + y * x = 0 by omega, Int.zero_ediv] at h4
  have h5 := cross_any x y a b (by omega) (by omega) (by omega) (by omega)
  have e6 : -y * a = -(y * a) := Int.neg_mul y a
  have h6 := dot_any (-y) x a b (by omega) (by omega) (by omega) (by omega)
  rw [show -y * a + x * b = x * b - y * a by omega] at h6
  have h7 := dot_any x y a b (by omega) (by omega) (by omega) (by omega)
  have h8 := dot_any a b x y (by rw [Int.mul_comm]; omega) (by rw [Int.mul_comm]; omega) (by rw [Int.mul_comm]; omega) (by rw [Int.mul_comm]; omega)
  rw [Int.mul_comm a x, Int.mul_comm b y] at h8
  have h9 := cross_any x y x y (by omega) (by omega) (by omega) (by omega)
  rw [show x * y - y * x = 0 by omega, Int.zero_ediv] at h9
  have h10 := len_any x y (by omega) (by omega)
  have e7 : -y * -y = y * y := Int.neg_mul_neg y y
  have h11 := len_any (-y) x (by omega) (by omega)
  rw [show -y * -y + x * x = x * x + y * y by omega] at h11
  have h12 := lives_any
  generalize (x * b - y * a) / 1024 = c at h5 h6
  generalize (x * a + y * b) / 1024 = d at h7 h8
  generalize isq (x * x + y * y) = l at h10 h11
  have C0 := Lib.hid c0
  have C1 := Lib.hid c1
  have H1 := Lib.hid h1
  have H2 := Lib.hid h2
  have H3 := Lib.hid h3
  have H4 := Lib.hid h4
  have H5 := Lib.hid h5
  have H6 := Lib.hid h6
  have H7 := Lib.hid h7
  have H8 := Lib.hid h8
  have H9 := Lib.hid h9
  have H10 := Lib.hid h10
  have H11 := Lib.hid h11
  have H12 := Lib.hid h12
  clear c0 c1 h1 h2 h3 h4 h5 h6 h7 h8 h9 h10 h11 h12
  clear p1 p2 p3 p4 p5 p6 p7 e4 e5 e6 e7
  have hal := alloc_if; have hfal := allocF_if
  go_enter Try.func11, Try.ntmps11
  go_wp2_with (first | ((with_reducible refine (C0.out _).mono ?_); rintro e w1 ⟨rfl, hb1⟩; obtain ⟨N1, hN1, hc1, hf1, hs1⟩ := bcell hb1; (try simp only [World.size_alloc, World.size_setCell, World.size_drew] at hN1)) | ((with_reducible refine (C1.out _).mono ?_); rintro e w1 ⟨rfl, hb1⟩; obtain ⟨N1, hN1, hc1, hf1, hs1⟩ := bcell hb1; (try simp only [World.size_alloc, World.size_setCell, World.size_drew] at hN1)))
  refine wp_region_later (by kernel_rfl) (by kernel_rfl) fun NL hL => ?_; obtain ⟨hNL, hlc, hlf⟩ := hL; (try simp only [World.size_alloc, World.size_setCell, World.size_drew] at hNL)
  repeat (go_big_quiet_step (first | (with_reducible exact later_call (H1.out _)) | (with_reducible exact later_call (H2.out _)) | (with_reducible exact later_call (H3.out _)) | (with_reducible exact later_call (H4.out _)) | (with_reducible exact later_call (H5.out _)) | (with_reducible exact later_call (H6.out _)) | (with_reducible exact later_call (H7.out _)) | (with_reducible exact later_call (H8.out _)) | (with_reducible exact later_call (H9.out _)) | (with_reducible exact later_call (H10.out _)) | (with_reducible exact later_call (H11.out _)) | (with_reducible exact later_call (H12.out _))))
  (refine wpQuiet_nil ?_; intro w1 hw1; obtain ⟨⟨w1, hb1⟩, rfl⟩ := hw1; clear hlc hlf hNL NL; obtain ⟨N1, hN1, hc1, hf1, hs1⟩ := bcell hb1; (try simp only [World.size_alloc, World.size_setCell, World.size_drew] at hN1))
  go_wp2
  go_ret
  exact ⟨rfl, by (repeat (first | exact Below.refl _ _ | (with_reducible refine Below.drew ?_) | (with_reducible refine below_drewN ?_ _) | (with_reducible refine Below.setCell ?_ (by first | (simp; done) | (simp; omega) | omega) _) | (with_reducible refine Below.alloc ?_ (by first | (simp; done) | (simp; omega) | omega) _) | (with_reducible refine Below.trans ?_ (Below.mono (by assumption) (by first | (simp; done) | (simp; omega) | omega)))))⟩
end Go.Proofs.Ytpbcagckikindaa.W
