/-
  The walk of the law VecGroup: it returns true at every input.
  Conditions: none.
-/
import Derived.Test.YtpbcagckikindaaVeL
import Derived.Test.YtpbcagckikindaaVeM
import Derived.Test.YtpbcagckikindaaFxG
namespace Go.Proofs.Ytpbcagckikindaa.W
open Go.RowKit Go.Proofs.Ytpbcagckikindaa.FxMath Go.Proofs.Ytpbcagckikindaa.FxA Go.Proofs.Ytpbcagckikindaa.Qt Go.Proofs.Ytpbcagckikindaa.Ve
set_option linter.unusedVariables false
set_option linter.unusedSimpArgs false
set_option maxHeartbeats 4000000 in
theorem VecGroup_walk (a0a a0b a0c a0d a0e a0f : Int) (w : World) (w0a : (Lit.int .i64 a0a).wf = true) (w0b : (Lit.int .i64 a0b).wf = true) (w0c : (Lit.int .i64 a0c).wf = true) (w0d : (Lit.int .i64 a0d).wf = true) (w0e : (Lit.int .i64 a0e).wf = true) (w0f : (Lit.int .i64 a0f).wf = true) :
    Calls Try.prog 13 #[.agg #[.int .i64 a0a, .int .i64 a0b, .int .i64 a0c, .int .i64 a0d, .int .i64 a0e, .int .i64 a0f]] w fun e w' => e = .returned (.bool true) ∧ Below w.heap.size w w' := by
  obtain ⟨x, y, hx0, hx1, hy0, hy1, c0⟩ := ofM a0a a0b w0a w0b
  obtain ⟨a, b, ha0, ha1, hb0, hb1, c1⟩ := ofM a0c a0d w0c w0d
  obtain ⟨s, t, hs0, hs1, ht0, ht1, c2⟩ := ofM a0e a0f w0e w0f
  have f1 := fdv_le (s * 1) 2
  have f2 := fdv_le (t * 1) 2
  have f3 := fdv_le (x * 1) 4
  have f4 := fdv_le (y * 1) 4
  have f5 := fdv_le (a * 1) 4
  have f6 := fdv_le (b * 1) 4
  have h1 := vMulDiv_any s t 1 2 (by omega) (by omega) (by omega) (by omega)
  have h2 := add_any x y a b (by omega) (by omega) (by omega) (by omega)
  have h3 := add_any a b x y (by omega) (by omega) (by omega) (by omega)
  rw [Int.add_comm a x, Int.add_comm b y] at h3
  have h4 := sub_any (x + a) (y + b) a b (by omega) (by omega) (by omega) (by omega)
  rw [show x + a - a = x by omega, show y + b - b = y by omega] at h4
  have h5 := neg_any x y (by omega) (by omega) (by omega) (by omega)
  have h6 := add_any x y (-x) (-y) (by omega) (by omega) (by omega) (by omega)
  rw [show x + -x = 0 by omega, show y + -y = 0 by omega] at h6
  have h7 := vMulDiv_any x y 1 4 (by omega) (by omega) (by omega) (by omega)
  have h8 := vMulDiv_any a b 1 4 (by omega) (by omega) (by omega) (by omega)
  generalize fdv (s * 1) 2 = c at *
  generalize fdv (t * 1) 2 = d at *
  generalize fdv (x * 1) 4 = p at *
  generalize fdv (y * 1) 4 = q at *
  generalize fdv (a * 1) 4 = u at *
  generalize fdv (b * 1) 4 = v at *
  have h9 := add_any p q u v (by omega) (by omega) (by omega) (by omega)
  have h10 := add_any (p + u) (q + v) c d (by omega) (by omega) (by omega) (by omega)
  have h11 := add_any u v c d (by omega) (by omega) (by omega) (by omega)
  have h12 := add_any p q (u + c) (v + d) (by omega) (by omega) (by omega) (by omega)
  rw [show p + (u + c) = p + u + c by omega, show q + (v + d) = q + v + d by omega] at h12
  have h13 := add_any x y 0 0 (by omega) (by omega) (by omega) (by omega)
  rw [show x + 0 = x by omega, show y + 0 = y by omega] at h13
  have h14 := sub_any x y a b (by omega) (by omega) (by omega) (by omega)
  have h15 := neg_any a b (by omega) (by omega) (by omega) (by omega)
  have h16 := add_any x y (-a) (-b) (by omega) (by omega) (by omega) (by omega)
  rw [show x + -a = x - a by omega, show y + -b = y - b by omega] at h16
  have h17 := lives_any
  have C0 := Lib.hid c0
  have C1 := Lib.hid c1
  have C2 := Lib.hid c2
  have H1 := Lib.hid h1
  have H2 := Lib.hid h2
  have H3 := Lib.hid h3
  have H4 := Lib.hid h4
  have H5 := Lib.hid h5
  have H6 := Lib.hid h6
  have H7 := Lib.hid h7
  have H8 := Lib.hid h8
  have H9 := Lib.hid h9
  have H10 := Lib.hid h10
  have H11 := Lib.hid h11
  have H12 := Lib.hid h12
  have H13 := Lib.hid h13
  have H14 := Lib.hid h14
  have H15 := Lib.hid h15
  have H16 := Lib.hid h16
  have H17 := Lib.hid h17
  clear c0 c1 c2 h1 h2 h3 h4 h5 h6 h7 h8 h9 h10 h11 h12 h13 h14 h15 h16 h17
  clear f1 f2 f3 f4 f5 f6
  have hal := alloc_if; have hfal := allocF_if
  go_enter Try.func13, Try.ntmps13
  go_wp2_with (first | ((with_reducible refine (C0.out _).mono ?_); rintro e w1 ⟨rfl, hb1⟩; obtain ⟨N1, hN1, hc1, hf1, hs1⟩ := bcell hb1; (try simp only [World.size_alloc, World.size_setCell, World.size_drew] at hN1)) | ((with_reducible refine (C1.out _).mono ?_); rintro e w1 ⟨rfl, hb1⟩; obtain ⟨N1, hN1, hc1, hf1, hs1⟩ := bcell hb1; (try simp only [World.size_alloc, World.size_setCell, World.size_drew] at hN1)) | ((with_reducible refine (C2.out _).mono ?_); rintro e w1 ⟨rfl, hb1⟩; obtain ⟨N1, hN1, hc1, hf1, hs1⟩ := bcell hb1; (try simp only [World.size_alloc, World.size_setCell, World.size_drew] at hN1)) | ((with_reducible refine (H1.out _).mono ?_); rintro e w1 ⟨rfl, hb1⟩; obtain ⟨N1, hN1, hc1, hf1, hs1⟩ := bcell hb1; (try simp only [World.size_alloc, World.size_setCell, World.size_drew] at hN1)))
  refine wp_region_later (by kernel_rfl) (by kernel_rfl) fun NL hL => ?_; obtain ⟨hNL, hlc, hlf⟩ := hL; (try simp only [World.size_alloc, World.size_setCell, World.size_drew] at hNL)
  repeat (go_big_quiet_step (first | (with_reducible exact later_call (H2.out _)) | (with_reducible exact later_call (H3.out _)) | (with_reducible exact later_call (H4.out _)) | (with_reducible exact later_call (H5.out _)) | (with_reducible exact later_call (H6.out _))))
  (refine wpQuiet_nil ?_; intro w1 hw1; obtain ⟨⟨w1, hb1⟩, rfl⟩ := hw1; clear hlc hlf hNL NL; obtain ⟨N1, hN1, hc1, hf1, hs1⟩ := bcell hb1; (try simp only [World.size_alloc, World.size_setCell, World.size_drew] at hN1))
  go_wp2_with (first | ((with_reducible refine (H7.out _).mono ?_); rintro e w1 ⟨rfl, hb1⟩; obtain ⟨N1, hN1, hc1, hf1, hs1⟩ := bcell hb1; (try simp only [World.size_alloc, World.size_setCell, World.size_drew] at hN1)) | ((with_reducible refine (H8.out _).mono ?_); rintro e w1 ⟨rfl, hb1⟩; obtain ⟨N1, hN1, hc1, hf1, hs1⟩ := bcell hb1; (try simp only [World.size_alloc, World.size_setCell, World.size_drew] at hN1)))
  refine wp_region_later (by kernel_rfl) (by kernel_rfl) fun NL hL => ?_; obtain ⟨hNL, hlc, hlf⟩ := hL; (try simp only [World.size_alloc, World.size_setCell, World.size_drew] at hNL)
  repeat (go_big_quiet_step (first | (with_reducible exact later_call (H9.out _)) | (with_reducible exact later_call (H10.out _)) | (with_reducible exact later_call (H11.out _)) | (with_reducible exact later_call (H12.out _)) | (with_reducible exact later_call (H13.out _)) | (with_reducible exact later_call (H14.out _)) | (with_reducible exact later_call (H15.out _)) | (with_reducible exact later_call (H16.out _)) | (with_reducible exact later_call (H17.out _))))
  (refine wpQuiet_nil ?_; intro w1 hw1; obtain ⟨⟨w1, hb1⟩, rfl⟩ := hw1; clear hlc hlf hNL NL; obtain ⟨N1, hN1, hc1, hf1, hs1⟩ := bcell hb1; (try simp only [World.size_alloc, World.size_setCell, World.size_drew] at hN1))
  go_wp2
  go_ret
  exact ⟨rfl, by (repeat (first | exact Below.refl _ _ | (with_reducible refine Below.drew ?_) | (with_reducible refine below_drewN ?_ _) | (with_reducible refine Below.setCell ?_ (by first | (simp; done) | (simp; omega) | omega) _) | (with_reducible refine Below.alloc ?_ (by first | (simp; done) | (simp; omega) | omega) _) | (with_reducible refine Below.trans ?_ (Below.mono (by assumption) (by first | (simp; done) | (simp; omega) | omega)))))⟩
end Go.Proofs.Ytpbcagckikindaa.W
