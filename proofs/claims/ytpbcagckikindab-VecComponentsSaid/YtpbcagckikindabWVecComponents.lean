/-
  The walk of the law VecComponents: it returns true at every input.
  Conditions: none.
-/
import Derived.Test.YtpbcagckikindabVeL
import Derived.Test.YtpbcagckikindabVeM
import Derived.Test.YtpbcagckikindabFxG
namespace Go.Proofs.Ytpbcagckikindab.W
open Go.RowKit Go.Proofs.Ytpbcagckikindab.FxMath Go.Proofs.Ytpbcagckikindab.FxA Go.Proofs.Ytpbcagckikindab.Qt Go.Proofs.Ytpbcagckikindab.Ve
set_option linter.unusedVariables false
set_option linter.unusedSimpArgs false
set_option maxHeartbeats 4000000 in
theorem VecComponents_walk (a0a a0b a0c a0d : Int) (a1 : Int) (a2 : Int) (w : World) (w0a : (Lit.int .i64 a0a).wf = true) (w0b : (Lit.int .i64 a0b).wf = true) (w0c : (Lit.int .i64 a0c).wf = true) (w0d : (Lit.int .i64 a0d).wf = true) (w1 : (Lit.int .i64 a1).wf = true) (w2 : (Lit.int .i64 a2).wf = true) :
    Calls Try.prog 3 #[.agg #[.int .i64 a0a, .int .i64 a0b, .int .i64 a0c, .int .i64 a0d], .int .i64 a1, .int .i64 a2] w fun e w' => e = .returned (.bool true) ∧ Below w.heap.size w w' := by
  obtain ⟨x, y, hx0, hx1, hy0, hy1, c0⟩ := ofM a0a a0b w0a w0b
  obtain ⟨a, b, ha0, ha1, hb0, hb1, c1⟩ := ofM a0c a0d w0c w0d
  obtain ⟨z, hz0, hz1, ck'⟩ := aroundE a1 33554432 w1 (by omega) (by omega)
  obtain ⟨v, hv0, hv1, cm'⟩ := aroundE a2 4096 w2 (by omega) (by omega)
  have ck := gives_same ck'
  have cm := gives_same cm'
  clear ck' cm'
  have p1 := mul_bd (a := x) (b := z - 16777216) (A := 8388608) (B := 16777216) (by omega) (by omega) (by omega) (by omega)
  have p2 := mul_bd (a := y) (b := z - 16777216) (A := 8388608) (B := 16777216) (by omega) (by omega) (by omega) (by omega)
  have h1 := add_any x y a b (by omega) (by omega) (by omega) (by omega)
  have h2 := radd_any x y a b (by omega) (by omega) (by omega) (by omega)
  have h3 := sub_any x y a b (by omega) (by omega) (by omega) (by omega)
  have h4 := rsub_any x y a b (by omega) (by omega) (by omega) (by omega)
  have h5 := neg_any x y (by omega) (by omega) (by omega) (by omega)
  have h6 := rneg_any x y (by omega) (by omega) (by omega) (by omega)
  have h7 := perp_any x y (by omega) (by omega)
  have h8 := rperp_any x y (by omega) (by omega)
  have h9 := scale_any x y (z - 16777216) (by omega) (by omega) (by omega) (by omega)
  have h10 := rscale_any x y (z - 16777216) (by omega) (by omega) (by omega) (by omega)
  have h11 := vMulDiv_any x y (z - 16777216) (v - 2048) (by omega) (by omega) (by omega) (by omega)
  have h12 := rvMulDiv_any x y (z - 16777216) (v - 2048) (by omega) (by omega) (by omega) (by omega)
  have h13 := vMulDiv_any x y (z - 16777216) 0 (by omega) (by omega) (by omega) (by omega)
  rw [fdv_zero, fdv_zero] at h13
  have h14 := lives_any
  generalize fdv (x * (z - 16777216)) 1024 = r at *
  generalize fdv (y * (z - 16777216)) 1024 = s at *
  generalize fdv (x * (z - 16777216)) (v - 2048) = r' at *
  generalize fdv (y * (z - 16777216)) (v - 2048) = s' at *
  have C0 := Lib.hid c0
  have C1 := Lib.hid c1
  have CK := Lib.hid ck
  have CM := Lib.hid cm
  have H1 := Lib.hid h1
  have H2 := Lib.hid h2
  have H3 := Lib.hid h3
  have H4 := Lib.hid h4
  have H5 := Lib.hid h5
  have H6 := Lib.hid h6
  have H7 := Lib.hid h7
  have H8 := Lib.hid h8
  have H9 := Lib.hid h9
  have H10 := Lib.hid h10
  have H11 := Lib.hid h11
  have H12 := Lib.hid h12
  have H13 := Lib.hid h13
  have H14 := Lib.hid h14
  clear c0 c1 ck cm h1 h2 h3 h4 h5 h6 h7 h8 h9 h10 h11 h12 h13 h14
  clear p1 p2
  have hal := alloc_if; have hfal := allocF_if
  go_enter Try.func3, Try.ntmps3
  go_wp2_with (first | ((with_reducible refine (C0.out _).mono ?_); rintro e w1 ⟨rfl, hb1⟩; obtain ⟨N1, hN1, hc1, hf1, hs1⟩ := bcell hb1; (try simp only [World.size_alloc, World.size_setCell, World.size_drew] at hN1)) | ((with_reducible refine (C1.out _).mono ?_); rintro e w1 ⟨rfl, hb1⟩; obtain ⟨N1, hN1, hc1, hf1, hs1⟩ := bcell hb1; (try simp only [World.size_alloc, World.size_setCell, World.size_drew] at hN1)) | ((with_reducible refine (CK.out _).mono ?_); rintro e w1 ⟨rfl, hb1⟩; obtain ⟨N1, hN1, hc1, hf1, hs1⟩ := bcell hb1; (try simp only [World.size_alloc, World.size_setCell, World.size_drew] at hN1)) | ((with_reducible refine (CM.out _).mono ?_); rintro e w1 ⟨rfl, hb1⟩; obtain ⟨N1, hN1, hc1, hf1, hs1⟩ := bcell hb1; (try simp only [World.size_alloc, World.size_setCell, World.size_drew] at hN1)))
  refine wp_region_later (by kernel_rfl) (by kernel_rfl) fun NL hL => ?_; obtain ⟨hNL, hlc, hlf⟩ := hL; (try simp only [World.size_alloc, World.size_setCell, World.size_drew] at hNL)
  repeat (go_big_quiet_step (first | (with_reducible exact later_call (H1.out _)) | (with_reducible exact later_call (H2.out _)) | (with_reducible exact later_call (H3.out _)) | (with_reducible exact later_call (H4.out _)) | (with_reducible exact later_call (H5.out _)) | (with_reducible exact later_call (H6.out _)) | (with_reducible exact later_call (H7.out _)) | (with_reducible exact later_call (H8.out _))))
  (refine wpQuiet_nil ?_; intro w1 hw1; obtain ⟨⟨w1, hb1⟩, rfl⟩ := hw1; clear hlc hlf hNL NL; obtain ⟨N1, hN1, hc1, hf1, hs1⟩ := bcell hb1; (try simp only [World.size_alloc, World.size_setCell, World.size_drew] at hN1))
  go_wp2
  refine wp_region_later (by kernel_rfl) (by kernel_rfl) fun NL hL => ?_; obtain ⟨hNL, hlc, hlf⟩ := hL; (try simp only [World.size_alloc, World.size_setCell, World.size_drew] at hNL)
  repeat (go_big_quiet_step (first | (with_reducible exact later_call (H9.out _)) | (with_reducible exact later_call (H10.out _)) | (with_reducible exact later_call (H11.out _)) | (with_reducible exact later_call (H12.out _)) | (with_reducible exact later_call (H13.out _)) | (with_reducible exact later_call (H14.out _))))
  (refine wpQuiet_nil ?_; intro w1 hw1; obtain ⟨⟨w1, hb1⟩, rfl⟩ := hw1; clear hlc hlf hNL NL; obtain ⟨N1, hN1, hc1, hf1, hs1⟩ := bcell hb1; (try simp only [World.size_alloc, World.size_setCell, World.size_drew] at hN1))
  go_wp2
  go_ret
  exact ⟨rfl, by (repeat (first | exact Below.refl _ _ | (with_reducible refine Below.drew ?_) | (with_reducible refine below_drewN ?_ _) | (with_reducible refine Below.setCell ?_ (by first | (simp; done) | (simp; omega) | omega) _) | (with_reducible refine Below.alloc ?_ (by first | (simp; done) | (simp; omega) | omega) _) | (with_reducible refine Below.trans ?_ (Below.mono (by assumption) (by first | (simp; done) | (simp; omega) | omega)))))⟩
end Go.Proofs.Ytpbcagckikindab.W
