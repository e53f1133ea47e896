/-
  The walk of the law VecCauchy: it returns true at every input.
  Conditions: none.
-/
import Derived.Test.YtpbcagckikindaaVeL
import Derived.Test.YtpbcagckikindaaVeM
import Derived.Test.YtpbcagckikindaaFxG
namespace Go.Proofs.Ytpbcagckikindaa.W
open Go.RowKit Go.Proofs.Ytpbcagckikindaa.FxMath Go.Proofs.Ytpbcagckikindaa.FxA Go.Proofs.Ytpbcagckikindaa.Qt Go.Proofs.Ytpbcagckikindaa.Ve
set_option linter.unusedVariables false
set_option linter.unusedSimpArgs false
set_option maxHeartbeats 4000000 in
theorem VecCauchy_walk (a0a a0b a0c a0d : Int) (w : World) (w0a : (Lit.int .i64 a0a).wf = true) (w0b : (Lit.int .i64 a0b).wf = true) (w0c : (Lit.int .i64 a0c).wf = true) (w0d : (Lit.int .i64 a0d).wf = true) :
    Calls Try.prog 14 #[.agg #[.int .i64 a0a, .int .i64 a0b, .int .i64 a0c, .int .i64 a0d]] w fun e w' => e = .returned (.bool true) ∧ Below w.heap.size w w' := by
  obtain ⟨x, y, hx0, hx1, hy0, hy1, c0⟩ := ofM a0a a0b w0a w0b
  obtain ⟨a, b, ha0, ha1, hb0, hb1, c1⟩ := ofM a0c a0d w0c w0d
  have p1 := mul_bd hx0 hx1 ha0 ha1
  have p2 := mul_bd hy0 hy1 hb0 hb1
  have p3 := mul_bd hx0 hx1 hb0 hb1
  have p4 := mul_bd hy0 hy1 ha0 ha1
  have p5 := mul_bd hx0 hx1 hx0 hx1
  have p6 := mul_bd hy0 hy1 hy0 hy1
  have i1 := VeM.inner_lt x y a b
  have i2 := VeM.inner_lt x y b (-a)
  have e1 : y * -a = -(y * a) := Int.mul_neg y a
  have e2 : b * b + -a * -a = a * a + b * b := by rw [Int.neg_mul_neg]; omega
  rw [e1, e2] at i2
  have p7 := mul_bd ha0 ha1 ha0 ha1
  have p8 := mul_bd hb0 hb1 hb0 hb1
  have l0 := isq_nonneg (x * x + y * y)
  have l1 := isq_le (x * x + y * y) 16777216 (by decide) (by omega)
  have m0 := isq_nonneg (a * a + b * b)
  have m1 := isq_le (a * a + b * b) 16777216 (by decide) (by omega)
  have h1 := len_any x y (by omega) (by omega)
  have h2 := len_any a b (by omega) (by omega)
  have h3 := dot_any x y a b (by omega) (by omega) (by omega) (by omega)
  have h4 := cross_any x y a b (by omega) (by omega) (by omega) (by omega)
  have h5 := lives_any
  generalize isq (x * x + y * y) = l at *
  generalize isq (a * a + b * b) = m at *
  have q1 := mul_bd (a := l + 1) (b := m + 1) (A := 16777217) (B := 16777217) (by omega) (by omega) (by omega) (by omega)
  have d0 : -281474976710656 ≤ (x * a + y * b) / 1024 ∧ (x * a + y * b) / 1024 ≤ 281474976710656 := by omega
  have d1 : abv ((x * a + y * b) / 1024) * 1024 ≤ (l + 1) * (m + 1) + 1024 := by unfold abv; split <;> omega
  have d2 : abv ((x * b - y * a) / 1024) * 1024 ≤ (l + 1) * (m + 1) + 1024 := by unfold abv; split <;> omega
  have g0 : -281474976710656 ≤ (x * b - y * a) / 1024 ∧ (x * b - y * a) / 1024 ≤ 281474976710656 := by omega
  have d3 : 0 ≤ abv ((x * a + y * b) / 1024) := by unfold abv; split <;> omega
  have d4 : 0 ≤ abv ((x * b - y * a) / 1024) := by unfold abv; split <;> omega
  generalize (x * a + y * b) / 1024 = d at *
  generalize (x * b - y * a) / 1024 = g at *
  have h6 : Gives Try.prog 43 #[.int .i64 d] (.int .i64 (abv d)) := gives_same (fun w => abs_any d w (by omega) (by omega))
  have h7 : Gives Try.prog 43 #[.int .i64 g] (.int .i64 (abv g)) := gives_same (fun w => abs_any g w (by omega) (by omega))
  have q2 : -281474976710656 ≤ (l + 1) * (m + 1) := by omega
  have q3 : (l + 1) * (m + 1) ≤ 281509336449024 := by omega
  have C0 := Lib.hid c0
  have C1 := Lib.hid c1
  have H1 := Lib.hid h1
  have H2 := Lib.hid h2
  have H3 := Lib.hid h3
  have H4 := Lib.hid h4
  have H5 := Lib.hid h5
  have H6 := Lib.hid h6
  have H7 := Lib.hid h7
  clear c0 c1 h1 h2 h3 h4 h5 h6 h7
  clear p1 p2 p3 p4 p5 p6 p7 p8 i1 i2 e1 e2 q1
  have hal := alloc_if; have hfal := allocF_if
  go_enter Try.func14, Try.ntmps14
  go_wp2_with (first | ((with_reducible refine (C0.out _).mono ?_); rintro e w1 ⟨rfl, hb1⟩; obtain ⟨N1, hN1, hc1, hf1, hs1⟩ := bcell hb1; (try simp only [World.size_alloc, World.size_setCell, World.size_drew] at hN1)) | ((with_reducible refine (C1.out _).mono ?_); rintro e w1 ⟨rfl, hb1⟩; obtain ⟨N1, hN1, hc1, hf1, hs1⟩ := bcell hb1; (try simp only [World.size_alloc, World.size_setCell, World.size_drew] at hN1)))
  refine wp_region_later (by kernel_rfl) (by kernel_rfl) fun NL hL => ?_; obtain ⟨hNL, hlc, hlf⟩ := hL; (try simp only [World.size_alloc, World.size_setCell, World.size_drew] at hNL)
  repeat (go_big_quiet_step (first | (with_reducible exact later_call (H1.out _)) | (with_reducible exact later_call (H2.out _))))
  (refine wpQuiet_nil ?_; intro w1 hw1; obtain ⟨⟨w1, hb1⟩, rfl⟩ := hw1; clear hlc hlf hNL NL; obtain ⟨N1, hN1, hc1, hf1, hs1⟩ := bcell hb1; (try simp only [World.size_alloc, World.size_setCell, World.size_drew] at hN1))
  go_wp2_with (first | ((with_reducible refine (H3.out _).mono ?_); rintro e w1 ⟨rfl, hb1⟩; obtain ⟨N1, hN1, hc1, hf1, hs1⟩ := bcell hb1; (try simp only [World.size_alloc, World.size_setCell, World.size_drew] at hN1)) | ((with_reducible refine (H4.out _).mono ?_); rintro e w1 ⟨rfl, hb1⟩; obtain ⟨N1, hN1, hc1, hf1, hs1⟩ := bcell hb1; (try simp only [World.size_alloc, World.size_setCell, World.size_drew] at hN1)) | ((with_reducible refine (H5.out _).mono ?_); rintro e w1 ⟨rfl, hb1⟩; obtain ⟨N1, hN1, hc1, hf1, hs1⟩ := bcell hb1; (try simp only [World.size_alloc, World.size_setCell, World.size_drew] at hN1)) | ((with_reducible refine (H6.out _).mono ?_); rintro e w1 ⟨rfl, hb1⟩; obtain ⟨N1, hN1, hc1, hf1, hs1⟩ := bcell hb1; (try simp only [World.size_alloc, World.size_setCell, World.size_drew] at hN1)) | ((with_reducible refine (H7.out _).mono ?_); rintro e w1 ⟨rfl, hb1⟩; obtain ⟨N1, hN1, hc1, hf1, hs1⟩ := bcell hb1; (try simp only [World.size_alloc, World.size_setCell, World.size_drew] at hN1)))
  go_ret
  exact ⟨rfl, by (repeat (first | exact Below.refl _ _ | (with_reducible refine Below.drew ?_) | (with_reducible refine below_drewN ?_ _) | (with_reducible refine Below.setCell ?_ (by first | (simp; done) | (simp; omega) | omega) _) | (with_reducible refine Below.alloc ?_ (by first | (simp; done) | (simp; omega) | omega) _) | (with_reducible refine Below.trans ?_ (Below.mono (by assumption) (by first | (simp; done) | (simp; omega) | omega)))))⟩
end Go.Proofs.Ytpbcagckikindaa.W
