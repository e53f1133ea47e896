/-
  The walk of the law VecTriangle: it returns true at every input.
  Conditions: none.
-/
import Derived.Test.YtpbcagckikindaaVeL
import Derived.Test.YtpbcagckikindaaVeM
import Derived.Test.YtpbcagckikindaaFxG
namespace Go.Proofs.Ytpbcagckikindaa.W
open Go.RowKit Go.Proofs.Ytpbcagckikindaa.FxMath Go.Proofs.Ytpbcagckikindaa.FxA Go.Proofs.Ytpbcagckikindaa.Qt Go.Proofs.Ytpbcagckikindaa.Ve
set_option linter.unusedVariables false
set_option linter.unusedSimpArgs false
theorem isq_zero_iff (x y : Int) : isq (x * x + y * y) = 0 ↔ x = 0 ∧ y = 0 := by
  have hx := VeM.sq_nonneg x
  have hy := VeM.sq_nonneg y
  constructor
  · intro h
    have := (isq_spec (x * x + y * y) (by omega)).2
    rw [h] at this
    have h1 : x * x = 0 := by omega
    have h2 : y * y = 0 := by omega
    exact ⟨by rcases Int.mul_eq_zero.mp h1 with h | h <;> exact h, by rcases Int.mul_eq_zero.mp h2 with h | h <;> exact h⟩
  · rintro ⟨rfl, rfl⟩; exact isq_neg _ (by decide)
set_option maxHeartbeats 4000000 in
theorem VecTriangle_walk (a0a a0b a0c a0d : Int) (w : World) (w0a : (Lit.int .i64 a0a).wf = true) (w0b : (Lit.int .i64 a0b).wf = true) (w0c : (Lit.int .i64 a0c).wf = true) (w0d : (Lit.int .i64 a0d).wf = true) :
    Calls Try.prog 15 #[.agg #[.int .i64 a0a, .int .i64 a0b, .int .i64 a0c, .int .i64 a0d]] w fun e w' => e = .returned (.bool true) ∧ Below w.heap.size w w' := by
  obtain ⟨x, y, hx0, hx1, hy0, hy1, c0⟩ := ofM a0a a0b w0a w0b
  obtain ⟨a, b, ha0, ha1, hb0, hb1, c1⟩ := ofM a0c a0d w0c w0d
  have p1 := mul_bd hx0 hx1 ha0 ha1
  have p2 := mul_bd hy0 hy1 hb0 hb1
  have p3 := mul_bd hx0 hx1 hb0 hb1
  have p4 := mul_bd hy0 hy1 ha0 ha1
  have p5 := mul_bd hx0 hx1 hx0 hx1
  have p6 := mul_bd hy0 hy1 hy0 hy1
  have t1 := VeM.tri x y a b
  have t2 := VeM.tri (x + a) (y + b) (-a) (-b)
  have t3 := VeM.tri (x + a) (y + b) (-x) (-y)
  have p7 := mul_bd ha0 ha1 ha0 ha1
  have p8 := mul_bd hb0 hb1 hb0 hb1
  rw [show x + a + -a = x by omega, show y + b + -b = y by omega, show -a * -a + -b * -b = a * a + b * b by rw [Int.neg_mul_neg, Int.neg_mul_neg]] at t2
  rw [show x + a + -x = a by omega, show y + b + -y = b by omega, show -x * -x + -y * -y = x * x + y * y by rw [Int.neg_mul_neg, Int.neg_mul_neg]] at t3
  have p9 := mul_bd (a := x + a) (b := x + a) (A := 16777216) (B := 16777216) (by omega) (by omega) (by omega) (by omega)
  have p10 := mul_bd (a := y + b) (b := y + b) (A := 16777216) (B := 16777216) (by omega) (by omega) (by omega) (by omega)
  have l0 := isq_nonneg (x * x + y * y)
  have l1 := isq_le (x * x + y * y) 16777216 (by decide) (by omega)
  have m0 := isq_nonneg (a * a + b * b)
  have m1 := isq_le (a * a + b * b) 16777216 (by decide) (by omega)
  have n0 := isq_nonneg ((x + a) * (x + a) + (y + b) * (y + b))
  have n1 := isq_le ((x + a) * (x + a) + (y + b) * (y + b)) 33554432 (by decide) (by omega)
  have h1 := add_any x y a b (by omega) (by omega) (by omega) (by omega)
  have h2 := len_any (x + a) (y + b) (by omega) (by omega)
  have h3 := len_any x y (by omega) (by omega)
  have h4 := len_any a b (by omega) (by omega)
  have h5 := lives_any
  have z := isq_zero_iff x y
  have nm : x = 0 → y = 0 → isq ((x + a) * (x + a) + (y + b) * (y + b)) = isq (a * a + b * b) := by rintro rfl rfl; simp only [Int.zero_add]
  generalize isq (x * x + y * y) = l at *
  generalize isq (a * a + b * b) = m at *
  generalize isq ((x + a) * (x + a) + (y + b) * (y + b)) = n at *
  have h6 : Gives Try.prog 43 #[.int .i64 (l - m)] (.int .i64 (abv (l - m))) := gives_same (fun w => abs_any (l - m) w (by omega) (by omega))
  have d1 : abv (l - m) ≤ n + 1 := by unfold abv; split <;> omega
  have d2 : 0 ≤ abv (l - m) := by unfold abv; split <;> omega
  clear p1 p2 p3 p4 p5 p6 p7 p8 p9 p10 t2 t3
  by_cases hx : x = 0
  · subst hx
    by_cases hy : y = 0
    · subst hy
      have hl : l = 0 := z.mpr ⟨rfl, rfl⟩
      subst hl
      have hnm := nm rfl rfl
      subst hnm
      have hnn : n ≤ n + 1 := by omega
      clear z nm
      simp only [Int.zero_add] at h1 h2
      simp only [Int.zero_sub] at h6 d1 d2
      have C0 := Lib.hid c0
      have C1 := Lib.hid c1
      have H1 := Lib.hid h1
      have H2 := Lib.hid h2
      have H3 := Lib.hid h3
      have H4 := Lib.hid h4
      have H5 := Lib.hid h5
      have H6 := Lib.hid h6
      clear c0 c1 h1 h2 h3 h4 h5 h6
      have hal := alloc_if; have hfal := allocF_if
      go_enter Try.func15, Try.ntmps15
      go_wp2_with (first | ((with_reducible refine (C0.out _).mono ?_); rintro e w1 ⟨rfl, hb1⟩; obtain ⟨N1, hN1, hc1, hf1, hs1⟩ := bcell hb1; (try simp only [World.size_alloc, World.size_setCell, World.size_drew] at hN1)) | ((with_reducible refine (C1.out _).mono ?_); rintro e w1 ⟨rfl, hb1⟩; obtain ⟨N1, hN1, hc1, hf1, hs1⟩ := bcell hb1; (try simp only [World.size_alloc, World.size_setCell, World.size_drew] at hN1)) | ((with_reducible refine (H1.out _).mono ?_); rintro e w1 ⟨rfl, hb1⟩; obtain ⟨N1, hN1, hc1, hf1, hs1⟩ := bcell hb1; (try simp only [World.size_alloc, World.size_setCell, World.size_drew] at hN1)) | ((with_reducible refine (H2.out _).mono ?_); rintro e w1 ⟨rfl, hb1⟩; obtain ⟨N1, hN1, hc1, hf1, hs1⟩ := bcell hb1; (try simp only [World.size_alloc, World.size_setCell, World.size_drew] at hN1)))
      refine wp_region_later (by kernel_rfl) (by kernel_rfl) fun NL hL => ?_; obtain ⟨hNL, hlc, hlf⟩ := hL; (try simp only [World.size_alloc, World.size_setCell, World.size_drew] at hNL)
      repeat (go_big_quiet_step (first | (with_reducible exact later_call (H1.out _)) | (with_reducible exact later_call (H2.out _)) | (with_reducible exact later_call (H3.out _)) | (with_reducible exact later_call (H4.out _)) | (with_reducible exact later_call (H5.out _)) | (with_reducible exact later_call (H6.out _))))
      (refine wpQuiet_nil ?_; intro w1 hw1; obtain ⟨⟨w1, hb1⟩, rfl⟩ := hw1; clear hlc hlf hNL NL; obtain ⟨N1, hN1, hc1, hf1, hs1⟩ := bcell hb1; (try simp only [World.size_alloc, World.size_setCell, World.size_drew] at hN1))
      go_wp2
      go_ret
      exact ⟨rfl, by (repeat (first | exact Below.refl _ _ | (with_reducible refine Below.drew ?_) | (with_reducible refine below_drewN ?_ _) | (with_reducible refine Below.setCell ?_ (by first | (simp; done) | (simp; omega) | omega) _) | (with_reducible refine Below.alloc ?_ (by first | (simp; done) | (simp; omega) | omega) _) | (with_reducible refine Below.trans ?_ (Below.mono (by assumption) (by first | (simp; done) | (simp; omega) | omega)))))⟩
    · have hl : (l == 0) = false := by
        have : ¬ l = 0 := fun h => hy (z.mp h).2
        simpa using this
      clear z nm
      simp only [Int.zero_add] at h1 h2
      have C0 := Lib.hid c0
      have C1 := Lib.hid c1
      have H1 := Lib.hid h1
      have H2 := Lib.hid h2
      have H3 := Lib.hid h3
      have H4 := Lib.hid h4
      have H5 := Lib.hid h5
      have H6 := Lib.hid h6
      clear c0 c1 h1 h2 h3 h4 h5 h6
      have hal := alloc_if; have hfal := allocF_if
      go_enter Try.func15, Try.ntmps15
      go_wp2_with (first | ((with_reducible refine (C0.out _).mono ?_); rintro e w1 ⟨rfl, hb1⟩; obtain ⟨N1, hN1, hc1, hf1, hs1⟩ := bcell hb1; (try simp only [World.size_alloc, World.size_setCell, World.size_drew] at hN1)) | ((with_reducible refine (C1.out _).mono ?_); rintro e w1 ⟨rfl, hb1⟩; obtain ⟨N1, hN1, hc1, hf1, hs1⟩ := bcell hb1; (try simp only [World.size_alloc, World.size_setCell, World.size_drew] at hN1)) | ((with_reducible refine (H1.out _).mono ?_); rintro e w1 ⟨rfl, hb1⟩; obtain ⟨N1, hN1, hc1, hf1, hs1⟩ := bcell hb1; (try simp only [World.size_alloc, World.size_setCell, World.size_drew] at hN1)) | ((with_reducible refine (H2.out _).mono ?_); rintro e w1 ⟨rfl, hb1⟩; obtain ⟨N1, hN1, hc1, hf1, hs1⟩ := bcell hb1; (try simp only [World.size_alloc, World.size_setCell, World.size_drew] at hN1)))
      refine wp_region_later (by kernel_rfl) (by kernel_rfl) fun NL hL => ?_; obtain ⟨hNL, hlc, hlf⟩ := hL; (try simp only [World.size_alloc, World.size_setCell, World.size_drew] at hNL)
      repeat (go_big_quiet_step (first | (with_reducible exact later_call (H1.out _)) | (with_reducible exact later_call (H2.out _)) | (with_reducible exact later_call (H3.out _)) | (with_reducible exact later_call (H4.out _)) | (with_reducible exact later_call (H5.out _)) | (with_reducible exact later_call (H6.out _))))
      (refine wpQuiet_nil ?_; intro w1 hw1; obtain ⟨⟨w1, hb1⟩, rfl⟩ := hw1; clear hlc hlf hNL NL; obtain ⟨N1, hN1, hc1, hf1, hs1⟩ := bcell hb1; (try simp only [World.size_alloc, World.size_setCell, World.size_drew] at hN1))
      go_wp2
      go_ret
      exact ⟨rfl, by (repeat (first | exact Below.refl _ _ | (with_reducible refine Below.drew ?_) | (with_reducible refine below_drewN ?_ _) | (with_reducible refine Below.setCell ?_ (by first | (simp; done) | (simp; omega) | omega) _) | (with_reducible refine Below.alloc ?_ (by first | (simp; done) | (simp; omega) | omega) _) | (with_reducible refine Below.trans ?_ (Below.mono (by assumption) (by first | (simp; done) | (simp; omega) | omega)))))⟩
  · have hl : (l == 0) = false := by
      have : ¬ l = 0 := fun h => hx (z.mp h).1
      simpa using this
    clear z nm
    have C0 := Lib.hid c0
    have C1 := Lib.hid c1
    have H1 := Lib.hid h1
    have H2 := Lib.hid h2
    have H3 := Lib.hid h3
    have H4 := Lib.hid h4
    have H5 := Lib.hid h5
    have H6 := Lib.hid h6
    clear c0 c1 h1 h2 h3 h4 h5 h6
    have hal := alloc_if; have hfal := allocF_if
    go_enter Try.func15, Try.ntmps15
    go_wp2_with (first | ((with_reducible refine (C0.out _).mono ?_); rintro e w1 ⟨rfl, hb1⟩; obtain ⟨N1, hN1, hc1, hf1, hs1⟩ := bcell hb1; (try simp only [World.size_alloc, World.size_setCell, World.size_drew] at hN1)) | ((with_reducible refine (C1.out _).mono ?_); rintro e w1 ⟨rfl, hb1⟩; obtain ⟨N1, hN1, hc1, hf1, hs1⟩ := bcell hb1; (try simp only [World.size_alloc, World.size_setCell, World.size_drew] at hN1)) | ((with_reducible refine (H1.out _).mono ?_); rintro e w1 ⟨rfl, hb1⟩; obtain ⟨N1, hN1, hc1, hf1, hs1⟩ := bcell hb1; (try simp only [World.size_alloc, World.size_setCell, World.size_drew] at hN1)) | ((with_reducible refine (H2.out _).mono ?_); rintro e w1 ⟨rfl, hb1⟩; obtain ⟨N1, hN1, hc1, hf1, hs1⟩ := bcell hb1; (try simp only [World.size_alloc, World.size_setCell, World.size_drew] at hN1)))
    refine wp_region_later (by kernel_rfl) (by kernel_rfl) fun NL hL => ?_; obtain ⟨hNL, hlc, hlf⟩ := hL; (try simp only [World.size_alloc, World.size_setCell, World.size_drew] at hNL)
    repeat (go_big_quiet_step (first | (with_reducible exact later_call (H1.out _)) | (with_reducible exact later_call (H2.out _)) | (with_reducible exact later_call (H3.out _)) | (with_reducible exact later_call (H4.out _)) | (with_reducible exact later_call (H5.out _)) | (with_reducible exact later_call (H6.out _))))
    (refine wpQuiet_nil ?_; intro w1 hw1; obtain ⟨⟨w1, hb1⟩, rfl⟩ := hw1; clear hlc hlf hNL NL; obtain ⟨N1, hN1, hc1, hf1, hs1⟩ := bcell hb1; (try simp only [World.size_alloc, World.size_setCell, World.size_drew] at hN1))
    go_wp2
    go_ret
    exact ⟨rfl, by (repeat (first | exact Below.refl _ _ | (with_reducible refine Below.drew ?_) | (with_reducible refine below_drewN ?_ _) | (with_reducible refine Below.setCell ?_ (by first | (simp; done) | (simp; omega) | omega) _) | (with_reducible refine Below.alloc ?_ (by first | (simp; done) | (simp; omega) | omega) _) | (with_reducible refine Below.trans ?_ (Below.mono (by assumption) (by first | (simp; done) | (simp; omega) | omega)))))⟩
end Go.Proofs.Ytpbcagckikindaa.W
