/-
  Contracts of the references for package vec, and of the maker Of of vectors.
  Conditions: the exact numbers fit 64 bits.
-/
import Derived.Test.YtpbcagckikindaaFxG
import Derived.Test.YtpbcagckikindaaQt
import Derived.Test.YtpbcagckikindaaVeB
namespace Go.Proofs.Ytpbcagckikindaa.Ve
open Go.RowKit Go.Proofs.Ytpbcagckikindaa.FxMath Go.Proofs.Ytpbcagckikindaa.FxA Go.Proofs.Ytpbcagckikindaa.Qt
set_option linter.unusedVariables false
set_option linter.unusedSimpArgs false

theorem rfloor_any (n : Int) (w : World) (h0 : -9223372036854775808 ≤ n) (h1 : n ≤ 9223372036854775807) :
    Calls Try.prog 64 #[.int .i64 n] w fun e w' => e = .returned (.int .i64 (n / 1024)) ∧ w = w' := by
  have t1 := Int.mul_tdiv_add_tmod n 1024
  have t2 := tmod_sign n 1024
  have t3 := tmod_abs n 1024 (by decide)
  have q1 : -9007199254740992 ≤ n.tdiv 1024 := by omega
  have q2 : n.tdiv 1024 ≤ 9007199254740992 := by omega
  have q3 : -9223372036854775808 ≤ n.tdiv 1024 * 1024 := by omega
  have q4 : n.tdiv 1024 * 1024 ≤ 9223372036854775807 := by omega
  have H := Lib.hid (show 1024 * n.tdiv 1024 + n.tmod 1024 = n ∧ ((0 ≤ n → 0 ≤ n.tmod 1024) ∧ (n ≤ 0 → n.tmod 1024 ≤ 0)) ∧ n.tmod 1024 < 1024 ∧ -1024 < n.tmod 1024 from ⟨t1, t2, by omega, by omega⟩)
  clear t1 t2 t3
  go_enter Try.func64, Try.ntmps64
  go_wp2
  all_goals
    go_ret
    refine ⟨ret_int ?_, rfl⟩
    have H' := H.out
    omega
theorem radd_any (x y a b : Int) (h0 : -9223372036854775808 ≤ x + a) (h1 : x + a ≤ 9223372036854775807) (h2 : -9223372036854775808 ≤ y + b) (h3 : y + b ≤ 9223372036854775807) :
    Gives Try.prog 58 #[.agg #[.int .i64 x, .int .i64 y], .agg #[.int .i64 a, .int .i64 b]] (.agg #[.int .i64 (x + a), .int .i64 (y + b)]) := by
  intro w
  go_enter Try.func58, Try.ntmps58
  go_wp2
  refine bodyPost_ret (v := .agg #[.int .i64 (x + a), .int .i64 (y + b)]) (by simp [results, Try.results58, go_sem]) rfl ⟨rfl, ?_⟩
  (repeat (first | exact Below.refl _ _ | (with_reducible refine Below.drew ?_) | (with_reducible refine below_drewN ?_ _) | (with_reducible refine Below.setCell ?_ (by first | (simp; done) | (simp; omega) | omega) _) | (with_reducible refine Below.alloc ?_ (by first | (simp; done) | (simp; omega) | omega) _) | (with_reducible refine Below.trans ?_ (Below.mono (by assumption) (by first | (simp; done) | (simp; omega) | omega)))))
theorem rsub_any (x y a b : Int) (h0 : -9223372036854775808 ≤ x - a) (h1 : x - a ≤ 9223372036854775807) (h2 : -9223372036854775808 ≤ y - b) (h3 : y - b ≤ 9223372036854775807) :
    Gives Try.prog 54 #[.agg #[.int .i64 x, .int .i64 y], .agg #[.int .i64 a, .int .i64 b]] (.agg #[.int .i64 (x - a), .int .i64 (y - b)]) := by
  intro w
  go_enter Try.func54, Try.ntmps54
  go_wp2
  refine bodyPost_ret (v := .agg #[.int .i64 (x - a), .int .i64 (y - b)]) (by simp [results, Try.results54, go_sem]) rfl ⟨rfl, ?_⟩
  (repeat (first | exact Below.refl _ _ | (with_reducible refine Below.drew ?_) | (with_reducible refine below_drewN ?_ _) | (with_reducible refine Below.setCell ?_ (by first | (simp; done) | (simp; omega) | omega) _) | (with_reducible refine Below.alloc ?_ (by first | (simp; done) | (simp; omega) | omega) _) | (with_reducible refine Below.trans ?_ (Below.mono (by assumption) (by first | (simp; done) | (simp; omega) | omega)))))
theorem rdot_any (x y a b : Int) (h1 : -4611686018427387904 ≤ x * a) (h2 : x * a ≤ 4611686018427387903) (h3 : -4611686018427387904 ≤ y * b) (h4 : y * b ≤ 4611686018427387903) :
    Gives Try.prog 31 #[.agg #[.int .i64 x, .int .i64 y], .agg #[.int .i64 a, .int .i64 b]] (.int .i64 ((x * a + y * b) / 1024)) := by
  intro w
  go_enter Try.func31, Try.ntmps31
  go_wp2_with (go_at_call 64; refine (rfloor_any _ _ (by omega) (by omega)).mono ?_; rintro e w' ⟨rfl, rfl⟩)
  go_ret
  exact ⟨rfl, by (repeat (first | exact Below.refl _ _ | (with_reducible refine Below.drew ?_) | (with_reducible refine below_drewN ?_ _) | (with_reducible refine Below.setCell ?_ (by first | (simp; done) | (simp; omega) | omega) _) | (with_reducible refine Below.alloc ?_ (by first | (simp; done) | (simp; omega) | omega) _) | (with_reducible refine Below.trans ?_ (Below.mono (by assumption) (by first | (simp; done) | (simp; omega) | omega)))))⟩
theorem rcross_any (x y a b : Int) (h1 : -4611686018427387904 ≤ x * b) (h2 : x * b ≤ 4611686018427387903) (h3 : -4611686018427387903 ≤ y * a) (h4 : y * a ≤ 4611686018427387904) :
    Gives Try.prog 33 #[.agg #[.int .i64 x, .int .i64 y], .agg #[.int .i64 a, .int .i64 b]] (.int .i64 ((x * b - y * a) / 1024)) := by
  intro w
  go_enter Try.func33, Try.ntmps33
  go_wp2_with (go_at_call 64; refine (rfloor_any _ _ (by omega) (by omega)).mono ?_; rintro e w' ⟨rfl, rfl⟩)
  go_ret
  exact ⟨rfl, by (repeat (first | exact Below.refl _ _ | (with_reducible refine Below.drew ?_) | (with_reducible refine below_drewN ?_ _) | (with_reducible refine Below.setCell ?_ (by first | (simp; done) | (simp; omega) | omega) _) | (with_reducible refine Below.alloc ?_ (by first | (simp; done) | (simp; omega) | omega) _) | (with_reducible refine Below.trans ?_ (Below.mono (by assumption) (by first | (simp; done) | (simp; omega) | omega)))))⟩
theorem rlen_any (x y : Int) (h1 : x * x ≤ 2305843009213693952) (h3 : y * y ≤ 2305843009213693952) :
    Gives Try.prog 35 #[.agg #[.int .i64 x, .int .i64 y]] (.int .i64 (isq (x * x + y * y))) := by
  intro w
  have h0 : 0 ≤ x * x := mul_self_nonneg' x
  have h2 : 0 ≤ y * y := mul_self_nonneg' y
  go_enter Try.func35, Try.ntmps35
  go_wp2_with (go_at_call 66; refine (risqrt_any _ _ (by omega)).mono ?_; rintro e w' ⟨rfl, rfl⟩)
  go_ret
  exact ⟨rfl, by (repeat (first | exact Below.refl _ _ | (with_reducible refine Below.drew ?_) | (with_reducible refine below_drewN ?_ _) | (with_reducible refine Below.setCell ?_ (by first | (simp; done) | (simp; omega) | omega) _) | (with_reducible refine Below.alloc ?_ (by first | (simp; done) | (simp; omega) | omega) _) | (with_reducible refine Below.trans ?_ (Below.mono (by assumption) (by first | (simp; done) | (simp; omega) | omega)))))⟩
theorem rvMulDiv_any (x y n d : Int) (h0 : -9223372036854775806 ≤ x * n) (h1 : x * n ≤ 9223372036854775806) (h2 : -9223372036854775806 ≤ y * n) (h3 : y * n ≤ 9223372036854775806) :
    Gives Try.prog 67 #[.agg #[.int .i64 x, .int .i64 y], .int .i64 n, .int .i64 d] (.agg #[.int .i64 (fdv (x * n) d), .int .i64 (fdv (y * n) d)]) := by
  intro w
  go_enter Try.func67, Try.ntmps67
  go_wp2
  refine wp_region_later_tail 11 (by kernel_rfl) (by kernel_rfl) fun NL hL => ?_; obtain ⟨hNL, hlc, hlf⟩ := hL; (try simp only [World.size_alloc, World.size_setCell, World.size_drew] at hNL); simp only [List.take_succ_cons, List.take_zero, List.drop_succ_cons, List.drop_zero]
  repeat (go_big_quiet_step ((go_at_call 55; exact later_call (gives_same (fun w => rmulDiv_any _ _ _ w (by omega) (by omega)) _))))
  (refine wpQuiet_nil ?_; intro w1 hw1; obtain ⟨⟨w1, hb1⟩, rfl⟩ := hw1; clear hlc hlf hNL NL; obtain ⟨N1, hN1, hc1, hf1, hs1⟩ := bcell hb1; (try simp only [World.size_alloc, World.size_setCell, World.size_drew] at hN1))
  go_wp2
  refine bodyPost_ret (v := .agg #[.int .i64 (fdv (x * n) d), .int .i64 (fdv (y * n) d)]) (by simp [results, Try.results67, go_sem, hc1, alloc_if, ↓IntWalk.iteOmega]) rfl ⟨rfl, ?_⟩
  (repeat (first | exact Below.refl _ _ | (with_reducible refine Below.drew ?_) | (with_reducible refine below_drewN ?_ _) | (with_reducible refine Below.setCell ?_ (by first | (simp; done) | (simp; omega) | omega) _) | (with_reducible refine Below.alloc ?_ (by first | (simp; done) | (simp; omega) | omega) _) | (with_reducible refine Below.trans ?_ (Below.mono (by assumption) (by first | (simp; done) | (simp; omega) | omega)))))
theorem rscale_any (x y f : Int) (h0 : -9223372036854775806 ≤ x * f) (h1 : x * f ≤ 9223372036854775806) (h2 : -9223372036854775806 ≤ y * f) (h3 : y * f ≤ 9223372036854775806) :
    Gives Try.prog 56 #[.agg #[.int .i64 x, .int .i64 y], .int .i64 f] (.agg #[.int .i64 (fdv (x * f) 1024), .int .i64 (fdv (y * f) 1024)]) := by
  intro w
  go_enter Try.func56, Try.ntmps56
  go_wp2_with (go_at_call 67; refine (rvMulDiv_any _ _ _ _ h0 h1 h2 h3 _).mono ?_; rintro e w1 ⟨rfl, hb1⟩; obtain ⟨N1, hN1, hc1, hf1, hs1⟩ := bcell hb1; (try simp only [World.size_alloc, World.size_setCell, World.size_drew] at hN1))
  refine bodyPost_ret (v := .agg #[.int .i64 (fdv (x * f) 1024), .int .i64 (fdv (y * f) 1024)]) (by simp [results, Try.results56, go_sem, hc1, alloc_if, ↓IntWalk.iteOmega]) rfl ⟨rfl, ?_⟩
  (repeat (first | exact Below.refl _ _ | (with_reducible refine Below.drew ?_) | (with_reducible refine below_drewN ?_ _) | (with_reducible refine Below.setCell ?_ (by first | (simp; done) | (simp; omega) | omega) _) | (with_reducible refine Below.alloc ?_ (by first | (simp; done) | (simp; omega) | omega) _) | (with_reducible refine Below.trans ?_ (Below.mono (by assumption) (by first | (simp; done) | (simp; omega) | omega)))))
theorem rnormalize_any (x y : Int) (h0 : -9007199254740991 ≤ x) (h1 : x ≤ 9007199254740991) (h2 : -9007199254740991 ≤ y) (h3 : y ≤ 9007199254740991) (h4 : x * x ≤ 2305843009213693952) (h5 : y * y ≤ 2305843009213693952) :
    Gives Try.prog 37 #[.agg #[.int .i64 x, .int .i64 y]] (.agg #[.int .i64 (fdv (x * 1024) (isq (x * x + y * y))), .int .i64 (fdv (y * 1024) (isq (x * x + y * y)))]) := by
  intro w
  go_enter Try.func37, Try.ntmps37
  go_wp2
  refine wp_region_later_tail 4 (by kernel_rfl) (by kernel_rfl) fun NL hL => ?_; obtain ⟨hNL, hlc, hlf⟩ := hL; (try simp only [World.size_alloc, World.size_setCell, World.size_drew] at hNL); simp only [List.take_succ_cons, List.take_zero, List.drop_succ_cons, List.drop_zero]
  repeat (go_big_quiet_step (first | (go_at_call 35; exact later_call (rlen_any _ _ h4 h5 _)) | (go_at_call 67; exact later_call (rvMulDiv_any _ _ _ _ (by omega) (by omega) (by omega) (by omega) _))))
  (refine wpQuiet_nil ?_; intro w1 hw1; obtain ⟨⟨w1, hb1⟩, rfl⟩ := hw1; clear hlc hlf hNL NL; obtain ⟨N1, hN1, hc1, hf1, hs1⟩ := bcell hb1; (try simp only [World.size_alloc, World.size_setCell, World.size_drew] at hN1))
  go_wp2
  refine bodyPost_ret (v := .agg #[.int .i64 (fdv (x * 1024) (isq (x * x + y * y))), .int .i64 (fdv (y * 1024) (isq (x * x + y * y)))]) (by simp [results, Try.results37, go_sem, hc1, alloc_if, ↓IntWalk.iteOmega]) rfl ⟨rfl, ?_⟩
  (repeat (first | exact Below.refl _ _ | (with_reducible refine Below.drew ?_) | (with_reducible refine below_drewN ?_ _) | (with_reducible refine Below.setCell ?_ (by first | (simp; done) | (simp; omega) | omega) _) | (with_reducible refine Below.alloc ?_ (by first | (simp; done) | (simp; omega) | omega) _) | (with_reducible refine Below.trans ?_ (Below.mono (by assumption) (by first | (simp; done) | (simp; omega) | omega)))))
theorem ofM (x y : Int) (hx : (Lit.int .i64 x).wf = true) (hy : (Lit.int .i64 y).wf = true) :
    ∃ a b : Int, -8388608 ≤ a ∧ a ≤ 8388608 ∧ -8388608 ≤ b ∧ b ≤ 8388608 ∧ Gives Try.prog 30 #[.int .i64 x, .int .i64 y] (.agg #[.int .i64 a, .int .i64 b]) := by
  have bx := i64_bd hx
  have by' := i64_bd hy
  have t1 := Int.mul_tdiv_add_tmod x 2
  have t2 := tmod_abs x 2 (by decide)
  have t3 : -9223372036854775808 ≤ x.tdiv 2 := by omega
  have t4 : x.tdiv 2 ≤ 9223372036854775807 := by omega
  clear t1 t2
  have c2 := aro_bd x 2 (by decide)
  have one : ∀ (m : Int) (hm : m = 5000 ∨ m = 8388608) (u1 : 0 ≤ aro (x.tdiv 2) (2 * m + 1)) (u2 : aro (x.tdiv 2) (2 * m + 1) < 2 * m + 1) (u3 : 0 ≤ aro y (2 * m + 1)) (u4 : aro y (2 * m + 1) < 2 * m + 1) (h1 : (aro x 2 == 1) = decide (m = 5000)), Gives Try.prog 30 #[.int .i64 x, .int .i64 y] (.agg #[.int .i64 (aro (x.tdiv 2) (2 * m + 1) - m), .int .i64 (aro y (2 * m + 1) - m)]) := by
    rintro m (rfl | rfl) u1 u2 u3 u4 h1 w
    · have h1' : (aro x 2 == 1) = true := by simpa using h1
      clear h1
      simp only [show (2 * 5000 + 1 : Int) = 10001 by decide] at u1 u2 u3 u4 ⊢
      go_enter Try.func30, Try.ntmps30
      go_wp2_with (go_at_call 18; refine (around_any _ _ _ (by omega) (by omega) (by omega) (by omega)).mono ?_; rintro e w' ⟨rfl, rfl⟩)
      refine bodyPost_ret (v := .agg #[.int .i64 (aro (x.tdiv 2) 10001 - 5000), .int .i64 (aro y 10001 - 5000)]) (by simp [results, Try.results30, go_sem]) rfl ⟨rfl, ?_⟩
      (repeat (first | exact Below.refl _ _ | (with_reducible refine Below.drew ?_) | (with_reducible refine below_drewN ?_ _) | (with_reducible refine Below.setCell ?_ (by first | (simp; done) | (simp; omega) | omega) _) | (with_reducible refine Below.alloc ?_ (by first | (simp; done) | (simp; omega) | omega) _) | (with_reducible refine Below.trans ?_ (Below.mono (by assumption) (by first | (simp; done) | (simp; omega) | omega)))))
    · have h1' : (aro x 2 == 1) = false := by simpa using h1
      clear h1
      simp only [show (2 * 8388608 + 1 : Int) = 16777217 by decide] at u1 u2 u3 u4 ⊢
      go_enter Try.func30, Try.ntmps30
      go_wp2_with (go_at_call 18; refine (around_any _ _ _ (by omega) (by omega) (by omega) (by omega)).mono ?_; rintro e w' ⟨rfl, rfl⟩)
      refine bodyPost_ret (v := .agg #[.int .i64 (aro (x.tdiv 2) 16777217 - 8388608), .int .i64 (aro y 16777217 - 8388608)]) (by simp [results, Try.results30, go_sem]) rfl ⟨rfl, ?_⟩
      (repeat (first | exact Below.refl _ _ | (with_reducible refine Below.drew ?_) | (with_reducible refine below_drewN ?_ _) | (with_reducible refine Below.setCell ?_ (by first | (simp; done) | (simp; omega) | omega) _) | (with_reducible refine Below.alloc ?_ (by first | (simp; done) | (simp; omega) | omega) _) | (with_reducible refine Below.trans ?_ (Below.mono (by assumption) (by first | (simp; done) | (simp; omega) | omega)))))
  by_cases h1 : aro x 2 = 1
  · have u := aro_bd (x.tdiv 2) (2 * 5000 + 1) (by decide)
    have v := aro_bd y (2 * 5000 + 1) (by decide)
    exact ⟨_, _, by omega, by omega, by omega, by omega, one 5000 (.inl rfl) u.1 u.2 v.1 v.2 (by simp [h1])⟩
  · have u := aro_bd (x.tdiv 2) (2 * 8388608 + 1) (by decide)
    have v := aro_bd y (2 * 8388608 + 1) (by decide)
    exact ⟨_, _, by omega, by omega, by omega, by omega, one 8388608 (.inr rfl) u.1 u.2 v.1 v.2 (by simp [h1])⟩
end Go.Proofs.Ytpbcagckikindaa.Ve
