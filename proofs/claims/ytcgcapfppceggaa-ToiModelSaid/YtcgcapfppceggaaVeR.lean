/-
  Contracts of the references for package vec, and of the maker Of of vectors.
  Conditions: the exact numbers fit 64 bits.
-/
import Derived.Test.YtcgcapfppceggaaFxG
import Derived.Test.YtcgcapfppceggaaQt
import Derived.Test.YtcgcapfppceggaaVeB
namespace Go.Proofs.Ytcgcapfppceggaa.Ve
open Go.RowKit Go.Proofs.Ytcgcapfppceggaa.FxMath Go.Proofs.Ytcgcapfppceggaa.FxA Go.Proofs.Ytcgcapfppceggaa.Qt
set_option linter.unusedVariables false
set_option linter.unusedSimpArgs false

theorem rfloor_any (n : Int) (w : World) (h0 : -9223372036854775808 ≤ n) (h1 : n ≤ 9223372036854775807) :
    Calls Try.prog 85 #[.int .i64 n] w fun e w' => e = .returned (.int .i64 (n / 1024)) ∧ w = w' := by
  have t1 := Int.mul_tdiv_add_tmod n 1024
  have t2 := tmod_sign n 1024
  have t3 := tmod_abs n 1024 (by decide)
  have q1 : -9007199254740992 ≤ n.tdiv 1024 := by omega
  have q2 : n.tdiv 1024 ≤ 9007199254740992 := by omega
  have q3 : -9223372036854775808 ≤ n.tdiv 1024 * 1024 := by omega
  have q4 : n.tdiv 1024 * 1024 ≤ 9223372036854775807 := by omega
  have H := Lib.hid (show 1024 * n.tdiv 1024 + n.tmod 1024 = n ∧ ((0 ≤ n → 0 ≤ n.tmod 1024) ∧ (n ≤ 0 → n.tmod 1024 ≤ 0)) ∧ n.tmod 1024 < 1024 ∧ -1024 < n.tmod 1024 from ⟨t1, t2, by omega, by omega⟩)
  clear t1 t2 t3
  go_enter Try.func85, Try.ntmps85
  go_wp2
  all_goals
    go_ret
    refine ⟨ret_int ?_, rfl⟩
    have H' := H.out
    omega
theorem radd_any (x y a b : Int) (h0 : -9223372036854775808 ≤ x + a) (h1 : x + a ≤ 9223372036854775807) (h2 : -9223372036854775808 ≤ y + b) (h3 : y + b ≤ 9223372036854775807) :
    Gives Try.prog 68 #[.agg #[.int .i64 x, .int .i64 y], .agg #[.int .i64 a, .int .i64 b]] (.agg #[.int .i64 (x + a), .int .i64 (y + b)]) := by
  intro w
  go_enter Try.func68, Try.ntmps68
  go_wp2
  refine bodyPost_ret (v := .agg #[.int .i64 (x + a), .int .i64 (y + b)]) (by simp [results, Try.results68, go_sem]) rfl ⟨rfl, ?_⟩
  (repeat (first | exact Below.refl _ _ | (with_reducible refine Below.drew ?_) | (with_reducible refine below_drewN ?_ _) | (with_reducible refine Below.setCell ?_ (by first | (simp; done) | (simp; omega) | omega) _) | (with_reducible refine Below.alloc ?_ (by first | (simp; done) | (simp; omega) | omega) _) | (with_reducible refine Below.trans ?_ (Below.mono (by assumption) (by first | (simp; done) | (simp; omega) | omega))) | (with_reducible refine Below.trans ?_ (Below.mono (Later.below _) (by first | (simp; done) | (simp; omega) | omega)))))
theorem rsub_any (x y a b : Int) (h0 : -9223372036854775808 ≤ x - a) (h1 : x - a ≤ 9223372036854775807) (h2 : -9223372036854775808 ≤ y - b) (h3 : y - b ≤ 9223372036854775807) :
    Gives Try.prog 58 #[.agg #[.int .i64 x, .int .i64 y], .agg #[.int .i64 a, .int .i64 b]] (.agg #[.int .i64 (x - a), .int .i64 (y - b)]) := by
  intro w
  go_enter Try.func58, Try.ntmps58
  go_wp2
  refine bodyPost_ret (v := .agg #[.int .i64 (x - a), .int .i64 (y - b)]) (by simp [results, Try.results58, go_sem]) rfl ⟨rfl, ?_⟩
  (repeat (first | exact Below.refl _ _ | (with_reducible refine Below.drew ?_) | (with_reducible refine below_drewN ?_ _) | (with_reducible refine Below.setCell ?_ (by first | (simp; done) | (simp; omega) | omega) _) | (with_reducible refine Below.alloc ?_ (by first | (simp; done) | (simp; omega) | omega) _) | (with_reducible refine Below.trans ?_ (Below.mono (by assumption) (by first | (simp; done) | (simp; omega) | omega))) | (with_reducible refine Below.trans ?_ (Below.mono (Later.below _) (by first | (simp; done) | (simp; omega) | omega)))))
theorem rneg_any (x y : Int) (h0 : -9223372036854775807 ≤ x) (h1 : x ≤ 9223372036854775807) (h2 : -9223372036854775807 ≤ y) (h3 : y ≤ 9223372036854775807) :
    Gives Try.prog 63 #[.agg #[.int .i64 x, .int .i64 y]] (.agg #[.int .i64 (-x), .int .i64 (-y)]) := by
  intro w
  go_enter Try.func63, Try.ntmps63
  go_wp2
  refine bodyPost_ret (v := .agg #[.int .i64 (-x), .int .i64 (-y)]) (by simp [results, Try.results63, go_sem]) rfl ⟨rfl, ?_⟩
  (repeat (first | exact Below.refl _ _ | (with_reducible refine Below.drew ?_) | (with_reducible refine below_drewN ?_ _) | (with_reducible refine Below.setCell ?_ (by first | (simp; done) | (simp; omega) | omega) _) | (with_reducible refine Below.alloc ?_ (by first | (simp; done) | (simp; omega) | omega) _) | (with_reducible refine Below.trans ?_ (Below.mono (by assumption) (by first | (simp; done) | (simp; omega) | omega))) | (with_reducible refine Below.trans ?_ (Below.mono (Later.below _) (by first | (simp; done) | (simp; omega) | omega)))))
theorem rdot_any (x y a b : Int) (h1 : -4611686018427387904 ≤ x * a) (h2 : x * a ≤ 4611686018427387903) (h3 : -4611686018427387904 ≤ y * b) (h4 : y * b ≤ 4611686018427387903) :
    Gives Try.prog 62 #[.agg #[.int .i64 x, .int .i64 y], .agg #[.int .i64 a, .int .i64 b]] (.int .i64 ((x * a + y * b) / 1024)) := by
  intro w
  go_enter Try.func62, Try.ntmps62
  go_wp2_with (go_at_call 85; refine (rfloor_any _ _ (by omega) (by omega)).mono ?_; rintro e w' ⟨rfl, rfl⟩)
  go_ret
  exact ⟨rfl, by (repeat (first | exact Below.refl _ _ | (with_reducible refine Below.drew ?_) | (with_reducible refine below_drewN ?_ _) | (with_reducible refine Below.setCell ?_ (by first | (simp; done) | (simp; omega) | omega) _) | (with_reducible refine Below.alloc ?_ (by first | (simp; done) | (simp; omega) | omega) _) | (with_reducible refine Below.trans ?_ (Below.mono (by assumption) (by first | (simp; done) | (simp; omega) | omega))) | (with_reducible refine Below.trans ?_ (Below.mono (Later.below _) (by first | (simp; done) | (simp; omega) | omega)))))⟩
theorem rlen_any (x y : Int) (h1 : x * x ≤ 2305843009213693952) (h3 : y * y ≤ 2305843009213693952) :
    Gives Try.prog 96 #[.agg #[.int .i64 x, .int .i64 y]] (.int .i64 (isq (x * x + y * y))) := by
  intro w
  have h0 : 0 ≤ x * x := mul_self_nonneg' x
  have h2 : 0 ≤ y * y := mul_self_nonneg' y
  go_enter Try.func96, Try.ntmps96
  go_wp2_with (go_at_call 98; refine (risqrt_any _ _ (by omega)).mono ?_; rintro e w' ⟨rfl, rfl⟩)
  go_ret
  exact ⟨rfl, by (repeat (first | exact Below.refl _ _ | (with_reducible refine Below.drew ?_) | (with_reducible refine below_drewN ?_ _) | (with_reducible refine Below.setCell ?_ (by first | (simp; done) | (simp; omega) | omega) _) | (with_reducible refine Below.alloc ?_ (by first | (simp; done) | (simp; omega) | omega) _) | (with_reducible refine Below.trans ?_ (Below.mono (by assumption) (by first | (simp; done) | (simp; omega) | omega))) | (with_reducible refine Below.trans ?_ (Below.mono (Later.below _) (by first | (simp; done) | (simp; omega) | omega)))))⟩
theorem rvMulDiv_any (x y n d : Int) (h0 : -9223372036854775806 ≤ x * n) (h1 : x * n ≤ 9223372036854775806) (h2 : -9223372036854775806 ≤ y * n) (h3 : y * n ≤ 9223372036854775806) :
    Gives Try.prog 95 #[.agg #[.int .i64 x, .int .i64 y], .int .i64 n, .int .i64 d] (.agg #[.int .i64 (fdv (x * n) d), .int .i64 (fdv (y * n) d)]) := by
  intro w
  go_enter Try.func95, Try.ntmps95
  go_wp2
  refine wp_region_later_tail 11 (by kernel_rfl) (by kernel_rfl) fun NL hL => ?_; obtain ⟨hNL, hlc, hlf⟩ := hL; (try simp only [World.size_alloc, World.size_setCell, World.size_drew] at hNL); simp only [List.take_succ_cons, List.take_zero, List.drop_succ_cons, List.drop_zero]
  repeat (go_big_quiet_step ((go_at_call 97; exact later_call (gives_same (fun w => rmulDiv_any _ _ _ w (by omega) (by omega)) _))))
  (refine wpQuiet_nil ?_; intro w1 hw1; obtain ⟨⟨w1, hb1⟩, rfl⟩ := hw1; clear hlc hlf hNL NL; obtain ⟨N1, hN1, hc1, hf1, hs1⟩ := bcell hb1; (try simp only [World.size_alloc, World.size_setCell, World.size_drew] at hN1))
  go_wp2
  refine bodyPost_ret (v := .agg #[.int .i64 (fdv (x * n) d), .int .i64 (fdv (y * n) d)]) (by simp [results, Try.results95, go_sem, hc1, alloc_if, ↓IntWalk.iteOmega]) rfl ⟨rfl, ?_⟩
  (repeat (first | exact Below.refl _ _ | (with_reducible refine Below.drew ?_) | (with_reducible refine below_drewN ?_ _) | (with_reducible refine Below.setCell ?_ (by first | (simp; done) | (simp; omega) | omega) _) | (with_reducible refine Below.alloc ?_ (by first | (simp; done) | (simp; omega) | omega) _) | (with_reducible refine Below.trans ?_ (Below.mono (by assumption) (by first | (simp; done) | (simp; omega) | omega))) | (with_reducible refine Below.trans ?_ (Below.mono (Later.below _) (by first | (simp; done) | (simp; omega) | omega)))))
theorem rnormalize_any (x y : Int) (h0 : -9007199254740991 ≤ x) (h1 : x ≤ 9007199254740991) (h2 : -9007199254740991 ≤ y) (h3 : y ≤ 9007199254740991) (h4 : x * x ≤ 2305843009213693952) (h5 : y * y ≤ 2305843009213693952) :
    Gives Try.prog 84 #[.agg #[.int .i64 x, .int .i64 y]] (.agg #[.int .i64 (fdv (x * 1024) (isq (x * x + y * y))), .int .i64 (fdv (y * 1024) (isq (x * x + y * y)))]) := by
  intro w
  go_enter Try.func84, Try.ntmps84
  go_wp2
  refine wp_region_later_tail 4 (by kernel_rfl) (by kernel_rfl) fun NL hL => ?_; obtain ⟨hNL, hlc, hlf⟩ := hL; (try simp only [World.size_alloc, World.size_setCell, World.size_drew] at hNL); simp only [List.take_succ_cons, List.take_zero, List.drop_succ_cons, List.drop_zero]
  repeat (go_big_quiet_step (first | (go_at_call 96; exact later_call (rlen_any _ _ h4 h5 _)) | (go_at_call 95; exact later_call (rvMulDiv_any _ _ _ _ (by omega) (by omega) (by omega) (by omega) _))))
  (refine wpQuiet_nil ?_; intro w1 hw1; obtain ⟨⟨w1, hb1⟩, rfl⟩ := hw1; clear hlc hlf hNL NL; obtain ⟨N1, hN1, hc1, hf1, hs1⟩ := bcell hb1; (try simp only [World.size_alloc, World.size_setCell, World.size_drew] at hN1))
  go_wp2
  refine bodyPost_ret (v := .agg #[.int .i64 (fdv (x * 1024) (isq (x * x + y * y))), .int .i64 (fdv (y * 1024) (isq (x * x + y * y)))]) (by simp [results, Try.results84, go_sem, hc1, alloc_if, ↓IntWalk.iteOmega]) rfl ⟨rfl, ?_⟩
  (repeat (first | exact Below.refl _ _ | (with_reducible refine Below.drew ?_) | (with_reducible refine below_drewN ?_ _) | (with_reducible refine Below.setCell ?_ (by first | (simp; done) | (simp; omega) | omega) _) | (with_reducible refine Below.alloc ?_ (by first | (simp; done) | (simp; omega) | omega) _) | (with_reducible refine Below.trans ?_ (Below.mono (by assumption) (by first | (simp; done) | (simp; omega) | omega))) | (with_reducible refine Below.trans ?_ (Below.mono (Later.below _) (by first | (simp; done) | (simp; omega) | omega)))))
end Go.Proofs.Ytcgcapfppceggaa.Ve
