/-
  Contracts of Add, Sub, Neg, Perp, Dot, Cross, Len, Normalize of package vec.
  Conditions: the exact numbers fit 64 bits.
-/
import Derived.Test.YtcgcapfppceggaaVeB
namespace Go.Proofs.Ytcgcapfppceggaa.Ve
open Go.RowKit Go.Proofs.Ytcgcapfppceggaa.FxMath Go.Proofs.Ytcgcapfppceggaa.FxA Go.Proofs.Ytcgcapfppceggaa.Qt
set_option linter.unusedVariables false
set_option linter.unusedSimpArgs false

theorem sub_any (x y a b : Int) (h0 : -9223372036854775808 ≤ x - a) (h1 : x - a ≤ 9223372036854775807) (h2 : -9223372036854775808 ≤ y - b) (h3 : y - b ≤ 9223372036854775807) :
    Gives Try.prog 25 #[.agg #[.int .i64 x, .int .i64 y], .agg #[.int .i64 a, .int .i64 b]] (.agg #[.int .i64 (x - a), .int .i64 (y - b)]) := by
  intro w
  go_enter Try.func25, Try.ntmps25
  go_wp2_with (go_at_call 53; refine (combine_sub _ _ _ _ h0 h1 h2 h3 _).mono ?_; rintro e w1 ⟨rfl, hb1⟩; obtain ⟨N1, hN1, hc1, hf1, hs1⟩ := bcell hb1; (try simp only [World.size_alloc, World.size_setCell, World.size_drew] at hN1))
  refine bodyPost_ret (v := .agg #[.int .i64 (x - a), .int .i64 (y - b)]) (by simp [results, Try.results25, go_sem, hc1, alloc_if, ↓IntWalk.iteOmega]) rfl ⟨rfl, ?_⟩
  (repeat (first | exact Below.refl _ _ | (with_reducible refine Below.drew ?_) | (with_reducible refine below_drewN ?_ _) | (with_reducible refine Below.setCell ?_ (by first | (simp; done) | (simp; omega) | omega) _) | (with_reducible refine Below.alloc ?_ (by first | (simp; done) | (simp; omega) | omega) _) | (with_reducible refine Below.trans ?_ (Below.mono (by assumption) (by first | (simp; done) | (simp; omega) | omega))) | (with_reducible refine Below.trans ?_ (Below.mono (Later.below _) (by first | (simp; done) | (simp; omega) | omega)))))
theorem neg_any (x y : Int) (h0 : -9223372036854775807 ≤ x) (h1 : x ≤ 9223372036854775807) (h2 : -9223372036854775807 ≤ y) (h3 : y ≤ 9223372036854775807) :
    Gives Try.prog 33 #[.agg #[.int .i64 x, .int .i64 y]] (.agg #[.int .i64 (-x), .int .i64 (-y)]) := by
  intro w
  have hs := sub_any 0 0 x y (by omega) (by omega) (by omega) (by omega)
  simp only [Int.zero_sub] at hs
  have HS := Lib.hid hs
  clear hs
  go_enter Try.func33, Try.ntmps33
  go_wp2_with (go_at_call 25; refine (HS.out _).mono ?_; rintro e w1 ⟨rfl, hb1⟩; obtain ⟨N1, hN1, hc1, hf1, hs1⟩ := bcell hb1; (try simp only [World.size_alloc, World.size_setCell, World.size_drew] at hN1))
  refine bodyPost_ret (v := .agg #[.int .i64 (-x), .int .i64 (-y)]) (by simp [results, Try.results33, go_sem, hc1, alloc_if, ↓IntWalk.iteOmega]) rfl ⟨rfl, ?_⟩
  (repeat (first | exact Below.refl _ _ | (with_reducible refine Below.drew ?_) | (with_reducible refine below_drewN ?_ _) | (with_reducible refine Below.setCell ?_ (by first | (simp; done) | (simp; omega) | omega) _) | (with_reducible refine Below.alloc ?_ (by first | (simp; done) | (simp; omega) | omega) _) | (with_reducible refine Below.trans ?_ (Below.mono (by assumption) (by first | (simp; done) | (simp; omega) | omega))) | (with_reducible refine Below.trans ?_ (Below.mono (Later.below _) (by first | (simp; done) | (simp; omega) | omega)))))
theorem dot_any (x y a b : Int) (h1 : -4611686018427387904 ≤ x * a) (h2 : x * a ≤ 4611686018427387903) (h3 : -4611686018427387904 ≤ y * b) (h4 : y * b ≤ 4611686018427387903) :
    Gives Try.prog 34 #[.agg #[.int .i64 x, .int .i64 y], .agg #[.int .i64 a, .int .i64 b]] (.int .i64 ((x * a + y * b) / 1024)) := by
  intro w
  go_enter Try.func34, Try.ntmps34
  go_wp2_with (go_at_call 66; refine (vfloor_any _ _ (by omega) (by omega)).mono ?_; rintro e w' ⟨rfl, rfl⟩)
  go_ret
  exact ⟨rfl, by (repeat (first | exact Below.refl _ _ | (with_reducible refine Below.drew ?_) | (with_reducible refine below_drewN ?_ _) | (with_reducible refine Below.setCell ?_ (by first | (simp; done) | (simp; omega) | omega) _) | (with_reducible refine Below.alloc ?_ (by first | (simp; done) | (simp; omega) | omega) _) | (with_reducible refine Below.trans ?_ (Below.mono (by assumption) (by first | (simp; done) | (simp; omega) | omega))) | (with_reducible refine Below.trans ?_ (Below.mono (Later.below _) (by first | (simp; done) | (simp; omega) | omega)))))⟩
theorem len_any (x y : Int) (h1 : x * x ≤ 4611686018427387903) (h3 : y * y ≤ 4611686018427387903) :
    Gives Try.prog 24 #[.agg #[.int .i64 x, .int .i64 y]] (.int .i64 (isq (x * x + y * y))) := by
  intro w
  have h0 : 0 ≤ x * x := mul_self_nonneg' x
  have h2 : 0 ≤ y * y := mul_self_nonneg' y
  go_enter Try.func24, Try.ntmps24
  go_wp2_with (go_at_call 52; refine (isqrt_any _ _ (by omega)).mono ?_; rintro e w' ⟨rfl, rfl⟩)
  go_ret
  exact ⟨rfl, by (repeat (first | exact Below.refl _ _ | (with_reducible refine Below.drew ?_) | (with_reducible refine below_drewN ?_ _) | (with_reducible refine Below.setCell ?_ (by first | (simp; done) | (simp; omega) | omega) _) | (with_reducible refine Below.alloc ?_ (by first | (simp; done) | (simp; omega) | omega) _) | (with_reducible refine Below.trans ?_ (Below.mono (by assumption) (by first | (simp; done) | (simp; omega) | omega))) | (with_reducible refine Below.trans ?_ (Below.mono (Later.below _) (by first | (simp; done) | (simp; omega) | omega)))))⟩
theorem normalize_zero : Gives Try.prog 90 #[.agg #[.int .i64 0, .int .i64 0]] (.agg #[.int .i64 0, .int .i64 0]) := by
  intro w
  go_enter Try.func90, Try.ntmps90
  go_wp2
  refine bodyPost_ret (v := .agg #[.int .i64 0, .int .i64 0]) (by simp [results, Try.results90, go_sem]) rfl ⟨rfl, ?_⟩
  (repeat (first | exact Below.refl _ _ | (with_reducible refine Below.drew ?_) | (with_reducible refine below_drewN ?_ _) | (with_reducible refine Below.setCell ?_ (by first | (simp; done) | (simp; omega) | omega) _) | (with_reducible refine Below.alloc ?_ (by first | (simp; done) | (simp; omega) | omega) _) | (with_reducible refine Below.trans ?_ (Below.mono (by assumption) (by first | (simp; done) | (simp; omega) | omega))) | (with_reducible refine Below.trans ?_ (Below.mono (Later.below _) (by first | (simp; done) | (simp; omega) | omega)))))
theorem normalize_x (x y : Int) (hx : ¬ x = 0) (h0 : -9007199254740991 ≤ x) (h1 : x ≤ 9007199254740991) (h2 : -9007199254740991 ≤ y) (h3 : y ≤ 9007199254740991) (h4 : x * x ≤ 4611686018427387903) (h5 : y * y ≤ 4611686018427387903) :
    Gives Try.prog 90 #[.agg #[.int .i64 x, .int .i64 y]] (.agg #[.int .i64 (fdv (x * 1024) (isq (x * x + y * y))), .int .i64 (fdv (y * 1024) (isq (x * x + y * y)))]) := by
  intro w
  go_enter Try.func90, Try.ntmps90
  go_wp2
  refine wp_region_later_tail 4 (by kernel_rfl) (by kernel_rfl) fun NL hL => ?_; obtain ⟨hNL, hlc, hlf⟩ := hL; (try simp only [World.size_alloc, World.size_setCell, World.size_drew] at hNL); simp only [List.take_succ_cons, List.take_zero, List.drop_succ_cons, List.drop_zero]
  repeat (go_big_quiet_step (first | (go_at_call 24; exact later_call (len_any _ _ h4 h5 _)) | (go_at_call 46; exact later_call (vMulDiv_any _ _ _ _ (by omega) (by omega) (by omega) (by omega) _))))
  (refine wpQuiet_nil ?_; intro w1 hw1; obtain ⟨⟨w1, hb1⟩, rfl⟩ := hw1; clear hlc hlf hNL NL; obtain ⟨N1, hN1, hc1, hf1, hs1⟩ := bcell hb1; (try simp only [World.size_alloc, World.size_setCell, World.size_drew] at hN1))
  go_wp2
  refine bodyPost_ret (v := .agg #[.int .i64 (fdv (x * 1024) (isq (x * x + y * y))), .int .i64 (fdv (y * 1024) (isq (x * x + y * y)))]) (by simp [results, Try.results90, go_sem, hc1, alloc_if, ↓IntWalk.iteOmega]) rfl ⟨rfl, ?_⟩
  (repeat (first | exact Below.refl _ _ | (with_reducible refine Below.drew ?_) | (with_reducible refine below_drewN ?_ _) | (with_reducible refine Below.setCell ?_ (by first | (simp; done) | (simp; omega) | omega) _) | (with_reducible refine Below.alloc ?_ (by first | (simp; done) | (simp; omega) | omega) _) | (with_reducible refine Below.trans ?_ (Below.mono (by assumption) (by first | (simp; done) | (simp; omega) | omega))) | (with_reducible refine Below.trans ?_ (Below.mono (Later.below _) (by first | (simp; done) | (simp; omega) | omega)))))
theorem normalize_y (y : Int) (hy : ¬ y = 0) (h2 : -9007199254740991 ≤ y) (h3 : y ≤ 9007199254740991) (h5 : y * y ≤ 4611686018427387903) :
    Gives Try.prog 90 #[.agg #[.int .i64 0, .int .i64 y]] (.agg #[.int .i64 (fdv (0 * 1024) (isq (0 * 0 + y * y))), .int .i64 (fdv (y * 1024) (isq (0 * 0 + y * y)))]) := by
  intro w
  go_enter Try.func90, Try.ntmps90
  go_wp2
  refine wp_region_later_tail 4 (by kernel_rfl) (by kernel_rfl) fun NL hL => ?_; obtain ⟨hNL, hlc, hlf⟩ := hL; (try simp only [World.size_alloc, World.size_setCell, World.size_drew] at hNL); simp only [List.take_succ_cons, List.take_zero, List.drop_succ_cons, List.drop_zero]
  repeat (go_big_quiet_step (first | (go_at_call 24; exact later_call (len_any _ _ (by decide) h5 _)) | (go_at_call 46; exact later_call (vMulDiv_any _ _ _ _ (by omega) (by omega) (by omega) (by omega) _))))
  (refine wpQuiet_nil ?_; intro w1 hw1; obtain ⟨⟨w1, hb1⟩, rfl⟩ := hw1; clear hlc hlf hNL NL; obtain ⟨N1, hN1, hc1, hf1, hs1⟩ := bcell hb1; (try simp only [World.size_alloc, World.size_setCell, World.size_drew] at hN1))
  go_wp2
  refine bodyPost_ret (v := .agg #[.int .i64 (fdv (0 * 1024) (isq (0 * 0 + y * y))), .int .i64 (fdv (y * 1024) (isq (0 * 0 + y * y)))]) (by simp [results, Try.results90, go_sem, hc1, alloc_if, ↓IntWalk.iteOmega]) rfl ⟨rfl, ?_⟩
  (repeat (first | exact Below.refl _ _ | (with_reducible refine Below.drew ?_) | (with_reducible refine below_drewN ?_ _) | (with_reducible refine Below.setCell ?_ (by first | (simp; done) | (simp; omega) | omega) _) | (with_reducible refine Below.alloc ?_ (by first | (simp; done) | (simp; omega) | omega) _) | (with_reducible refine Below.trans ?_ (Below.mono (by assumption) (by first | (simp; done) | (simp; omega) | omega))) | (with_reducible refine Below.trans ?_ (Below.mono (Later.below _) (by first | (simp; done) | (simp; omega) | omega)))))
/-- Normalize at every vector: of the zero vector the quotients by 0 are 0. -/
theorem normalize_any (x y : Int) (h0 : -9007199254740991 ≤ x) (h1 : x ≤ 9007199254740991) (h2 : -9007199254740991 ≤ y) (h3 : y ≤ 9007199254740991) (h4 : x * x ≤ 4611686018427387903) (h5 : y * y ≤ 4611686018427387903) :
    Gives Try.prog 90 #[.agg #[.int .i64 x, .int .i64 y]] (.agg #[.int .i64 (fdv (x * 1024) (isq (x * x + y * y))), .int .i64 (fdv (y * 1024) (isq (x * x + y * y)))]) := by
  by_cases hx : x = 0
  · subst hx
    by_cases hy : y = 0
    · subst hy
      have e : isq (0 * 0 + 0 * 0) = 0 := isq_neg _ (by decide)
      rw [e, fdv_zero]
      exact normalize_zero
    · exact normalize_y y hy h2 h3 h5
  · exact normalize_x x y hx h0 h1 h2 h3 h4 h5
end Go.Proofs.Ytcgcapfppceggaa.Ve
