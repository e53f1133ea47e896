/-
  Contracts of the small functions of package vec: floor, uniform, the closures, combine at each closure.
  Conditions: the exact numbers fit 64 bits.
-/
import Derived.Test.YtcgcapfppceggaaFxR
import Derived.Test.YtcgcapfppceggaaQt
namespace Go.Proofs.Ytcgcapfppceggaa.Ve
open Go.RowKit Go.Proofs.Ytcgcapfppceggaa.FxMath Go.Proofs.Ytcgcapfppceggaa.FxA Go.Proofs.Ytcgcapfppceggaa.Qt
set_option linter.unusedVariables false
set_option linter.unusedSimpArgs false

theorem vfloor_any (n : Int) (w : World) (h0 : -9223372036854775808 ≤ n) (h1 : n ≤ 9223372036854775807) :
    Calls Try.prog 66 #[.int .i64 n] w fun e w' => e = .returned (.int .i64 (n / 1024)) ∧ w = w' := by
  go_enter Try.func66, Try.ntmps66
  go_wp2
  go_ret
  exact ⟨rfl, rfl⟩
theorem uniform_any (n : Int) : Gives Try.prog 73 #[.int .i64 n] (.agg #[.int .i64 n, .int .i64 n]) := by
  intro w
  go_enter Try.func73, Try.ntmps73
  go_wp2
  refine bodyPost_ret (v := .agg #[.int .i64 n, .int .i64 n]) (by simp [results, Try.results73, go_sem]) rfl ⟨rfl, ?_⟩
  (repeat (first | exact Below.refl _ _ | (with_reducible refine Below.drew ?_) | (with_reducible refine below_drewN ?_ _) | (with_reducible refine Below.setCell ?_ (by first | (simp; done) | (simp; omega) | omega) _) | (with_reducible refine Below.alloc ?_ (by first | (simp; done) | (simp; omega) | omega) _) | (with_reducible refine Below.trans ?_ (Below.mono (by assumption) (by first | (simp; done) | (simp; omega) | omega))) | (with_reducible refine Below.trans ?_ (Below.mono (Later.below _) (by first | (simp; done) | (simp; omega) | omega)))))
theorem add1_any (a b : Int) (h0 : -9223372036854775808 ≤ a + b) (h1 : a + b ≤ 9223372036854775807) : Gives Try.prog 67 #[.int .i64 a, .int .i64 b] (.int .i64 (a + b)) := by
  intro w
  go_enter Try.func67, Try.ntmps67
  go_wp2
  go_ret
  exact ⟨rfl, Below.refl _ _⟩
theorem combine_add (x y a b : Int) (h0 : -9223372036854775808 ≤ x + a) (h1 : x + a ≤ 9223372036854775807) (h2 : -9223372036854775808 ≤ y + b) (h3 : y + b ≤ 9223372036854775807) :
    Gives Try.prog 53 #[.agg #[.int .i64 x, .int .i64 y], .agg #[.int .i64 a, .int .i64 b], .func (.func 67) #[] #[]] (.agg #[.int .i64 (x + a), .int .i64 (y + b)]) := by
  intro w
  go_enter Try.func53, Try.ntmps53
  go_wp2
  refine wp_region_later_tail 13 (by kernel_rfl) (by kernel_rfl) fun NL hL => ?_; obtain ⟨hNL, hlc, hlf⟩ := hL; (try simp only [World.size_alloc, World.size_setCell, World.size_drew] at hNL); simp only [List.take_succ_cons, List.take_zero, List.drop_succ_cons, List.drop_zero]
  repeat (go_big_quiet_step ((go_at_call 67; exact later_call (add1_any _ _ (by omega) (by omega) _))))
  (refine wpQuiet_nil ?_; intro w1 hw1; obtain ⟨⟨w1, hb1⟩, rfl⟩ := hw1; clear hlc hlf hNL NL; obtain ⟨N1, hN1, hc1, hf1, hs1⟩ := bcell hb1; (try simp only [World.size_alloc, World.size_setCell, World.size_drew] at hN1))
  go_wp2
  refine bodyPost_ret (v := .agg #[.int .i64 (x + a), .int .i64 (y + b)]) (by simp [results, Try.results53, go_sem, hc1, alloc_if, ↓IntWalk.iteOmega]) rfl ⟨rfl, ?_⟩
  (repeat (first | exact Below.refl _ _ | (with_reducible refine Below.drew ?_) | (with_reducible refine below_drewN ?_ _) | (with_reducible refine Below.setCell ?_ (by first | (simp; done) | (simp; omega) | omega) _) | (with_reducible refine Below.alloc ?_ (by first | (simp; done) | (simp; omega) | omega) _) | (with_reducible refine Below.trans ?_ (Below.mono (by assumption) (by first | (simp; done) | (simp; omega) | omega))) | (with_reducible refine Below.trans ?_ (Below.mono (Later.below _) (by first | (simp; done) | (simp; omega) | omega)))))
theorem sub1_any (a b : Int) (h0 : -9223372036854775808 ≤ a - b) (h1 : a - b ≤ 9223372036854775807) : Gives Try.prog 54 #[.int .i64 a, .int .i64 b] (.int .i64 (a - b)) := by
  intro w
  go_enter Try.func54, Try.ntmps54
  go_wp2
  go_ret
  exact ⟨rfl, Below.refl _ _⟩
theorem combine_sub (x y a b : Int) (h0 : -9223372036854775808 ≤ x - a) (h1 : x - a ≤ 9223372036854775807) (h2 : -9223372036854775808 ≤ y - b) (h3 : y - b ≤ 9223372036854775807) :
    Gives Try.prog 53 #[.agg #[.int .i64 x, .int .i64 y], .agg #[.int .i64 a, .int .i64 b], .func (.func 54) #[] #[]] (.agg #[.int .i64 (x - a), .int .i64 (y - b)]) := by
  intro w
  go_enter Try.func53, Try.ntmps53
  go_wp2
  refine wp_region_later_tail 13 (by kernel_rfl) (by kernel_rfl) fun NL hL => ?_; obtain ⟨hNL, hlc, hlf⟩ := hL; (try simp only [World.size_alloc, World.size_setCell, World.size_drew] at hNL); simp only [List.take_succ_cons, List.take_zero, List.drop_succ_cons, List.drop_zero]
  repeat (go_big_quiet_step ((go_at_call 54; exact later_call (sub1_any _ _ (by omega) (by omega) _))))
  (refine wpQuiet_nil ?_; intro w1 hw1; obtain ⟨⟨w1, hb1⟩, rfl⟩ := hw1; clear hlc hlf hNL NL; obtain ⟨N1, hN1, hc1, hf1, hs1⟩ := bcell hb1; (try simp only [World.size_alloc, World.size_setCell, World.size_drew] at hN1))
  go_wp2
  refine bodyPost_ret (v := .agg #[.int .i64 (x - a), .int .i64 (y - b)]) (by simp [results, Try.results53, go_sem, hc1, alloc_if, ↓IntWalk.iteOmega]) rfl ⟨rfl, ?_⟩
  (repeat (first | exact Below.refl _ _ | (with_reducible refine Below.drew ?_) | (with_reducible refine below_drewN ?_ _) | (with_reducible refine Below.setCell ?_ (by first | (simp; done) | (simp; omega) | omega) _) | (with_reducible refine Below.alloc ?_ (by first | (simp; done) | (simp; omega) | omega) _) | (with_reducible refine Below.trans ?_ (Below.mono (by assumption) (by first | (simp; done) | (simp; omega) | omega))) | (with_reducible refine Below.trans ?_ (Below.mono (Later.below _) (by first | (simp; done) | (simp; omega) | omega)))))
end Go.Proofs.Ytcgcapfppceggaa.Ve
