/-
  Contracts of MulDiv, Scale and Add of package vec.
  Conditions: the exact numbers fit 64 bits.
-/
import Derived.Test.YtcgcapfppceggaaVeA
namespace Go.Proofs.Ytcgcapfppceggaa.Ve
open Go.RowKit Go.Proofs.Ytcgcapfppceggaa.FxMath Go.Proofs.Ytcgcapfppceggaa.FxA Go.Proofs.Ytcgcapfppceggaa.Qt
set_option linter.unusedVariables false
set_option linter.unusedSimpArgs false
theorem mul_self_nonneg' (x : Int) : 0 ≤ x * x := by
  rcases Int.le_total 0 x with h | h
  · exact Int.mul_nonneg h h
  · exact Int.mul_nonneg_of_nonpos_of_nonpos h h
theorem mulDiv1_any (a b d : Int) (q : Addr) (w : World) (hq : w.cell? q = some (.int .i64 d)) (h0 : -9223372036854775806 ≤ a * b) (h1 : a * b ≤ 9223372036854775806) :
    Calls Try.prog 74 #[.int .i64 a, .int .i64 b, .pointer (some q)] w fun e w' => e = .returned (.int .i64 (fdv (a * b) d)) ∧ Below w.heap.size w w' := by
  go_enter Try.func74, Try.ntmps74
  go_wp2_with (go_at_call 75; refine (mulDiv_any _ _ _ _ h0 h1).mono ?_; rintro e w' ⟨rfl, n, rfl⟩)
  go_ret
  exact ⟨rfl, below_drewN (Below.refl _ _) _⟩
theorem combine_mulDiv (x y a b d : Int) (q : Nat) (w : World) (hq : w.cell? ⟨q, 0, none⟩ = some (.int .i64 d)) (h0 : -9223372036854775806 ≤ x * a) (h1 : x * a ≤ 9223372036854775806) (h2 : -9223372036854775806 ≤ y * b) (h3 : y * b ≤ 9223372036854775806) :
    Calls Try.prog 53 #[.agg #[.int .i64 x, .int .i64 y], .agg #[.int .i64 a, .int .i64 b], .func (.func 74) #[] #[.pointer (some ⟨q, 0, none⟩)]] w fun e w' => e = .returned (.agg #[.int .i64 (fdv (x * a) d), .int .i64 (fdv (y * b) d)]) ∧ Below w.heap.size w w' := by
  have hqs : q < w.heap.size := World.block_lt_of_cell? w _ hq
  go_enter Try.func53, Try.ntmps53
  go_wp2
  refine wp_region_later_tail 13 (by kernel_rfl) (by kernel_rfl) fun NL hL => ?_; obtain ⟨hNL, hlc, hlf⟩ := hL; (try simp only [World.size_alloc, World.size_setCell, World.size_drew] at hNL); simp only [List.take_succ_cons, List.take_zero, List.drop_succ_cons, List.drop_zero]
  repeat (go_big_quiet_step ((go_at_call 74; exact later_call (mulDiv1_any _ _ d _ _ (later_cell _ (cell_alloc (cell_alloc (cell_alloc hq)))) (by omega) (by omega)))))
  (refine wpQuiet_nil ?_; intro w1 hw1; obtain ⟨⟨w1, hb1⟩, rfl⟩ := hw1; clear hlc hlf hNL NL; obtain ⟨N1, hN1, hc1, hf1, hs1⟩ := bcell hb1; (try simp only [World.size_alloc, World.size_setCell, World.size_drew] at hN1))
  go_wp2
  refine bodyPost_ret (v := .agg #[.int .i64 (fdv (x * a) d), .int .i64 (fdv (y * b) d)]) (by simp [results, Try.results53, go_sem, hc1, alloc_if, ↓IntWalk.iteOmega]) rfl ⟨rfl, ?_⟩
  (repeat (first | exact Below.refl _ _ | (with_reducible refine Below.drew ?_) | (with_reducible refine below_drewN ?_ _) | (with_reducible refine Below.setCell ?_ (by first | (simp; done) | (simp; omega) | omega) _) | (with_reducible refine Below.alloc ?_ (by first | (simp; done) | (simp; omega) | omega) _) | (with_reducible refine Below.trans ?_ (Below.mono (by assumption) (by first | (simp; done) | (simp; omega) | omega))) | (with_reducible refine Below.trans ?_ (Below.mono (Later.below _) (by first | (simp; done) | (simp; omega) | omega)))))
theorem vMulDiv_any (x y n d : Int) (h0 : -9223372036854775806 ≤ x * n) (h1 : x * n ≤ 9223372036854775806) (h2 : -9223372036854775806 ≤ y * n) (h3 : y * n ≤ 9223372036854775806) :
    Gives Try.prog 46 #[.agg #[.int .i64 x, .int .i64 y], .int .i64 n, .int .i64 d] (.agg #[.int .i64 (fdv (x * n) d), .int .i64 (fdv (y * n) d)]) := by
  intro w
  go_enter Try.func46, Try.ntmps46
  go_wp2
  refine wp_region_later_tail 5 (by kernel_rfl) (by kernel_rfl) fun NL hL => ?_; obtain ⟨hNL, hlc, hlf⟩ := hL; (try simp only [World.size_alloc, World.size_setCell, World.size_drew] at hNL); simp only [List.take_succ_cons, List.take_zero, List.drop_succ_cons, List.drop_zero]
  repeat (go_big_quiet_step (first | (go_at_call 73; exact later_call (uniform_any _ _)) | (go_at_call 53; refine later_call (combine_mulDiv _ _ _ _ d _ _ ?_ h0 h1 h2 h3); (refine later_cell _ ?_; go_simp))))
  (refine wpQuiet_nil ?_; intro w1 hw1; obtain ⟨⟨w1, hb1⟩, rfl⟩ := hw1; clear hlc hlf hNL NL; obtain ⟨N1, hN1, hc1, hf1, hs1⟩ := bcell hb1; (try simp only [World.size_alloc, World.size_setCell, World.size_drew] at hN1))
  go_wp2
  refine bodyPost_ret (v := .agg #[.int .i64 (fdv (x * n) d), .int .i64 (fdv (y * n) d)]) (by simp [results, Try.results46, go_sem, hc1, alloc_if, ↓IntWalk.iteOmega]) rfl ⟨rfl, ?_⟩
  (repeat (first | exact Below.refl _ _ | (with_reducible refine Below.drew ?_) | (with_reducible refine below_drewN ?_ _) | (with_reducible refine Below.setCell ?_ (by first | (simp; done) | (simp; omega) | omega) _) | (with_reducible refine Below.alloc ?_ (by first | (simp; done) | (simp; omega) | omega) _) | (with_reducible refine Below.trans ?_ (Below.mono (by assumption) (by first | (simp; done) | (simp; omega) | omega))) | (with_reducible refine Below.trans ?_ (Below.mono (Later.below _) (by first | (simp; done) | (simp; omega) | omega)))))
theorem add_any (x y a b : Int) (h0 : -9223372036854775808 ≤ x + a) (h1 : x + a ≤ 9223372036854775807) (h2 : -9223372036854775808 ≤ y + b) (h3 : y + b ≤ 9223372036854775807) :
    Gives Try.prog 36 #[.agg #[.int .i64 x, .int .i64 y], .agg #[.int .i64 a, .int .i64 b]] (.agg #[.int .i64 (x + a), .int .i64 (y + b)]) := by
  intro w
  go_enter Try.func36, Try.ntmps36
  go_wp2_with (go_at_call 53; refine (combine_add _ _ _ _ h0 h1 h2 h3 _).mono ?_; rintro e w1 ⟨rfl, hb1⟩; obtain ⟨N1, hN1, hc1, hf1, hs1⟩ := bcell hb1; (try simp only [World.size_alloc, World.size_setCell, World.size_drew] at hN1))
  refine bodyPost_ret (v := .agg #[.int .i64 (x + a), .int .i64 (y + b)]) (by simp [results, Try.results36, go_sem, hc1, alloc_if, ↓IntWalk.iteOmega]) rfl ⟨rfl, ?_⟩
  (repeat (first | exact Below.refl _ _ | (with_reducible refine Below.drew ?_) | (with_reducible refine below_drewN ?_ _) | (with_reducible refine Below.setCell ?_ (by first | (simp; done) | (simp; omega) | omega) _) | (with_reducible refine Below.alloc ?_ (by first | (simp; done) | (simp; omega) | omega) _) | (with_reducible refine Below.trans ?_ (Below.mono (by assumption) (by first | (simp; done) | (simp; omega) | omega))) | (with_reducible refine Below.trans ?_ (Below.mono (Later.below _) (by first | (simp; done) | (simp; omega) | omega)))))
end Go.Proofs.Ytcgcapfppceggaa.Ve
