/-
  Contracts of the small functions of package resolve.
  Conditions: the exact numbers fit 64 bits.
-/
import Derived.Test.YtpbcagckikindaaVeC
import Derived.Test.YtpbcagckikindaaVeR
import Derived.Test.YtpbcagckikindaaQe
namespace Go.Proofs.Ytpbcagckikindaa.Re
open Go.RowKit Go.Proofs.Ytpbcagckikindaa.FxMath Go.Proofs.Ytpbcagckikindaa.FxA Go.Proofs.Ytpbcagckikindaa.Qt Go.Proofs.Ytpbcagckikindaa.Ve
set_option linter.unusedVariables false
set_option linter.unusedSimpArgs false

theorem later_cell {w : World} (x : Later w) {p : Addr} {v : Value} (h : w.cell? p = some v) : x.out.cell? p = some v :=
  (x.below.cell (World.block_lt_of_cell? w p h)).trans h

theorem clamp_any (x y l : Int) (h0 : -9223372036854775807 ≤ l) (h1 : l ≤ 9223372036854775807) :
    Gives Try.prog 71 #[.agg #[.int .i64 x, .int .i64 y], .int .i64 l] (.agg #[.int .i64 (clm x (-l) l), .int .i64 (clm y (-l) l)]) := by
  intro w
  go_enter Try.func71, Try.ntmps71
  go_wp2
  refine wp_region_later_tail 13 (by kernel_rfl) (by kernel_rfl) fun NL hL => ?_; obtain ⟨hNL, hlc, hlf⟩ := hL; (try simp only [World.size_alloc, World.size_setCell, World.size_drew] at hNL); simp only [List.take_succ_cons, List.take_zero, List.drop_succ_cons, List.drop_zero]
  repeat (go_big_quiet_step ((go_at_call 75; exact later_call (gives_same (fun w => FxA.clamp_any _ _ _ w) _))))
  (refine wpQuiet_nil ?_; intro w1 hw1; obtain ⟨⟨w1, hb1⟩, rfl⟩ := hw1; clear hlc hlf hNL NL; obtain ⟨N1, hN1, hc1, hf1, hs1⟩ := bcell hb1; (try simp only [World.size_alloc, World.size_setCell, World.size_drew] at hN1))
  go_wp2
  refine bodyPost_ret (v := .agg #[.int .i64 (clm x (-l) l), .int .i64 (clm y (-l) l)]) (by simp [results, Try.results71, go_sem, hc1, alloc_if, ↓IntWalk.iteOmega]) rfl ⟨rfl, ?_⟩
  (repeat (first | exact Below.refl _ _ | (with_reducible refine Below.drew ?_) | (with_reducible refine below_drewN ?_ _) | (with_reducible refine Below.setCell ?_ (by first | (simp; done) | (simp; omega) | omega) _) | (with_reducible refine Below.alloc ?_ (by first | (simp; done) | (simp; omega) | omega) _) | (with_reducible refine Below.trans ?_ (Below.mono (by assumption) (by first | (simp; done) | (simp; omega) | omega)))))
set_option maxHeartbeats 1000000 in
theorem limited_any (b : Nat) (px py vx vy m : Int) (w : World) (q0 : w.cell? ⟨b, 0, none⟩ = some (.int .i64 px)) (q1 : w.cell? ⟨b, 1, none⟩ = some (.int .i64 py)) (q2 : w.cell? ⟨b, 2, none⟩ = some (.int .i64 vx)) (q3 : w.cell? ⟨b, 3, none⟩ = some (.int .i64 vy)) (q4 : w.cell? ⟨b, 4, none⟩ = some (.int .i64 m)) :
    Calls Try.prog 53 #[.pointer (some ⟨b, 0, none⟩)] w fun e w' => e = .returned (.agg #[.int .i64 (clm px (-1048576) 1048576), .int .i64 (clm py (-1048576) 1048576), .int .i64 (clm vx (-16384) 16384), .int .i64 (clm vy (-16384) 16384), .int .i64 m]) ∧ Below w.heap.size w w' := by
  have hal := alloc_if; have hfal := allocF_if
  have hb := World.block_lt_of_cell? w _ q0
  go_enter Try.func53, Try.ntmps53
  go_wp2
  refine wp_region_later_tail 18 (by kernel_rfl) (by kernel_rfl) fun NL hL => ?_; obtain ⟨hNL, hlc, hlf⟩ := hL; (try simp only [World.size_alloc, World.size_setCell, World.size_drew] at hNL); simp only [List.take_succ_cons, List.take_zero, List.drop_succ_cons, List.drop_zero]
  repeat (go_big_quiet_step ((go_at_call 71; exact later_call (clamp_any _ _ _ (by omega) (by omega) _))))
  (refine wpQuiet_nil ?_; intro w1 hw1; obtain ⟨⟨w1, hb1⟩, rfl⟩ := hw1; clear hlc hlf hNL NL; obtain ⟨N1, hN1, hc1, hf1, hs1⟩ := bcell hb1; (try simp only [World.size_alloc, World.size_setCell, World.size_drew] at hN1))
  go_wp2
  refine bodyPost_ret (v := .agg #[.int .i64 (clm px (-1048576) 1048576), .int .i64 (clm py (-1048576) 1048576), .int .i64 (clm vx (-16384) 16384), .int .i64 (clm vy (-16384) 16384), .int .i64 m]) (by simp [results, Try.results53, go_sem, hc1, alloc_if, ↓IntWalk.iteOmega]) rfl ⟨rfl, ?_⟩
  (repeat (first | exact Below.refl _ _ | (with_reducible refine Below.drew ?_) | (with_reducible refine below_drewN ?_ _) | (with_reducible refine Below.setCell ?_ (by first | (simp; done) | (simp; omega) | omega) _) | (with_reducible refine Below.alloc ?_ (by first | (simp; done) | (simp; omega) | omega) _) | (with_reducible refine Below.trans ?_ (Below.mono (by assumption) (by first | (simp; done) | (simp; omega) | omega)))))

/-- Only block b and what is new has changed; block b holds this motion. -/
structure Upd (w w' : World) (b : Nat) (px py vx vy m : Int) : Prop where
  only : w.grownBy w' (some b)
  c0 : w'.cell? ⟨b, 0, none⟩ = some (.int .i64 px)
  c1 : w'.cell? ⟨b, 1, none⟩ = some (.int .i64 py)
  c2 : w'.cell? ⟨b, 2, none⟩ = some (.int .i64 vx)
  c3 : w'.cell? ⟨b, 3, none⟩ = some (.int .i64 vy)
  c4 : w'.cell? ⟨b, 4, none⟩ = some (.int .i64 m)
  free : ∀ i, w'.frozen? ⟨b, i, none⟩ = false

theorem only_alloc {a w : World} {row : Option Nat} (h : a.grownBy w row) (o : Obj) : a.grownBy (w.alloc o) row :=
  ⟨h.os, h.tape, h.output, Nat.le_trans h.size (by simp), fun i hi hne => (Below.heap_alloc w o i (Nat.lt_of_lt_of_le hi h.size)).trans (h.block i hi hne)⟩
theorem only_setCell {a w : World} {g : Nat} (h : a.grownBy w (some g)) {p : Addr} (hp : p.block = g) (u : Value) : a.grownBy (w.setCell p u) (some g) :=
  ⟨h.os, h.tape, h.output, by simpa [World.setCell] using h.size, fun i hi hne => (Below.heap_setCell w p u i (by
    rintro rfl
    exact hne (by rw [hp]))).trans (h.block i hi hne)⟩
theorem only_of_below {a w : World} (h : Below a.heap.size a w) (row : Option Nat) : a.grownBy w row := ⟨h.os, h.tape, h.output, h.size, fun i hi _ => h.block i hi⟩

theorem cell_below {w w1 : World} (hb : Below w.heap.size w w1) {p : Addr} {v : Value} (h : w.cell? p = some v) : w1.cell? p = some v :=
  (hb.cell (World.block_lt_of_cell? w p h)).trans h

theorem upd_two {w w1 : World} {b o : Nat} {u v : Int} {px py vx vy m : Int} (hb : Below w.heap.size w w1) (q0 : w.cell? ⟨b, 0, none⟩ = some (.int .i64 px)) (q1 : w.cell? ⟨b, 1, none⟩ = some (.int .i64 py)) (q2 : w.cell? ⟨b, 2, none⟩ = some (.int .i64 vx)) (q3 : w.cell? ⟨b, 3, none⟩ = some (.int .i64 vy)) (q4 : w.cell? ⟨b, 4, none⟩ = some (.int .i64 m)) (hf : ∀ i, w.frozen? ⟨b, i, none⟩ = false) :
    Upd w ((w1.setCell ⟨b, 0, none⟩ (.int .i64 u)).setCell ⟨b, 1, none⟩ (.int .i64 v)) b u v vx vy m ∧ Upd w ((w1.setCell ⟨b, 2, none⟩ (.int .i64 u)).setCell ⟨b, 3, none⟩ (.int .i64 v)) b px py u v m := by
  have e0 := cell_below hb q0
  have e1 := cell_below hb q1
  have e2 := cell_below hb q2
  have e3 := cell_below hb q3
  have e4 := cell_below hb q4
  have hbs := World.block_lt_of_cell? w _ q0
  have f : ∀ i, w1.frozen? ⟨b, i, none⟩ = false := fun i => (hb.frozen (p := ⟨b, i, none⟩) hbs).trans (hf i)
  have o1 := only_of_below hb (some b)
  constructor
  · exact ⟨only_setCell (only_setCell o1 rfl _) rfl _, by simp [setCell_if, e0], by simp [setCell_if, e1], by simp [setCell_if, e2], by simp [setCell_if, e3], by simp [setCell_if, e4], fun i => by simp [f]⟩
  · exact ⟨only_setCell (only_setCell o1 rfl _) rfl _, by simp [setCell_if, e0], by simp [setCell_if, e1], by simp [setCell_if, e2], by simp [setCell_if, e3], by simp [setCell_if, e4], fun i => by simp [f]⟩
set_option maxHeartbeats 1000000 in
theorem slowDown_any (b : Nat) (px py vx vy m x y : Int) (w : World) (q0 : w.cell? ⟨b, 0, none⟩ = some (.int .i64 px)) (q1 : w.cell? ⟨b, 1, none⟩ = some (.int .i64 py)) (q2 : w.cell? ⟨b, 2, none⟩ = some (.int .i64 vx)) (q3 : w.cell? ⟨b, 3, none⟩ = some (.int .i64 vy)) (q4 : w.cell? ⟨b, 4, none⟩ = some (.int .i64 m)) (hf : ∀ i, w.frozen? ⟨b, i, none⟩ = false) (h0 : -9223372036854775808 ≤ vx - x) (h1 : vx - x ≤ 9223372036854775807) (h2 : -9223372036854775808 ≤ vy - y) (h3 : vy - y ≤ 9223372036854775807) :
    Calls Try.prog 49 #[.pointer (some ⟨b, 0, none⟩), .agg #[.int .i64 x, .int .i64 y]] w fun e w' => e = .returned (.tuple #[]) ∧ Upd w w' b px py (vx - x) (vy - y) m := by
  have hal := alloc_if; have hfal := allocF_if
  have hb := World.block_lt_of_cell? w _ q0
  have hs := sub_any vx vy x y h0 h1 h2 h3
  have HS := Lib.hid hs
  clear hs
  have up := fun w1 hb => Lib.hid (@upd_two w w1 b 0 (vx - x) (vy - y) px py vx vy m hb q0 q1 q2 q3 q4 hf)
  have UP := Lib.hid up
  clear up
  go_enter Try.func49, Try.ntmps49
  go_wp2
  refine wp_region_later_tail 11 (by kernel_rfl) (by kernel_rfl) fun NL hL => ?_; obtain ⟨hNL, hlc, hlf⟩ := hL; (try simp only [World.size_alloc, World.size_setCell, World.size_drew] at hNL); simp only [List.take_succ_cons, List.take_zero, List.drop_succ_cons, List.drop_zero]
  repeat (go_big_quiet_step ((with_reducible exact later_call (HS.out _))))
  (refine wpQuiet_nil ?_; intro w1 hw1; obtain ⟨⟨w1, hb1⟩, rfl⟩ := hw1; clear hlc hlf hNL NL; obtain ⟨N1, hN1, hc1, hf1, hs1⟩ := bcell hb1; (try simp only [World.size_alloc, World.size_setCell, World.size_drew] at hN1))
  go_wp2
  go_end0
  refine ⟨rfl, ?_⟩
  have hb2 : Below w.heap.size w w1 := Below.trans ((Below.refl _ _).alloc (Nat.le_refl _) _) (hb1.mono (by simp))
  exact (UP.out w1 hb2).out.2
set_option maxHeartbeats 1000000 in
theorem speedUp_any (b : Nat) (px py vx vy m x y : Int) (w : World) (q0 : w.cell? ⟨b, 0, none⟩ = some (.int .i64 px)) (q1 : w.cell? ⟨b, 1, none⟩ = some (.int .i64 py)) (q2 : w.cell? ⟨b, 2, none⟩ = some (.int .i64 vx)) (q3 : w.cell? ⟨b, 3, none⟩ = some (.int .i64 vy)) (q4 : w.cell? ⟨b, 4, none⟩ = some (.int .i64 m)) (hf : ∀ i, w.frozen? ⟨b, i, none⟩ = false) (h0 : -9223372036854775808 ≤ vx + x) (h1 : vx + x ≤ 9223372036854775807) (h2 : -9223372036854775808 ≤ vy + y) (h3 : vy + y ≤ 9223372036854775807) :
    Calls Try.prog 50 #[.pointer (some ⟨b, 0, none⟩), .agg #[.int .i64 x, .int .i64 y]] w fun e w' => e = .returned (.tuple #[]) ∧ Upd w w' b px py (vx + x) (vy + y) m := by
  have hal := alloc_if; have hfal := allocF_if
  have hb := World.block_lt_of_cell? w _ q0
  have hs := add_any vx vy x y h0 h1 h2 h3
  have HS := Lib.hid hs
  clear hs
  have up := fun w1 hb => Lib.hid (@upd_two w w1 b 0 (vx + x) (vy + y) px py vx vy m hb q0 q1 q2 q3 q4 hf)
  have UP := Lib.hid up
  clear up
  go_enter Try.func50, Try.ntmps50
  go_wp2
  refine wp_region_later_tail 11 (by kernel_rfl) (by kernel_rfl) fun NL hL => ?_; obtain ⟨hNL, hlc, hlf⟩ := hL; (try simp only [World.size_alloc, World.size_setCell, World.size_drew] at hNL); simp only [List.take_succ_cons, List.take_zero, List.drop_succ_cons, List.drop_zero]
  repeat (go_big_quiet_step ((with_reducible exact later_call (HS.out _))))
  (refine wpQuiet_nil ?_; intro w1 hw1; obtain ⟨⟨w1, hb1⟩, rfl⟩ := hw1; clear hlc hlf hNL NL; obtain ⟨N1, hN1, hc1, hf1, hs1⟩ := bcell hb1; (try simp only [World.size_alloc, World.size_setCell, World.size_drew] at hN1))
  go_wp2
  go_end0
  refine ⟨rfl, ?_⟩
  have hb2 : Below w.heap.size w w1 := Below.trans ((Below.refl _ _).alloc (Nat.le_refl _) _) (hb1.mono (by simp))
  exact (UP.out w1 hb2).out.2
set_option maxHeartbeats 1000000 in
theorem retreat_any (b : Nat) (px py vx vy m x y : Int) (w : World) (q0 : w.cell? ⟨b, 0, none⟩ = some (.int .i64 px)) (q1 : w.cell? ⟨b, 1, none⟩ = some (.int .i64 py)) (q2 : w.cell? ⟨b, 2, none⟩ = some (.int .i64 vx)) (q3 : w.cell? ⟨b, 3, none⟩ = some (.int .i64 vy)) (q4 : w.cell? ⟨b, 4, none⟩ = some (.int .i64 m)) (hf : ∀ i, w.frozen? ⟨b, i, none⟩ = false) (h0 : -9223372036854775808 ≤ px - x) (h1 : px - x ≤ 9223372036854775807) (h2 : -9223372036854775808 ≤ py - y) (h3 : py - y ≤ 9223372036854775807) :
    Calls Try.prog 51 #[.pointer (some ⟨b, 0, none⟩), .agg #[.int .i64 x, .int .i64 y]] w fun e w' => e = .returned (.tuple #[]) ∧ Upd w w' b (px - x) (py - y) vx vy m := by
  have hal := alloc_if; have hfal := allocF_if
  have hb := World.block_lt_of_cell? w _ q0
  have hs := sub_any px py x y h0 h1 h2 h3
  have HS := Lib.hid hs
  clear hs
  have up := fun w1 hb => Lib.hid (@upd_two w w1 b 0 (px - x) (py - y) px py vx vy m hb q0 q1 q2 q3 q4 hf)
  have UP := Lib.hid up
  clear up
  go_enter Try.func51, Try.ntmps51
  go_wp2
  refine wp_region_later_tail 11 (by kernel_rfl) (by kernel_rfl) fun NL hL => ?_; obtain ⟨hNL, hlc, hlf⟩ := hL; (try simp only [World.size_alloc, World.size_setCell, World.size_drew] at hNL); simp only [List.take_succ_cons, List.take_zero, List.drop_succ_cons, List.drop_zero]
  repeat (go_big_quiet_step ((with_reducible exact later_call (HS.out _))))
  (refine wpQuiet_nil ?_; intro w1 hw1; obtain ⟨⟨w1, hb1⟩, rfl⟩ := hw1; clear hlc hlf hNL NL; obtain ⟨N1, hN1, hc1, hf1, hs1⟩ := bcell hb1; (try simp only [World.size_alloc, World.size_setCell, World.size_drew] at hN1))
  go_wp2
  go_end0
  refine ⟨rfl, ?_⟩
  have hb2 : Below w.heap.size w w1 := Below.trans ((Below.refl _ _).alloc (Nat.le_refl _) _) (hb1.mono (by simp))
  exact (UP.out w1 hb2).out.1
set_option maxHeartbeats 1000000 in
theorem advance_any (b : Nat) (px py vx vy m x y : Int) (w : World) (q0 : w.cell? ⟨b, 0, none⟩ = some (.int .i64 px)) (q1 : w.cell? ⟨b, 1, none⟩ = some (.int .i64 py)) (q2 : w.cell? ⟨b, 2, none⟩ = some (.int .i64 vx)) (q3 : w.cell? ⟨b, 3, none⟩ = some (.int .i64 vy)) (q4 : w.cell? ⟨b, 4, none⟩ = some (.int .i64 m)) (hf : ∀ i, w.frozen? ⟨b, i, none⟩ = false) (h0 : -9223372036854775808 ≤ px + x) (h1 : px + x ≤ 9223372036854775807) (h2 : -9223372036854775808 ≤ py + y) (h3 : py + y ≤ 9223372036854775807) :
    Calls Try.prog 52 #[.pointer (some ⟨b, 0, none⟩), .agg #[.int .i64 x, .int .i64 y]] w fun e w' => e = .returned (.tuple #[]) ∧ Upd w w' b (px + x) (py + y) vx vy m := by
  have hal := alloc_if; have hfal := allocF_if
  have hb := World.block_lt_of_cell? w _ q0
  have hs := add_any px py x y h0 h1 h2 h3
  have HS := Lib.hid hs
  clear hs
  have up := fun w1 hb => Lib.hid (@upd_two w w1 b 0 (px + x) (py + y) px py vx vy m hb q0 q1 q2 q3 q4 hf)
  have UP := Lib.hid up
  clear up
  go_enter Try.func52, Try.ntmps52
  go_wp2
  refine wp_region_later_tail 11 (by kernel_rfl) (by kernel_rfl) fun NL hL => ?_; obtain ⟨hNL, hlc, hlf⟩ := hL; (try simp only [World.size_alloc, World.size_setCell, World.size_drew] at hNL); simp only [List.take_succ_cons, List.take_zero, List.drop_succ_cons, List.drop_zero]
  repeat (go_big_quiet_step ((with_reducible exact later_call (HS.out _))))
  (refine wpQuiet_nil ?_; intro w1 hw1; obtain ⟨⟨w1, hb1⟩, rfl⟩ := hw1; clear hlc hlf hNL NL; obtain ⟨N1, hN1, hc1, hf1, hs1⟩ := bcell hb1; (try simp only [World.size_alloc, World.size_setCell, World.size_drew] at hN1))
  go_wp2
  go_end0
  refine ⟨rfl, ?_⟩
  have hb2 : Below w.heap.size w w1 := Below.trans ((Below.refl _ _).alloc (Nat.le_refl _) _) (hb1.mono (by simp))
  exact (UP.out w1 hb2).out.1
end Go.Proofs.Ytpbcagckikindaa.Re
