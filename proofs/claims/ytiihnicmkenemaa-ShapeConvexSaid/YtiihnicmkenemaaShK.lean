/-
  Contracts of Validate.
  Conditions: a polygon has 3 .. 6 vertices with components within 32768; a circle any radius of 64 bits.
-/
import Derived.Test.YtiihnicmkenemaaShE
namespace Go.Proofs.Ytiihnicmkenemaa.Sh
open Go.RowKit Go.Proofs.Ytiihnicmkenemaa.FxMath Go.Proofs.Ytiihnicmkenemaa.FxA Go.Proofs.Ytiihnicmkenemaa.Qt Go.Proofs.Ytiihnicmkenemaa.Ve Go.Shelf
set_option linter.unusedVariables false
set_option linter.unusedSimpArgs false
set_option maxHeartbeats 2000000 in
theorem validate_circle (r : Int) (a : Option Addr) (cap : Nat) (hr : 1 ≤ r ∧ r ≤ 32768) :
    Gives Try.prog 18 #[.agg #[.int .i64 r, .slice a 0 cap]] (.int .i64 0) := by
  intro w
  have c1 := isCircle_yes r a cap
  obtain ⟨h0, h1⟩ := hr
  have Hc1 := Lib.hid c1; clear c1
  have hal := alloc_if; have hfal := allocF_if
  have hst := setCell_if
  go_enter Try.func18, Try.ntmps18
  go_wp2_with (first | ((with_reducible refine (Hc1.out _).mono ?_); rintro e wA ⟨rfl, hbA⟩; obtain ⟨NA, hNA, hcA, hfA, hsA⟩ := bcell hbA; (try simp only [World.size_alloc, World.size_setCell, World.size_drew] at hNA)))
  go_ret
  exact ⟨rfl, by (repeat (first | (with_reducible exact Below.refl _ _) | (with_reducible refine Below.drew ?_) | (with_reducible refine below_drewN ?_ _) | (with_reducible refine Below.setCell ?_ (by first | (simp; done) | (simp; omega) | omega) _) | (with_reducible refine Below.alloc ?_ (by first | (simp; done) | (simp; omega) | omega) _) | (with_reducible refine Below.trans ?_ (Below.mono (by assumption) (by first | (simp; done) | (simp; omega) | omega))) | (with_reducible refine Below.trans ?_ (Below.mono (Later.below _) (by first | (simp; done) | (simp; omega) | omega)))))⟩
set_option maxHeartbeats 2000000 in
theorem validate_zero (a : Option Addr) (cap : Nat) :
    Gives Try.prog 18 #[.agg #[.int .i64 0, .slice a 0 cap]] (.int .i64 10) := by
  intro w
  have c1 := isCircle_yes 0 a cap
  have Hc1 := Lib.hid c1; clear c1
  have hal := alloc_if; have hfal := allocF_if
  have hst := setCell_if
  go_enter Try.func18, Try.ntmps18
  go_wp2_with (first | ((with_reducible refine (Hc1.out _).mono ?_); rintro e wA ⟨rfl, hbA⟩; obtain ⟨NA, hNA, hcA, hfA, hsA⟩ := bcell hbA; (try simp only [World.size_alloc, World.size_setCell, World.size_drew] at hNA)))
  go_ret
  exact ⟨rfl, by (repeat (first | (with_reducible exact Below.refl _ _) | (with_reducible refine Below.drew ?_) | (with_reducible refine below_drewN ?_ _) | (with_reducible refine Below.setCell ?_ (by first | (simp; done) | (simp; omega) | omega) _) | (with_reducible refine Below.alloc ?_ (by first | (simp; done) | (simp; omega) | omega) _) | (with_reducible refine Below.trans ?_ (Below.mono (by assumption) (by first | (simp; done) | (simp; omega) | omega))) | (with_reducible refine Below.trans ?_ (Below.mono (Later.below _) (by first | (simp; done) | (simp; omega) | omega)))))⟩

set_option maxRecDepth 100000 in
set_option maxHeartbeats 4000000 in
theorem validate_poly (a : Option Addr) (len cap : Nat) (zs : List (Int × Int)) (w : World) (h : IsPoly w a len cap zs) (h1 : 3 ≤ len) (h2 : len ≤ 6) (hz : Bd zs 32768) :
    Calls Try.prog 18 #[.agg #[.int .i64 0, .slice a len cap]] w fun e w' => e = .returned (.int .i64 (if cvx zs then 0 else 10)) ∧ Below w.heap.size w w' := by
  have c1 := isCircle_no 0 a len cap (by omega) (by omega)
  have cx := fun (i : Nat) => within_yes (vx zs i) (hz i).1 (hz i).2.1
  have cy := fun (i : Nat) => within_yes (vy zs i) (hz i).2.2.1 (hz i).2.2.2
  have cv := fun (W : World) (hW : Below w.heap.size w W) => isConvex_any a len cap zs W (h.later hW) (by omega) (by omega) (fun i => by have := hz i; omega)
  obtain ⟨c, hc⟩ : ∃ c, c = cvx zs := ⟨_, rfl⟩
  rw [← hc] at cv ⊢
  clear hc
  rcases h with ⟨_, h0, _⟩ | ⟨b, o, rfl, hzl, hle, hcm, hcell⟩
  · omega
  unfold maxLen at hcm
  have lb := World.block_lt_of_cell? w _ (hcell 0 (by omega)).1
  simp only at lb
  have Hc1 := Lib.hid c1; clear c1
  have Hcx := Lib.hid cx
  have Hcy := Lib.hid cy
  have Hcv := Lib.hid cv
  clear cx cy cv
  have g1 : ((len : Int) < 3) = False := by simp; omega
  have g2 : (6 < (len : Int)) = False := by simp; omega
  have hal := alloc_if; have hfal := allocF_if
  go_enter Try.func18, Try.ntmps18
  go_wp2_with (first | ((with_reducible refine (Hc1.out _).mono ?_); rintro e wA ⟨rfl, hbA⟩; obtain ⟨NA, hNA, hcA, hfA, hsA⟩ := bcell hbA; (try simp only [World.size_alloc, World.size_setCell, World.size_drew] at hNA)))
  have st0 : Below w.heap.size w wA := by (repeat (first | (with_reducible exact Below.refl _ _) | (with_reducible refine Below.drew ?_) | (with_reducible refine below_drewN ?_ _) | (with_reducible refine Below.setCell ?_ (by first | (simp; done) | (simp; omega) | omega) _) | (with_reducible refine Below.alloc ?_ (by first | (simp; done) | (simp; omega) | omega) _) | (with_reducible refine Below.trans ?_ (Below.mono (by assumption) (by first | (simp; done) | (simp; omega) | omega))) | (with_reducible refine Below.trans ?_ (Below.mono (Later.below _) (by first | (simp; done) | (simp; omega) | omega)))))
  have q0 : wA.cell? ⟨w.heap.size, 0, none⟩ = some (.int .i64 0) := by simp [hcA, alloc_if, ↓IntWalk.iteOmega]
  have q1 : wA.cell? ⟨w.heap.size, 1, none⟩ = some (.slice (some ⟨b, o, none⟩) len cap) := by simp [hcA, alloc_if, ↓IntWalk.iteOmega]
  clear hcA hfA hsA hNA hbA hal hfal Hc1
  go_wp2
  go_loopw [33] (fun i wr => ∃ k : Nat, k ≤ len ∧ i = .int .i64 k ∧ Below wA.heap.size wA wr)
    (fun i _ => len - (intOf i).toNat)
  case atStart => exact ⟨0, Nat.zero_le _, rfl, Below.refl _ _⟩
  case round =>
    obtain ⟨k, hk, rfl, hB⟩ := hrel
    have hws := hB.size
    have hww := st0.size
    have r1 := cell_below hB q1
    by_cases hlt : k < len
    · have v0 := cell_below (st0.trans (hB.mono hww)) (hcell k hlt).1
      have v1 := cell_below (st0.trans (hB.mono hww)) (hcell k hlt).2
      have cx := Hcx.out k
      have cy := Hcy.out k
      have hlI : (k : Int) < (len : Int) := by omega
      have Hcx := Lib.hid cx; have Hcy := Lib.hid cy; clear cx cy
      have hal := alloc_if; have hfal := allocF_if
      go_wp2_with (first | ((with_reducible refine (Hcx.out _).mono ?_); rintro e wB ⟨rfl, hbB⟩; obtain ⟨NB, hNB, hcB, hfB, hsB⟩ := bcell hbB; (try simp only [World.size_alloc, World.size_setCell, World.size_drew] at hNB)) | ((with_reducible refine (Hcy.out _).mono ?_); rintro e wC ⟨rfl, hbC⟩; obtain ⟨NC, hNC, hcC, hfC, hsC⟩ := bcell hbC; (try simp only [World.size_alloc, World.size_setCell, World.size_drew] at hNC)))
      go_roundw
      case rel => exact ⟨k + 1, by omega, by go_num, hB.trans (by (repeat (first | (with_reducible exact Below.refl _ _) | (with_reducible refine Below.drew ?_) | (with_reducible refine below_drewN ?_ _) | (with_reducible refine Below.setCell ?_ (by first | (simp; done) | (simp; omega) | omega) _) | (with_reducible refine Below.alloc ?_ (by first | (simp; done) | (simp; omega) | omega) _) | (with_reducible refine Below.trans ?_ (Below.mono (by assumption) (by first | (simp; done) | (simp; omega) | omega))) | (with_reducible refine Below.trans ?_ (Below.mono (Later.below _) (by first | (simp; done) | (simp; omega) | omega))))))⟩
      case measure => simp [intOf]; omega
    · obtain rfl : k = len := by omega
      have cv := Hcv.out wr (st0.trans (hB.mono hww))
      have Hcv := Lib.hid cv; clear cv
      cases c
      · go_wp2_with (((with_reducible refine (Hcv.out).mono ?_); rintro e wD ⟨rfl, hbD⟩))
        go_ret
        exact ⟨rfl, (st0.trans (hB.mono hww)).trans (hbD.mono (by omega))⟩
      · go_wp2_with (((with_reducible refine (Hcv.out).mono ?_); rintro e wD ⟨rfl, hbD⟩))
        go_ret
        exact ⟨rfl, (st0.trans (hB.mono hww)).trans (hbD.mono (by omega))⟩
end Go.Proofs.Ytiihnicmkenemaa.Sh
