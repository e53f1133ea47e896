/-
  Contracts of the reference's Bounds, Project and Contains.
  Conditions: the exact numbers fit 64 bits.
-/
import Derived.Test.YtcgcapfppceggaaShD
import Derived.Test.YtcgcapfppceggaaShB
namespace Go.Proofs.Ytcgcapfppceggaa.Sh
open Go.RowKit Go.Proofs.Ytcgcapfppceggaa.FxMath Go.Proofs.Ytcgcapfppceggaa.FxA Go.Proofs.Ytcgcapfppceggaa.Qt Go.Proofs.Ytcgcapfppceggaa.Ve Go.Shelf
set_option linter.unusedVariables false
set_option linter.unusedSimpArgs false

def loU (L : Int) (f : Nat → Int) : Nat → Int
  | 0 => L
  | k + 1 => mnTo f k
def hiU (L : Int) (f : Nat → Int) : Nat → Int
  | 0 => L
  | k + 1 => mxTo f k
set_option maxHeartbeats 2000000 in
theorem rproject_circle (r x y ax ay : Int) (cap : Nat) (hr : -100000000 ≤ r ∧ r ≤ 100000000) (hx : -100000000 ≤ x ∧ x ≤ 100000000) (hy : -100000000 ≤ y ∧ y ≤ 100000000) (hax : -100000000 ≤ ax ∧ ax ≤ 100000000) (hay : -100000000 ≤ ay ∧ ay ≤ 100000000) :
    Gives Try.prog 61 #[.agg #[.int .i64 r, .slice none 0 0], .agg #[.int .i64 x, .int .i64 y], .agg #[.int .i64 ax, .int .i64 ay]] (.tuple #[.int .i64 ((x * ax + y * ay) / 1024 - r), .int .i64 ((x * ax + y * ay) / 1024 + r)]) := by
  intro w
  have m1 := mul_bd hx.1 hx.2 hax.1 hax.2
  have m2 := mul_bd hy.1 hy.2 hay.1 hay.2
  have c2 := rdot_any x y ax ay (by omega) (by omega) (by omega) (by omega)
  obtain ⟨d, hd⟩ : ∃ d, d = (x * ax + y * ay) / 1024 := ⟨_, rfl⟩
  have bd : -20000000000000 ≤ d ∧ d ≤ 20000000000000 := by omega
  rw [← hd] at c2 ⊢
  clear m1 m2 hd
  have Hc2 := Lib.hid c2; clear c2
  have hal := alloc_if; have hfal := allocF_if
  go_enter Try.func61, Try.ntmps61
  go_wp2_with (first | ((with_reducible refine (Hc2.out _).mono ?_); rintro e wB ⟨rfl, hbB⟩; obtain ⟨NB, hNB, hcB, hfB, hsB⟩ := bcell hbB; (try simp only [World.size_alloc, World.size_setCell, World.size_drew] at hNB)))
  go_loopw [9, 10, 11] (fun lo hi i wr => lo = .int .i64 (d - r) ∧ hi = .int .i64 (d + r) ∧ i = .int .i64 0 ∧ wr = wB) (fun _ _ _ _ => 0)
  case atStart => exact ⟨rfl, rfl, rfl, rfl⟩
  case round =>
    obtain ⟨rfl, rfl, rfl, rfl⟩ := hrel
    go_wp2
    go_ret2
    exact ⟨rfl, by (repeat (first | (with_reducible exact Below.refl _ _) | (with_reducible refine Below.drew ?_) | (with_reducible refine below_drewN ?_ _) | (with_reducible refine Below.setCell ?_ (by first | (simp; done) | (simp; omega) | omega) _) | (with_reducible refine Below.alloc ?_ (by first | (simp; done) | (simp; omega) | omega) _) | (with_reducible refine Below.trans ?_ (Below.mono (by assumption) (by first | (simp; done) | (simp; omega) | omega))) | (with_reducible refine Below.trans ?_ (Below.mono (Later.below _) (by first | (simp; done) | (simp; omega) | omega)))))⟩

set_option maxRecDepth 100000 in
set_option maxHeartbeats 4000000 in
theorem rproject_poly (r : Int) (a : Option Addr) (len cap : Nat) (zs : List (Int × Int)) (x y ax ay : Int) (w : World) (h : IsPoly w a len cap zs) (h1 : 1 ≤ len) (h2 : len ≤ 1000) (hz : Bd zs 50000) (hr : -100000000 ≤ r ∧ r ≤ 100000000) (hx : -100000000 ≤ x ∧ x ≤ 100000000) (hy : -100000000 ≤ y ∧ y ≤ 100000000) (hax : -100000000 ≤ ax ∧ ax ≤ 100000000) (hay : -100000000 ≤ ay ∧ ay ≤ 100000000) :
    Calls Try.prog 61 #[.agg #[.int .i64 r, .slice a len cap], .agg #[.int .i64 x, .int .i64 y], .agg #[.int .i64 ax, .int .i64 ay]] w fun e w' => e = .returned (.tuple #[.int .i64 (mnTo (prj zs x y ax ay) (len - 1)), .int .i64 (mxTo (prj zs x y ax ay) (len - 1))]) ∧ Below w.heap.size w w' := by
  have ca := fun (i : Nat) => radd_any x y (vx zs i) (vy zs i) (by have := hz i; omega) (by have := hz i; omega) (by have := hz i; omega) (by have := hz i; omega)
  have m1 := fun (i : Nat) => mul_bd (a := x + vx zs i) (b := ax) (A := 100050000) (B := 100000000) (by have := hz i; omega) (by have := hz i; omega) hax.1 hax.2
  have m2 := fun (i : Nat) => mul_bd (a := y + vy zs i) (b := ay) (A := 100050000) (B := 100000000) (by have := hz i; omega) (by have := hz i; omega) hay.1 hay.2
  have cd := fun (i : Nat) => rdot_any (x + vx zs i) (y + vy zs i) ax ay (by have := m1 i; omega) (by have := m1 i; omega) (by have := m2 i; omega) (by have := m2 i; omega)
  clear m1 m2
  have m1 := mul_bd hx.1 hx.2 hax.1 hax.2
  have m2 := mul_bd hy.1 hy.2 hay.1 hay.2
  have c2 := rdot_any x y ax ay (by omega) (by omega) (by omega) (by omega)
  obtain ⟨d0, hd0⟩ : ∃ d, d = (x * ax + y * ay) / 1024 := ⟨_, rfl⟩
  have bd : -20000000000000 ≤ d0 ∧ d0 ≤ 20000000000000 := by omega
  rw [← hd0] at c2
  clear m1 m2 hd0
  rcases h with ⟨_, h0, _⟩ | ⟨b, o, rfl, hzl, hle, hcm, hcell⟩
  · omega
  unfold maxLen at hcm
  have lb := World.block_lt_of_cell? w _ (hcell 0 (by omega)).1
  simp only at lb
  have Hc2 := Lib.hid c2; clear c2
  have Hca := Lib.hid ca
  have Hcd := Lib.hid cd
  clear ca cd
  have hal := alloc_if; have hfal := allocF_if
  go_enter Try.func61, Try.ntmps61
  go_wp2_with (first | ((with_reducible refine (Hc2.out _).mono ?_); rintro e wA ⟨rfl, hbA⟩; obtain ⟨NA, hNA, hcA, hfA, hsA⟩ := bcell hbA; (try simp only [World.size_alloc, World.size_setCell, World.size_drew] at hNA)))
  have st0 : Below w.heap.size w wA := by (repeat (first | (with_reducible exact Below.refl _ _) | (with_reducible refine Below.drew ?_) | (with_reducible refine below_drewN ?_ _) | (with_reducible refine Below.setCell ?_ (by first | (simp; done) | (simp; omega) | omega) _) | (with_reducible refine Below.alloc ?_ (by first | (simp; done) | (simp; omega) | omega) _) | (with_reducible refine Below.trans ?_ (Below.mono (by assumption) (by first | (simp; done) | (simp; omega) | omega))) | (with_reducible refine Below.trans ?_ (Below.mono (Later.below _) (by first | (simp; done) | (simp; omega) | omega)))))
  have q0 : wA.cell? ⟨w.heap.size + 1, 0, none⟩ = some (.int .i64 x) := by simp [hcA, alloc_if, ↓IntWalk.iteOmega]
  have q1 : wA.cell? ⟨w.heap.size + 1, 1, none⟩ = some (.int .i64 y) := by simp [hcA, alloc_if, ↓IntWalk.iteOmega]
  have q2 : wA.cell? ⟨w.heap.size + 1 + 1, 0, none⟩ = some (.int .i64 ax) := by simp [hcA, alloc_if, ↓IntWalk.iteOmega]
  have q3 : wA.cell? ⟨w.heap.size + 1 + 1, 1, none⟩ = some (.int .i64 ay) := by simp [hcA, alloc_if, ↓IntWalk.iteOmega]
  have q4 : wA.cell? ⟨w.heap.size, 1, none⟩ = some (.slice (some ⟨b, o, none⟩) len cap) := by simp [hcA, alloc_if, ↓IntWalk.iteOmega]
  clear hcA hfA hsA hNA hbA hal hfal Hc2
  go_loopw [9, 10, 11] (fun lo hi i wr => ∃ k : Nat, k ≤ len ∧ i = .int .i64 k ∧ lo = .int .i64 (loU (d0 - r) (prj zs x y ax ay) k) ∧ hi = .int .i64 (hiU (d0 + r) (prj zs x y ax ay) k) ∧ Below wA.heap.size wA wr)
    (fun _ _ i _ => len - (intOf i).toNat)
  case atStart => exact ⟨0, Nat.zero_le _, rfl, rfl, rfl, Below.refl _ _⟩
  case round =>
    obtain ⟨k, hk, rfl, rfl, rfl, hB⟩ := hrel
    have hws := hB.size
    have hww := st0.size
    have r4 := cell_below hB q4
    by_cases hlt : k < len
    · have v0 := cell_below (st0.trans (hB.mono hww)) (hcell k hlt).1
      have v1 := cell_below (st0.trans (hB.mono hww)) (hcell k hlt).2
      have r0 := cell_below hB q0
      have r1 := cell_below hB q1
      have r2 := cell_below hB q2
      have r3 := cell_below hB q3
      have l3 := World.block_lt_of_cell? _ _ r2
      simp only at l3
      have ca := Hca.out k
      have cd := Hcd.out k
      obtain ⟨d, hd⟩ : ∃ d, d = prj zs x y ax ay k := ⟨_, rfl⟩
      rw [show ((x + vx zs k) * ax + (y + vy zs k) * ay) / 1024 = d from hd.symm] at cd
      have HHca := Lib.hid ca
      have HHcd := Lib.hid cd
      clear ca cd
      obtain ⟨lo, hlo⟩ : ∃ d, d = loU (d0 - r) (prj zs x y ax ay) k := ⟨_, rfl⟩
      obtain ⟨hi, hhi⟩ : ∃ d, d = hiU (d0 + r) (prj zs x y ax ay) k := ⟨_, rfl⟩
      rw [← hlo, ← hhi]
      have Hhd := Lib.hid hd; have Hhlo := Lib.hid hlo; have Hhhi := Lib.hid hhi; clear hd hlo hhi
      have hltI : (k : Int) < (len : Int) := by omega
      by_cases hk0 : k = 0
      · subst hk0
        simp only [Nat.zero_mul, Nat.add_zero] at v0 v1
        have hal := alloc_if; have hfal := allocF_if
        go_wp2
        refine wp_region_later (by kernel_rfl) (by kernel_rfl) fun NL hL => ?_; obtain ⟨hNL, hlc, hlf⟩ := hL; (try simp only [World.size_alloc, World.size_setCell, World.size_drew] at hNL)
        repeat (go_big_quiet_step (first | (with_reducible exact later_call (HHca.out _)) | (with_reducible exact later_call (HHcd.out _))))
        (refine wpQuiet_nil ?_; intro w1 hw1; obtain ⟨⟨w1, hb1⟩, rfl⟩ := hw1; clear hlc hlf hNL NL; obtain ⟨N1, hN1, hc1, hf1, hs1⟩ := bcell hb1; (try simp only [World.size_alloc, World.size_setCell, World.size_drew] at hN1))
        go_wp2
        go_roundw
        case rel => exact ⟨1, by omega, by go_num, by rw [Hhd.out]; simp [loU, mnTo], by rw [Hhd.out]; simp [hiU, mxTo], by (repeat (first | (with_reducible exact Below.refl _ _) | (with_reducible refine Below.drew ?_) | (with_reducible refine below_drewN ?_ _) | (with_reducible refine Below.setCell ?_ (by first | (simp; done) | (simp; omega) | omega) _) | (with_reducible refine Below.alloc ?_ (by first | (simp; done) | (simp; omega) | omega) _) | (with_reducible refine Below.trans ?_ (Below.mono (by assumption) (by first | (simp; done) | (simp; omega) | omega))) | (with_reducible refine Below.trans ?_ (Below.mono (Later.below _) (by first | (simp; done) | (simp; omega) | omega)))))⟩
        case measure => simp [intOf]; omega
      · have hkb : ((k : Int) == 0) = false := beq_eq_false_iff_ne.2 (by omega)
        have hal := alloc_if; have hfal := allocF_if
        go_wp2
        refine wp_region_later (by kernel_rfl) (by kernel_rfl) fun NL hL => ?_; obtain ⟨hNL, hlc, hlf⟩ := hL; (try simp only [World.size_alloc, World.size_setCell, World.size_drew] at hNL)
        repeat (go_big_quiet_step (first | (with_reducible exact later_call (HHca.out _)) | (with_reducible exact later_call (HHcd.out _))))
        (refine wpQuiet_nil ?_; intro w1 hw1; obtain ⟨⟨w1, hb1⟩, rfl⟩ := hw1; clear hlc hlf hNL NL; obtain ⟨N1, hN1, hc1, hf1, hs1⟩ := bcell hb1; (try simp only [World.size_alloc, World.size_setCell, World.size_drew] at hN1))
        go_wp2
        go_roundw
        case rel =>
          obtain ⟨j, rfl⟩ : ∃ j, k = j + 1 := ⟨k - 1, by omega⟩
          exact ⟨j + 1 + 1, by omega, by go_num, by rw [Hhd.out, Hhlo.out]; simp [loU, mnTo], by rw [Hhd.out, Hhhi.out]; simp [hiU, mxTo], by (repeat (first | (with_reducible exact Below.refl _ _) | (with_reducible refine Below.drew ?_) | (with_reducible refine below_drewN ?_ _) | (with_reducible refine Below.setCell ?_ (by first | (simp; done) | (simp; omega) | omega) _) | (with_reducible refine Below.alloc ?_ (by first | (simp; done) | (simp; omega) | omega) _) | (with_reducible refine Below.trans ?_ (Below.mono (by assumption) (by first | (simp; done) | (simp; omega) | omega))) | (with_reducible refine Below.trans ?_ (Below.mono (Later.below _) (by first | (simp; done) | (simp; omega) | omega)))))⟩
        case measure => simp [intOf]; omega
    · obtain rfl : k = len := by omega
      obtain ⟨j, rfl⟩ : ∃ j, k = j + 1 := ⟨k - 1, by omega⟩
      simp only [loU, hiU, Nat.add_sub_cancel]
      go_wp2
      go_ret2
      exact ⟨rfl, st0.trans (hB.mono hww)⟩

end Go.Proofs.Ytcgcapfppceggaa.Sh
