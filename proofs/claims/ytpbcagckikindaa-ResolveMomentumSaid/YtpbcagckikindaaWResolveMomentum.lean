/-
  The walk of the law ResolveMomentum: it returns true at every input.
  Conditions: none.
-/
import Derived.Test.YtpbcagckikindaaReW
import Derived.Test.YtpbcagckikindaaQg
namespace Go.Proofs.Ytpbcagckikindaa.W
open Go.RowKit Go.Proofs.Ytpbcagckikindaa.FxMath Go.Proofs.Ytpbcagckikindaa.FxA Go.Proofs.Ytpbcagckikindaa.Qt Go.Proofs.Ytpbcagckikindaa.Ve Go.Proofs.Ytpbcagckikindaa.Re
set_option linter.unusedVariables false
set_option linter.unusedSimpArgs false
/-- The impulse between equal masses. -/
theorem imp_bd (vn e k : Int) (he0 : 0 ≤ e) (he1 : e ≤ 1024) (hk : 0 ≤ k) : 0 ≤ imp vn e (k + k) k ∧ (vn < 0 → imp vn e (k + k) k ≤ -vn) ∧ (0 ≤ vn → imp vn e (k + k) k = 0) := by
  unfold imp
  by_cases hv : vn < 0
  · rw [if_pos hv]
    by_cases h0 : k = 0
    · rw [h0, Int.add_zero, fdv_zero, Int.mul_zero, fdv0]; omega
    · rw [fdv_pos (-vn * (1024 + e)) _ (by omega)]
      have h1 : 0 ≤ -vn * (1024 + e) := Int.mul_nonneg (by omega) (by omega)
      obtain ⟨j, hj⟩ : ∃ j, j = -vn * (1024 + e) / (k + k) := ⟨_, rfl⟩
      have h2 : 0 ≤ j := by rw [hj]; exact Int.ediv_nonneg h1 (by omega)
      have h3 : j * (k + k) ≤ -vn * (1024 + e) := by rw [hj]; exact Int.ediv_mul_le _ (by omega)
      rw [← hj, fdv_pos _ _ (by omega)]
      have h4 : j * (k + k) = 2 * (j * k) := by grind
      have h5 : -vn * (1024 + e) ≤ -vn * 2048 := Int.mul_le_mul_of_nonneg_left (by omega) (by omega)
      have h6 : 0 ≤ j * k := Int.mul_nonneg h2 hk
      omega
  · rw [if_neg hv]; omega
theorem tdiv2 (a : Int) : -2 < a - 2 * a.tdiv 2 ∧ a - 2 * a.tdiv 2 < 2 := by
  have h1 := Int.mul_tdiv_add_tmod a 2
  have h2 := tmod_bd a 2 (by omega)
  omega
theorem sq_turn (v u s J : Int) (h : s * (u - v) + J ≤ 0) (hs : s = 1 ∨ s = -1) (hJ : 0 ≤ J) : (v - s * J) * (v - s * J) + (u + s * J) * (u + s * J) ≤ v * v + u * u := by
  have h1 : (v - s * J) * (v - s * J) + (u + s * J) * (u + s * J) = v * v + u * u + 2 * (J * (s * (u - v) + J)) + 2 * ((s * s - 1) * (J * J)) := by grind
  have h2 : s * s - 1 = 0 := by rcases hs with rfl | rfl <;> rfl
  have h3 : J * (s * (u - v) + J) ≤ 0 := Int.mul_nonpos_of_nonneg_of_nonpos hJ h
  rw [h1, h2]
  omega
theorem fdv_small {n k K : Int} (n0 : -1024 ≤ n) (n1 : n ≤ 1024) (k0 : 0 ≤ k) (k1 : k ≤ K) : -K ≤ fdv (n * k) 1024 ∧ fdv (n * k) 1024 ≤ K := by
  rw [fdv_pos _ _ (by omega)]
  have h1 : n * k ≤ 1024 * k := Int.mul_le_mul_of_nonneg_right n1 k0
  have h2 : -1024 * k ≤ n * k := Int.mul_le_mul_of_nonneg_right n0 k0
  omega
set_option maxHeartbeats 1000000 in
theorem squares_any (x y : Int) (x0 : -20000 ≤ x) (x1 : x ≤ 20000) (y0 : -20000 ≤ y) (y1 : y ≤ 20000) : Gives Try.prog 27 #[.agg #[.int .i64 x, .int .i64 y]] (.int .i64 (x * x + y * y)) := by
  intro w
  have h1 := mul_bd x0 x1 x0 x1
  have h2 := mul_bd y0 y1 y0 y1
  have hal := alloc_if; have hfal := allocF_if
  go_enter Try.func27, Try.ntmps27
  go_wp2
  go_ret
  exact ⟨rfl, by (repeat (first | exact Below.refl _ _ | (with_reducible refine Below.drew ?_) | (with_reducible refine below_drewN ?_ _) | (with_reducible refine Below.setCell ?_ (by first | (simp; done) | (simp; omega) | omega) _) | (with_reducible refine Below.alloc ?_ (by first | (simp; done) | (simp; omega) | omega) _) | (with_reducible refine Below.trans ?_ (Below.mono (by assumption) (by first | (simp; done) | (simp; omega) | omega)))))⟩
set_option maxHeartbeats 4000000 in
theorem ResolveMomentum_walk (a0 : Option Addr) (len0 cap0 : Nat) (z0 : List Int) (a1 : Option Addr) (len1 cap1 : Nat) (z1 : List Int) (a2 : Option Addr) (len2 cap2 : Nat) (z2 : List Int) (a3 a4 : Int) (w : World) (w0 : Fr.IsRow .i64 w a0 len0 cap0 z0) (w1 : Fr.IsRow .i64 w a1 len1 cap1 z1) (w2 : Fr.IsRow .i64 w a2 len2 cap2 z2) (w3 : (Lit.int .i64 a3).wf = true) (w4 : (Lit.int .i64 a4).wf = true) :
    Calls Try.prog 5 #[.slice a0 len0 cap0, .slice a1 len1 cap1, .slice a2 len2 cap2, .int .i64 a3, .int .i64 a4] w fun e w' => e = .returned (.bool true) ∧ Below w.heap.size w w' := by
  obtain ⟨px, py, vx, vy, k, ⟨b0, b1, b2, b3, b4, b5, b6, b7, b8, b9⟩, cx⟩ := slowE w0
  obtain ⟨qx, qy, ux, uy, l, ⟨g0, g1, g2, g3, g4, g5, g6, g7, g8, g9⟩, cy⟩ := slowE w1
  obtain ⟨nx, ny, d, ⟨n0, n1, n2, n3, n4, n5⟩, cz⟩ := contactE w2
  obtain ⟨mx, my, ax, cn⟩ := axisE a3 w3
  obtain ⟨e, he0, he1, ce0⟩ := aroundE a4 1025 w4 (by omega) (by omega)
  have cl := lives_any
  have ce := gives_same ce0
  clear w0 w1 w2 w3 w4 ce0
  -- the first call: any normal of at most half length
  obtain ⟨hx, ehx⟩ : ∃ t, t = nx.tdiv 2 := ⟨_, rfl⟩
  obtain ⟨hy, ehy⟩ : ∃ t, t = ny.tdiv 2 := ⟨_, rfl⟩
  have hx0 : -512 ≤ hx ∧ hx ≤ 512 := by have := tdiv2 nx; omega
  have hy0 : -512 ≤ hy ∧ hy ≤ 512 := by have := tdiv2 ny; omega
  obtain ⟨vn, hvn⟩ : ∃ vn, vn = vnr vx vy ux uy hx hy := ⟨_, rfl⟩
  have s1 := mul_bd (a := ux - vx) (b := hx) (A := 4000) (B := 512) (by omega) (by omega) hx0.1 hx0.2
  have s2 := mul_bd (a := uy - vy) (b := hy) (A := 4000) (B := 512) (by omega) (by omega) hy0.1 hy0.2
  have bvn : -4000 ≤ vn ∧ vn ≤ 4000 := by rw [hvn]; unfold vnr; omega
  obtain ⟨J, hJ⟩ : ∃ J, J = imp vn e (k + k) k := ⟨_, rfl⟩
  have bJ := imp_bd vn e k he0 (by omega) b8
  rw [← hJ] at bJ
  have bJ' : 0 ≤ J ∧ J ≤ 4000 := by omega
  have f1 := fdv_small (n := hx) (k := J) (K := 4000) (by omega) (by omega) bJ'.1 bJ'.2
  have f2 := fdv_small (n := hy) (k := J) (K := 4000) (by omega) (by omega) bJ'.1 bJ'.2
  have cr := resolve_any px py vx vy k qx qy ux uy k hx hy d e ⟨by omega, by omega, by omega, by omega, by omega, by omega, by omega, by omega, by omega, by omega⟩ ⟨by omega, by omega, by omega, by omega, by omega, by omega, by omega, by omega, by omega, by omega⟩ ⟨by omega, by omega, by omega, by omega, by omega, by omega, by omega, by omega⟩ vn J J _ _ hvn hJ hJ rfl rfl
  generalize fdv (hx * J) 1024 = h1 at *
  generalize fdv (hy * J) 1024 = h2 at *
  rw [clmV (a := vx - h1) (by omega) (by omega), clmV (a := vy - h2) (by omega) (by omega), clmV (a := ux + h1) (by omega) (by omega), clmV (a := uy + h2) (by omega) (by omega)] at cr
  generalize clm (px - fdv (hx * dis d (k + k) k) 1024) (-1048576) 1048576 = r1 at cr
  generalize clm (py - fdv (hy * dis d (k + k) k) 1024) (-1048576) 1048576 = r2 at cr
  generalize clm (qx + fdv (hx * dis d (k + k) k) 1024) (-1048576) 1048576 = r3 at cr
  generalize clm (qy + fdv (hy * dis d (k + k) k) 1024) (-1048576) 1048576 = r4 at cr
  have ca1 := add_any (vx - h1) (vy - h2) (ux + h1) (uy + h2) (by omega) (by omega) (by omega) (by omega)
  have ca2 := add_any vx vy ux uy (by omega) (by omega) (by omega) (by omega)
  rw [show vx - h1 + (ux + h1) = vx + ux by omega, show vy - h2 + (uy + h2) = vy + uy by omega] at ca1
  rw [ehx, ehy] at cr
  clear s1 s2 bvn bJ bJ' hvn hJ ehx ehy
  -- the second call: a normal along an axis
  obtain ⟨vn', hvn'⟩ : ∃ vn, vn = vnr vx vy ux uy mx my := ⟨_, rfl⟩
  obtain ⟨J', hJ'⟩ : ∃ J, J = imp vn' e (k + k) k := ⟨_, rfl⟩
  have bI := imp_bd vn' e k he0 (by omega) b8
  rw [← hJ'] at bI
  have cq := resolve_any px py vx vy k qx qy ux uy k mx my 0 e ⟨by omega, by omega, by omega, by omega, by omega, by omega, by omega, by omega, by omega, by omega⟩ ⟨by omega, by omega, by omega, by omega, by omega, by omega, by omega, by omega, by omega, by omega⟩ ⟨by omega, by omega, by omega, by omega, by omega, by omega, by omega, by omega⟩ vn' J' J' _ _ hvn' hJ' hJ' rfl rfl
  obtain ⟨f, hf⟩ : ∃ f, f = fdv (mx * J') 1024 := ⟨_, rfl⟩
  obtain ⟨g, hg⟩ : ∃ g, g = fdv (my * J') 1024 := ⟨_, rfl⟩
  rw [← hf, ← hg] at cq
  rw [fdv_pos _ _ (by omega)] at hf hg
  unfold vnr at hvn'
  have hfg : (f = 1 * J' ∧ g = 0 ∧ vn' = 1 * (ux - vx)) ∨ (f = 0 ∧ g = 1 * J' ∧ vn' = 1 * (uy - vy)) ∨ (f = -1 * J' ∧ g = 0 ∧ vn' = -1 * (ux - vx)) ∨ (f = 0 ∧ g = -1 * J' ∧ vn' = -1 * (uy - vy)) := by
    rcases ax with ⟨rfl, rfl⟩ | ⟨rfl, rfl⟩ | ⟨rfl, rfl⟩ | ⟨rfl, rfl⟩ <;> omega
  have fin : (vx - f) * (vx - f) + (vy - g) * (vy - g) + ((ux + f) * (ux + f) + (uy + g) * (uy + g)) ≤ vx * vx + vy * vy + (ux * ux + uy * uy) := by
    by_cases hv : vn' < 0
    · have hh := bI.2.1 hv
      rcases hfg with ⟨rfl, rfl, h⟩ | ⟨rfl, rfl, h⟩ | ⟨rfl, rfl, h⟩ | ⟨rfl, rfl, h⟩
      · have := sq_turn vx ux 1 J' (by omega) (by omega) bI.1
        simp only [Int.sub_zero, Int.add_zero]; omega
      · have := sq_turn vy uy 1 J' (by omega) (by omega) bI.1
        simp only [Int.sub_zero, Int.add_zero]; omega
      · have := sq_turn vx ux (-1) J' (by omega) (by omega) bI.1
        simp only [Int.sub_zero, Int.add_zero]; omega
      · have := sq_turn vy uy (-1) J' (by omega) (by omega) bI.1
        simp only [Int.sub_zero, Int.add_zero]; omega
    · have h0 := bI.2.2 (by omega)
      obtain rfl : f = 0 := by omega
      obtain rfl : g = 0 := by omega
      simp only [Int.sub_zero, Int.add_zero]; omega
  have fb : -4000 ≤ f ∧ f ≤ 4000 := by omega
  have gb : -4000 ≤ g ∧ g ≤ 4000 := by omega
  rw [clmV (a := vx - f) (by omega) (by omega), clmV (a := vy - g) (by omega) (by omega), clmV (a := ux + f) (by omega) (by omega), clmV (a := uy + g) (by omega) (by omega)] at cq
  generalize clm (px - fdv (mx * dis 0 (k + k) k) 1024) (-1048576) 1048576 = t1 at cq
  generalize clm (py - fdv (my * dis 0 (k + k) k) 1024) (-1048576) 1048576 = t2 at cq
  generalize clm (qx + fdv (mx * dis 0 (k + k) k) 1024) (-1048576) 1048576 = t3 at cq
  generalize clm (qy + fdv (my * dis 0 (k + k) k) 1024) (-1048576) 1048576 = t4 at cq
  clear hfg hf hg hvn' hJ' bI ax
  have cs1 := squares_any (vx - f) (vy - g) (by omega) (by omega) (by omega) (by omega)
  have cs2 := squares_any (ux + f) (uy + g) (by omega) (by omega) (by omega) (by omega)
  have cs3 := squares_any vx vy (by omega) (by omega) (by omega) (by omega)
  have cs4 := squares_any ux uy (by omega) (by omega) (by omega) (by omega)
  have q1 := mul_bd (a := vx - f) (b := vx - f) (A := 6000) (B := 6000) (by omega) (by omega) (by omega) (by omega)
  have q2 := mul_bd (a := vy - g) (b := vy - g) (A := 6000) (B := 6000) (by omega) (by omega) (by omega) (by omega)
  have q3 := mul_bd (a := ux + f) (b := ux + f) (A := 6000) (B := 6000) (by omega) (by omega) (by omega) (by omega)
  have q4 := mul_bd (a := uy + g) (b := uy + g) (A := 6000) (B := 6000) (by omega) (by omega) (by omega) (by omega)
  have q5 := mul_bd (a := vx) (b := vx) (A := 6000) (B := 6000) (by omega) (by omega) (by omega) (by omega)
  have q6 := mul_bd (a := vy) (b := vy) (A := 6000) (B := 6000) (by omega) (by omega) (by omega) (by omega)
  have q7 := mul_bd (a := ux) (b := ux) (A := 6000) (B := 6000) (by omega) (by omega) (by omega) (by omega)
  have q8 := mul_bd (a := uy) (b := uy) (A := 6000) (B := 6000) (by omega) (by omega) (by omega) (by omega)
  have i1 : -100000000 ≤ (vx - f) * (vx - f) + (vy - g) * (vy - g) ∧ (vx - f) * (vx - f) + (vy - g) * (vy - g) ≤ 100000000 := by omega
  have i2 : -100000000 ≤ (ux + f) * (ux + f) + (uy + g) * (uy + g) ∧ (ux + f) * (ux + f) + (uy + g) * (uy + g) ≤ 100000000 := by omega
  have i3 : -100000000 ≤ vx * vx + vy * vy ∧ vx * vx + vy * vy ≤ 100000000 := by omega
  have i4 : -100000000 ≤ ux * ux + uy * uy ∧ ux * ux + uy * uy ≤ 100000000 := by omega
  clear q1 q2 q3 q4 q5 q6 q7 q8
  generalize (vx - f) * (vx - f) + (vy - g) * (vy - g) = y1 at *
  generalize (ux + f) * (ux + f) + (uy + g) * (uy + g) = y2 at *
  generalize vx * vx + vy * vy = y3 at *
  generalize ux * ux + uy * uy = y4 at *
  have Hcx := Lib.hid cx; have Hcy := Lib.hid cy; have Hcz := Lib.hid cz; have Hcn := Lib.hid cn; have Hce := Lib.hid ce; have Hcl := Lib.hid cl; have Hcr := Lib.hid cr; have Hcq := Lib.hid cq; have Hca1 := Lib.hid ca1; have Hca2 := Lib.hid ca2; have Hcs1 := Lib.hid cs1; have Hcs2 := Lib.hid cs2; have Hcs3 := Lib.hid cs3; have Hcs4 := Lib.hid cs4; clear cx cy cz cn ce cl cr cq ca1 ca2 cs1 cs2 cs3 cs4
  have hal := alloc_if; have hfal := allocF_if
  have hst := setCell_if
  go_enter Try.func5, Try.ntmps5
  go_wp2_with (first | ((with_reducible refine (Hcx.out _ (by (repeat (first | exact Below.refl _ _ | (with_reducible refine Below.drew ?_) | (with_reducible refine below_drewN ?_ _) | (with_reducible refine Below.setCell ?_ (by first | (simp; done) | (simp; omega) | omega) _) | (with_reducible refine Below.alloc ?_ (by first | (simp; done) | (simp; omega) | omega) _) | (with_reducible refine Below.trans ?_ (Below.mono (by assumption) (by first | (simp; done) | (simp; omega) | omega))))))).mono ?_); rintro e w1 ⟨rfl, hb1⟩; obtain ⟨N1, hN1, hc1, hf1, hs1⟩ := bcell hb1; (try simp only [World.size_alloc, World.size_setCell, World.size_drew] at hN1)) | ((with_reducible refine (Hcy.out _ (by (repeat (first | exact Below.refl _ _ | (with_reducible refine Below.drew ?_) | (with_reducible refine below_drewN ?_ _) | (with_reducible refine Below.setCell ?_ (by first | (simp; done) | (simp; omega) | omega) _) | (with_reducible refine Below.alloc ?_ (by first | (simp; done) | (simp; omega) | omega) _) | (with_reducible refine Below.trans ?_ (Below.mono (by assumption) (by first | (simp; done) | (simp; omega) | omega))))))).mono ?_); rintro e w1 ⟨rfl, hb1⟩; obtain ⟨N1, hN1, hc1, hf1, hs1⟩ := bcell hb1; (try simp only [World.size_alloc, World.size_setCell, World.size_drew] at hN1)) | ((with_reducible refine (Hcz.out _ (by (repeat (first | exact Below.refl _ _ | (with_reducible refine Below.drew ?_) | (with_reducible refine below_drewN ?_ _) | (with_reducible refine Below.setCell ?_ (by first | (simp; done) | (simp; omega) | omega) _) | (with_reducible refine Below.alloc ?_ (by first | (simp; done) | (simp; omega) | omega) _) | (with_reducible refine Below.trans ?_ (Below.mono (by assumption) (by first | (simp; done) | (simp; omega) | omega))))))).mono ?_); rintro e w1 ⟨rfl, hb1⟩; obtain ⟨N1, hN1, hc1, hf1, hs1⟩ := bcell hb1; (try simp only [World.size_alloc, World.size_setCell, World.size_drew] at hN1)) | ((with_reducible refine (Hce.out _).mono ?_); rintro e w1 ⟨rfl, hb1⟩; obtain ⟨N1, hN1, hc1, hf1, hs1⟩ := bcell hb1; (try simp only [World.size_alloc, World.size_setCell, World.size_drew] at hN1)) | ((with_reducible refine (Hcr.out _).mono ?_); rintro e w1 ⟨rfl, hb1⟩; obtain ⟨N1, hN1, hc1, hf1, hs1⟩ := bcell hb1; (try simp only [World.size_alloc, World.size_setCell, World.size_drew] at hN1)))
  refine wp_region_later (by kernel_rfl) (by kernel_rfl) fun NL hL => ?_; obtain ⟨hNL, hlc, hlf⟩ := hL; (try simp only [World.size_alloc, World.size_setCell, World.size_drew] at hNL)
  repeat (go_big_quiet_step (first | (with_reducible exact later_call (Hca1.out _)) | (with_reducible exact later_call (Hca2.out _))))
  (refine wpQuiet_nil ?_; intro w1 hw1; obtain ⟨⟨w1, hb1⟩, rfl⟩ := hw1; clear hlc hlf hNL NL; obtain ⟨N1, hN1, hc1, hf1, hs1⟩ := bcell hb1; (try simp only [World.size_alloc, World.size_setCell, World.size_drew] at hN1))
  go_wp2_with (first | ((with_reducible refine (Hcr.out _).mono ?_); rintro e w1 ⟨rfl, hb1⟩; obtain ⟨N1, hN1, hc1, hf1, hs1⟩ := bcell hb1; (try simp only [World.size_alloc, World.size_setCell, World.size_drew] at hN1)))
  refine wp_region_later_tail_await 10 9 66 [10] (by kernel_rfl) (by kernel_rfl) (by kernel_rfl) rfl (fun _ _ _ _ h => h) fun NL hL => ?_; obtain ⟨hNL, hlc, hlf⟩ := hL; (try simp only [World.size_alloc, World.size_setCell, World.size_drew] at hNL); simp only [List.take_succ_cons, List.take_zero, List.drop_succ_cons, List.drop_zero]
  repeat (go_big_quiet_step (first | (with_reducible exact later_call (Hcn.out _)) | (with_reducible exact later_call (Hcq.out _))))
  (refine wpQuiet_nil ?_; intro w1 hw1; obtain ⟨⟨w1, hb1⟩, rfl⟩ := hw1; clear hlc hlf hNL NL; obtain ⟨N1, hN1, hc1, hf1, hs1⟩ := bcell hb1; (try simp only [World.size_alloc, World.size_setCell, World.size_drew] at hN1))
  go_wp2_with (first | ((with_reducible refine (Hcr.out _).mono ?_); rintro e w1 ⟨rfl, hb1⟩; obtain ⟨N1, hN1, hc1, hf1, hs1⟩ := bcell hb1; (try simp only [World.size_alloc, World.size_setCell, World.size_drew] at hN1)))
  refine wp_region_later (by kernel_rfl) (by kernel_rfl) fun NL hL => ?_; obtain ⟨hNL, hlc, hlf⟩ := hL; (try simp only [World.size_alloc, World.size_setCell, World.size_drew] at hNL)
  repeat (go_big_quiet_step (first | (with_reducible exact later_call (Hcs1.out _)) | (with_reducible exact later_call (Hcs2.out _)) | (with_reducible exact later_call (Hcs3.out _)) | (with_reducible exact later_call (Hcs4.out _)) | (with_reducible exact later_call (Hcl.out _))))
  (refine wpQuiet_nil ?_; intro w1 hw1; obtain ⟨⟨w1, hb1⟩, rfl⟩ := hw1; clear hlc hlf hNL NL; obtain ⟨N1, hN1, hc1, hf1, hs1⟩ := bcell hb1; (try simp only [World.size_alloc, World.size_setCell, World.size_drew] at hN1))
  go_wp2_with (first | ((with_reducible refine (Hcl.out _).mono ?_); rintro e w1 ⟨rfl, hb1⟩; obtain ⟨N1, hN1, hc1, hf1, hs1⟩ := bcell hb1; (try simp only [World.size_alloc, World.size_setCell, World.size_drew] at hN1)))
  go_ret
  exact ⟨rfl, by (repeat (first | (with_reducible exact Below.refl _ _) | (with_reducible refine Below.drew ?_) | (with_reducible refine below_drewN ?_ _) | (with_reducible refine Below.setCell ?_ (by first | (simp; done) | (simp; omega) | omega) _) | (with_reducible refine Below.alloc ?_ (by first | (simp; done) | (simp; omega) | omega) _) | (with_reducible refine Below.trans ?_ (Below.mono (by assumption) (by first | (simp; done) | (simp; omega) | omega)))))⟩
end Go.Proofs.Ytpbcagckikindaa.W
