/-
  The walk of the law ToiSwept: it returns true at every input.
  Conditions: none.
-/
import Derived.Test.YtcgcapfppceggaaToB
import Derived.Test.YtcgcapfppceggaaToX
import Derived.Test.YtcgcapfppceggaaToD
import Derived.Test.YtcgcapfppceggaaQe
import Derived.Deep.Cut
import Derived.Deep.CutRange
import Derived.Deep.DeepCutAuto
import Derived.Deep.RegionHeld3
namespace Go.Proofs.Ytcgcapfppceggaa.W
open Go.RowKit Go.Proofs.Ytcgcapfppceggaa.FxMath Go.Proofs.Ytcgcapfppceggaa.FxA Go.Proofs.Ytcgcapfppceggaa.Qt Go.Proofs.Ytcgcapfppceggaa.Ve Go.Proofs.Ytcgcapfppceggaa.Sh Go.Proofs.Ytcgcapfppceggaa.Co Go.Proofs.Ytcgcapfppceggaa.Ji Go.Proofs.Ytcgcapfppceggaa.To
set_option linter.unusedVariables false
set_option linter.unusedSimpArgs false
set_option maxRecDepth 100000 in
set_option maxHeartbeats 4000000 in
theorem ToiSwept_walk (a0 : Option Addr) (len0 cap0 : Nat) (z0 : List Int) (a1 : Int) (w : World) (w0 : Fr.IsRow .i64 w a0 len0 cap0 z0) (w1 : (Lit.int .i64 a1).wf = true) :
    Calls Try.prog 14 #[.slice a0 len0 cap0, .int .i64 a1] w fun e w' => e = .returned (.bool true) ∧ Below w.heap.size w w' := by
  have cp := pair_any a0 len0 cap0 _ w (isL_of_row w0)
  have lv := lives06
  unfold PairP at cp
  have Hcp := Lib.hid cp; have Hlv := Lib.hid lv; clear cp lv
  have hal := alloc_if; have hfal := allocF_if
  go_enter Try.func14, Try.ntmps14
  go_upto_region 2 with (((with_reducible refine Hcp.out.mono ?_); rintro e WP ⟨ra, aa, la, ca, za, px, py, ux, uy, rb, ab, lb, cb, zb, qx, qy, vx', vy', rfl, hA, hB, ⟨p1, p2, p3, p4⟩, ⟨u1, u2, u3, u4⟩, ⟨q1, q2, q3, q4⟩, ⟨v1, v2, v3, v4⟩, hbP⟩; obtain ⟨NP, hNP, hcP, hfP, hsP⟩ := bcell hbP; (try simp only [World.size_alloc, World.size_setCell, World.size_drew] at hNP)))
  have szP := hbP.size
  refine name_world3 fun W8 hW8 => ?_
  have x0 : W8.cell? ⟨WP.heap.size, 0, none⟩ = some (.int .i64 ra) := by rw [hW8]; simp [hal, ↓IntWalk.iteOmega]
  have x1 : W8.cell? ⟨WP.heap.size, 1, none⟩ = some (.slice aa la ca) := by rw [hW8]; simp [hal, ↓IntWalk.iteOmega]
  have x2 : W8.cell? ⟨WP.heap.size, 2, none⟩ = some (.int .i64 px) := by rw [hW8]; simp [hal, ↓IntWalk.iteOmega]
  have x3 : W8.cell? ⟨WP.heap.size, 3, none⟩ = some (.int .i64 py) := by rw [hW8]; simp [hal, ↓IntWalk.iteOmega]
  have x4 : W8.cell? ⟨WP.heap.size, 4, none⟩ = some (.int .i64 ux) := by rw [hW8]; simp [hal, ↓IntWalk.iteOmega]
  have x5 : W8.cell? ⟨WP.heap.size, 5, none⟩ = some (.int .i64 uy) := by rw [hW8]; simp [hal, ↓IntWalk.iteOmega]
  have fx : ∀ i, W8.frozen? ⟨WP.heap.size, i, none⟩ = false := fun i => by rw [hW8]; simp [hfal, ↓IntWalk.iteOmega]
  have y0 : W8.cell? ⟨WP.heap.size + 1, 0, none⟩ = some (.int .i64 rb) := by rw [hW8]; simp [hal, ↓IntWalk.iteOmega]
  have y1 : W8.cell? ⟨WP.heap.size + 1, 1, none⟩ = some (.slice ab lb cb) := by rw [hW8]; simp [hal, ↓IntWalk.iteOmega]
  have y2 : W8.cell? ⟨WP.heap.size + 1, 2, none⟩ = some (.int .i64 qx) := by rw [hW8]; simp [hal, ↓IntWalk.iteOmega]
  have y3 : W8.cell? ⟨WP.heap.size + 1, 3, none⟩ = some (.int .i64 qy) := by rw [hW8]; simp [hal, ↓IntWalk.iteOmega]
  have y4 : W8.cell? ⟨WP.heap.size + 1, 4, none⟩ = some (.int .i64 vx') := by rw [hW8]; simp [hal, ↓IntWalk.iteOmega]
  have y5 : W8.cell? ⟨WP.heap.size + 1, 5, none⟩ = some (.int .i64 vy') := by rw [hW8]; simp [hal, ↓IntWalk.iteOmega]
  have fy : ∀ i, W8.frozen? ⟨WP.heap.size + 1, i, none⟩ = false := fun i => by rw [hW8]; simp [hfal, ↓IntWalk.iteOmega]
  have h8 : Below WP.heap.size WP W8 := by rw [hW8]; (repeat (first | (with_reducible exact Below.refl _ _) | (with_reducible refine Below.drew ?_) | (with_reducible refine below_drewN ?_ _) | (with_reducible refine Below.setCell ?_ (by first | (simp; done) | (simp; omega) | omega) _) | (with_reducible refine Below.alloc ?_ (by first | (simp; done) | (simp; omega) | omega) _) | (with_reducible refine Below.trans ?_ (Below.mono (by assumption) (by first | (simp; done) | (simp; omega) | omega))) | (with_reducible refine Below.trans ?_ (Below.mono (Later.below _) (by first | (simp; done) | (simp; omega) | omega)))))
  have s8 : WP.heap.size + 1 < W8.heap.size := World.block_lt_of_cell? _ _ y0
  obtain ⟨b, hb⟩ : ∃ b, b = WP.heap.size := ⟨_, rfl⟩
  rw [← hb] at x0 x1 x2 x3 x4 x5 y0 y1 y2 y3 y4 y5 fx fy s8 ⊢
  have hbl : WP.heap.size ≤ b := by omega
  clear hb hW8 hcP hfP hsP hNP NP Hcp hal hfal
  have hbd : TBd px py ux uy qx qy vx' vy' := ⟨by omega, by omega, by omega, by omega⟩
  have ce := fun V (hV : Below WP.heap.size WP V) => earl_s hA hB hbd V hV
  have cw1 := fun V (hV : Below WP.heap.size WP V) => swept_s hA (px := px) (py := py) (ux := ux) (uy := uy) (by omega) (by omega) V hV
  have cw2 := fun V (hV : Below WP.heap.size WP V) => swept_s hB (px := qx) (py := qy) (ux := vx') (uy := vy') (by omega) (by omega) V hV
  obtain ⟨b10, b11⟩ := i64_bd w1
  have cr := gives_same (fun V => around_any a1 1000 V b10 b11 (by decide) (by decide))
  have tr := aro_bd a1 1000 (by decide)
  generalize aro a1 1000 = r at *
  obtain ⟨⟨g1, g2⟩, g3, g4⟩ := sx_bd hA px ux (by omega) (by omega) 8 (by omega)
  obtain ⟨⟨g5, g6⟩, g7, g8⟩ := sx_bd hB qx vx' (by omega) (by omega) 8 (by omega)
  have hsw := swept_law ra za px py ux uy rb zb qx qy vx' vy'
  obtain ⟨NX, hNX⟩ : ∃ NX, NX = qx + sx1 ra za px ux 8 - sx0 rb zb qx vx' 8 + 1 + r := ⟨_, rfl⟩
  have hsw2 : erl (tch ra za px py ux uy rb zb NX qy vx' vy') = 1024 := swept_law ra za px py ux uy rb zb NX qy vx' vy' (.inl (by rw [hNX, show qx + sx1 ra za px ux 8 - sx0 rb zb qx vx' 8 + 1 + r = qx + (sx1 ra za px ux 8 - sx0 rb zb qx vx' 8 + 1 + r) by omega, sx0_add]; omega))
  have ce2 : (-1048576 ≤ NX ∧ NX ≤ 1048576) → ∀ V, Below WP.heap.size WP V → Calls Try.prog 38 #[.agg #[.int .i64 ra, .slice aa la ca, .int .i64 px, .int .i64 py, .int .i64 ux, .int .i64 uy], .agg #[.int .i64 rb, .slice ab lb cb, .int .i64 NX, .int .i64 qy, .int .i64 vx', .int .i64 vy']] V fun e w' => e = .returned (.int .i64 1024) ∧ Below V.heap.size V w' := fun hn V hV => by
    have := earl_s hA hB (px := px) (py := py) (ux := ux) (uy := uy) (qx := NX) (qy := qy) (vx' := vx') (vy' := vy') ⟨by omega, by omega, by omega, by omega⟩ V hV
    rw [hsw2] at this
    exact this
  clear hsw2 hA hB hbd
  have ca := gives_same (fun V => rabs_any NX V (by omega) (by omega))
  have hav : ∀ n : Int, ¬ 1048576 < abv n → -1048576 ≤ n ∧ n ≤ 1048576 := fun n h => by unfold abv at h; split at h <;> omega
  have Hav := Lib.hid (hav NX)
  generalize abv NX = av at *
  generalize sx0 ra za px ux 8 = A0 at *
  generalize sy0 ra za py uy 8 = A1 at *
  generalize sx1 ra za px ux 8 = A2 at *
  generalize sy1 ra za py uy 8 = A3 at *
  generalize sx0 rb zb qx vx' 8 = B0 at *
  generalize sy0 rb zb qy vy' 8 = B1 at *
  generalize sx1 rb zb qx vx' 8 = B2 at *
  generalize sy1 rb zb qy vy' 8 = B3 at *
  generalize erl (tch ra za px py ux uy rb zb qx qy vx' vy') = f at *
  have HNX := Lib.hid hNX
  have Hsw := Lib.hid hsw
  have Hce2 := Lib.hid ce2
  have Hce := Lib.hid ce; have Hcw1 := Lib.hid cw1; have Hcw2 := Lib.hid cw2; have Hcr := Lib.hid cr; have Hca := Lib.hid ca; clear ce cw1 cw2 cr ca
  clear ce2 hsw hNX hav
  have hal := alloc_if; have hfal := allocF_if
  go_upto_region 4 with (first | ((with_reducible refine (Hcw1.out _ (by (repeat (first | (with_reducible exact Below.refl _ _) | (with_reducible refine Below.drew ?_) | (with_reducible refine below_drewN ?_ _) | (with_reducible refine Below.setCell ?_ (by first | (simp; done) | (simp; omega) | omega) _) | (with_reducible refine Below.alloc ?_ (by first | (simp; done) | (simp; omega) | omega) _) | (with_reducible refine Below.trans ?_ (Below.mono (by assumption) (by first | (simp; done) | (simp; omega) | omega))) | (with_reducible refine Below.trans ?_ (Below.mono (Later.below _) (by first | (simp; done) | (simp; omega) | omega))))))).mono ?_); rintro e wE ⟨rfl, hbE⟩; obtain ⟨NE, hNE, hcE, hfE, hsE⟩ := bcell hbE; (try simp only [World.size_alloc, World.size_setCell, World.size_drew] at hNE)) | ((with_reducible refine (Hcw2.out _ (by (repeat (first | (with_reducible exact Below.refl _ _) | (with_reducible refine Below.drew ?_) | (with_reducible refine below_drewN ?_ _) | (with_reducible refine Below.setCell ?_ (by first | (simp; done) | (simp; omega) | omega) _) | (with_reducible refine Below.alloc ?_ (by first | (simp; done) | (simp; omega) | omega) _) | (with_reducible refine Below.trans ?_ (Below.mono (by assumption) (by first | (simp; done) | (simp; omega) | omega))) | (with_reducible refine Below.trans ?_ (Below.mono (Later.below _) (by first | (simp; done) | (simp; omega) | omega))))))).mono ?_); rintro e wF ⟨rfl, hbF⟩; obtain ⟨NF, hNF, hcF, hfF, hsF⟩ := bcell hbF; (try simp only [World.size_alloc, World.size_setCell, World.size_drew] at hNF)))
  refine name_world3 fun W9 hW9 => ?_
  have h89 : Below W8.heap.size W8 W9 := by rw [hW9]; (repeat (first | (with_reducible exact Below.refl _ _) | (with_reducible refine Below.drew ?_) | (with_reducible refine below_drewN ?_ _) | (with_reducible refine Below.setCell ?_ (by first | (simp; done) | (simp; omega) | omega) _) | (with_reducible refine Below.alloc ?_ (by first | (simp; done) | (simp; omega) | omega) _) | (with_reducible refine Below.trans ?_ (Below.mono (by assumption) (by first | (simp; done) | (simp; omega) | omega))) | (with_reducible refine Below.trans ?_ (Below.mono (Later.below _) (by first | (simp; done) | (simp; omega) | omega)))))
  have h9 : Below WP.heap.size WP W9 := h8.trans (h89.mono h8.size)
  have x0 := cell_below h89 x0
  have x1 := cell_below h89 x1
  have x2 := cell_below h89 x2
  have x3 := cell_below h89 x3
  have x4 := cell_below h89 x4
  have x5 := cell_below h89 x5
  have y0 := cell_below h89 y0
  have y1 := cell_below h89 y1
  have y2 := cell_below h89 y2
  have y3 := cell_below h89 y3
  have y4 := cell_below h89 y4
  have y5 := cell_below h89 y5
  have m0 : W9.cell? ⟨wE.heap.size, 0, none⟩ = some (.int .i64 A0) := by rw [hW9]; simp [hcF, hal, ↓IntWalk.iteOmega]
  have m1 : W9.cell? ⟨wE.heap.size, 1, none⟩ = some (.int .i64 A1) := by rw [hW9]; simp [hcF, hal, ↓IntWalk.iteOmega]
  have m2 : W9.cell? ⟨wE.heap.size, 2, none⟩ = some (.int .i64 A2) := by rw [hW9]; simp [hcF, hal, ↓IntWalk.iteOmega]
  have m3 : W9.cell? ⟨wE.heap.size, 3, none⟩ = some (.int .i64 A3) := by rw [hW9]; simp [hcF, hal, ↓IntWalk.iteOmega]
  have n0 : W9.cell? ⟨wF.heap.size, 0, none⟩ = some (.int .i64 B0) := by rw [hW9]; simp [hal, ↓IntWalk.iteOmega]
  have n1 : W9.cell? ⟨wF.heap.size, 1, none⟩ = some (.int .i64 B1) := by rw [hW9]; simp [hal, ↓IntWalk.iteOmega]
  have n2 : W9.cell? ⟨wF.heap.size, 2, none⟩ = some (.int .i64 B2) := by rw [hW9]; simp [hal, ↓IntWalk.iteOmega]
  have n3 : W9.cell? ⟨wF.heap.size, 3, none⟩ = some (.int .i64 B3) := by rw [hW9]; simp [hal, ↓IntWalk.iteOmega]
  have fx9 : ∀ i, W9.frozen? ⟨b, i, none⟩ = false := fun i => (h89.frozen (p := ⟨b, i, none⟩) (show b < W8.heap.size by omega)).trans (fx i)
  have fy9 : ∀ i, W9.frozen? ⟨b + 1, i, none⟩ = false := fun i => (h89.frozen (p := ⟨b + 1, i, none⟩) (show b + 1 < W8.heap.size by omega)).trans (fy i)
  have s9 := h89.size
  have bz : b + 1 < W9.heap.size := by omega
  have lE : wE.heap.size < W9.heap.size := World.block_lt_of_cell? _ _ m0
  have lF : wF.heap.size < W9.heap.size := World.block_lt_of_cell? _ _ n0
  have szW := h9.size
  have kE : b + 1 < wE.heap.size := by have := hbE.size; omega
  have kF : b + 1 < wF.heap.size := by have := hbF.size; have := hbE.size; simp at *; omega
  obtain ⟨bE, hbE'⟩ : ∃ z, z = wE.heap.size := ⟨_, rfl⟩
  obtain ⟨bF, hbF'⟩ : ∃ z, z = wF.heap.size := ⟨_, rfl⟩
  rw [← hbE'] at m0 m1 m2 m3 lE kE ⊢
  rw [← hbF'] at n0 n1 n2 n3 lF kF ⊢
  clear hW9 hbE hcE hfE hsE hNE hbF hcF hfF hsF hNF h89 h8 fx fy s8 hal hfal hbE' hbF' Hcw1 Hcw2
  go_cut [9] (fun s9 wx => s9 = .bool (decide (A2 < B0) || decide (B2 < A0) || decide (A3 < B1) || decide (B3 < A1)) ∧ wx = W9)
  case first =>
    by_cases h1 : A2 < B0
    · go_wp2
      go_meet
      exact ⟨congrArg Value.bool (by simp [h1]), rfl⟩
    · by_cases h2 : B2 < A0
      · go_wp2
        go_meet
        exact ⟨congrArg Value.bool (by simp [h1, h2]), rfl⟩
      · by_cases h3 : A3 < B1
        · go_wp2
          go_meet
          exact ⟨congrArg Value.bool (by simp [h1, h2, h3]), rfl⟩
        · go_wp2
          go_meet
          have e1 : decide (A2 < B0) = false := decide_eq_false (by omega)
          have e2 : decide (B2 < A0) = false := decide_eq_false (by omega)
          have e3 : decide (A3 < B1) = false := decide_eq_false (by omega)
          exact ⟨congrArg Value.bool (by rw [e1, e2, e3]; rfl), rfl⟩
  case rest =>
    obtain ⟨rfl, rfl⟩ := hcut
    have hap : (decide (A2 < B0) || decide (B2 < A0) || decide (A3 < B1) || decide (B3 < A1)) = true → f = 1024 := fun h => Hsw.out (by simp only [Bool.or_eq_true, decide_eq_true_eq] at h; omega)
    generalize (decide (A2 < B0) || decide (B2 < A0) || decide (A3 < B1) || decide (B3 < A1)) = β at *
    have hal := alloc_if; have hfal := allocF_if
    go_upto_region 5 with (fail)
    go_cut [51] (fun s51 wx => s51 = .bool false ∧ Below wc.heap.size wc wx)
    case first =>
      cases β
      · go_wp2
        go_meet
        exact ⟨rfl, Below.refl _ _⟩
      · obtain rfl : f = 1024 := hap rfl
        go_wp2_with (first | ((with_reducible refine (Hce.out _ (by (repeat (first | (with_reducible exact Below.refl _ _) | (with_reducible refine Below.drew ?_) | (with_reducible refine below_drewN ?_ _) | (with_reducible refine Below.setCell ?_ (by first | (simp; done) | (simp; omega) | omega) _) | (with_reducible refine Below.alloc ?_ (by first | (simp; done) | (simp; omega) | omega) _) | (with_reducible refine Below.trans ?_ (Below.mono (by assumption) (by first | (simp; done) | (simp; omega) | omega))) | (with_reducible refine Below.trans ?_ (Below.mono (Later.below _) (by first | (simp; done) | (simp; omega) | omega))))))).mono ?_); rintro e wE ⟨rfl, hbE⟩; obtain ⟨NE, hNE, hcE, hfE, hsE⟩ := bcell hbE; (try simp only [World.size_alloc, World.size_setCell, World.size_drew] at hNE)))
        go_meet
        exact ⟨rfl, by (repeat (first | (with_reducible exact Below.refl _ _) | (with_reducible refine Below.drew ?_) | (with_reducible refine below_drewN ?_ _) | (with_reducible refine Below.setCell ?_ (by first | (simp; done) | (simp; omega) | omega) _) | (with_reducible refine Below.alloc ?_ (by first | (simp; done) | (simp; omega) | omega) _) | (with_reducible refine Below.trans ?_ (Below.mono (by assumption) (by first | (simp; done) | (simp; omega) | omega))) | (with_reducible refine Below.trans ?_ (Below.mono (Later.below _) (by first | (simp; done) | (simp; omega) | omega)))))⟩
    case rest =>
      obtain ⟨rfl, hb7⟩ := hcut
      go_upto_region 7 with (fail)
      have x0 := cell_below hb7 x0
      have x1 := cell_below hb7 x1
      have x2 := cell_below hb7 x2
      have x3 := cell_below hb7 x3
      have x4 := cell_below hb7 x4
      have x5 := cell_below hb7 x5
      have y0 := cell_below hb7 y0
      have y1 := cell_below hb7 y1
      have y2 := cell_below hb7 y2
      have y3 := cell_below hb7 y3
      have y4 := cell_below hb7 y4
      have y5 := cell_below hb7 y5
      have m0 := cell_below hb7 m0
      have n0 := cell_below hb7 n0
      have m1 := cell_below hb7 m1
      have n1 := cell_below hb7 n1
      have m2 := cell_below hb7 m2
      have n2 := cell_below hb7 n2
      have m3 := cell_below hb7 m3
      have n3 := cell_below hb7 n3
      have fy7 : ∀ i, wc.frozen? ⟨b + 1, i, none⟩ = false := fun i => (hb7.frozen (p := ⟨b + 1, i, none⟩) bz).trans (fy9 i)
      have h97 := h9.trans (hb7.mono szW)
      have s7 := hb7.size
      have z1 : bE < wc.heap.size := by omega
      have z2 : bF < wc.heap.size := by omega
      have z3 : b + 1 < wc.heap.size := by omega
      have e1 : qx + A2 - B0 + 1 + r = NX := HNX.out.symm
      have e2 : IntKind.i64.wrap (qx + A2 - B0 + 1 + r) = NX := by rw [IntWalk.i64_in _ (by omega)]; exact e1
      clear fy9 h9 hb7 hap Hsw Hce
      have hal := alloc_if; have hfal := allocF_if
      have hst := setCell_if
      refine wp_region_later_tail 15 (by kernel_rfl) (by kernel_rfl) fun NL hL => ?_; obtain ⟨hNL, hlc, hlf⟩ := hL; (try simp only [World.size_alloc, World.size_setCell, World.size_drew] at hNL); simp only [List.take_succ_cons, List.take_zero, List.drop_succ_cons, List.drop_zero]
      repeat (go_big_quiet_step (first | (with_reducible exact later_call (Hcr.out _))))
      (refine wpQuiet_nil ?_; intro w1 hw1; obtain ⟨⟨w1, hb1⟩, rfl⟩ := hw1; clear hlc hlf hNL NL; obtain ⟨N1, hN1, hc1, hf1, hs1⟩ := bcell hb1; (try simp only [World.size_alloc, World.size_setCell, World.size_drew] at hN1))
      have szW7 := h97.size
      by_cases hav : 1048576 < av
      · go_wp2_with (first | ((with_reducible refine (Hca.out _).mono ?_); rintro e wG ⟨rfl, hbG⟩; obtain ⟨NG, hNG, hcG, hfG, hsG⟩ := bcell hbG; (try simp only [World.size_alloc, World.size_setCell, World.size_drew] at hNG)) | ((with_reducible refine (Hlv.out _).mono ?_); rintro e wJ ⟨rfl, hbJ⟩; obtain ⟨NJ, hNJ, hcJ, hfJ, hsJ⟩ := bcell hbJ; (try simp only [World.size_alloc, World.size_setCell, World.size_drew] at hNJ)))
        go_ret
        refine ⟨rfl, hbP.trans (Below.mono (?_ : Below WP.heap.size WP _) szP)⟩
        (repeat (first | (with_reducible exact Below.refl _ _) | (with_reducible refine Below.drew ?_) | (with_reducible refine below_drewN ?_ _) | (with_reducible refine Below.setCell ?_ (by first | (simp; done) | (simp; omega) | omega) _) | (with_reducible refine Below.alloc ?_ (by first | (simp; done) | (simp; omega) | omega) _) | (with_reducible refine Below.trans ?_ (Below.mono (by assumption) (by first | (simp; done) | (simp; omega) | omega))) | (with_reducible refine Below.trans ?_ (Below.mono (Later.below _) (by first | (simp; done) | (simp; omega) | omega)))))
      · have c2 := Hce2.out (Hav.out (by omega))
        have Hc2 := Lib.hid c2; clear c2
        go_wp2_with (first | ((with_reducible refine (Hca.out _).mono ?_); rintro e wG ⟨rfl, hbG⟩; obtain ⟨NG, hNG, hcG, hfG, hsG⟩ := bcell hbG; (try simp only [World.size_alloc, World.size_setCell, World.size_drew] at hNG)) | ((with_reducible refine (Hc2.out _ (by (repeat (first | (with_reducible exact Below.refl _ _) | (with_reducible refine Below.drew ?_) | (with_reducible refine below_drewN ?_ _) | (with_reducible refine Below.setCell ?_ (by first | (simp; done) | (simp; omega) | omega) _) | (with_reducible refine Below.alloc ?_ (by first | (simp; done) | (simp; omega) | omega) _) | (with_reducible refine Below.trans ?_ (Below.mono (by assumption) (by first | (simp; done) | (simp; omega) | omega))) | (with_reducible refine Below.trans ?_ (Below.mono (Later.below _) (by first | (simp; done) | (simp; omega) | omega))))))).mono ?_); rintro e wH ⟨rfl, hbH⟩; obtain ⟨NH, hNH, hcH, hfH, hsH⟩ := bcell hbH; (try simp only [World.size_alloc, World.size_setCell, World.size_drew] at hNH)) | ((with_reducible refine (Hlv.out _).mono ?_); rintro e wJ ⟨rfl, hbJ⟩; obtain ⟨NJ, hNJ, hcJ, hfJ, hsJ⟩ := bcell hbJ; (try simp only [World.size_alloc, World.size_setCell, World.size_drew] at hNJ)))
        go_ret
        refine ⟨rfl, hbP.trans (Below.mono (?_ : Below WP.heap.size WP _) szP)⟩
        (repeat (first | (with_reducible exact Below.refl _ _) | (with_reducible refine Below.drew ?_) | (with_reducible refine below_drewN ?_ _) | (with_reducible refine Below.setCell ?_ (by first | (simp; done) | (simp; omega) | omega) _) | (with_reducible refine Below.alloc ?_ (by first | (simp; done) | (simp; omega) | omega) _) | (with_reducible refine Below.trans ?_ (Below.mono (by assumption) (by first | (simp; done) | (simp; omega) | omega))) | (with_reducible refine Below.trans ?_ (Below.mono (Later.below _) (by first | (simp; done) | (simp; omega) | omega)))))
end Go.Proofs.Ytcgcapfppceggaa.W
