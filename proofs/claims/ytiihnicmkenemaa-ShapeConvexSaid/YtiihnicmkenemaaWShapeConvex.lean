/-
  The walk of the law ShapeConvex: it returns true at every input.
  Conditions: none.
-/
import Derived.Test.YtiihnicmkenemaaShN
import Derived.Test.YtiihnicmkenemaaQe
import Derived.Deep.Cut
import Derived.Deep.CutRange
import Derived.Deep.DeepCutAuto
namespace Go.Proofs.Ytiihnicmkenemaa.W
open Go.RowKit Go.Proofs.Ytiihnicmkenemaa.FxMath Go.Proofs.Ytiihnicmkenemaa.FxA Go.Proofs.Ytiihnicmkenemaa.Qt Go.Proofs.Ytiihnicmkenemaa.Ve Go.Proofs.Ytiihnicmkenemaa.Sh
set_option linter.unusedVariables false
set_option linter.unusedSimpArgs false
/-- A covered point's half way to another one is covered. -/
theorem sct_mid {w : World} {r : Int} {a : Option Addr} {len cap : Nat} {zs : List (Int × Int)} (h : ShAt w r a len cap zs) {P Q R S M N : Int} (h1 : sct r len zs P Q = true) (h2 : sct r len zs R S = true) (hm : 2 * M = P + R) (hn : 2 * N = Q + S) : sct r len zs M N = true := by
  unfold sct at *
  by_cases hl : len = 0
  · rw [if_pos hl] at *
    simp only [decide_eq_true_eq] at *
    exact disc_mid h1 h2 hm hn
  · rw [if_neg hl] at *
    exact cov_mid h1 h2 hm hn
theorem sct_zero {w : World} {r : Int} {a : Option Addr} {len cap : Nat} {zs : List (Int × Int)} (h : ShAt w r a len cap zs) : sct r len zs 0 0 = true := by
  unfold sct
  rcases h.kind with ⟨h0, _⟩ | ⟨_, h1, _, _, hv⟩
  · rw [if_pos h0]
    have := sq0 r
    simp only [decide_eq_true_eq]
    omega
  · rw [if_neg (by omega)]
    exact cov_zero hv
theorem sct_vertex {w : World} {r : Int} {a : Option Addr} {len cap : Nat} {zs : List (Int × Int)} (h : ShAt w r a len cap zs) (k : Nat) (hk : k < len) : sct r len zs (vx zs k) (vy zs k) = true := by
  unfold sct
  rcases h.kind with ⟨h0, _⟩ | ⟨_, h1, _, _, hv⟩
  · omega
  · rw [if_neg (by omega)]
    exact cov_vertex hv k (by rw [h.poly.len]; exact hk)
theorem mid_even (p q : Int) : -1 ≤ (p + q).tmod 2 ∧ (p + q).tmod 2 ≤ 1 ∧ 2 * (p + (q + (p + q).tmod 2)).tdiv 2 = p + (q + (p + q).tmod 2) := by
  have t0 := tmod_abs (p + q) 2 (by decide)
  have t1 := Int.mul_tdiv_add_tmod (p + q) 2
  have t2 := Int.mul_tdiv_add_tmod (p + (q + (p + q).tmod 2)) 2
  have t3 := tmod_abs (p + (q + (p + q).tmod 2)) 2 (by decide)
  generalize (p + (q + (p + q).tmod 2)).tdiv 2 = a at *
  generalize (p + (q + (p + q).tmod 2)).tmod 2 = b at *
  generalize (p + q).tdiv 2 = c at *
  generalize (p + q).tmod 2 = d at *
  omega
set_option maxRecDepth 100000 in
set_option maxHeartbeats 4000000 in
theorem ShapeConvex_walk (a0 a1 a2 a3a a3b a4a a4b : Int) (w : World) (w0 : (Lit.int .i64 a0).wf = true) (w1 : (Lit.int .i64 a1).wf = true) (w2 : (Lit.int .i64 a2).wf = true) (w3a : (Lit.int .i64 a3a).wf = true) (w3b : (Lit.int .i64 a3b).wf = true) (w4a : (Lit.int .i64 a4a).wf = true) (w4b : (Lit.int .i64 a4b).wf = true) :
    Calls Try.prog 4 #[.int .i64 a0, .int .i64 a1, .int .i64 a2, .agg #[.int .i64 a3a, .int .i64 a3b], .agg #[.int .i64 a4a, .int .i64 a4b]] w fun e w' => e = .returned (.bool true) ∧ Below w.heap.size w w' := by
  obtain ⟨x, y, hx0, hx1, hy0, hy1, of⟩ := ofM (a1.tdiv 8) (a2.tdiv 8) (wf_div8 w1) (wf_div8 w2)
  have cs := fun W => shape_any a0 W w0
  obtain ⟨L, hL⟩ : ∃ L, L = (shZ a0).length := ⟨_, rfl⟩
  rw [← hL] at cs
  generalize shR a0 = r at *
  generalize shZ a0 = zs at *
  have q1 := i64_bd (wf_div8 w1)
  have q2 := i64_bd (wf_div8 w2)
  obtain ⟨q1a, q1b⟩ := q1
  obtain ⟨q2a, q2b⟩ := q2
  have Hof := Lib.hid of; have Hcs := Lib.hid cs; have HhL := Lib.hid hL; clear of cs hL
  have hal := alloc_if; have hfal := allocF_if
  go_enter Try.func4, Try.ntmps4
  go_upto_region 3 with (first | ((with_reducible refine (Hcs.out _).mono ?_); rintro e WS ⟨sa, sc, rfl, hs, hbS, hsx⟩; obtain ⟨N0, hN0, hcS, hfS, hsS⟩ := bcell hbS; (try simp only [World.size_alloc, World.size_setCell, World.size_drew] at hN0)) | ((with_reducible refine (Hof.out _).mono ?_); rintro e wA ⟨rfl, hbA⟩; obtain ⟨NA, hNA, hcA, hfA, hsA⟩ := bcell hbA; (try simp only [World.size_alloc, World.size_setCell, World.size_drew] at hNA)))
  have cp := near_s hs a3a a3b w3a w3b
  have cq := near_s hs a4a a4b w4a w4b
  have tp := nr_bd hs a3a a3b
  have tq := nr_bd hs a4a a4b
  obtain ⟨tp0, tp1, tp2, tp3⟩ := tp
  obtain ⟨tq0, tq1, tq2, tq3⟩ := tq
  generalize nrx r L zs a3a = px at *
  generalize nry r L zs a3b = py at *
  generalize nrx r L zs a4a = qx at *
  generalize nry r L zs a4b = qy at *
  have Hcp := Lib.hid cp; have Hcq := Lib.hid cq; clear cp cq
  have hst := setCell_if
  go_upto_region 5 with (first | ((with_reducible refine (Hcp.out _ (by (repeat (first | (with_reducible exact Below.refl _ _) | (with_reducible refine Below.drew ?_) | (with_reducible refine below_drewN ?_ _) | (with_reducible refine Below.setCell ?_ (by first | (simp; done) | (simp; omega) | omega) _) | (with_reducible refine Below.alloc ?_ (by first | (simp; done) | (simp; omega) | omega) _) | (with_reducible refine Below.trans ?_ (Below.mono (by assumption) (by first | (simp; done) | (simp; omega) | omega))) | (with_reducible refine Below.trans ?_ (Below.mono (Later.below _) (by first | (simp; done) | (simp; omega) | omega))))))).mono ?_); rintro e wB ⟨rfl, hbB⟩; obtain ⟨NB, hNB, hcB, hfB, hsB⟩ := bcell hbB; (try simp only [World.size_alloc, World.size_setCell, World.size_drew] at hNB)) | ((with_reducible refine (Hcq.out _ (by (repeat (first | (with_reducible exact Below.refl _ _) | (with_reducible refine Below.drew ?_) | (with_reducible refine below_drewN ?_ _) | (with_reducible refine Below.setCell ?_ (by first | (simp; done) | (simp; omega) | omega) _) | (with_reducible refine Below.alloc ?_ (by first | (simp; done) | (simp; omega) | omega) _) | (with_reducible refine Below.trans ?_ (Below.mono (by assumption) (by first | (simp; done) | (simp; omega) | omega))) | (with_reducible refine Below.trans ?_ (Below.mono (Later.below _) (by first | (simp; done) | (simp; omega) | omega))))))).mono ?_); rintro e wC ⟨rfl, hbC⟩; obtain ⟨NC, hNC, hcC, hfC, hsC⟩ := bcell hbC; (try simp only [World.size_alloc, World.size_setCell, World.size_drew] at hNC)))
  obtain ⟨ex0, ex1, ex2⟩ := mid_even px qx
  obtain ⟨ey0, ey1, ey2⟩ := mid_even py qy
  have Hex := Lib.hid ex2
  have Hey := Lib.hid ey2
  clear ex2 ey2
  go_upto_region 8 with (fail)
  refine name_world fun W hW => ?_
  have hBel : Below WS.heap.size WS W := by rw [hW]; (repeat (first | (with_reducible exact Below.refl _ _) | (with_reducible refine Below.drew ?_) | (with_reducible refine below_drewN ?_ _) | (with_reducible refine Below.setCell ?_ (by first | (simp; done) | (simp; omega) | omega) _) | (with_reducible refine Below.alloc ?_ (by first | (simp; done) | (simp; omega) | omega) _) | (with_reducible refine Below.trans ?_ (Below.mono (by assumption) (by first | (simp; done) | (simp; omega) | omega))) | (with_reducible refine Below.trans ?_ (Below.mono (Later.below _) (by first | (simp; done) | (simp; omega) | omega)))))
  have hBw : Below w.heap.size w W := by rw [hW]; (repeat (first | (with_reducible exact Below.refl _ _) | (with_reducible refine Below.drew ?_) | (with_reducible refine below_drewN ?_ _) | (with_reducible refine Below.setCell ?_ (by first | (simp; done) | (simp; omega) | omega) _) | (with_reducible refine Below.alloc ?_ (by first | (simp; done) | (simp; omega) | omega) _) | (with_reducible refine Below.trans ?_ (Below.mono (by assumption) (by first | (simp; done) | (simp; omega) | omega))) | (with_reducible refine Below.trans ?_ (Below.mono (Later.below _) (by first | (simp; done) | (simp; omega) | omega)))))
  have eS0 : W.cell? ⟨WS.heap.size, 0, none⟩ = some (.int .i64 r) := by rw [hW]; simp [hst, hcA, hcB, hcC, alloc_if, ↓IntWalk.iteOmega]
  have eS1 : W.cell? ⟨WS.heap.size, 1, none⟩ = some (.slice sa L sc) := by rw [hW]; simp [hst, hcA, hcB, hcC, alloc_if, ↓IntWalk.iteOmega]
  have eP0 : W.cell? ⟨wA.heap.size, 0, none⟩ = some (.int .i64 x) := by rw [hW]; simp [hst, hcA, hcB, hcC, alloc_if, ↓IntWalk.iteOmega]
  have eP1 : W.cell? ⟨wA.heap.size, 1, none⟩ = some (.int .i64 y) := by rw [hW]; simp [hst, hcA, hcB, hcC, alloc_if, ↓IntWalk.iteOmega]
  have eX0 : W.cell? ⟨wB.heap.size, 0, none⟩ = some (.int .i64 px) := by rw [hW]; simp [hst, hcB, hcC, alloc_if, ↓IntWalk.iteOmega]
  have eX1 : W.cell? ⟨wB.heap.size, 1, none⟩ = some (.int .i64 py) := by rw [hW]; simp [hst, hcB, hcC, alloc_if, ↓IntWalk.iteOmega]
  have eY0 : W.cell? ⟨wC.heap.size, 0, none⟩ = some (.int .i64 (qx + (px + qx).tmod 2)) := by rw [hW]; simp [hst, hcC, alloc_if, ↓IntWalk.iteOmega]
  have eY1 : W.cell? ⟨wC.heap.size, 1, none⟩ = some (.int .i64 (qy + (py + qy).tmod 2)) := by rw [hW]; simp [hst, hcC, alloc_if, ↓IntWalk.iteOmega]
  have eM0 : W.cell? ⟨wC.heap.size + 1, 0, none⟩ = some (.int .i64 ((px + (qx + (px + qx).tmod 2)).tdiv 2)) := by rw [hW]; simp [hst, alloc_if, ↓IntWalk.iteOmega]
  have eM1 : W.cell? ⟨wC.heap.size + 1, 1, none⟩ = some (.int .i64 ((py + (qy + (py + qy).tmod 2)).tdiv 2)) := by rw [hW]; simp [hst, alloc_if, ↓IntWalk.iteOmega]
  have lM : wC.heap.size + 1 < W.heap.size := World.block_lt_of_cell? _ _ eM0
  have lS : WS.heap.size < W.heap.size := World.block_lt_of_cell? _ _ eS0
  have lP : wA.heap.size < W.heap.size := World.block_lt_of_cell? _ _ eP0
  have lX : wB.heap.size < W.heap.size := World.block_lt_of_cell? _ _ eX0
  clear hW hcA hcB hcC hfA hfB hfC hst hbA hbB hbC hNA hNB hNC hsA hsB hsC Hcp Hcq Hof Hcs hcS hfS hbS hsS hN0
  have hs := hs.later hBel
  clear hBel
  generalize wA.heap.size = bP at *
  generalize wB.heap.size = bX at *
  generalize wC.heap.size = bY at *
  generalize WS.heap.size = bS at *
  have mx2 := Hex.out
  have my2 := Hey.out
  clear Hex Hey
  generalize (px + (qx + (px + qx).tmod 2)).tdiv 2 = mx at *
  generalize (py + (qy + (py + qy).tmod 2)).tdiv 2 = my at *
  generalize (px + qx).tmod 2 = sx at *
  generalize (py + qy).tmod 2 = sy at *
  obtain ⟨ux, hux⟩ : ∃ u, u = qx + sx := ⟨_, rfl⟩
  obtain ⟨uy, huy⟩ : ∃ u, u = qy + sy := ⟨_, rfl⟩
  rw [← hux] at eY0 mx2
  rw [← huy] at eY1 my2
  have ca1 := add_any x y px py (by omega) (by omega) (by omega) (by omega)
  have ca2 := add_any x y ux uy (by omega) (by omega) (by omega) (by omega)
  have ca3 := add_any x y mx my (by omega) (by omega) (by omega) (by omega)
  have ct1 := contains_s hs x y (x + px) (y + py) (by omega) (by omega)
  have ct2 := contains_s hs x y (x + ux) (y + uy) (by omega) (by omega)
  have ct3 := contains_s hs x y (x + mx) (y + my) (by omega) (by omega)
  rw [show x + px - x = px by omega, show y + py - y = py by omega] at ct1
  rw [show x + ux - x = ux by omega, show y + uy - y = uy by omega] at ct2
  rw [show x + mx - x = mx by omega, show y + my - y = my by omega] at ct3
  have hmid : sct r L zs px py = true → sct r L zs ux uy = true → sct r L zs mx my = true := fun h1 h2 => sct_mid hs h1 h2 mx2 my2
  generalize sct r L zs px py = k1 at *
  generalize sct r L zs ux uy = k2 at *
  generalize sct r L zs mx my = k3 at *
  have Hmid := Lib.hid hmid
  clear hmid mx2 my2 hux huy ex0 ex1 ey0 ey1 tp0 tp1 tp2 tp3 tq0 tq1 tq2 tq3
  have Hca1 := Lib.hid ca1; have Hca2 := Lib.hid ca2; have Hca3 := Lib.hid ca3; have Hct1 := Lib.hid ct1; have Hct2 := Lib.hid ct2; have Hct3 := Lib.hid ct3; clear ca1 ca2 ca3 ct1 ct2 ct3
  have hal := alloc_if; have hfal := allocF_if
  go_cut [91] (fun s91 w6 => s91 = .bool false ∧ ∃ hb : Below W.heap.size W w6, True)
  case first =>
    cases k1
    · refine wp_region_later (by kernel_rfl) (by kernel_rfl) fun NL hL => ?_; obtain ⟨hNL, hlc, hlf⟩ := hL; (try simp only [World.size_alloc, World.size_setCell, World.size_drew] at hNL)
      repeat (go_big_quiet_step (first | (with_reducible exact later_call (Hca1.out _)) | (with_reducible exact later_call (Hct1.out _ (by (repeat (first | exact Below.refl _ _ | (with_reducible refine Below.drew ?_) | (with_reducible refine below_drewN ?_ _) | (with_reducible refine Below.setCell ?_ (by first | (simp; done) | (simp; omega) | omega) _) | (with_reducible refine Below.alloc ?_ (by first | (simp; done) | (simp; omega) | omega) _) | (with_reducible refine Below.trans ?_ (Below.mono (by assumption) (by first | (simp; done) | (simp; omega) | omega))) | (with_reducible refine Below.trans ?_ (Below.mono (Later.below _) (by first | (simp; done) | (simp; omega) | omega))))))))))
      (refine wpQuiet_nil ?_; intro w1 hw1; obtain ⟨⟨w1, hb1⟩, rfl⟩ := hw1; clear hlc hlf hNL NL; obtain ⟨N1, hN1, hc1, hf1, hs1⟩ := bcell hb1; (try simp only [World.size_alloc, World.size_setCell, World.size_drew] at hN1))
      go_wp2
      go_meet
      exact ⟨rfl, hb1, trivial⟩
    · cases k2
      · refine wp_region_later (by kernel_rfl) (by kernel_rfl) fun NL hL => ?_; obtain ⟨hNL, hlc, hlf⟩ := hL; (try simp only [World.size_alloc, World.size_setCell, World.size_drew] at hNL)
        repeat (go_big_quiet_step (first | (with_reducible exact later_call (Hca1.out _)) | (with_reducible exact later_call (Hct1.out _ (by (repeat (first | exact Below.refl _ _ | (with_reducible refine Below.drew ?_) | (with_reducible refine below_drewN ?_ _) | (with_reducible refine Below.setCell ?_ (by first | (simp; done) | (simp; omega) | omega) _) | (with_reducible refine Below.alloc ?_ (by first | (simp; done) | (simp; omega) | omega) _) | (with_reducible refine Below.trans ?_ (Below.mono (by assumption) (by first | (simp; done) | (simp; omega) | omega))) | (with_reducible refine Below.trans ?_ (Below.mono (Later.below _) (by first | (simp; done) | (simp; omega) | omega)))))))) | (with_reducible exact later_call (Hca2.out _)) | (with_reducible exact later_call (Hct2.out _ (by (repeat (first | exact Below.refl _ _ | (with_reducible refine Below.drew ?_) | (with_reducible refine below_drewN ?_ _) | (with_reducible refine Below.setCell ?_ (by first | (simp; done) | (simp; omega) | omega) _) | (with_reducible refine Below.alloc ?_ (by first | (simp; done) | (simp; omega) | omega) _) | (with_reducible refine Below.trans ?_ (Below.mono (by assumption) (by first | (simp; done) | (simp; omega) | omega))) | (with_reducible refine Below.trans ?_ (Below.mono (Later.below _) (by first | (simp; done) | (simp; omega) | omega))))))))))
        (refine wpQuiet_nil ?_; intro w1 hw1; obtain ⟨⟨w1, hb1⟩, rfl⟩ := hw1; clear hlc hlf hNL NL; obtain ⟨N1, hN1, hc1, hf1, hs1⟩ := bcell hb1; (try simp only [World.size_alloc, World.size_setCell, World.size_drew] at hN1))
        go_wp2
        go_meet
        exact ⟨rfl, hb1, trivial⟩
      · obtain rfl : k3 = true := Hmid.out rfl rfl
        refine wp_region_later (by kernel_rfl) (by kernel_rfl) fun NL hL => ?_; obtain ⟨hNL, hlc, hlf⟩ := hL; (try simp only [World.size_alloc, World.size_setCell, World.size_drew] at hNL)
        repeat (go_big_quiet_step (first | (with_reducible exact later_call (Hca1.out _)) | (with_reducible exact later_call (Hct1.out _ (by (repeat (first | exact Below.refl _ _ | (with_reducible refine Below.drew ?_) | (with_reducible refine below_drewN ?_ _) | (with_reducible refine Below.setCell ?_ (by first | (simp; done) | (simp; omega) | omega) _) | (with_reducible refine Below.alloc ?_ (by first | (simp; done) | (simp; omega) | omega) _) | (with_reducible refine Below.trans ?_ (Below.mono (by assumption) (by first | (simp; done) | (simp; omega) | omega))) | (with_reducible refine Below.trans ?_ (Below.mono (Later.below _) (by first | (simp; done) | (simp; omega) | omega)))))))) | (with_reducible exact later_call (Hca2.out _)) | (with_reducible exact later_call (Hct2.out _ (by (repeat (first | exact Below.refl _ _ | (with_reducible refine Below.drew ?_) | (with_reducible refine below_drewN ?_ _) | (with_reducible refine Below.setCell ?_ (by first | (simp; done) | (simp; omega) | omega) _) | (with_reducible refine Below.alloc ?_ (by first | (simp; done) | (simp; omega) | omega) _) | (with_reducible refine Below.trans ?_ (Below.mono (by assumption) (by first | (simp; done) | (simp; omega) | omega))) | (with_reducible refine Below.trans ?_ (Below.mono (Later.below _) (by first | (simp; done) | (simp; omega) | omega)))))))) | (with_reducible exact later_call (Hca3.out _)) | (with_reducible exact later_call (Hct3.out _ (by (repeat (first | exact Below.refl _ _ | (with_reducible refine Below.drew ?_) | (with_reducible refine below_drewN ?_ _) | (with_reducible refine Below.setCell ?_ (by first | (simp; done) | (simp; omega) | omega) _) | (with_reducible refine Below.alloc ?_ (by first | (simp; done) | (simp; omega) | omega) _) | (with_reducible refine Below.trans ?_ (Below.mono (by assumption) (by first | (simp; done) | (simp; omega) | omega))) | (with_reducible refine Below.trans ?_ (Below.mono (Later.below _) (by first | (simp; done) | (simp; omega) | omega))))))))))
        (refine wpQuiet_nil ?_; intro w1 hw1; obtain ⟨⟨w1, hb1⟩, rfl⟩ := hw1; clear hlc hlf hNL NL; obtain ⟨N1, hN1, hc1, hf1, hs1⟩ := bcell hb1; (try simp only [World.size_alloc, World.size_setCell, World.size_drew] at hN1))
        go_wp2
        go_meet
        exact ⟨rfl, hb1, trivial⟩
  obtain ⟨rfl, hb6, _⟩ := hcut
  clear Hca1 Hca2 Hca3 Hct1 Hct2 Hct3 Hmid eX0 eX1 eY0 eY1 eM0 eM1 hal hfal
  have f0 := cell_below hb6 eS0
  have f1 := cell_below hb6 eS1
  have f2 := cell_below hb6 eP0
  have f3 := cell_below hb6 eP1
  have s6 := hb6.size
  have hs6 := hs.later hb6
  have hBw6 := hBw.trans (hb6.mono hBw.size)
  clear eS0 eS1 eP0 eP1
  go_wp2
  go_loopw [16] (fun i wr => ∃ k : Nat, k ≤ L ∧ i = .int .i64 k ∧ Below wc.heap.size wc wr) (fun i _ => L - (intOf i).toNat)
  case atStart => exact ⟨0, Nat.zero_le _, rfl, Below.refl _ _⟩
  case round =>
    obtain ⟨k, hk, rfl, hB⟩ := hrel
    have g0 := cell_below hB f0
    have g1 := cell_below hB f1
    have g2 := cell_below hB f2
    have g3 := cell_below hB f3
    have hsr := hs6.later hB
    have sr := hB.size
    by_cases hlt : k < L
    · have hv := sct_vertex hsr k hlt
      have kind := hsr.kind
      rcases kind with ⟨h0, -⟩ | ⟨-, hL3, hL6, hbd, -⟩
      · omega
      have hpoly := hsr.poly
      rcases hpoly with ⟨-, h0, -⟩ | ⟨b, o, rfl, hzl, hle, hcm, hcell⟩
      · omega
      unfold maxLen at hcm
      have v0 := (hcell k hlt).1
      have v1 := (hcell k hlt).2
      have lb := World.block_lt_of_cell? _ _ v0
      simp only at lb
      have hlI : (k : Int) < (L : Int) := by omega
      have hk0 : (0 : Int) ≤ (k : Int) := by omega
      have bk := hbd k
      have ca := add_any x y (vx zs k) (vy zs k) (by omega) (by omega) (by omega) (by omega)
      have ct := contains_s hsr x y (x + vx zs k) (y + vy zs k) (by omega) (by omega)
      rw [show x + vx zs k - x = vx zs k by omega, show y + vy zs k - y = vy zs k by omega, hv] at ct
      have Hca := Lib.hid ca; have Hct := Lib.hid ct; clear ca ct
      have hal := alloc_if; have hfal := allocF_if
      clear hs hs6
      go_wp2
      refine wp_region_later (by kernel_rfl) (by kernel_rfl) fun NL hL => ?_; obtain ⟨hNL, hlc, hlf⟩ := hL; (try simp only [World.size_alloc, World.size_setCell, World.size_drew] at hNL)
      repeat (go_big_quiet_step (first | (with_reducible exact later_call (Hca.out _)) | (with_reducible exact later_call (Hct.out _ (by (repeat (first | exact Below.refl _ _ | (with_reducible refine Below.drew ?_) | (with_reducible refine below_drewN ?_ _) | (with_reducible refine Below.setCell ?_ (by first | (simp; done) | (simp; omega) | omega) _) | (with_reducible refine Below.alloc ?_ (by first | (simp; done) | (simp; omega) | omega) _) | (with_reducible refine Below.trans ?_ (Below.mono (by assumption) (by first | (simp; done) | (simp; omega) | omega))) | (with_reducible refine Below.trans ?_ (Below.mono (Later.below _) (by first | (simp; done) | (simp; omega) | omega))))))))))
      (refine wpQuiet_nil ?_; intro w1 hw1; obtain ⟨⟨w1, hb1⟩, rfl⟩ := hw1; clear hlc hlf hNL NL; obtain ⟨N1, hN1, hc1, hf1, hs1⟩ := bcell hb1; (try simp only [World.size_alloc, World.size_setCell, World.size_drew] at hN1))
      go_wp2
      go_roundw
      case rel => exact ⟨k + 1, by omega, by go_num, hB.trans (hb1.mono sr)⟩
      case measure => simp [intOf]; omega
    · obtain rfl : k = L := by omega
      have ct := contains_s hsr x y x y (by omega) (by omega)
      rw [show x - x = 0 by omega, show y - y = 0 by omega, sct_zero hsr] at ct
      have lv := lives_any
      have Hct := Lib.hid ct; have Hlv := Lib.hid lv; clear ct lv
      have hal := alloc_if; have hfal := allocF_if
      clear hs hs6
      go_wp2_with (first | ((with_reducible refine (Hct.out _ (by (repeat (first | (with_reducible exact Below.refl _ _) | (with_reducible refine Below.drew ?_) | (with_reducible refine below_drewN ?_ _) | (with_reducible refine Below.setCell ?_ (by first | (simp; done) | (simp; omega) | omega) _) | (with_reducible refine Below.alloc ?_ (by first | (simp; done) | (simp; omega) | omega) _) | (with_reducible refine Below.trans ?_ (Below.mono (by assumption) (by first | (simp; done) | (simp; omega) | omega))) | (with_reducible refine Below.trans ?_ (Below.mono (Later.below _) (by first | (simp; done) | (simp; omega) | omega))))))).mono ?_); rintro e wA ⟨rfl, hbA⟩; obtain ⟨NA, hNA, hcA, hfA, hsA⟩ := bcell hbA; (try simp only [World.size_alloc, World.size_setCell, World.size_drew] at hNA)) | ((with_reducible refine (Hlv.out _).mono ?_); rintro e wE ⟨rfl, hbE⟩; obtain ⟨NE, hNE, hcE, hfE, hsE⟩ := bcell hbE; (try simp only [World.size_alloc, World.size_setCell, World.size_drew] at hNE)))
      go_ret
      exact ⟨rfl, (hBw6.trans (hB.mono hBw6.size)).trans (Below.mono (by (repeat (first | (with_reducible exact Below.refl _ _) | (with_reducible refine Below.drew ?_) | (with_reducible refine below_drewN ?_ _) | (with_reducible refine Below.setCell ?_ (by first | (simp; done) | (simp; omega) | omega) _) | (with_reducible refine Below.alloc ?_ (by first | (simp; done) | (simp; omega) | omega) _) | (with_reducible refine Below.trans ?_ (Below.mono (by assumption) (by first | (simp; done) | (simp; omega) | omega))) | (with_reducible refine Below.trans ?_ (Below.mono (Later.below _) (by first | (simp; done) | (simp; omega) | omega)))))) (by have := hBw6.size; omega))⟩
end Go.Proofs.Ytiihnicmkenemaa.W
