/-
  The walk of the law ShapeTranslation: it returns true at every input.
  Conditions: none.
-/
import Derived.Test.YtiihnicmkenemaaShN
import Derived.Test.YtiihnicmkenemaaQe
import Derived.Deep.Cut
import Derived.Deep.CutRange
import Derived.Deep.DeepCutAuto
namespace Go.Proofs.Ytiihnicmkenemaa.W
open Go.RowKit Go.Proofs.Ytiihnicmkenemaa.FxMath Go.Proofs.Ytiihnicmkenemaa.FxA Go.Proofs.Ytiihnicmkenemaa.Qt Go.Proofs.Ytiihnicmkenemaa.Ve Go.Proofs.Ytiihnicmkenemaa.Sh
set_option linter.unusedVariables false
set_option linter.unusedSimpArgs false
set_option maxRecDepth 100000 in
set_option maxHeartbeats 4000000 in
theorem ShapeTranslation_walk (a0 a1 a2 a3 a4 a5 a6 : Int) (w : World) (w0 : (Lit.int .i64 a0).wf = true) (w1 : (Lit.int .i64 a1).wf = true) (w2 : (Lit.int .i64 a2).wf = true) (w3 : (Lit.int .i64 a3).wf = true) (w4 : (Lit.int .i64 a4).wf = true) (w5 : (Lit.int .i64 a5).wf = true) (w6 : (Lit.int .i64 a6).wf = true) :
    Calls Try.prog 8 #[.int .i64 a0, .int .i64 a1, .int .i64 a2, .int .i64 a3, .int .i64 a4, .int .i64 a5, .int .i64 a6] w fun e w' => e = .returned (.bool true) ∧ Below w.heap.size w w' := by
  obtain ⟨x, y, hx0, hx1, hy0, hy1, of⟩ := ofM (a1.tdiv 8) (a2.tdiv 8) (wf_div8 w1) (wf_div8 w2)
  have cs := fun W => shape_any a0 W w0
  obtain ⟨L, hL⟩ : ∃ L, L = (shZ a0).length := ⟨_, rfl⟩
  rw [← hL] at cs
  generalize shR a0 = r at *
  generalize shZ a0 = zs at *
  have cx := axis_any a5 a6 w5 w6
  have gx := bnd_bd a5 720 (by decide)
  have gy := bnd_bd a6 720 (by decide)
  generalize bnd a5 720 = ax at *
  generalize bnd a6 720 = ay at *
  have i3 := i64_bd w3
  have i4 := i64_bd w4
  have cd1 := gives_same (fun w => bound_any a3 1048576 w i3.1 i3.2 (by omega) (by omega))
  have cd2 := gives_same (fun w => bound_any a4 1048576 w i4.1 i4.2 (by omega) (by omega))
  have ci1 := gives_same (fun w => bound_any a3 1000 w i3.1 i3.2 (by omega) (by omega))
  have ci2 := gives_same (fun w => bound_any a4 1000 w i4.1 i4.2 (by omega) (by omega))
  have gd1 := bnd_bd a3 1048576 (by decide)
  have gd2 := bnd_bd a4 1048576 (by decide)
  have gi1 := bnd_bd a3 1000 (by decide)
  have gi2 := bnd_bd a4 1000 (by decide)
  generalize bnd a3 1048576 = dx at *
  generalize bnd a4 1048576 = dy at *
  generalize bnd a3 1000 = si at *
  generalize bnd a4 1000 = sk at *
  obtain ⟨gx0, gx1⟩ := gx
  obtain ⟨gy0, gy1⟩ := gy
  obtain ⟨gd10, gd11⟩ := gd1
  obtain ⟨gd20, gd21⟩ := gd2
  obtain ⟨gi10, gi11⟩ := gi1
  obtain ⟨gi20, gi21⟩ := gi2
  have ct := add_any x y dx dy (by omega) (by omega) (by omega) (by omega)
  have Hcx := Lib.hid cx; have Hcd1 := Lib.hid cd1; have Hcd2 := Lib.hid cd2; have Hci1 := Lib.hid ci1; have Hci2 := Lib.hid ci2; have Hct := Lib.hid ct; clear cx cd1 cd2 ci1 ci2 ct
  clear i3 i4
  have q1 := i64_bd (wf_div8 w1)
  have q2 := i64_bd (wf_div8 w2)
  obtain ⟨q1a, q1b⟩ := q1
  obtain ⟨q2a, q2b⟩ := q2
  have Hof := Lib.hid of; have Hcs := Lib.hid cs; have HhL := Lib.hid hL; clear of cs hL
  have hal := alloc_if; have hfal := allocF_if
  go_enter Try.func8, Try.ntmps8
  go_upto_region 5 with (first | ((with_reducible refine (Hcs.out _).mono ?_); rintro e WS ⟨sa, sc, rfl, hs, hbS, hsx⟩; obtain ⟨N0, hN0, hcS, hfS, hsS⟩ := bcell hbS) | ((with_reducible refine (Hof.out _).mono ?_); rintro e wA ⟨rfl, hbA⟩; obtain ⟨NA, hNA, hcA, hfA, hsA⟩ := bcell hbA; (try simp only [World.size_alloc, World.size_setCell, World.size_drew] at hNA)) | ((with_reducible refine (Hcd1.out _).mono ?_); rintro e wB ⟨rfl, hbB⟩; obtain ⟨NB, hNB, hcB, hfB, hsB⟩ := bcell hbB; (try simp only [World.size_alloc, World.size_setCell, World.size_drew] at hNB)) | ((with_reducible refine (Hcd2.out _).mono ?_); rintro e wC ⟨rfl, hbC⟩; obtain ⟨NC, hNC, hcC, hfC, hsC⟩ := bcell hbC; (try simp only [World.size_alloc, World.size_setCell, World.size_drew] at hNC)) | ((with_reducible refine (Hct.out _).mono ?_); rintro e wD ⟨rfl, hbD⟩; obtain ⟨ND, hND, hcD, hfD, hsD⟩ := bcell hbD; (try simp only [World.size_alloc, World.size_setCell, World.size_drew] at hND)))
  have cn := near_s hs a5 a6 w5 w6
  have bb := box_bd hs 0 0
  have tn := nr_bd hs a5 a6
  obtain ⟨tn0, tn1, tn2, tn3⟩ := tn
  generalize nrx r L zs a5 = px at *
  generalize nry r L zs a6 = py at *
  have ca := add_any x y px py (by omega) (by omega) (by omega) (by omega)
  have Hcn := Lib.hid cn; have Hca := Lib.hid ca; clear cn ca
  clear hcS hfS
  refine wp_region_calm1 6 19 #[.int .i64 0, .int .i64 0] 27 rfl (by kernel_rfl) (by kernel_rfl) (fun o ho ev w => by have ho' := Option.some.inj ho; rw [← ho']; exact rfl) fun NL hL => ?_; obtain ⟨hNL, hlc, hlf⟩ := hL; (try simp only [World.size_alloc, World.size_setCell, World.size_drew] at hNL); simp only [List.take_succ_cons, List.take_zero, List.drop_succ_cons, List.drop_zero]
  repeat ((refine wpCalm_go (fun K hK => ?_); go_simp; (repeat (simp only [↓IntWalk.iteOmega]; (try go_simp)))); first | (refine hK _ ?_; clear hK K) | (apply Exists.intro; refine ⟨fun x => ?_, hK _ ?_⟩; (first | (with_reducible exact calm_call (Hcn.out _ (by (repeat (first | exact Below.refl _ _ | (with_reducible refine Below.drew ?_) | (with_reducible refine below_drewN ?_ _) | (with_reducible refine Below.setCell ?_ (by first | (simp; done) | (simp; omega) | omega) _) | (with_reducible refine Below.alloc ?_ (by first | (simp; done) | (simp; omega) | omega) _) | (with_reducible refine Below.trans ?_ (Below.mono (by assumption) (by first | (simp; done) | (simp; omega) | omega))) | (with_reducible refine Below.trans ?_ (Below.mono (Later.below _) (by first | (simp; done) | (simp; omega) | omega)))))))) | (with_reducible exact calm_call (Hca.out _))); clear hK K))
  (refine wpCalm_nil ?_; intro b1 w1 hb1 hk1 hkf1 hkn1 hks1; (try simp only [World.size_alloc, World.size_setCell, World.size_drew] at hkn1); clear hlc hlf hNL NL; obtain ⟨N1, hN1, hc1, hf1, hs1⟩ := bcell hb1; (try simp only [World.size_alloc, World.size_setCell, World.size_drew] at hN1))
  have hst := setCell_if
  simp only [Act.put, List.setIfInBounds_toArray, List.set_cons_zero, List.set_cons_succ]
  go_upto_region 6 with (fail)
  refine name_world fun W hW => ?_
  have hBel : Below WS.heap.size WS W := by rw [hW]; (repeat (first | (with_reducible exact Below.refl _ _) | (with_reducible refine Below.drew ?_) | (with_reducible refine below_drewN ?_ _) | (with_reducible refine Below.setCell ?_ (by first | (simp; done) | (simp; omega) | omega) _) | (with_reducible refine Below.alloc ?_ (by first | (simp; done) | (simp; omega) | omega) _) | (with_reducible refine Below.trans ?_ (Below.mono (by assumption) (by first | (simp; done) | (simp; omega) | omega))) | (with_reducible refine Below.trans ?_ (Below.mono (Later.below _) (by first | (simp; done) | (simp; omega) | omega)))))
  have hBw : Below w.heap.size w W := by rw [hW]; (repeat (first | (with_reducible exact Below.refl _ _) | (with_reducible refine Below.drew ?_) | (with_reducible refine below_drewN ?_ _) | (with_reducible refine Below.setCell ?_ (by first | (simp; done) | (simp; omega) | omega) _) | (with_reducible refine Below.alloc ?_ (by first | (simp; done) | (simp; omega) | omega) _) | (with_reducible refine Below.trans ?_ (Below.mono (by assumption) (by first | (simp; done) | (simp; omega) | omega))) | (with_reducible refine Below.trans ?_ (Below.mono (Later.below _) (by first | (simp; done) | (simp; omega) | omega)))))
  have eS0 : W.cell? ⟨WS.heap.size, 0, none⟩ = some (.int .i64 r) := by rw [hW]; simp [hst, hcA, hcB, hcC, hcD, hc1, alloc_if, ↓IntWalk.iteOmega]
  have eS1 : W.cell? ⟨WS.heap.size, 1, none⟩ = some (.slice sa L sc) := by rw [hW]; simp [hst, hcA, hcB, hcC, hcD, hc1, alloc_if, ↓IntWalk.iteOmega]
  have eP0 : W.cell? ⟨wA.heap.size, 0, none⟩ = some (.int .i64 x) := by rw [hW]; simp [hst, hcA, hcB, hcC, hcD, hc1, alloc_if, ↓IntWalk.iteOmega]
  have eP1 : W.cell? ⟨wA.heap.size, 1, none⟩ = some (.int .i64 y) := by rw [hW]; simp [hst, hcA, hcB, hcC, hcD, hc1, alloc_if, ↓IntWalk.iteOmega]
  have eD0 : W.cell? ⟨wC.heap.size, 0, none⟩ = some (.int .i64 dx) := by rw [hW]; simp [hst, hcA, hcB, hcC, hcD, hc1, alloc_if, ↓IntWalk.iteOmega]
  have eD1 : W.cell? ⟨wC.heap.size, 1, none⟩ = some (.int .i64 dy) := by rw [hW]; simp [hst, hcA, hcB, hcC, hcD, hc1, alloc_if, ↓IntWalk.iteOmega]
  have eT0 : W.cell? ⟨wD.heap.size, 0, none⟩ = some (.int .i64 (x + dx)) := by rw [hW]; simp [hst, hcA, hcB, hcC, hcD, hc1, alloc_if, ↓IntWalk.iteOmega]
  have eT1 : W.cell? ⟨wD.heap.size, 1, none⟩ = some (.int .i64 (y + dy)) := by rw [hW]; simp [hst, hcA, hcB, hcC, hcD, hc1, alloc_if, ↓IntWalk.iteOmega]
  have eQ0 : W.cell? ⟨b1, 0, none⟩ = some (.int .i64 (x + px)) := by rw [hW]; simp [hst, hk1, alloc_if, ↓IntWalk.iteOmega]
  have eQ1 : W.cell? ⟨b1, 1, none⟩ = some (.int .i64 (y + py)) := by rw [hW]; simp [hst, hk1, alloc_if, ↓IntWalk.iteOmega]
  have lS : WS.heap.size < W.heap.size := World.block_lt_of_cell? _ _ eS0
  have lP : wA.heap.size < W.heap.size := World.block_lt_of_cell? _ _ eP0
  have lD : wC.heap.size < W.heap.size := World.block_lt_of_cell? _ _ eD0
  have lT : wD.heap.size < W.heap.size := World.block_lt_of_cell? _ _ eT0
  have lQ : b1 < W.heap.size := World.block_lt_of_cell? _ _ eQ0
  clear hW hcA hcB hcC hcD hc1 hf1 hfA hfB hfC hfD hk1 hkf1 hst hb1 hbA hbB hbC hbD hNA hNB hNC hND hN1 hs1 hsA hsB hsC hsD Hca Hcn Hof Hcs Hct
  have hs := hs.later hBel
  clear hBel
  generalize wA.heap.size = bP at *
  generalize wC.heap.size = bD at *
  generalize wD.heap.size = bT at *
  generalize WS.heap.size = bS at *
  have bxy := box_bd hs x y
  have c1 := contains_s hs x y (x + px) (y + py) (by omega) (by omega)
  rw [show x + px - x = px by omega, show y + py - y = py by omega] at c1
  have c2 := contains_s hs (x + dx) (y + dy) (x + px + dx) (y + py + dy) (by omega) (by omega)
  rw [show x + px + dx - (x + dx) = px by omega, show y + py + dy - (y + dy) = py by omega] at c2
  have c3 := add_any (x + px) (y + py) dx dy (by omega) (by omega) (by omega) (by omega)
  have c4 := bounds_s hs x y (by omega) (by omega)
  have c5 := bounds_s hs (x + dx) (y + dy) (by omega) (by omega)
  rw [bx0_add, bx1_add, by0_add, by1_add] at c5
  have c6 := project_s hs x y ax ay (by omega) (by omega) (by omega) (by omega)
  have c7 := project_s hs (x + si * 1024) (y + sk * 1024) ax ay (by omega) (by omega) (by omega) (by omega)
  rw [plo_add, phi_add] at c7
  have c8 := add_any x y (si * 1024) (sk * 1024) (by omega) (by omega) (by omega) (by omega)
  have m1 := mul_bd (a := si) (b := ax) (A := 1000) (B := 720) gi10 gi11 gx0 gx1
  have m2 := mul_bd (a := sk) (b := ay) (A := 1000) (B := 720) gi20 gi21 gy0 gy1
  have pb := prj_bd hs x y ax ay (by omega) (by omega) (by omega) (by omega)
  have lv := lives_any
  generalize plo r L zs x y ax ay = lo at *
  generalize phi r L zs x y ax ay = hi at *
  generalize bx0 r L zs x = B0 at *
  generalize by0 r L zs y = B1 at *
  generalize bx1 r L zs x = B2 at *
  generalize by1 r L zs y = B3 at *
  generalize sct r L zs px py = k at *
  obtain ⟨m10, m11⟩ := m1
  obtain ⟨m20, m21⟩ := m2
  have q3 : (lo + (si * ax + sk * ay) - lo == si * ax + sk * ay) = true := by simp; omega
  have q4 : (hi + (si * ax + sk * ay) - hi == si * ax + sk * ay) = true := by simp; omega
  have Hc1 := Lib.hid c1; have Hc2 := Lib.hid c2; have Hc3 := Lib.hid c3; have Hc4 := Lib.hid c4; have Hc5 := Lib.hid c5; have Hc6 := Lib.hid c6; have Hc7 := Lib.hid c7; have Hc8 := Lib.hid c8; have Hlv := Lib.hid lv; clear c1 c2 c3 c4 c5 c6 c7 c8 lv
  clear hs
  have hal := alloc_if; have hfal := allocF_if
  have hst := setCell_if
  refine wp_region_later (by kernel_rfl) (by kernel_rfl) fun NL hL => ?_; obtain ⟨hNL, hlc, hlf⟩ := hL; (try simp only [World.size_alloc, World.size_setCell, World.size_drew] at hNL)
  repeat (go_big_quiet_step (first | (with_reducible exact later_call (Hc1.out _ (by (repeat (first | exact Below.refl _ _ | (with_reducible refine Below.drew ?_) | (with_reducible refine below_drewN ?_ _) | (with_reducible refine Below.setCell ?_ (by first | (simp; done) | (simp; omega) | omega) _) | (with_reducible refine Below.alloc ?_ (by first | (simp; done) | (simp; omega) | omega) _) | (with_reducible refine Below.trans ?_ (Below.mono (by assumption) (by first | (simp; done) | (simp; omega) | omega))) | (with_reducible refine Below.trans ?_ (Below.mono (Later.below _) (by first | (simp; done) | (simp; omega) | omega)))))))) | (with_reducible exact later_call (Hc2.out _ (by (repeat (first | exact Below.refl _ _ | (with_reducible refine Below.drew ?_) | (with_reducible refine below_drewN ?_ _) | (with_reducible refine Below.setCell ?_ (by first | (simp; done) | (simp; omega) | omega) _) | (with_reducible refine Below.alloc ?_ (by first | (simp; done) | (simp; omega) | omega) _) | (with_reducible refine Below.trans ?_ (Below.mono (by assumption) (by first | (simp; done) | (simp; omega) | omega))) | (with_reducible refine Below.trans ?_ (Below.mono (Later.below _) (by first | (simp; done) | (simp; omega) | omega)))))))) | (with_reducible exact later_call (Hc3.out _))))
  (refine wpQuiet_nil ?_; intro w1 hw1; obtain ⟨⟨w1, hb1⟩, rfl⟩ := hw1; clear hlc hlf hNL NL; obtain ⟨N1, hN1, hc1, hf1, hs1⟩ := bcell hb1; (try simp only [World.size_alloc, World.size_setCell, World.size_drew] at hN1))
  go_wp2_with (first | ((with_reducible refine (Hc4.out _ (by (repeat (first | (with_reducible exact Below.refl _ _) | (with_reducible refine Below.drew ?_) | (with_reducible refine below_drewN ?_ _) | (with_reducible refine Below.setCell ?_ (by first | (simp; done) | (simp; omega) | omega) _) | (with_reducible refine Below.alloc ?_ (by first | (simp; done) | (simp; omega) | omega) _) | (with_reducible refine Below.trans ?_ (Below.mono (by assumption) (by first | (simp; done) | (simp; omega) | omega))) | (with_reducible refine Below.trans ?_ (Below.mono (Later.below _) (by first | (simp; done) | (simp; omega) | omega))))))).mono ?_); rintro e wA ⟨rfl, hbA⟩; obtain ⟨NA, hNA, hcA, hfA, hsA⟩ := bcell hbA; (try simp only [World.size_alloc, World.size_setCell, World.size_drew] at hNA)) | ((with_reducible refine (Hc5.out _ (by (repeat (first | (with_reducible exact Below.refl _ _) | (with_reducible refine Below.drew ?_) | (with_reducible refine below_drewN ?_ _) | (with_reducible refine Below.setCell ?_ (by first | (simp; done) | (simp; omega) | omega) _) | (with_reducible refine Below.alloc ?_ (by first | (simp; done) | (simp; omega) | omega) _) | (with_reducible refine Below.trans ?_ (Below.mono (by assumption) (by first | (simp; done) | (simp; omega) | omega))) | (with_reducible refine Below.trans ?_ (Below.mono (Later.below _) (by first | (simp; done) | (simp; omega) | omega))))))).mono ?_); rintro e wB ⟨rfl, hbB⟩; obtain ⟨NB, hNB, hcB, hfB, hsB⟩ := bcell hbB; (try simp only [World.size_alloc, World.size_setCell, World.size_drew] at hNB)) | ((with_reducible refine (Hci1.out _).mono ?_); rintro e wC ⟨rfl, hbC⟩; obtain ⟨NC, hNC, hcC, hfC, hsC⟩ := bcell hbC; (try simp only [World.size_alloc, World.size_setCell, World.size_drew] at hNC)) | ((with_reducible refine (Hci2.out _).mono ?_); rintro e wD ⟨rfl, hbD⟩; obtain ⟨ND, hND, hcD, hfD, hsD⟩ := bcell hbD; (try simp only [World.size_alloc, World.size_setCell, World.size_drew] at hND)) | ((with_reducible refine (Hcx.out _).mono ?_); rintro e wE ⟨rfl, hbE⟩; obtain ⟨NE, hNE, hcE, hfE, hsE⟩ := bcell hbE; (try simp only [World.size_alloc, World.size_setCell, World.size_drew] at hNE)) | ((with_reducible refine (Hc6.out _ (by (repeat (first | (with_reducible exact Below.refl _ _) | (with_reducible refine Below.drew ?_) | (with_reducible refine below_drewN ?_ _) | (with_reducible refine Below.setCell ?_ (by first | (simp; done) | (simp; omega) | omega) _) | (with_reducible refine Below.alloc ?_ (by first | (simp; done) | (simp; omega) | omega) _) | (with_reducible refine Below.trans ?_ (Below.mono (by assumption) (by first | (simp; done) | (simp; omega) | omega))) | (with_reducible refine Below.trans ?_ (Below.mono (Later.below _) (by first | (simp; done) | (simp; omega) | omega))))))).mono ?_); rintro e wF ⟨rfl, hbF⟩; obtain ⟨NF, hNF, hcF, hfF, hsF⟩ := bcell hbF; (try simp only [World.size_alloc, World.size_setCell, World.size_drew] at hNF)))
  refine wp_region_later (by kernel_rfl) (by kernel_rfl) fun NL hL => ?_; obtain ⟨hNL, hlc, hlf⟩ := hL; (try simp only [World.size_alloc, World.size_setCell, World.size_drew] at hNL)
  repeat (go_big_quiet_step (first | (with_reducible exact later_call (Hc7.out _ (by (repeat (first | exact Below.refl _ _ | (with_reducible refine Below.drew ?_) | (with_reducible refine below_drewN ?_ _) | (with_reducible refine Below.setCell ?_ (by first | (simp; done) | (simp; omega) | omega) _) | (with_reducible refine Below.alloc ?_ (by first | (simp; done) | (simp; omega) | omega) _) | (with_reducible refine Below.trans ?_ (Below.mono (by assumption) (by first | (simp; done) | (simp; omega) | omega))) | (with_reducible refine Below.trans ?_ (Below.mono (Later.below _) (by first | (simp; done) | (simp; omega) | omega)))))))) | (with_reducible exact later_call (Hc8.out _))))
  (refine wpQuiet_nil ?_; intro w1 hw1; obtain ⟨⟨w1, hb1⟩, rfl⟩ := hw1; clear hlc hlf hNL NL; obtain ⟨N1, hN1, hc1, hf1, hs1⟩ := bcell hb1; (try simp only [World.size_alloc, World.size_setCell, World.size_drew] at hN1))
  go_wp2_with (first | ((with_reducible refine (Hlv.out _).mono ?_); rintro e wG ⟨rfl, hbG⟩; obtain ⟨NG, hNG, hcG, hfG, hsG⟩ := bcell hbG; (try simp only [World.size_alloc, World.size_setCell, World.size_drew] at hNG)))
  go_ret
  exact ⟨rfl, by (repeat (first | (with_reducible exact Below.refl _ _) | (with_reducible refine Below.drew ?_) | (with_reducible refine below_drewN ?_ _) | (with_reducible refine Below.setCell ?_ (by first | (simp; done) | (simp; omega) | omega) _) | (with_reducible refine Below.alloc ?_ (by first | (simp; done) | (simp; omega) | omega) _) | (with_reducible refine Below.trans ?_ (Below.mono (by assumption) (by first | (simp; done) | (simp; omega) | omega))) | (with_reducible refine Below.trans ?_ (Below.mono (Later.below _) (by first | (simp; done) | (simp; omega) | omega)))))⟩
end Go.Proofs.Ytiihnicmkenemaa.W
