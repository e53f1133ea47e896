/-
  The walk of the law ShapeProjection: it returns true at every input.
  Conditions: none.
-/
import Derived.Test.YtiihnicmkenemaaShN
import Derived.Test.YtiihnicmkenemaaQe
import Derived.Deep.Cut
import Derived.Deep.CutRange
import Derived.Deep.DeepCutAuto
namespace Go.Proofs.Ytiihnicmkenemaa.W
open Go.RowKit Go.Proofs.Ytiihnicmkenemaa.FxMath Go.Proofs.Ytiihnicmkenemaa.FxA Go.Proofs.Ytiihnicmkenemaa.Qt Go.Proofs.Ytiihnicmkenemaa.Ve Go.Proofs.Ytiihnicmkenemaa.Sh
set_option linter.unusedVariables false
set_option linter.unusedSimpArgs false
set_option maxRecDepth 100000 in
set_option maxHeartbeats 4000000 in
theorem ShapeProjection_walk (a0 a1 a2 a3 a4 a5 a6 : Int) (w : World) (w0 : (Lit.int .i64 a0).wf = true) (w1 : (Lit.int .i64 a1).wf = true) (w2 : (Lit.int .i64 a2).wf = true) (w3 : (Lit.int .i64 a3).wf = true) (w4 : (Lit.int .i64 a4).wf = true) (w5 : (Lit.int .i64 a5).wf = true) (w6 : (Lit.int .i64 a6).wf = true) :
    Calls Try.prog 7 #[.int .i64 a0, .int .i64 a1, .int .i64 a2, .int .i64 a3, .int .i64 a4, .int .i64 a5, .int .i64 a6] w fun e w' => e = .returned (.bool true) ∧ Below w.heap.size w w' := by
  obtain ⟨x, y, hx0, hx1, hy0, hy1, of⟩ := ofM (a1.tdiv 8) (a2.tdiv 8) (wf_div8 w1) (wf_div8 w2)
  have cs := fun W => shape_any a0 W w0
  obtain ⟨L, hL⟩ : ∃ L, L = (shZ a0).length := ⟨_, rfl⟩
  rw [← hL] at cs
  generalize shR a0 = r at *
  generalize shZ a0 = zs at *
  obtain ⟨ux, uy, hux0, hux1, huy0, huy1, o2⟩ := ofM a3 a4 w3 w4
  have cx := axis_any a3 a4 w3 w4
  have gx := bnd_bd a3 720 (by decide)
  have gy := bnd_bd a4 720 (by decide)
  generalize bnd a3 720 = ax at *
  generalize bnd a4 720 = ay at *
  have Ho2 := Lib.hid o2; have Hcx := Lib.hid cx; clear o2 cx
  have q1 := i64_bd (wf_div8 w1)
  have q2 := i64_bd (wf_div8 w2)
  obtain ⟨q1a, q1b⟩ := q1
  obtain ⟨q2a, q2b⟩ := q2
  have Hof := Lib.hid of; have Hcs := Lib.hid cs; have HhL := Lib.hid hL; clear of cs hL
  have hal := alloc_if; have hfal := allocF_if
  go_enter Try.func7, Try.ntmps7
  go_upto_region 3 with (first | ((with_reducible refine (Hcs.out _).mono ?_); rintro e WS ⟨sa, sc, rfl, hs, hbS, hsx⟩; obtain ⟨N0, hN0, hcS, hfS, hsS⟩ := bcell hbS) | ((with_reducible refine (Hof.out _).mono ?_); rintro e wA ⟨rfl, hbA⟩; obtain ⟨NA, hNA, hcA, hfA, hsA⟩ := bcell hbA; (try simp only [World.size_alloc, World.size_setCell, World.size_drew] at hNA)))
  have cn := near_s hs a5 a6 w5 w6
  have bb := box_bd hs 0 0
  have tn := nr_bd hs a5 a6
  obtain ⟨tn0, tn1, tn2, tn3⟩ := tn
  generalize nrx r L zs a5 = px at *
  generalize nry r L zs a6 = py at *
  have ca := add_any x y px py (by omega) (by omega) (by omega) (by omega)
  have Hcn := Lib.hid cn; have Hca := Lib.hid ca; clear cn ca
  clear hcS hfS
  refine wp_region_calm1 6 17 #[.int .i64 0, .int .i64 0] 27 rfl (by kernel_rfl) (by kernel_rfl) (fun o ho ev w => by have ho' := Option.some.inj ho; rw [← ho']; exact rfl) fun NL hL => ?_; obtain ⟨hNL, hlc, hlf⟩ := hL; (try simp only [World.size_alloc, World.size_setCell, World.size_drew] at hNL); simp only [List.take_succ_cons, List.take_zero, List.drop_succ_cons, List.drop_zero]
  repeat ((refine wpCalm_go (fun K hK => ?_); go_simp; (repeat (simp only [↓IntWalk.iteOmega]; (try go_simp)))); first | (refine hK _ ?_; clear hK K) | (apply Exists.intro; refine ⟨fun x => ?_, hK _ ?_⟩; (first | (with_reducible exact calm_call (Hcn.out _ (by (repeat (first | exact Below.refl _ _ | (with_reducible refine Below.drew ?_) | (with_reducible refine below_drewN ?_ _) | (with_reducible refine Below.setCell ?_ (by first | (simp; done) | (simp; omega) | omega) _) | (with_reducible refine Below.alloc ?_ (by first | (simp; done) | (simp; omega) | omega) _) | (with_reducible refine Below.trans ?_ (Below.mono (by assumption) (by first | (simp; done) | (simp; omega) | omega))) | (with_reducible refine Below.trans ?_ (Below.mono (Later.below _) (by first | (simp; done) | (simp; omega) | omega)))))))) | (with_reducible exact calm_call (Hca.out _))); clear hK K))
  (refine wpCalm_nil ?_; intro b1 w1 hb1 hk1 hkf1 hkn1 hks1; (try simp only [World.size_alloc, World.size_setCell, World.size_drew] at hkn1); clear hlc hlf hNL NL; obtain ⟨N1, hN1, hc1, hf1, hs1⟩ := bcell hb1; (try simp only [World.size_alloc, World.size_setCell, World.size_drew] at hN1))
  have hst := setCell_if
  simp only [Act.put, List.setIfInBounds_toArray, List.set_cons_zero, List.set_cons_succ]
  go_upto_region 4 with (fail)
  refine name_world fun W hW => ?_
  have hBel : Below WS.heap.size WS W := by rw [hW]; (repeat (first | (with_reducible exact Below.refl _ _) | (with_reducible refine Below.drew ?_) | (with_reducible refine below_drewN ?_ _) | (with_reducible refine Below.setCell ?_ (by first | (simp; done) | (simp; omega) | omega) _) | (with_reducible refine Below.alloc ?_ (by first | (simp; done) | (simp; omega) | omega) _) | (with_reducible refine Below.trans ?_ (Below.mono (by assumption) (by first | (simp; done) | (simp; omega) | omega))) | (with_reducible refine Below.trans ?_ (Below.mono (Later.below _) (by first | (simp; done) | (simp; omega) | omega)))))
  have hBw : Below w.heap.size w W := by rw [hW]; (repeat (first | (with_reducible exact Below.refl _ _) | (with_reducible refine Below.drew ?_) | (with_reducible refine below_drewN ?_ _) | (with_reducible refine Below.setCell ?_ (by first | (simp; done) | (simp; omega) | omega) _) | (with_reducible refine Below.alloc ?_ (by first | (simp; done) | (simp; omega) | omega) _) | (with_reducible refine Below.trans ?_ (Below.mono (by assumption) (by first | (simp; done) | (simp; omega) | omega))) | (with_reducible refine Below.trans ?_ (Below.mono (Later.below _) (by first | (simp; done) | (simp; omega) | omega)))))
  have eS0 : W.cell? ⟨WS.heap.size, 0, none⟩ = some (.int .i64 r) := by rw [hW]; simp [hst, hcA, hc1, alloc_if, ↓IntWalk.iteOmega]
  have eS1 : W.cell? ⟨WS.heap.size, 1, none⟩ = some (.slice sa L sc) := by rw [hW]; simp [hst, hcA, hc1, alloc_if, ↓IntWalk.iteOmega]
  have eP0 : W.cell? ⟨wA.heap.size, 0, none⟩ = some (.int .i64 x) := by rw [hW]; simp [hst, hcA, hc1, alloc_if, ↓IntWalk.iteOmega]
  have eP1 : W.cell? ⟨wA.heap.size, 1, none⟩ = some (.int .i64 y) := by rw [hW]; simp [hst, hcA, hc1, alloc_if, ↓IntWalk.iteOmega]
  have eQ0 : W.cell? ⟨b1, 0, none⟩ = some (.int .i64 (x + px)) := by rw [hW]; simp [hst, hk1, alloc_if, ↓IntWalk.iteOmega]
  have eQ1 : W.cell? ⟨b1, 1, none⟩ = some (.int .i64 (y + py)) := by rw [hW]; simp [hst, hk1, alloc_if, ↓IntWalk.iteOmega]
  have lS : WS.heap.size < W.heap.size := World.block_lt_of_cell? _ _ eS0
  have lP : wA.heap.size < W.heap.size := World.block_lt_of_cell? _ _ eP0
  have lQ : b1 < W.heap.size := World.block_lt_of_cell? _ _ eQ0
  clear hW hcA hc1 hf1 hfA hk1 hkf1 hst hb1 hbA hNA hN1 hs1 hsA Hca Hcn Hof Hcs
  have hs := hs.later hBel
  clear hBel
  generalize wA.heap.size = bP at *
  generalize WS.heap.size = bS at *
  have c1 := contains_s hs x y (x + px) (y + py) (by omega) (by omega)
  rw [show x + px - x = px by omega, show y + py - y = py by omega] at c1
  have c2 := project_s hs x y ax ay (by omega) (by omega) (by omega) (by omega)
  have c3 := project_s hs x y ux uy (by omega) (by omega) (by omega) (by omega)
  have m1 := mul_bd (a := x + px) (b := ax) (A := 10000000) (B := 10000000) (by omega) (by omega) (by omega) (by omega)
  have m2 := mul_bd (a := y + py) (b := ay) (A := 10000000) (B := 10000000) (by omega) (by omega) (by omega) (by omega)
  have m3 := mul_bd (a := x + px) (b := ux) (A := 10000000) (B := 10000000) (by omega) (by omega) (by omega) (by omega)
  have m4 := mul_bd (a := y + py) (b := uy) (A := 10000000) (B := 10000000) (by omega) (by omega) (by omega) (by omega)
  have c4 := dot_any (x + px) (y + py) ax ay (by omega) (by omega) (by omega) (by omega)
  have c5 := dot_any (x + px) (y + py) ux uy (by omega) (by omega) (by omega) (by omega)
  have p1 := sct_prj hs x y px py ax ay (.inl ⟨gx.1, gx.2, gy.1, gy.2⟩)
  have p2 := fun (h : 0 < L) => sct_prj hs x y px py ux uy (.inr h)
  have lv := lives_any
  generalize ((x + px) * ax + (y + py) * ay) / 1024 = d at *
  generalize ((x + px) * ux + (y + py) * uy) / 1024 = f at *
  generalize plo r L zs x y ax ay = lo at *
  generalize phi r L zs x y ax ay = hi at *
  generalize plo r L zs x y ux uy = lo2 at *
  generalize phi r L zs x y ux uy = hi2 at *
  generalize sct r L zs px py = k at *
  have Hc1 := Lib.hid c1; have Hc2 := Lib.hid c2; have Hc3 := Lib.hid c3; have Hc4 := Lib.hid c4; have Hc5 := Lib.hid c5; have Hlv := Lib.hid lv; clear c1 c2 c3 c4 c5 lv
  clear m1 m2 m3 m4 hs
  have hal := alloc_if; have hfal := allocF_if
  have hst := setCell_if
  cases k
  · clear p1 p2
    go_wp2_with (first | ((with_reducible refine (Hc1.out _ (by (repeat (first | (with_reducible exact Below.refl _ _) | (with_reducible refine Below.drew ?_) | (with_reducible refine below_drewN ?_ _) | (with_reducible refine Below.setCell ?_ (by first | (simp; done) | (simp; omega) | omega) _) | (with_reducible refine Below.alloc ?_ (by first | (simp; done) | (simp; omega) | omega) _) | (with_reducible refine Below.trans ?_ (Below.mono (by assumption) (by first | (simp; done) | (simp; omega) | omega))) | (with_reducible refine Below.trans ?_ (Below.mono (Later.below _) (by first | (simp; done) | (simp; omega) | omega))))))).mono ?_); rintro e wA ⟨rfl, hbA⟩; obtain ⟨NA, hNA, hcA, hfA, hsA⟩ := bcell hbA; (try simp only [World.size_alloc, World.size_setCell, World.size_drew] at hNA)) | ((with_reducible refine (Hlv.out _).mono ?_); rintro e wB ⟨rfl, hbB⟩; obtain ⟨NB, hNB, hcB, hfB, hsB⟩ := bcell hbB; (try simp only [World.size_alloc, World.size_setCell, World.size_drew] at hNB)))
    go_ret
    exact ⟨rfl, by (repeat (first | (with_reducible exact Below.refl _ _) | (with_reducible refine Below.drew ?_) | (with_reducible refine below_drewN ?_ _) | (with_reducible refine Below.setCell ?_ (by first | (simp; done) | (simp; omega) | omega) _) | (with_reducible refine Below.alloc ?_ (by first | (simp; done) | (simp; omega) | omega) _) | (with_reducible refine Below.trans ?_ (Below.mono (by assumption) (by first | (simp; done) | (simp; omega) | omega))) | (with_reducible refine Below.trans ?_ (Below.mono (Later.below _) (by first | (simp; done) | (simp; omega) | omega)))))⟩
  · obtain ⟨p1a, p1b⟩ := p1 rfl
    clear p1
    by_cases hL0 : L = 0
    · have hLb : ((L : Int) == 0) = true := by simp [hL0]
      subst hL0
      clear p2
      go_wp2_with (first | ((with_reducible refine (Hc1.out _ (by (repeat (first | (with_reducible exact Below.refl _ _) | (with_reducible refine Below.drew ?_) | (with_reducible refine below_drewN ?_ _) | (with_reducible refine Below.setCell ?_ (by first | (simp; done) | (simp; omega) | omega) _) | (with_reducible refine Below.alloc ?_ (by first | (simp; done) | (simp; omega) | omega) _) | (with_reducible refine Below.trans ?_ (Below.mono (by assumption) (by first | (simp; done) | (simp; omega) | omega))) | (with_reducible refine Below.trans ?_ (Below.mono (Later.below _) (by first | (simp; done) | (simp; omega) | omega))))))).mono ?_); rintro e wA ⟨rfl, hbA⟩; obtain ⟨NA, hNA, hcA, hfA, hsA⟩ := bcell hbA; (try simp only [World.size_alloc, World.size_setCell, World.size_drew] at hNA)) | ((with_reducible refine (Hlv.out _).mono ?_); rintro e wB ⟨rfl, hbB⟩; obtain ⟨NB, hNB, hcB, hfB, hsB⟩ := bcell hbB; (try simp only [World.size_alloc, World.size_setCell, World.size_drew] at hNB)) | ((with_reducible refine (Hcx.out _).mono ?_); rintro e wC ⟨rfl, hbC⟩; obtain ⟨NC, hNC, hcC, hfC, hsC⟩ := bcell hbC; (try simp only [World.size_alloc, World.size_setCell, World.size_drew] at hNC)) | ((with_reducible refine (Hc2.out _ (by (repeat (first | (with_reducible exact Below.refl _ _) | (with_reducible refine Below.drew ?_) | (with_reducible refine below_drewN ?_ _) | (with_reducible refine Below.setCell ?_ (by first | (simp; done) | (simp; omega) | omega) _) | (with_reducible refine Below.alloc ?_ (by first | (simp; done) | (simp; omega) | omega) _) | (with_reducible refine Below.trans ?_ (Below.mono (by assumption) (by first | (simp; done) | (simp; omega) | omega))) | (with_reducible refine Below.trans ?_ (Below.mono (Later.below _) (by first | (simp; done) | (simp; omega) | omega))))))).mono ?_); rintro e wD ⟨rfl, hbD⟩; obtain ⟨ND, hND, hcD, hfD, hsD⟩ := bcell hbD; (try simp only [World.size_alloc, World.size_setCell, World.size_drew] at hND)) | ((with_reducible refine (Hc4.out _).mono ?_); rintro e wE ⟨rfl, hbE⟩; obtain ⟨NE, hNE, hcE, hfE, hsE⟩ := bcell hbE; (try simp only [World.size_alloc, World.size_setCell, World.size_drew] at hNE)))
      go_ret
      exact ⟨rfl, by (repeat (first | (with_reducible exact Below.refl _ _) | (with_reducible refine Below.drew ?_) | (with_reducible refine below_drewN ?_ _) | (with_reducible refine Below.setCell ?_ (by first | (simp; done) | (simp; omega) | omega) _) | (with_reducible refine Below.alloc ?_ (by first | (simp; done) | (simp; omega) | omega) _) | (with_reducible refine Below.trans ?_ (Below.mono (by assumption) (by first | (simp; done) | (simp; omega) | omega))) | (with_reducible refine Below.trans ?_ (Below.mono (Later.below _) (by first | (simp; done) | (simp; omega) | omega)))))⟩
    · obtain ⟨p2a, p2b⟩ := p2 (by omega) rfl
      have hLI : (0 : Int) < (L : Int) := by omega
      clear p2 hL0
      go_wp2_with (first | ((with_reducible refine (Hc1.out _ (by (repeat (first | (with_reducible exact Below.refl _ _) | (with_reducible refine Below.drew ?_) | (with_reducible refine below_drewN ?_ _) | (with_reducible refine Below.setCell ?_ (by first | (simp; done) | (simp; omega) | omega) _) | (with_reducible refine Below.alloc ?_ (by first | (simp; done) | (simp; omega) | omega) _) | (with_reducible refine Below.trans ?_ (Below.mono (by assumption) (by first | (simp; done) | (simp; omega) | omega))) | (with_reducible refine Below.trans ?_ (Below.mono (Later.below _) (by first | (simp; done) | (simp; omega) | omega))))))).mono ?_); rintro e wA ⟨rfl, hbA⟩; obtain ⟨NA, hNA, hcA, hfA, hsA⟩ := bcell hbA; (try simp only [World.size_alloc, World.size_setCell, World.size_drew] at hNA)) | ((with_reducible refine (Hlv.out _).mono ?_); rintro e wB ⟨rfl, hbB⟩; obtain ⟨NB, hNB, hcB, hfB, hsB⟩ := bcell hbB; (try simp only [World.size_alloc, World.size_setCell, World.size_drew] at hNB)) | ((with_reducible refine (Hcx.out _).mono ?_); rintro e wC ⟨rfl, hbC⟩; obtain ⟨NC, hNC, hcC, hfC, hsC⟩ := bcell hbC; (try simp only [World.size_alloc, World.size_setCell, World.size_drew] at hNC)) | ((with_reducible refine (Hc2.out _ (by (repeat (first | (with_reducible exact Below.refl _ _) | (with_reducible refine Below.drew ?_) | (with_reducible refine below_drewN ?_ _) | (with_reducible refine Below.setCell ?_ (by first | (simp; done) | (simp; omega) | omega) _) | (with_reducible refine Below.alloc ?_ (by first | (simp; done) | (simp; omega) | omega) _) | (with_reducible refine Below.trans ?_ (Below.mono (by assumption) (by first | (simp; done) | (simp; omega) | omega))) | (with_reducible refine Below.trans ?_ (Below.mono (Later.below _) (by first | (simp; done) | (simp; omega) | omega))))))).mono ?_); rintro e wD ⟨rfl, hbD⟩; obtain ⟨ND, hND, hcD, hfD, hsD⟩ := bcell hbD; (try simp only [World.size_alloc, World.size_setCell, World.size_drew] at hND)) | ((with_reducible refine (Hc4.out _).mono ?_); rintro e wE ⟨rfl, hbE⟩; obtain ⟨NE, hNE, hcE, hfE, hsE⟩ := bcell hbE; (try simp only [World.size_alloc, World.size_setCell, World.size_drew] at hNE)) | ((with_reducible refine (Ho2.out _).mono ?_); rintro e wF ⟨rfl, hbF⟩; obtain ⟨NF, hNF, hcF, hfF, hsF⟩ := bcell hbF; (try simp only [World.size_alloc, World.size_setCell, World.size_drew] at hNF)) | ((with_reducible refine (Hc3.out _ (by (repeat (first | (with_reducible exact Below.refl _ _) | (with_reducible refine Below.drew ?_) | (with_reducible refine below_drewN ?_ _) | (with_reducible refine Below.setCell ?_ (by first | (simp; done) | (simp; omega) | omega) _) | (with_reducible refine Below.alloc ?_ (by first | (simp; done) | (simp; omega) | omega) _) | (with_reducible refine Below.trans ?_ (Below.mono (by assumption) (by first | (simp; done) | (simp; omega) | omega))) | (with_reducible refine Below.trans ?_ (Below.mono (Later.below _) (by first | (simp; done) | (simp; omega) | omega))))))).mono ?_); rintro e wG ⟨rfl, hbG⟩; obtain ⟨NG, hNG, hcG, hfG, hsG⟩ := bcell hbG; (try simp only [World.size_alloc, World.size_setCell, World.size_drew] at hNG)) | ((with_reducible refine (Hc5.out _).mono ?_); rintro e wH ⟨rfl, hbH⟩; obtain ⟨NH, hNH, hcH, hfH, hsH⟩ := bcell hbH; (try simp only [World.size_alloc, World.size_setCell, World.size_drew] at hNH)))
      go_ret
      exact ⟨rfl, by (repeat (first | (with_reducible exact Below.refl _ _) | (with_reducible refine Below.drew ?_) | (with_reducible refine below_drewN ?_ _) | (with_reducible refine Below.setCell ?_ (by first | (simp; done) | (simp; omega) | omega) _) | (with_reducible refine Below.alloc ?_ (by first | (simp; done) | (simp; omega) | omega) _) | (with_reducible refine Below.trans ?_ (Below.mono (by assumption) (by first | (simp; done) | (simp; omega) | omega))) | (with_reducible refine Below.trans ?_ (Below.mono (Later.below _) (by first | (simp; done) | (simp; omega) | omega)))))⟩
end Go.Proofs.Ytiihnicmkenemaa.W
