/-
  The walk of the law ShapeFirstVertex: it returns true at every input.
  Conditions: none.
-/
import Derived.Test.YtiihnicmkenemaaShN
import Derived.Test.YtiihnicmkenemaaShT
import Derived.Test.YtiihnicmkenemaaQe
import Derived.Deep.Cut
import Derived.Deep.CutRange
import Derived.Deep.DeepCutAuto
namespace Go.Proofs.Ytiihnicmkenemaa.W
open Go.RowKit Go.Proofs.Ytiihnicmkenemaa.FxMath Go.Proofs.Ytiihnicmkenemaa.FxA Go.Proofs.Ytiihnicmkenemaa.Qt Go.Proofs.Ytiihnicmkenemaa.Ve Go.Proofs.Ytiihnicmkenemaa.Sh
set_option linter.unusedVariables false
set_option linter.unusedSimpArgs false
/-- The last j vertices, the last one first. -/
def bck (zs : List (Int × Int)) (j : Nat) : List (Int × Int) := (List.range j).map fun i => (vx zs (zs.length - 1 - i), vy zs (zs.length - 1 - i))
theorem bck_length (zs : List (Int × Int)) (j : Nat) : (bck zs j).length = j := by simp [bck]
theorem bck_at (zs : List (Int × Int)) (j i : Nat) (h : i < j) : vx (bck zs j) i = vx zs (zs.length - 1 - i) ∧ vy (bck zs j) i = vy zs (zs.length - 1 - i) := by
  constructor
  · show (List.getD _ i (0, 0)).1 = _
    unfold bck
    rw [List.getD_eq_getElem?_getD, List.getElem?_map, List.getElem?_range h]
    rfl
  · show (List.getD _ i (0, 0)).2 = _
    unfold bck
    rw [List.getD_eq_getElem?_getD, List.getElem?_map, List.getElem?_range h]
    rfl
theorem bck_bd {zs : List (Int × Int)} {B : Int} (h : Bd zs B) (hB : 0 ≤ B) (j : Nat) : Bd (bck zs j) B := by
  intro i
  by_cases hi : i < j
  · rw [(bck_at zs j i hi).1, (bck_at zs j i hi).2]; exact h _
  · have : vx (bck zs j) i = 0 ∧ vy (bck zs j) i = 0 := by
      unfold vx vy
      rw [List.getD_eq_getElem?_getD, List.getElem?_eq_none (by rw [bck_length]; omega)]
      exact ⟨rfl, rfl⟩
    omega
theorem bck_flat (zs : List (Int × Int)) (j : Nat) : flat (bck zs (j + 1)) = flat (bck zs j) ++ [.int .i64 (vx zs (zs.length - 1 - j)), .int .i64 (vy zs (zs.length - 1 - j))] := by
  unfold bck
  rw [List.range_succ, List.map_append, flat_append]
  rfl
set_option maxRecDepth 100000 in
set_option maxHeartbeats 4000000 in
theorem ShapeFirstVertex_walk (a0 a1 a2 a3 a4 a5 : Int) (w : World) (w0 : (Lit.int .i64 a0).wf = true) (w1 : (Lit.int .i64 a1).wf = true) (w2 : (Lit.int .i64 a2).wf = true) (w3 : (Lit.int .i64 a3).wf = true) (w4 : (Lit.int .i64 a4).wf = true) (w5 : (Lit.int .i64 a5).wf = true) :
    Calls Try.prog 9 #[.int .i64 a0, .int .i64 a1, .int .i64 a2, .int .i64 a3, .int .i64 a4, .int .i64 a5] w fun e w' => e = .returned (.bool true) ∧ Below w.heap.size w w' := by
  obtain ⟨x, y, hx0, hx1, hy0, hy1, of⟩ := ofM (a2.tdiv 8) (a3.tdiv 8) (wf_div8 w2) (wf_div8 w3)
  have cs := fun W => shape_any a0 W w0
  obtain ⟨L, hL⟩ : ∃ L, L = (shZ a0).length := ⟨_, rfl⟩
  rw [← hL] at cs
  generalize shR a0 = r at *
  generalize shZ a0 = zs at *
  have q1 := i64_bd (wf_div8 w2)
  have q2 := i64_bd (wf_div8 w3)
  obtain ⟨q1a, q1b⟩ := q1
  obtain ⟨q2a, q2b⟩ := q2
  have cx := axis_any a4 a5 w4 w5
  have bx : -720 ≤ bnd a4 720 ∧ bnd a4 720 ≤ 720 ∧ -720 ≤ bnd a5 720 ∧ bnd a5 720 ≤ 720 := by
    have := bnd_bd a4 720 (by omega)
    have := bnd_bd a5 720 (by omega)
    omega
  generalize bnd a4 720 = ax at *
  generalize bnd a5 720 = ay at *
  have Hof := Lib.hid of; have Hcs := Lib.hid cs; have HhL := Lib.hid hL; have Hcx := Lib.hid cx; clear of cs hL cx
  have hal := alloc_if; have hfal := allocF_if
  go_enter Try.func9, Try.ntmps9
  go_upto_region 2 with (first | ((with_reducible refine (Hcs.out _).mono ?_); rintro e WS ⟨sa, sc, rfl, hs, hbS, hsx⟩; obtain ⟨N0, hN0, hcS, hfS, hsS⟩ := bcell hbS))
  have ctn := turned_s hs a1 w1
  have cn := near_s hs a4 a5 w4 w5
  have tn := nr_bd hs a4 a5
  obtain ⟨tn0, tn1, tn2, tn3⟩ := tn
  generalize nrx r L zs a4 = px at *
  generalize nry r L zs a5 = py at *
  have ca := add_any x y px py (by omega) (by omega) (by omega) (by omega)
  have Hctn := Lib.hid ctn; have Hcn := Lib.hid cn; have Hca := Lib.hid ca; clear ctn cn ca
  clear hcS hfS
  go_upto_region 4 with (first | ((with_reducible refine (Hctn.out _ (by (repeat (first | (with_reducible exact Below.refl _ _) | (with_reducible refine Below.drew ?_) | (with_reducible refine below_drewN ?_ _) | (with_reducible refine Below.setCell ?_ (by first | (simp; done) | (simp; omega) | omega) _) | (with_reducible refine Below.alloc ?_ (by first | (simp; done) | (simp; omega) | omega) _) | (with_reducible refine Below.trans ?_ (Below.mono (by assumption) (by first | (simp; done) | (simp; omega) | omega))) | (with_reducible refine Below.trans ?_ (Below.mono (Later.below _) (by first | (simp; done) | (simp; omega) | omega))))))).mono ?_); rintro e WT ⟨ta, tc, zt, rfl, ht, hbT, hrot⟩; obtain ⟨NT, hNT, hcT, hfT, hsT⟩ := bcell hbT; (try simp only [World.size_alloc, World.size_setCell, World.size_drew] at hNT)) | ((with_reducible refine (Hof.out _).mono ?_); rintro e wA ⟨rfl, hbA⟩; obtain ⟨NA, hNA, hcA, hfA, hsA⟩ := bcell hbA; (try simp only [World.size_alloc, World.size_setCell, World.size_drew] at hNA)))
  refine wp_region_calm1 6 16 #[.int .i64 0, .int .i64 0] 27 rfl (by kernel_rfl) (by kernel_rfl) (fun o ho ev w => by have ho' := Option.some.inj ho; rw [← ho']; exact rfl) fun NL hL => ?_; obtain ⟨hNL, hlc, hlf⟩ := hL; (try simp only [World.size_alloc, World.size_setCell, World.size_drew] at hNL); simp only [List.take_succ_cons, List.take_zero, List.drop_succ_cons, List.drop_zero]
  repeat ((refine wpCalm_go (fun K hK => ?_); go_simp; (repeat (simp only [↓IntWalk.iteOmega]; (try go_simp)))); first | (refine hK _ ?_; clear hK K) | (apply Exists.intro; refine ⟨fun x => ?_, hK _ ?_⟩; (first | (with_reducible exact calm_call (Hcn.out _ (by (repeat (first | exact Below.refl _ _ | (with_reducible refine Below.drew ?_) | (with_reducible refine below_drewN ?_ _) | (with_reducible refine Below.setCell ?_ (by first | (simp; done) | (simp; omega) | omega) _) | (with_reducible refine Below.alloc ?_ (by first | (simp; done) | (simp; omega) | omega) _) | (with_reducible refine Below.trans ?_ (Below.mono (by assumption) (by first | (simp; done) | (simp; omega) | omega))) | (with_reducible refine Below.trans ?_ (Below.mono (Later.below _) (by first | (simp; done) | (simp; omega) | omega)))))))) | (with_reducible exact calm_call (Hca.out _))); clear hK K))
  (refine wpCalm_nil ?_; intro b1 w1 hb1 hk1 hkf1 hkn1 hks1; (try simp only [World.size_alloc, World.size_setCell, World.size_drew] at hkn1); clear hlc hlf hNL NL; obtain ⟨N1, hN1, hc1, hf1, hs1⟩ := bcell hb1; (try simp only [World.size_alloc, World.size_setCell, World.size_drew] at hN1))
  have hst := setCell_if
  simp only [Act.put, List.setIfInBounds_toArray, List.set_cons_zero, List.set_cons_succ]
  go_upto_region 6 with (first | ((with_reducible refine (Hcx.out _).mono ?_); rintro e wB ⟨rfl, hbB⟩; obtain ⟨NB, hNB, hcB, hfB, hsB⟩ := bcell hbB; (try simp only [World.size_alloc, World.size_setCell, World.size_drew] at hNB)))
  refine name_world fun W hW => ?_
  have hBel : Below WS.heap.size WS W := by rw [hW]; (repeat (first | (with_reducible exact Below.refl _ _) | (with_reducible refine Below.drew ?_) | (with_reducible refine below_drewN ?_ _) | (with_reducible refine Below.setCell ?_ (by first | (simp; done) | (simp; omega) | omega) _) | (with_reducible refine Below.alloc ?_ (by first | (simp; done) | (simp; omega) | omega) _) | (with_reducible refine Below.trans ?_ (Below.mono (by assumption) (by first | (simp; done) | (simp; omega) | omega))) | (with_reducible refine Below.trans ?_ (Below.mono (Later.below _) (by first | (simp; done) | (simp; omega) | omega)))))
  have hBelT : Below WT.heap.size WT W := by rw [hW]; (repeat (first | (with_reducible exact Below.refl _ _) | (with_reducible refine Below.drew ?_) | (with_reducible refine below_drewN ?_ _) | (with_reducible refine Below.setCell ?_ (by first | (simp; done) | (simp; omega) | omega) _) | (with_reducible refine Below.alloc ?_ (by first | (simp; done) | (simp; omega) | omega) _) | (with_reducible refine Below.trans ?_ (Below.mono (by assumption) (by first | (simp; done) | (simp; omega) | omega))) | (with_reducible refine Below.trans ?_ (Below.mono (Later.below _) (by first | (simp; done) | (simp; omega) | omega)))))
  have hBw : Below w.heap.size w W := by rw [hW]; (repeat (first | (with_reducible exact Below.refl _ _) | (with_reducible refine Below.drew ?_) | (with_reducible refine below_drewN ?_ _) | (with_reducible refine Below.setCell ?_ (by first | (simp; done) | (simp; omega) | omega) _) | (with_reducible refine Below.alloc ?_ (by first | (simp; done) | (simp; omega) | omega) _) | (with_reducible refine Below.trans ?_ (Below.mono (by assumption) (by first | (simp; done) | (simp; omega) | omega))) | (with_reducible refine Below.trans ?_ (Below.mono (Later.below _) (by first | (simp; done) | (simp; omega) | omega)))))
  have eS0 : W.cell? ⟨WS.heap.size, 0, none⟩ = some (.int .i64 r) := by rw [hW]; simp [hst, hcT, hcA, hcB, hc1, alloc_if, ↓IntWalk.iteOmega]
  have eS1 : W.cell? ⟨WS.heap.size, 1, none⟩ = some (.slice sa L sc) := by rw [hW]; simp [hst, hcT, hcA, hcB, hc1, alloc_if, ↓IntWalk.iteOmega]
  have eT0 : W.cell? ⟨WT.heap.size, 0, none⟩ = some (.int .i64 r) := by rw [hW]; simp [hst, hcA, hcB, hc1, alloc_if, ↓IntWalk.iteOmega]
  have eT1 : W.cell? ⟨WT.heap.size, 1, none⟩ = some (.slice ta L tc) := by rw [hW]; simp [hst, hcA, hcB, hc1, alloc_if, ↓IntWalk.iteOmega]
  have eP0 : W.cell? ⟨wA.heap.size, 0, none⟩ = some (.int .i64 x) := by rw [hW]; simp [hst, hcB, hc1, alloc_if, ↓IntWalk.iteOmega]
  have eP1 : W.cell? ⟨wA.heap.size, 1, none⟩ = some (.int .i64 y) := by rw [hW]; simp [hst, hcB, hc1, alloc_if, ↓IntWalk.iteOmega]
  have eQ0 : W.cell? ⟨b1, 0, none⟩ = some (.int .i64 (x + px)) := by rw [hW]; simp [hst, hcB, hk1, alloc_if, ↓IntWalk.iteOmega]
  have eQ1 : W.cell? ⟨b1, 1, none⟩ = some (.int .i64 (y + py)) := by rw [hW]; simp [hst, hcB, hk1, alloc_if, ↓IntWalk.iteOmega]
  have eA0 : W.cell? ⟨wB.heap.size, 0, none⟩ = some (.int .i64 ax) := by rw [hW]; simp [alloc_if, ↓IntWalk.iteOmega]
  have eA1 : W.cell? ⟨wB.heap.size, 1, none⟩ = some (.int .i64 ay) := by rw [hW]; simp [alloc_if, ↓IntWalk.iteOmega]
  have lS : WS.heap.size < W.heap.size := World.block_lt_of_cell? _ _ eS0
  have lT : WT.heap.size < W.heap.size := World.block_lt_of_cell? _ _ eT0
  have lP : wA.heap.size < W.heap.size := World.block_lt_of_cell? _ _ eP0
  have lQ : b1 < W.heap.size := World.block_lt_of_cell? _ _ eQ0
  have lA : wB.heap.size < W.heap.size := World.block_lt_of_cell? _ _ eA0
  clear hW hcA hcB hcT hc1 hf1 hfA hfB hfT hk1 hkf1 hst hb1 hbA hbB hbT hNA hNB hNT hN1 hs1 hsA hsB hsT Hca Hcn Hctn Hcx Hof Hcs
  have hs := hs.later hBel
  have ht := ht.later hBelT
  clear hBel hBelT
  generalize wA.heap.size = bP at *
  generalize wB.heap.size = bA at *
  generalize WS.heap.size = bS at *
  generalize WT.heap.size = bT at *
  have c1 := project_s hs x y ax ay (by omega) (by omega) (by omega) (by omega)
  have c2 := project_s ht x y ax ay (by omega) (by omega) (by omega) (by omega)
  have c3 := bounds_s hs x y (by omega) (by omega)
  have c4 := bounds_s ht x y (by omega) (by omega)
  have c5 := contains_s hs x y (x + px) (y + py) (by omega) (by omega)
  have c6 := contains_s ht x y (x + px) (y + py) (by omega) (by omega)
  have c7 := validate_s ht
  obtain ⟨e1, e2, ⟨e3, e4, e5, e6⟩, e7⟩ := hrot.same HhL.out r x y ax ay (x + px - x) (y + py - y)
  rw [e1, e2] at c2
  rw [e3, e4, e5, e6] at c4
  rw [e7] at c6
  clear e1 e2 e3 e4 e5 e6 e7
  generalize plo r L zs x y ax ay = lo at *
  generalize phi r L zs x y ax ay = hi at *
  generalize sct r L zs (x + px - x) (y + py - y) = k1 at *
  generalize bx0 r L zs x = B0 at *
  generalize by0 r L zs y = B1 at *
  generalize bx1 r L zs x = B2 at *
  generalize by1 r L zs y = B3 at *
  have Hc1 := Lib.hid c1; have Hc2 := Lib.hid c2; have Hc3 := Lib.hid c3; have Hc4 := Lib.hid c4; have Hc5 := Lib.hid c5; have Hc6 := Lib.hid c6; have Hc7 := Lib.hid c7; clear c1 c2 c3 c4 c5 c6 c7
  have kind := hs.kind
  have hpoly := hs.poly
  have Hkind := Lib.hid kind
  have Hpoly := Lib.hid hpoly
  clear hs ht hrot kind hpoly bx
  have hal := alloc_if; have hfal := allocF_if
  go_upto_region 8 with (first | ((with_reducible refine (Hc1.out _ (by (repeat (first | (with_reducible exact Below.refl _ _) | (with_reducible refine Below.drew ?_) | (with_reducible refine below_drewN ?_ _) | (with_reducible refine Below.setCell ?_ (by first | (simp; done) | (simp; omega) | omega) _) | (with_reducible refine Below.alloc ?_ (by first | (simp; done) | (simp; omega) | omega) _) | (with_reducible refine Below.trans ?_ (Below.mono (by assumption) (by first | (simp; done) | (simp; omega) | omega))) | (with_reducible refine Below.trans ?_ (Below.mono (Later.below _) (by first | (simp; done) | (simp; omega) | omega))))))).mono ?_); rintro e wA ⟨rfl, hbA⟩; obtain ⟨NA, hNA, hcA, hfA, hsA⟩ := bcell hbA; (try simp only [World.size_alloc, World.size_setCell, World.size_drew] at hNA)) | ((with_reducible refine (Hc2.out _ (by (repeat (first | (with_reducible exact Below.refl _ _) | (with_reducible refine Below.drew ?_) | (with_reducible refine below_drewN ?_ _) | (with_reducible refine Below.setCell ?_ (by first | (simp; done) | (simp; omega) | omega) _) | (with_reducible refine Below.alloc ?_ (by first | (simp; done) | (simp; omega) | omega) _) | (with_reducible refine Below.trans ?_ (Below.mono (by assumption) (by first | (simp; done) | (simp; omega) | omega))) | (with_reducible refine Below.trans ?_ (Below.mono (Later.below _) (by first | (simp; done) | (simp; omega) | omega))))))).mono ?_); rintro e wB ⟨rfl, hbB⟩; obtain ⟨NB, hNB, hcB, hfB, hsB⟩ := bcell hbB; (try simp only [World.size_alloc, World.size_setCell, World.size_drew] at hNB)))
  refine wp_region_later (by kernel_rfl) (by kernel_rfl) fun NL hL => ?_; obtain ⟨hNL, hlc, hlf⟩ := hL; (try simp only [World.size_alloc, World.size_setCell, World.size_drew] at hNL)
  repeat (go_big_quiet_step (first | (with_reducible exact later_call (Hc3.out _ (by (repeat (first | exact Below.refl _ _ | (with_reducible refine Below.drew ?_) | (with_reducible refine below_drewN ?_ _) | (with_reducible refine Below.setCell ?_ (by first | (simp; done) | (simp; omega) | omega) _) | (with_reducible refine Below.alloc ?_ (by first | (simp; done) | (simp; omega) | omega) _) | (with_reducible refine Below.trans ?_ (Below.mono (by assumption) (by first | (simp; done) | (simp; omega) | omega))) | (with_reducible refine Below.trans ?_ (Below.mono (Later.below _) (by first | (simp; done) | (simp; omega) | omega)))))))) | (with_reducible exact later_call (Hc4.out _ (by (repeat (first | exact Below.refl _ _ | (with_reducible refine Below.drew ?_) | (with_reducible refine below_drewN ?_ _) | (with_reducible refine Below.setCell ?_ (by first | (simp; done) | (simp; omega) | omega) _) | (with_reducible refine Below.alloc ?_ (by first | (simp; done) | (simp; omega) | omega) _) | (with_reducible refine Below.trans ?_ (Below.mono (by assumption) (by first | (simp; done) | (simp; omega) | omega))) | (with_reducible refine Below.trans ?_ (Below.mono (Later.below _) (by first | (simp; done) | (simp; omega) | omega)))))))) | (with_reducible exact later_call (Hc5.out _ (by (repeat (first | exact Below.refl _ _ | (with_reducible refine Below.drew ?_) | (with_reducible refine below_drewN ?_ _) | (with_reducible refine Below.setCell ?_ (by first | (simp; done) | (simp; omega) | omega) _) | (with_reducible refine Below.alloc ?_ (by first | (simp; done) | (simp; omega) | omega) _) | (with_reducible refine Below.trans ?_ (Below.mono (by assumption) (by first | (simp; done) | (simp; omega) | omega))) | (with_reducible refine Below.trans ?_ (Below.mono (Later.below _) (by first | (simp; done) | (simp; omega) | omega)))))))) | (with_reducible exact later_call (Hc6.out _ (by (repeat (first | exact Below.refl _ _ | (with_reducible refine Below.drew ?_) | (with_reducible refine below_drewN ?_ _) | (with_reducible refine Below.setCell ?_ (by first | (simp; done) | (simp; omega) | omega) _) | (with_reducible refine Below.alloc ?_ (by first | (simp; done) | (simp; omega) | omega) _) | (with_reducible refine Below.trans ?_ (Below.mono (by assumption) (by first | (simp; done) | (simp; omega) | omega))) | (with_reducible refine Below.trans ?_ (Below.mono (Later.below _) (by first | (simp; done) | (simp; omega) | omega)))))))) | (with_reducible exact later_call (Hc7.out _ (by (repeat (first | exact Below.refl _ _ | (with_reducible refine Below.drew ?_) | (with_reducible refine below_drewN ?_ _) | (with_reducible refine Below.setCell ?_ (by first | (simp; done) | (simp; omega) | omega) _) | (with_reducible refine Below.alloc ?_ (by first | (simp; done) | (simp; omega) | omega) _) | (with_reducible refine Below.trans ?_ (Below.mono (by assumption) (by first | (simp; done) | (simp; omega) | omega))) | (with_reducible refine Below.trans ?_ (Below.mono (Later.below _) (by first | (simp; done) | (simp; omega) | omega))))))))))
  (refine wpQuiet_nil ?_; intro w1 hw1; obtain ⟨⟨w1, hb1⟩, rfl⟩ := hw1; clear hlc hlf hNL NL; obtain ⟨N1, hN1, hc1, hf1, hs1⟩ := bcell hb1; (try simp only [World.size_alloc, World.size_setCell, World.size_drew] at hN1))
  have hb1W : Below W.heap.size W w1 := by (repeat (first | (with_reducible exact Below.refl _ _) | (with_reducible refine Below.drew ?_) | (with_reducible refine below_drewN ?_ _) | (with_reducible refine Below.setCell ?_ (by first | (simp; done) | (simp; omega) | omega) _) | (with_reducible refine Below.alloc ?_ (by first | (simp; done) | (simp; omega) | omega) _) | (with_reducible refine Below.trans ?_ (Below.mono (by assumption) (by first | (simp; done) | (simp; omega) | omega))) | (with_reducible refine Below.trans ?_ (Below.mono (Later.below _) (by first | (simp; done) | (simp; omega) | omega)))))
  have hBw1 : Below w.heap.size w w1 := hBw.trans (hb1W.mono hBw.size)
  have f0 := cell_below hb1W eS0
  have f1 := cell_below hb1W eS1
  have hW1 := hb1W.size
  have hw1 := hBw1.size
  obtain ⟨i0, hii, hz0, hz1, hz2⟩ := info_parts Try.infoV
  clear eS0 eS1 eT0 eT1 eP0 eP1 eQ0 eQ1 eA0 eA1 hb1 hbA hbB hc1 hcA hcB hf1 hfA hfB hN1 hNA hNB hs1 hsA hsB Hc1 Hc2 Hc3 Hc4 Hc5 Hc6 Hc7 hal hfal
  have hL6 : L ≤ 6 := by rcases Hkind.out with ⟨h, _⟩ | ⟨_, h, h', _⟩ <;> omega
  have hpl : IsPoly w1 sa L sc zs := Hpoly.out.later hb1W
  have Hpl := Lib.hid hpl
  clear hpl Hpoly
  go_wp2
  go_loopw [22, 23] (fun l i wr => ∃ j : Nat, j ≤ L ∧ i = .int .i64 ((L : Int) - 1 - j) ∧ wr.ownsRow w1.heap.size 27 2 l j (flat (bck zs j)) ∧ Below w1.heap.size w1 wr) (fun _ i _ => (intOf i + 1).toNat)
  case atStart => exact ⟨0, Nat.zero_le _, by simp, World.ownsRow_nil _ _ _ _, Below.refl _ _⟩
  case round =>
    obtain ⟨j, hj, rfl, hown, hB⟩ := hrel
    have hws := hB.size
    have g0 := cell_below hB f0
    have g1 := cell_below hB f1
    by_cases hlt : j < L
    · obtain ⟨K, hK⟩ : ∃ K : Nat, (L : Int) - 1 - j = K := ⟨L - 1 - j, by omega⟩
      have hKn : zs.length - 1 - j = K := by have := HhL.out; omega
      rw [hK]
      have hpoly := Hpl.out
      rcases hpoly with ⟨-, h0, -⟩ | ⟨b, o, rfl, hzl, hle, hcm, hcell⟩
      · omega
      unfold maxLen at hcm
      have v0 := cell_below hB (hcell K (by omega)).1
      have v1 := cell_below hB (hcell K (by omega)).2
      have lb := World.block_lt_of_cell? _ _ v0
      simp only at lb
      have hlI : (K : Int) < (L : Int) := by omega
      have hk0 : (0 : Int) ≤ (K : Int) := by omega
      have hsn := bck_flat zs j
      rw [hKn] at hsn
      have HK := Lib.hid hK
      clear hK
      have Hhsn := Lib.hid hsn; clear hsn
      have hal := alloc_if; have hfal := allocF_if
      go_wp2_with (first | (at_builtin; refine wpList_append_own _ rfl _ _ 22 rfl w1.heap.size 27 i0 (.agg #[.int .i64 0, .int .i64 0]) 2 16 Try.underlying22 hii hz0 hz1 hz2 (by simp [Value.cells]) (by decide) _ j (flat (bck zs j)) rfl (hown.alloc _) ⟨wr.heap.size, 0, none⟩ 1 1 [.int .i64 (vx zs K), .int .i64 (vy zs K)] rfl rfl (new2 _ _ _ _) (by simp [Value.oneCell']) (by unfold maxLen; omega) (by omega) (by simp; omega) ?_; intro v' w2 hown2 hgrow2 _))
      have hown3 : w2.ownsRow w1.heap.size 27 2 v' (j + 1) (flat (bck zs (j + 1))) := by rw [Hhsn.out]; exact hown2
      have hB2 : Below w1.heap.size w1 w2 := (hB.alloc hws _).grown hgrow2 (by simp; omega) (fun k e => (hown.lt k e).1)
      go_wp2
      go_roundw
      case rel => exact ⟨j + 1, by omega, by have := HK.out; (try go_num); (try omega), hown3, hB2⟩
      case measure => have := HK.out; simp [intOf]; (try omega)
    · obtain rfl : j = L := by omega
      rw [show (j : Int) - 1 - j = -1 by omega]
      obtain ⟨hl, a, cap, rfl, hp⟩ := poly_of_row hown
      have lv := lives_any
      have kind := Hkind.out
      rcases kind with ⟨rfl, -⟩ | ⟨-, h3, h6, hbd, hv⟩
      · have Hlv := Lib.hid lv; clear lv
        clear hown hp Hpl Hkind
        have hal := alloc_if; have hfal := allocF_if
        go_wp2_with (first | ((with_reducible refine (Hlv.out _).mono ?_); rintro e wE ⟨rfl, hbE⟩; obtain ⟨NE, hNE, hcE, hfE, hsE⟩ := bcell hbE; (try simp only [World.size_alloc, World.size_setCell, World.size_drew] at hNE)))
        go_ret
        exact ⟨rfl, (hBw1.trans (hB.mono hw1)).trans (Below.mono (by (repeat (first | (with_reducible exact Below.refl _ _) | (with_reducible refine Below.drew ?_) | (with_reducible refine below_drewN ?_ _) | (with_reducible refine Below.setCell ?_ (by first | (simp; done) | (simp; omega) | omega) _) | (with_reducible refine Below.alloc ?_ (by first | (simp; done) | (simp; omega) | omega) _) | (with_reducible refine Below.trans ?_ (Below.mono (by assumption) (by first | (simp; done) | (simp; omega) | omega))) | (with_reducible refine Below.trans ?_ (Below.mono (Later.below _) (by first | (simp; done) | (simp; omega) | omega)))))) (by omega))⟩
      · have hr := cvx_reverse (bs := bck zs j) hv (by rw [← HhL.out]; omega) (by rw [bck_length]; exact HhL.out) (fun i hi => bck_at zs j i (by rw [HhL.out]; exact hi))
        have vB := validate_poly a j cap (bck zs j) wr hp h3 h6 (bck_bd hbd (by decide) j)
        rw [hr] at vB
        simp only [Bool.false_eq_true, if_false] at vB
        have hjb : ((j : Int) == 0) = false := beq_eq_false_iff_ne.2 (by omega)
        have Hlv := Lib.hid lv; have HvB := Lib.hid vB; clear lv vB
        clear hown hp Hpl Hkind hbd hv
        have hal := alloc_if; have hfal := allocF_if
        go_wp2_with (first | ((with_reducible refine (HvB.out).mono ?_); rintro e wD ⟨rfl, hbD⟩; obtain ⟨ND, hND, hcD, hfD, hsD⟩ := bcell hbD; (try simp only [World.size_alloc, World.size_setCell, World.size_drew] at hND)) | ((with_reducible refine (Hlv.out _).mono ?_); rintro e wE ⟨rfl, hbE⟩; obtain ⟨NE, hNE, hcE, hfE, hsE⟩ := bcell hbE; (try simp only [World.size_alloc, World.size_setCell, World.size_drew] at hNE)))
        go_ret
        exact ⟨rfl, (hBw1.trans (hB.mono hw1)).trans (Below.mono (by (repeat (first | (with_reducible exact Below.refl _ _) | (with_reducible refine Below.drew ?_) | (with_reducible refine below_drewN ?_ _) | (with_reducible refine Below.setCell ?_ (by first | (simp; done) | (simp; omega) | omega) _) | (with_reducible refine Below.alloc ?_ (by first | (simp; done) | (simp; omega) | omega) _) | (with_reducible refine Below.trans ?_ (Below.mono (by assumption) (by first | (simp; done) | (simp; omega) | omega))) | (with_reducible refine Below.trans ?_ (Below.mono (Later.below _) (by first | (simp; done) | (simp; omega) | omega)))))) (by omega))⟩
end Go.Proofs.Ytiihnicmkenemaa.W
