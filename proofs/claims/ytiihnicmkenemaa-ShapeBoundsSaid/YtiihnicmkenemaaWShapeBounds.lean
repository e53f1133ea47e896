/-
  The walk of the law ShapeBounds: it returns true at every input.
  Conditions: none.
-/
import Derived.Test.YtiihnicmkenemaaShN
import Derived.Test.YtiihnicmkenemaaQe
import Derived.Deep.Cut
import Derived.Deep.CutRange
import Derived.Deep.DeepCutAuto
namespace Go.Proofs.Ytiihnicmkenemaa.W
open Go.RowKit Go.Proofs.Ytiihnicmkenemaa.FxMath Go.Proofs.Ytiihnicmkenemaa.FxA Go.Proofs.Ytiihnicmkenemaa.Qt Go.Proofs.Ytiihnicmkenemaa.Ve Go.Proofs.Ytiihnicmkenemaa.Sh
set_option linter.unusedVariables false
set_option linter.unusedSimpArgs false
theorem wf_div8 {a : Int} (h : (Lit.int .i64 a).wf = true) : (Lit.int .i64 (a.tdiv 8)).wf = true := by
  have := i64_bd h
  have t1 := Int.mul_tdiv_add_tmod a 8
  have t2 := tmod_abs a 8 (by decide)
  simp [Lit.wf, IntKind.min, IntKind.max, IntKind.bits, IntKind.signed]
  omega
set_option maxRecDepth 100000 in
set_option maxHeartbeats 4000000 in
theorem ShapeBounds_walk (a0 a1 a2 a3 a4 : Int) (w : World) (w0 : (Lit.int .i64 a0).wf = true) (w1 : (Lit.int .i64 a1).wf = true) (w2 : (Lit.int .i64 a2).wf = true) (w3 : (Lit.int .i64 a3).wf = true) (w4 : (Lit.int .i64 a4).wf = true) :
    Calls Try.prog 3 #[.int .i64 a0, .int .i64 a1, .int .i64 a2, .int .i64 a3, .int .i64 a4] w fun e w' => e = .returned (.bool true) ∧ Below w.heap.size w w' := by
  obtain ⟨x, y, hx0, hx1, hy0, hy1, of⟩ := ofM (a1.tdiv 8) (a2.tdiv 8) (wf_div8 w1) (wf_div8 w2)
  have cs := fun W => shape_any a0 W w0
  obtain ⟨L, hL⟩ : ∃ L, L = (shZ a0).length := ⟨_, rfl⟩
  rw [← hL] at cs
  generalize shR a0 = r at *
  generalize shZ a0 = zs at *
  have q1 := i64_bd (wf_div8 w1)
  have q2 := i64_bd (wf_div8 w2)
  obtain ⟨q1a, q1b⟩ := q1
  obtain ⟨q2a, q2b⟩ := q2
  have Hof := Lib.hid of; have Hcs := Lib.hid cs; have HhL := Lib.hid hL; clear of cs hL
  have hal := alloc_if; have hfal := allocF_if
  go_enter Try.func3, Try.ntmps3
  go_upto_region 3 with (first | ((with_reducible refine (Hcs.out _).mono ?_); rintro e WS ⟨sa, sc, rfl, hs, hbS, hsx⟩; obtain ⟨N0, hN0, hcS, hfS, hsS⟩ := bcell hbS) | ((with_reducible refine (Hof.out _).mono ?_); rintro e wA ⟨rfl, hbA⟩; obtain ⟨NA, hNA, hcA, hfA, hsA⟩ := bcell hbA; (try simp only [World.size_alloc, World.size_setCell, World.size_drew] at hNA)))
  have cn := near_s hs a3 a4 w3 w4
  have bb := box_bd hs 0 0
  have tn := nr_bd hs a3 a4
  obtain ⟨tn0, tn1, tn2, tn3⟩ := tn
  generalize nrx r L zs a3 = px at *
  generalize nry r L zs a4 = py at *
  have ca := add_any x y px py (by omega) (by omega) (by omega) (by omega)
  have Hcn := Lib.hid cn; have Hca := Lib.hid ca; clear cn ca
  clear hcS hfS
  refine wp_region_calm1 6 13 #[.int .i64 0, .int .i64 0] 27 rfl (by kernel_rfl) (by kernel_rfl) (fun o ho ev w => by have ho' := Option.some.inj ho; rw [← ho']; exact rfl) fun NL hL => ?_; obtain ⟨hNL, hlc, hlf⟩ := hL; (try simp only [World.size_alloc, World.size_setCell, World.size_drew] at hNL); simp only [List.take_succ_cons, List.take_zero, List.drop_succ_cons, List.drop_zero]
  repeat ((refine wpCalm_go (fun K hK => ?_); go_simp; (repeat (simp only [↓IntWalk.iteOmega]; (try go_simp)))); first | (refine hK _ ?_; clear hK K) | (apply Exists.intro; refine ⟨fun x => ?_, hK _ ?_⟩; (first | (with_reducible exact calm_call (Hcn.out _ (by (repeat (first | exact Below.refl _ _ | (with_reducible refine Below.drew ?_) | (with_reducible refine below_drewN ?_ _) | (with_reducible refine Below.setCell ?_ (by first | (simp; done) | (simp; omega) | omega) _) | (with_reducible refine Below.alloc ?_ (by first | (simp; done) | (simp; omega) | omega) _) | (with_reducible refine Below.trans ?_ (Below.mono (by assumption) (by first | (simp; done) | (simp; omega) | omega))) | (with_reducible refine Below.trans ?_ (Below.mono (Later.below _) (by first | (simp; done) | (simp; omega) | omega)))))))) | (with_reducible exact calm_call (Hca.out _))); clear hK K))
  (refine wpCalm_nil ?_; intro b1 w1 hb1 hk1 hkf1 hkn1 hks1; (try simp only [World.size_alloc, World.size_setCell, World.size_drew] at hkn1); clear hlc hlf hNL NL; obtain ⟨N1, hN1, hc1, hf1, hs1⟩ := bcell hb1; (try simp only [World.size_alloc, World.size_setCell, World.size_drew] at hN1))
  have hst := setCell_if
  simp only [Act.put, List.setIfInBounds_toArray, List.set_cons_zero, List.set_cons_succ]
  have cb := bounds_s hs x y (by omega) (by omega)
  have Hcb := Lib.hid cb; clear cb
  go_upto_region 5 with (first | ((with_reducible refine (Hcb.out _ (by (repeat (first | (with_reducible exact Below.refl _ _) | (with_reducible refine Below.drew ?_) | (with_reducible refine below_drewN ?_ _) | (with_reducible refine Below.setCell ?_ (by first | (simp; done) | (simp; omega) | omega) _) | (with_reducible refine Below.alloc ?_ (by first | (simp; done) | (simp; omega) | omega) _) | (with_reducible refine Below.trans ?_ (Below.mono (by assumption) (by first | (simp; done) | (simp; omega) | omega))) | (with_reducible refine Below.trans ?_ (Below.mono (Later.below _) (by first | (simp; done) | (simp; omega) | omega))))))).mono ?_); rintro e wB ⟨rfl, hbB⟩; obtain ⟨NB, hNB, hcB, hfB, hsB⟩ := bcell hbB; (try simp only [World.size_alloc, World.size_setCell, World.size_drew] at hNB)))
  refine name_world fun W hW => ?_
  have hBel : Below WS.heap.size WS W := by rw [hW]; (repeat (first | (with_reducible exact Below.refl _ _) | (with_reducible refine Below.drew ?_) | (with_reducible refine below_drewN ?_ _) | (with_reducible refine Below.setCell ?_ (by first | (simp; done) | (simp; omega) | omega) _) | (with_reducible refine Below.alloc ?_ (by first | (simp; done) | (simp; omega) | omega) _) | (with_reducible refine Below.trans ?_ (Below.mono (by assumption) (by first | (simp; done) | (simp; omega) | omega))) | (with_reducible refine Below.trans ?_ (Below.mono (Later.below _) (by first | (simp; done) | (simp; omega) | omega)))))
  have hBw : Below w.heap.size w W := by rw [hW]; (repeat (first | (with_reducible exact Below.refl _ _) | (with_reducible refine Below.drew ?_) | (with_reducible refine below_drewN ?_ _) | (with_reducible refine Below.setCell ?_ (by first | (simp; done) | (simp; omega) | omega) _) | (with_reducible refine Below.alloc ?_ (by first | (simp; done) | (simp; omega) | omega) _) | (with_reducible refine Below.trans ?_ (Below.mono (by assumption) (by first | (simp; done) | (simp; omega) | omega))) | (with_reducible refine Below.trans ?_ (Below.mono (Later.below _) (by first | (simp; done) | (simp; omega) | omega)))))
  have eS0 : W.cell? ⟨WS.heap.size, 0, none⟩ = some (.int .i64 r) := by rw [hW]; simp [hst, hcA, hcB, hc1, alloc_if, ↓IntWalk.iteOmega]
  have eS1 : W.cell? ⟨WS.heap.size, 1, none⟩ = some (.slice sa L sc) := by rw [hW]; simp [hst, hcA, hcB, hc1, alloc_if, ↓IntWalk.iteOmega]
  have eP0 : W.cell? ⟨wA.heap.size, 0, none⟩ = some (.int .i64 x) := by rw [hW]; simp [hst, hcA, hcB, hc1, alloc_if, ↓IntWalk.iteOmega]
  have eP1 : W.cell? ⟨wA.heap.size, 1, none⟩ = some (.int .i64 y) := by rw [hW]; simp [hst, hcA, hcB, hc1, alloc_if, ↓IntWalk.iteOmega]
  have eQ0 : W.cell? ⟨b1, 0, none⟩ = some (.int .i64 (x + px)) := by rw [hW]; simp [hst, hcB, hk1, alloc_if, ↓IntWalk.iteOmega]
  have eQ1 : W.cell? ⟨b1, 1, none⟩ = some (.int .i64 (y + py)) := by rw [hW]; simp [hst, hcB, hk1, alloc_if, ↓IntWalk.iteOmega]
  have eB0 : W.cell? ⟨wB.heap.size, 0, none⟩ = some (.int .i64 (bx0 r L zs x)) := by rw [hW]; simp [alloc_if, ↓IntWalk.iteOmega]
  have eB1 : W.cell? ⟨wB.heap.size, 1, none⟩ = some (.int .i64 (by0 r L zs y)) := by rw [hW]; simp [alloc_if, ↓IntWalk.iteOmega]
  have eB2 : W.cell? ⟨wB.heap.size, 2, none⟩ = some (.int .i64 (bx1 r L zs x)) := by rw [hW]; simp [alloc_if, ↓IntWalk.iteOmega]
  have eB3 : W.cell? ⟨wB.heap.size, 3, none⟩ = some (.int .i64 (by1 r L zs y)) := by rw [hW]; simp [alloc_if, ↓IntWalk.iteOmega]
  have lS : WS.heap.size < W.heap.size := World.block_lt_of_cell? _ _ eS0
  have lP : wA.heap.size < W.heap.size := World.block_lt_of_cell? _ _ eP0
  have lQ : b1 < W.heap.size := World.block_lt_of_cell? _ _ eQ0
  have lB : wB.heap.size < W.heap.size := World.block_lt_of_cell? _ _ eB0
  clear hW hcA hcB hc1 hf1 hfA hfB hk1 hkf1 hst hb1 hbA hbB hNA hNB hN1 hs1 hsA hsB Hca Hcn Hcb Hof Hcs
  have hs := hs.later hBel
  clear hBel
  generalize wA.heap.size = bP at *
  generalize wB.heap.size = bB at *
  generalize WS.heap.size = bS at *
  obtain ⟨c, hc⟩ : ∃ c, c = sct r L zs px py := ⟨_, rfl⟩
  have hin : c = true → bx0 r L zs x ≤ x + px ∧ x + px ≤ bx1 r L zs x ∧ by0 r L zs y ≤ y + py ∧ y + py ≤ by1 r L zs y := fun h => sct_box hs x y px py (hc ▸ h)
  have bxy := box_bd hs x y
  have hct := contains_s hs x y (x + px) (y + py) (by omega) (by omega)
  rw [show x + px - x = px by omega, show y + py - y = py by omega, ← hc] at hct
  obtain ⟨B0, hB0⟩ : ∃ B, B = bx0 r L zs x := ⟨_, rfl⟩
  obtain ⟨B1, hB1⟩ : ∃ B, B = by0 r L zs y := ⟨_, rfl⟩
  obtain ⟨B2, hB2⟩ : ∃ B, B = bx1 r L zs x := ⟨_, rfl⟩
  obtain ⟨B3, hB3⟩ : ∃ B, B = by1 r L zs y := ⟨_, rfl⟩
  rw [← hB0] at eB0 hin bxy
  rw [← hB1] at eB1 hin bxy
  rw [← hB2] at eB2 hin bxy
  rw [← hB3] at eB3 hin bxy
  have Hhin := Lib.hid hin; have Hhc := Lib.hid hc; have HhB0 := Lib.hid hB0; have HhB1 := Lib.hid hB1; have HhB2 := Lib.hid hB2; have HhB3 := Lib.hid hB3; have Hhct := Lib.hid hct; clear hin hc hB0 hB1 hB2 hB3 hct
  have hal := alloc_if; have hfal := allocF_if
  go_cut [15] (fun s15 wx => (∃ d : Bool, s15 = .bool d ∧ (c = true → d = true)) ∧ wx = W)
  case first =>
    go_wp2_with fail
    all_goals (go_meet; exact ⟨⟨_, rfl, fun h => by have := Hhin.out h; first | rfl | (exfalso; omega) | (simp; omega)⟩, rfl⟩)
  case rest =>
    obtain ⟨⟨d, rfl, hd⟩, rfl⟩ := hcut
    go_upto_region 6 with (fail)
    go_cut [68] (fun s68 w6 => s68 = .bool false ∧ ∃ hb : Below wc.heap.size wc w6, True)
    case first =>
      cases c
      · go_wp2_with (first | ((with_reducible refine (Hhct.out _ (by (repeat (first | (with_reducible exact Below.refl _ _) | (with_reducible refine Below.drew ?_) | (with_reducible refine below_drewN ?_ _) | (with_reducible refine Below.setCell ?_ (by first | (simp; done) | (simp; omega) | omega) _) | (with_reducible refine Below.alloc ?_ (by first | (simp; done) | (simp; omega) | omega) _) | (with_reducible refine Below.trans ?_ (Below.mono (by assumption) (by first | (simp; done) | (simp; omega) | omega))) | (with_reducible refine Below.trans ?_ (Below.mono (Later.below _) (by first | (simp; done) | (simp; omega) | omega))))))).mono ?_); rintro e wC ⟨rfl, hbC⟩; obtain ⟨NC, hNC, hcC, hfC, hsC⟩ := bcell hbC; (try simp only [World.size_alloc, World.size_setCell, World.size_drew] at hNC)))
        go_meet
        exact ⟨rfl, hbC, trivial⟩
      · obtain rfl : d = true := hd rfl
        go_wp2_with (first | ((with_reducible refine (Hhct.out _ (by (repeat (first | (with_reducible exact Below.refl _ _) | (with_reducible refine Below.drew ?_) | (with_reducible refine below_drewN ?_ _) | (with_reducible refine Below.setCell ?_ (by first | (simp; done) | (simp; omega) | omega) _) | (with_reducible refine Below.alloc ?_ (by first | (simp; done) | (simp; omega) | omega) _) | (with_reducible refine Below.trans ?_ (Below.mono (by assumption) (by first | (simp; done) | (simp; omega) | omega))) | (with_reducible refine Below.trans ?_ (Below.mono (Later.below _) (by first | (simp; done) | (simp; omega) | omega))))))).mono ?_); rintro e wC ⟨rfl, hbC⟩; obtain ⟨NC, hNC, hcC, hfC, hsC⟩ := bcell hbC; (try simp only [World.size_alloc, World.size_setCell, World.size_drew] at hNC)))
        go_meet
        exact ⟨rfl, hbC, trivial⟩
    case rest =>
      obtain ⟨rfl, hb6, _⟩ := hcut
      clear hd Hhct
      have f0 := cell_below hb6 eS0
      have f1 := cell_below hb6 eS1
      have f2 := cell_below hb6 eP0
      have f3 := cell_below hb6 eP1
      have f4 := cell_below hb6 eB0
      have f5 := cell_below hb6 eB1
      have f6 := cell_below hb6 eB2
      have f7 := cell_below hb6 eB3
      have s6 := hb6.size
      have hs6 := hs.later hb6
      have hBw6 := hBw.trans (hb6.mono hBw.size)
      clear eS0 eS1 eP0 eP1 eB0 eB1 eB2 eB3 eQ0 eQ1
      have kind := hs.kind
      rcases kind with ⟨rfl, _, _, _, hr1, hr2⟩ | ⟨_, hL3, hL6, hbd, hv⟩
      · have e0 : B0 = x - r := by rw [HhB0.out]; unfold bx0; rw [if_pos rfl]
        have e1 : B1 = y - r := by rw [HhB1.out]; unfold by0; rw [if_pos rfl]
        have e2 : B2 = x + r := by rw [HhB2.out]; unfold bx1; rw [if_pos rfl]
        have e3 : B3 = y + r := by rw [HhB3.out]; unfold by1; rw [if_pos rfl]
        clear HhB0 HhB1 HhB2 HhB3 Hhin Hhc
        subst e0 e1 e2 e3
        have k1 := contains_circle r x y (x - r) y none 0 (by omega) (by omega) (by omega)
        have k2 := contains_circle r x y (x + r) y none 0 (by omega) (by omega) (by omega)
        have k3 := contains_circle r x y x (y - r) none 0 (by omega) (by omega) (by omega)
        have k4 := contains_circle r x y x (y + r) none 0 (by omega) (by omega) (by omega)
        simp only [show x - r - x = -r by omega, show x + r - x = r by omega, show y - r - y = -r by omega, show y + r - y = r by omega, Int.sub_self, Int.mul_zero, Int.add_zero, Int.zero_add, Int.neg_mul_neg, Int.le_refl, decide_true] at k1 k2 k3 k4
        have lv := lives_any
        have Hk1 := Lib.hid k1; have Hk2 := Lib.hid k2; have Hk3 := Lib.hid k3; have Hk4 := Lib.hid k4; have Hlv := Lib.hid lv; clear k1 k2 k3 k4 lv
        go_wp2_with (first | ((with_reducible refine (Hk1.out _).mono ?_); rintro e wA ⟨rfl, hbA⟩; obtain ⟨NA, hNA, hcA, hfA, hsA⟩ := bcell hbA; (try simp only [World.size_alloc, World.size_setCell, World.size_drew] at hNA)) | ((with_reducible refine (Hk2.out _).mono ?_); rintro e wB ⟨rfl, hbB⟩; obtain ⟨NB, hNB, hcB, hfB, hsB⟩ := bcell hbB; (try simp only [World.size_alloc, World.size_setCell, World.size_drew] at hNB)) | ((with_reducible refine (Hk3.out _).mono ?_); rintro e wC ⟨rfl, hbC⟩; obtain ⟨NC, hNC, hcC, hfC, hsC⟩ := bcell hbC; (try simp only [World.size_alloc, World.size_setCell, World.size_drew] at hNC)) | ((with_reducible refine (Hk4.out _).mono ?_); rintro e wD ⟨rfl, hbD⟩; obtain ⟨ND, hND, hcD, hfD, hsD⟩ := bcell hbD; (try simp only [World.size_alloc, World.size_setCell, World.size_drew] at hND)) | ((with_reducible refine (Hlv.out _).mono ?_); rintro e wE ⟨rfl, hbE⟩; obtain ⟨NE, hNE, hcE, hfE, hsE⟩ := bcell hbE; (try simp only [World.size_alloc, World.size_setCell, World.size_drew] at hNE)))
        go_ret
        exact ⟨rfl, by (repeat (first | (with_reducible exact Below.refl _ _) | (with_reducible refine Below.drew ?_) | (with_reducible refine below_drewN ?_ _) | (with_reducible refine Below.setCell ?_ (by first | (simp; done) | (simp; omega) | omega) _) | (with_reducible refine Below.alloc ?_ (by first | (simp; done) | (simp; omega) | omega) _) | (with_reducible refine Below.trans ?_ (Below.mono (by assumption) (by first | (simp; done) | (simp; omega) | omega))) | (with_reducible refine Below.trans ?_ (Below.mono (Later.below _) (by first | (simp; done) | (simp; omega) | omega)))))⟩
      · have hLb : ((L : Int) == 0) = false := beq_eq_false_iff_ne.2 (by omega)
        have hpoly := hs6.poly
        rcases hpoly with ⟨_, h0, _⟩ | ⟨b, o, rfl, hzl, hle, hcm, hcell⟩
        · omega
        unfold maxLen at hcm
        have lb := World.block_lt_of_cell? _ _ (hcell 0 (by omega)).1
        simp only at lb
        go_wp2_with (fail)
        obtain ⟨W0, hW0⟩ : ∃ W0, W0 = wc.alloc (.cells #[.bool false, .bool false, .bool false, .bool false] 36) := ⟨_, rfl⟩
        go_loopw [17] (fun i wr => ∃ k : Nat, k ≤ L ∧ i = .int .i64 k ∧ Below wc.heap.size wc wr ∧ wc.heap.size < wr.heap.size ∧ (∀ j, wr.frozen? ⟨wc.heap.size, j, none⟩ = false) ∧
          wr.cell? ⟨wc.heap.size, 0, none⟩ = some (.bool (tk (fun i => x + vx zs i) B0 k)) ∧ wr.cell? ⟨wc.heap.size, 1, none⟩ = some (.bool (tk (fun i => x + vx zs i) B2 k)) ∧
          wr.cell? ⟨wc.heap.size, 2, none⟩ = some (.bool (tk (fun i => y + vy zs i) B1 k)) ∧ wr.cell? ⟨wc.heap.size, 3, none⟩ = some (.bool (tk (fun i => y + vy zs i) B3 k)))
          (fun i _ => L - (intOf i).toNat)
        case atStart =>
          exact ⟨0, Nat.zero_le _, rfl, by (repeat (first | (with_reducible exact Below.refl _ _) | (with_reducible refine Below.drew ?_) | (with_reducible refine below_drewN ?_ _) | (with_reducible refine Below.setCell ?_ (by first | (simp; done) | (simp; omega) | omega) _) | (with_reducible refine Below.alloc ?_ (by first | (simp; done) | (simp; omega) | omega) _) | (with_reducible refine Below.trans ?_ (Below.mono (by assumption) (by first | (simp; done) | (simp; omega) | omega))) | (with_reducible refine Below.trans ?_ (Below.mono (Later.below _) (by first | (simp; done) | (simp; omega) | omega))))), by simp, fun j => by simp [allocF_if], by simp [alloc_if, tk], by simp [alloc_if, tk], by simp [alloc_if, tk], by simp [alloc_if, tk]⟩
        case round =>
          obtain ⟨k, hk, rfl, hB, hT, fT, t0, t1, t2, t3⟩ := hrel
          have g0 := cell_below hB f0
          have g1 := cell_below hB f1
          have g2 := cell_below hB f2
          have g3 := cell_below hB f3
          by_cases hlt : k < L
          · have v0 := cell_below hB (hcell k hlt).1
            have v1 := cell_below hB (hcell k hlt).2
            have hlI : (k : Int) < (L : Int) := by omega
            have hk0 : (0 : Int) ≤ (k : Int) := by omega
            have bk := hbd k
            have ca := add_any x y (vx zs k) (vy zs k) (by omega) (by omega) (by omega) (by omega)
            have Hca := Lib.hid ca; clear ca
            have hal := alloc_if; have hfal := allocF_if
            go_wp2
            refine wp_region_calm1 7 18 #[.int .i64 0, .int .i64 0] 27 rfl (by kernel_rfl) (by kernel_rfl) (fun o ho ev w => by have ho' := Option.some.inj ho; rw [← ho']; exact rfl) fun NL hL => ?_; obtain ⟨hNL, hlc, hlf⟩ := hL; (try simp only [World.size_alloc, World.size_setCell, World.size_drew] at hNL); simp only [List.take_succ_cons, List.take_zero, List.drop_succ_cons, List.drop_zero]
            repeat ((refine wpCalm_go (fun K hK => ?_); go_simp; (repeat (simp only [↓IntWalk.iteOmega]; (try go_simp)))); first | (refine hK _ ?_; clear hK K) | (apply Exists.intro; refine ⟨fun x => ?_, hK _ ?_⟩; (first | (with_reducible exact calm_call (Hca.out _))); clear hK K))
            refine wpCalm_nil ?_; intro bv w7 hb7 hk7 hkf7 hkn7 hks7
            (try simp only [World.size_alloc, World.size_setCell, World.size_drew] at hkn7)
            clear hlc hlf hNL NL
            simp only [Act.put, List.setIfInBounds_toArray, List.set_cons_zero, List.set_cons_succ]
            have hst := setCell_if
            go_upto_region 15 with (fail)
            refine name_world fun W1 hW1 => ?_
            have bvT : wc.heap.size ≠ bv := by omega
            have Tb : Below wr.heap.size wr W1 := by rw [hW1]; (repeat (first | (with_reducible exact Below.refl _ _) | (with_reducible refine Below.drew ?_) | (with_reducible refine below_drewN ?_ _) | (with_reducible refine Below.setCell ?_ (by first | (simp; done) | (simp; omega) | omega) _) | (with_reducible refine Below.alloc ?_ (by first | (simp; done) | (simp; omega) | omega) _) | (with_reducible refine Below.trans ?_ (Below.mono (by assumption) (by first | (simp; done) | (simp; omega) | omega))) | (with_reducible refine Below.trans ?_ (Below.mono (Later.below _) (by first | (simp; done) | (simp; omega) | omega)))))
            have p0 : W1.cell? ⟨bv, 0, none⟩ = some (.int .i64 (x + vx zs k)) := by rw [hW1]; simp [hst, hk7]
            have p1 : W1.cell? ⟨bv, 1, none⟩ = some (.int .i64 (y + vy zs k)) := by rw [hW1]; simp [hst, hk7]
            have u0 := cell_below Tb t0
            have u1 := cell_below Tb t1
            have u2 := cell_below Tb t2
            have u3 := cell_below Tb t3
            have c4 := cell_below Tb (cell_below hB f4)
            have c5 := cell_below Tb (cell_below hB f5)
            have c6 := cell_below Tb (cell_below hB f6)
            have c7 := cell_below Tb (cell_below hB f7)
            have uF : ∀ j, W1.frozen? ⟨wc.heap.size, j, none⟩ = false := fun j => (Tb.frozen (p := ⟨wc.heap.size, j, none⟩) hT).trans (fT j)
            have sz1 := Tb.size
            clear hW1 hk7 hkf7 hb7 g0 g1 g2 g3 v0 v1 t0 t1 t2 t3 fT hst
            have HS0 := Lib.hid (tk_succ (fun i => x + vx zs i) B0 k)
            have HS1 := Lib.hid (tk_succ (fun i => x + vx zs i) B2 k)
            have HS2 := Lib.hid (tk_succ (fun i => y + vy zs i) B1 k)
            have HS3 := Lib.hid (tk_succ (fun i => y + vy zs i) B3 k)
            generalize tk (fun i => x + vx zs i) B0 k = T0 at *
            generalize tk (fun i => x + vx zs i) B2 k = T1 at *
            generalize tk (fun i => y + vy zs i) B1 k = T2 at *
            generalize tk (fun i => y + vy zs i) B3 k = T3 at *
            generalize hbT : wc.heap.size = bT at *
            have HbT := Lib.hid hbT
            clear hbT
            have hst := setCell_if
            go_cut [18] (fun s18 wx => s18 = .pointer (some ⟨bv, 0, none⟩) ∧ wx = (W1.setCell ⟨bT, 0, none⟩ (.bool (T0 || decide (x + vx zs k = B0)))))
            case first =>
              cases T0
              · go_wp2_with (fail)
                all_goals (go_meet; exact ⟨rfl, by first | rfl | simp⟩)
              · go_wp2_with (fail)
                all_goals (go_meet; exact ⟨rfl, by first | rfl | simp⟩)
            obtain ⟨rfl, rfl⟩ := hcut
            go_upto_region 16 with (fail)
            go_cut [18] (fun s18 wx => s18 = .pointer (some ⟨bv, 0, none⟩) ∧ wx = ((W1.setCell ⟨bT, 0, none⟩ (.bool (T0 || decide (x + vx zs k = B0)))).setCell ⟨bT, 1, none⟩ (.bool (T1 || decide (x + vx zs k = B2)))))
            case first =>
              cases T1
              · go_wp2_with (fail)
                all_goals (go_meet; exact ⟨rfl, by first | rfl | simp⟩)
              · go_wp2_with (fail)
                all_goals (go_meet; exact ⟨rfl, by first | rfl | simp⟩)
            obtain ⟨rfl, rfl⟩ := hcut
            go_upto_region 17 with (fail)
            go_cut [18] (fun s18 wx => s18 = .pointer (some ⟨bv, 0, none⟩) ∧ wx = (((W1.setCell ⟨bT, 0, none⟩ (.bool (T0 || decide (x + vx zs k = B0)))).setCell ⟨bT, 1, none⟩ (.bool (T1 || decide (x + vx zs k = B2)))).setCell ⟨bT, 2, none⟩ (.bool (T2 || decide (y + vy zs k = B1)))))
            case first =>
              cases T2
              · go_wp2_with (fail)
                all_goals (go_meet; exact ⟨rfl, by first | rfl | simp⟩)
              · go_wp2_with (fail)
                all_goals (go_meet; exact ⟨rfl, by first | rfl | simp⟩)
            obtain ⟨rfl, rfl⟩ := hcut
            cases T3
            · go_wp2_with (fail)
              go_roundw
              case rel =>
                repeat apply Exists.intro
                simp only [HbT.out]
                refine ⟨⟨k + 1, by omega, by go_num, by (repeat (first | (with_reducible exact Below.refl _ _) | (with_reducible refine Below.drew ?_) | (with_reducible refine below_drewN ?_ _) | (with_reducible refine Below.setCell ?_ (by first | (simp; done) | (simp; omega) | omega) _) | (with_reducible refine Below.alloc ?_ (by first | (simp; done) | (simp; omega) | omega) _) | (with_reducible refine Below.trans ?_ (Below.mono (by assumption) (by first | (simp; done) | (simp; omega) | omega))) | (with_reducible refine Below.trans ?_ (Below.mono (Later.below _) (by first | (simp; done) | (simp; omega) | omega))))), by simp; omega, fun j => by simp [uF], ?_, ?_, ?_, ?_⟩, rfl⟩
                · rw [HS0.out]; simp [setCell_if, u0]
                · rw [HS1.out]; simp [setCell_if, u0, u1]
                · rw [HS2.out]; simp [setCell_if, u0, u1, u2]
                · rw [HS3.out]; first | (simp [setCell_if, u0, u1, u2, u3]; done) | (simp [setCell_if, u0, u1, u2, u3]; rfl)
              case measure => simp [intOf]; omega
            · go_wp2_with (fail)
              go_roundw
              case rel =>
                repeat apply Exists.intro
                simp only [HbT.out]
                refine ⟨⟨k + 1, by omega, by go_num, by (repeat (first | (with_reducible exact Below.refl _ _) | (with_reducible refine Below.drew ?_) | (with_reducible refine below_drewN ?_ _) | (with_reducible refine Below.setCell ?_ (by first | (simp; done) | (simp; omega) | omega) _) | (with_reducible refine Below.alloc ?_ (by first | (simp; done) | (simp; omega) | omega) _) | (with_reducible refine Below.trans ?_ (Below.mono (by assumption) (by first | (simp; done) | (simp; omega) | omega))) | (with_reducible refine Below.trans ?_ (Below.mono (Later.below _) (by first | (simp; done) | (simp; omega) | omega))))), by simp; omega, fun j => by simp [uF], ?_, ?_, ?_, ?_⟩, rfl⟩
                · rw [HS0.out]; simp [setCell_if, u0]
                · rw [HS1.out]; simp [setCell_if, u0, u1]
                · rw [HS2.out]; simp [setCell_if, u0, u1, u2]
                · rw [HS3.out]; first | (simp [setCell_if, u0, u1, u2, u3]; done) | (simp [setCell_if, u0, u1, u2, u3]; rfl)
              case measure => simp [intOf]; omega
          · obtain rfl : k = L := by omega
            rw [show B0 = mnTo (fun i => x + vx zs i) (k - 1) by rw [HhB0.out]; unfold bx0; rw [if_neg (by omega)], tk_mn _ k (by omega)] at t0
            rw [show B2 = mxTo (fun i => x + vx zs i) (k - 1) by rw [HhB2.out]; unfold bx1; rw [if_neg (by omega)], tk_mx _ k (by omega)] at t1
            rw [show B1 = mnTo (fun i => y + vy zs i) (k - 1) by rw [HhB1.out]; unfold by0; rw [if_neg (by omega)], tk_mn _ k (by omega)] at t2
            rw [show B3 = mxTo (fun i => y + vy zs i) (k - 1) by rw [HhB3.out]; unfold by1; rw [if_neg (by omega)], tk_mx _ k (by omega)] at t3
            have lv := lives_any
            have Hlv := Lib.hid lv; clear lv
            have heq4 : ∀ W : World, Sem.run Try.prog (Op.equalIn 10000 36 (.agg #[.bool true, .bool true, .bool true, .bool true]) (.agg #[.bool true, .bool true, .bool true, .bool true])) W = .ok true W := fun W => by kernel_rfl
            go_wp2_with (first | ((with_reducible refine (Hlv.out _).mono ?_); rintro e wE ⟨rfl, hbE⟩; obtain ⟨NE, hNE, hcE, hfE, hsE⟩ := bcell hbE; (try simp only [World.size_alloc, World.size_setCell, World.size_drew] at hNE)))
            go_ret
            exact ⟨rfl, (hBw6.trans (hB.mono hBw6.size)).trans (hbE.mono (by have := hB.size; have := hBw6.size; omega))⟩
end Go.Proofs.Ytiihnicmkenemaa.W
