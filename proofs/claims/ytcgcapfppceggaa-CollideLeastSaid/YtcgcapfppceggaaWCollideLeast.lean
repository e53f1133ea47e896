/-
  The walk of the law CollideLeast: it returns true at every input.
  Conditions: none.
-/
import Derived.Test.YtcgcapfppceggaaCoE
import Derived.Test.YtcgcapfppceggaaCoI
import Derived.Test.YtcgcapfppceggaaCoL
import Derived.Test.YtcgcapfppceggaaCoS
import Derived.Test.YtcgcapfppceggaaEq
import Derived.Test.YtcgcapfppceggaaShN
import Derived.Test.YtcgcapfppceggaaQe
import Derived.Deep.Cut
import Derived.Deep.CutRange
import Derived.Deep.DeepCutAuto
import Derived.Deep.RegionHeld3
namespace Go.Proofs.Ytcgcapfppceggaa.W
open Go.RowKit Go.Proofs.Ytcgcapfppceggaa.FxMath Go.Proofs.Ytcgcapfppceggaa.FxA Go.Proofs.Ytcgcapfppceggaa.Qt Go.Proofs.Ytcgcapfppceggaa.Ve Go.Proofs.Ytcgcapfppceggaa.Sh Go.Proofs.Ytcgcapfppceggaa.Co
set_option linter.unusedVariables false
set_option linter.unusedSimpArgs false
theorem axs_len {w : World} {ra : Int} {aa : Option Addr} {la ca : Nat} {za : List (Int × Int)} {rb : Int} {ab : Option Addr} {lb cb : Nat} {zb : List (Int × Int)} (hA : ShAt w ra aa la ca za) (hB : ShAt w rb ab lb cb zb) (dx dy : Int) : (axs za zb dx dy).length ≤ 1000 := by
  have e1 := hA.poly.len
  have e2 := hB.poly.len
  have l1 : la ≤ 6 := by rcases hA.kind with ⟨h, _⟩ | ⟨_, _, h, _⟩ <;> omega
  have l2 : lb ≤ 6 := by rcases hB.kind with ⟨h, _⟩ | ⟨_, _, h, _⟩ <;> omega
  have l3 : (cax za zb dx dy).length ≤ 1 := by unfold cax; split <;> split <;> simp
  unfold axs eax
  simp only [List.length_append, List.length_map, List.length_range]
  omega
set_option maxRecDepth 100000 in
set_option maxHeartbeats 4000000 in
theorem CollideLeast_walk (a0 a1 a2a a2b a2c a2d : Int) (w : World) (w0 : (Lit.int .i64 a0).wf = true) (w1 : (Lit.int .i64 a1).wf = true) (w2a : (Lit.int .i64 a2a).wf = true) (w2b : (Lit.int .i64 a2b).wf = true) (w2c : (Lit.int .i64 a2c).wf = true) (w2d : (Lit.int .i64 a2d).wf = true) :
    Calls Try.prog 7 #[.int .i64 a0, .int .i64 a1, .agg #[.int .i64 a2a, .int .i64 a2b, .int .i64 a2c, .int .i64 a2d]] w fun e w' => e = .returned (.bool true) ∧ Below w.heap.size w w' := by
  have cs0 := fun W => shape_any a0 W w0
  have cs1 := fun W => shape_any a1 W w1
  obtain ⟨la, hla⟩ : ∃ L, L = (shZ a0).length := ⟨_, rfl⟩
  obtain ⟨lb, hlb⟩ : ∃ L, L = (shZ a1).length := ⟨_, rfl⟩
  rw [← hla] at cs0
  rw [← hlb] at cs1
  generalize shR a0 = ra at *
  generalize shZ a0 = za at *
  generalize shR a1 = rb at *
  generalize shZ a1 = zb at *
  have lv := lives05
  have Hcs0 := Lib.hid cs0; have Hcs1 := Lib.hid cs1; have Hhla := Lib.hid hla; have Hhlb := Lib.hid hlb; have Hlv := Lib.hid lv; clear cs0 cs1 hla hlb lv
  have hal := alloc_if; have hfal := allocF_if
  go_enter Try.func7, Try.ntmps7
  go_upto_region 3 with (first | ((with_reducible refine (Hcs0.out _).mono ?_); rintro e WA ⟨aa, ca, rfl, hA, hbA, hxA⟩; obtain ⟨NA, hNA, hcA, hfA, hsA⟩ := bcell hbA; (try simp only [World.size_alloc, World.size_setCell, World.size_drew] at hNA)) | ((with_reducible refine (Hcs1.out _).mono ?_); rintro e WB ⟨ab, cb, rfl, hB, hbB, hxB⟩; obtain ⟨NB, hNB, hcB, hfB, hsB⟩ := bcell hbB; (try simp only [World.size_alloc, World.size_setCell, World.size_drew] at hNB)))
  have hA2 : ShAt WB ra aa la ca za := hA.later (by (repeat (first | (with_reducible exact Below.refl _ _) | (with_reducible refine Below.drew ?_) | (with_reducible refine below_drewN ?_ _) | (with_reducible refine Below.setCell ?_ (by first | (simp; done) | (simp; omega) | omega) _) | (with_reducible refine Below.alloc ?_ (by first | (simp; done) | (simp; omega) | omega) _) | (with_reducible refine Below.trans ?_ (Below.mono (by assumption) (by first | (simp; done) | (simp; omega) | omega))) | (with_reducible refine Below.trans ?_ (Below.mono (Later.below _) (by first | (simp; done) | (simp; omega) | omega))))))
  have cp := place_s hA2 hB a2a a2b a2c a2d w2a w2b w2c w2d
  have Hcp := Lib.hid cp; clear cp
  go_upto_region 4 with (((with_reducible refine (Hcp.out _ (by (repeat (first | (with_reducible exact Below.refl _ _) | (with_reducible refine Below.drew ?_) | (with_reducible refine below_drewN ?_ _) | (with_reducible refine Below.setCell ?_ (by first | (simp; done) | (simp; omega) | omega) _) | (with_reducible refine Below.alloc ?_ (by first | (simp; done) | (simp; omega) | omega) _) | (with_reducible refine Below.trans ?_ (Below.mono (by assumption) (by first | (simp; done) | (simp; omega) | omega))) | (with_reducible refine Below.trans ?_ (Below.mono (Later.below _) (by first | (simp; done) | (simp; omega) | omega))))))).mono ?_); rintro e wP ⟨⟨px, py, qx, qy, rfl, hp, hq⟩, hbP⟩; obtain ⟨NP, hNP, hcP, hfP, hsP⟩ := bcell hbP; (try simp only [World.size_alloc, World.size_setCell, World.size_drew] at hNP)))
  refine name_world fun W8 hW8 => ?_
  have t0 : W8.cell? ⟨WA.heap.size, 0, none⟩ = some (.int .i64 ra) := by rw [hW8]; simp [hcP, hcB, hal, ↓IntWalk.iteOmega]
  have t1 : W8.cell? ⟨WA.heap.size, 1, none⟩ = some (.slice aa la ca) := by rw [hW8]; simp [hcP, hcB, hal, ↓IntWalk.iteOmega]
  have u0 : W8.cell? ⟨WB.heap.size, 0, none⟩ = some (.int .i64 rb) := by rw [hW8]; simp [hcP, hal, ↓IntWalk.iteOmega]
  have u1 : W8.cell? ⟨WB.heap.size, 1, none⟩ = some (.slice ab lb cb) := by rw [hW8]; simp [hcP, hal, ↓IntWalk.iteOmega]
  have p0 : W8.cell? ⟨wP.heap.size, 0, none⟩ = some (.int .i64 px) := by rw [hW8]; simp [hal, ↓IntWalk.iteOmega]
  have p1 : W8.cell? ⟨wP.heap.size, 1, none⟩ = some (.int .i64 py) := by rw [hW8]; simp [hal, ↓IntWalk.iteOmega]
  have q0 : W8.cell? ⟨wP.heap.size + 1, 0, none⟩ = some (.int .i64 qx) := by rw [hW8]; simp [hal, ↓IntWalk.iteOmega]
  have q1 : W8.cell? ⟨wP.heap.size + 1, 1, none⟩ = some (.int .i64 qy) := by rw [hW8]; simp [hal, ↓IntWalk.iteOmega]
  have hbW : Below w.heap.size w W8 := by rw [hW8]; (repeat (first | (with_reducible exact Below.refl _ _) | (with_reducible refine Below.drew ?_) | (with_reducible refine below_drewN ?_ _) | (with_reducible refine Below.setCell ?_ (by first | (simp; done) | (simp; omega) | omega) _) | (with_reducible refine Below.alloc ?_ (by first | (simp; done) | (simp; omega) | omega) _) | (with_reducible refine Below.trans ?_ (Below.mono (by assumption) (by first | (simp; done) | (simp; omega) | omega))) | (with_reducible refine Below.trans ?_ (Below.mono (Later.below _) (by first | (simp; done) | (simp; omega) | omega)))))
  have hbV : Below WB.heap.size WB W8 := by rw [hW8]; (repeat (first | (with_reducible exact Below.refl _ _) | (with_reducible refine Below.drew ?_) | (with_reducible refine below_drewN ?_ _) | (with_reducible refine Below.setCell ?_ (by first | (simp; done) | (simp; omega) | omega) _) | (with_reducible refine Below.alloc ?_ (by first | (simp; done) | (simp; omega) | omega) _) | (with_reducible refine Below.trans ?_ (Below.mono (by assumption) (by first | (simp; done) | (simp; omega) | omega))) | (with_reducible refine Below.trans ?_ (Below.mono (Later.below _) (by first | (simp; done) | (simp; omega) | omega)))))
  have gA : ShAt W8 ra aa la ca za := hA2.later hbV
  have gB : ShAt W8 rb ab lb cb zb := hB.later hbV
  have sw : w.heap.size ≤ W8.heap.size := hbW.size
  have l0 : WA.heap.size < W8.heap.size := World.block_lt_of_cell? _ _ t0
  have l1 : WB.heap.size < W8.heap.size := World.block_lt_of_cell? _ _ u0
  have l2 : wP.heap.size + 1 < W8.heap.size := World.block_lt_of_cell? _ _ q0
  obtain ⟨bA, hbA'⟩ : ∃ b, b = WA.heap.size := ⟨_, rfl⟩
  obtain ⟨bB, hbB'⟩ : ∃ b, b = WB.heap.size := ⟨_, rfl⟩
  obtain ⟨bP, hbP'⟩ : ∃ b, b = wP.heap.size := ⟨_, rfl⟩
  rw [← hbP'] at p0 p1 q0 q1 l2 ⊢
  rw [← hbB'] at u0 u1 l1 ⊢
  rw [← hbA'] at t0 t1 l0 ⊢
  clear hbA hbB hbP hcA hcB hcP hfA hfB hfP hA hB hA2 hxA hxB hW8 hsA hsB hsP hNA hNB hNP NA NB NP hbV hbA' hbB' hbP' Hcs0 Hcs1 Hcp
  clear wP WA WB
  have nn1 := axs_len gA gB (qx - px) (qy - py)
  have hnz : (axs za zb (qx - px) (qy - py)).length ≠ 0 := fun h => axs_ne za zb (qx - px) (qy - py) (List.eq_nil_of_length_eq_zero h)
  have cb1 := bounds_s gA px py (by omega) (by omega)
  have cb2 := bounds_s gB qx qy (by omega) (by omega)
  have cov := overlap_s (ra := ra) (rb := rb) gA.poly.len gB.poly.len px py qx qy
  have ca1 := axes_s gA gB (px := px) (py := py) (qx := qx) (qy := qy) (by omega) (by omega)
  have cc1 := fun V (hV : Below W8.heap.size W8 V) => collide_at (gA.later hV) (gB.later hV) (px := px) (py := py) (qx := qx) (qy := qy) (by omega) (by omega)
  have lf := least_false ra za px py rb zb qx qy
  have lt := least_true ra za px py rb zb qx qy
  have lu := least_full ra za px py rb zb qx qy
  have ci := cis_iff ra za px py rb zb qx qy
  have hbd := axs_bd za zb (qx - px) (qy - py)
  generalize bx0 ra la za px = A0 at *
  generalize by0 ra la za py = A1 at *
  generalize bx1 ra la za px = A2 at *
  generalize by1 ra la za py = A3 at *
  generalize bx0 rb lb zb qx = B0 at *
  generalize by0 rb lb zb qy = B1 at *
  generalize bx1 rb lb zb qx = B2 at *
  generalize by1 rb lb zb qy = B3 at *
  obtain ⟨ov, hov⟩ : ∃ o, o = ovl ra za px py rb zb qx qy := ⟨_, rfl⟩
  rw [← hov] at cov ci
  obtain ⟨D, hD⟩ : ∃ D, D = dpt ra za px py rb zb qx qy := ⟨_, rfl⟩
  rw [← hD] at lt lu ci
  rw [← lu] at lt ci
  generalize cis ra za px py rb zb qx qy = i1 at *
  generalize cdp ra za px py rb zb qx qy = d1 at *
  generalize cnx ra za px py rb zb qx qy = x1 at *
  generalize cny ra za px py rb zb qx qy = y1 at *
  generalize hn : (axs za zb (qx - px) (qy - py)).length = n at *
  obtain ⟨L, hL⟩ : ∃ L, L = axs za zb (qx - px) (qy - py) := ⟨_, rfl⟩
  rw [← hL] at ca1 lt lu ci hbd hn
  clear lu hov
  have Hci := Lib.hid ci
  have Hlf := Lib.hid lf
  have Hlt := Lib.hid lt
  have HD := Lib.hid hD
  clear ci lf lt hD
  have Hcb1 := Lib.hid cb1; have Hcb2 := Lib.hid cb2; have Hcov := Lib.hid cov; have Hca1 := Lib.hid ca1; have Hcc1 := Lib.hid cc1; have HhL := Lib.hid hL; have Hhbd := Lib.hid hbd; clear cb1 cb2 cov ca1 cc1 hL hbd
  refine wp_region_later (by kernel_rfl) (by kernel_rfl) fun NL hL => ?_; obtain ⟨hNL, hlc, hlf⟩ := hL; (try simp only [World.size_alloc, World.size_setCell, World.size_drew] at hNL)
  repeat (go_big_quiet_step (first | (with_reducible exact later_call (Hcb1.out _ (by (repeat (first | exact Below.refl _ _ | (with_reducible refine Below.drew ?_) | (with_reducible refine below_drewN ?_ _) | (with_reducible refine Below.setCell ?_ (by first | (simp; done) | (simp; omega) | omega) _) | (with_reducible refine Below.alloc ?_ (by first | (simp; done) | (simp; omega) | omega) _) | (with_reducible refine Below.trans ?_ (Below.mono (by assumption) (by first | (simp; done) | (simp; omega) | omega))) | (with_reducible refine Below.trans ?_ (Below.mono (Later.below _) (by first | (simp; done) | (simp; omega) | omega)))))))) | (with_reducible exact later_call (Hcb2.out _ (by (repeat (first | exact Below.refl _ _ | (with_reducible refine Below.drew ?_) | (with_reducible refine below_drewN ?_ _) | (with_reducible refine Below.setCell ?_ (by first | (simp; done) | (simp; omega) | omega) _) | (with_reducible refine Below.alloc ?_ (by first | (simp; done) | (simp; omega) | omega) _) | (with_reducible refine Below.trans ?_ (Below.mono (by assumption) (by first | (simp; done) | (simp; omega) | omega))) | (with_reducible refine Below.trans ?_ (Below.mono (Later.below _) (by first | (simp; done) | (simp; omega) | omega)))))))) | (with_reducible exact later_call (Hcov.out _))))
  (refine wpQuiet_nil ?_; intro w1 hw1; obtain ⟨⟨w1, hb1⟩, rfl⟩ := hw1; clear hlc hlf hNL NL; obtain ⟨N1, hN1, hc1, hf1, hs1⟩ := bcell hb1; (try simp only [World.size_alloc, World.size_setCell, World.size_drew] at hN1))
  go_upto_region 7 with (first | ((with_reducible refine (Hca1.out _ (by (repeat (first | (with_reducible exact Below.refl _ _) | (with_reducible refine Below.drew ?_) | (with_reducible refine below_drewN ?_ _) | (with_reducible refine Below.setCell ?_ (by first | (simp; done) | (simp; omega) | omega) _) | (with_reducible refine Below.alloc ?_ (by first | (simp; done) | (simp; omega) | omega) _) | (with_reducible refine Below.trans ?_ (Below.mono (by assumption) (by first | (simp; done) | (simp; omega) | omega))) | (with_reducible refine Below.trans ?_ (Below.mono (Later.below _) (by first | (simp; done) | (simp; omega) | omega))))))).mono ?_); rintro e wA ⟨v, rfl, hown, hbA⟩; obtain ⟨NA, hNA, hcA, hfA, hsA⟩ := bcell hbA; (try simp only [World.size_alloc, World.size_setCell, World.size_drew] at hNA)) | ((with_reducible refine (Hcc1.out _ (by (repeat (first | (with_reducible exact Below.refl _ _) | (with_reducible refine Below.drew ?_) | (with_reducible refine below_drewN ?_ _) | (with_reducible refine Below.setCell ?_ (by first | (simp; done) | (simp; omega) | omega) _) | (with_reducible refine Below.alloc ?_ (by first | (simp; done) | (simp; omega) | omega) _) | (with_reducible refine Below.trans ?_ (Below.mono (by assumption) (by first | (simp; done) | (simp; omega) | omega))) | (with_reducible refine Below.trans ?_ (Below.mono (Later.below _) (by first | (simp; done) | (simp; omega) | omega))))))).mono ?_); rintro e wC ⟨rfl, hbC⟩; obtain ⟨NC, hNC, hcC, hfC, hsC⟩ := bcell hbC; (try simp only [World.size_alloc, World.size_setCell, World.size_drew] at hNC)))
  obtain ⟨_, al, capl, rfl, hpl⟩ := poly_of_row hown
  have h18 := hb1.size
  refine name_world fun W9 hW9 => ?_
  have hb9 : Below W8.heap.size W8 W9 := by rw [hW9]; exact (hb1.trans (hbA.mono h18)).trans (Below.mono ((hbC).alloc (by have := hbC.size; omega) _) (by have := hbA.size; omega))
  have hpl9 : IsPoly W9 al n capl L := hpl.later (by rw [hW9]; (repeat (first | (with_reducible exact Below.refl _ _) | (with_reducible refine Below.drew ?_) | (with_reducible refine below_drewN ?_ _) | (with_reducible refine Below.setCell ?_ (by first | (simp; done) | (simp; omega) | omega) _) | (with_reducible refine Below.alloc ?_ (by first | (simp; done) | (simp; omega) | omega) _) | (with_reducible refine Below.trans ?_ (Below.mono (by assumption) (by first | (simp; done) | (simp; omega) | omega))) | (with_reducible refine Below.trans ?_ (Below.mono (Later.below _) (by first | (simp; done) | (simp; omega) | omega))))))
  have k0 : W9.cell? ⟨wC.heap.size, 0, none⟩ = some (.int .i64 x1) := by rw [hW9]; simp [hal, ↓IntWalk.iteOmega]
  have k1 : W9.cell? ⟨wC.heap.size, 1, none⟩ = some (.int .i64 y1) := by rw [hW9]; simp [hal, ↓IntWalk.iteOmega]
  have k2 : W9.cell? ⟨wC.heap.size, 2, none⟩ = some (.int .i64 d1) := by rw [hW9]; simp [hal, ↓IntWalk.iteOmega]
  have s9 := hb9.size
  have l4 : wC.heap.size < W9.heap.size := World.block_lt_of_cell? _ _ k0
  obtain ⟨bC, hbC'⟩ : ∃ b, b = wC.heap.size := ⟨_, rfl⟩
  rw [← hbC'] at k0 k1 k2 l4 ⊢
  have y0 := cell_below hb9 t0
  have y1' := cell_below hb9 t1
  have y2 := cell_below hb9 u0
  have y3 := cell_below hb9 u1
  have y4 := cell_below hb9 p0
  have y5 := cell_below hb9 p1
  have y6 := cell_below hb9 q0
  have y7 := cell_below hb9 q1
  have gA9 := gA.later hb9
  have gB9 := gB.later hb9
  have l0' : bA < W9.heap.size := by omega
  have l1' : bB < W9.heap.size := by omega
  have l2' : bP + 1 < W9.heap.size := by omega
  clear hown hpl hbA hbC hcA hcC hfA hfC hsA hsC hNA hNC hb1 hc1 hf1 hN1 hs1 hW9 hbC' t0 t1 u0 u1 p0 p1 q0 q1 Hca1 Hcc1 Hcb1 Hcb2 Hcov h18 hal hfal gA gB
  go_wp2
  have hnM : n ≤ 1000 := nn1
  have Hpl := Lib.hid hpl9
  clear hpl9
  go_loopw [15, 16, 17] (fun ls at' i wr => ∃ k : Nat, k ≤ n ∧ i = .int .i64 k ∧ ls = .int .i64 (rb2 D L k) ∧ at' = .bool (atB D L d1 x1 y1 k) ∧ Below W9.heap.size W9 wr)
    (fun _ _ i _ => n - (intOf i).toNat)
  case atStart => exact ⟨0, Nat.zero_le _, rfl, rfl, rfl, Below.refl _ _⟩
  case round =>
    obtain ⟨k, hk, rfl, rfl, rfl, hB⟩ := hrel
    have hws := hB.size
    have z0 := cell_below hB y0
    have z1 := cell_below hB y1'
    have z2 := cell_below hB y2
    have z3 := cell_below hB y3
    have z4 := cell_below hB y4
    have z5 := cell_below hB y5
    have z6 := cell_below hB y6
    have z7 := cell_below hB y7
    have e0 := cell_below hB k0
    have e1 := cell_below hB k1
    have e2 := cell_below hB k2
    have m0 : bA < wr.heap.size := by omega
    have m1 : bB < wr.heap.size := by omega
    have m2 : bP + 1 < wr.heap.size := by omega
    have m3 : bC < wr.heap.size := by omega
    have gAr := gA9.later hB
    have gBr := gB9.later hB
    clear y0 y1' y2 y3 y4 y5 y6 y7 k0 k1 k2
    by_cases hlt : k < n
    · rcases Hpl.out.later hB with ⟨_, h, _⟩ | ⟨b, o, rfl, hzl, hle, hcm, hcell⟩
      · omega
      unfold maxLen at hcm
      have v0 := (hcell k hlt).1
      have v1 := (hcell k hlt).2
      have lbw := World.block_lt_of_cell? _ _ v0
      simp only at lbw
      have hmem : (vx L k, vy L k) ∈ L := by
        have : L.getD k (0, 0) ∈ L := by
          rw [List.getD_eq_getElem?_getD, List.getElem?_eq_getElem (by omega)]
          exact List.getElem_mem _
        exact this
      obtain ⟨n1, n2, n3, n4⟩ := Hhbd.out _ hmem
      simp only at n1 n2 n3 n4
      have hstep := rb_step D L k (by omega) (vx L k) (vy L k) (D (vx L k, vy L k)) rfl rfl rfl
      have hat : atB D L d1 x1 y1 (k + 1) = (atB D L d1 x1 y1 k || (decide (D (vx L k, vy L k) = d1) && ((decide (vx L k = x1) && decide (vy L k = y1)) || (decide (-vx L k = x1) && decide (-vy L k = y1))))) := rfl
      have c1 := project_s gAr px py (vx L k) (vy L k) (by omega) (by omega) (by omega) (by omega)
      have c2 := project_s gBr qx qy (vx L k) (vy L k) (by omega) (by omega) (by omega) (by omega)
      have cn := neg_any (vx L k) (vy L k) (by omega) (by omega) (by omega) (by omega)
      have b1 := prj_bd gAr px py (vx L k) (vy L k) (by omega) (by omega) (by omega) (by omega)
      have b2 := prj_bd gBr qx qy (vx L k) (vy L k) (by omega) (by omega) (by omega) (by omega)
      have hd : D (vx L k, vy L k) = min (phi ra la za px py (vx L k) (vy L k)) (phi rb lb zb qx qy (vx L k) (vy L k)) - max (plo ra la za px py (vx L k) (vy L k)) (plo rb lb zb qx qy (vx L k) (vy L k)) := by
        rw [HD.out]
        unfold dpt ph pl
        rw [gAr.poly.len, gBr.poly.len]
      generalize phi ra la za px py (vx L k) (vy L k) = h1 at *
      generalize phi rb lb zb qx qy (vx L k) (vy L k) = h2 at *
      generalize plo ra la za px py (vx L k) (vy L k) = l1 at *
      generalize plo rb lb zb qx qy (vx L k) (vy L k) = l2 at *
      obtain ⟨d, hd'⟩ : ∃ d, d = D (vx L k, vy L k) := ⟨_, rfl⟩
      rw [← hd'] at hstep hd hat
      have hdd : min h1 h2 - max l1 l2 = d := hd.symm
      obtain ⟨⟨b11, b12⟩, b13, b14⟩ := b1
      obtain ⟨⟨b21, b22⟩, b23, b24⟩ := b2
      have bd1 : -100000000000000 ≤ d := by omega
      have bd2 : d ≤ 100000000000000 := by omega
      obtain ⟨st1, st2⟩ := hstep
      have Hst1 := Lib.hid (fun h => (st1 h).2.2)
      have Hst2 := Lib.hid (fun h h' => (st2 h h').2.2)
      have Hat := Lib.hid hat
      have Hc1 := Lib.hid c1; have Hc2 := Lib.hid c2; have Hcn := Lib.hid cn; clear c1 c2 cn
      clear st1 st2 hat hcell hd hd' hmem n1 n2 n3 n4
      have hltI : (k : Int) < (n : Int) := by omega
      have hal := alloc_if; have hfal := allocF_if
      go_wp2
      refine wp_region_later (by kernel_rfl) (by kernel_rfl) fun NL hL => ?_; obtain ⟨hNL, hlc, hlf⟩ := hL; (try simp only [World.size_alloc, World.size_setCell, World.size_drew] at hNL)
      repeat (go_big_quiet_step (first | (with_reducible exact later_call (Hc1.out _ (by (repeat (first | exact Below.refl _ _ | (with_reducible refine Below.drew ?_) | (with_reducible refine below_drewN ?_ _) | (with_reducible refine Below.setCell ?_ (by first | (simp; done) | (simp; omega) | omega) _) | (with_reducible refine Below.alloc ?_ (by first | (simp; done) | (simp; omega) | omega) _) | (with_reducible refine Below.trans ?_ (Below.mono (by assumption) (by first | (simp; done) | (simp; omega) | omega))) | (with_reducible refine Below.trans ?_ (Below.mono (Later.below _) (by first | (simp; done) | (simp; omega) | omega))))))))))
      (refine wpQuiet_nil ?_; intro w1 hw1; obtain ⟨⟨w1, hb1⟩, rfl⟩ := hw1; clear hlc hlf hNL NL; obtain ⟨N1, hN1, hc1, hf1, hs1⟩ := bcell hb1; (try simp only [World.size_alloc, World.size_setCell, World.size_drew] at hN1))
      have hbA1 : Below wr.heap.size wr w1 := by (repeat (first | (with_reducible exact Below.refl _ _) | (with_reducible refine Below.drew ?_) | (with_reducible refine below_drewN ?_ _) | (with_reducible refine Below.setCell ?_ (by first | (simp; done) | (simp; omega) | omega) _) | (with_reducible refine Below.alloc ?_ (by first | (simp; done) | (simp; omega) | omega) _) | (with_reducible refine Below.trans ?_ (Below.mono (by assumption) (by first | (simp; done) | (simp; omega) | omega))) | (with_reducible refine Below.trans ?_ (Below.mono (Later.below _) (by first | (simp; done) | (simp; omega) | omega)))))
      have lA1 := hbA1.size
      go_upto_region 13 with (fail)
      refine wp_region_later (by kernel_rfl) (by kernel_rfl) fun NL hL => ?_; obtain ⟨hNL, hlc, hlf⟩ := hL; (try simp only [World.size_alloc, World.size_setCell, World.size_drew] at hNL)
      repeat (go_big_quiet_step (first | (with_reducible exact later_call (Hc2.out _ (by (repeat (first | exact Below.refl _ _ | (with_reducible refine Below.drew ?_) | (with_reducible refine below_drewN ?_ _) | (with_reducible refine Below.setCell ?_ (by first | (simp; done) | (simp; omega) | omega) _) | (with_reducible refine Below.alloc ?_ (by first | (simp; done) | (simp; omega) | omega) _) | (with_reducible refine Below.trans ?_ (Below.mono (by assumption) (by first | (simp; done) | (simp; omega) | omega))) | (with_reducible refine Below.trans ?_ (Below.mono (Later.below _) (by first | (simp; done) | (simp; omega) | omega))))))))))
      (refine wpQuiet_nil ?_; intro w1 hw1; obtain ⟨⟨w1, hb1⟩, rfl⟩ := hw1; clear hlc hlf hNL NL; obtain ⟨N1, hN1, hc1, hf1, hs1⟩ := bcell hb1; (try simp only [World.size_alloc, World.size_setCell, World.size_drew] at hN1))
      have hbX : Below wr.heap.size wr w1 := hbA1.trans (hb1.mono lA1)
      have f0 := cell_below hbX v0
      have f1 := cell_below hbX v1
      have g0 := cell_below hbX e0
      have g1 := cell_below hbX e1
      have g2 := cell_below hbX e2
      have sX := hbX.size
      have lb1 : b < w1.heap.size := by omega
      have lC1 : bC < w1.heap.size := by omega
      have hBX := hB.trans (hbX.mono hws)
      obtain ⟨β, hβ⟩ : ∃ β, β = atB D L d1 x1 y1 k := ⟨_, rfl⟩
      obtain ⟨ls, hls⟩ : ∃ l, l = rb2 D L k := ⟨_, rfl⟩
      rw [← hβ, ← hls]
      have Hat' := Hat.out
      rw [← hβ] at Hat'
      have HHat := Lib.hid Hat'
      have HS1 := Lib.hid (show k = 0 ∨ d < ls → rb2 D L (k + 1) = d from fun h => Hst1.out (by rw [← hls]; exact h))
      have HS2 := Lib.hid (show ¬ k = 0 → ¬ d < ls → rb2 D L (k + 1) = ls from fun h h' => by rw [hls]; exact Hst2.out h (by rw [← hls]; omega))
      have HBX := Lib.hid hBX
      clear Hat' Hat Hst1 Hst2 hβ hls z0 z1 z2 z3 z4 z5 z6 z7 e0 e1 e2 v0 v1 hb1 hc1 hf1 hN1 hs1 N1 hbX hbA1 hBX hal hfal
      -- regions 14 to 17: three ways of the least (k = 0; d < ls; else), then the guards of region 17
      have way : (k = 0 ∨ d < ls) ∨ (¬ k = 0 ∧ ¬ d < ls) := by omega
      generalize hvx : vx L k = X at *
      generalize hvy : vy L k = Y at *
      have hal := alloc_if; have hfal := allocF_if
      go_upto_region 15 with (fail)
      go_cut [93] (fun s93 wx => s93 = .bool (decide (k = 0 ∨ d < ls)) ∧ wx = w1)
      case first =>
        rcases Nat.eq_zero_or_pos k with rfl | h0
        · go_wp2
          go_meet
          refine ⟨congrArg Value.bool ?_, rfl⟩
          simp
        · have hkb : ((k : Int) == 0) = false := beq_eq_false_iff_ne.2 (by omega)
          have hkn : ¬ k = 0 := by omega
          by_cases h1 : d < ls
          · go_wp2
            go_meet
            refine ⟨congrArg Value.bool ?_, rfl⟩
            simp [hkn, h1]
          · go_wp2
            go_meet
            refine ⟨congrArg Value.bool ?_, rfl⟩
            simp [hkn, h1]
      case rest =>
        obtain ⟨rfl, rfl⟩ := hcut
        go_upto_if 93 with (fail)
        go_cut [15] (fun s15 wx => s15 = .int .i64 (rb2 D L (k + 1)) ∧ wx = wc)
        case first =>
          by_cases h0 : k = 0 ∨ d < ls
          · rw [decide_eq_true h0]
            have hE := Lib.hid (HS1.out h0)
            clear h0
            go_wp2
            go_meet
            exact ⟨by rw [hE.out], rfl⟩
          · have h1 : ¬ k = 0 := fun h => h0 (.inl h)
            have h2 : ¬ d < ls := fun h => h0 (.inr h)
            rw [decide_eq_false h0]
            have hE := Lib.hid (HS2.out h1 h2)
            clear h0 h1 h2
            go_wp2
            go_meet
            exact ⟨by rw [hE.out], rfl⟩
        case rest =>
          obtain ⟨rfl, rfl⟩ := hcut
          clear way HS1 HS2
          obtain ⟨rbk, hrb⟩ : ∃ r, r = rb2 D L (k + 1) := ⟨_, rfl⟩
          rw [← hrb]
          have Hrb := Lib.hid hrb
          clear hrb
          cases β
          · by_cases hd1 : d = d1
            · have hdt : decide (d = d1) = true := decide_eq_true hd1
              have hdt' : (d == d1) = true := by simpa using hd1
              obtain ⟨β1, hβ1⟩ : ∃ β, (decide (X = x1) && decide (Y = y1)) = β := ⟨_, rfl⟩
              obtain ⟨β2, hβ2⟩ : ∃ β, (decide (-X = x1) && decide (-Y = y1)) = β := ⟨_, rfl⟩
              have heqV1 : ∀ W : World, Sem.run Try.prog (Op.equalIn 10000 29 (.agg #[.int .i64 X, .int .i64 Y]) (.agg #[.int .i64 x1, .int .i64 y1])) W = .ok β1 W := fun W => by rw [eqVec, ← hβ1]; rfl
              have heqV2 : ∀ W : World, Sem.run Try.prog (Op.equalIn 10000 29 (.agg #[.int .i64 (-X), .int .i64 (-Y)]) (.agg #[.int .i64 x1, .int .i64 y1])) W = .ok β2 W := fun W => by rw [eqVec, ← hβ2]; rfl
              have hat1 := HHat.out
              rw [hdt, hβ1, hβ2] at hat1
              have HH1 := Lib.hid hat1
              clear hat1 HHat
              clear hβ1 hβ2
              cases β1
              · cases β2
                · go_upto_region 17 with (fail)
                  refine wp_region_later (by kernel_rfl) (by kernel_rfl) fun NL hL => ?_; obtain ⟨hNL, hlc, hlf⟩ := hL; (try simp only [World.size_alloc, World.size_setCell, World.size_drew] at hNL)
                  repeat (go_big_quiet_step (first | (with_reducible exact later_call (Hcn.out _))))
                  (refine wpQuiet_nil ?_; intro w1 hw1; obtain ⟨⟨w1, hb1⟩, rfl⟩ := hw1; clear hlc hlf hNL NL; obtain ⟨N1, hN1, hc1, hf1, hs1⟩ := bcell hb1; (try simp only [World.size_alloc, World.size_setCell, World.size_drew] at hN1))
                  go_wp2
                  go_roundw
                  case rel => exact ⟨k + 1, by omega, by go_num, by rw [Hrb.out], by rw [HH1.out]; rfl, HBX.out.trans (Below.mono hb1 HBX.out.size)⟩
                  case measure => simp [intOf]; omega
                · go_upto_region 17 with (fail)
                  refine wp_region_later (by kernel_rfl) (by kernel_rfl) fun NL hL => ?_; obtain ⟨hNL, hlc, hlf⟩ := hL; (try simp only [World.size_alloc, World.size_setCell, World.size_drew] at hNL)
                  repeat (go_big_quiet_step (first | (with_reducible exact later_call (Hcn.out _))))
                  (refine wpQuiet_nil ?_; intro w1 hw1; obtain ⟨⟨w1, hb1⟩, rfl⟩ := hw1; clear hlc hlf hNL NL; obtain ⟨N1, hN1, hc1, hf1, hs1⟩ := bcell hb1; (try simp only [World.size_alloc, World.size_setCell, World.size_drew] at hN1))
                  go_wp2
                  go_roundw
                  case rel => exact ⟨k + 1, by omega, by go_num, by rw [Hrb.out], by rw [HH1.out]; rfl, HBX.out.trans (Below.mono hb1 HBX.out.size)⟩
                  case measure => simp [intOf]; omega
              · go_upto_region 17 with (fail)
                refine wp_region_later (by kernel_rfl) (by kernel_rfl) fun NL hL => ?_; obtain ⟨hNL, hlc, hlf⟩ := hL; (try simp only [World.size_alloc, World.size_setCell, World.size_drew] at hNL)
                repeat (go_big_quiet_step (first | (with_reducible exact later_call (Hcn.out _))))
                (refine wpQuiet_nil ?_; intro w1 hw1; obtain ⟨⟨w1, hb1⟩, rfl⟩ := hw1; clear hlc hlf hNL NL; obtain ⟨N1, hN1, hc1, hf1, hs1⟩ := bcell hb1; (try simp only [World.size_alloc, World.size_setCell, World.size_drew] at hN1))
                go_wp2
                go_roundw
                case rel => exact ⟨k + 1, by omega, by go_num, by rw [Hrb.out], by rw [HH1.out]; rfl, HBX.out.trans (Below.mono hb1 HBX.out.size)⟩
                case measure => simp [intOf]; omega
            · have hdf : decide (d = d1) = false := decide_eq_false hd1
              have hdf' : (d == d1) = false := by simpa using hd1
              have hat1 := HHat.out
              rw [hdf] at hat1
              have HH1 := Lib.hid hat1
              go_upto_region 17 with (fail)
              refine wp_region_later (by kernel_rfl) (by kernel_rfl) fun NL hL => ?_; obtain ⟨hNL, hlc, hlf⟩ := hL; (try simp only [World.size_alloc, World.size_setCell, World.size_drew] at hNL)
              repeat (go_big_quiet_step (first | (with_reducible exact later_call (Hcn.out _))))
              (refine wpQuiet_nil ?_; intro w1 hw1; obtain ⟨⟨w1, hb1⟩, rfl⟩ := hw1; clear hlc hlf hNL NL; obtain ⟨N1, hN1, hc1, hf1, hs1⟩ := bcell hb1; (try simp only [World.size_alloc, World.size_setCell, World.size_drew] at hN1))
              go_wp2
              go_roundw
              case rel => exact ⟨k + 1, by omega, by go_num, by rw [Hrb.out], by rw [HH1.out]; rfl, HBX.out.trans (Below.mono hb1 HBX.out.size)⟩
              case measure => simp [intOf]; omega
          · go_upto_region 17 with (fail)
            refine wp_region_later (by kernel_rfl) (by kernel_rfl) fun NL hL => ?_; obtain ⟨hNL, hlc, hlf⟩ := hL; (try simp only [World.size_alloc, World.size_setCell, World.size_drew] at hNL)
            repeat (go_big_quiet_step (first | (with_reducible exact later_call (Hcn.out _))))
            (refine wpQuiet_nil ?_; intro w1 hw1; obtain ⟨⟨w1, hb1⟩, rfl⟩ := hw1; clear hlc hlf hNL NL; obtain ⟨N1, hN1, hc1, hf1, hs1⟩ := bcell hb1; (try simp only [World.size_alloc, World.size_setCell, World.size_drew] at hN1))
            go_wp2
            go_roundw
            case rel => exact ⟨k + 1, by omega, by go_num, by rw [Hrb.out], by rw [HHat.out]; rfl, HBX.out.trans (Below.mono hb1 HBX.out.size)⟩
            case measure => simp [intOf]; omega
    · obtain rfl : k = n := by omega
      have ci := Hci.out
      have lf := Hlf.out
      have lt := Hlt.out
      obtain ⟨ls, hls⟩ : ∃ l, l = rb2 D L k := ⟨_, rfl⟩
      obtain ⟨at', hat'⟩ : ∃ l, l = atB D L d1 x1 y1 k := ⟨_, rfl⟩
      rw [← hls] at ci lt ⊢
      rw [← hat'] at lt ⊢
      have hBw : Below w.heap.size w wr := (hbW.trans (hb9.mono sw)).trans (hB.mono (by omega))
      have hsz := hBw.size
      have hkI : ((k : Int) == 0) = false := beq_eq_false_iff_ne.2 (by omega)
      clear Hci Hlf Hlt HD HhL Hhbd hls hat' hB hb9
      have hal := alloc_if; have hfal := allocF_if
      cases i1
      · obtain ⟨rfl, rfl, rfl⟩ := lf rfl
        have hcond : (ov && decide (0 < ls)) = false := ci.symm
        clear lt lf ci
        cases ov
        · go_wp2_with (first | ((with_reducible refine (Hlv.out _).mono ?_); rintro e wJ ⟨rfl, hbJ⟩; obtain ⟨NJ, hNJ, hcJ, hfJ, hsJ⟩ := bcell hbJ; (try simp only [World.size_alloc, World.size_setCell, World.size_drew] at hNJ)))
          go_ret
          exact ⟨rfl, hBw.trans (Below.mono (by (repeat (first | (with_reducible exact Below.refl _ _) | (with_reducible refine Below.drew ?_) | (with_reducible refine below_drewN ?_ _) | (with_reducible refine Below.setCell ?_ (by first | (simp; done) | (simp; omega) | omega) _) | (with_reducible refine Below.alloc ?_ (by first | (simp; done) | (simp; omega) | omega) _) | (with_reducible refine Below.trans ?_ (Below.mono (by assumption) (by first | (simp; done) | (simp; omega) | omega))) | (with_reducible refine Below.trans ?_ (Below.mono (Later.below _) (by first | (simp; done) | (simp; omega) | omega)))))) hsz)⟩
        · have hls : ¬ 0 < ls := by simpa using hcond
          go_wp2_with (first | ((with_reducible refine (Hlv.out _).mono ?_); rintro e wJ ⟨rfl, hbJ⟩; obtain ⟨NJ, hNJ, hcJ, hfJ, hsJ⟩ := bcell hbJ; (try simp only [World.size_alloc, World.size_setCell, World.size_drew] at hNJ)))
          go_ret
          exact ⟨rfl, hBw.trans (Below.mono (by (repeat (first | (with_reducible exact Below.refl _ _) | (with_reducible refine Below.drew ?_) | (with_reducible refine below_drewN ?_ _) | (with_reducible refine Below.setCell ?_ (by first | (simp; done) | (simp; omega) | omega) _) | (with_reducible refine Below.alloc ?_ (by first | (simp; done) | (simp; omega) | omega) _) | (with_reducible refine Below.trans ?_ (Below.mono (by assumption) (by first | (simp; done) | (simp; omega) | omega))) | (with_reducible refine Below.trans ?_ (Below.mono (Later.below _) (by first | (simp; done) | (simp; omega) | omega)))))) hsz)⟩
      · obtain ⟨hov, hls⟩ : ov = true ∧ 0 < ls := by simpa using ci.symm
        obtain ⟨rfl, ⟨x11, x12, y11, y12⟩, hdot, rfl⟩ := lt rfl
        subst hov
        obtain ⟨p1, p2, p3, p4⟩ := hp
        obtain ⟨r1, r2, r3, r4⟩ := hq
        have m1 := mul_bd (a := qx - px) (b := x1) (A := 2000000) (B := 1024) (by omega) (by omega) (by omega) (by omega)
        have m2 := mul_bd (a := qy - py) (b := y1) (A := 2000000) (B := 1024) (by omega) (by omega) (by omega) (by omega)
        have cs := sub_any qx qy px py (by omega) (by omega) (by omega) (by omega)
        have cd := dot_any (qx - px) (qy - py) x1 y1 (by omega) (by omega) (by omega) (by omega)
        generalize ((qx - px) * x1 + (qy - py) * y1) / 1024 = dv at *
        generalize qx - px = sx at *
        generalize qy - py = sy at *
        have Hcs := Lib.hid cs; have Hcd := Lib.hid cd; clear cs cd
        clear lf ci m1 m2
        go_upto_region 22 with (fail)
        refine wp_region_later (by kernel_rfl) (by kernel_rfl) fun NL hL => ?_; obtain ⟨hNL, hlc, hlf⟩ := hL; (try simp only [World.size_alloc, World.size_setCell, World.size_drew] at hNL)
        repeat (go_big_quiet_step (first | (with_reducible exact later_call (Hcs.out _)) | (with_reducible exact later_call (Hcd.out _)) | (with_reducible exact later_call (Hlv.out _))))
        (refine wpQuiet_nil ?_; intro w1 hw1; obtain ⟨⟨w1, hb1⟩, rfl⟩ := hw1; clear hlc hlf hNL NL; obtain ⟨N1, hN1, hc1, hf1, hs1⟩ := bcell hb1; (try simp only [World.size_alloc, World.size_setCell, World.size_drew] at hN1))
        go_wp2
        go_ret
        exact ⟨rfl, hBw.trans (Below.mono (by (repeat (first | (with_reducible exact Below.refl _ _) | (with_reducible refine Below.drew ?_) | (with_reducible refine below_drewN ?_ _) | (with_reducible refine Below.setCell ?_ (by first | (simp; done) | (simp; omega) | omega) _) | (with_reducible refine Below.alloc ?_ (by first | (simp; done) | (simp; omega) | omega) _) | (with_reducible refine Below.trans ?_ (Below.mono (by assumption) (by first | (simp; done) | (simp; omega) | omega))) | (with_reducible refine Below.trans ?_ (Below.mono (Later.below _) (by first | (simp; done) | (simp; omega) | omega)))))) hsz)⟩
end Go.Proofs.Ytcgcapfppceggaa.W
