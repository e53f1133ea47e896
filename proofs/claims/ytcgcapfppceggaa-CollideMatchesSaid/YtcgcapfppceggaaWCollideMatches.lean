/-
  The walk of the law CollideMatches: it returns true at every input.
  Conditions: none.
-/
import Derived.Test.YtcgcapfppceggaaCoE
import Derived.Test.YtcgcapfppceggaaCoI
import Derived.Test.YtcgcapfppceggaaCoL
import Derived.Test.YtcgcapfppceggaaShN
import Derived.Test.YtcgcapfppceggaaQe
import Derived.Deep.Cut
import Derived.Deep.CutRange
import Derived.Deep.DeepCutAuto
import Derived.Deep.RegionHeld3
namespace Go.Proofs.Ytcgcapfppceggaa.W
open Go.RowKit Go.Proofs.Ytcgcapfppceggaa.FxMath Go.Proofs.Ytcgcapfppceggaa.FxA Go.Proofs.Ytcgcapfppceggaa.Qt Go.Proofs.Ytcgcapfppceggaa.Ve Go.Proofs.Ytcgcapfppceggaa.Sh Go.Proofs.Ytcgcapfppceggaa.Co
set_option linter.unusedVariables false
set_option linter.unusedSimpArgs false
theorem axs_len {w : World} {ra : Int} {aa : Option Addr} {la ca : Nat} {za : List (Int × Int)} {rb : Int} {ab : Option Addr} {lb cb : Nat} {zb : List (Int × Int)} (hA : ShAt w ra aa la ca za) (hB : ShAt w rb ab lb cb zb) (dx dy : Int) : (axs za zb dx dy).length ≤ 1000 := by
  have e1 := hA.poly.len
  have e2 := hB.poly.len
  have l1 : la ≤ 6 := by rcases hA.kind with ⟨h, _⟩ | ⟨_, _, h, _⟩ <;> omega
  have l2 : lb ≤ 6 := by rcases hB.kind with ⟨h, _⟩ | ⟨_, _, h, _⟩ <;> omega
  have l3 : (cax za zb dx dy).length ≤ 1 := by unfold cax; split <;> split <;> simp
  unfold axs eax
  simp only [List.length_append, List.length_map, List.length_range]
  omega
set_option maxRecDepth 100000 in
set_option maxHeartbeats 4000000 in
theorem CollideMatches_walk (a0 a1 a2a a2b a2c a2d : Int) (w : World) (w0 : (Lit.int .i64 a0).wf = true) (w1 : (Lit.int .i64 a1).wf = true) (w2a : (Lit.int .i64 a2a).wf = true) (w2b : (Lit.int .i64 a2b).wf = true) (w2c : (Lit.int .i64 a2c).wf = true) (w2d : (Lit.int .i64 a2d).wf = true) :
    Calls Try.prog 6 #[.int .i64 a0, .int .i64 a1, .agg #[.int .i64 a2a, .int .i64 a2b, .int .i64 a2c, .int .i64 a2d]] w fun e w' => e = .returned (.bool true) ∧ Below w.heap.size w w' := by
  have cs0 := fun W => shape_any a0 W w0
  have cs1 := fun W => shape_any a1 W w1
  obtain ⟨la, hla⟩ : ∃ L, L = (shZ a0).length := ⟨_, rfl⟩
  obtain ⟨lb, hlb⟩ : ∃ L, L = (shZ a1).length := ⟨_, rfl⟩
  rw [← hla] at cs0
  rw [← hlb] at cs1
  generalize shR a0 = ra at *
  generalize shZ a0 = za at *
  generalize shR a1 = rb at *
  generalize shZ a1 = zb at *
  have lv := lives05
  have Hcs0 := Lib.hid cs0; have Hcs1 := Lib.hid cs1; have Hhla := Lib.hid hla; have Hhlb := Lib.hid hlb; have Hlv := Lib.hid lv; clear cs0 cs1 hla hlb lv
  have hal := alloc_if; have hfal := allocF_if
  go_enter Try.func6, Try.ntmps6
  go_upto_region 3 with (first | ((with_reducible refine (Hcs0.out _).mono ?_); rintro e WA ⟨aa, ca, rfl, hA, hbA, hxA⟩; obtain ⟨NA, hNA, hcA, hfA, hsA⟩ := bcell hbA; (try simp only [World.size_alloc, World.size_setCell, World.size_drew] at hNA)) | ((with_reducible refine (Hcs1.out _).mono ?_); rintro e WB ⟨ab, cb, rfl, hB, hbB, hxB⟩; obtain ⟨NB, hNB, hcB, hfB, hsB⟩ := bcell hbB; (try simp only [World.size_alloc, World.size_setCell, World.size_drew] at hNB)))
  have hA2 : ShAt WB ra aa la ca za := hA.later (by (repeat (first | (with_reducible exact Below.refl _ _) | (with_reducible refine Below.drew ?_) | (with_reducible refine below_drewN ?_ _) | (with_reducible refine Below.setCell ?_ (by first | (simp; done) | (simp; omega) | omega) _) | (with_reducible refine Below.alloc ?_ (by first | (simp; done) | (simp; omega) | omega) _) | (with_reducible refine Below.trans ?_ (Below.mono (by assumption) (by first | (simp; done) | (simp; omega) | omega))) | (with_reducible refine Below.trans ?_ (Below.mono (Later.below _) (by first | (simp; done) | (simp; omega) | omega))))))
  have cp := place_s hA2 hB a2a a2b a2c a2d w2a w2b w2c w2d
  have Hcp := Lib.hid cp; clear cp
  go_upto_region 4 with (((with_reducible refine (Hcp.out _ (by (repeat (first | (with_reducible exact Below.refl _ _) | (with_reducible refine Below.drew ?_) | (with_reducible refine below_drewN ?_ _) | (with_reducible refine Below.setCell ?_ (by first | (simp; done) | (simp; omega) | omega) _) | (with_reducible refine Below.alloc ?_ (by first | (simp; done) | (simp; omega) | omega) _) | (with_reducible refine Below.trans ?_ (Below.mono (by assumption) (by first | (simp; done) | (simp; omega) | omega))) | (with_reducible refine Below.trans ?_ (Below.mono (Later.below _) (by first | (simp; done) | (simp; omega) | omega))))))).mono ?_); rintro e wP ⟨⟨px, py, qx, qy, rfl, hp, hq⟩, hbP⟩; obtain ⟨NP, hNP, hcP, hfP, hsP⟩ := bcell hbP; (try simp only [World.size_alloc, World.size_setCell, World.size_drew] at hNP)))
  refine name_world fun W8 hW8 => ?_
  have t0 : W8.cell? ⟨WA.heap.size, 0, none⟩ = some (.int .i64 ra) := by rw [hW8]; simp [hcP, hcB, hal, ↓IntWalk.iteOmega]
  have t1 : W8.cell? ⟨WA.heap.size, 1, none⟩ = some (.slice aa la ca) := by rw [hW8]; simp [hcP, hcB, hal, ↓IntWalk.iteOmega]
  have u0 : W8.cell? ⟨WB.heap.size, 0, none⟩ = some (.int .i64 rb) := by rw [hW8]; simp [hcP, hal, ↓IntWalk.iteOmega]
  have u1 : W8.cell? ⟨WB.heap.size, 1, none⟩ = some (.slice ab lb cb) := by rw [hW8]; simp [hcP, hal, ↓IntWalk.iteOmega]
  have p0 : W8.cell? ⟨wP.heap.size, 0, none⟩ = some (.int .i64 px) := by rw [hW8]; simp [hal, ↓IntWalk.iteOmega]
  have p1 : W8.cell? ⟨wP.heap.size, 1, none⟩ = some (.int .i64 py) := by rw [hW8]; simp [hal, ↓IntWalk.iteOmega]
  have q0 : W8.cell? ⟨wP.heap.size + 1, 0, none⟩ = some (.int .i64 qx) := by rw [hW8]; simp [hal, ↓IntWalk.iteOmega]
  have q1 : W8.cell? ⟨wP.heap.size + 1, 1, none⟩ = some (.int .i64 qy) := by rw [hW8]; simp [hal, ↓IntWalk.iteOmega]
  have hbW : Below w.heap.size w W8 := by rw [hW8]; (repeat (first | (with_reducible exact Below.refl _ _) | (with_reducible refine Below.drew ?_) | (with_reducible refine below_drewN ?_ _) | (with_reducible refine Below.setCell ?_ (by first | (simp; done) | (simp; omega) | omega) _) | (with_reducible refine Below.alloc ?_ (by first | (simp; done) | (simp; omega) | omega) _) | (with_reducible refine Below.trans ?_ (Below.mono (by assumption) (by first | (simp; done) | (simp; omega) | omega))) | (with_reducible refine Below.trans ?_ (Below.mono (Later.below _) (by first | (simp; done) | (simp; omega) | omega)))))
  have hbV : Below WB.heap.size WB W8 := by rw [hW8]; (repeat (first | (with_reducible exact Below.refl _ _) | (with_reducible refine Below.drew ?_) | (with_reducible refine below_drewN ?_ _) | (with_reducible refine Below.setCell ?_ (by first | (simp; done) | (simp; omega) | omega) _) | (with_reducible refine Below.alloc ?_ (by first | (simp; done) | (simp; omega) | omega) _) | (with_reducible refine Below.trans ?_ (Below.mono (by assumption) (by first | (simp; done) | (simp; omega) | omega))) | (with_reducible refine Below.trans ?_ (Below.mono (Later.below _) (by first | (simp; done) | (simp; omega) | omega)))))
  have gA : ShAt W8 ra aa la ca za := hA2.later hbV
  have gB : ShAt W8 rb ab lb cb zb := hB.later hbV
  have sw : w.heap.size ≤ W8.heap.size := hbW.size
  have l0 : WA.heap.size < W8.heap.size := World.block_lt_of_cell? _ _ t0
  have l1 : WB.heap.size < W8.heap.size := World.block_lt_of_cell? _ _ u0
  have l2 : wP.heap.size + 1 < W8.heap.size := World.block_lt_of_cell? _ _ q0
  obtain ⟨bA, hbA'⟩ : ∃ b, b = WA.heap.size := ⟨_, rfl⟩
  obtain ⟨bB, hbB'⟩ : ∃ b, b = WB.heap.size := ⟨_, rfl⟩
  obtain ⟨bP, hbP'⟩ : ∃ b, b = wP.heap.size := ⟨_, rfl⟩
  rw [← hbP'] at p0 p1 q0 q1 l2 ⊢
  rw [← hbB'] at u0 u1 l1 ⊢
  rw [← hbA'] at t0 t1 l0 ⊢
  clear hbA hbB hbP hcA hcB hcP hfA hfB hfP hA hB hA2 hxA hxB hW8 hsA hsB hsP hNA hNB hNP NA NB NP hbV hbA' hbB' hbP' Hcs0 Hcs1 Hcp
  clear wP WA WB
  have nn1 := axs_len gA gB (qx - px) (qy - py)
  have nn2 := axs_len gB gA (px - qx) (py - qy)
  have ca1 := axes_s gA gB (px := px) (py := py) (qx := qx) (qy := qy) (by omega) (by omega)
  have ca2 := raxes_s gA gB (px := px) (py := py) (qx := qx) (qy := qy) (by omega) (by omega)
  have ca3 := axes_s gB gA (px := qx) (py := qy) (qx := px) (qy := py) (by omega) (by omega)
  have ca4 := raxes_s gB gA (px := qx) (py := qy) (qx := px) (qy := py) (by omega) (by omega)
  have cc1 := fun V (hV : Below W8.heap.size W8 V) => collide_at (gA.later hV) (gB.later hV) (px := px) (py := py) (qx := qx) (qy := qy) (by omega) (by omega)
  have cc2 := rcollide_s gA gB (px := px) (py := py) (qx := qx) (qy := qy) (by omega) (by omega)
  have cc3 := fun V (hV : Below W8.heap.size W8 V) => collide_at (gB.later hV) (gA.later hV) (px := qx) (py := qy) (qx := px) (qy := py) (by omega) (by omega)
  have cc4 := rcollide_s gB gA (px := qx) (py := qy) (qx := px) (qy := py) (by omega) (by omega)
  generalize axs za zb (qx - px) (qy - py) = L1 at *
  generalize axs zb za (px - qx) (py - qy) = L2 at *
  generalize cis ra za px py rb zb qx qy = i1 at *
  generalize cdp ra za px py rb zb qx qy = d1 at *
  generalize cnx ra za px py rb zb qx qy = x1 at *
  generalize cny ra za px py rb zb qx qy = y1 at *
  generalize cis rb zb qx qy ra za px py = i2 at *
  generalize cdp rb zb qx qy ra za px py = d2 at *
  generalize cnx rb zb qx qy ra za px py = x2 at *
  generalize cny rb zb qx qy ra za px py = y2 at *
  clear hp hq gA gB
  have Hca1 := Lib.hid ca1; have Hca2 := Lib.hid ca2; have Hca3 := Lib.hid ca3; have Hca4 := Lib.hid ca4; have Hcc1 := Lib.hid cc1; have Hcc2 := Lib.hid cc2; have Hcc3 := Lib.hid cc3; have Hcc4 := Lib.hid cc4; clear ca1 ca2 ca3 ca4 cc1 cc2 cc3 cc4
  have st : ∀ V, Below W8.heap.size W8 V → V.cell? ⟨bA, 0, none⟩ = some (.int .i64 ra) ∧ V.cell? ⟨bA, 1, none⟩ = some (.slice aa la ca) ∧ V.cell? ⟨bB, 0, none⟩ = some (.int .i64 rb) ∧ V.cell? ⟨bB, 1, none⟩ = some (.slice ab lb cb) ∧ V.cell? ⟨bP, 0, none⟩ = some (.int .i64 px) ∧ V.cell? ⟨bP, 1, none⟩ = some (.int .i64 py) ∧ V.cell? ⟨bP + 1, 0, none⟩ = some (.int .i64 qx) ∧ V.cell? ⟨bP + 1, 1, none⟩ = some (.int .i64 qy) :=
    fun V hV => ⟨cell_below hV t0, cell_below hV t1, cell_below hV u0, cell_below hV u1, cell_below hV p0, cell_below hV p1, cell_below hV q0, cell_below hV q1⟩
  have Hst := Lib.hid st
  clear st
  go_region_held3 (fun V => V.cell? ⟨bA, 0, none⟩ = some (.int .i64 ra) ∧ V.cell? ⟨bA, 1, none⟩ = some (.slice aa la ca) ∧ V.cell? ⟨bB, 0, none⟩ = some (.int .i64 rb) ∧ V.cell? ⟨bB, 1, none⟩ = some (.slice ab lb cb) ∧ V.cell? ⟨bP, 0, none⟩ = some (.int .i64 px) ∧ V.cell? ⟨bP, 1, none⟩ = some (.int .i64 py) ∧ V.cell? ⟨bP + 1, 0, none⟩ = some (.int .i64 qx) ∧ V.cell? ⟨bP + 1, 1, none⟩ = some (.int .i64 qy)) (exact Hst.out _ (by (repeat (first | (with_reducible exact Below.refl _ _) | (with_reducible refine Below.drew ?_) | (with_reducible refine below_drewN ?_ _) | (with_reducible refine Below.setCell ?_ (by first | (simp; done) | (simp; omega) | omega) _) | (with_reducible refine Below.alloc ?_ (by first | (simp; done) | (simp; omega) | omega) _) | (with_reducible refine Below.trans ?_ (Below.mono (by assumption) (by first | (simp; done) | (simp; omega) | omega))) | (with_reducible refine Below.trans ?_ (Below.mono (Later.below _) (by first | (simp; done) | (simp; omega) | omega)))))))
    (first | ((with_reducible refine (Hca1.out _ (by (repeat (first | (with_reducible exact Below.refl _ _) | (with_reducible refine Below.drew ?_) | (with_reducible refine below_drewN ?_ _) | (with_reducible refine Below.setCell ?_ (by first | (simp; done) | (simp; omega) | omega) _) | (with_reducible refine Below.alloc ?_ (by first | (simp; done) | (simp; omega) | omega) _) | (with_reducible refine Below.trans ?_ (Below.mono (by assumption) (by first | (simp; done) | (simp; omega) | omega))) | (with_reducible refine Below.trans ?_ (Below.mono (Later.below _) (by first | (simp; done) | (simp; omega) | omega))))))).mono ?_); rintro e wA ⟨vA, rfl, hoA, hbA⟩; obtain ⟨_, alA, capA, rfl, hpA⟩ := poly_of_row hoA; clear hoA; have hsA := hbA.size; (try simp only [World.size_alloc, World.size_setCell, World.size_drew] at hsA)) | ((with_reducible refine (Hca2.out _ (by (repeat (first | (with_reducible exact Below.refl _ _) | (with_reducible refine Below.drew ?_) | (with_reducible refine below_drewN ?_ _) | (with_reducible refine Below.setCell ?_ (by first | (simp; done) | (simp; omega) | omega) _) | (with_reducible refine Below.alloc ?_ (by first | (simp; done) | (simp; omega) | omega) _) | (with_reducible refine Below.trans ?_ (Below.mono (by assumption) (by first | (simp; done) | (simp; omega) | omega))) | (with_reducible refine Below.trans ?_ (Below.mono (Later.below _) (by first | (simp; done) | (simp; omega) | omega))))))).mono ?_); rintro e wB ⟨vB, rfl, hoB, hbB⟩; obtain ⟨_, alB, capB, rfl, hpB⟩ := poly_of_row hoB; clear hoB; have hsB := hbB.size; (try simp only [World.size_alloc, World.size_setCell, World.size_drew] at hsB)) | ((with_reducible refine (Hca3.out _ (by (repeat (first | (with_reducible exact Below.refl _ _) | (with_reducible refine Below.drew ?_) | (with_reducible refine below_drewN ?_ _) | (with_reducible refine Below.setCell ?_ (by first | (simp; done) | (simp; omega) | omega) _) | (with_reducible refine Below.alloc ?_ (by first | (simp; done) | (simp; omega) | omega) _) | (with_reducible refine Below.trans ?_ (Below.mono (by assumption) (by first | (simp; done) | (simp; omega) | omega))) | (with_reducible refine Below.trans ?_ (Below.mono (Later.below _) (by first | (simp; done) | (simp; omega) | omega))))))).mono ?_); rintro e wC ⟨vC, rfl, hoC, hbC⟩; obtain ⟨_, alC, capC, rfl, hpC⟩ := poly_of_row hoC; clear hoC; have hsC := hbC.size; (try simp only [World.size_alloc, World.size_setCell, World.size_drew] at hsC)) | ((with_reducible refine (Hca4.out _ (by (repeat (first | (with_reducible exact Below.refl _ _) | (with_reducible refine Below.drew ?_) | (with_reducible refine below_drewN ?_ _) | (with_reducible refine Below.setCell ?_ (by first | (simp; done) | (simp; omega) | omega) _) | (with_reducible refine Below.alloc ?_ (by first | (simp; done) | (simp; omega) | omega) _) | (with_reducible refine Below.trans ?_ (Below.mono (by assumption) (by first | (simp; done) | (simp; omega) | omega))) | (with_reducible refine Below.trans ?_ (Below.mono (Later.below _) (by first | (simp; done) | (simp; omega) | omega))))))).mono ?_); rintro e wD ⟨vD, rfl, hoD, hbD⟩; obtain ⟨_, alD, capD, rfl, hpD⟩ := poly_of_row hoD; clear hoD; have hsD := hbD.size; (try simp only [World.size_alloc, World.size_setCell, World.size_drew] at hsD)) | ((with_reducible refine (equal_same (IsPoly.later (by assumption) (by (repeat (first | (with_reducible exact Below.refl _ _) | (with_reducible refine Below.drew ?_) | (with_reducible refine below_drewN ?_ _) | (with_reducible refine Below.setCell ?_ (by first | (simp; done) | (simp; omega) | omega) _) | (with_reducible refine Below.alloc ?_ (by first | (simp; done) | (simp; omega) | omega) _) | (with_reducible refine Below.trans ?_ (Below.mono (by assumption) (by first | (simp; done) | (simp; omega) | omega))) | (with_reducible refine Below.trans ?_ (Below.mono (Later.below _) (by first | (simp; done) | (simp; omega) | omega))))))) (IsPoly.later (by assumption) (by (repeat (first | (with_reducible exact Below.refl _ _) | (with_reducible refine Below.drew ?_) | (with_reducible refine below_drewN ?_ _) | (with_reducible refine Below.setCell ?_ (by first | (simp; done) | (simp; omega) | omega) _) | (with_reducible refine Below.alloc ?_ (by first | (simp; done) | (simp; omega) | omega) _) | (with_reducible refine Below.trans ?_ (Below.mono (by assumption) (by first | (simp; done) | (simp; omega) | omega))) | (with_reducible refine Below.trans ?_ (Below.mono (Later.below _) (by first | (simp; done) | (simp; omega) | omega))))))) (by assumption)).mono ?_); rintro e wQ ⟨rfl, hbQ⟩; have hsQ := hbQ.size; (try simp only [World.size_alloc, World.size_setCell, World.size_drew] at hsQ)))
  go_upto_region 6 with (fail)
  refine name_world fun W9 hW9 => ?_
  have hb9 : Below W8.heap.size W8 W9 := by rw [hW9]; (repeat (first | (with_reducible exact Below.refl _ _) | (with_reducible refine Below.drew ?_) | (with_reducible refine below_drewN ?_ _) | (with_reducible refine Below.setCell ?_ (by first | (simp; done) | (simp; omega) | omega) _) | (with_reducible refine Below.alloc ?_ (by first | (simp; done) | (simp; omega) | omega) _) | (with_reducible refine Below.trans ?_ (Below.mono (by assumption) (by first | (simp; done) | (simp; omega) | omega))) | (with_reducible refine Below.trans ?_ (Below.mono (Later.below _) (by first | (simp; done) | (simp; omega) | omega)))))
  obtain ⟨t0, t1, u0, u1, p0, p1, q0, q1⟩ := Hst.out _ hb9
  have s9 := hb9.size
  have l0 : bA < W9.heap.size := by omega
  have l1 : bB < W9.heap.size := by omega
  have l2 : bP + 1 < W9.heap.size := by omega
  clear hW9 hbA hbB hbC hbD hbQ hsA hsB hsC hsD hsQ hpA hpB hpC hpD Hca1 Hca2 Hca3 Hca4 Hst nn1 nn2
  go_wp2_with (first | ((with_reducible refine (Hcc1.out _ (by (repeat (first | (with_reducible exact Below.refl _ _) | (with_reducible refine Below.drew ?_) | (with_reducible refine below_drewN ?_ _) | (with_reducible refine Below.setCell ?_ (by first | (simp; done) | (simp; omega) | omega) _) | (with_reducible refine Below.alloc ?_ (by first | (simp; done) | (simp; omega) | omega) _) | (with_reducible refine Below.trans ?_ (Below.mono (by assumption) (by first | (simp; done) | (simp; omega) | omega))) | (with_reducible refine Below.trans ?_ (Below.mono (Later.below _) (by first | (simp; done) | (simp; omega) | omega))))))).mono ?_); rintro e wE ⟨rfl, hbE⟩; obtain ⟨NE, hNE, hcE, hfE, hsE⟩ := bcell hbE; (try simp only [World.size_alloc, World.size_setCell, World.size_drew] at hNE)) | ((with_reducible refine (Hcc2.out _ (by (repeat (first | (with_reducible exact Below.refl _ _) | (with_reducible refine Below.drew ?_) | (with_reducible refine below_drewN ?_ _) | (with_reducible refine Below.setCell ?_ (by first | (simp; done) | (simp; omega) | omega) _) | (with_reducible refine Below.alloc ?_ (by first | (simp; done) | (simp; omega) | omega) _) | (with_reducible refine Below.trans ?_ (Below.mono (by assumption) (by first | (simp; done) | (simp; omega) | omega))) | (with_reducible refine Below.trans ?_ (Below.mono (Later.below _) (by first | (simp; done) | (simp; omega) | omega))))))).mono ?_); rintro e wF ⟨rfl, hbF⟩; obtain ⟨NF, hNF, hcF, hfF, hsF⟩ := bcell hbF; (try simp only [World.size_alloc, World.size_setCell, World.size_drew] at hNF)) | ((with_reducible refine (Hcc3.out _ (by (repeat (first | (with_reducible exact Below.refl _ _) | (with_reducible refine Below.drew ?_) | (with_reducible refine below_drewN ?_ _) | (with_reducible refine Below.setCell ?_ (by first | (simp; done) | (simp; omega) | omega) _) | (with_reducible refine Below.alloc ?_ (by first | (simp; done) | (simp; omega) | omega) _) | (with_reducible refine Below.trans ?_ (Below.mono (by assumption) (by first | (simp; done) | (simp; omega) | omega))) | (with_reducible refine Below.trans ?_ (Below.mono (Later.below _) (by first | (simp; done) | (simp; omega) | omega))))))).mono ?_); rintro e wG ⟨rfl, hbG⟩; obtain ⟨NG, hNG, hcG, hfG, hsG⟩ := bcell hbG; (try simp only [World.size_alloc, World.size_setCell, World.size_drew] at hNG)) | ((with_reducible refine (Hcc4.out _ (by (repeat (first | (with_reducible exact Below.refl _ _) | (with_reducible refine Below.drew ?_) | (with_reducible refine below_drewN ?_ _) | (with_reducible refine Below.setCell ?_ (by first | (simp; done) | (simp; omega) | omega) _) | (with_reducible refine Below.alloc ?_ (by first | (simp; done) | (simp; omega) | omega) _) | (with_reducible refine Below.trans ?_ (Below.mono (by assumption) (by first | (simp; done) | (simp; omega) | omega))) | (with_reducible refine Below.trans ?_ (Below.mono (Later.below _) (by first | (simp; done) | (simp; omega) | omega))))))).mono ?_); rintro e wH ⟨rfl, hbH⟩; obtain ⟨NH, hNH, hcH, hfH, hsH⟩ := bcell hbH; (try simp only [World.size_alloc, World.size_setCell, World.size_drew] at hNH)) | ((with_reducible refine (Hlv.out _).mono ?_); rintro e wI ⟨rfl, hbI⟩; obtain ⟨NI, hNI, hcI, hfI, hsI⟩ := bcell hbI; (try simp only [World.size_alloc, World.size_setCell, World.size_drew] at hNI)))
  go_ret
  refine ⟨rfl, hbW.trans (Below.mono (hb9.trans (Below.mono (?_ : Below W9.heap.size W9 _) s9)) sw)⟩
  (repeat (first | (with_reducible exact Below.refl _ _) | (with_reducible refine Below.drew ?_) | (with_reducible refine below_drewN ?_ _) | (with_reducible refine Below.setCell ?_ (by first | (simp; done) | (simp; omega) | omega) _) | (with_reducible refine Below.alloc ?_ (by first | (simp; done) | (simp; omega) | omega) _) | (with_reducible refine Below.trans ?_ (Below.mono (by assumption) (by first | (simp; done) | (simp; omega) | omega))) | (with_reducible refine Below.trans ?_ (Below.mono (Later.below _) (by first | (simp; done) | (simp; omega) | omega)))))
end Go.Proofs.Ytcgcapfppceggaa.W
