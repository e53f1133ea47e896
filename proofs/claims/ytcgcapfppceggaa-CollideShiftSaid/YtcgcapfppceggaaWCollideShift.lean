/-
  The walk of the law CollideShift: it returns true at every input.
  Conditions: none.
-/
import Derived.Test.YtcgcapfppceggaaCoE
import Derived.Test.YtcgcapfppceggaaCoI
import Derived.Test.YtcgcapfppceggaaCoL
import Derived.Test.YtcgcapfppceggaaShN
import Derived.Test.YtcgcapfppceggaaQe
import Derived.Deep.Cut
import Derived.Deep.CutRange
import Derived.Deep.DeepCutAuto
import Derived.Deep.RegionHeld3
namespace Go.Proofs.Ytcgcapfppceggaa.W
open Go.RowKit Go.Proofs.Ytcgcapfppceggaa.FxMath Go.Proofs.Ytcgcapfppceggaa.FxA Go.Proofs.Ytcgcapfppceggaa.Qt Go.Proofs.Ytcgcapfppceggaa.Ve Go.Proofs.Ytcgcapfppceggaa.Sh Go.Proofs.Ytcgcapfppceggaa.Co
set_option linter.unusedVariables false
set_option linter.unusedSimpArgs false
theorem axs_len {w : World} {ra : Int} {aa : Option Addr} {la ca : Nat} {za : List (Int × Int)} {rb : Int} {ab : Option Addr} {lb cb : Nat} {zb : List (Int × Int)} (hA : ShAt w ra aa la ca za) (hB : ShAt w rb ab lb cb zb) (dx dy : Int) : (axs za zb dx dy).length ≤ 1000 := by
  have e1 := hA.poly.len
  have e2 := hB.poly.len
  have l1 : la ≤ 6 := by rcases hA.kind with ⟨h, _⟩ | ⟨_, _, h, _⟩ <;> omega
  have l2 : lb ≤ 6 := by rcases hB.kind with ⟨h, _⟩ | ⟨_, _, h, _⟩ <;> omega
  have l3 : (cax za zb dx dy).length ≤ 1 := by unfold cax; split <;> split <;> simp
  unfold axs eax
  simp only [List.length_append, List.length_map, List.length_range]
  omega
set_option maxRecDepth 100000 in
set_option maxHeartbeats 4000000 in
theorem CollideShift_walk (a0 a1 a2a a2b a2c a2d a3 a4 : Int) (w : World) (w0 : (Lit.int .i64 a0).wf = true) (w1 : (Lit.int .i64 a1).wf = true) (w2a : (Lit.int .i64 a2a).wf = true) (w2b : (Lit.int .i64 a2b).wf = true) (w2c : (Lit.int .i64 a2c).wf = true) (w2d : (Lit.int .i64 a2d).wf = true) (w3 : (Lit.int .i64 a3).wf = true) (w4 : (Lit.int .i64 a4).wf = true) :
    Calls Try.prog 8 #[.int .i64 a0, .int .i64 a1, .agg #[.int .i64 a2a, .int .i64 a2b, .int .i64 a2c, .int .i64 a2d], .int .i64 a3, .int .i64 a4] w fun e w' => e = .returned (.bool true) ∧ Below w.heap.size w w' := by
  have cs0 := fun W => shape_any a0 W w0
  have cs1 := fun W => shape_any a1 W w1
  obtain ⟨la, hla⟩ : ∃ L, L = (shZ a0).length := ⟨_, rfl⟩
  obtain ⟨lb, hlb⟩ : ∃ L, L = (shZ a1).length := ⟨_, rfl⟩
  rw [← hla] at cs0
  rw [← hlb] at cs1
  generalize shR a0 = ra at *
  generalize shZ a0 = za at *
  generalize shR a1 = rb at *
  generalize shZ a1 = zb at *
  have lv := lives05
  have Hcs0 := Lib.hid cs0; have Hcs1 := Lib.hid cs1; have Hhla := Lib.hid hla; have Hhlb := Lib.hid hlb; have Hlv := Lib.hid lv; clear cs0 cs1 hla hlb lv
  have hal := alloc_if; have hfal := allocF_if
  go_enter Try.func8, Try.ntmps8
  go_upto_region 3 with (first | ((with_reducible refine (Hcs0.out _).mono ?_); rintro e WA ⟨aa, ca, rfl, hA, hbA, hxA⟩; obtain ⟨NA, hNA, hcA, hfA, hsA⟩ := bcell hbA; (try simp only [World.size_alloc, World.size_setCell, World.size_drew] at hNA)) | ((with_reducible refine (Hcs1.out _).mono ?_); rintro e WB ⟨ab, cb, rfl, hB, hbB, hxB⟩; obtain ⟨NB, hNB, hcB, hfB, hsB⟩ := bcell hbB; (try simp only [World.size_alloc, World.size_setCell, World.size_drew] at hNB)))
  have hA2 : ShAt WB ra aa la ca za := hA.later (by (repeat (first | (with_reducible exact Below.refl _ _) | (with_reducible refine Below.drew ?_) | (with_reducible refine below_drewN ?_ _) | (with_reducible refine Below.setCell ?_ (by first | (simp; done) | (simp; omega) | omega) _) | (with_reducible refine Below.alloc ?_ (by first | (simp; done) | (simp; omega) | omega) _) | (with_reducible refine Below.trans ?_ (Below.mono (by assumption) (by first | (simp; done) | (simp; omega) | omega))) | (with_reducible refine Below.trans ?_ (Below.mono (Later.below _) (by first | (simp; done) | (simp; omega) | omega))))))
  have cp := place_s hA2 hB a2a a2b a2c a2d w2a w2b w2c w2d
  have Hcp := Lib.hid cp; clear cp
  go_upto_region 4 with (((with_reducible refine (Hcp.out _ (by (repeat (first | (with_reducible exact Below.refl _ _) | (with_reducible refine Below.drew ?_) | (with_reducible refine below_drewN ?_ _) | (with_reducible refine Below.setCell ?_ (by first | (simp; done) | (simp; omega) | omega) _) | (with_reducible refine Below.alloc ?_ (by first | (simp; done) | (simp; omega) | omega) _) | (with_reducible refine Below.trans ?_ (Below.mono (by assumption) (by first | (simp; done) | (simp; omega) | omega))) | (with_reducible refine Below.trans ?_ (Below.mono (Later.below _) (by first | (simp; done) | (simp; omega) | omega))))))).mono ?_); rintro e wP ⟨⟨px, py, qx, qy, rfl, hp, hq⟩, hbP⟩; obtain ⟨NP, hNP, hcP, hfP, hsP⟩ := bcell hbP; (try simp only [World.size_alloc, World.size_setCell, World.size_drew] at hNP)))
  refine name_world fun W8 hW8 => ?_
  have t0 : W8.cell? ⟨WA.heap.size, 0, none⟩ = some (.int .i64 ra) := by rw [hW8]; simp [hcP, hcB, hal, ↓IntWalk.iteOmega]
  have t1 : W8.cell? ⟨WA.heap.size, 1, none⟩ = some (.slice aa la ca) := by rw [hW8]; simp [hcP, hcB, hal, ↓IntWalk.iteOmega]
  have u0 : W8.cell? ⟨WB.heap.size, 0, none⟩ = some (.int .i64 rb) := by rw [hW8]; simp [hcP, hal, ↓IntWalk.iteOmega]
  have u1 : W8.cell? ⟨WB.heap.size, 1, none⟩ = some (.slice ab lb cb) := by rw [hW8]; simp [hcP, hal, ↓IntWalk.iteOmega]
  have p0 : W8.cell? ⟨wP.heap.size, 0, none⟩ = some (.int .i64 px) := by rw [hW8]; simp [hal, ↓IntWalk.iteOmega]
  have p1 : W8.cell? ⟨wP.heap.size, 1, none⟩ = some (.int .i64 py) := by rw [hW8]; simp [hal, ↓IntWalk.iteOmega]
  have q0 : W8.cell? ⟨wP.heap.size + 1, 0, none⟩ = some (.int .i64 qx) := by rw [hW8]; simp [hal, ↓IntWalk.iteOmega]
  have q1 : W8.cell? ⟨wP.heap.size + 1, 1, none⟩ = some (.int .i64 qy) := by rw [hW8]; simp [hal, ↓IntWalk.iteOmega]
  have hbW : Below w.heap.size w W8 := by rw [hW8]; (repeat (first | (with_reducible exact Below.refl _ _) | (with_reducible refine Below.drew ?_) | (with_reducible refine below_drewN ?_ _) | (with_reducible refine Below.setCell ?_ (by first | (simp; done) | (simp; omega) | omega) _) | (with_reducible refine Below.alloc ?_ (by first | (simp; done) | (simp; omega) | omega) _) | (with_reducible refine Below.trans ?_ (Below.mono (by assumption) (by first | (simp; done) | (simp; omega) | omega))) | (with_reducible refine Below.trans ?_ (Below.mono (Later.below _) (by first | (simp; done) | (simp; omega) | omega)))))
  have hbV : Below WB.heap.size WB W8 := by rw [hW8]; (repeat (first | (with_reducible exact Below.refl _ _) | (with_reducible refine Below.drew ?_) | (with_reducible refine below_drewN ?_ _) | (with_reducible refine Below.setCell ?_ (by first | (simp; done) | (simp; omega) | omega) _) | (with_reducible refine Below.alloc ?_ (by first | (simp; done) | (simp; omega) | omega) _) | (with_reducible refine Below.trans ?_ (Below.mono (by assumption) (by first | (simp; done) | (simp; omega) | omega))) | (with_reducible refine Below.trans ?_ (Below.mono (Later.below _) (by first | (simp; done) | (simp; omega) | omega)))))
  have gA : ShAt W8 ra aa la ca za := hA2.later hbV
  have gB : ShAt W8 rb ab lb cb zb := hB.later hbV
  have sw : w.heap.size ≤ W8.heap.size := hbW.size
  have l0 : WA.heap.size < W8.heap.size := World.block_lt_of_cell? _ _ t0
  have l1 : WB.heap.size < W8.heap.size := World.block_lt_of_cell? _ _ u0
  have l2 : wP.heap.size + 1 < W8.heap.size := World.block_lt_of_cell? _ _ q0
  obtain ⟨bA, hbA'⟩ : ∃ b, b = WA.heap.size := ⟨_, rfl⟩
  obtain ⟨bB, hbB'⟩ : ∃ b, b = WB.heap.size := ⟨_, rfl⟩
  obtain ⟨bP, hbP'⟩ : ∃ b, b = wP.heap.size := ⟨_, rfl⟩
  rw [← hbP'] at p0 p1 q0 q1 l2 ⊢
  rw [← hbB'] at u0 u1 l1 ⊢
  rw [← hbA'] at t0 t1 l0 ⊢
  clear hbA hbB hbP hcA hcB hcP hfA hfB hfP hA hB hA2 hxA hxB hW8 hsA hsB hsP hNA hNB hNP NA NB NP hbV hbA' hbB' hbP' Hcs0 Hcs1 Hcp
  clear wP WA WB
  have nn1 := axs_len gA gB (qx - px) (qy - py)
  obtain ⟨b30, b31⟩ := i64_bd w3
  obtain ⟨b40, b41⟩ := i64_bd w4
  have cbx := gives_same (fun V => bound_any a3 800 V b30 b31 (by decide) (by decide))
  have cby := gives_same (fun V => bound_any a4 800 V b40 b41 (by decide) (by decide))
  have tbx := bnd_bd a3 800 (by decide)
  have tby := bnd_bd a4 800 (by decide)
  generalize bnd a3 800 = sx at *
  generalize bnd a4 800 = sy at *
  have ca1 := axes_s gA gB (px := px) (py := py) (qx := qx) (qy := qy) (by omega) (by omega)
  have ca2 := axes_s gA gB (px := px + sx * 1024) (py := py + sy * 1024) (qx := qx + sx * 1024) (qy := qy + sy * 1024) (by omega) (by omega)
  rw [axs_shift] at ca2
  have cc1 := fun V (hV : Below W8.heap.size W8 V) => collide_at (gA.later hV) (gB.later hV) (px := px) (py := py) (qx := qx) (qy := qy) (by omega) (by omega)
  have cc2 := fun V (hV : Below W8.heap.size W8 V) => collide_at (gA.later hV) (gB.later hV) (px := px + sx * 1024) (py := py + sy * 1024) (qx := qx + sx * 1024) (qy := qy + sy * 1024) (by omega) (by omega)
  obtain ⟨k1, k2, k3⟩ := col_shift ra za px py rb zb qx qy sx sy
  rw [k1, k2, k3, cis_shift] at cc2
  clear k1 k2 k3
  generalize axs za zb (qx - px) (qy - py) = L1 at *
  generalize cis ra za px py rb zb qx qy = i1 at *
  generalize cdp ra za px py rb zb qx qy = d1 at *
  generalize cnx ra za px py rb zb qx qy = x1 at *
  generalize cny ra za px py rb zb qx qy = y1 at *
  have cd1 := add_any px py (sx * 1024) (sy * 1024) (by omega) (by omega) (by omega) (by omega)
  have cd2 := add_any qx qy (sx * 1024) (sy * 1024) (by omega) (by omega) (by omega) (by omega)
  have g1 : IntKind.i64.wrap (1024 * sx) = sx * 1024 := by rw [IntWalk.i64_in _ (by omega)]; omega
  have g2 : IntKind.i64.wrap (1024 * sy) = sy * 1024 := by rw [IntWalk.i64_in _ (by omega)]; omega
  have hDX1 : -1000000 ≤ sx * 1024 ∧ sx * 1024 ≤ 1000000 := by omega
  have hDY1 : -1000000 ≤ sy * 1024 ∧ sy * 1024 ≤ 1000000 := by omega
  have e1 : 1024 * sx = sx * 1024 := by omega
  have e2 : 1024 * sy = sy * 1024 := by omega
  generalize sx * 1024 = DX at *
  generalize sy * 1024 = DY at *
  clear gA gB
  have Hca1 := Lib.hid ca1; have Hca2 := Lib.hid ca2; have Hcc1 := Lib.hid cc1; have Hcc2 := Lib.hid cc2; have Hcd1 := Lib.hid cd1; have Hcd2 := Lib.hid cd2; have Hcbx := Lib.hid cbx; have Hcby := Lib.hid cby; clear ca1 ca2 cc1 cc2 cd1 cd2 cbx cby
  go_upto_region 6 with (first | ((with_reducible refine (Hcbx.out _).mono ?_); rintro e wA ⟨rfl, hbA⟩; obtain ⟨NA, hNA, hcA, hfA, hsA⟩ := bcell hbA; (try simp only [World.size_alloc, World.size_setCell, World.size_drew] at hNA)) | ((with_reducible refine (Hcby.out _).mono ?_); rintro e wB ⟨rfl, hbB⟩; obtain ⟨NB, hNB, hcB, hfB, hsB⟩ := bcell hbB; (try simp only [World.size_alloc, World.size_setCell, World.size_drew] at hNB)) | ((with_reducible refine (Hcc1.out _ (by (repeat (first | (with_reducible exact Below.refl _ _) | (with_reducible refine Below.drew ?_) | (with_reducible refine below_drewN ?_ _) | (with_reducible refine Below.setCell ?_ (by first | (simp; done) | (simp; omega) | omega) _) | (with_reducible refine Below.alloc ?_ (by first | (simp; done) | (simp; omega) | omega) _) | (with_reducible refine Below.trans ?_ (Below.mono (by assumption) (by first | (simp; done) | (simp; omega) | omega))) | (with_reducible refine Below.trans ?_ (Below.mono (Later.below _) (by first | (simp; done) | (simp; omega) | omega))))))).mono ?_); rintro e wC ⟨rfl, hbC⟩; obtain ⟨NC, hNC, hcC, hfC, hsC⟩ := bcell hbC; (try simp only [World.size_alloc, World.size_setCell, World.size_drew] at hNC)))
  refine name_world fun W9 hW9 => ?_
  have hb9 : Below W8.heap.size W8 W9 := by rw [hW9]; (repeat (first | (with_reducible exact Below.refl _ _) | (with_reducible refine Below.drew ?_) | (with_reducible refine below_drewN ?_ _) | (with_reducible refine Below.setCell ?_ (by first | (simp; done) | (simp; omega) | omega) _) | (with_reducible refine Below.alloc ?_ (by first | (simp; done) | (simp; omega) | omega) _) | (with_reducible refine Below.trans ?_ (Below.mono (by assumption) (by first | (simp; done) | (simp; omega) | omega))) | (with_reducible refine Below.trans ?_ (Below.mono (Later.below _) (by first | (simp; done) | (simp; omega) | omega)))))
  have r0 : W9.cell? ⟨wB.heap.size, 0, none⟩ = some (.int .i64 DX) := by rw [hW9]; simp [hcC, hal, ↓IntWalk.iteOmega]
  have r1 : W9.cell? ⟨wB.heap.size, 1, none⟩ = some (.int .i64 DY) := by rw [hW9]; simp [hcC, hal, ↓IntWalk.iteOmega]
  have c0 : W9.cell? ⟨wC.heap.size, 0, none⟩ = some (.int .i64 x1) := by rw [hW9]; simp [hal, ↓IntWalk.iteOmega]
  have c1 : W9.cell? ⟨wC.heap.size, 1, none⟩ = some (.int .i64 y1) := by rw [hW9]; simp [hal, ↓IntWalk.iteOmega]
  have c2 : W9.cell? ⟨wC.heap.size, 2, none⟩ = some (.int .i64 d1) := by rw [hW9]; simp [hal, ↓IntWalk.iteOmega]
  have s9 := hb9.size
  have l3 : wB.heap.size < W9.heap.size := World.block_lt_of_cell? _ _ r0
  have l4 : wC.heap.size < W9.heap.size := World.block_lt_of_cell? _ _ c0
  obtain ⟨bD, hbD'⟩ : ∃ b, b = wB.heap.size := ⟨_, rfl⟩
  obtain ⟨bC, hbC'⟩ : ∃ b, b = wC.heap.size := ⟨_, rfl⟩
  rw [← hbD'] at r0 r1 l3 ⊢
  rw [← hbC'] at c0 c1 c2 l4 ⊢
  have st : ∀ V, Below W9.heap.size W9 V → V.cell? ⟨bA, 0, none⟩ = some (.int .i64 ra) ∧ V.cell? ⟨bA, 1, none⟩ = some (.slice aa la ca) ∧ V.cell? ⟨bB, 0, none⟩ = some (.int .i64 rb) ∧ V.cell? ⟨bB, 1, none⟩ = some (.slice ab lb cb) ∧ V.cell? ⟨bP, 0, none⟩ = some (.int .i64 px) ∧ V.cell? ⟨bP, 1, none⟩ = some (.int .i64 py) ∧ V.cell? ⟨bP + 1, 0, none⟩ = some (.int .i64 qx) ∧ V.cell? ⟨bP + 1, 1, none⟩ = some (.int .i64 qy) ∧ V.cell? ⟨bD, 0, none⟩ = some (.int .i64 DX) ∧ V.cell? ⟨bD, 1, none⟩ = some (.int .i64 DY) :=
    fun V hV => ⟨cell_below (hb9.trans (hV.mono s9)) t0, cell_below (hb9.trans (hV.mono s9)) t1, cell_below (hb9.trans (hV.mono s9)) u0, cell_below (hb9.trans (hV.mono s9)) u1, cell_below (hb9.trans (hV.mono s9)) p0, cell_below (hb9.trans (hV.mono s9)) p1, cell_below (hb9.trans (hV.mono s9)) q0, cell_below (hb9.trans (hV.mono s9)) q1, cell_below hV r0, cell_below hV r1⟩
  have Hst := Lib.hid st
  have l5 : bA < W9.heap.size := by omega
  have l6 : bB < W9.heap.size := by omega
  have l7 : bP + 1 < W9.heap.size := by omega
  clear st hW9 hbA hbB hbC hcA hcB hcC hfA hfB hfC hsA hsB hsC hNA hNB hNC NA NB NC hbD' hbC' t0 t1 u0 u1 p0 p1 q0 q1 r0 r1
  clear wA wB wC
  go_cut [18, 19] (fun s18 s19 wx => s19 = .bool i1 ∧ (∃ b, s18 = .pointer (some ⟨b, 0, none⟩) ∧ wx.cell? ⟨b, 0, none⟩ = some (.int .i64 x1) ∧ wx.cell? ⟨b, 1, none⟩ = some (.int .i64 y1) ∧ wx.cell? ⟨b, 2, none⟩ = some (.int .i64 d1)) ∧ Below W9.heap.size W9 wx)
  case first =>
    go_region_held3 (fun V => V.cell? ⟨bA, 0, none⟩ = some (.int .i64 ra) ∧ V.cell? ⟨bA, 1, none⟩ = some (.slice aa la ca) ∧ V.cell? ⟨bB, 0, none⟩ = some (.int .i64 rb) ∧ V.cell? ⟨bB, 1, none⟩ = some (.slice ab lb cb) ∧ V.cell? ⟨bP, 0, none⟩ = some (.int .i64 px) ∧ V.cell? ⟨bP, 1, none⟩ = some (.int .i64 py) ∧ V.cell? ⟨bP + 1, 0, none⟩ = some (.int .i64 qx) ∧ V.cell? ⟨bP + 1, 1, none⟩ = some (.int .i64 qy) ∧ V.cell? ⟨bD, 0, none⟩ = some (.int .i64 DX) ∧ V.cell? ⟨bD, 1, none⟩ = some (.int .i64 DY)) (exact Hst.out _ (by (repeat (first | (with_reducible exact Below.refl _ _) | (with_reducible refine Below.drew ?_) | (with_reducible refine below_drewN ?_ _) | (with_reducible refine Below.setCell ?_ (by first | (simp; done) | (simp; omega) | omega) _) | (with_reducible refine Below.alloc ?_ (by first | (simp; done) | (simp; omega) | omega) _) | (with_reducible refine Below.trans ?_ (Below.mono (by assumption) (by first | (simp; done) | (simp; omega) | omega))) | (with_reducible refine Below.trans ?_ (Below.mono (Later.below _) (by first | (simp; done) | (simp; omega) | omega)))))))
      (first | ((with_reducible refine (Hcd1.out _).mono ?_); rintro e wE ⟨rfl, hbE⟩; obtain ⟨NE, hNE, hcE, hfE, hsE⟩ := bcell hbE; (try simp only [World.size_alloc, World.size_setCell, World.size_drew] at hNE)) | ((with_reducible refine (Hcd2.out _).mono ?_); rintro e wF ⟨rfl, hbF⟩; obtain ⟨NF, hNF, hcF, hfF, hsF⟩ := bcell hbF; (try simp only [World.size_alloc, World.size_setCell, World.size_drew] at hNF)) | ((with_reducible refine (Hcc2.out _ (by (repeat (first | (with_reducible exact Below.refl _ _) | (with_reducible refine Below.drew ?_) | (with_reducible refine below_drewN ?_ _) | (with_reducible refine Below.setCell ?_ (by first | (simp; done) | (simp; omega) | omega) _) | (with_reducible refine Below.alloc ?_ (by first | (simp; done) | (simp; omega) | omega) _) | (with_reducible refine Below.trans ?_ (Below.mono (by assumption) (by first | (simp; done) | (simp; omega) | omega))) | (with_reducible refine Below.trans ?_ (Below.mono (Later.below _) (by first | (simp; done) | (simp; omega) | omega))))))).mono ?_); rintro e wG ⟨rfl, hbG⟩; obtain ⟨NG, hNG, hcG, hfG, hsG⟩ := bcell hbG; (try simp only [World.size_alloc, World.size_setCell, World.size_drew] at hNG)))
    all_goals
      have hst := setCell_if
      go_wp2
      go_meet
      refine ⟨rfl, ⟨_, rfl, ?_, ?_, ?_⟩, ?_⟩
      · simp [hst, hcG, hcF, hcE, hal, ↓IntWalk.iteOmega]
      · simp [hst, hcG, hcF, hcE, hal, ↓IntWalk.iteOmega]
      · simp [hst, hcG, hcF, hcE, hal, ↓IntWalk.iteOmega]
      · (repeat (first | (with_reducible exact Below.refl _ _) | (with_reducible refine Below.drew ?_) | (with_reducible refine below_drewN ?_ _) | (with_reducible refine Below.setCell ?_ (by first | (simp; done) | (simp; omega) | omega) _) | (with_reducible refine Below.alloc ?_ (by first | (simp; done) | (simp; omega) | omega) _) | (with_reducible refine Below.trans ?_ (Below.mono (by assumption) (by first | (simp; done) | (simp; omega) | omega))) | (with_reducible refine Below.trans ?_ (Below.mono (Later.below _) (by first | (simp; done) | (simp; omega) | omega)))))
  obtain ⟨rfl, ⟨bE, rfl, f0, f1, f2⟩, hbc⟩ := hcut
  have sc := hbc.size
  have st : ∀ V, Below wc.heap.size wc V → V.cell? ⟨bA, 0, none⟩ = some (.int .i64 ra) ∧ V.cell? ⟨bA, 1, none⟩ = some (.slice aa la ca) ∧ V.cell? ⟨bB, 0, none⟩ = some (.int .i64 rb) ∧ V.cell? ⟨bB, 1, none⟩ = some (.slice ab lb cb) ∧ V.cell? ⟨bP, 0, none⟩ = some (.int .i64 px) ∧ V.cell? ⟨bP, 1, none⟩ = some (.int .i64 py) ∧ V.cell? ⟨bP + 1, 0, none⟩ = some (.int .i64 qx) ∧ V.cell? ⟨bP + 1, 1, none⟩ = some (.int .i64 qy) ∧ V.cell? ⟨bD, 0, none⟩ = some (.int .i64 DX) ∧ V.cell? ⟨bD, 1, none⟩ = some (.int .i64 DY) ∧ V.cell? ⟨bC, 0, none⟩ = some (.int .i64 x1) ∧ V.cell? ⟨bC, 1, none⟩ = some (.int .i64 y1) ∧ V.cell? ⟨bC, 2, none⟩ = some (.int .i64 d1) ∧ V.cell? ⟨bE, 0, none⟩ = some (.int .i64 x1) ∧ V.cell? ⟨bE, 1, none⟩ = some (.int .i64 y1) ∧ V.cell? ⟨bE, 2, none⟩ = some (.int .i64 d1) := by
    intro V hV
    obtain ⟨h1, h2, h3, h4, h5, h6, h7, h8, h9, h10⟩ := Hst.out V (hbc.trans (hV.mono sc))
    exact ⟨h1, h2, h3, h4, h5, h6, h7, h8, h9, h10, cell_below hV (cell_below hbc c0), cell_below hV (cell_below hbc c1), cell_below hV (cell_below hbc c2), cell_below hV f0, cell_below hV f1, cell_below hV f2⟩
  clear Hst
  have Hst := Lib.hid st
  have m1 : bA < wc.heap.size := by omega
  have m2 : bB < wc.heap.size := by omega
  have m3 : bP + 1 < wc.heap.size := by omega
  have m4 : bD < wc.heap.size := by omega
  have m5 : bC < wc.heap.size := by omega
  have m6 : bE < wc.heap.size := World.block_lt_of_cell? _ _ f0
  clear st c0 c1 c2 f0 f1 f2
  go_upto_region 7 with (fail)
  go_region_held3 (fun V => V.cell? ⟨bA, 0, none⟩ = some (.int .i64 ra) ∧ V.cell? ⟨bA, 1, none⟩ = some (.slice aa la ca) ∧ V.cell? ⟨bB, 0, none⟩ = some (.int .i64 rb) ∧ V.cell? ⟨bB, 1, none⟩ = some (.slice ab lb cb) ∧ V.cell? ⟨bP, 0, none⟩ = some (.int .i64 px) ∧ V.cell? ⟨bP, 1, none⟩ = some (.int .i64 py) ∧ V.cell? ⟨bP + 1, 0, none⟩ = some (.int .i64 qx) ∧ V.cell? ⟨bP + 1, 1, none⟩ = some (.int .i64 qy) ∧ V.cell? ⟨bD, 0, none⟩ = some (.int .i64 DX) ∧ V.cell? ⟨bD, 1, none⟩ = some (.int .i64 DY) ∧ V.cell? ⟨bC, 0, none⟩ = some (.int .i64 x1) ∧ V.cell? ⟨bC, 1, none⟩ = some (.int .i64 y1) ∧ V.cell? ⟨bC, 2, none⟩ = some (.int .i64 d1) ∧ V.cell? ⟨bE, 0, none⟩ = some (.int .i64 x1) ∧ V.cell? ⟨bE, 1, none⟩ = some (.int .i64 y1) ∧ V.cell? ⟨bE, 2, none⟩ = some (.int .i64 d1)) (exact Hst.out _ (by (repeat (first | (with_reducible exact Below.refl _ _) | (with_reducible refine Below.drew ?_) | (with_reducible refine below_drewN ?_ _) | (with_reducible refine Below.setCell ?_ (by first | (simp; done) | (simp; omega) | omega) _) | (with_reducible refine Below.alloc ?_ (by first | (simp; done) | (simp; omega) | omega) _) | (with_reducible refine Below.trans ?_ (Below.mono (by assumption) (by first | (simp; done) | (simp; omega) | omega))) | (with_reducible refine Below.trans ?_ (Below.mono (Later.below _) (by first | (simp; done) | (simp; omega) | omega)))))))
    (first | ((with_reducible refine (Hcd1.out _).mono ?_); rintro e wE ⟨rfl, hbE⟩; obtain ⟨NE, hNE, hcE, hfE, hsE⟩ := bcell hbE; (try simp only [World.size_alloc, World.size_setCell, World.size_drew] at hNE)) | ((with_reducible refine (Hcd2.out _).mono ?_); rintro e wF ⟨rfl, hbF⟩; obtain ⟨NF, hNF, hcF, hfF, hsF⟩ := bcell hbF; (try simp only [World.size_alloc, World.size_setCell, World.size_drew] at hNF)) | ((with_reducible refine (Hca1.out _ (by (repeat (first | (with_reducible exact Below.refl _ _) | (with_reducible refine Below.drew ?_) | (with_reducible refine below_drewN ?_ _) | (with_reducible refine Below.setCell ?_ (by first | (simp; done) | (simp; omega) | omega) _) | (with_reducible refine Below.alloc ?_ (by first | (simp; done) | (simp; omega) | omega) _) | (with_reducible refine Below.trans ?_ (Below.mono (by assumption) (by first | (simp; done) | (simp; omega) | omega))) | (with_reducible refine Below.trans ?_ (Below.mono (Later.below _) (by first | (simp; done) | (simp; omega) | omega))))))).mono ?_); rintro e wH ⟨vH, rfl, hoH, hbH⟩; obtain ⟨_, alH, capH, rfl, hpH⟩ := poly_of_row hoH; clear hoH; have hsH := hbH.size; (try simp only [World.size_alloc, World.size_setCell, World.size_drew] at hsH)) | ((with_reducible refine (Hca2.out _ (by (repeat (first | (with_reducible exact Below.refl _ _) | (with_reducible refine Below.drew ?_) | (with_reducible refine below_drewN ?_ _) | (with_reducible refine Below.setCell ?_ (by first | (simp; done) | (simp; omega) | omega) _) | (with_reducible refine Below.alloc ?_ (by first | (simp; done) | (simp; omega) | omega) _) | (with_reducible refine Below.trans ?_ (Below.mono (by assumption) (by first | (simp; done) | (simp; omega) | omega))) | (with_reducible refine Below.trans ?_ (Below.mono (Later.below _) (by first | (simp; done) | (simp; omega) | omega))))))).mono ?_); rintro e wI ⟨vI, rfl, hoI, hbI⟩; obtain ⟨_, alI, capI, rfl, hpI⟩ := poly_of_row hoI; clear hoI; have hsI := hbI.size; (try simp only [World.size_alloc, World.size_setCell, World.size_drew] at hsI)) | ((with_reducible refine (equal_same (IsPoly.later (by assumption) (by (repeat (first | (with_reducible exact Below.refl _ _) | (with_reducible refine Below.drew ?_) | (with_reducible refine below_drewN ?_ _) | (with_reducible refine Below.setCell ?_ (by first | (simp; done) | (simp; omega) | omega) _) | (with_reducible refine Below.alloc ?_ (by first | (simp; done) | (simp; omega) | omega) _) | (with_reducible refine Below.trans ?_ (Below.mono (by assumption) (by first | (simp; done) | (simp; omega) | omega))) | (with_reducible refine Below.trans ?_ (Below.mono (Later.below _) (by first | (simp; done) | (simp; omega) | omega))))))) (IsPoly.later (by assumption) (by (repeat (first | (with_reducible exact Below.refl _ _) | (with_reducible refine Below.drew ?_) | (with_reducible refine below_drewN ?_ _) | (with_reducible refine Below.setCell ?_ (by first | (simp; done) | (simp; omega) | omega) _) | (with_reducible refine Below.alloc ?_ (by first | (simp; done) | (simp; omega) | omega) _) | (with_reducible refine Below.trans ?_ (Below.mono (by assumption) (by first | (simp; done) | (simp; omega) | omega))) | (with_reducible refine Below.trans ?_ (Below.mono (Later.below _) (by first | (simp; done) | (simp; omega) | omega))))))) (by assumption)).mono ?_); rintro e wQ ⟨rfl, hbQ⟩; have hsQ := hbQ.size; (try simp only [World.size_alloc, World.size_setCell, World.size_drew] at hsQ)) | ((with_reducible refine (Hlv.out _).mono ?_); rintro e wJ ⟨rfl, hbJ⟩; obtain ⟨NJ, hNJ, hcJ, hfJ, hsJ⟩ := bcell hbJ; (try simp only [World.size_alloc, World.size_setCell, World.size_drew] at hNJ)))
  go_wp2
  go_ret
  refine ⟨rfl, hbW.trans (Below.mono (hb9.trans (Below.mono (hbc.trans (Below.mono (?_ : Below wc.heap.size wc _) sc)) s9)) sw)⟩
  (repeat (first | (with_reducible exact Below.refl _ _) | (with_reducible refine Below.drew ?_) | (with_reducible refine below_drewN ?_ _) | (with_reducible refine Below.setCell ?_ (by first | (simp; done) | (simp; omega) | omega) _) | (with_reducible refine Below.alloc ?_ (by first | (simp; done) | (simp; omega) | omega) _) | (with_reducible refine Below.trans ?_ (Below.mono (by assumption) (by first | (simp; done) | (simp; omega) | omega))) | (with_reducible refine Below.trans ?_ (Below.mono (Later.below _) (by first | (simp; done) | (simp; omega) | omega)))))
end Go.Proofs.Ytcgcapfppceggaa.W
