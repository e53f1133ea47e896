/-
  The walk of the law CollideMeets: it returns true at every input.
  Conditions: none.
-/
import Derived.Test.YtcgcapfppceggaaCoE
import Derived.Test.YtcgcapfppceggaaCoQ
import Derived.Test.YtcgcapfppceggaaShN
import Derived.Test.YtcgcapfppceggaaQe
import Derived.Deep.Cut
import Derived.Deep.CutRange
import Derived.Deep.DeepCutAuto
namespace Go.Proofs.Ytcgcapfppceggaa.W
open Go.RowKit Go.Proofs.Ytcgcapfppceggaa.FxMath Go.Proofs.Ytcgcapfppceggaa.FxA Go.Proofs.Ytcgcapfppceggaa.Qt Go.Proofs.Ytcgcapfppceggaa.Ve Go.Proofs.Ytcgcapfppceggaa.Sh Go.Proofs.Ytcgcapfppceggaa.Co
set_option linter.unusedVariables false
set_option linter.unusedSimpArgs false
/-- The arms of the cross. -/
def arx (k : Nat) : Int := if k = 1 then 4096 else if k = 2 then -4096 else 0
def ary (k : Nat) : Int := if k = 3 then 4096 else if k = 4 then -4096 else 0
theorem ar_bd (k : Nat) : -4096 ≤ arx k ∧ arx k ≤ 4096 ∧ -4096 ≤ ary k ∧ ary k ≤ 4096 := by
  unfold arx ary
  split <;> (try split) <;> (try split) <;> (try split) <;> omega
theorem cov5_of {r : Int} {len : Nat} {zs : List (Int × Int)} {px py cx cy : Int} (h : ∀ j, j < 5 → sct r len zs (cx + arx j - px) (cy + ary j - py) = true) : Cov5 r len zs (cx - px) (cy - py) := by
  have h0 := h 0 (by omega)
  have h1 := h 1 (by omega)
  have h2 := h 2 (by omega)
  have h3 := h 3 (by omega)
  have h4 := h 4 (by omega)
  rw [show cx + arx 0 - px = cx - px by simp [arx], show cy + ary 0 - py = cy - py by simp [ary]] at h0
  rw [show cx + arx 1 - px = cx - px + 4096 by simp [arx]; omega, show cy + ary 1 - py = cy - py by simp [ary]] at h1
  rw [show cx + arx 2 - px = cx - px - 4096 by simp [arx]; omega, show cy + ary 2 - py = cy - py by simp [ary]] at h2
  rw [show cx + arx 3 - px = cx - px by simp [arx], show cy + ary 3 - py = cy - py + 4096 by simp [ary]; omega] at h3
  rw [show cx + arx 4 - px = cx - px by simp [arx], show cy + ary 4 - py = cy - py - 4096 by simp [ary]; omega] at h4
  exact ⟨h0, h1, h2, h3, h4⟩
set_option maxRecDepth 100000 in
set_option maxHeartbeats 4000000 in
theorem CollideMeets_walk (a0 a1 a2a a2b a2c a2d a3 a4 : Int) (w : World) (w0 : (Lit.int .i64 a0).wf = true) (w1 : (Lit.int .i64 a1).wf = true) (w2a : (Lit.int .i64 a2a).wf = true) (w2b : (Lit.int .i64 a2b).wf = true) (w2c : (Lit.int .i64 a2c).wf = true) (w2d : (Lit.int .i64 a2d).wf = true) (w3 : (Lit.int .i64 a3).wf = true) (w4 : (Lit.int .i64 a4).wf = true) :
    Calls Try.prog 17 #[.int .i64 a0, .int .i64 a1, .agg #[.int .i64 a2a, .int .i64 a2b, .int .i64 a2c, .int .i64 a2d], .int .i64 a3, .int .i64 a4] w fun e w' => e = .returned (.bool true) ∧ Below w.heap.size w w' := by
  have cs0 := fun W => shape_any a0 W w0
  have cs1 := fun W => shape_any a1 W w1
  obtain ⟨la, hla⟩ : ∃ L, L = (shZ a0).length := ⟨_, rfl⟩
  obtain ⟨lb, hlb⟩ : ∃ L, L = (shZ a1).length := ⟨_, rfl⟩
  rw [← hla] at cs0
  rw [← hlb] at cs1
  generalize shR a0 = ra at *
  generalize shZ a0 = za at *
  generalize shR a1 = rb at *
  generalize shZ a1 = zb at *
  obtain ⟨b30, b31⟩ := i64_bd w3
  obtain ⟨b40, b41⟩ := i64_bd w4
  have lv := lives05
  have ce := gives_same (fun V => around_any a3 3 V b30 b31 (by decide) (by decide))
  generalize aro a3 3 = k3 at *
  have Hcs0 := Lib.hid cs0; have Hcs1 := Lib.hid cs1; have Hhla := Lib.hid hla; have Hhlb := Lib.hid hlb; have Hlv := Lib.hid lv; have Hce := Lib.hid ce; clear cs0 cs1 hla hlb lv ce
  have hal := alloc_if; have hfal := allocF_if
  go_enter Try.func17, Try.ntmps17
  go_upto_region 3 with (first | ((with_reducible refine (Hcs0.out _).mono ?_); rintro e WA ⟨aa, ca, rfl, hA, hbA, hxA⟩; obtain ⟨NA, hNA, hcA, hfA, hsA⟩ := bcell hbA; (try simp only [World.size_alloc, World.size_setCell, World.size_drew] at hNA)) | ((with_reducible refine (Hcs1.out _).mono ?_); rintro e WB ⟨ab, cb, rfl, hB, hbB, hxB⟩; obtain ⟨NB, hNB, hcB, hfB, hsB⟩ := bcell hbB; (try simp only [World.size_alloc, World.size_setCell, World.size_drew] at hNB)))
  have hA2 : ShAt WB ra aa la ca za := hA.later (by (repeat (first | (with_reducible exact Below.refl _ _) | (with_reducible refine Below.drew ?_) | (with_reducible refine below_drewN ?_ _) | (with_reducible refine Below.setCell ?_ (by first | (simp; done) | (simp; omega) | omega) _) | (with_reducible refine Below.alloc ?_ (by first | (simp; done) | (simp; omega) | omega) _) | (with_reducible refine Below.trans ?_ (Below.mono (by assumption) (by first | (simp; done) | (simp; omega) | omega))) | (with_reducible refine Below.trans ?_ (Below.mono (Later.below _) (by first | (simp; done) | (simp; omega) | omega))))))
  have cp := place_s hA2 hB a2a a2b a2c a2d w2a w2b w2c w2d
  have Hcp := Lib.hid cp; clear cp
  go_upto_region 4 with (((with_reducible refine (Hcp.out _ (by (repeat (first | (with_reducible exact Below.refl _ _) | (with_reducible refine Below.drew ?_) | (with_reducible refine below_drewN ?_ _) | (with_reducible refine Below.setCell ?_ (by first | (simp; done) | (simp; omega) | omega) _) | (with_reducible refine Below.alloc ?_ (by first | (simp; done) | (simp; omega) | omega) _) | (with_reducible refine Below.trans ?_ (Below.mono (by assumption) (by first | (simp; done) | (simp; omega) | omega))) | (with_reducible refine Below.trans ?_ (Below.mono (Later.below _) (by first | (simp; done) | (simp; omega) | omega))))))).mono ?_); rintro e wP ⟨⟨px, py, qx, qy, rfl, hp, hq⟩, hbP⟩; obtain ⟨NP, hNP, hcP, hfP, hsP⟩ := bcell hbP; (try simp only [World.size_alloc, World.size_setCell, World.size_drew] at hNP)))
  have cl1 := long_s hA2
  have cl2 := long_s hB
  have hmt := @meets_law WB ra aa la ca za rb ab lb cb zb hA2 hB
  generalize lng za = k1 at *
  generalize lng zb = k2 at *
  have Hcl1 := Lib.hid cl1; have Hcl2 := Lib.hid cl2; have Hhmt := Lib.hid hmt; clear cl1 cl2 hmt
  cases k1
  · go_wp2_with (first | ((with_reducible refine (Hcl1.out _ (by (repeat (first | (with_reducible exact Below.refl _ _) | (with_reducible refine Below.drew ?_) | (with_reducible refine below_drewN ?_ _) | (with_reducible refine Below.setCell ?_ (by first | (simp; done) | (simp; omega) | omega) _) | (with_reducible refine Below.alloc ?_ (by first | (simp; done) | (simp; omega) | omega) _) | (with_reducible refine Below.trans ?_ (Below.mono (by assumption) (by first | (simp; done) | (simp; omega) | omega))) | (with_reducible refine Below.trans ?_ (Below.mono (Later.below _) (by first | (simp; done) | (simp; omega) | omega))))))).mono ?_); rintro e wC ⟨rfl, hbC⟩; obtain ⟨NC, hNC, hcC, hfC, hsC⟩ := bcell hbC; (try simp only [World.size_alloc, World.size_setCell, World.size_drew] at hNC)) | ((with_reducible refine (Hcl2.out _ (by (repeat (first | (with_reducible exact Below.refl _ _) | (with_reducible refine Below.drew ?_) | (with_reducible refine below_drewN ?_ _) | (with_reducible refine Below.setCell ?_ (by first | (simp; done) | (simp; omega) | omega) _) | (with_reducible refine Below.alloc ?_ (by first | (simp; done) | (simp; omega) | omega) _) | (with_reducible refine Below.trans ?_ (Below.mono (by assumption) (by first | (simp; done) | (simp; omega) | omega))) | (with_reducible refine Below.trans ?_ (Below.mono (Later.below _) (by first | (simp; done) | (simp; omega) | omega))))))).mono ?_); rintro e wD ⟨rfl, hbD⟩; obtain ⟨ND, hND, hcD, hfD, hsD⟩ := bcell hbD; (try simp only [World.size_alloc, World.size_setCell, World.size_drew] at hND)) | ((with_reducible refine (Hlv.out _).mono ?_); rintro e wF ⟨rfl, hbF⟩; obtain ⟨NF, hNF, hcF, hfF, hsF⟩ := bcell hbF; (try simp only [World.size_alloc, World.size_setCell, World.size_drew] at hNF)))
    go_ret
    exact ⟨rfl, by (repeat (first | (with_reducible exact Below.refl _ _) | (with_reducible refine Below.drew ?_) | (with_reducible refine below_drewN ?_ _) | (with_reducible refine Below.setCell ?_ (by first | (simp; done) | (simp; omega) | omega) _) | (with_reducible refine Below.alloc ?_ (by first | (simp; done) | (simp; omega) | omega) _) | (with_reducible refine Below.trans ?_ (Below.mono (by assumption) (by first | (simp; done) | (simp; omega) | omega))) | (with_reducible refine Below.trans ?_ (Below.mono (Later.below _) (by first | (simp; done) | (simp; omega) | omega)))))⟩
  cases k2
  · go_wp2_with (first | ((with_reducible refine (Hcl1.out _ (by (repeat (first | (with_reducible exact Below.refl _ _) | (with_reducible refine Below.drew ?_) | (with_reducible refine below_drewN ?_ _) | (with_reducible refine Below.setCell ?_ (by first | (simp; done) | (simp; omega) | omega) _) | (with_reducible refine Below.alloc ?_ (by first | (simp; done) | (simp; omega) | omega) _) | (with_reducible refine Below.trans ?_ (Below.mono (by assumption) (by first | (simp; done) | (simp; omega) | omega))) | (with_reducible refine Below.trans ?_ (Below.mono (Later.below _) (by first | (simp; done) | (simp; omega) | omega))))))).mono ?_); rintro e wC ⟨rfl, hbC⟩; obtain ⟨NC, hNC, hcC, hfC, hsC⟩ := bcell hbC; (try simp only [World.size_alloc, World.size_setCell, World.size_drew] at hNC)) | ((with_reducible refine (Hcl2.out _ (by (repeat (first | (with_reducible exact Below.refl _ _) | (with_reducible refine Below.drew ?_) | (with_reducible refine below_drewN ?_ _) | (with_reducible refine Below.setCell ?_ (by first | (simp; done) | (simp; omega) | omega) _) | (with_reducible refine Below.alloc ?_ (by first | (simp; done) | (simp; omega) | omega) _) | (with_reducible refine Below.trans ?_ (Below.mono (by assumption) (by first | (simp; done) | (simp; omega) | omega))) | (with_reducible refine Below.trans ?_ (Below.mono (Later.below _) (by first | (simp; done) | (simp; omega) | omega))))))).mono ?_); rintro e wD ⟨rfl, hbD⟩; obtain ⟨ND, hND, hcD, hfD, hsD⟩ := bcell hbD; (try simp only [World.size_alloc, World.size_setCell, World.size_drew] at hND)) | ((with_reducible refine (Hlv.out _).mono ?_); rintro e wF ⟨rfl, hbF⟩; obtain ⟨NF, hNF, hcF, hfF, hsF⟩ := bcell hbF; (try simp only [World.size_alloc, World.size_setCell, World.size_drew] at hNF)))
    go_ret
    exact ⟨rfl, by (repeat (first | (with_reducible exact Below.refl _ _) | (with_reducible refine Below.drew ?_) | (with_reducible refine below_drewN ?_ _) | (with_reducible refine Below.setCell ?_ (by first | (simp; done) | (simp; omega) | omega) _) | (with_reducible refine Below.alloc ?_ (by first | (simp; done) | (simp; omega) | omega) _) | (with_reducible refine Below.trans ?_ (Below.mono (by assumption) (by first | (simp; done) | (simp; omega) | omega))) | (with_reducible refine Below.trans ?_ (Below.mono (Later.below _) (by first | (simp; done) | (simp; omega) | omega)))))⟩
  have cb := bounds_s hA2 px py (by omega) (by omega)
  have bb := box_bd hA2 px py
  generalize bx0 ra la za px = X0 at *
  generalize by0 ra la za py = Y0 at *
  generalize bx1 ra la za px = X1 at *
  generalize by1 ra la za py = Y1 at *
  obtain ⟨⟨b1, b2, b3⟩, b4, b5, b6⟩ := bb
  have Hcb := Lib.hid cb; clear cb
  go_upto_region 7 with (first | ((with_reducible refine (Hcl1.out _ (by (repeat (first | (with_reducible exact Below.refl _ _) | (with_reducible refine Below.drew ?_) | (with_reducible refine below_drewN ?_ _) | (with_reducible refine Below.setCell ?_ (by first | (simp; done) | (simp; omega) | omega) _) | (with_reducible refine Below.alloc ?_ (by first | (simp; done) | (simp; omega) | omega) _) | (with_reducible refine Below.trans ?_ (Below.mono (by assumption) (by first | (simp; done) | (simp; omega) | omega))) | (with_reducible refine Below.trans ?_ (Below.mono (Later.below _) (by first | (simp; done) | (simp; omega) | omega))))))).mono ?_); rintro e wC ⟨rfl, hbC⟩; obtain ⟨NC, hNC, hcC, hfC, hsC⟩ := bcell hbC; (try simp only [World.size_alloc, World.size_setCell, World.size_drew] at hNC)) | ((with_reducible refine (Hcl2.out _ (by (repeat (first | (with_reducible exact Below.refl _ _) | (with_reducible refine Below.drew ?_) | (with_reducible refine below_drewN ?_ _) | (with_reducible refine Below.setCell ?_ (by first | (simp; done) | (simp; omega) | omega) _) | (with_reducible refine Below.alloc ?_ (by first | (simp; done) | (simp; omega) | omega) _) | (with_reducible refine Below.trans ?_ (Below.mono (by assumption) (by first | (simp; done) | (simp; omega) | omega))) | (with_reducible refine Below.trans ?_ (Below.mono (Later.below _) (by first | (simp; done) | (simp; omega) | omega))))))).mono ?_); rintro e wD ⟨rfl, hbD⟩; obtain ⟨ND, hND, hcD, hfD, hsD⟩ := bcell hbD; (try simp only [World.size_alloc, World.size_setCell, World.size_drew] at hND)) | ((with_reducible refine (Hcb.out _ (by (repeat (first | (with_reducible exact Below.refl _ _) | (with_reducible refine Below.drew ?_) | (with_reducible refine below_drewN ?_ _) | (with_reducible refine Below.setCell ?_ (by first | (simp; done) | (simp; omega) | omega) _) | (with_reducible refine Below.alloc ?_ (by first | (simp; done) | (simp; omega) | omega) _) | (with_reducible refine Below.trans ?_ (Below.mono (by assumption) (by first | (simp; done) | (simp; omega) | omega))) | (with_reducible refine Below.trans ?_ (Below.mono (Later.below _) (by first | (simp; done) | (simp; omega) | omega))))))).mono ?_); rintro e wE ⟨rfl, hbE⟩; obtain ⟨NE, hNE, hcE, hfE, hsE⟩ := bcell hbE; (try simp only [World.size_alloc, World.size_setCell, World.size_drew] at hNE)))
  obtain ⟨dX, hdX⟩ : ∃ d, d = X1 - X0 := ⟨_, rfl⟩
  obtain ⟨dY, hdY⟩ : ∃ d, d = Y1 - Y0 := ⟨_, rfl⟩
  obtain ⟨mX, hmX⟩ : ∃ d, d = dX + 1 := ⟨_, rfl⟩
  obtain ⟨mY, hmY⟩ : ∃ d, d = dY + 1 := ⟨_, rfl⟩
  have gx := gives_same (fun V => around_any a3 mX V b30 b31 (by omega) (by omega))
  have gy := gives_same (fun V => around_any a4 mY V b40 b41 (by omega) (by omega))
  have tx := aro_bd a3 mX (by omega)
  have ty := aro_bd a4 mY (by omega)
  generalize aro a3 mX = kx at *
  generalize aro a4 mY = ky at *
  obtain ⟨cx0, hcx⟩ : ∃ d, d = X0 + kx := ⟨_, rfl⟩
  obtain ⟨cy0, hcy⟩ : ∃ d, d = Y0 + ky := ⟨_, rfl⟩
  have g1 : IntKind.i64.wrap (X1 - X0) = dX := by rw [hdX]; exact IntWalk.i64_in _ (by omega)
  have g2 : IntKind.i64.wrap (Y1 - Y0) = dY := by rw [hdY]; exact IntWalk.i64_in _ (by omega)
  have g3 : IntKind.i64.wrap (dX + 1) = mX := by rw [hmX]; exact IntWalk.i64_in _ (by omega)
  have g4 : IntKind.i64.wrap (dY + 1) = mY := by rw [hmY]; exact IntWalk.i64_in _ (by omega)
  have g5 : IntKind.i64.wrap (X0 + kx) = cx0 := by rw [hcx]; exact IntWalk.i64_in _ (by omega)
  have g6 : IntKind.i64.wrap (Y0 + ky) = cy0 := by rw [hcy]; exact IntWalk.i64_in _ (by omega)
  have bcx : -1100000 ≤ cx0 ∧ cx0 ≤ 1100000 := by omega
  have bcy : -1100000 ≤ cy0 ∧ cy0 ≤ 1100000 := by omega
  refine name_world fun W7 hW7 => ?_
  have t0 : W7.cell? ⟨WA.heap.size, 0, none⟩ = some (.int .i64 ra) := by rw [hW7]; simp [hcE, hcD, hcC, hcP, hcB, hal, ↓IntWalk.iteOmega]
  have t1 : W7.cell? ⟨WA.heap.size, 1, none⟩ = some (.slice aa la ca) := by rw [hW7]; simp [hcE, hcD, hcC, hcP, hcB, hal, ↓IntWalk.iteOmega]
  have u0 : W7.cell? ⟨WB.heap.size, 0, none⟩ = some (.int .i64 rb) := by rw [hW7]; simp [hcE, hcD, hcC, hcP, hal, ↓IntWalk.iteOmega]
  have u1 : W7.cell? ⟨WB.heap.size, 1, none⟩ = some (.slice ab lb cb) := by rw [hW7]; simp [hcE, hcD, hcC, hcP, hal, ↓IntWalk.iteOmega]
  have p0 : W7.cell? ⟨wP.heap.size, 0, none⟩ = some (.int .i64 px) := by rw [hW7]; simp [hcE, hcD, hcC, hal, ↓IntWalk.iteOmega]
  have p1 : W7.cell? ⟨wP.heap.size, 1, none⟩ = some (.int .i64 py) := by rw [hW7]; simp [hcE, hcD, hcC, hal, ↓IntWalk.iteOmega]
  have q0 : W7.cell? ⟨wP.heap.size + 1, 0, none⟩ = some (.int .i64 qx) := by rw [hW7]; simp [hcE, hcD, hcC, hal, ↓IntWalk.iteOmega]
  have q1 : W7.cell? ⟨wP.heap.size + 1, 1, none⟩ = some (.int .i64 qy) := by rw [hW7]; simp [hcE, hcD, hcC, hal, ↓IntWalk.iteOmega]
  have x0 : W7.cell? ⟨wE.heap.size, 0, none⟩ = some (.int .i64 X0) := by rw [hW7]; simp [hal, ↓IntWalk.iteOmega]
  have x1 : W7.cell? ⟨wE.heap.size, 1, none⟩ = some (.int .i64 Y0) := by rw [hW7]; simp [hal, ↓IntWalk.iteOmega]
  have x2 : W7.cell? ⟨wE.heap.size, 2, none⟩ = some (.int .i64 X1) := by rw [hW7]; simp [hal, ↓IntWalk.iteOmega]
  have x3 : W7.cell? ⟨wE.heap.size, 3, none⟩ = some (.int .i64 Y1) := by rw [hW7]; simp [hal, ↓IntWalk.iteOmega]
  have hbW : Below w.heap.size w W7 := by rw [hW7]; (repeat (first | (with_reducible exact Below.refl _ _) | (with_reducible refine Below.drew ?_) | (with_reducible refine below_drewN ?_ _) | (with_reducible refine Below.setCell ?_ (by first | (simp; done) | (simp; omega) | omega) _) | (with_reducible refine Below.alloc ?_ (by first | (simp; done) | (simp; omega) | omega) _) | (with_reducible refine Below.trans ?_ (Below.mono (by assumption) (by first | (simp; done) | (simp; omega) | omega))) | (with_reducible refine Below.trans ?_ (Below.mono (Later.below _) (by first | (simp; done) | (simp; omega) | omega)))))
  have l0 : WA.heap.size < W7.heap.size := World.block_lt_of_cell? _ _ t0
  have l1 : WB.heap.size < W7.heap.size := World.block_lt_of_cell? _ _ u0
  have l2 : wP.heap.size + 1 < W7.heap.size := World.block_lt_of_cell? _ _ q0
  have l3 : wE.heap.size < W7.heap.size := World.block_lt_of_cell? _ _ x0
  have hbV : Below WB.heap.size WB W7 := by rw [hW7]; (repeat (first | (with_reducible exact Below.refl _ _) | (with_reducible refine Below.drew ?_) | (with_reducible refine below_drewN ?_ _) | (with_reducible refine Below.setCell ?_ (by first | (simp; done) | (simp; omega) | omega) _) | (with_reducible refine Below.alloc ?_ (by first | (simp; done) | (simp; omega) | omega) _) | (with_reducible refine Below.trans ?_ (Below.mono (by assumption) (by first | (simp; done) | (simp; omega) | omega))) | (with_reducible refine Below.trans ?_ (Below.mono (Later.below _) (by first | (simp; done) | (simp; omega) | omega)))))
  clear hbA hbB hbP hbC hbD hbE hcA hcB hcP hcC hcD hcE hfA hfB hfP hfC hfD hfE hA hxA hxB hW7 hal hfal hsA hsB hsP hsC hsD hsE hNA hNB hNP hNC hND hNE NA NB NP NC ND NE
  clear hdX hdY hmX hmY hcx hcy b1 b2 b3 b4 b5 b6 tx ty Hcl1 Hcl2 Hcb Hcs0 Hcs1 Hcp b30 b31 b40 b41
  have Hgx := Lib.hid gx; have Hgy := Lib.hid gy; clear gx gy
  have hal := alloc_if; have hfal := allocF_if
  refine wp_region_calm1 23 16 #[.int .i64 0, .int .i64 0] 29 rfl (by kernel_rfl) (by kernel_rfl) (fun o ho ev w => by have ho' := Option.some.inj ho; rw [← ho']; exact rfl) fun NL hL => ?_; obtain ⟨hNL, hlc, hlf⟩ := hL; (try simp only [World.size_alloc, World.size_setCell, World.size_drew] at hNL); simp only [List.take_succ_cons, List.take_zero, List.drop_succ_cons, List.drop_zero]
  repeat ((refine wpCalm_go (fun K hK => ?_); go_simp; (repeat (simp only [↓IntWalk.iteOmega]; (try go_simp)))); first | (refine hK _ ?_; clear hK K) | (apply Exists.intro; refine ⟨fun x => ?_, hK _ ?_⟩; (first | (with_reducible exact calm_call (Hgx.out _)) | (with_reducible exact calm_call (Hgy.out _))); clear hK K))
  (refine wpCalm_nil ?_; intro b1 w1 hb1 hk1 hkf1 hkn1 hks1; (try simp only [World.size_alloc, World.size_setCell, World.size_drew] at hkn1); clear hlc hlf hNL NL; obtain ⟨N1, hN1, hc1, hf1, hs1⟩ := bcell hb1; (try simp only [World.size_alloc, World.size_setCell, World.size_drew] at hN1))
  have hst := setCell_if
  simp only [Act.put, List.setIfInBounds_toArray, List.set_cons_zero, List.set_cons_succ]
  go_upto_region 8 with (fail)
  refine name_world fun W8 hW8 => ?_
  have c0 : W8.cell? ⟨b1, 0, none⟩ = some (.int .i64 cx0) := by rw [hW8]; simp [hst, hk1]
  have c1 : W8.cell? ⟨b1, 1, none⟩ = some (.int .i64 cy0) := by rw [hW8]; simp [hst, hk1]
  have f1 : ∀ i, W8.frozen? ⟨b1, i, none⟩ = false := fun i => by rw [hW8]; simp [hkf1]
  have hb8 : Below W7.heap.size W7 W8 := by rw [hW8]; exact (hb1.setCell hkn1 _).setCell hkn1 _
  have lb8 : b1 < W8.heap.size := World.block_lt_of_cell? _ _ c0
  have p8 := cell_below hb8 p0
  have p9 := cell_below hb8 p1
  have q8 := cell_below hb8 q0
  have q9 := cell_below hb8 q1
  have s8 := hb8.size
  clear hW8 hk1 hkf1 hc1 hf1 hb1 hs1 hN1 hks1 N1 w1 hst
  go_upto_if 69 with (((with_reducible refine (Hce.out _).mono ?_); rintro e wG ⟨rfl, hbG⟩; obtain ⟨NG, hNG, hcG, hfG, hsG⟩ := bcell hbG; (try simp only [World.size_alloc, World.size_setCell, World.size_drew] at hNG)))
  have cad := add_any px py qx qy (by omega) (by omega) (by omega) (by omega)
  have cmd := vMulDiv_any (px + qx) (py + qy) 1 2 (by omega) (by omega) (by omega) (by omega)
  have e1 : fdv ((px + qx) * 1) 2 = (px + qx) / 2 := by rw [Int.mul_one]; exact fdv_pos _ _ (by omega)
  have e2 : fdv ((py + qy) * 1) 2 = (py + qy) / 2 := by rw [Int.mul_one]; exact fdv_pos _ _ (by omega)
  rw [e1, e2] at cmd
  obtain ⟨mx, hmx⟩ : ∃ m, m = (px + qx) / 2 := ⟨_, rfl⟩
  obtain ⟨my, hmy⟩ : ∃ m, m = (py + qy) / 2 := ⟨_, rfl⟩
  rw [← hmx, ← hmy] at cmd
  have bmx : -1100000 ≤ mx ∧ mx ≤ 1100000 := by omega
  have bmy : -1100000 ≤ my ∧ my ≤ 1100000 := by omega
  have Hbm := Lib.hid (And.intro bmx bmy)
  have Hbc := Lib.hid (And.intro bcx bcy)
  have Hcad := Lib.hid cad; have Hcmd := Lib.hid cmd; clear cad cmd
  clear e1 e2 hmx hmy bmx bmy bcx bcy
  go_cut [] (fun wx => ∃ cx cy : Int, ((-1100000 ≤ cx ∧ cx ≤ 1100000) ∧ (-1100000 ≤ cy ∧ cy ≤ 1100000)) ∧ wx.cell? ⟨b1, 0, none⟩ = some (.int .i64 cx) ∧ wx.cell? ⟨b1, 1, none⟩ = some (.int .i64 cy) ∧ Below W7.heap.size W7 wx)
  case first =>
    by_cases h3 : k3 = 0
    · subst h3
      go_wp2_with (first | ((with_reducible refine (Hcad.out _).mono ?_); rintro e wH ⟨rfl, hbH⟩; obtain ⟨NH, hNH, hcH, hfH, hsH⟩ := bcell hbH; (try simp only [World.size_alloc, World.size_setCell, World.size_drew] at hNH)) | ((with_reducible refine (Hcmd.out _).mono ?_); rintro e wI ⟨rfl, hbI⟩; obtain ⟨NI, hNI, hcI, hfI, hsI⟩ := bcell hbI; (try simp only [World.size_alloc, World.size_setCell, World.size_drew] at hNI)))
      have hst := setCell_if
      go_meet
      refine ⟨_, _, Hbm.out, by simp [hst, hcI, hcH, hcG, c0, c1, ↓IntWalk.iteOmega], by simp [hst, hcI, hcH, hcG, c0, c1, ↓IntWalk.iteOmega], ?_⟩
      refine Below.setCell (Below.setCell (hb8.trans (Below.mono (?_ : Below W8.heap.size W8 _) s8)) hkn1 _) hkn1 _
      (repeat (first | (with_reducible exact Below.refl _ _) | (with_reducible refine Below.drew ?_) | (with_reducible refine below_drewN ?_ _) | (with_reducible refine Below.setCell ?_ (by first | (simp; done) | (simp; omega) | omega) _) | (with_reducible refine Below.alloc ?_ (by first | (simp; done) | (simp; omega) | omega) _) | (with_reducible refine Below.trans ?_ (Below.mono (by assumption) (by first | (simp; done) | (simp; omega) | omega))) | (with_reducible refine Below.trans ?_ (Below.mono (Later.below _) (by first | (simp; done) | (simp; omega) | omega)))))
    · have hk3 : (k3 == 0) = false := beq_eq_false_iff_ne.2 h3
      go_wp2
      go_meet
      exact ⟨_, _, Hbc.out, cell_below hbG c0, cell_below hbG c1, hb8.trans (hbG.mono s8)⟩
  obtain ⟨cx, cy, ⟨bcx, bcy⟩, m0, m1, hbw⟩ := hcut
  clear Hbm Hbc c0 c1 hcG hfG hbG p8 p9 q8 q9
  have sw := hbw.size
  have lbc : b1 < wc.heap.size := World.block_lt_of_cell? _ _ m0
  have z0 := cell_below hbw p0
  have z1 := cell_below hbw p1
  have z2 := cell_below hbw q0
  have z3 := cell_below hbw q1
  have z4 := cell_below hbw u0
  have z5 := cell_below hbw u1
  have hAc : ShAt wc ra aa la ca za := hA2.later (hbV.trans (hbw.mono hbV.size))
  have hBc : ShAt wc rb ab lb cb zb := hB.later (hbV.trans (hbw.mono hbV.size))
  have z6 := cell_below hbw t0
  have z7 := cell_below hbw t1
  have hbWc := hbW.trans (hbw.mono hbW.size)
  have hm := fun hA hB => Hhmt.out trivial trivial px py qx qy cx cy hA hB
  have Hm := Lib.hid hm
  clear hm Hhmt p0 p1 q0 q1 u0 u1 t0 t1 hbV hbW hbw hA2 hB x0 x1 x2 x3 hb8 s8 hkn1 lb8 l0 l1 l2 l3
  have l0 : WA.heap.size < wc.heap.size := World.block_lt_of_cell? _ _ z6
  have l1 : WB.heap.size < wc.heap.size := World.block_lt_of_cell? _ _ z4
  have l2 : wP.heap.size + 1 < wc.heap.size := World.block_lt_of_cell? _ _ z2
  go_wp2
  obtain ⟨W9, hW9⟩ : ∃ W9, W9 = wc.alloc (.cells #[.int .i64 0, .int .i64 0, .int .i64 4096, .int .i64 0, .int .i64 (-4096), .int .i64 0, .int .i64 0, .int .i64 4096, .int .i64 0, .int .i64 (-4096)] 29) := ⟨_, rfl⟩
  have sb9 : Below wc.heap.size wc W9 := by rw [hW9]; (repeat (first | (with_reducible exact Below.refl _ _) | (with_reducible refine Below.drew ?_) | (with_reducible refine below_drewN ?_ _) | (with_reducible refine Below.setCell ?_ (by first | (simp; done) | (simp; omega) | omega) _) | (with_reducible refine Below.alloc ?_ (by first | (simp; done) | (simp; omega) | omega) _) | (with_reducible refine Below.trans ?_ (Below.mono (by assumption) (by first | (simp; done) | (simp; omega) | omega))) | (with_reducible refine Below.trans ?_ (Below.mono (Later.below _) (by first | (simp; done) | (simp; omega) | omega)))))
  have arms : ∀ k, k < 5 → W9.cell? ⟨wc.heap.size, k * 2, none⟩ = some (.int .i64 (arx k)) ∧ W9.cell? ⟨wc.heap.size, k * 2 + 1, none⟩ = some (.int .i64 (ary k)) := by
    intro k hk
    rw [hW9]
    obtain rfl | rfl | rfl | rfl | rfl : k = 0 ∨ k = 1 ∨ k = 2 ∨ k = 3 ∨ k = 4 := by omega
    all_goals exact ⟨World.cell?_alloc_new wc _ _ _, World.cell?_alloc_new wc _ _ _⟩
  rw [← hW9]
  have s9 := sb9.size
  have y0 := cell_below sb9 z0
  have y1 := cell_below sb9 z1
  have y2 := cell_below sb9 z2
  have y3 := cell_below sb9 z3
  have y4 := cell_below sb9 z4
  have y5 := cell_below sb9 z5
  have y6 := cell_below sb9 z6
  have y7 := cell_below sb9 z7
  have y8 := cell_below sb9 m0
  have y9 := cell_below sb9 m1
  have hA9 := hAc.later sb9
  have hB9 := hBc.later sb9
  have hbW9 := hbWc.trans (sb9.mono hbWc.size)
  have sw9 := hbW9.size
  have l9 : wc.heap.size < W9.heap.size := World.block_lt_of_cell? _ _ (arms 0 (by omega)).1
  obtain ⟨bS, hbS⟩ : ∃ b, b = wc.heap.size := ⟨_, rfl⟩
  rw [← hbS] at arms l9 ⊢
  clear z0 z1 z2 z3 z4 z5 z6 z7 m0 m1 hAc hBc hbWc hW9 sb9
  obtain ⟨bA, hbA⟩ : ∃ b, b = WA.heap.size := ⟨_, rfl⟩
  obtain ⟨bB, hbB⟩ : ∃ b, b = WB.heap.size := ⟨_, rfl⟩
  obtain ⟨bP, hbP⟩ : ∃ b, b = wP.heap.size := ⟨_, rfl⟩
  rw [← hbP] at y0 y1 y2 y3 l2 ⊢
  rw [← hbB] at y4 y5 l1 ⊢
  rw [← hbA] at y6 y7 l0 ⊢
  have l0' : bA < W9.heap.size := by omega
  have l1' : bB < W9.heap.size := by omega
  have l2' : bP + 1 < W9.heap.size := by omega
  have l3' : b1 < W9.heap.size := by omega
  clear hbP hbB hbA hbS l0 l1 l2 lbc s9 sw
  go_loopw [18] (fun i wr => ∃ k : Nat, k ≤ 5 ∧ i = .int .i64 k ∧ (∀ j, j < k → sct ra la za (cx + arx j - px) (cy + ary j - py) = true ∧ sct rb lb zb (cx + arx j - qx) (cy + ary j - qy) = true) ∧ Below W9.heap.size W9 wr)
    (fun i _ => 5 - (intOf i).toNat)
  case atStart => exact ⟨0, Nat.zero_le _, rfl, by omega, Below.refl _ _⟩
  case round =>
    obtain ⟨k, hk, rfl, hyes, hBr⟩ := hrel
    have sr := hBr.size
    have r0 := cell_below hBr y0
    have r1 := cell_below hBr y1
    have r2 := cell_below hBr y2
    have r3 := cell_below hBr y3
    have r4 := cell_below hBr y4
    have r5 := cell_below hBr y5
    have r6 := cell_below hBr y6
    have r7 := cell_below hBr y7
    have r8 := cell_below hBr y8
    have r9 := cell_below hBr y9
    have hbWr := hbW9.trans (hBr.mono sw9)
    by_cases hlt : k < 5
    · obtain ⟨v0, v1⟩ := arms k hlt
      have d0 := cell_below hBr v0
      have d1 := cell_below hBr v1
      have bar := ar_bd k
      have cad := add_any cx cy (arx k) (ary k) (by omega) (by omega) (by omega) (by omega)
      have cA := fun V (hV : Below wr.heap.size wr V) => contains_s (hA9.later hBr) px py (cx + arx k) (cy + ary k) (by omega) (by omega) V hV
      have cB := fun V (hV : Below wr.heap.size wr V) => contains_s (hB9.later hBr) qx qy (cx + arx k) (cy + ary k) (by omega) (by omega) V hV
      obtain ⟨yA, hyA⟩ : ∃ y, y = sct ra la za (cx + arx k - px) (cy + ary k - py) := ⟨_, rfl⟩
      obtain ⟨yB, hyB⟩ : ∃ y, y = sct rb lb zb (cx + arx k - qx) (cy + ary k - qy) := ⟨_, rfl⟩
      rw [← hyA] at cA
      rw [← hyB] at cB
      have Hyes := Lib.hid hyes
      clear hyes
      obtain ⟨ux, hux⟩ : ∃ u, u = cx + arx k := ⟨_, rfl⟩
      obtain ⟨uy, huy⟩ : ∃ u, u = cy + ary k := ⟨_, rfl⟩
      rw [← hux, ← huy] at hyA hyB cad
      simp only [← hux, ← huy] at cA cB
      have Hcad := Lib.hid cad; have HcA := Lib.hid cA; have HcB := Lib.hid cB; have HhyA := Lib.hid hyA; have HhyB := Lib.hid hyB; have Hhux := Lib.hid hux; have Hhuy := Lib.hid huy; clear cad cA cB hyA hyB hux huy
      have hltI : (k : Int) < 5 := by omega
      clear v0 v1 bar y0 y1 y2 y3 y4 y5 y6 y7 y8 y9
      have hal := alloc_if; have hfal := allocF_if
      cases yA
      · go_wp2
        refine wp_region_later (by kernel_rfl) (by kernel_rfl) fun NL hL => ?_; obtain ⟨hNL, hlc, hlf⟩ := hL; (try simp only [World.size_alloc, World.size_setCell, World.size_drew] at hNL)
        repeat (go_big_quiet_step (first | (with_reducible exact later_call (Hcad.out _)) | (with_reducible exact later_call (HcA.out _ (by (repeat (first | exact Below.refl _ _ | (with_reducible refine Below.drew ?_) | (with_reducible refine below_drewN ?_ _) | (with_reducible refine Below.setCell ?_ (by first | (simp; done) | (simp; omega) | omega) _) | (with_reducible refine Below.alloc ?_ (by first | (simp; done) | (simp; omega) | omega) _) | (with_reducible refine Below.trans ?_ (Below.mono (by assumption) (by first | (simp; done) | (simp; omega) | omega))) | (with_reducible refine Below.trans ?_ (Below.mono (Later.below _) (by first | (simp; done) | (simp; omega) | omega))))))))))
        (refine wpQuiet_nil ?_; intro w1 hw1; obtain ⟨⟨w1, hb1⟩, rfl⟩ := hw1; clear hlc hlf hNL NL; obtain ⟨N1, hN1, hc1, hf1, hs1⟩ := bcell hb1; (try simp only [World.size_alloc, World.size_setCell, World.size_drew] at hN1))
        go_wp2_with (((with_reducible refine (Hlv.out _).mono ?_); rintro e wF ⟨rfl, hbF⟩; obtain ⟨NF, hNF, hcF, hfF, hsF⟩ := bcell hbF; (try simp only [World.size_alloc, World.size_setCell, World.size_drew] at hNF)))
        go_ret
        refine ⟨rfl, hbWr.trans (Below.mono (?_ : Below wr.heap.size wr _) hbWr.size)⟩
        (repeat (first | (with_reducible exact Below.refl _ _) | (with_reducible refine Below.drew ?_) | (with_reducible refine below_drewN ?_ _) | (with_reducible refine Below.setCell ?_ (by first | (simp; done) | (simp; omega) | omega) _) | (with_reducible refine Below.alloc ?_ (by first | (simp; done) | (simp; omega) | omega) _) | (with_reducible refine Below.trans ?_ (Below.mono (by assumption) (by first | (simp; done) | (simp; omega) | omega))) | (with_reducible refine Below.trans ?_ (Below.mono (Later.below _) (by first | (simp; done) | (simp; omega) | omega)))))
      · cases yB
        · go_wp2
          refine wp_region_later (by kernel_rfl) (by kernel_rfl) fun NL hL => ?_; obtain ⟨hNL, hlc, hlf⟩ := hL; (try simp only [World.size_alloc, World.size_setCell, World.size_drew] at hNL)
          repeat (go_big_quiet_step (first | (with_reducible exact later_call (Hcad.out _)) | (with_reducible exact later_call (HcA.out _ (by (repeat (first | exact Below.refl _ _ | (with_reducible refine Below.drew ?_) | (with_reducible refine below_drewN ?_ _) | (with_reducible refine Below.setCell ?_ (by first | (simp; done) | (simp; omega) | omega) _) | (with_reducible refine Below.alloc ?_ (by first | (simp; done) | (simp; omega) | omega) _) | (with_reducible refine Below.trans ?_ (Below.mono (by assumption) (by first | (simp; done) | (simp; omega) | omega))) | (with_reducible refine Below.trans ?_ (Below.mono (Later.below _) (by first | (simp; done) | (simp; omega) | omega)))))))) | (with_reducible exact later_call (HcB.out _ (by (repeat (first | exact Below.refl _ _ | (with_reducible refine Below.drew ?_) | (with_reducible refine below_drewN ?_ _) | (with_reducible refine Below.setCell ?_ (by first | (simp; done) | (simp; omega) | omega) _) | (with_reducible refine Below.alloc ?_ (by first | (simp; done) | (simp; omega) | omega) _) | (with_reducible refine Below.trans ?_ (Below.mono (by assumption) (by first | (simp; done) | (simp; omega) | omega))) | (with_reducible refine Below.trans ?_ (Below.mono (Later.below _) (by first | (simp; done) | (simp; omega) | omega))))))))))
          (refine wpQuiet_nil ?_; intro w1 hw1; obtain ⟨⟨w1, hb1⟩, rfl⟩ := hw1; clear hlc hlf hNL NL; obtain ⟨N1, hN1, hc1, hf1, hs1⟩ := bcell hb1; (try simp only [World.size_alloc, World.size_setCell, World.size_drew] at hN1))
          go_wp2_with (((with_reducible refine (Hlv.out _).mono ?_); rintro e wF ⟨rfl, hbF⟩; obtain ⟨NF, hNF, hcF, hfF, hsF⟩ := bcell hbF; (try simp only [World.size_alloc, World.size_setCell, World.size_drew] at hNF)))
          go_ret
          refine ⟨rfl, hbWr.trans (Below.mono (?_ : Below wr.heap.size wr _) hbWr.size)⟩
          (repeat (first | (with_reducible exact Below.refl _ _) | (with_reducible refine Below.drew ?_) | (with_reducible refine below_drewN ?_ _) | (with_reducible refine Below.setCell ?_ (by first | (simp; done) | (simp; omega) | omega) _) | (with_reducible refine Below.alloc ?_ (by first | (simp; done) | (simp; omega) | omega) _) | (with_reducible refine Below.trans ?_ (Below.mono (by assumption) (by first | (simp; done) | (simp; omega) | omega))) | (with_reducible refine Below.trans ?_ (Below.mono (Later.below _) (by first | (simp; done) | (simp; omega) | omega)))))
        · go_wp2
          refine wp_region_later (by kernel_rfl) (by kernel_rfl) fun NL hL => ?_; obtain ⟨hNL, hlc, hlf⟩ := hL; (try simp only [World.size_alloc, World.size_setCell, World.size_drew] at hNL)
          repeat (go_big_quiet_step (first | (with_reducible exact later_call (Hcad.out _)) | (with_reducible exact later_call (HcA.out _ (by (repeat (first | exact Below.refl _ _ | (with_reducible refine Below.drew ?_) | (with_reducible refine below_drewN ?_ _) | (with_reducible refine Below.setCell ?_ (by first | (simp; done) | (simp; omega) | omega) _) | (with_reducible refine Below.alloc ?_ (by first | (simp; done) | (simp; omega) | omega) _) | (with_reducible refine Below.trans ?_ (Below.mono (by assumption) (by first | (simp; done) | (simp; omega) | omega))) | (with_reducible refine Below.trans ?_ (Below.mono (Later.below _) (by first | (simp; done) | (simp; omega) | omega)))))))) | (with_reducible exact later_call (HcB.out _ (by (repeat (first | exact Below.refl _ _ | (with_reducible refine Below.drew ?_) | (with_reducible refine below_drewN ?_ _) | (with_reducible refine Below.setCell ?_ (by first | (simp; done) | (simp; omega) | omega) _) | (with_reducible refine Below.alloc ?_ (by first | (simp; done) | (simp; omega) | omega) _) | (with_reducible refine Below.trans ?_ (Below.mono (by assumption) (by first | (simp; done) | (simp; omega) | omega))) | (with_reducible refine Below.trans ?_ (Below.mono (Later.below _) (by first | (simp; done) | (simp; omega) | omega))))))))))
          (refine wpQuiet_nil ?_; intro w1 hw1; obtain ⟨⟨w1, hb1⟩, rfl⟩ := hw1; clear hlc hlf hNL NL; obtain ⟨N1, hN1, hc1, hf1, hs1⟩ := bcell hb1; (try simp only [World.size_alloc, World.size_setCell, World.size_drew] at hN1))
          go_wp2
          go_roundw
          case rel =>
            refine ⟨k + 1, by omega, by go_num, fun j hj => ?_, ?_⟩
            · by_cases e : j = k
              · subst e
                rw [← Hhux.out, ← Hhuy.out]
                exact ⟨HhyA.out.symm, HhyB.out.symm⟩
              · exact Hyes.out j (by omega)
            · refine hBr.trans (Below.mono (?_ : Below wr.heap.size wr _) sr)
              (repeat (first | (with_reducible exact Below.refl _ _) | (with_reducible refine Below.drew ?_) | (with_reducible refine below_drewN ?_ _) | (with_reducible refine Below.setCell ?_ (by first | (simp; done) | (simp; omega) | omega) _) | (with_reducible refine Below.alloc ?_ (by first | (simp; done) | (simp; omega) | omega) _) | (with_reducible refine Below.trans ?_ (Below.mono (by assumption) (by first | (simp; done) | (simp; omega) | omega))) | (with_reducible refine Below.trans ?_ (Below.mono (Later.below _) (by first | (simp; done) | (simp; omega) | omega)))))
          case measure => simp [intOf]; omega
    · obtain rfl : k = 5 := by omega
      have cc : cis ra za px py rb zb qx qy = true := Hm.out (cov5_of fun j hj => (hyes j hj).1) (cov5_of fun j hj => (hyes j hj).2)
      have cc1 := collide_at (hA9.later hBr) (hB9.later hBr) (px := px) (py := py) (qx := qx) (qy := qy) (by omega) (by omega)
      rw [cc] at cc1
      have Hcc1 := Lib.hid cc1; clear cc1
      have hal := alloc_if; have hfal := allocF_if
      clear hyes arms
      go_wp2_with (first | ((with_reducible refine (Hcc1.out).mono ?_); rintro e wC ⟨rfl, hbC⟩; obtain ⟨NC, hNC, hcC, hfC, hsC⟩ := bcell hbC; (try simp only [World.size_alloc, World.size_setCell, World.size_drew] at hNC)) | ((with_reducible refine (Hlv.out _).mono ?_); rintro e wF ⟨rfl, hbF⟩; obtain ⟨NF, hNF, hcF, hfF, hsF⟩ := bcell hbF; (try simp only [World.size_alloc, World.size_setCell, World.size_drew] at hNF)))
      go_ret
      refine ⟨rfl, hbWr.trans (Below.mono (?_ : Below wr.heap.size wr _) hbWr.size)⟩
      (repeat (first | (with_reducible exact Below.refl _ _) | (with_reducible refine Below.drew ?_) | (with_reducible refine below_drewN ?_ _) | (with_reducible refine Below.setCell ?_ (by first | (simp; done) | (simp; omega) | omega) _) | (with_reducible refine Below.alloc ?_ (by first | (simp; done) | (simp; omega) | omega) _) | (with_reducible refine Below.trans ?_ (Below.mono (by assumption) (by first | (simp; done) | (simp; omega) | omega))) | (with_reducible refine Below.trans ?_ (Below.mono (Later.below _) (by first | (simp; done) | (simp; omega) | omega)))))
end Go.Proofs.Ytcgcapfppceggaa.W
