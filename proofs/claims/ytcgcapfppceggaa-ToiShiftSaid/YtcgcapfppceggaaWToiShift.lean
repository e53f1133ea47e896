/-
  The walk of the law ToiShift: it returns true at every input.
  Conditions: none.
-/
import Derived.Test.YtcgcapfppceggaaToB
import Derived.Test.YtcgcapfppceggaaToX
import Derived.Test.YtcgcapfppceggaaQe
import Derived.Deep.Cut
import Derived.Deep.CutRange
import Derived.Deep.DeepCutAuto
import Derived.Deep.RegionHeld3
namespace Go.Proofs.Ytcgcapfppceggaa.W
open Go.RowKit Go.Proofs.Ytcgcapfppceggaa.FxMath Go.Proofs.Ytcgcapfppceggaa.FxA Go.Proofs.Ytcgcapfppceggaa.Qt Go.Proofs.Ytcgcapfppceggaa.Ve Go.Proofs.Ytcgcapfppceggaa.Sh Go.Proofs.Ytcgcapfppceggaa.Co Go.Proofs.Ytcgcapfppceggaa.Ji Go.Proofs.Ytcgcapfppceggaa.To
set_option linter.unusedVariables false
set_option linter.unusedSimpArgs false
set_option maxRecDepth 100000 in
set_option maxHeartbeats 4000000 in
theorem ToiShift_walk (a0 : Option Addr) (len0 cap0 : Nat) (z0 : List Int) (a1 a2 : Int) (w : World) (w0 : Fr.IsRow .i64 w a0 len0 cap0 z0) (w1 : (Lit.int .i64 a1).wf = true) (w2 : (Lit.int .i64 a2).wf = true) :
    Calls Try.prog 15 #[.slice a0 len0 cap0, .int .i64 a1, .int .i64 a2] w fun e w' => e = .returned (.bool true) ∧ Below w.heap.size w w' := by
  have cp := pair_any a0 len0 cap0 _ w (isL_of_row w0)
  have lv := lives06
  unfold PairP at cp
  have Hcp := Lib.hid cp; have Hlv := Lib.hid lv; clear cp lv
  have hal := alloc_if; have hfal := allocF_if
  go_enter Try.func15, Try.ntmps15
  go_upto_region 2 with (((with_reducible refine Hcp.out.mono ?_); rintro e WP ⟨ra, aa, la, ca, za, px, py, ux, uy, rb, ab, lb, cb, zb, qx, qy, vx', vy', rfl, hA, hB, ⟨p1, p2, p3, p4⟩, ⟨u1, u2, u3, u4⟩, ⟨q1, q2, q3, q4⟩, ⟨v1, v2, v3, v4⟩, hbP⟩; obtain ⟨NP, hNP, hcP, hfP, hsP⟩ := bcell hbP; (try simp only [World.size_alloc, World.size_setCell, World.size_drew] at hNP)))
  have szP := hbP.size
  refine name_world3 fun W8 hW8 => ?_
  have x0 : W8.cell? ⟨WP.heap.size, 0, none⟩ = some (.int .i64 ra) := by rw [hW8]; simp [hal, ↓IntWalk.iteOmega]
  have x1 : W8.cell? ⟨WP.heap.size, 1, none⟩ = some (.slice aa la ca) := by rw [hW8]; simp [hal, ↓IntWalk.iteOmega]
  have x2 : W8.cell? ⟨WP.heap.size, 2, none⟩ = some (.int .i64 px) := by rw [hW8]; simp [hal, ↓IntWalk.iteOmega]
  have x3 : W8.cell? ⟨WP.heap.size, 3, none⟩ = some (.int .i64 py) := by rw [hW8]; simp [hal, ↓IntWalk.iteOmega]
  have x4 : W8.cell? ⟨WP.heap.size, 4, none⟩ = some (.int .i64 ux) := by rw [hW8]; simp [hal, ↓IntWalk.iteOmega]
  have x5 : W8.cell? ⟨WP.heap.size, 5, none⟩ = some (.int .i64 uy) := by rw [hW8]; simp [hal, ↓IntWalk.iteOmega]
  have fx : ∀ i, W8.frozen? ⟨WP.heap.size, i, none⟩ = false := fun i => by rw [hW8]; simp [hfal, ↓IntWalk.iteOmega]
  have y0 : W8.cell? ⟨WP.heap.size + 1, 0, none⟩ = some (.int .i64 rb) := by rw [hW8]; simp [hal, ↓IntWalk.iteOmega]
  have y1 : W8.cell? ⟨WP.heap.size + 1, 1, none⟩ = some (.slice ab lb cb) := by rw [hW8]; simp [hal, ↓IntWalk.iteOmega]
  have y2 : W8.cell? ⟨WP.heap.size + 1, 2, none⟩ = some (.int .i64 qx) := by rw [hW8]; simp [hal, ↓IntWalk.iteOmega]
  have y3 : W8.cell? ⟨WP.heap.size + 1, 3, none⟩ = some (.int .i64 qy) := by rw [hW8]; simp [hal, ↓IntWalk.iteOmega]
  have y4 : W8.cell? ⟨WP.heap.size + 1, 4, none⟩ = some (.int .i64 vx') := by rw [hW8]; simp [hal, ↓IntWalk.iteOmega]
  have y5 : W8.cell? ⟨WP.heap.size + 1, 5, none⟩ = some (.int .i64 vy') := by rw [hW8]; simp [hal, ↓IntWalk.iteOmega]
  have fy : ∀ i, W8.frozen? ⟨WP.heap.size + 1, i, none⟩ = false := fun i => by rw [hW8]; simp [hfal, ↓IntWalk.iteOmega]
  have h8 : Below WP.heap.size WP W8 := by rw [hW8]; (repeat (first | (with_reducible exact Below.refl _ _) | (with_reducible refine Below.drew ?_) | (with_reducible refine below_drewN ?_ _) | (with_reducible refine Below.setCell ?_ (by first | (simp; done) | (simp; omega) | omega) _) | (with_reducible refine Below.alloc ?_ (by first | (simp; done) | (simp; omega) | omega) _) | (with_reducible refine Below.trans ?_ (Below.mono (by assumption) (by first | (simp; done) | (simp; omega) | omega))) | (with_reducible refine Below.trans ?_ (Below.mono (Later.below _) (by first | (simp; done) | (simp; omega) | omega)))))
  have s8 : WP.heap.size + 1 < W8.heap.size := World.block_lt_of_cell? _ _ y0
  obtain ⟨b, hb⟩ : ∃ b, b = WP.heap.size := ⟨_, rfl⟩
  rw [← hb] at x0 x1 x2 x3 x4 x5 y0 y1 y2 y3 y4 y5 fx fy s8 ⊢
  have hbl : WP.heap.size ≤ b := by omega
  clear hb hW8 hcP hfP hsP hNP NP Hcp hal hfal
  have hbd : TBd px py ux uy qx qy vx' vy' := ⟨by omega, by omega, by omega, by omega⟩
  have ce := fun V (hV : Below WP.heap.size WP V) => earl_s hA hB hbd V hV
  obtain ⟨b10, b11⟩ := i64_bd w1
  obtain ⟨b20, b21⟩ := i64_bd w2
  have cbx := gives_same (fun V => bound_any a1 200 V b10 b11 (by decide) (by decide))
  have cby := gives_same (fun V => bound_any a2 200 V b20 b21 (by decide) (by decide))
  have tbx := bnd_bd a1 200 (by decide)
  have tby := bnd_bd a2 200 (by decide)
  generalize bnd a1 200 = sx at *
  generalize bnd a2 200 = sy at *
  have ce2 := fun V (hV : Below WP.heap.size WP V) => earl_s hA hB (px := px + sx * 1024) (py := py + sy * 1024) (ux := ux) (uy := uy) (qx := qx + sx * 1024) (qy := qy + sy * 1024) (vx' := vx') (vy' := vy') ⟨by omega, by omega, by omega, by omega⟩ V hV
  rw [tch_shift] at ce2
  have cd1 := add_any px py (sx * 1024) (sy * 1024) (by omega) (by omega) (by omega) (by omega)
  have cd2 := add_any qx qy (sx * 1024) (sy * 1024) (by omega) (by omega) (by omega) (by omega)
  have hX1 : -204800 ≤ sx * 1024 ∧ sx * 1024 ≤ 204800 := by omega
  have hY1 : -204800 ≤ sy * 1024 ∧ sy * 1024 ≤ 204800 := by omega
  generalize hDX : sx * 1024 = DX at *
  generalize hDY : sy * 1024 = DY at *
  generalize erl (tch ra za px py ux uy rb zb qx qy vx' vy') = f at *
  have ca1 := gives_same (fun V => rabs_any (px + DX) V (by omega) (by omega))
  have ca2 := gives_same (fun V => rabs_any (py + DY) V (by omega) (by omega))
  have ca3 := gives_same (fun V => rabs_any (qx + DX) V (by omega) (by omega))
  have ca4 := gives_same (fun V => rabs_any (qy + DY) V (by omega) (by omega))
  generalize abv (px + DX) = m1 at *
  generalize abv (py + DY) = m2 at *
  generalize abv (qx + DX) = m3 at *
  generalize abv (qy + DY) = m4 at *
  obtain ⟨PX, hPX⟩ : ∃ z, z = px + DX := ⟨_, rfl⟩
  obtain ⟨PY, hPY⟩ : ∃ z, z = py + DY := ⟨_, rfl⟩
  obtain ⟨QX, hQX⟩ : ∃ z, z = qx + DX := ⟨_, rfl⟩
  obtain ⟨QY, hQY⟩ : ∃ z, z = qy + DY := ⟨_, rfl⟩
  rw [← hPX] at ce2 cd1 ca1
  rw [← hPY] at ce2 cd1 ca2
  rw [← hQX] at ce2 cd2 ca3
  rw [← hQY] at ce2 cd2 ca4
  clear hPX hPY hQX hQY hbd
  have Hce := Lib.hid ce; have Hce2 := Lib.hid ce2; have Hcbx := Lib.hid cbx; have Hcby := Lib.hid cby; have Hcd1 := Lib.hid cd1; have Hcd2 := Lib.hid cd2; have Hca1 := Lib.hid ca1; have Hca2 := Lib.hid ca2; have Hca3 := Lib.hid ca3; have Hca4 := Lib.hid ca4; clear ce ce2 cbx cby cd1 cd2 ca1 ca2 ca3 ca4
  have hal := alloc_if; have hfal := allocF_if
  have hst := setCell_if
  go_upto_region 6 with (first | ((with_reducible refine (Hce.out _ (by (repeat (first | (with_reducible exact Below.refl _ _) | (with_reducible refine Below.drew ?_) | (with_reducible refine below_drewN ?_ _) | (with_reducible refine Below.setCell ?_ (by first | (simp; done) | (simp; omega) | omega) _) | (with_reducible refine Below.alloc ?_ (by first | (simp; done) | (simp; omega) | omega) _) | (with_reducible refine Below.trans ?_ (Below.mono (by assumption) (by first | (simp; done) | (simp; omega) | omega))) | (with_reducible refine Below.trans ?_ (Below.mono (Later.below _) (by first | (simp; done) | (simp; omega) | omega))))))).mono ?_); rintro e wE ⟨rfl, hbE⟩; obtain ⟨NE, hNE, hcE, hfE, hsE⟩ := bcell hbE; (try simp only [World.size_alloc, World.size_setCell, World.size_drew] at hNE)) | ((with_reducible refine (Hcbx.out _).mono ?_); rintro e wX ⟨rfl, hbX⟩; obtain ⟨NX, hNX, hcX, hfX, hsX⟩ := bcell hbX; (try simp only [World.size_alloc, World.size_setCell, World.size_drew] at hNX)) | ((with_reducible refine (Hcby.out _).mono ?_); rintro e wY ⟨rfl, hbY⟩; obtain ⟨NY, hNY, hcY, hfY, hsY⟩ := bcell hbY; (try simp only [World.size_alloc, World.size_setCell, World.size_drew] at hNY)) | ((with_reducible refine (Hcd1.out _).mono ?_); rintro e wF ⟨rfl, hbF⟩; obtain ⟨NF, hNF, hcF, hfF, hsF⟩ := bcell hbF; (try simp only [World.size_alloc, World.size_setCell, World.size_drew] at hNF)) | ((with_reducible refine (Hcd2.out _).mono ?_); rintro e wG ⟨rfl, hbG⟩; obtain ⟨NG, hNG, hcG, hfG, hsG⟩ := bcell hbG; (try simp only [World.size_alloc, World.size_setCell, World.size_drew] at hNG)))
  refine name_world3 fun W9 hW9 => ?_
  have h9 : Below WP.heap.size WP W9 := by rw [hW9]; (repeat (first | (with_reducible exact Below.refl _ _) | (with_reducible refine Below.drew ?_) | (with_reducible refine below_drewN ?_ _) | (with_reducible refine Below.setCell ?_ (by first | (simp; done) | (simp; omega) | omega) _) | (with_reducible refine Below.alloc ?_ (by first | (simp; done) | (simp; omega) | omega) _) | (with_reducible refine Below.trans ?_ (Below.mono (by assumption) (by first | (simp; done) | (simp; omega) | omega))) | (with_reducible refine Below.trans ?_ (Below.mono (Later.below _) (by first | (simp; done) | (simp; omega) | omega)))))
  have x0' : W9.cell? ⟨b, 0, none⟩ = some (.int .i64 ra) := by rw [hW9]; simp [hst, hcG, hcF, hcY, hcX, hcE, hal, x0, x1, x2, x3, x4, x5, ↓IntWalk.iteOmega]
  have x1' : W9.cell? ⟨b, 1, none⟩ = some (.slice aa la ca) := by rw [hW9]; simp [hst, hcG, hcF, hcY, hcX, hcE, hal, x0, x1, x2, x3, x4, x5, ↓IntWalk.iteOmega]
  have x2' : W9.cell? ⟨b, 2, none⟩ = some (.int .i64 PX) := by rw [hW9]; simp [hst, hcG, hcF, hcY, hcX, hcE, hal, x0, x1, x2, x3, x4, x5, ↓IntWalk.iteOmega]
  have x3' : W9.cell? ⟨b, 3, none⟩ = some (.int .i64 PY) := by rw [hW9]; simp [hst, hcG, hcF, hcY, hcX, hcE, hal, x0, x1, x2, x3, x4, x5, ↓IntWalk.iteOmega]
  have x4' : W9.cell? ⟨b, 4, none⟩ = some (.int .i64 ux) := by rw [hW9]; simp [hst, hcG, hcF, hcY, hcX, hcE, hal, x0, x1, x2, x3, x4, x5, ↓IntWalk.iteOmega]
  have x5' : W9.cell? ⟨b, 5, none⟩ = some (.int .i64 uy) := by rw [hW9]; simp [hst, hcG, hcF, hcY, hcX, hcE, hal, x0, x1, x2, x3, x4, x5, ↓IntWalk.iteOmega]
  have y0' : W9.cell? ⟨b + 1, 0, none⟩ = some (.int .i64 rb) := by rw [hW9]; simp [hst, hcG, hcF, hcY, hcX, hcE, hal, y0, y1, y2, y3, y4, y5, ↓IntWalk.iteOmega]
  have y1' : W9.cell? ⟨b + 1, 1, none⟩ = some (.slice ab lb cb) := by rw [hW9]; simp [hst, hcG, hcF, hcY, hcX, hcE, hal, y0, y1, y2, y3, y4, y5, ↓IntWalk.iteOmega]
  have y2' : W9.cell? ⟨b + 1, 2, none⟩ = some (.int .i64 QX) := by rw [hW9]; simp [hst, hcG, hcF, hcY, hcX, hcE, hal, y0, y1, y2, y3, y4, y5, ↓IntWalk.iteOmega]
  have y3' : W9.cell? ⟨b + 1, 3, none⟩ = some (.int .i64 QY) := by rw [hW9]; simp [hst, hcG, hcF, hcY, hcX, hcE, hal, y0, y1, y2, y3, y4, y5, ↓IntWalk.iteOmega]
  have y4' : W9.cell? ⟨b + 1, 4, none⟩ = some (.int .i64 vx') := by rw [hW9]; simp [hst, hcG, hcF, hcY, hcX, hcE, hal, y0, y1, y2, y3, y4, y5, ↓IntWalk.iteOmega]
  have y5' : W9.cell? ⟨b + 1, 5, none⟩ = some (.int .i64 vy') := by rw [hW9]; simp [hst, hcG, hcF, hcY, hcX, hcE, hal, y0, y1, y2, y3, y4, y5, ↓IntWalk.iteOmega]
  have s9 := h9.size
  have sb : b + 1 < W9.heap.size := World.block_lt_of_cell? _ _ y0'
  clear hW9 hst hbE hcE hfE hsE hNE hbX hcX hfX hsX hNX hbY hcY hfY hsY hNY hbF hcF hfF hsF hNF hbG hcG hfG hsG hNG x0 x1 x2 x3 x4 x5 y0 y1 y2 y3 y4 y5 fx fy h8 Hce Hcbx Hcby Hcd1 Hcd2
  have hmax4 : ∀ (W : World) (ts : Array TypeId) (t : TypeId), Sem.run Try.prog (Builtin.max_ ts t #[.int .i64 m1, .int .i64 m2, .int .i64 m3, .int .i64 m4]) W = .ok (.int .i64 (max (max (max m1 m2) m3) m4)) W := fun W ts t => run_max4 ts t m1 m2 m3 m4
  generalize max (max (max m1 m2) m3) m4 = mx at *
  by_cases hmx : 1048576 < mx
  · refine wp_region_later (by kernel_rfl) (by kernel_rfl) fun NL hL => ?_; obtain ⟨hNL, hlc, hlf⟩ := hL; (try simp only [World.size_alloc, World.size_setCell, World.size_drew] at hNL)
    repeat (go_big_quiet_step (first | (with_reducible exact later_call (Hca1.out _)) | (with_reducible exact later_call (Hca2.out _)) | (with_reducible exact later_call (Hca3.out _)) | (with_reducible exact later_call (Hca4.out _))))
    (refine wpQuiet_nil ?_; intro w1 hw1; obtain ⟨⟨w1, hb1⟩, rfl⟩ := hw1; clear hlc hlf hNL NL; obtain ⟨N1, hN1, hc1, hf1, hs1⟩ := bcell hb1; (try simp only [World.size_alloc, World.size_setCell, World.size_drew] at hN1))
    go_wp2_with (((with_reducible refine (Hlv.out _).mono ?_); rintro e wJ ⟨rfl, hbJ⟩; obtain ⟨NJ, hNJ, hcJ, hfJ, hsJ⟩ := bcell hbJ; (try simp only [World.size_alloc, World.size_setCell, World.size_drew] at hNJ)))
    go_ret
    refine ⟨rfl, hbP.trans (Below.mono (h9.trans (Below.mono (?_ : Below W9.heap.size W9 _) s9)) szP)⟩
    (repeat (first | (with_reducible exact Below.refl _ _) | (with_reducible refine Below.drew ?_) | (with_reducible refine below_drewN ?_ _) | (with_reducible refine Below.setCell ?_ (by first | (simp; done) | (simp; omega) | omega) _) | (with_reducible refine Below.alloc ?_ (by first | (simp; done) | (simp; omega) | omega) _) | (with_reducible refine Below.trans ?_ (Below.mono (by assumption) (by first | (simp; done) | (simp; omega) | omega))) | (with_reducible refine Below.trans ?_ (Below.mono (Later.below _) (by first | (simp; done) | (simp; omega) | omega)))))
  · refine wp_region_later (by kernel_rfl) (by kernel_rfl) fun NL hL => ?_; obtain ⟨hNL, hlc, hlf⟩ := hL; (try simp only [World.size_alloc, World.size_setCell, World.size_drew] at hNL)
    repeat (go_big_quiet_step (first | (with_reducible exact later_call (Hca1.out _)) | (with_reducible exact later_call (Hca2.out _)) | (with_reducible exact later_call (Hca3.out _)) | (with_reducible exact later_call (Hca4.out _))))
    (refine wpQuiet_nil ?_; intro w1 hw1; obtain ⟨⟨w1, hb1⟩, rfl⟩ := hw1; clear hlc hlf hNL NL; obtain ⟨N1, hN1, hc1, hf1, hs1⟩ := bcell hb1; (try simp only [World.size_alloc, World.size_setCell, World.size_drew] at hN1))
    go_wp2_with (first | ((with_reducible refine (Hce2.out _ (by (repeat (first | (with_reducible exact Below.refl _ _) | (with_reducible refine Below.drew ?_) | (with_reducible refine below_drewN ?_ _) | (with_reducible refine Below.setCell ?_ (by first | (simp; done) | (simp; omega) | omega) _) | (with_reducible refine Below.alloc ?_ (by first | (simp; done) | (simp; omega) | omega) _) | (with_reducible refine Below.trans ?_ (Below.mono (by assumption) (by first | (simp; done) | (simp; omega) | omega))) | (with_reducible refine Below.trans ?_ (Below.mono (Later.below _) (by first | (simp; done) | (simp; omega) | omega))))))).mono ?_); rintro e wK ⟨rfl, hbK⟩; obtain ⟨NK, hNK, hcK, hfK, hsK⟩ := bcell hbK; (try simp only [World.size_alloc, World.size_setCell, World.size_drew] at hNK)) | ((with_reducible refine (Hlv.out _).mono ?_); rintro e wJ ⟨rfl, hbJ⟩; obtain ⟨NJ, hNJ, hcJ, hfJ, hsJ⟩ := bcell hbJ; (try simp only [World.size_alloc, World.size_setCell, World.size_drew] at hNJ)))
    go_ret
    refine ⟨rfl, hbP.trans (Below.mono (h9.trans (Below.mono (?_ : Below W9.heap.size W9 _) s9)) szP)⟩
    (repeat (first | (with_reducible exact Below.refl _ _) | (with_reducible refine Below.drew ?_) | (with_reducible refine below_drewN ?_ _) | (with_reducible refine Below.setCell ?_ (by first | (simp; done) | (simp; omega) | omega) _) | (with_reducible refine Below.alloc ?_ (by first | (simp; done) | (simp; omega) | omega) _) | (with_reducible refine Below.trans ?_ (Below.mono (by assumption) (by first | (simp; done) | (simp; omega) | omega))) | (with_reducible refine Below.trans ?_ (Below.mono (Later.below _) (by first | (simp; done) | (simp; omega) | omega)))))
end Go.Proofs.Ytcgcapfppceggaa.W
