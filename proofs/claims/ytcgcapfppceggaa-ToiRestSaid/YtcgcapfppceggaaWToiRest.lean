/-
  The walk of the law ToiRest: it returns true at every input.
  Conditions: none.
-/
import Derived.Test.YtcgcapfppceggaaToB
import Derived.Test.YtcgcapfppceggaaToX
import Derived.Test.YtcgcapfppceggaaQe
import Derived.Deep.Cut
import Derived.Deep.CutRange
import Derived.Deep.DeepCutAuto
import Derived.Deep.RegionHeld3
namespace Go.Proofs.Ytcgcapfppceggaa.W
open Go.RowKit Go.Proofs.Ytcgcapfppceggaa.FxMath Go.Proofs.Ytcgcapfppceggaa.FxA Go.Proofs.Ytcgcapfppceggaa.Qt Go.Proofs.Ytcgcapfppceggaa.Ve Go.Proofs.Ytcgcapfppceggaa.Sh Go.Proofs.Ytcgcapfppceggaa.Co Go.Proofs.Ytcgcapfppceggaa.Ji Go.Proofs.Ytcgcapfppceggaa.To
set_option linter.unusedVariables false
set_option linter.unusedSimpArgs false
set_option maxRecDepth 100000 in
set_option maxHeartbeats 4000000 in
theorem ToiRest_walk (a0 : Option Addr) (len0 cap0 : Nat) (z0 : List Int) (w : World) (w0 : Fr.IsRow .i64 w a0 len0 cap0 z0) :
    Calls Try.prog 13 #[.slice a0 len0 cap0] w fun e w' => e = .returned (.bool true) ∧ Below w.heap.size w w' := by
  have cp := pair_any a0 len0 cap0 _ w (isL_of_row w0)
  have lv := lives06
  unfold PairP at cp
  have Hcp := Lib.hid cp; have Hlv := Lib.hid lv; clear cp lv
  have hal := alloc_if; have hfal := allocF_if
  go_enter Try.func13, Try.ntmps13
  go_upto_region 2 with (((with_reducible refine Hcp.out.mono ?_); rintro e WP ⟨ra, aa, la, ca, za, px, py, ux, uy, rb, ab, lb, cb, zb, qx, qy, vx', vy', rfl, hA, hB, ⟨p1, p2, p3, p4⟩, ⟨u1, u2, u3, u4⟩, ⟨q1, q2, q3, q4⟩, ⟨v1, v2, v3, v4⟩, hbP⟩; obtain ⟨NP, hNP, hcP, hfP, hsP⟩ := bcell hbP; (try simp only [World.size_alloc, World.size_setCell, World.size_drew] at hNP)))
  have szP := hbP.size
  refine name_world3 fun W8 hW8 => ?_
  have x0 : W8.cell? ⟨WP.heap.size, 0, none⟩ = some (.int .i64 ra) := by rw [hW8]; simp [hal, ↓IntWalk.iteOmega]
  have x1 : W8.cell? ⟨WP.heap.size, 1, none⟩ = some (.slice aa la ca) := by rw [hW8]; simp [hal, ↓IntWalk.iteOmega]
  have x2 : W8.cell? ⟨WP.heap.size, 2, none⟩ = some (.int .i64 px) := by rw [hW8]; simp [hal, ↓IntWalk.iteOmega]
  have x3 : W8.cell? ⟨WP.heap.size, 3, none⟩ = some (.int .i64 py) := by rw [hW8]; simp [hal, ↓IntWalk.iteOmega]
  have x4 : W8.cell? ⟨WP.heap.size, 4, none⟩ = some (.int .i64 ux) := by rw [hW8]; simp [hal, ↓IntWalk.iteOmega]
  have x5 : W8.cell? ⟨WP.heap.size, 5, none⟩ = some (.int .i64 uy) := by rw [hW8]; simp [hal, ↓IntWalk.iteOmega]
  have fx : ∀ i, W8.frozen? ⟨WP.heap.size, i, none⟩ = false := fun i => by rw [hW8]; simp [hfal, ↓IntWalk.iteOmega]
  have y0 : W8.cell? ⟨WP.heap.size + 1, 0, none⟩ = some (.int .i64 rb) := by rw [hW8]; simp [hal, ↓IntWalk.iteOmega]
  have y1 : W8.cell? ⟨WP.heap.size + 1, 1, none⟩ = some (.slice ab lb cb) := by rw [hW8]; simp [hal, ↓IntWalk.iteOmega]
  have y2 : W8.cell? ⟨WP.heap.size + 1, 2, none⟩ = some (.int .i64 qx) := by rw [hW8]; simp [hal, ↓IntWalk.iteOmega]
  have y3 : W8.cell? ⟨WP.heap.size + 1, 3, none⟩ = some (.int .i64 qy) := by rw [hW8]; simp [hal, ↓IntWalk.iteOmega]
  have y4 : W8.cell? ⟨WP.heap.size + 1, 4, none⟩ = some (.int .i64 vx') := by rw [hW8]; simp [hal, ↓IntWalk.iteOmega]
  have y5 : W8.cell? ⟨WP.heap.size + 1, 5, none⟩ = some (.int .i64 vy') := by rw [hW8]; simp [hal, ↓IntWalk.iteOmega]
  have fy : ∀ i, W8.frozen? ⟨WP.heap.size + 1, i, none⟩ = false := fun i => by rw [hW8]; simp [hfal, ↓IntWalk.iteOmega]
  have h8 : Below WP.heap.size WP W8 := by rw [hW8]; (repeat (first | (with_reducible exact Below.refl _ _) | (with_reducible refine Below.drew ?_) | (with_reducible refine below_drewN ?_ _) | (with_reducible refine Below.setCell ?_ (by first | (simp; done) | (simp; omega) | omega) _) | (with_reducible refine Below.alloc ?_ (by first | (simp; done) | (simp; omega) | omega) _) | (with_reducible refine Below.trans ?_ (Below.mono (by assumption) (by first | (simp; done) | (simp; omega) | omega))) | (with_reducible refine Below.trans ?_ (Below.mono (Later.below _) (by first | (simp; done) | (simp; omega) | omega)))))
  have s8 : WP.heap.size + 1 < W8.heap.size := World.block_lt_of_cell? _ _ y0
  obtain ⟨b, hb⟩ : ∃ b, b = WP.heap.size := ⟨_, rfl⟩
  rw [← hb] at x0 x1 x2 x3 x4 x5 y0 y1 y2 y3 y4 y5 fx fy s8 ⊢
  have hbl : WP.heap.size ≤ b := by omega
  clear hb hW8 hcP hfP hsP hNP NP Hcp hal hfal
  have ce := fun V (hV : Below WP.heap.size WP V) => earl_s hA hB (px := px) (py := py) (ux := 0) (uy := 0) (qx := qx) (qy := qy) (vx' := 0) (vy' := 0) ⟨by omega, by omega, by omega, by omega⟩ V hV
  rw [rest_law] at ce
  have Hce := Lib.hid ce; clear ce
  have hal := alloc_if; have hfal := allocF_if
  have hst := setCell_if
  go_wp2_with (first | ((with_reducible refine (Hce.out _ (by (repeat (first | (with_reducible exact Below.refl _ _) | (with_reducible refine Below.drew ?_) | (with_reducible refine below_drewN ?_ _) | (with_reducible refine Below.setCell ?_ (by first | (simp; done) | (simp; omega) | omega) _) | (with_reducible refine Below.alloc ?_ (by first | (simp; done) | (simp; omega) | omega) _) | (with_reducible refine Below.trans ?_ (Below.mono (by assumption) (by first | (simp; done) | (simp; omega) | omega))) | (with_reducible refine Below.trans ?_ (Below.mono (Later.below _) (by first | (simp; done) | (simp; omega) | omega))))))).mono ?_); rintro e wE ⟨rfl, hbE⟩; obtain ⟨NE, hNE, hcE, hfE, hsE⟩ := bcell hbE; (try simp only [World.size_alloc, World.size_setCell, World.size_drew] at hNE)) | ((with_reducible refine (Hlv.out _).mono ?_); rintro e wJ ⟨rfl, hbJ⟩; obtain ⟨NJ, hNJ, hcJ, hfJ, hsJ⟩ := bcell hbJ; (try simp only [World.size_alloc, World.size_setCell, World.size_drew] at hNJ)))
  go_ret
  refine ⟨rfl, hbP.trans (Below.mono (?_ : Below WP.heap.size WP _) szP)⟩
  (repeat (first | (with_reducible exact Below.refl _ _) | (with_reducible refine Below.drew ?_) | (with_reducible refine below_drewN ?_ _) | (with_reducible refine Below.setCell ?_ (by first | (simp; done) | (simp; omega) | omega) _) | (with_reducible refine Below.alloc ?_ (by first | (simp; done) | (simp; omega) | omega) _) | (with_reducible refine Below.trans ?_ (Below.mono (by assumption) (by first | (simp; done) | (simp; omega) | omega))) | (with_reducible refine Below.trans ?_ (Below.mono (Later.below _) (by first | (simp; done) | (simp; omega) | omega)))))
end Go.Proofs.Ytcgcapfppceggaa.W
