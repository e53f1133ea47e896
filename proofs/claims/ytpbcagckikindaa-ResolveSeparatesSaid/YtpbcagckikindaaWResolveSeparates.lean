/-
  The walk of the law ResolveSeparates: it returns true at every input.
  Conditions: none.
-/
import Derived.Test.YtpbcagckikindaaReW
namespace Go.Proofs.Ytpbcagckikindaa.W
open Go.RowKit Go.Proofs.Ytpbcagckikindaa.FxMath Go.Proofs.Ytpbcagckikindaa.FxA Go.Proofs.Ytpbcagckikindaa.Qt Go.Proofs.Ytpbcagckikindaa.Ve Go.Proofs.Ytpbcagckikindaa.Re
set_option linter.unusedVariables false
set_option linter.unusedSimpArgs false
theorem fdv_k (k : Int) : fdv (1024 * k) 1024 = k := fdv_unique _ _ _ (by omega) (by omega)
theorem fdv_nk (k : Int) : fdv (-1024 * k) 1024 = -k := fdv_unique _ _ _ (by omega) (by omega)
theorem fdv_0k (k : Int) : fdv (0 * k) 1024 = 0 := fdv_unique _ _ _ (by omega) (by omega)
theorem dis_half (d m : Int) (hm : 1 ≤ m) : dis d (m + m) m = d / 2 := by
  unfold dis
  refine fdv_unique _ _ _ (by omega) ?_
  have h1 : (m + m) * (d / 2) = m * (2 * (d / 2)) := by grind
  have h2 : d * m = m * d := Int.mul_comm _ _
  have h3 : d = 2 * (d / 2) + d % 2 := by omega
  have h4 : m * d = m * (2 * (d / 2)) + m * (d % 2) := by rw [← Int.mul_add, ← h3]
  have h5 : d % 2 = 0 ∨ d % 2 = 1 := by omega
  rcases h5 with h5 | h5 <;> rw [h5] at h4 <;> omega
set_option maxHeartbeats 4000000 in
theorem ResolveSeparates_walk (a0 : Option Addr) (len0 cap0 : Nat) (z0 : List Int) (a1 : Option Addr) (len1 cap1 : Nat) (z1 : List Int) (a2 a3 : Int) (w : World) (w0 : Fr.IsRow .i64 w a0 len0 cap0 z0) (w1 : Fr.IsRow .i64 w a1 len1 cap1 z1) (w2 : (Lit.int .i64 a2).wf = true) (w3 : (Lit.int .i64 a3).wf = true) :
    Calls Try.prog 7 #[.slice a0 len0 cap0, .slice a1 len1 cap1, .int .i64 a2, .int .i64 a3] w fun e w' => e = .returned (.bool true) ∧ Below w.heap.size w w' := by
  obtain ⟨px, py, vx, vy, k, bx, cx⟩ := slowE w0
  obtain ⟨qx, qy, ux, uy, l, by', cy⟩ := slowE w1
  obtain ⟨nx, ny, ax, cn⟩ := axisE a2 w2
  obtain ⟨d, hd0, hd1, cd⟩ := aroundE a3 131073 w3 (by omega) (by omega)
  obtain ⟨b0, b1, b2, b3, b4, b5, b6, b7, b8, b9⟩ := bx
  obtain ⟨g0, g1, g2, g3, g4, g5, g6, g7, g8, g9⟩ := by'
  have cl := lives_any
  clear w0 w1 w2 w3
  obtain ⟨m, hm⟩ : ∃ m, m = max k 1 := ⟨_, rfl⟩
  obtain ⟨ja, hja⟩ : ∃ ja, ja = imp (vnr vx vy ux uy nx ny) 0 (m + m) m := ⟨_, rfl⟩
  have cr := resolve_any px py vx vy m qx qy ux uy m nx ny d 0 ⟨by omega, by omega, by omega, by omega, by omega, by omega, by omega, by omega, by omega, by omega⟩ ⟨by omega, by omega, by omega, by omega, by omega, by omega, by omega, by omega, by omega, by omega⟩ ⟨by omega, by omega, by omega, by omega, by omega, by omega, by omega, by omega⟩ _ ja ja (d / 2) (d / 2) rfl hja hja (dis_half d m (by omega)).symm (dis_half d m (by omega)).symm
  clear hja
  generalize clm (vx - fdv (nx * ja) 1024) (-16384) 16384 = r1 at cr
  generalize clm (vy - fdv (ny * ja) 1024) (-16384) 16384 = r2 at cr
  generalize clm (ux + fdv (nx * ja) 1024) (-16384) 16384 = r3 at cr
  generalize clm (uy + fdv (ny * ja) 1024) (-16384) 16384 = r4 at cr
  obtain ⟨f, hf⟩ : ∃ f, f = fdv (nx * (d / 2)) 1024 := ⟨_, rfl⟩
  obtain ⟨g, hg⟩ : ∃ g, g = fdv (ny * (d / 2)) 1024 := ⟨_, rfl⟩
  have hfg : (nx = 1024 ∧ ny = 0 ∧ f = d / 2 ∧ g = 0) ∨ (nx = 0 ∧ ny = 1024 ∧ f = 0 ∧ g = d / 2) ∨ (nx = -1024 ∧ ny = 0 ∧ f = -(d / 2) ∧ g = 0) ∨ (nx = 0 ∧ ny = -1024 ∧ f = 0 ∧ g = -(d / 2)) := by
    rcases ax with ⟨rfl, rfl⟩ | ⟨rfl, rfl⟩ | ⟨rfl, rfl⟩ | ⟨rfl, rfl⟩ <;> simp only [fdv_k, fdv_nk, fdv_0k] at hf hg <;> simp [hf, hg]
  rw [← hf, ← hg] at cr
  rw [clmP (a := px - f) (by omega) (by omega), clmP (a := py - g) (by omega) (by omega), clmP (a := qx + f) (by omega) (by omega), clmP (a := qy + g) (by omega) (by omega)] at cr
  have cs1 := sub_any qx qy px py (by omega) (by omega) (by omega) (by omega)
  have cs2 := sub_any (qx + f) (qy + g) (px - f) (py - g) (by omega) (by omega) (by omega) (by omega)
  have nx0 : -1024 ≤ nx ∧ nx ≤ 1024 := by omega
  have ny0 : -1024 ≤ ny ∧ ny ≤ 1024 := by omega
  have s1 := mul_bd (a := qx - px) (b := nx) (A := 1048576) (B := 1024) (by omega) (by omega) nx0.1 nx0.2
  have s2 := mul_bd (a := qy - py) (b := ny) (A := 1048576) (B := 1024) (by omega) (by omega) ny0.1 ny0.2
  have s3 := mul_bd (a := (qx + f) - (px - f)) (b := nx) (A := 1048576) (B := 1024) (by omega) (by omega) nx0.1 nx0.2
  have s4 := mul_bd (a := (qy + g) - (py - g)) (b := ny) (A := 1048576) (B := 1024) (by omega) (by omega) ny0.1 ny0.2
  have cd1 := dot_any (qx - px) (qy - py) nx ny (by omega) (by omega) (by omega) (by omega)
  have cd2 := dot_any ((qx + f) - (px - f)) ((qy + g) - (py - g)) nx ny (by omega) (by omega) (by omega) (by omega)
  have fin : ((qx + f - (px - f)) * nx + (qy + g - (py - g)) * ny) / 1024 = ((qx - px) * nx + (qy - py) * ny) / 1024 + d - d % 2 := by
    rcases hfg with ⟨rfl, rfl, h1, h2⟩ | ⟨rfl, rfl, h1, h2⟩ | ⟨rfl, rfl, h1, h2⟩ | ⟨rfl, rfl, h1, h2⟩ <;> omega
  have bb : -4194304 ≤ ((qx - px) * nx + (qy - py) * ny) / 1024 ∧ ((qx - px) * nx + (qy - py) * ny) / 1024 ≤ 4194304 := by omega
  generalize ((qx + f - (px - f)) * nx + (qy + g - (py - g)) * ny) / 1024 = t2 at *
  generalize ((qx - px) * nx + (qy - py) * ny) / 1024 = t1 at *
  clear s1 s2 s3 s4 nx0 ny0 hfg hf hg
  have cd' := gives_same cd
  rw [hm] at cr
  have HX := Lib.hid cx
  have HY := Lib.hid cy
  have HN := Lib.hid cn
  have HD := Lib.hid cd'
  have HL := Lib.hid cl
  have HR := Lib.hid cr
  have HS1 := Lib.hid cs1
  have HS2 := Lib.hid cs2
  have HD1 := Lib.hid cd1
  have HD2 := Lib.hid cd2
  clear cx cy cn cd cd' cl cr cs1 cs2 cd1 cd2 ax
  have hal := alloc_if; have hfal := allocF_if
  go_enter Try.func7, Try.ntmps7
  go_wp2_with (first | ((with_reducible refine (HX.out _ (by (repeat (first | exact Below.refl _ _ | (with_reducible refine Below.drew ?_) | (with_reducible refine below_drewN ?_ _) | (with_reducible refine Below.setCell ?_ (by first | (simp; done) | (simp; omega) | omega) _) | (with_reducible refine Below.alloc ?_ (by first | (simp; done) | (simp; omega) | omega) _) | (with_reducible refine Below.trans ?_ (Below.mono (by assumption) (by first | (simp; done) | (simp; omega) | omega))))))).mono ?_); rintro e w1 ⟨rfl, hb1⟩; obtain ⟨N1, hN1, hc1, hf1, hs1⟩ := bcell hb1; (try simp only [World.size_alloc, World.size_setCell, World.size_drew] at hN1)) | ((with_reducible refine (HY.out _ (by (repeat (first | exact Below.refl _ _ | (with_reducible refine Below.drew ?_) | (with_reducible refine below_drewN ?_ _) | (with_reducible refine Below.setCell ?_ (by first | (simp; done) | (simp; omega) | omega) _) | (with_reducible refine Below.alloc ?_ (by first | (simp; done) | (simp; omega) | omega) _) | (with_reducible refine Below.trans ?_ (Below.mono (by assumption) (by first | (simp; done) | (simp; omega) | omega))))))).mono ?_); rintro e w1 ⟨rfl, hb1⟩; obtain ⟨N1, hN1, hc1, hf1, hs1⟩ := bcell hb1; (try simp only [World.size_alloc, World.size_setCell, World.size_drew] at hN1)) | ((with_reducible refine (HN.out _).mono ?_); rintro e w1 ⟨rfl, hb1⟩; obtain ⟨N1, hN1, hc1, hf1, hs1⟩ := bcell hb1; (try simp only [World.size_alloc, World.size_setCell, World.size_drew] at hN1)) | ((with_reducible refine (HD.out _).mono ?_); rintro e w1 ⟨rfl, hb1⟩; obtain ⟨N1, hN1, hc1, hf1, hs1⟩ := bcell hb1; (try simp only [World.size_alloc, World.size_setCell, World.size_drew] at hN1)) | ((with_reducible refine (HR.out _).mono ?_); rintro e w1 ⟨rfl, hb1⟩; obtain ⟨N1, hN1, hc1, hf1, hs1⟩ := bcell hb1; (try simp only [World.size_alloc, World.size_setCell, World.size_drew] at hN1)))
  refine wp_region_later (by kernel_rfl) (by kernel_rfl) fun NL hL => ?_; obtain ⟨hNL, hlc, hlf⟩ := hL; (try simp only [World.size_alloc, World.size_setCell, World.size_drew] at hNL)
  repeat (go_big_quiet_step (first | (with_reducible exact later_call (HS1.out _)) | (with_reducible exact later_call (HD1.out _)) | (with_reducible exact later_call (HS2.out _)) | (with_reducible exact later_call (HD2.out _)) | (with_reducible exact later_call (HL.out _))))
  (refine wpQuiet_nil ?_; intro w1 hw1; obtain ⟨⟨w1, hb1⟩, rfl⟩ := hw1; clear hlc hlf hNL NL; obtain ⟨N1, hN1, hc1, hf1, hs1⟩ := bcell hb1; (try simp only [World.size_alloc, World.size_setCell, World.size_drew] at hN1))
  go_wp2_with (first | ((with_reducible refine (HR.out _).mono ?_); rintro e w1 ⟨rfl, hb1⟩; obtain ⟨N1, hN1, hc1, hf1, hs1⟩ := bcell hb1; (try simp only [World.size_alloc, World.size_setCell, World.size_drew] at hN1)))
  refine wp_region_later (by kernel_rfl) (by kernel_rfl) fun NL hL => ?_; obtain ⟨hNL, hlc, hlf⟩ := hL; (try simp only [World.size_alloc, World.size_setCell, World.size_drew] at hNL)
  repeat (go_big_quiet_step (first | (with_reducible exact later_call (HS1.out _)) | (with_reducible exact later_call (HD1.out _)) | (with_reducible exact later_call (HS2.out _)) | (with_reducible exact later_call (HD2.out _)) | (with_reducible exact later_call (HL.out _))))
  (refine wpQuiet_nil ?_; intro w1 hw1; obtain ⟨⟨w1, hb1⟩, rfl⟩ := hw1; clear hlc hlf hNL NL; obtain ⟨N1, hN1, hc1, hf1, hs1⟩ := bcell hb1; (try simp only [World.size_alloc, World.size_setCell, World.size_drew] at hN1))
  go_wp2_with (first | ((with_reducible refine (HL.out _).mono ?_); rintro e w1 ⟨rfl, hb1⟩; obtain ⟨N1, hN1, hc1, hf1, hs1⟩ := bcell hb1; (try simp only [World.size_alloc, World.size_setCell, World.size_drew] at hN1)))
  go_ret
  exact ⟨rfl, by (repeat (first | exact Below.refl _ _ | (with_reducible refine Below.drew ?_) | (with_reducible refine below_drewN ?_ _) | (with_reducible refine Below.setCell ?_ (by first | (simp; done) | (simp; omega) | omega) _) | (with_reducible refine Below.alloc ?_ (by first | (simp; done) | (simp; omega) | omega) _) | (with_reducible refine Below.trans ?_ (Below.mono (by assumption) (by first | (simp; done) | (simp; omega) | omega)))))⟩
end Go.Proofs.Ytpbcagckikindaa.W
