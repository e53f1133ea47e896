/-
  The walk of the law ResolveShifted: it returns true at every input.
  Conditions: none.
-/
import Derived.Test.YtpbcagckikindaaReW
namespace Go.Proofs.Ytpbcagckikindaa.W
open Go.RowKit Go.Proofs.Ytpbcagckikindaa.FxMath Go.Proofs.Ytpbcagckikindaa.FxA Go.Proofs.Ytpbcagckikindaa.Qt Go.Proofs.Ytpbcagckikindaa.Ve Go.Proofs.Ytpbcagckikindaa.Re
set_option linter.unusedVariables false
set_option linter.unusedSimpArgs false
theorem dis_bd (d t m D : Int) (hd : 0 ≤ d) (hD : d ≤ D) (hm : 0 ≤ m) (ht : m ≤ t) : 0 ≤ dis d t m ∧ dis d t m ≤ D := by
  unfold dis
  by_cases h0 : t = 0
  · rw [h0, fdv_zero]; omega
  · have ht0 : 0 < t := by omega
    have h1 := Int.mul_nonneg hd hm
    have h2 : d * m ≤ d * t := Int.mul_le_mul_of_nonneg_left ht hd
    rw [fdv_pos _ _ ht0]
    refine ⟨Int.ediv_nonneg h1 (by omega), ?_⟩
    have h3 : d * m / t ≤ d * t / t := Int.ediv_le_ediv ht0 h2
    rw [Int.mul_ediv_cancel d h0] at h3
    omega
theorem fdv_small {n k K : Int} (n0 : -1024 ≤ n) (n1 : n ≤ 1024) (k0 : 0 ≤ k) (k1 : k ≤ K) : -K ≤ fdv (n * k) 1024 ∧ fdv (n * k) 1024 ≤ K := by
  rw [fdv_pos _ _ (by omega)]
  have h1 : n * k ≤ 1024 * k := Int.mul_le_mul_of_nonneg_right n1 k0
  have h2 : -1024 * k ≤ n * k := Int.mul_le_mul_of_nonneg_right n0 k0
  omega
set_option maxHeartbeats 4000000 in
theorem ResolveShifted_walk (a0 : Option Addr) (len0 cap0 : Nat) (z0 : List Int) (a1 : Option Addr) (len1 cap1 : Nat) (z1 : List Int) (a2 : Option Addr) (len2 cap2 : Nat) (z2 : List Int) (a3 a4 a5 : Int) (w : World) (w0 : Fr.IsRow .i64 w a0 len0 cap0 z0) (w1 : Fr.IsRow .i64 w a1 len1 cap1 z1) (w2 : Fr.IsRow .i64 w a2 len2 cap2 z2) (w3 : (Lit.int .i64 a3).wf = true) (w4 : (Lit.int .i64 a4).wf = true) (w5 : (Lit.int .i64 a5).wf = true) :
    Calls Try.prog 6 #[.slice a0 len0 cap0, .slice a1 len1 cap1, .slice a2 len2 cap2, .int .i64 a3, .int .i64 a4, .int .i64 a5] w fun e w' => e = .returned (.bool true) ∧ Below w.heap.size w w' := by
  obtain ⟨px, py, vx, vy, k, ⟨b0, b1, b2, b3, b4, b5, b6, b7, b8, b9⟩, cx⟩ := slowE w0
  obtain ⟨qx, qy, ux, uy, l, ⟨g0, g1, g2, g3, g4, g5, g6, g7, g8, g9⟩, cy⟩ := slowE w1
  obtain ⟨nx, ny, d0, ⟨n0, n1, n2, n3, n4, n5⟩, cz⟩ := contactE w2
  obtain ⟨e, he0, he1, ce⟩ := aroundE a5 1025 w5 (by omega) (by omega)
  obtain ⟨sx, s0, s1, csx⟩ := boundE a3 262144 w3 (by omega) (by omega)
  obtain ⟨sy, s2, s3, csy⟩ := boundE a4 262144 w4 (by omega) (by omega)
  have cl := lives_any
  clear w0 w1 w2 w3 w4 w5
  obtain ⟨d, hd⟩ : ∃ d, d = d0 % 131073 := ⟨_, rfl⟩
  obtain ⟨ja, hja⟩ : ∃ ja, ja = imp (vnr vx vy ux uy nx ny) e (k + l) k := ⟨_, rfl⟩
  obtain ⟨jb, hjb⟩ : ∃ jb, jb = imp (vnr vx vy ux uy nx ny) e (k + l) l := ⟨_, rfl⟩
  obtain ⟨da, hda⟩ : ∃ da, da = dis d (k + l) k := ⟨_, rfl⟩
  obtain ⟨db, hdb⟩ : ∃ db, db = dis d (k + l) l := ⟨_, rfl⟩
  have ba := dis_bd d (k + l) k 131072 (by omega) (by omega) (by omega) (by omega)
  have bb := dis_bd d (k + l) l 131072 (by omega) (by omega) (by omega) (by omega)
  have cr := resolve_any px py vx vy k qx qy ux uy l nx ny d e ⟨by omega, by omega, by omega, by omega, by omega, by omega, by omega, by omega, by omega, by omega⟩ ⟨by omega, by omega, by omega, by omega, by omega, by omega, by omega, by omega, by omega, by omega⟩ ⟨by omega, by omega, by omega, by omega, by omega, by omega, by omega, by omega⟩ _ ja jb da db rfl hja hjb hda hdb
  have cr' := resolve_any (px + sx) (py + sy) vx vy k (qx + sx) (qy + sy) ux uy l nx ny d e ⟨by omega, by omega, by omega, by omega, by omega, by omega, by omega, by omega, by omega, by omega⟩ ⟨by omega, by omega, by omega, by omega, by omega, by omega, by omega, by omega, by omega, by omega⟩ ⟨by omega, by omega, by omega, by omega, by omega, by omega, by omega, by omega⟩ _ ja jb da db rfl hja hjb hda hdb
  rw [← hda] at ba
  rw [← hdb] at bb
  clear hja hjb hda hdb
  generalize clm (vx - fdv (nx * ja) 1024) (-16384) 16384 = r1 at cr cr'
  generalize clm (vy - fdv (ny * ja) 1024) (-16384) 16384 = r2 at cr cr'
  generalize clm (ux + fdv (nx * jb) 1024) (-16384) 16384 = r3 at cr cr'
  generalize clm (uy + fdv (ny * jb) 1024) (-16384) 16384 = r4 at cr cr'
  have f1 := fdv_small n0 n1 ba.1 ba.2
  have f2 := fdv_small n2 n3 ba.1 ba.2
  have f3 := fdv_small n0 n1 bb.1 bb.2
  have f4 := fdv_small n2 n3 bb.1 bb.2
  generalize fdv (nx * da) 1024 = h1 at *
  generalize fdv (ny * da) 1024 = h2 at *
  generalize fdv (nx * db) 1024 = h3 at *
  generalize fdv (ny * db) 1024 = h4 at *
  rw [clmP (a := px - h1) (by omega) (by omega), clmP (a := py - h2) (by omega) (by omega), clmP (a := qx + h3) (by omega) (by omega), clmP (a := qy + h4) (by omega) (by omega)] at cr
  rw [clmP (a := px + sx - h1) (by omega) (by omega), clmP (a := py + sy - h2) (by omega) (by omega), clmP (a := qx + sx + h3) (by omega) (by omega), clmP (a := qy + sy + h4) (by omega) (by omega),
    show px + sx - h1 = px - h1 + sx by omega, show py + sy - h2 = py - h2 + sy by omega, show qx + sx + h3 = qx + h3 + sx by omega, show qy + sy + h4 = qy + h4 + sy by omega] at cr'
  have ca1 := add_any px py sx sy (by omega) (by omega) (by omega) (by omega)
  have ca2 := add_any qx qy sx sy (by omega) (by omega) (by omega) (by omega)
  have ca3 := add_any (px - h1) (py - h2) sx sy (by omega) (by omega) (by omega) (by omega)
  have ca4 := add_any (qx + h3) (qy + h4) sx sy (by omega) (by omega) (by omega) (by omega)
  rw [hd] at cr cr'
  clear ba bb f1 f2 f3 f4 hd
  have ce' := gives_same ce
  have csx' := gives_same csx
  have csy' := gives_same csy
  have HX := Lib.hid cx
  have HY := Lib.hid cy
  have HZ := Lib.hid cz
  have HE := Lib.hid ce'
  have HSX := Lib.hid csx'
  have HSY := Lib.hid csy'
  have HL := Lib.hid cl
  have HR := Lib.hid cr
  have HQ := Lib.hid cr'
  have HA1 := Lib.hid ca1
  have HA2 := Lib.hid ca2
  have HA3 := Lib.hid ca3
  have HA4 := Lib.hid ca4
  clear cx cy cz ce ce' csx csx' csy csy' cl cr cr' ca1 ca2 ca3 ca4
  have hal := alloc_if; have hfal := allocF_if
  go_enter Try.func6, Try.ntmps6
  go_wp2_with (first | ((with_reducible refine (HX.out _ (by (repeat (first | exact Below.refl _ _ | (with_reducible refine Below.drew ?_) | (with_reducible refine below_drewN ?_ _) | (with_reducible refine Below.setCell ?_ (by first | (simp; done) | (simp; omega) | omega) _) | (with_reducible refine Below.alloc ?_ (by first | (simp; done) | (simp; omega) | omega) _) | (with_reducible refine Below.trans ?_ (Below.mono (by assumption) (by first | (simp; done) | (simp; omega) | omega))))))).mono ?_); rintro e w1 ⟨rfl, hb1⟩; obtain ⟨N1, hN1, hc1, hf1, hs1⟩ := bcell hb1; (try simp only [World.size_alloc, World.size_setCell, World.size_drew] at hN1)) | ((with_reducible refine (HY.out _ (by (repeat (first | exact Below.refl _ _ | (with_reducible refine Below.drew ?_) | (with_reducible refine below_drewN ?_ _) | (with_reducible refine Below.setCell ?_ (by first | (simp; done) | (simp; omega) | omega) _) | (with_reducible refine Below.alloc ?_ (by first | (simp; done) | (simp; omega) | omega) _) | (with_reducible refine Below.trans ?_ (Below.mono (by assumption) (by first | (simp; done) | (simp; omega) | omega))))))).mono ?_); rintro e w1 ⟨rfl, hb1⟩; obtain ⟨N1, hN1, hc1, hf1, hs1⟩ := bcell hb1; (try simp only [World.size_alloc, World.size_setCell, World.size_drew] at hN1)) | ((with_reducible refine (HZ.out _ (by (repeat (first | exact Below.refl _ _ | (with_reducible refine Below.drew ?_) | (with_reducible refine below_drewN ?_ _) | (with_reducible refine Below.setCell ?_ (by first | (simp; done) | (simp; omega) | omega) _) | (with_reducible refine Below.alloc ?_ (by first | (simp; done) | (simp; omega) | omega) _) | (with_reducible refine Below.trans ?_ (Below.mono (by assumption) (by first | (simp; done) | (simp; omega) | omega))))))).mono ?_); rintro e w1 ⟨rfl, hb1⟩; obtain ⟨N1, hN1, hc1, hf1, hs1⟩ := bcell hb1; (try simp only [World.size_alloc, World.size_setCell, World.size_drew] at hN1)) | ((with_reducible refine (HE.out _).mono ?_); rintro e w1 ⟨rfl, hb1⟩; obtain ⟨N1, hN1, hc1, hf1, hs1⟩ := bcell hb1; (try simp only [World.size_alloc, World.size_setCell, World.size_drew] at hN1)) | ((with_reducible refine (HSX.out _).mono ?_); rintro e w1 ⟨rfl, hb1⟩; obtain ⟨N1, hN1, hc1, hf1, hs1⟩ := bcell hb1; (try simp only [World.size_alloc, World.size_setCell, World.size_drew] at hN1)) | ((with_reducible refine (HSY.out _).mono ?_); rintro e w1 ⟨rfl, hb1⟩; obtain ⟨N1, hN1, hc1, hf1, hs1⟩ := bcell hb1; (try simp only [World.size_alloc, World.size_setCell, World.size_drew] at hN1)) | ((with_reducible refine (HR.out _).mono ?_); rintro e w1 ⟨rfl, hb1⟩; obtain ⟨N1, hN1, hc1, hf1, hs1⟩ := bcell hb1; (try simp only [World.size_alloc, World.size_setCell, World.size_drew] at hN1)) | ((with_reducible refine (HQ.out _).mono ?_); rintro e w1 ⟨rfl, hb1⟩; obtain ⟨N1, hN1, hc1, hf1, hs1⟩ := bcell hb1; (try simp only [World.size_alloc, World.size_setCell, World.size_drew] at hN1)) | ((with_reducible refine (HA1.out _).mono ?_); rintro e w1 ⟨rfl, hb1⟩; obtain ⟨N1, hN1, hc1, hf1, hs1⟩ := bcell hb1; (try simp only [World.size_alloc, World.size_setCell, World.size_drew] at hN1)) | ((with_reducible refine (HA2.out _).mono ?_); rintro e w1 ⟨rfl, hb1⟩; obtain ⟨N1, hN1, hc1, hf1, hs1⟩ := bcell hb1; (try simp only [World.size_alloc, World.size_setCell, World.size_drew] at hN1)) | ((with_reducible refine (HA3.out _).mono ?_); rintro e w1 ⟨rfl, hb1⟩; obtain ⟨N1, hN1, hc1, hf1, hs1⟩ := bcell hb1; (try simp only [World.size_alloc, World.size_setCell, World.size_drew] at hN1)) | ((with_reducible refine (HA4.out _).mono ?_); rintro e w1 ⟨rfl, hb1⟩; obtain ⟨N1, hN1, hc1, hf1, hs1⟩ := bcell hb1; (try simp only [World.size_alloc, World.size_setCell, World.size_drew] at hN1)) | ((with_reducible refine (HL.out _).mono ?_); rintro e w1 ⟨rfl, hb1⟩; obtain ⟨N1, hN1, hc1, hf1, hs1⟩ := bcell hb1; (try simp only [World.size_alloc, World.size_setCell, World.size_drew] at hN1)))
  refine wp_region_later (by kernel_rfl) (by kernel_rfl) fun NL hL => ?_; obtain ⟨hNL, hlc, hlf⟩ := hL; (try simp only [World.size_alloc, World.size_setCell, World.size_drew] at hNL)
  repeat (go_big_quiet_step (first | (with_reducible exact later_call (HE.out _)) | (with_reducible exact later_call (HSX.out _)) | (with_reducible exact later_call (HSY.out _)) | (with_reducible exact later_call (HR.out _)) | (with_reducible exact later_call (HQ.out _)) | (with_reducible exact later_call (HA1.out _)) | (with_reducible exact later_call (HA2.out _)) | (with_reducible exact later_call (HA3.out _)) | (with_reducible exact later_call (HA4.out _)) | (with_reducible exact later_call (HL.out _))))
  (refine wpQuiet_nil ?_; intro w1 hw1; obtain ⟨⟨w1, hb1⟩, rfl⟩ := hw1; clear hlc hlf hNL NL; obtain ⟨N1, hN1, hc1, hf1, hs1⟩ := bcell hb1; (try simp only [World.size_alloc, World.size_setCell, World.size_drew] at hN1))
  go_wp2_with (first | ((with_reducible refine (HX.out _ (by (repeat (first | exact Below.refl _ _ | (with_reducible refine Below.drew ?_) | (with_reducible refine below_drewN ?_ _) | (with_reducible refine Below.setCell ?_ (by first | (simp; done) | (simp; omega) | omega) _) | (with_reducible refine Below.alloc ?_ (by first | (simp; done) | (simp; omega) | omega) _) | (with_reducible refine Below.trans ?_ (Below.mono (by assumption) (by first | (simp; done) | (simp; omega) | omega))))))).mono ?_); rintro e w1 ⟨rfl, hb1⟩; obtain ⟨N1, hN1, hc1, hf1, hs1⟩ := bcell hb1; (try simp only [World.size_alloc, World.size_setCell, World.size_drew] at hN1)) | ((with_reducible refine (HY.out _ (by (repeat (first | exact Below.refl _ _ | (with_reducible refine Below.drew ?_) | (with_reducible refine below_drewN ?_ _) | (with_reducible refine Below.setCell ?_ (by first | (simp; done) | (simp; omega) | omega) _) | (with_reducible refine Below.alloc ?_ (by first | (simp; done) | (simp; omega) | omega) _) | (with_reducible refine Below.trans ?_ (Below.mono (by assumption) (by first | (simp; done) | (simp; omega) | omega))))))).mono ?_); rintro e w1 ⟨rfl, hb1⟩; obtain ⟨N1, hN1, hc1, hf1, hs1⟩ := bcell hb1; (try simp only [World.size_alloc, World.size_setCell, World.size_drew] at hN1)) | ((with_reducible refine (HZ.out _ (by (repeat (first | exact Below.refl _ _ | (with_reducible refine Below.drew ?_) | (with_reducible refine below_drewN ?_ _) | (with_reducible refine Below.setCell ?_ (by first | (simp; done) | (simp; omega) | omega) _) | (with_reducible refine Below.alloc ?_ (by first | (simp; done) | (simp; omega) | omega) _) | (with_reducible refine Below.trans ?_ (Below.mono (by assumption) (by first | (simp; done) | (simp; omega) | omega))))))).mono ?_); rintro e w1 ⟨rfl, hb1⟩; obtain ⟨N1, hN1, hc1, hf1, hs1⟩ := bcell hb1; (try simp only [World.size_alloc, World.size_setCell, World.size_drew] at hN1)) | ((with_reducible refine (HE.out _).mono ?_); rintro e w1 ⟨rfl, hb1⟩; obtain ⟨N1, hN1, hc1, hf1, hs1⟩ := bcell hb1; (try simp only [World.size_alloc, World.size_setCell, World.size_drew] at hN1)) | ((with_reducible refine (HSX.out _).mono ?_); rintro e w1 ⟨rfl, hb1⟩; obtain ⟨N1, hN1, hc1, hf1, hs1⟩ := bcell hb1; (try simp only [World.size_alloc, World.size_setCell, World.size_drew] at hN1)) | ((with_reducible refine (HSY.out _).mono ?_); rintro e w1 ⟨rfl, hb1⟩; obtain ⟨N1, hN1, hc1, hf1, hs1⟩ := bcell hb1; (try simp only [World.size_alloc, World.size_setCell, World.size_drew] at hN1)) | ((with_reducible refine (HR.out _).mono ?_); rintro e w1 ⟨rfl, hb1⟩; obtain ⟨N1, hN1, hc1, hf1, hs1⟩ := bcell hb1; (try simp only [World.size_alloc, World.size_setCell, World.size_drew] at hN1)) | ((with_reducible refine (HQ.out _).mono ?_); rintro e w1 ⟨rfl, hb1⟩; obtain ⟨N1, hN1, hc1, hf1, hs1⟩ := bcell hb1; (try simp only [World.size_alloc, World.size_setCell, World.size_drew] at hN1)) | ((with_reducible refine (HA1.out _).mono ?_); rintro e w1 ⟨rfl, hb1⟩; obtain ⟨N1, hN1, hc1, hf1, hs1⟩ := bcell hb1; (try simp only [World.size_alloc, World.size_setCell, World.size_drew] at hN1)) | ((with_reducible refine (HA2.out _).mono ?_); rintro e w1 ⟨rfl, hb1⟩; obtain ⟨N1, hN1, hc1, hf1, hs1⟩ := bcell hb1; (try simp only [World.size_alloc, World.size_setCell, World.size_drew] at hN1)) | ((with_reducible refine (HA3.out _).mono ?_); rintro e w1 ⟨rfl, hb1⟩; obtain ⟨N1, hN1, hc1, hf1, hs1⟩ := bcell hb1; (try simp only [World.size_alloc, World.size_setCell, World.size_drew] at hN1)) | ((with_reducible refine (HA4.out _).mono ?_); rintro e w1 ⟨rfl, hb1⟩; obtain ⟨N1, hN1, hc1, hf1, hs1⟩ := bcell hb1; (try simp only [World.size_alloc, World.size_setCell, World.size_drew] at hN1)) | ((with_reducible refine (HL.out _).mono ?_); rintro e w1 ⟨rfl, hb1⟩; obtain ⟨N1, hN1, hc1, hf1, hs1⟩ := bcell hb1; (try simp only [World.size_alloc, World.size_setCell, World.size_drew] at hN1)))
  go_ret
  exact ⟨rfl, by (repeat (first | exact Below.refl _ _ | (with_reducible refine Below.drew ?_) | (with_reducible refine below_drewN ?_ _) | (with_reducible refine Below.setCell ?_ (by first | (simp; done) | (simp; omega) | omega) _) | (with_reducible refine Below.alloc ?_ (by first | (simp; done) | (simp; omega) | omega) _) | (with_reducible refine Below.trans ?_ (Below.mono (by assumption) (by first | (simp; done) | (simp; omega) | omega)))))⟩
end Go.Proofs.Ytpbcagckikindaa.W
