/-
  The walk of the law ResolveStatic: it returns true at every input.
  Conditions: none.
-/
import Derived.Test.YtpbcagckikindaaReW
import Derived.Test.YtpbcagckikindaaQg
namespace Go.Proofs.Ytpbcagckikindaa.W
open Go.RowKit Go.Proofs.Ytpbcagckikindaa.FxMath Go.Proofs.Ytpbcagckikindaa.FxA Go.Proofs.Ytpbcagckikindaa.Qt Go.Proofs.Ytpbcagckikindaa.Ve Go.Proofs.Ytpbcagckikindaa.Re
set_option linter.unusedVariables false
set_option linter.unusedSimpArgs false
theorem imp_none (vn e t : Int) : imp vn e t 0 = 0 := by unfold imp; rw [Int.mul_zero, fdv0]; split <;> rfl
theorem dis_none (d t : Int) : dis d t 0 = 0 := by
  unfold dis
  rw [Int.mul_zero]
  by_cases h : t = 0
  · rw [h, fdv_zero]
  · have := fdv_spec 0 t h
    by_cases h2 : 0 < t
    · exact fdv_unique _ _ _ h2 (by omega)
    · rw [fdv_neg _ _ (by omega)]; simp
theorem dis_zero (t m : Int) : dis 0 t m = 0 := by
  unfold dis
  rw [Int.zero_mul]
  have := dis_none 0 t
  unfold dis at this
  rwa [Int.mul_zero] at this
theorem fdv_0 (n : Int) : fdv (n * 0) 1024 = 0 := by rw [Int.mul_zero, fdv0]
set_option maxHeartbeats 4000000 in
theorem ResolveStatic_walk (a0 : Option Addr) (len0 cap0 : Nat) (z0 : List Int) (a1 : Option Addr) (len1 cap1 : Nat) (z1 : List Int) (a2 : Option Addr) (len2 cap2 : Nat) (z2 : List Int) (a3 : Int) (w : World) (w0 : Fr.IsRow .i64 w a0 len0 cap0 z0) (w1 : Fr.IsRow .i64 w a1 len1 cap1 z1) (w2 : Fr.IsRow .i64 w a2 len2 cap2 z2) (w3 : (Lit.int .i64 a3).wf = true) :
    Calls Try.prog 4 #[.slice a0 len0 cap0, .slice a1 len1 cap1, .slice a2 len2 cap2, .int .i64 a3] w fun e w' => e = .returned (.bool true) ∧ Below w.heap.size w w' := by
  obtain ⟨px, py, vx, vy, k, mx, cx⟩ := motionE w0
  obtain ⟨qx, qy, ux, uy, l, my, cy⟩ := motionE w1
  obtain ⟨nx, ny, d, ⟨n0, n1, n2, n3, n4, n5⟩, cz⟩ := contactE w2
  obtain ⟨e, he0, he1, ce0⟩ := aroundE a3 1025 w3 (by omega) (by omega)
  have cl := lives_any
  have ce := gives_same ce0
  clear w0 w1 w2 w3 ce0
  have mx0 : Mo px py vx vy 0 := ⟨mx.p0, mx.p1, mx.q0, mx.q1, mx.u0, mx.u1, mx.v0, mx.v1, by omega, by omega⟩
  have co : Co nx ny d e := ⟨by omega, by omega, by omega, by omega, by omega, by omega, by omega, by omega⟩
  have co0 : Co nx ny 0 e := ⟨by omega, by omega, by omega, by omega, by omega, by omega, by omega, by omega⟩
  obtain ⟨p0, p1, q0, q1, u0, u1, v0, v1, m0, m1⟩ := id mx
  obtain ⟨p0', p1', q0', q1', u0', u1', v0', v1', m0', m1'⟩ := id my
  have cr1 := resolve_any px py vx vy 0 qx qy ux uy l nx ny d e mx0 my co _ 0 _ 0 _ rfl (imp_none ..).symm rfl (dis_none ..).symm rfl
  have cr2 := resolve_any qx qy ux uy l px py vx vy 0 nx ny d e my mx0 co _ _ 0 _ 0 rfl rfl (imp_none ..).symm rfl (dis_none ..).symm
  have cr4 := resolve_any px py vx vy k qx qy ux uy l nx ny 0 e mx my co0 _ _ _ 0 0 rfl rfl rfl (dis_zero ..).symm (dis_zero ..).symm
  obtain ⟨vn, hvn⟩ : ∃ vn, vn = vnr vx vy ux uy nx ny := ⟨_, rfl⟩
  have bvn := vnr_bd mx my co
  rw [← hvn] at bvn
  have cs := sub_any ux uy vx vy (by omega) (by omega) (by omega) (by omega)
  have s1 := mul_bd (a := ux - vx) (b := nx) (A := 32768) (B := 1024) (by omega) (by omega) (by omega) (by omega)
  have s2 := mul_bd (a := uy - vy) (b := ny) (A := 32768) (B := 1024) (by omega) (by omega) (by omega) (by omega)
  have cd := dot_any (ux - vx) (uy - vy) nx ny (by omega) (by omega) (by omega) (by omega)
  rw [show ((ux - vx) * nx + (uy - vy) * ny) / 1024 = vn from hvn.symm] at cd
  clear s1 s2
  simp only [fdv_0, Int.sub_zero, Int.add_zero, clmP p0 p1, clmP q0 q1, clmV u0 u1, clmV v0 v1, clmP p0' p1', clmP q0' q1'] at cr1 cr2 cr4
  generalize clm (qx + fdv (nx * dis d (0 + l) l) 1024) (-1048576) 1048576 = r1 at cr1
  generalize clm (qy + fdv (ny * dis d (0 + l) l) 1024) (-1048576) 1048576 = r2 at cr1
  generalize clm (ux + fdv (nx * imp (vnr vx vy ux uy nx ny) e (0 + l) l) 1024) (-16384) 16384 = r3 at cr1
  generalize clm (uy + fdv (ny * imp (vnr vx vy ux uy nx ny) e (0 + l) l) 1024) (-16384) 16384 = r4 at cr1
  generalize clm (qx - fdv (nx * dis d l l) 1024) (-1048576) 1048576 = t1 at cr2
  generalize clm (qy - fdv (ny * dis d l l) 1024) (-1048576) 1048576 = t2 at cr2
  generalize clm (ux - fdv (nx * imp (vnr ux uy vx vy nx ny) e l l) 1024) (-16384) 16384 = t3 at cr2
  generalize clm (uy - fdv (ny * imp (vnr ux uy vx vy nx ny) e l l) 1024) (-16384) 16384 = t4 at cr2
  generalize clm (vx - fdv (nx * imp (vnr vx vy ux uy nx ny) e (k + l) k) 1024) (-16384) 16384 = o1 at cr4
  generalize clm (vy - fdv (ny * imp (vnr vx vy ux uy nx ny) e (k + l) k) 1024) (-16384) 16384 = o2 at cr4
  generalize clm (ux + fdv (nx * imp (vnr vx vy ux uy nx ny) e (k + l) l) 1024) (-16384) 16384 = o3 at cr4
  generalize clm (uy + fdv (ny * imp (vnr vx vy ux uy nx ny) e (k + l) l) 1024) (-16384) 16384 = o4 at cr4
  -- the third call: where the bodies do not approach, the velocities stay
  obtain ⟨y1, y2, y3, y4, y5, y6, y7, y8, hy, cr3⟩ : ∃ y1 y2 y3 y4 y5 y6 y7 y8 : Int, (0 ≤ vn → y3 = vx ∧ y4 = vy ∧ y7 = ux ∧ y8 = uy) ∧
      Gives Try.prog 19 #[.agg #[.int .i64 px, .int .i64 py, .int .i64 vx, .int .i64 vy, .int .i64 k], .agg #[.int .i64 qx, .int .i64 qy, .int .i64 ux, .int .i64 uy, .int .i64 l], .agg #[.int .i64 nx, .int .i64 ny, .int .i64 d], .int .i64 e] (.tuple #[.agg #[.int .i64 y1, .int .i64 y2, .int .i64 y3, .int .i64 y4, .int .i64 k], .agg #[.int .i64 y5, .int .i64 y6, .int .i64 y7, .int .i64 y8, .int .i64 l]]) := by
    have cr3 := resolve_any px py vx vy k qx qy ux uy l nx ny d e mx my co vn _ _ _ _ hvn rfl rfl rfl rfl
    refine ⟨_, _, _, _, _, _, _, _, fun h => ?_, cr3⟩
    have h0 : ∀ t m, imp vn e t m = 0 := fun t m => by unfold imp; rw [if_neg (by omega)]
    rw [h0, h0, fdv_0, fdv_0, Int.sub_zero, Int.sub_zero, Int.add_zero, Int.add_zero, clmV u0 u1, clmV v0 v1, clmV u0' u1', clmV v0' v1']
    exact ⟨rfl, rfl, rfl, rfl⟩
  clear hvn mx my mx0 co co0 p0 p1 q0 q1 u0 u1 v0 v1 m0 m1 p0' p1' q0' q1' u0' u1' v0' v1' m0' m1' n0 n1 n2 n3 n4 n5
  by_cases hv : 0 ≤ vn
  · obtain ⟨rfl, rfl, rfl, rfl⟩ := hy hv
    clear hy
    have Hcx := Lib.hid cx; have Hcy := Lib.hid cy; have Hcz := Lib.hid cz; have Hce := Lib.hid ce; have Hcl := Lib.hid cl; have Hcr1 := Lib.hid cr1; have Hcr2 := Lib.hid cr2; have Hcr3 := Lib.hid cr3; have Hcr4 := Lib.hid cr4; have Hcs := Lib.hid cs; have Hcd := Lib.hid cd; clear cx cy cz ce cl cr1 cr2 cr3 cr4 cs cd
    have hal := alloc_if; have hfal := allocF_if
    have hst := setCell_if
    go_enter Try.func4, Try.ntmps4
    go_wp2_with (first | ((with_reducible refine (Hcx.out _ (by (repeat (first | exact Below.refl _ _ | (with_reducible refine Below.drew ?_) | (with_reducible refine below_drewN ?_ _) | (with_reducible refine Below.setCell ?_ (by first | (simp; done) | (simp; omega) | omega) _) | (with_reducible refine Below.alloc ?_ (by first | (simp; done) | (simp; omega) | omega) _) | (with_reducible refine Below.trans ?_ (Below.mono (by assumption) (by first | (simp; done) | (simp; omega) | omega))))))).mono ?_); rintro e w1 ⟨rfl, hb1⟩; obtain ⟨N1, hN1, hc1, hf1, hs1⟩ := bcell hb1; (try simp only [World.size_alloc, World.size_setCell, World.size_drew] at hN1)) | ((with_reducible refine (Hcy.out _ (by (repeat (first | exact Below.refl _ _ | (with_reducible refine Below.drew ?_) | (with_reducible refine below_drewN ?_ _) | (with_reducible refine Below.setCell ?_ (by first | (simp; done) | (simp; omega) | omega) _) | (with_reducible refine Below.alloc ?_ (by first | (simp; done) | (simp; omega) | omega) _) | (with_reducible refine Below.trans ?_ (Below.mono (by assumption) (by first | (simp; done) | (simp; omega) | omega))))))).mono ?_); rintro e w1 ⟨rfl, hb1⟩; obtain ⟨N1, hN1, hc1, hf1, hs1⟩ := bcell hb1; (try simp only [World.size_alloc, World.size_setCell, World.size_drew] at hN1)) | ((with_reducible refine (Hcz.out _ (by (repeat (first | exact Below.refl _ _ | (with_reducible refine Below.drew ?_) | (with_reducible refine below_drewN ?_ _) | (with_reducible refine Below.setCell ?_ (by first | (simp; done) | (simp; omega) | omega) _) | (with_reducible refine Below.alloc ?_ (by first | (simp; done) | (simp; omega) | omega) _) | (with_reducible refine Below.trans ?_ (Below.mono (by assumption) (by first | (simp; done) | (simp; omega) | omega))))))).mono ?_); rintro e w1 ⟨rfl, hb1⟩; obtain ⟨N1, hN1, hc1, hf1, hs1⟩ := bcell hb1; (try simp only [World.size_alloc, World.size_setCell, World.size_drew] at hN1)) | ((with_reducible refine (Hce.out _).mono ?_); rintro e w1 ⟨rfl, hb1⟩; obtain ⟨N1, hN1, hc1, hf1, hs1⟩ := bcell hb1; (try simp only [World.size_alloc, World.size_setCell, World.size_drew] at hN1)) | ((with_reducible refine (Hcr1.out _).mono ?_); rintro e w1 ⟨rfl, hb1⟩; obtain ⟨N1, hN1, hc1, hf1, hs1⟩ := bcell hb1; (try simp only [World.size_alloc, World.size_setCell, World.size_drew] at hN1)) | ((with_reducible refine (Hcr2.out _).mono ?_); rintro e w1 ⟨rfl, hb1⟩; obtain ⟨N1, hN1, hc1, hf1, hs1⟩ := bcell hb1; (try simp only [World.size_alloc, World.size_setCell, World.size_drew] at hN1)) | ((with_reducible refine (Hcr3.out _).mono ?_); rintro e w1 ⟨rfl, hb1⟩; obtain ⟨N1, hN1, hc1, hf1, hs1⟩ := bcell hb1; (try simp only [World.size_alloc, World.size_setCell, World.size_drew] at hN1)))
    have hvd : decide (0 ≤ vn) = true := by simpa using hv
    refine wp_region_later (by kernel_rfl) (by kernel_rfl) fun NL hL => ?_; obtain ⟨hNL, hlc, hlf⟩ := hL; (try simp only [World.size_alloc, World.size_setCell, World.size_drew] at hNL)
    repeat (go_big_quiet_step (first | (with_reducible exact later_call (Hcs.out _)) | (with_reducible exact later_call (Hcd.out _))))
    clear hvd
    (refine wpQuiet_nil ?_; intro w1 hw1; obtain ⟨⟨w1, hb1⟩, rfl⟩ := hw1; clear hlc hlf hNL NL; obtain ⟨N1, hN1, hc1, hf1, hs1⟩ := bcell hb1; (try simp only [World.size_alloc, World.size_setCell, World.size_drew] at hN1))
    go_wp2_with (first | ((with_reducible refine (Hcr4.out _).mono ?_); rintro e w1 ⟨rfl, hb1⟩; obtain ⟨N1, hN1, hc1, hf1, hs1⟩ := bcell hb1; (try simp only [World.size_alloc, World.size_setCell, World.size_drew] at hN1)) | ((with_reducible refine (Hcl.out _).mono ?_); rintro e w1 ⟨rfl, hb1⟩; obtain ⟨N1, hN1, hc1, hf1, hs1⟩ := bcell hb1; (try simp only [World.size_alloc, World.size_setCell, World.size_drew] at hN1)))
    go_ret
    exact ⟨rfl, by (repeat (first | (with_reducible exact Below.refl _ _) | (with_reducible refine Below.drew ?_) | (with_reducible refine below_drewN ?_ _) | (with_reducible refine Below.setCell ?_ (by first | (simp; done) | (simp; omega) | omega) _) | (with_reducible refine Below.alloc ?_ (by first | (simp; done) | (simp; omega) | omega) _) | (with_reducible refine Below.trans ?_ (Below.mono (by assumption) (by first | (simp; done) | (simp; omega) | omega)))))⟩
  · clear hy
    have hv' : vn < 0 := by omega
    have Hcx := Lib.hid cx; have Hcy := Lib.hid cy; have Hcz := Lib.hid cz; have Hce := Lib.hid ce; have Hcl := Lib.hid cl; have Hcr1 := Lib.hid cr1; have Hcr2 := Lib.hid cr2; have Hcr3 := Lib.hid cr3; have Hcr4 := Lib.hid cr4; have Hcs := Lib.hid cs; have Hcd := Lib.hid cd; clear cx cy cz ce cl cr1 cr2 cr3 cr4 cs cd
    have hal := alloc_if; have hfal := allocF_if
    have hst := setCell_if
    go_enter Try.func4, Try.ntmps4
    go_wp2_with (first | ((with_reducible refine (Hcx.out _ (by (repeat (first | exact Below.refl _ _ | (with_reducible refine Below.drew ?_) | (with_reducible refine below_drewN ?_ _) | (with_reducible refine Below.setCell ?_ (by first | (simp; done) | (simp; omega) | omega) _) | (with_reducible refine Below.alloc ?_ (by first | (simp; done) | (simp; omega) | omega) _) | (with_reducible refine Below.trans ?_ (Below.mono (by assumption) (by first | (simp; done) | (simp; omega) | omega))))))).mono ?_); rintro e w1 ⟨rfl, hb1⟩; obtain ⟨N1, hN1, hc1, hf1, hs1⟩ := bcell hb1; (try simp only [World.size_alloc, World.size_setCell, World.size_drew] at hN1)) | ((with_reducible refine (Hcy.out _ (by (repeat (first | exact Below.refl _ _ | (with_reducible refine Below.drew ?_) | (with_reducible refine below_drewN ?_ _) | (with_reducible refine Below.setCell ?_ (by first | (simp; done) | (simp; omega) | omega) _) | (with_reducible refine Below.alloc ?_ (by first | (simp; done) | (simp; omega) | omega) _) | (with_reducible refine Below.trans ?_ (Below.mono (by assumption) (by first | (simp; done) | (simp; omega) | omega))))))).mono ?_); rintro e w1 ⟨rfl, hb1⟩; obtain ⟨N1, hN1, hc1, hf1, hs1⟩ := bcell hb1; (try simp only [World.size_alloc, World.size_setCell, World.size_drew] at hN1)) | ((with_reducible refine (Hcz.out _ (by (repeat (first | exact Below.refl _ _ | (with_reducible refine Below.drew ?_) | (with_reducible refine below_drewN ?_ _) | (with_reducible refine Below.setCell ?_ (by first | (simp; done) | (simp; omega) | omega) _) | (with_reducible refine Below.alloc ?_ (by first | (simp; done) | (simp; omega) | omega) _) | (with_reducible refine Below.trans ?_ (Below.mono (by assumption) (by first | (simp; done) | (simp; omega) | omega))))))).mono ?_); rintro e w1 ⟨rfl, hb1⟩; obtain ⟨N1, hN1, hc1, hf1, hs1⟩ := bcell hb1; (try simp only [World.size_alloc, World.size_setCell, World.size_drew] at hN1)) | ((with_reducible refine (Hce.out _).mono ?_); rintro e w1 ⟨rfl, hb1⟩; obtain ⟨N1, hN1, hc1, hf1, hs1⟩ := bcell hb1; (try simp only [World.size_alloc, World.size_setCell, World.size_drew] at hN1)) | ((with_reducible refine (Hcr1.out _).mono ?_); rintro e w1 ⟨rfl, hb1⟩; obtain ⟨N1, hN1, hc1, hf1, hs1⟩ := bcell hb1; (try simp only [World.size_alloc, World.size_setCell, World.size_drew] at hN1)) | ((with_reducible refine (Hcr2.out _).mono ?_); rintro e w1 ⟨rfl, hb1⟩; obtain ⟨N1, hN1, hc1, hf1, hs1⟩ := bcell hb1; (try simp only [World.size_alloc, World.size_setCell, World.size_drew] at hN1)) | ((with_reducible refine (Hcr3.out _).mono ?_); rintro e w1 ⟨rfl, hb1⟩; obtain ⟨N1, hN1, hc1, hf1, hs1⟩ := bcell hb1; (try simp only [World.size_alloc, World.size_setCell, World.size_drew] at hN1)))
    have hvd : decide (0 ≤ vn) = false := by simpa using hv
    refine wp_region_later (by kernel_rfl) (by kernel_rfl) fun NL hL => ?_; obtain ⟨hNL, hlc, hlf⟩ := hL; (try simp only [World.size_alloc, World.size_setCell, World.size_drew] at hNL)
    repeat (go_big_quiet_step (first | (with_reducible exact later_call (Hcs.out _)) | (with_reducible exact later_call (Hcd.out _))))
    clear hvd
    (refine wpQuiet_nil ?_; intro w1 hw1; obtain ⟨⟨w1, hb1⟩, rfl⟩ := hw1; clear hlc hlf hNL NL; obtain ⟨N1, hN1, hc1, hf1, hs1⟩ := bcell hb1; (try simp only [World.size_alloc, World.size_setCell, World.size_drew] at hN1))
    go_wp2_with (first | ((with_reducible refine (Hcr4.out _).mono ?_); rintro e w1 ⟨rfl, hb1⟩; obtain ⟨N1, hN1, hc1, hf1, hs1⟩ := bcell hb1; (try simp only [World.size_alloc, World.size_setCell, World.size_drew] at hN1)) | ((with_reducible refine (Hcl.out _).mono ?_); rintro e w1 ⟨rfl, hb1⟩; obtain ⟨N1, hN1, hc1, hf1, hs1⟩ := bcell hb1; (try simp only [World.size_alloc, World.size_setCell, World.size_drew] at hN1)))
    go_ret
    exact ⟨rfl, by (repeat (first | (with_reducible exact Below.refl _ _) | (with_reducible refine Below.drew ?_) | (with_reducible refine below_drewN ?_ _) | (with_reducible refine Below.setCell ?_ (by first | (simp; done) | (simp; omega) | omega) _) | (with_reducible refine Below.alloc ?_ (by first | (simp; done) | (simp; omega) | omega) _) | (with_reducible refine Below.trans ?_ (Below.mono (by assumption) (by first | (simp; done) | (simp; omega) | omega)))))⟩
end Go.Proofs.Ytpbcagckikindaa.W
