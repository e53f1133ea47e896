/-
  The walk of the law ResolveExact: it returns true at every input.
  Conditions: none.
-/
import Derived.Test.YtpbcagckikindaaReW
import Derived.Test.YtpbcagckikindaaRrA
namespace Go.Proofs.Ytpbcagckikindaa.W
open Go.RowKit Go.Proofs.Ytpbcagckikindaa.FxMath Go.Proofs.Ytpbcagckikindaa.FxA Go.Proofs.Ytpbcagckikindaa.Qt Go.Proofs.Ytpbcagckikindaa.Ve Go.Proofs.Ytpbcagckikindaa.Re
set_option linter.unusedVariables false
set_option linter.unusedSimpArgs false
set_option maxHeartbeats 4000000 in
theorem ResolveExact_walk (a0 : Option Addr) (len0 cap0 : Nat) (z0 : List Int) (a1 : Option Addr) (len1 cap1 : Nat) (z1 : List Int) (a2 : Option Addr) (len2 cap2 : Nat) (z2 : List Int) (a3 : Int) (w : World) (w0 : Fr.IsRow .i64 w a0 len0 cap0 z0) (w1 : Fr.IsRow .i64 w a1 len1 cap1 z1) (w2 : Fr.IsRow .i64 w a2 len2 cap2 z2) (w3 : (Lit.int .i64 a3).wf = true) :
    Calls Try.prog 3 #[.slice a0 len0 cap0, .slice a1 len1 cap1, .slice a2 len2 cap2, .int .i64 a3] w fun e w' => e = .returned (.bool true) ∧ Below w.heap.size w w' := by
  obtain ⟨px, py, vx, vy, k, mx, cx⟩ := motionE w0
  obtain ⟨qx, qy, ux, uy, l, my, cy⟩ := motionE w1
  obtain ⟨nx, ny, d, ⟨n0, n1, n2, n3, n4, n5⟩, cz⟩ := contactE w2
  obtain ⟨e, he0, he1, ce0⟩ := aroundE a3 1025 w3 (by omega) (by omega)
  have cl := lives_any
  have ce := gives_same ce0
  clear w0 w1 w2 w3 ce0
  have co : Co nx ny d e := ⟨by omega, by omega, by omega, by omega, by omega, by omega, by omega, by omega⟩
  have cr := resolve_any px py vx vy k qx qy ux uy l nx ny d e mx my co _ _ _ _ _ rfl rfl rfl rfl rfl
  have cq := rresolve_any px py vx vy k qx qy ux uy l nx ny d e mx my co _ _ _ _ _ rfl rfl rfl rfl rfl
  clear mx my co n0 n1 n2 n3 n4 n5
  generalize clm (px - fdv (nx * dis d (k + l) k) 1024) (-1048576) 1048576 = r1 at cr cq
  generalize clm (py - fdv (ny * dis d (k + l) k) 1024) (-1048576) 1048576 = r2 at cr cq
  generalize clm (qx + fdv (nx * dis d (k + l) l) 1024) (-1048576) 1048576 = r3 at cr cq
  generalize clm (qy + fdv (ny * dis d (k + l) l) 1024) (-1048576) 1048576 = r4 at cr cq
  generalize clm (vx - fdv (nx * imp (vnr vx vy ux uy nx ny) e (k + l) k) 1024) (-16384) 16384 = o1 at cr cq
  generalize clm (vy - fdv (ny * imp (vnr vx vy ux uy nx ny) e (k + l) k) 1024) (-16384) 16384 = o2 at cr cq
  generalize clm (ux + fdv (nx * imp (vnr vx vy ux uy nx ny) e (k + l) l) 1024) (-16384) 16384 = o3 at cr cq
  generalize clm (uy + fdv (ny * imp (vnr vx vy ux uy nx ny) e (k + l) l) 1024) (-16384) 16384 = o4 at cr cq
  have Hcx := Lib.hid cx; have Hcy := Lib.hid cy; have Hcz := Lib.hid cz; have Hce := Lib.hid ce; have Hcl := Lib.hid cl; have Hcr := Lib.hid cr; have Hcq := Lib.hid cq; clear cx cy cz ce cl cr cq
  have hal := alloc_if; have hfal := allocF_if
  have hst := setCell_if
  go_enter Try.func3, Try.ntmps3
  go_wp2_with (first | ((with_reducible refine (Hcx.out _ (by (repeat (first | exact Below.refl _ _ | (with_reducible refine Below.drew ?_) | (with_reducible refine below_drewN ?_ _) | (with_reducible refine Below.setCell ?_ (by first | (simp; done) | (simp; omega) | omega) _) | (with_reducible refine Below.alloc ?_ (by first | (simp; done) | (simp; omega) | omega) _) | (with_reducible refine Below.trans ?_ (Below.mono (by assumption) (by first | (simp; done) | (simp; omega) | omega))))))).mono ?_); rintro e w1 ⟨rfl, hb1⟩; obtain ⟨N1, hN1, hc1, hf1, hs1⟩ := bcell hb1; (try simp only [World.size_alloc, World.size_setCell, World.size_drew] at hN1)) | ((with_reducible refine (Hcy.out _ (by (repeat (first | exact Below.refl _ _ | (with_reducible refine Below.drew ?_) | (with_reducible refine below_drewN ?_ _) | (with_reducible refine Below.setCell ?_ (by first | (simp; done) | (simp; omega) | omega) _) | (with_reducible refine Below.alloc ?_ (by first | (simp; done) | (simp; omega) | omega) _) | (with_reducible refine Below.trans ?_ (Below.mono (by assumption) (by first | (simp; done) | (simp; omega) | omega))))))).mono ?_); rintro e w1 ⟨rfl, hb1⟩; obtain ⟨N1, hN1, hc1, hf1, hs1⟩ := bcell hb1; (try simp only [World.size_alloc, World.size_setCell, World.size_drew] at hN1)) | ((with_reducible refine (Hcz.out _ (by (repeat (first | exact Below.refl _ _ | (with_reducible refine Below.drew ?_) | (with_reducible refine below_drewN ?_ _) | (with_reducible refine Below.setCell ?_ (by first | (simp; done) | (simp; omega) | omega) _) | (with_reducible refine Below.alloc ?_ (by first | (simp; done) | (simp; omega) | omega) _) | (with_reducible refine Below.trans ?_ (Below.mono (by assumption) (by first | (simp; done) | (simp; omega) | omega))))))).mono ?_); rintro e w1 ⟨rfl, hb1⟩; obtain ⟨N1, hN1, hc1, hf1, hs1⟩ := bcell hb1; (try simp only [World.size_alloc, World.size_setCell, World.size_drew] at hN1)) | ((with_reducible refine (Hce.out _).mono ?_); rintro e w1 ⟨rfl, hb1⟩; obtain ⟨N1, hN1, hc1, hf1, hs1⟩ := bcell hb1; (try simp only [World.size_alloc, World.size_setCell, World.size_drew] at hN1)) | ((with_reducible refine (Hcr.out _).mono ?_); rintro e w1 ⟨rfl, hb1⟩; obtain ⟨N1, hN1, hc1, hf1, hs1⟩ := bcell hb1; (try simp only [World.size_alloc, World.size_setCell, World.size_drew] at hN1)) | ((with_reducible refine (Hcq.out _).mono ?_); rintro e w1 ⟨rfl, hb1⟩; obtain ⟨N1, hN1, hc1, hf1, hs1⟩ := bcell hb1; (try simp only [World.size_alloc, World.size_setCell, World.size_drew] at hN1)) | ((with_reducible refine (Hcl.out _).mono ?_); rintro e w1 ⟨rfl, hb1⟩; obtain ⟨N1, hN1, hc1, hf1, hs1⟩ := bcell hb1; (try simp only [World.size_alloc, World.size_setCell, World.size_drew] at hN1)))
  go_ret
  exact ⟨rfl, by (repeat (first | (with_reducible exact Below.refl _ _) | (with_reducible refine Below.drew ?_) | (with_reducible refine below_drewN ?_ _) | (with_reducible refine Below.setCell ?_ (by first | (simp; done) | (simp; omega) | omega) _) | (with_reducible refine Below.alloc ?_ (by first | (simp; done) | (simp; omega) | omega) _) | (with_reducible refine Below.trans ?_ (Below.mono (by assumption) (by first | (simp; done) | (simp; omega) | omega)))))⟩
end Go.Proofs.Ytpbcagckikindaa.W
