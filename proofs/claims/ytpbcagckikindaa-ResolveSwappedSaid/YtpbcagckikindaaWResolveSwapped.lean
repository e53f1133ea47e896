/-
  The walk of the law ResolveSwapped: it returns true at every input.
  Conditions: none.
-/
import Derived.Test.YtpbcagckikindaaReW
import Derived.Test.YtpbcagckikindaaQg
namespace Go.Proofs.Ytpbcagckikindaa.W
open Go.RowKit Go.Proofs.Ytpbcagckikindaa.FxMath Go.Proofs.Ytpbcagckikindaa.FxA Go.Proofs.Ytpbcagckikindaa.Qt Go.Proofs.Ytpbcagckikindaa.Ve Go.Proofs.Ytpbcagckikindaa.Re
set_option linter.unusedVariables false
set_option linter.unusedSimpArgs false
theorem fdv_turn {nx k : Int} (h : nx = 1024 ∨ nx = 0 ∨ nx = -1024) : fdv (-nx * k) 1024 = -fdv (nx * k) 1024 := by
  rw [fdv_pos _ _ (by omega), fdv_pos _ _ (by omega)]
  rcases h with rfl | rfl | rfl <;> omega
theorem vnr_turn (vx vy ux uy nx ny : Int) : vnr ux uy vx vy (-nx) (-ny) = vnr vx vy ux uy nx ny := by
  unfold vnr
  rw [show (vx - ux) * -nx + (vy - uy) * -ny = (ux - vx) * nx + (uy - vy) * ny by grind]
set_option maxHeartbeats 4000000 in
theorem ResolveSwapped_walk (a0 : Option Addr) (len0 cap0 : Nat) (z0 : List Int) (a1 : Option Addr) (len1 cap1 : Nat) (z1 : List Int) (a2 a3 a4 : Int) (w : World) (w0 : Fr.IsRow .i64 w a0 len0 cap0 z0) (w1 : Fr.IsRow .i64 w a1 len1 cap1 z1) (w2 : (Lit.int .i64 a2).wf = true) (w3 : (Lit.int .i64 a3).wf = true) (w4 : (Lit.int .i64 a4).wf = true) :
    Calls Try.prog 8 #[.slice a0 len0 cap0, .slice a1 len1 cap1, .int .i64 a2, .int .i64 a3, .int .i64 a4] w fun e w' => e = .returned (.bool true) ∧ Below w.heap.size w w' := by
  obtain ⟨px, py, vx, vy, k, mx, cx⟩ := motionE w0
  obtain ⟨qx, qy, ux, uy, l, my, cy⟩ := motionE w1
  obtain ⟨nx, ny, ax, cn⟩ := axisE a2 w2
  obtain ⟨d, hd0, hd1, cd0⟩ := aroundE a3 1048577 w3 (by omega) (by omega)
  obtain ⟨e, he0, he1, ce0⟩ := aroundE a4 1025 w4 (by omega) (by omega)
  have cl := lives_any
  have cd := gives_same cd0
  have ce := gives_same ce0
  have cg := neg_any nx ny (by omega) (by omega) (by omega) (by omega)
  clear w0 w1 w2 w3 w4 cd0 ce0
  obtain ⟨ja, hja⟩ : ∃ ja, ja = imp (vnr vx vy ux uy nx ny) e (k + l) k := ⟨_, rfl⟩
  obtain ⟨jb, hjb⟩ : ∃ jb, jb = imp (vnr vx vy ux uy nx ny) e (k + l) l := ⟨_, rfl⟩
  obtain ⟨da, hda⟩ : ∃ da, da = dis d (k + l) k := ⟨_, rfl⟩
  obtain ⟨db, hdb⟩ : ∃ db, db = dis d (k + l) l := ⟨_, rfl⟩
  have cr := resolve_any px py vx vy k qx qy ux uy l nx ny d e mx my ⟨by omega, by omega, by omega, by omega, by omega, by omega, by omega, by omega⟩ _ ja jb da db rfl hja hjb hda hdb
  have hj2 : jb = imp (vnr ux uy vx vy (-nx) (-ny)) e (l + k) l := by rw [vnr_turn, Int.add_comm l k]; exact hjb
  have hj3 : ja = imp (vnr ux uy vx vy (-nx) (-ny)) e (l + k) k := by rw [vnr_turn, Int.add_comm l k]; exact hja
  have cq := resolve_any qx qy ux uy l px py vx vy k (-nx) (-ny) d e my mx ⟨by omega, by omega, by omega, by omega, by omega, by omega, by omega, by omega⟩ _ jb ja db da rfl hj2 hj3 (by rw [Int.add_comm l k]; exact hdb) (by rw [Int.add_comm l k]; exact hda)
  have tx : nx = 1024 ∨ nx = 0 ∨ nx = -1024 := by omega
  have ty : ny = 1024 ∨ ny = 0 ∨ ny = -1024 := by omega
  simp only [fdv_turn tx, fdv_turn ty, Int.sub_neg, ← Int.sub_eq_add_neg] at cq
  generalize clm (vx - fdv (nx * ja) 1024) (-16384) 16384 = r1 at cr cq
  generalize clm (vy - fdv (ny * ja) 1024) (-16384) 16384 = r2 at cr cq
  generalize clm (ux + fdv (nx * jb) 1024) (-16384) 16384 = r3 at cr cq
  generalize clm (uy + fdv (ny * jb) 1024) (-16384) 16384 = r4 at cr cq
  generalize clm (px - fdv (nx * da) 1024) (-1048576) 1048576 = s1 at cr cq
  generalize clm (py - fdv (ny * da) 1024) (-1048576) 1048576 = s2 at cr cq
  generalize clm (qx + fdv (nx * db) 1024) (-1048576) 1048576 = s3 at cr cq
  generalize clm (qy + fdv (ny * db) 1024) (-1048576) 1048576 = s4 at cr cq
  clear hja hjb hda hdb hj2 hj3 tx ty ax mx my
  have Hcx := Lib.hid cx; have Hcy := Lib.hid cy; have Hcn := Lib.hid cn; have Hcd := Lib.hid cd; have Hce := Lib.hid ce; have Hcl := Lib.hid cl; have Hcg := Lib.hid cg; have Hcr := Lib.hid cr; have Hcq := Lib.hid cq; clear cx cy cn cd ce cl cg cr cq
  have hal := alloc_if; have hfal := allocF_if
  go_enter Try.func8, Try.ntmps8
  go_wp2_with (first | ((with_reducible refine (Hcx.out _ (by (repeat (first | exact Below.refl _ _ | (with_reducible refine Below.drew ?_) | (with_reducible refine below_drewN ?_ _) | (with_reducible refine Below.setCell ?_ (by first | (simp; done) | (simp; omega) | omega) _) | (with_reducible refine Below.alloc ?_ (by first | (simp; done) | (simp; omega) | omega) _) | (with_reducible refine Below.trans ?_ (Below.mono (by assumption) (by first | (simp; done) | (simp; omega) | omega))))))).mono ?_); rintro e w1 ⟨rfl, hb1⟩; obtain ⟨N1, hN1, hc1, hf1, hs1⟩ := bcell hb1; (try simp only [World.size_alloc, World.size_setCell, World.size_drew] at hN1)) | ((with_reducible refine (Hcy.out _ (by (repeat (first | exact Below.refl _ _ | (with_reducible refine Below.drew ?_) | (with_reducible refine below_drewN ?_ _) | (with_reducible refine Below.setCell ?_ (by first | (simp; done) | (simp; omega) | omega) _) | (with_reducible refine Below.alloc ?_ (by first | (simp; done) | (simp; omega) | omega) _) | (with_reducible refine Below.trans ?_ (Below.mono (by assumption) (by first | (simp; done) | (simp; omega) | omega))))))).mono ?_); rintro e w1 ⟨rfl, hb1⟩; obtain ⟨N1, hN1, hc1, hf1, hs1⟩ := bcell hb1; (try simp only [World.size_alloc, World.size_setCell, World.size_drew] at hN1)) | ((with_reducible refine (Hcn.out _).mono ?_); rintro e w1 ⟨rfl, hb1⟩; obtain ⟨N1, hN1, hc1, hf1, hs1⟩ := bcell hb1; (try simp only [World.size_alloc, World.size_setCell, World.size_drew] at hN1)) | ((with_reducible refine (Hcd.out _).mono ?_); rintro e w1 ⟨rfl, hb1⟩; obtain ⟨N1, hN1, hc1, hf1, hs1⟩ := bcell hb1; (try simp only [World.size_alloc, World.size_setCell, World.size_drew] at hN1)) | ((with_reducible refine (Hce.out _).mono ?_); rintro e w1 ⟨rfl, hb1⟩; obtain ⟨N1, hN1, hc1, hf1, hs1⟩ := bcell hb1; (try simp only [World.size_alloc, World.size_setCell, World.size_drew] at hN1)) | ((with_reducible refine (Hcr.out _).mono ?_); rintro e w1 ⟨rfl, hb1⟩; obtain ⟨N1, hN1, hc1, hf1, hs1⟩ := bcell hb1; (try simp only [World.size_alloc, World.size_setCell, World.size_drew] at hN1)))
  refine wp_region_calm2_await 11 18 19 #[.int .i64 0, .int .i64 0, .int .i64 0, .int .i64 0, .int .i64 0] 26 #[.int .i64 0, .int .i64 0, .int .i64 0, .int .i64 0, .int .i64 0] 26 10 50 [13] rfl rfl (by kernel_rfl) (by kernel_rfl) (by kernel_rfl) rfl (fun _ _ _ _ h => h) (fun o ho ev w => by have ho' := Option.some.inj ho; rw [← ho']; exact rfl) (fun o ho ev w => by have ho' := Option.some.inj ho; rw [← ho']; exact rfl) fun NL hL => ?_; obtain ⟨hNL, hlc, hlf⟩ := hL; (try simp only [World.size_alloc, World.size_setCell, World.size_drew] at hNL); simp only [List.take_succ_cons, List.take_zero, List.drop_succ_cons, List.drop_zero]
  repeat ((refine wpCalm_go (fun K hK => ?_); go_simp; (repeat (simp only [↓IntWalk.iteOmega]; (try go_simp)))); first | (refine hK _ ?_; clear hK K) | (apply Exists.intro; refine ⟨fun x => ?_, hK _ ?_⟩; (first | (with_reducible exact calm_call (Hcg.out _)) | (with_reducible exact calm_call (Hcq.out _))); clear hK K))
  refine wpCalm_nil ?_
  intro b1 b2 w1 hb1 hk1 hkf1 hkn1 hks1 hk2 hkf2 hkn2 hks2 hkne
  (try simp only [World.size_alloc, World.size_setCell, World.size_drew] at hkn1 hkn2)
  have hst := setCell_if
  simp only [Act.put, List.setIfInBounds_toArray, List.set_cons_zero, List.set_cons_succ]
  clear hlc hlf hNL NL; obtain ⟨N1, hN1, hc1, hf1, hs1⟩ := bcell hb1; (try simp only [World.size_alloc, World.size_setCell, World.size_drew] at hN1)
  go_wp2_with (first | ((with_reducible refine (Hcl.out _).mono ?_); rintro e w1 ⟨rfl, hb1⟩; obtain ⟨N1, hN1, hc1, hf1, hs1⟩ := bcell hb1; (try simp only [World.size_alloc, World.size_setCell, World.size_drew] at hN1)))
  go_ret
  exact ⟨rfl, by (repeat (first | (with_reducible exact Below.refl _ _) | (with_reducible refine Below.drew ?_) | (with_reducible refine below_drewN ?_ _) | (with_reducible refine Below.setCell ?_ (by first | (simp; done) | (simp; omega) | omega) _) | (with_reducible refine Below.alloc ?_ (by first | (simp; done) | (simp; omega) | omega) _) | (with_reducible refine Below.trans ?_ (Below.mono (by assumption) (by first | (simp; done) | (simp; omega) | omega)))))⟩
end Go.Proofs.Ytpbcagckikindaa.W
