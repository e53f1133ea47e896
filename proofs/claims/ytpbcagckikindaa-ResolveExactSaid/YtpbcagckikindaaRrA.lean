/-
  The contract of the reference's Resolve on its domain: the same function of the numbers as Resolve's.
  Conditions: the domain's bounds (Mo, Co).
-/
import Derived.Test.YtpbcagckikindaaReR
import Derived.Test.YtpbcagckikindaaVeR
import Derived.Test.YtpbcagckikindaaFxR
import Derived.RegionTactic
import Derived.BigRegion
namespace Go.Proofs.Ytpbcagckikindaa.Re
open Go.RowKit Go.Proofs.Ytpbcagckikindaa.FxMath Go.Proofs.Ytpbcagckikindaa.FxA Go.Proofs.Ytpbcagckikindaa.Qt Go.Proofs.Ytpbcagckikindaa.Ve
set_option linter.unusedVariables false
set_option linter.unusedSimpArgs false
set_option maxHeartbeats 2000000 in
theorem rclampM_any (px py vx vy m : Int) : Gives Try.prog 59 #[.agg #[.int .i64 px, .int .i64 py, .int .i64 vx, .int .i64 vy, .int .i64 m]] (.agg #[.int .i64 (clm px (-1048576) 1048576), .int .i64 (clm py (-1048576) 1048576), .int .i64 (clm vx (-16384) 16384), .int .i64 (clm vy (-16384) 16384), .int .i64 m]) := by
  intro w
  have c1 := gives_same (fun w => rclamp_any px (-1048576) 1048576 w)
  have c2 := gives_same (fun w => rclamp_any py (-1048576) 1048576 w)
  have c3 := gives_same (fun w => rclamp_any vx (-16384) 16384 w)
  have c4 := gives_same (fun w => rclamp_any vy (-16384) 16384 w)
  generalize clm px (-1048576) 1048576 = r1 at *
  generalize clm py (-1048576) 1048576 = r2 at *
  generalize clm vx (-16384) 16384 = r3 at *
  generalize clm vy (-16384) 16384 = r4 at *
  have Hc1 := Lib.hid c1; have Hc2 := Lib.hid c2; have Hc3 := Lib.hid c3; have Hc4 := Lib.hid c4; clear c1 c2 c3 c4
  have hal := alloc_if; have hfal := allocF_if
  have hst := setCell_if
  go_enter Try.func59, Try.ntmps59
  go_wp2
  refine wp_region_later_tail 21 (by kernel_rfl) (by kernel_rfl) fun NL hL => ?_; obtain ⟨hNL, hlc, hlf⟩ := hL; (try simp only [World.size_alloc, World.size_setCell, World.size_drew] at hNL); simp only [List.take_succ_cons, List.take_zero, List.drop_succ_cons, List.drop_zero]
  repeat (go_big_quiet_step (first | (with_reducible exact later_call (Hc1.out _)) | (with_reducible exact later_call (Hc2.out _)) | (with_reducible exact later_call (Hc3.out _)) | (with_reducible exact later_call (Hc4.out _))))
  (refine wpQuiet_nil ?_; intro w1 hw1; obtain ⟨⟨w1, hb1⟩, rfl⟩ := hw1; clear hlc hlf hNL NL; obtain ⟨N1, hN1, hc1, hf1, hs1⟩ := bcell hb1; (try simp only [World.size_alloc, World.size_setCell, World.size_drew] at hN1))
  go_wp2
  refine bodyPost_ret (v := .agg #[.int .i64 r1, .int .i64 r2, .int .i64 r3, .int .i64 r4, .int .i64 m]) (by simp [results, Try.results59, go_sem, hc1, hst, alloc_if, ↓IntWalk.iteOmega]) rfl ⟨rfl, ?_⟩
  (repeat (first | (with_reducible exact Below.refl _ _) | (with_reducible refine Below.drew ?_) | (with_reducible refine below_drewN ?_ _) | (with_reducible refine Below.setCell ?_ (by first | (simp; done) | (simp; omega) | omega) _) | (with_reducible refine Below.alloc ?_ (by first | (simp; done) | (simp; omega) | omega) _) | (with_reducible refine Below.trans ?_ (Below.mono (by assumption) (by first | (simp; done) | (simp; omega) | omega)))))
set_option maxHeartbeats 4000000 in
theorem rresolve_any (px py vx vy am qx qy ux uy bm nx ny d e : Int) (A : Mo px py vx vy am) (B : Mo qx qy ux uy bm) (C : Co nx ny d e) (vn ja jb da db : Int)
    (hvn : vn = vnr vx vy ux uy nx ny) (hja : ja = imp vn e (am + bm) am) (hjb : jb = imp vn e (am + bm) bm) (hda : da = dis d (am + bm) am) (hdb : db = dis d (am + bm) bm) :
    Gives Try.prog 20 #[.agg #[.int .i64 px, .int .i64 py, .int .i64 vx, .int .i64 vy, .int .i64 am], .agg #[.int .i64 qx, .int .i64 qy, .int .i64 ux, .int .i64 uy, .int .i64 bm], .agg #[.int .i64 nx, .int .i64 ny, .int .i64 d], .int .i64 e] (.tuple #[.agg #[.int .i64 (clm (px - fdv (nx * da) 1024) (-1048576) 1048576), .int .i64 (clm (py - fdv (ny * da) 1024) (-1048576) 1048576), .int .i64 (clm (vx - fdv (nx * ja) 1024) (-16384) 16384), .int .i64 (clm (vy - fdv (ny * ja) 1024) (-16384) 16384), .int .i64 am], .agg #[.int .i64 (clm (qx + fdv (nx * db) 1024) (-1048576) 1048576), .int .i64 (clm (qy + fdv (ny * db) 1024) (-1048576) 1048576), .int .i64 (clm (ux + fdv (nx * jb) 1024) (-16384) 16384), .int .i64 (clm (uy + fdv (ny * jb) 1024) (-16384) 16384), .int .i64 bm]]) := by
  intro w
  obtain ⟨p0, p1, q0, q1, u0, u1, v0, v1, m0, m1⟩ := A
  obtain ⟨p0', p1', q0', q1', u0', u1', v0', v1', m0', m1'⟩ := B
  obtain ⟨x0, x1, y0, y1, d0, d1, e0, e1⟩ := C
  have vb := vnr_bd ⟨p0, p1, q0, q1, u0, u1, v0, v1, m0, m1⟩ ⟨p0', p1', q0', q1', u0', u1', v0', v1', m0', m1'⟩ ⟨x0, x1, y0, y1, d0, d1, e0, e1⟩
  rw [← hvn] at vb
  by_cases ht : am + bm = 0
  · have ea : ja = 0 := by rw [hja]; unfold imp; split <;> simp [ht, fdv_zero, fdv0]
    have eb : jb = 0 := by rw [hjb]; unfold imp; split <;> simp [ht, fdv_zero, fdv0]
    have ec : da = 0 := by rw [hda]; unfold dis; rw [ht, fdv_zero]
    have ed : db = 0 := by rw [hdb]; unfold dis; rw [ht, fdv_zero]
    rw [ea, eb, ec, ed]
    simp only [Int.mul_zero, fdv0, Int.sub_zero, Int.add_zero]
    rw [clmP p0 p1, clmP q0 q1, clmV u0 u1, clmV v0 v1, clmP p0' p1', clmP q0' q1', clmV u0' u1', clmV v0' v1']
    obtain rfl : am = 0 := by omega
    obtain rfl : bm = 0 := by omega
    clear ht hja hjb hda hdb hvn ea eb ec ed
    have hal := alloc_if; have hfal := allocF_if
    have hst := setCell_if
    go_enter Try.func20, Try.ntmps20
    go_wp2
    go_region
    all_goals
      go_wp2
      refine bodyPost_ret (v := .tuple #[.agg #[.int .i64 px, .int .i64 py, .int .i64 vx, .int .i64 vy, .int .i64 0], .agg #[.int .i64 qx, .int .i64 qy, .int .i64 ux, .int .i64 uy, .int .i64 0]]) (by simp [results, Try.results20, go_sem, hst, alloc_if, ↓IntWalk.iteOmega]) rfl ⟨rfl, ?_⟩
      (repeat (first | (with_reducible exact Below.refl _ _) | (with_reducible refine Below.drew ?_) | (with_reducible refine below_drewN ?_ _) | (with_reducible refine Below.setCell ?_ (by first | (simp; done) | (simp; omega) | omega) _) | (with_reducible refine Below.alloc ?_ (by first | (simp; done) | (simp; omega) | omega) _) | (with_reducible refine Below.trans ?_ (Below.mono (by assumption) (by first | (simp; done) | (simp; omega) | omega)))))
  · have hs : ((am + bm) == 0) = false := by simp [ht]
    have sx := mul_bd (a := ux - vx) (b := nx) (A := 32768) (B := 1024) (by omega) (by omega) x0 x1
    have sy := mul_bd (a := uy - vy) (b := ny) (A := 32768) (B := 1024) (by omega) (by omega) y0 y1
    have bj := mul_bd (a := -vn) (b := 1024 + e) (A := 65536) (B := 2048) (by omega) (by omega) (by omega) (by omega)
    obtain ⟨j, hj⟩ : ∃ j, j = fdv (-vn * (1024 + e)) (am + bm) := ⟨_, rfl⟩
    have bj' := fdv_bdd (c := am + bm) bj.1 bj.2
    rw [← hj] at bj'
    have ba := mul_bd (a := j) (b := am) (A := 134217729) (B := 4096) (by omega) (by omega) (by omega) (by omega)
    have bb := mul_bd (a := j) (b := bm) (A := 134217729) (B := 4096) (by omega) (by omega) (by omega) (by omega)
    have bda := mul_bd (a := d) (b := am) (A := 1048576) (B := 4096) (by omega) (by omega) (by omega) (by omega)
    have bdb := mul_bd (a := d) (b := bm) (A := 1048576) (B := 4096) (by omega) (by omega) (by omega) (by omega)
    have bda' := fdv_bdd (c := am + bm) bda.1 bda.2
    have bdb' := fdv_bdd (c := am + bm) bdb.1 bdb.2
    have ba' := fdv_bdd (c := 1024) ba.1 ba.2
    have bb' := fdv_bdd (c := 1024) bb.1 bb.2
    have da' : da = fdv (d * am) (am + bm) := hda
    have db' : db = fdv (d * bm) (am + bm) := hdb
    have cs := rsub_any ux uy vx vy (by omega) (by omega) (by omega) (by omega)
    have cd := rdot_any (ux - vx) (uy - vy) nx ny (by omega) (by omega) (by omega) (by omega)
    rw [show ((ux - vx) * nx + (uy - vy) * ny) / 1024 = vn from hvn.symm] at cd
    have cj := gives_same (fun w => rmulDiv_any (-vn) (1024 + e) (am + bm) w (by omega) (by omega))
    rw [← hj] at cj
    have ca := gives_same (fun w => rmul_any j am w (by omega) (by omega))
    have cb := gives_same (fun w => rmul_any j bm w (by omega) (by omega))
    have cda := gives_same (fun w => rmulDiv_any d am (am + bm) w (by omega) (by omega))
    have cdb := gives_same (fun w => rmulDiv_any d bm (am + bm) w (by omega) (by omega))
    rw [← da'] at cda bda'
    rw [← db'] at cdb bdb'
    have mxa := mul_bd (a := nx) (b := da) (A := 1024) (B := 4294967297) (by omega) (by omega) (by omega) (by omega)
    have mya := mul_bd (a := ny) (b := da) (A := 1024) (B := 4294967297) (by omega) (by omega) (by omega) (by omega)
    have mxb := mul_bd (a := nx) (b := db) (A := 1024) (B := 4294967297) (by omega) (by omega) (by omega) (by omega)
    have myb := mul_bd (a := ny) (b := db) (A := 1024) (B := 4294967297) (by omega) (by omega) (by omega) (by omega)
    have csa := rscale_any nx ny da (by omega) (by omega) (by omega) (by omega)
    have csb := rscale_any nx ny db (by omega) (by omega) (by omega) (by omega)
    have fxa := fdv_bd mxa.1 mxa.2
    have fya := fdv_bd mya.1 mya.2
    have fxb := fdv_bd mxb.1 mxb.2
    have fyb := fdv_bd myb.1 myb.2
    clear bda bdb da' db' hda hdb mxa mya mxb myb bj
    generalize fdv (nx * da) 1024 = D1 at *
    generalize fdv (ny * da) 1024 = D2 at *
    generalize fdv (nx * db) 1024 = E1 at *
    generalize fdv (ny * db) 1024 = E2 at *
    have cpa := rsub_any px py D1 D2 (by omega) (by omega) (by omega) (by omega)
    have cpb := radd_any qx qy E1 E2 (by omega) (by omega) (by omega) (by omega)
    by_cases hv : vn < 0
    · have ja' : ja = fdv (j * am) 1024 := by rw [hja]; unfold imp; rw [if_pos hv, ← hj]
      have jb' : jb = fdv (j * bm) 1024 := by rw [hjb]; unfold imp; rw [if_pos hv, ← hj]
      rw [← ja'] at ca ba'
      rw [← jb'] at cb bb'
      clear hvn hja hjb ja' jb' hj ba bb sx sy
      have mxa := mul_bd (a := nx) (b := ja) (A := 1024) (B := 549755817985) (by omega) (by omega) (by omega) (by omega)
      have mya := mul_bd (a := ny) (b := ja) (A := 1024) (B := 549755817985) (by omega) (by omega) (by omega) (by omega)
      have mxb := mul_bd (a := nx) (b := jb) (A := 1024) (B := 549755817985) (by omega) (by omega) (by omega) (by omega)
      have myb := mul_bd (a := ny) (b := jb) (A := 1024) (B := 549755817985) (by omega) (by omega) (by omega) (by omega)
      have cta := rscale_any nx ny ja (by omega) (by omega) (by omega) (by omega)
      have ctb := rscale_any nx ny jb (by omega) (by omega) (by omega) (by omega)
      have gxa := fdv_bd mxa.1 mxa.2
      have gya := fdv_bd mya.1 mya.2
      have gxb := fdv_bd mxb.1 mxb.2
      have gyb := fdv_bd myb.1 myb.2
      clear mxa mya mxb myb
      generalize fdv (nx * ja) 1024 = A1 at *
      generalize fdv (ny * ja) 1024 = A2 at *
      generalize fdv (nx * jb) 1024 = B1 at *
      generalize fdv (ny * jb) 1024 = B2 at *
      have cva := rsub_any vx vy A1 A2 (by omega) (by omega) (by omega) (by omega)
      have cvb := radd_any ux uy B1 B2 (by omega) (by omega) (by omega) (by omega)
      have cca := rclampM_any (px - D1) (py - D2) (vx - A1) (vy - A2) am
      have ccb := rclampM_any (qx + E1) (qy + E2) (ux + B1) (uy + B2) bm
      have Hcs := Lib.hid cs; have Hcd := Lib.hid cd; have Hcj := Lib.hid cj; have Hca := Lib.hid ca; have Hcb := Lib.hid cb; have Hcda := Lib.hid cda; have Hcdb := Lib.hid cdb; have Hcsa := Lib.hid csa; have Hcsb := Lib.hid csb; have Hcpa := Lib.hid cpa; have Hcpb := Lib.hid cpb; have Hcta := Lib.hid cta; have Hctb := Lib.hid ctb; have Hcva := Lib.hid cva; have Hcvb := Lib.hid cvb; have Hcca := Lib.hid cca; have Hccb := Lib.hid ccb; clear cs cd cj ca cb cda cdb csa csb cpa cpb cta ctb cva cvb cca ccb
      have hal := alloc_if; have hfal := allocF_if
      have hst := setCell_if
      go_enter Try.func20, Try.ntmps20
      go_wp2
      refine wp_region_later (by kernel_rfl) (by kernel_rfl) fun NL hL => ?_; obtain ⟨hNL, hlc, hlf⟩ := hL; (try simp only [World.size_alloc, World.size_setCell, World.size_drew] at hNL)
      repeat (go_big_quiet_step (first | (with_reducible exact later_call (Hcs.out _)) | (with_reducible exact later_call (Hcd.out _))))
      (refine wpQuiet_nil ?_; intro w1 hw1; obtain ⟨⟨w1, hb1⟩, rfl⟩ := hw1; clear hlc hlf hNL NL; obtain ⟨N1, hN1, hc1, hf1, hs1⟩ := bcell hb1; (try simp only [World.size_alloc, World.size_setCell, World.size_drew] at hN1))
      have hcA := hc1
      go_wp2_with (first | ((with_reducible refine (Hcj.out _).mono ?_); rintro e w1 ⟨rfl, hb1⟩; obtain ⟨N1, hN1, hc1, hf1, hs1⟩ := bcell hb1; (try simp only [World.size_alloc, World.size_setCell, World.size_drew] at hN1)))
      have hcG := hc1
      refine wp_region_later_tail 11 (by kernel_rfl) (by kernel_rfl) fun NL hL => ?_; obtain ⟨hNL, hlc, hlf⟩ := hL; (try simp only [World.size_alloc, World.size_setCell, World.size_drew] at hNL); simp only [List.take_succ_cons, List.take_zero, List.drop_succ_cons, List.drop_zero]
      repeat (go_big_quiet_step (first | (with_reducible exact later_call (Hca.out _)) | (with_reducible exact later_call (Hcta.out _)) | (with_reducible exact later_call (Hcva.out _))))
      (refine wpQuiet_nil ?_; intro w1 hw1; obtain ⟨⟨w1, hb1⟩, rfl⟩ := hw1; clear hlc hlf hNL NL; obtain ⟨N1, hN1, hc1, hf1, hs1⟩ := bcell hb1; (try simp only [World.size_alloc, World.size_setCell, World.size_drew] at hN1))
      have hcB := hc1
      go_wp2
      refine wp_region_later_tail 11 (by kernel_rfl) (by kernel_rfl) fun NL hL => ?_; obtain ⟨hNL, hlc, hlf⟩ := hL; (try simp only [World.size_alloc, World.size_setCell, World.size_drew] at hNL); simp only [List.take_succ_cons, List.take_zero, List.drop_succ_cons, List.drop_zero]
      repeat (go_big_quiet_step (first | (with_reducible exact later_call (Hcb.out _)) | (with_reducible exact later_call (Hctb.out _)) | (with_reducible exact later_call (Hcvb.out _))))
      (refine wpQuiet_nil ?_; intro w1 hw1; obtain ⟨⟨w1, hb1⟩, rfl⟩ := hw1; clear hlc hlf hNL NL; obtain ⟨N1, hN1, hc1, hf1, hs1⟩ := bcell hb1; (try simp only [World.size_alloc, World.size_setCell, World.size_drew] at hN1))
      have hcC := hc1
      go_wp2
      refine wp_region_later_tail 13 (by kernel_rfl) (by kernel_rfl) fun NL hL => ?_; obtain ⟨hNL, hlc, hlf⟩ := hL; (try simp only [World.size_alloc, World.size_setCell, World.size_drew] at hNL); simp only [List.take_succ_cons, List.take_zero, List.drop_succ_cons, List.drop_zero]
      repeat (go_big_quiet_step (first | (with_reducible exact later_call (Hcda.out _)) | (with_reducible exact later_call (Hcsa.out _)) | (with_reducible exact later_call (Hcpa.out _))))
      (refine wpQuiet_nil ?_; intro w1 hw1; obtain ⟨⟨w1, hb1⟩, rfl⟩ := hw1; clear hlc hlf hNL NL; obtain ⟨N1, hN1, hc1, hf1, hs1⟩ := bcell hb1; (try simp only [World.size_alloc, World.size_setCell, World.size_drew] at hN1))
      have hcD := hc1
      go_wp2
      refine wp_region_later_tail 13 (by kernel_rfl) (by kernel_rfl) fun NL hL => ?_; obtain ⟨hNL, hlc, hlf⟩ := hL; (try simp only [World.size_alloc, World.size_setCell, World.size_drew] at hNL); simp only [List.take_succ_cons, List.take_zero, List.drop_succ_cons, List.drop_zero]
      repeat (go_big_quiet_step (first | (with_reducible exact later_call (Hcdb.out _)) | (with_reducible exact later_call (Hcsb.out _)) | (with_reducible exact later_call (Hcpb.out _))))
      (refine wpQuiet_nil ?_; intro w1 hw1; obtain ⟨⟨w1, hb1⟩, rfl⟩ := hw1; clear hlc hlf hNL NL; obtain ⟨N1, hN1, hc1, hf1, hs1⟩ := bcell hb1; (try simp only [World.size_alloc, World.size_setCell, World.size_drew] at hN1))
      have hcE := hc1
      go_wp2
      refine wp_region_later_tail 4 (by kernel_rfl) (by kernel_rfl) fun NL hL => ?_; obtain ⟨hNL, hlc, hlf⟩ := hL; (try simp only [World.size_alloc, World.size_setCell, World.size_drew] at hNL); simp only [List.take_succ_cons, List.take_zero, List.drop_succ_cons, List.drop_zero]
      repeat (go_big_quiet_step (first | (with_reducible exact later_call (Hcca.out _)) | (with_reducible exact later_call (Hccb.out _))))
      (refine wpQuiet_nil ?_; intro w1 hw1; obtain ⟨⟨w1, hb1⟩, rfl⟩ := hw1; clear hlc hlf hNL NL; obtain ⟨N1, hN1, hc1, hf1, hs1⟩ := bcell hb1; (try simp only [World.size_alloc, World.size_setCell, World.size_drew] at hN1))
      have hcF := hc1
      go_wp2
      refine bodyPost_ret (v := .tuple #[.agg #[.int .i64 (clm (px - D1) (-1048576) 1048576), .int .i64 (clm (py - D2) (-1048576) 1048576), .int .i64 (clm (vx - A1) (-16384) 16384), .int .i64 (clm (vy - A2) (-16384) 16384), .int .i64 am], .agg #[.int .i64 (clm (qx + E1) (-1048576) 1048576), .int .i64 (clm (qy + E2) (-1048576) 1048576), .int .i64 (clm (ux + B1) (-16384) 16384), .int .i64 (clm (uy + B2) (-16384) 16384), .int .i64 bm]]) (by simp [results, Try.results20, go_sem, hst, hcA, hcB, hcC, hcD, hcE, hcF, hcG, alloc_if, ↓IntWalk.iteOmega]) rfl ⟨rfl, ?_⟩
      (repeat (first | (with_reducible exact Below.refl _ _) | (with_reducible refine Below.drew ?_) | (with_reducible refine below_drewN ?_ _) | (with_reducible refine Below.setCell ?_ (by first | (simp; done) | (simp; omega) | omega) _) | (with_reducible refine Below.alloc ?_ (by first | (simp; done) | (simp; omega) | omega) _) | (with_reducible refine Below.trans ?_ (Below.mono (by assumption) (by first | (simp; done) | (simp; omega) | omega)))))
    · have ja' : ja = 0 := by rw [hja]; unfold imp; rw [if_neg hv]
      have jb' : jb = 0 := by rw [hjb]; unfold imp; rw [if_neg hv]
      subst ja' jb'
      simp only [Int.mul_zero, fdv0, Int.sub_zero, Int.add_zero]
      clear hvn hja hjb hj ba bb sx sy cj ca cb
      have cca := rclampM_any (px - D1) (py - D2) vx vy am
      have ccb := rclampM_any (qx + E1) (qy + E2) ux uy bm
      have hv' : 0 ≤ vn := by omega
      clear hv
      have Hcs := Lib.hid cs; have Hcd := Lib.hid cd; have Hcda := Lib.hid cda; have Hcdb := Lib.hid cdb; have Hcsa := Lib.hid csa; have Hcsb := Lib.hid csb; have Hcpa := Lib.hid cpa; have Hcpb := Lib.hid cpb; have Hcca := Lib.hid cca; have Hccb := Lib.hid ccb; clear cs cd cda cdb csa csb cpa cpb cca ccb
      have hal := alloc_if; have hfal := allocF_if
      have hst := setCell_if
      go_enter Try.func20, Try.ntmps20
      go_wp2
      refine wp_region_later (by kernel_rfl) (by kernel_rfl) fun NL hL => ?_; obtain ⟨hNL, hlc, hlf⟩ := hL; (try simp only [World.size_alloc, World.size_setCell, World.size_drew] at hNL)
      repeat (go_big_quiet_step (first | (with_reducible exact later_call (Hcs.out _)) | (with_reducible exact later_call (Hcd.out _))))
      (refine wpQuiet_nil ?_; intro w1 hw1; obtain ⟨⟨w1, hb1⟩, rfl⟩ := hw1; clear hlc hlf hNL NL; obtain ⟨N1, hN1, hc1, hf1, hs1⟩ := bcell hb1; (try simp only [World.size_alloc, World.size_setCell, World.size_drew] at hN1))
      have hcA := hc1
      go_wp2
      refine wp_region_later_tail 13 (by kernel_rfl) (by kernel_rfl) fun NL hL => ?_; obtain ⟨hNL, hlc, hlf⟩ := hL; (try simp only [World.size_alloc, World.size_setCell, World.size_drew] at hNL); simp only [List.take_succ_cons, List.take_zero, List.drop_succ_cons, List.drop_zero]
      repeat (go_big_quiet_step (first | (with_reducible exact later_call (Hcda.out _)) | (with_reducible exact later_call (Hcsa.out _)) | (with_reducible exact later_call (Hcpa.out _))))
      (refine wpQuiet_nil ?_; intro w1 hw1; obtain ⟨⟨w1, hb1⟩, rfl⟩ := hw1; clear hlc hlf hNL NL; obtain ⟨N1, hN1, hc1, hf1, hs1⟩ := bcell hb1; (try simp only [World.size_alloc, World.size_setCell, World.size_drew] at hN1))
      have hcB := hc1
      go_wp2
      refine wp_region_later_tail 13 (by kernel_rfl) (by kernel_rfl) fun NL hL => ?_; obtain ⟨hNL, hlc, hlf⟩ := hL; (try simp only [World.size_alloc, World.size_setCell, World.size_drew] at hNL); simp only [List.take_succ_cons, List.take_zero, List.drop_succ_cons, List.drop_zero]
      repeat (go_big_quiet_step (first | (with_reducible exact later_call (Hcdb.out _)) | (with_reducible exact later_call (Hcsb.out _)) | (with_reducible exact later_call (Hcpb.out _))))
      (refine wpQuiet_nil ?_; intro w1 hw1; obtain ⟨⟨w1, hb1⟩, rfl⟩ := hw1; clear hlc hlf hNL NL; obtain ⟨N1, hN1, hc1, hf1, hs1⟩ := bcell hb1; (try simp only [World.size_alloc, World.size_setCell, World.size_drew] at hN1))
      have hcC := hc1
      go_wp2
      refine wp_region_later_tail 4 (by kernel_rfl) (by kernel_rfl) fun NL hL => ?_; obtain ⟨hNL, hlc, hlf⟩ := hL; (try simp only [World.size_alloc, World.size_setCell, World.size_drew] at hNL); simp only [List.take_succ_cons, List.take_zero, List.drop_succ_cons, List.drop_zero]
      repeat (go_big_quiet_step (first | (with_reducible exact later_call (Hcca.out _)) | (with_reducible exact later_call (Hccb.out _))))
      (refine wpQuiet_nil ?_; intro w1 hw1; obtain ⟨⟨w1, hb1⟩, rfl⟩ := hw1; clear hlc hlf hNL NL; obtain ⟨N1, hN1, hc1, hf1, hs1⟩ := bcell hb1; (try simp only [World.size_alloc, World.size_setCell, World.size_drew] at hN1))
      have hcD := hc1
      go_wp2
      refine bodyPost_ret (v := .tuple #[.agg #[.int .i64 (clm (px - D1) (-1048576) 1048576), .int .i64 (clm (py - D2) (-1048576) 1048576), .int .i64 (clm vx (-16384) 16384), .int .i64 (clm vy (-16384) 16384), .int .i64 am], .agg #[.int .i64 (clm (qx + E1) (-1048576) 1048576), .int .i64 (clm (qy + E2) (-1048576) 1048576), .int .i64 (clm ux (-16384) 16384), .int .i64 (clm uy (-16384) 16384), .int .i64 bm]]) (by simp [results, Try.results20, go_sem, hst, hcA, hcB, hcC, hcD, alloc_if, ↓IntWalk.iteOmega]) rfl ⟨rfl, ?_⟩
      (repeat (first | (with_reducible exact Below.refl _ _) | (with_reducible refine Below.drew ?_) | (with_reducible refine below_drewN ?_ _) | (with_reducible refine Below.setCell ?_ (by first | (simp; done) | (simp; omega) | omega) _) | (with_reducible refine Below.alloc ?_ (by first | (simp; done) | (simp; omega) | omega) _) | (with_reducible refine Below.trans ?_ (Below.mono (by assumption) (by first | (simp; done) | (simp; omega) | omega)))))
end Go.Proofs.Ytpbcagckikindaa.Re
