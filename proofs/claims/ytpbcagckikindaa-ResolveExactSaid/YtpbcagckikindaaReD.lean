/-
  The contract of Resolve: the motions that it returns.
  Conditions: the masses' sum is not 0; the numbers fit.
-/
import Derived.Test.YtpbcagckikindaaReC
import Derived.RegionTactic
import Derived.BigRegion
namespace Go.Proofs.Ytpbcagckikindaa.Re
open Go.RowKit Go.Proofs.Ytpbcagckikindaa.FxMath Go.Proofs.Ytpbcagckikindaa.FxA Go.Proofs.Ytpbcagckikindaa.Qt Go.Proofs.Ytpbcagckikindaa.Ve
set_option linter.unusedVariables false
set_option linter.unusedSimpArgs false

theorem fdv_bd {a A : Int} (h0 : -A ≤ a) (h1 : a ≤ A) : -A - 1 ≤ fdv a 1024 ∧ fdv a 1024 ≤ A := by
  have := fdv_le a 1024
  omega
set_option maxHeartbeats 4000000 in
theorem resolve_neg (px py vx vy am qx qy ux uy bm nx ny d e vn j ja jb da db : Int) (w : World) (hm : ((am + bm) == 0) = false) (hm2 : -1000000 ≤ am + bm) (hm3 : am + bm ≤ 1000000) (hv : vn < 0) (hv2 : -1099511627776 ≤ vn) (hv3 : vn ≤ 1099511627776) (he : 0 ≤ e) (he2 : e ≤ 1099511627776)
    (nx0 : -1024 ≤ nx) (nx1 : nx ≤ 1024) (ny0 : -1024 ≤ ny) (ny1 : ny ≤ 1024) (ja0 : -1099511627776 ≤ ja) (ja1 : ja ≤ 1099511627776) (jb0 : -1099511627776 ≤ jb) (jb1 : jb ≤ 1099511627776) (da0 : -1099511627776 ≤ da) (da1 : da ≤ 1099511627776) (db0 : -1099511627776 ≤ db) (db1 : db ≤ 1099511627776)
    (px0 : -1099511627776 ≤ px) (px1 : px ≤ 1099511627776) (py0 : -1099511627776 ≤ py) (py1 : py ≤ 1099511627776) (vx0 : -1099511627776 ≤ vx) (vx1 : vx ≤ 1099511627776) (vy0 : -1099511627776 ≤ vy) (vy1 : vy ≤ 1099511627776) (qx0 : -1099511627776 ≤ qx) (qx1 : qx ≤ 1099511627776) (qy0 : -1099511627776 ≤ qy) (qy1 : qy ≤ 1099511627776) (ux0 : -1099511627776 ≤ ux) (ux1 : ux ≤ 1099511627776) (uy0 : -1099511627776 ≤ uy) (uy1 : uy ≤ 1099511627776)
    (HS : Hid (Gives Try.prog 23 #[.agg #[.int .i64 ux, .int .i64 uy], .agg #[.int .i64 vx, .int .i64 vy]] (.agg #[.int .i64 (ux - vx), .int .i64 (uy - vy)]))) (HD : Hid (Gives Try.prog 22 #[.agg #[.int .i64 (ux - vx), .int .i64 (uy - vy)], .agg #[.int .i64 nx, .int .i64 ny]] (.int .i64 vn)))
    (HJ : Hid (Gives Try.prog 48 #[.int .i64 (-vn), .int .i64 (1024 + e), .int .i64 (am + bm)] (.int .i64 j))) (HA : Hid (Gives Try.prog 41 #[.int .i64 j, .int .i64 am] (.int .i64 ja))) (HB : Hid (Gives Try.prog 41 #[.int .i64 j, .int .i64 bm] (.int .i64 jb)))
    (HDa : Hid (Gives Try.prog 48 #[.int .i64 d, .int .i64 am, .int .i64 (am + bm)] (.int .i64 da))) (HDb : Hid (Gives Try.prog 48 #[.int .i64 d, .int .i64 bm, .int .i64 (am + bm)] (.int .i64 db))) :
    Calls Try.prog 19 #[.agg #[.int .i64 px, .int .i64 py, .int .i64 vx, .int .i64 vy, .int .i64 am], .agg #[.int .i64 qx, .int .i64 qy, .int .i64 ux, .int .i64 uy, .int .i64 bm], .agg #[.int .i64 nx, .int .i64 ny, .int .i64 d], .int .i64 e] w fun e' w' => e' = .returned (.tuple #[.agg #[.int .i64 (clm (px - fdv (nx * da) 1024) (-1048576) 1048576), .int .i64 (clm (py - fdv (ny * da) 1024) (-1048576) 1048576), .int .i64 (clm (vx - fdv (nx * ja) 1024) (-16384) 16384), .int .i64 (clm (vy - fdv (ny * ja) 1024) (-16384) 16384), .int .i64 am], .agg #[.int .i64 (clm (qx + fdv (nx * db) 1024) (-1048576) 1048576), .int .i64 (clm (qy + fdv (ny * db) 1024) (-1048576) 1048576), .int .i64 (clm (ux + fdv (nx * jb) 1024) (-16384) 16384), .int .i64 (clm (uy + fdv (ny * jb) 1024) (-16384) 16384), .int .i64 bm]]) ∧ Below w.heap.size w w' := by
  have hal := alloc_if; have hfal := allocF_if
  have mnxja := mul_bd (a := nx) (b := ja) (A := 1024) (B := 1099511627776) (by omega) (by omega) ja0 ja1
  have fnxja := fdv_bd mnxja.1 mnxja.2
  have mnyja := mul_bd (a := ny) (b := ja) (A := 1024) (B := 1099511627776) (by omega) (by omega) ja0 ja1
  have fnyja := fdv_bd mnyja.1 mnyja.2
  have mnxjb := mul_bd (a := nx) (b := jb) (A := 1024) (B := 1099511627776) (by omega) (by omega) jb0 jb1
  have fnxjb := fdv_bd mnxjb.1 mnxjb.2
  have mnyjb := mul_bd (a := ny) (b := jb) (A := 1024) (B := 1099511627776) (by omega) (by omega) jb0 jb1
  have fnyjb := fdv_bd mnyjb.1 mnyjb.2
  have mnxda := mul_bd (a := nx) (b := da) (A := 1024) (B := 1099511627776) (by omega) (by omega) da0 da1
  have fnxda := fdv_bd mnxda.1 mnxda.2
  have mnyda := mul_bd (a := ny) (b := da) (A := 1024) (B := 1099511627776) (by omega) (by omega) da0 da1
  have fnyda := fdv_bd mnyda.1 mnyda.2
  have mnxdb := mul_bd (a := nx) (b := db) (A := 1024) (B := 1099511627776) (by omega) (by omega) db0 db1
  have fnxdb := fdv_bd mnxdb.1 mnxdb.2
  have mnydb := mul_bd (a := ny) (b := db) (A := 1024) (B := 1099511627776) (by omega) (by omega) db0 db1
  have fnydb := fdv_bd mnydb.1 mnydb.2
  have C1 := fun (W : World) (b1 b2 r1 r2 c ka kb : Nat) (st : St w W b1 b2 r1 r2 c ka kb (px) (py) (vx) (vy) (am) (qx) (qy) (ux) (uy) (bm) nx ny d vx vy ux uy) => Lib.hid (change_slowDown b1 c (px) (py) (vx) (vy) am nx ny ja W st.b1_0 st.b1_1 st.b1_2 st.b1_3 st.b1_4 st.b1_f st.c_0 st.c_1 (by omega) (by omega) (by omega) (by omega) (by omega) (by omega) (by omega) (by omega))
  have C1H := Lib.hid C1
  clear C1
  have C2 := fun (W : World) (b1 b2 r1 r2 c ka kb : Nat) (st : St w W b1 b2 r1 r2 c ka kb (px) (py) (vx - fdv (nx * ja) 1024) (vy - fdv (ny * ja) 1024) (am) (qx) (qy) (ux) (uy) (bm) nx ny d vx vy ux uy) => Lib.hid (change_speedUp b2 c (qx) (qy) (ux) (uy) bm nx ny jb W st.b2_0 st.b2_1 st.b2_2 st.b2_3 st.b2_4 st.b2_f st.c_0 st.c_1 (by omega) (by omega) (by omega) (by omega) (by omega) (by omega) (by omega) (by omega))
  have C2H := Lib.hid C2
  clear C2
  have C3 := fun (W : World) (b1 b2 r1 r2 c ka kb : Nat) (st : St w W b1 b2 r1 r2 c ka kb (px) (py) (vx - fdv (nx * ja) 1024) (vy - fdv (ny * ja) 1024) (am) (qx) (qy) (ux + fdv (nx * jb) 1024) (uy + fdv (ny * jb) 1024) (bm) nx ny d vx vy ux uy) => Lib.hid (change_retreat b1 c (px) (py) (vx - fdv (nx * ja) 1024) (vy - fdv (ny * ja) 1024) am nx ny da W st.b1_0 st.b1_1 st.b1_2 st.b1_3 st.b1_4 st.b1_f st.c_0 st.c_1 (by omega) (by omega) (by omega) (by omega) (by omega) (by omega) (by omega) (by omega))
  have C3H := Lib.hid C3
  clear C3
  have C4 := fun (W : World) (b1 b2 r1 r2 c ka kb : Nat) (st : St w W b1 b2 r1 r2 c ka kb (px - fdv (nx * da) 1024) (py - fdv (ny * da) 1024) (vx - fdv (nx * ja) 1024) (vy - fdv (ny * ja) 1024) (am) (qx) (qy) (ux + fdv (nx * jb) 1024) (uy + fdv (ny * jb) 1024) (bm) nx ny d vx vy ux uy) => Lib.hid (change_advance b2 c (qx) (qy) (ux + fdv (nx * jb) 1024) (uy + fdv (ny * jb) 1024) bm nx ny db W st.b2_0 st.b2_1 st.b2_2 st.b2_3 st.b2_4 st.b2_f st.c_0 st.c_1 (by omega) (by omega) (by omega) (by omega) (by omega) (by omega) (by omega) (by omega))
  have C4H := Lib.hid C4
  clear C4
  clear mnxja fnxja mnyja fnyja mnxjb fnxjb mnyjb fnyjb mnxda fnxda mnyda fnyda mnxdb fnxdb mnydb fnydb px0 px1 py0 py1 vx0 vx1 vy0 vy1 qx0 qx1 qy0 qy1 ux0 ux1 uy0 uy1 nx0 nx1 ny0 ny1 ja0 ja1 jb0 jb1 da0 da1 db0 db1
  go_enter Try.func19, Try.ntmps19
  go_wp2
  go_region
  all_goals go_wp2
  · refine (fun (key : ∀ W : World, St w W (w.heap.size + 1 + 1 + 1 + 1 + 1) (w.heap.size + 1 + 1 + 1 + 1 + 1 + 1) (w.heap.size + 1 + 1 + 1) (w.heap.size + 1 + 1 + 1 + 1) (w.heap.size + 1 + 1) w.heap.size (w.heap.size + 1) px py vx vy am qx qy ux uy bm nx ny d vx vy ux uy → Code.wp _ _ _ _ W) (pf : St w _ (w.heap.size + 1 + 1 + 1 + 1 + 1) (w.heap.size + 1 + 1 + 1 + 1 + 1 + 1) (w.heap.size + 1 + 1 + 1) (w.heap.size + 1 + 1 + 1 + 1) (w.heap.size + 1 + 1) w.heap.size (w.heap.size + 1) px py vx vy am qx qy ux uy bm nx ny d vx vy ux uy) => key _ pf) ?_ ?_
    · intro W st
      clear hal hfal
      have s_ka_2 := st.ka_2; have s_ka_3 := st.ka_3; have s_kb_2 := st.kb_2; have s_kb_3 := st.kb_3; have s_c_0 := st.c_0; have s_c_1 := st.c_1
      refine wp_region_later (by kernel_rfl) (by kernel_rfl) fun NL hL => ?_
      have k2 : ∀ x : Later W, x.out.cell? ⟨w.heap.size, 2, none⟩ = some (.int .i64 vx) := fun x => later_cell x s_ka_2
      have k3 : ∀ x : Later W, x.out.cell? ⟨w.heap.size, 3, none⟩ = some (.int .i64 vy) := fun x => later_cell x s_ka_3
      have k4 : ∀ x : Later W, x.out.cell? ⟨w.heap.size + 1, 2, none⟩ = some (.int .i64 ux) := fun x => later_cell x s_kb_2
      have k5 : ∀ x : Later W, x.out.cell? ⟨w.heap.size + 1, 3, none⟩ = some (.int .i64 uy) := fun x => later_cell x s_kb_3
      have k6 : ∀ x : Later W, x.out.cell? ⟨w.heap.size + 1 + 1, 0, none⟩ = some (.int .i64 nx) := fun x => later_cell x s_c_0
      have k7 : ∀ x : Later W, x.out.cell? ⟨w.heap.size + 1 + 1, 1, none⟩ = some (.int .i64 ny) := fun x => later_cell x s_c_1
      clear hL s_ka_2 s_ka_3 s_kb_2 s_kb_3 s_c_0 s_c_1
      repeat (go_big_quiet_step (first | (with_reducible exact later_call (HS.out _)) | (with_reducible exact later_call (HD.out _))))
      clear k2 k3 k4 k5 k6 k7
      refine wpQuiet_nil ?_
      intro w1 hw1
      obtain ⟨⟨w1, hb1⟩, rfl⟩ := hw1
      have st := st.later hb1
      have s_ka_4 := st.ka_4; have s_kb_4 := st.kb_4; have s_c_2 := st.c_2
      go_wp2_with (first | ((with_reducible refine (HJ.out _).mono ?_); rintro e1 w1 ⟨rfl, hb1⟩; clear s_ka_4 s_kb_4 s_c_2; have st := st.later hb1; have s_ka_4 := st.ka_4; have s_kb_4 := st.kb_4; have s_c_2 := st.c_2) | ((with_reducible refine (HA.out _).mono ?_); rintro e1 w1 ⟨rfl, hb1⟩; clear s_ka_4 s_kb_4 s_c_2; have st := st.later hb1; have s_ka_4 := st.ka_4; have s_kb_4 := st.kb_4; have s_c_2 := st.c_2) | ((with_reducible refine (HB.out _).mono ?_); rintro e1 w1 ⟨rfl, hb1⟩; clear s_ka_4 s_kb_4 s_c_2; have st := st.later hb1; have s_ka_4 := st.ka_4; have s_kb_4 := st.kb_4; have s_c_2 := st.c_2) | ((with_reducible refine (HDa.out _).mono ?_); rintro e1 w1 ⟨rfl, hb1⟩; clear s_ka_4 s_kb_4 s_c_2; have st := st.later hb1; have s_ka_4 := st.ka_4; have s_kb_4 := st.kb_4; have s_c_2 := st.c_2) | ((with_reducible refine (HDb.out _).mono ?_); rintro e1 w1 ⟨rfl, hb1⟩; clear s_ka_4 s_kb_4 s_c_2; have st := st.later hb1; have s_ka_4 := st.ka_4; have s_kb_4 := st.kb_4; have s_c_2 := st.c_2) | ((with_reducible refine (C1H.out _ _ _ _ _ _ _ _ st).out.mono ?_); rintro e1 w1 ⟨rfl, hu⟩; clear s_ka_4 s_kb_4 s_c_2; have st := st.upd1 hu; have s_ka_4 := st.ka_4; have s_kb_4 := st.kb_4; have s_c_2 := st.c_2) | ((with_reducible refine (C2H.out _ _ _ _ _ _ _ _ st).out.mono ?_); rintro e1 w1 ⟨rfl, hu⟩; clear s_ka_4 s_kb_4 s_c_2; have st := st.upd2 hu; have s_ka_4 := st.ka_4; have s_kb_4 := st.kb_4; have s_c_2 := st.c_2) | ((with_reducible refine (C3H.out _ _ _ _ _ _ _ _ st).out.mono ?_); rintro e1 w1 ⟨rfl, hu⟩; clear s_ka_4 s_kb_4 s_c_2; have st := st.upd1 hu; have s_ka_4 := st.ka_4; have s_kb_4 := st.kb_4; have s_c_2 := st.c_2) | ((with_reducible refine (C4H.out _ _ _ _ _ _ _ _ st).out.mono ?_); rintro e1 w1 ⟨rfl, hu⟩; clear s_ka_4 s_kb_4 s_c_2; have st := st.upd2 hu; have s_ka_4 := st.ka_4; have s_kb_4 := st.kb_4; have s_c_2 := st.c_2) | ((with_reducible refine (limited_any _ _ _ _ _ _ _ st.b1_0 st.b1_1 st.b1_2 st.b1_3 st.b1_4).mono ?_); rintro e1 w1 ⟨rfl, hb1⟩; clear s_ka_4 s_kb_4 s_c_2; have st := st.later hb1; have s_ka_4 := st.ka_4; have s_kb_4 := st.kb_4; have s_c_2 := st.c_2) | ((with_reducible refine (limited_any _ _ _ _ _ _ _ st.b2_0 st.b2_1 st.b2_2 st.b2_3 st.b2_4).mono ?_); rintro e1 w1 ⟨rfl, hb1⟩; clear s_ka_4 s_kb_4 s_c_2; have st := st.later hb1; have s_r1_0 := st.r1_0; have s_r1_1 := st.r1_1; have s_r1_2 := st.r1_2; have s_r1_3 := st.r1_3; have s_r1_4 := st.r1_4; have s_r2_0 := st.r2_0; have s_r2_1 := st.r2_1; have s_r2_2 := st.r2_2; have s_r2_3 := st.r2_3; have s_r2_4 := st.r2_4; have s_r1_f := st.r1_f; have s_r2_f := st.r2_f; have hst := setCell_if))
      have hw2 := st.below
      refine bodyPost_ret (v := .tuple #[.agg #[.int .i64 (clm (px - fdv (nx * da) 1024) (-1048576) 1048576), .int .i64 (clm (py - fdv (ny * da) 1024) (-1048576) 1048576), .int .i64 (clm (vx - fdv (nx * ja) 1024) (-16384) 16384), .int .i64 (clm (vy - fdv (ny * ja) 1024) (-16384) 16384), .int .i64 am], .agg #[.int .i64 (clm (qx + fdv (nx * db) 1024) (-1048576) 1048576), .int .i64 (clm (qy + fdv (ny * db) 1024) (-1048576) 1048576), .int .i64 (clm (ux + fdv (nx * jb) 1024) (-16384) 16384), .int .i64 (clm (uy + fdv (ny * jb) 1024) (-16384) 16384), .int .i64 bm]]) (by simp [results, Try.results19, go_sem, setCell_if, s_r1_0, s_r1_1, s_r1_2, s_r1_3, s_r1_4, s_r2_0, s_r2_1, s_r2_2, s_r2_3, s_r2_4]) rfl ⟨rfl, ?_⟩
      repeat (refine Below.setCell ?_ (by simp; omega) _)
      exact hw2
    · apply St.mk
      case below => (repeat (first | exact Below.refl _ _ | (with_reducible refine Below.drew ?_) | (with_reducible refine below_drewN ?_ _) | (with_reducible refine Below.setCell ?_ (by first | (simp; done) | (simp; omega) | omega) _) | (with_reducible refine Below.alloc ?_ (by first | (simp; done) | (simp; omega) | omega) _) | (with_reducible refine Below.trans ?_ (Below.mono (by assumption) (by first | (simp; done) | (simp; omega) | omega)))))
      all_goals first | omega | (simp [alloc_if, allocF_if, ↓IntWalk.iteOmega]; done)
  · refine (fun (key : ∀ W : World, St w W (w.heap.size + 1 + 1 + 1 + 1 + 1 + 1) (w.heap.size + 1 + 1 + 1 + 1 + 1) (w.heap.size + 1 + 1 + 1) (w.heap.size + 1 + 1 + 1 + 1) (w.heap.size + 1 + 1) w.heap.size (w.heap.size + 1) px py vx vy am qx qy ux uy bm nx ny d vx vy ux uy → Code.wp _ _ _ _ W) (pf : St w _ (w.heap.size + 1 + 1 + 1 + 1 + 1 + 1) (w.heap.size + 1 + 1 + 1 + 1 + 1) (w.heap.size + 1 + 1 + 1) (w.heap.size + 1 + 1 + 1 + 1) (w.heap.size + 1 + 1) w.heap.size (w.heap.size + 1) px py vx vy am qx qy ux uy bm nx ny d vx vy ux uy) => key _ pf) ?_ ?_
    · intro W st
      clear hal hfal
      have s_ka_2 := st.ka_2; have s_ka_3 := st.ka_3; have s_kb_2 := st.kb_2; have s_kb_3 := st.kb_3; have s_c_0 := st.c_0; have s_c_1 := st.c_1
      refine wp_region_later (by kernel_rfl) (by kernel_rfl) fun NL hL => ?_
      have k2 : ∀ x : Later W, x.out.cell? ⟨w.heap.size, 2, none⟩ = some (.int .i64 vx) := fun x => later_cell x s_ka_2
      have k3 : ∀ x : Later W, x.out.cell? ⟨w.heap.size, 3, none⟩ = some (.int .i64 vy) := fun x => later_cell x s_ka_3
      have k4 : ∀ x : Later W, x.out.cell? ⟨w.heap.size + 1, 2, none⟩ = some (.int .i64 ux) := fun x => later_cell x s_kb_2
      have k5 : ∀ x : Later W, x.out.cell? ⟨w.heap.size + 1, 3, none⟩ = some (.int .i64 uy) := fun x => later_cell x s_kb_3
      have k6 : ∀ x : Later W, x.out.cell? ⟨w.heap.size + 1 + 1, 0, none⟩ = some (.int .i64 nx) := fun x => later_cell x s_c_0
      have k7 : ∀ x : Later W, x.out.cell? ⟨w.heap.size + 1 + 1, 1, none⟩ = some (.int .i64 ny) := fun x => later_cell x s_c_1
      clear hL s_ka_2 s_ka_3 s_kb_2 s_kb_3 s_c_0 s_c_1
      repeat (go_big_quiet_step (first | (with_reducible exact later_call (HS.out _)) | (with_reducible exact later_call (HD.out _))))
      clear k2 k3 k4 k5 k6 k7
      refine wpQuiet_nil ?_
      intro w1 hw1
      obtain ⟨⟨w1, hb1⟩, rfl⟩ := hw1
      have st := st.later hb1
      have s_ka_4 := st.ka_4; have s_kb_4 := st.kb_4; have s_c_2 := st.c_2
      go_wp2_with (first | ((with_reducible refine (HJ.out _).mono ?_); rintro e1 w1 ⟨rfl, hb1⟩; clear s_ka_4 s_kb_4 s_c_2; have st := st.later hb1; have s_ka_4 := st.ka_4; have s_kb_4 := st.kb_4; have s_c_2 := st.c_2) | ((with_reducible refine (HA.out _).mono ?_); rintro e1 w1 ⟨rfl, hb1⟩; clear s_ka_4 s_kb_4 s_c_2; have st := st.later hb1; have s_ka_4 := st.ka_4; have s_kb_4 := st.kb_4; have s_c_2 := st.c_2) | ((with_reducible refine (HB.out _).mono ?_); rintro e1 w1 ⟨rfl, hb1⟩; clear s_ka_4 s_kb_4 s_c_2; have st := st.later hb1; have s_ka_4 := st.ka_4; have s_kb_4 := st.kb_4; have s_c_2 := st.c_2) | ((with_reducible refine (HDa.out _).mono ?_); rintro e1 w1 ⟨rfl, hb1⟩; clear s_ka_4 s_kb_4 s_c_2; have st := st.later hb1; have s_ka_4 := st.ka_4; have s_kb_4 := st.kb_4; have s_c_2 := st.c_2) | ((with_reducible refine (HDb.out _).mono ?_); rintro e1 w1 ⟨rfl, hb1⟩; clear s_ka_4 s_kb_4 s_c_2; have st := st.later hb1; have s_ka_4 := st.ka_4; have s_kb_4 := st.kb_4; have s_c_2 := st.c_2) | ((with_reducible refine (C1H.out _ _ _ _ _ _ _ _ st).out.mono ?_); rintro e1 w1 ⟨rfl, hu⟩; clear s_ka_4 s_kb_4 s_c_2; have st := st.upd1 hu; have s_ka_4 := st.ka_4; have s_kb_4 := st.kb_4; have s_c_2 := st.c_2) | ((with_reducible refine (C2H.out _ _ _ _ _ _ _ _ st).out.mono ?_); rintro e1 w1 ⟨rfl, hu⟩; clear s_ka_4 s_kb_4 s_c_2; have st := st.upd2 hu; have s_ka_4 := st.ka_4; have s_kb_4 := st.kb_4; have s_c_2 := st.c_2) | ((with_reducible refine (C3H.out _ _ _ _ _ _ _ _ st).out.mono ?_); rintro e1 w1 ⟨rfl, hu⟩; clear s_ka_4 s_kb_4 s_c_2; have st := st.upd1 hu; have s_ka_4 := st.ka_4; have s_kb_4 := st.kb_4; have s_c_2 := st.c_2) | ((with_reducible refine (C4H.out _ _ _ _ _ _ _ _ st).out.mono ?_); rintro e1 w1 ⟨rfl, hu⟩; clear s_ka_4 s_kb_4 s_c_2; have st := st.upd2 hu; have s_ka_4 := st.ka_4; have s_kb_4 := st.kb_4; have s_c_2 := st.c_2) | ((with_reducible refine (limited_any _ _ _ _ _ _ _ st.b1_0 st.b1_1 st.b1_2 st.b1_3 st.b1_4).mono ?_); rintro e1 w1 ⟨rfl, hb1⟩; clear s_ka_4 s_kb_4 s_c_2; have st := st.later hb1; have s_ka_4 := st.ka_4; have s_kb_4 := st.kb_4; have s_c_2 := st.c_2) | ((with_reducible refine (limited_any _ _ _ _ _ _ _ st.b2_0 st.b2_1 st.b2_2 st.b2_3 st.b2_4).mono ?_); rintro e1 w1 ⟨rfl, hb1⟩; clear s_ka_4 s_kb_4 s_c_2; have st := st.later hb1; have s_r1_0 := st.r1_0; have s_r1_1 := st.r1_1; have s_r1_2 := st.r1_2; have s_r1_3 := st.r1_3; have s_r1_4 := st.r1_4; have s_r2_0 := st.r2_0; have s_r2_1 := st.r2_1; have s_r2_2 := st.r2_2; have s_r2_3 := st.r2_3; have s_r2_4 := st.r2_4; have s_r1_f := st.r1_f; have s_r2_f := st.r2_f; have hst := setCell_if))
      have hw2 := st.below
      refine bodyPost_ret (v := .tuple #[.agg #[.int .i64 (clm (px - fdv (nx * da) 1024) (-1048576) 1048576), .int .i64 (clm (py - fdv (ny * da) 1024) (-1048576) 1048576), .int .i64 (clm (vx - fdv (nx * ja) 1024) (-16384) 16384), .int .i64 (clm (vy - fdv (ny * ja) 1024) (-16384) 16384), .int .i64 am], .agg #[.int .i64 (clm (qx + fdv (nx * db) 1024) (-1048576) 1048576), .int .i64 (clm (qy + fdv (ny * db) 1024) (-1048576) 1048576), .int .i64 (clm (ux + fdv (nx * jb) 1024) (-16384) 16384), .int .i64 (clm (uy + fdv (ny * jb) 1024) (-16384) 16384), .int .i64 bm]]) (by simp [results, Try.results19, go_sem, setCell_if, s_r1_0, s_r1_1, s_r1_2, s_r1_3, s_r1_4, s_r2_0, s_r2_1, s_r2_2, s_r2_3, s_r2_4]) rfl ⟨rfl, ?_⟩
      repeat (refine Below.setCell ?_ (by simp; omega) _)
      exact hw2
    · apply St.mk
      case below => (repeat (first | exact Below.refl _ _ | (with_reducible refine Below.drew ?_) | (with_reducible refine below_drewN ?_ _) | (with_reducible refine Below.setCell ?_ (by first | (simp; done) | (simp; omega) | omega) _) | (with_reducible refine Below.alloc ?_ (by first | (simp; done) | (simp; omega) | omega) _) | (with_reducible refine Below.trans ?_ (Below.mono (by assumption) (by first | (simp; done) | (simp; omega) | omega)))))
      all_goals first | omega | (simp [alloc_if, allocF_if, ↓IntWalk.iteOmega]; done)
end Go.Proofs.Ytpbcagckikindaa.Re
