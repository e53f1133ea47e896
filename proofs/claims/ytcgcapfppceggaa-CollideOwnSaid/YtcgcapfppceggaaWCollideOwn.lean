/-
  The walk of the law CollideOwn: it returns true at every input.
  Conditions: none.
-/
import Derived.Test.YtcgcapfppceggaaCoE
import Derived.Test.YtcgcapfppceggaaCoI
import Derived.Test.YtcgcapfppceggaaCoL
import Derived.Test.YtcgcapfppceggaaShN
import Derived.Test.YtcgcapfppceggaaQe
import Derived.Deep.Cut
import Derived.Deep.CutRange
import Derived.Deep.DeepCutAuto
import Derived.Deep.RegionHeld3
namespace Go.Proofs.Ytcgcapfppceggaa.W
open Go.RowKit Go.Proofs.Ytcgcapfppceggaa.FxMath Go.Proofs.Ytcgcapfppceggaa.FxA Go.Proofs.Ytcgcapfppceggaa.Qt Go.Proofs.Ytcgcapfppceggaa.Ve Go.Proofs.Ytcgcapfppceggaa.Sh Go.Proofs.Ytcgcapfppceggaa.Co
set_option linter.unusedVariables false
set_option linter.unusedSimpArgs false
theorem axs_len {w : World} {ra : Int} {aa : Option Addr} {la ca : Nat} {za : List (Int × Int)} {rb : Int} {ab : Option Addr} {lb cb : Nat} {zb : List (Int × Int)} (hA : ShAt w ra aa la ca za) (hB : ShAt w rb ab lb cb zb) (dx dy : Int) : (axs za zb dx dy).length ≤ 1000 := by
  have e1 := hA.poly.len
  have e2 := hB.poly.len
  have l1 : la ≤ 6 := by rcases hA.kind with ⟨h, _⟩ | ⟨_, _, h, _⟩ <;> omega
  have l2 : lb ≤ 6 := by rcases hB.kind with ⟨h, _⟩ | ⟨_, _, h, _⟩ <;> omega
  have l3 : (cax za zb dx dy).length ≤ 1 := by unfold cax; split <;> split <;> simp
  unfold axs eax
  simp only [List.length_append, List.length_map, List.length_range]
  omega
set_option maxRecDepth 100000 in
set_option maxHeartbeats 4000000 in
theorem CollideOwn_walk (a0 a1 a2a a2b a2c a2d : Int) (w : World) (w0 : (Lit.int .i64 a0).wf = true) (w1 : (Lit.int .i64 a1).wf = true) (w2a : (Lit.int .i64 a2a).wf = true) (w2b : (Lit.int .i64 a2b).wf = true) (w2c : (Lit.int .i64 a2c).wf = true) (w2d : (Lit.int .i64 a2d).wf = true) :
    Calls Try.prog 9 #[.int .i64 a0, .int .i64 a1, .agg #[.int .i64 a2a, .int .i64 a2b, .int .i64 a2c, .int .i64 a2d]] w fun e w' => e = .returned (.bool true) ∧ Below w.heap.size w w' := by
  have cs0 := fun W => shape_any a0 W w0
  have cs1 := fun W => shape_any a1 W w1
  obtain ⟨la, hla⟩ : ∃ L, L = (shZ a0).length := ⟨_, rfl⟩
  obtain ⟨lb, hlb⟩ : ∃ L, L = (shZ a1).length := ⟨_, rfl⟩
  rw [← hla] at cs0
  rw [← hlb] at cs1
  generalize shR a0 = ra at *
  generalize shZ a0 = za at *
  generalize shR a1 = rb at *
  generalize shZ a1 = zb at *
  have lv := lives05
  have Hcs0 := Lib.hid cs0; have Hcs1 := Lib.hid cs1; have Hhla := Lib.hid hla; have Hhlb := Lib.hid hlb; have Hlv := Lib.hid lv; clear cs0 cs1 hla hlb lv
  have hal := alloc_if; have hfal := allocF_if
  go_enter Try.func9, Try.ntmps9
  go_upto_region 3 with (first | ((with_reducible refine (Hcs0.out _).mono ?_); rintro e WA ⟨aa, ca, rfl, hA, hbA, hxA⟩; obtain ⟨NA, hNA, hcA, hfA, hsA⟩ := bcell hbA; (try simp only [World.size_alloc, World.size_setCell, World.size_drew] at hNA)) | ((with_reducible refine (Hcs1.out _).mono ?_); rintro e WB ⟨ab, cb, rfl, hB, hbB, hxB⟩; obtain ⟨NB, hNB, hcB, hfB, hsB⟩ := bcell hbB; (try simp only [World.size_alloc, World.size_setCell, World.size_drew] at hNB)))
  have hA2 : ShAt WB ra aa la ca za := hA.later (by (repeat (first | (with_reducible exact Below.refl _ _) | (with_reducible refine Below.drew ?_) | (with_reducible refine below_drewN ?_ _) | (with_reducible refine Below.setCell ?_ (by first | (simp; done) | (simp; omega) | omega) _) | (with_reducible refine Below.alloc ?_ (by first | (simp; done) | (simp; omega) | omega) _) | (with_reducible refine Below.trans ?_ (Below.mono (by assumption) (by first | (simp; done) | (simp; omega) | omega))) | (with_reducible refine Below.trans ?_ (Below.mono (Later.below _) (by first | (simp; done) | (simp; omega) | omega))))))
  have cp := place_s hA2 hB a2a a2b a2c a2d w2a w2b w2c w2d
  have Hcp := Lib.hid cp; clear cp
  go_upto_region 4 with (((with_reducible refine (Hcp.out _ (by (repeat (first | (with_reducible exact Below.refl _ _) | (with_reducible refine Below.drew ?_) | (with_reducible refine below_drewN ?_ _) | (with_reducible refine Below.setCell ?_ (by first | (simp; done) | (simp; omega) | omega) _) | (with_reducible refine Below.alloc ?_ (by first | (simp; done) | (simp; omega) | omega) _) | (with_reducible refine Below.trans ?_ (Below.mono (by assumption) (by first | (simp; done) | (simp; omega) | omega))) | (with_reducible refine Below.trans ?_ (Below.mono (Later.below _) (by first | (simp; done) | (simp; omega) | omega))))))).mono ?_); rintro e wP ⟨⟨px, py, qx, qy, rfl, hp, hq⟩, hbP⟩; obtain ⟨NP, hNP, hcP, hfP, hsP⟩ := bcell hbP; (try simp only [World.size_alloc, World.size_setCell, World.size_drew] at hNP)))
  refine name_world fun W8 hW8 => ?_
  have t0 : W8.cell? ⟨WA.heap.size, 0, none⟩ = some (.int .i64 ra) := by rw [hW8]; simp [hcP, hcB, hal, ↓IntWalk.iteOmega]
  have t1 : W8.cell? ⟨WA.heap.size, 1, none⟩ = some (.slice aa la ca) := by rw [hW8]; simp [hcP, hcB, hal, ↓IntWalk.iteOmega]
  have u0 : W8.cell? ⟨WB.heap.size, 0, none⟩ = some (.int .i64 rb) := by rw [hW8]; simp [hcP, hal, ↓IntWalk.iteOmega]
  have u1 : W8.cell? ⟨WB.heap.size, 1, none⟩ = some (.slice ab lb cb) := by rw [hW8]; simp [hcP, hal, ↓IntWalk.iteOmega]
  have p0 : W8.cell? ⟨wP.heap.size, 0, none⟩ = some (.int .i64 px) := by rw [hW8]; simp [hal, ↓IntWalk.iteOmega]
  have p1 : W8.cell? ⟨wP.heap.size, 1, none⟩ = some (.int .i64 py) := by rw [hW8]; simp [hal, ↓IntWalk.iteOmega]
  have q0 : W8.cell? ⟨wP.heap.size + 1, 0, none⟩ = some (.int .i64 qx) := by rw [hW8]; simp [hal, ↓IntWalk.iteOmega]
  have q1 : W8.cell? ⟨wP.heap.size + 1, 1, none⟩ = some (.int .i64 qy) := by rw [hW8]; simp [hal, ↓IntWalk.iteOmega]
  have hbW : Below w.heap.size w W8 := by rw [hW8]; (repeat (first | (with_reducible exact Below.refl _ _) | (with_reducible refine Below.drew ?_) | (with_reducible refine below_drewN ?_ _) | (with_reducible refine Below.setCell ?_ (by first | (simp; done) | (simp; omega) | omega) _) | (with_reducible refine Below.alloc ?_ (by first | (simp; done) | (simp; omega) | omega) _) | (with_reducible refine Below.trans ?_ (Below.mono (by assumption) (by first | (simp; done) | (simp; omega) | omega))) | (with_reducible refine Below.trans ?_ (Below.mono (Later.below _) (by first | (simp; done) | (simp; omega) | omega)))))
  have hbV : Below WB.heap.size WB W8 := by rw [hW8]; (repeat (first | (with_reducible exact Below.refl _ _) | (with_reducible refine Below.drew ?_) | (with_reducible refine below_drewN ?_ _) | (with_reducible refine Below.setCell ?_ (by first | (simp; done) | (simp; omega) | omega) _) | (with_reducible refine Below.alloc ?_ (by first | (simp; done) | (simp; omega) | omega) _) | (with_reducible refine Below.trans ?_ (Below.mono (by assumption) (by first | (simp; done) | (simp; omega) | omega))) | (with_reducible refine Below.trans ?_ (Below.mono (Later.below _) (by first | (simp; done) | (simp; omega) | omega)))))
  have gA : ShAt W8 ra aa la ca za := hA2.later hbV
  have gB : ShAt W8 rb ab lb cb zb := hB.later hbV
  have sw : w.heap.size ≤ W8.heap.size := hbW.size
  have l0 : WA.heap.size < W8.heap.size := World.block_lt_of_cell? _ _ t0
  have l1 : WB.heap.size < W8.heap.size := World.block_lt_of_cell? _ _ u0
  have l2 : wP.heap.size + 1 < W8.heap.size := World.block_lt_of_cell? _ _ q0
  obtain ⟨bA, hbA'⟩ : ∃ b, b = WA.heap.size := ⟨_, rfl⟩
  obtain ⟨bB, hbB'⟩ : ∃ b, b = WB.heap.size := ⟨_, rfl⟩
  obtain ⟨bP, hbP'⟩ : ∃ b, b = wP.heap.size := ⟨_, rfl⟩
  rw [← hbP'] at p0 p1 q0 q1 l2 ⊢
  rw [← hbB'] at u0 u1 l1 ⊢
  rw [← hbA'] at t0 t1 l0 ⊢
  clear hbA hbB hbP hcA hcB hcP hfA hfB hfP hA hB hA2 hxA hxB hW8 hsA hsB hsP hNA hNB hNP NA NB NP hbV hbA' hbB' hbP' Hcp
  clear wP WA WB
  have nn1 := axs_len gA gB (qx - px) (qy - py)
  have hnz : (axs za zb (qx - px) (qy - py)).length ≠ 0 := fun h => axs_ne za zb (qx - px) (qy - py) (List.eq_nil_of_length_eq_zero h)
  have la6 : la ≤ 1000 := by rcases gA.kind with ⟨h, _⟩ | ⟨_, _, h, _⟩ <;> omega
  have lb6 : lb ≤ 1000 := by rcases gB.kind with ⟨h, _⟩ | ⟨_, _, h, _⟩ <;> omega
  have ca1 := axes_s gA gB (px := px) (py := py) (qx := qx) (qy := qy) (by omega) (by omega)
  have cc1 := fun V (hV : Below W8.heap.size W8 V) => collide_at (gA.later hV) (gB.later hV) (px := px) (py := py) (qx := qx) (qy := qy) (by omega) (by omega)
  have gpA := gA.poly
  have gpB := gB.poly
  generalize axs za zb (qx - px) (qy - py) = L1 at *
  generalize cis ra za px py rb zb qx qy = i1 at *
  generalize cdp ra za px py rb zb qx qy = d1 at *
  generalize cnx ra za px py rb zb qx qy = x1 at *
  generalize cny ra za px py rb zb qx qy = y1 at *
  generalize hn : L1.length = n at *
  clear gA gB hp hq
  obtain ⟨i0, hii, hz0, hz1, hz2⟩ := info_parts Try.infoV
  have Hca1 := Lib.hid ca1; have Hcc1 := Lib.hid cc1; clear ca1 cc1
  go_upto_region 5 with (((with_reducible refine (Hca1.out _ (by (repeat (first | (with_reducible exact Below.refl _ _) | (with_reducible refine Below.drew ?_) | (with_reducible refine below_drewN ?_ _) | (with_reducible refine Below.setCell ?_ (by first | (simp; done) | (simp; omega) | omega) _) | (with_reducible refine Below.alloc ?_ (by first | (simp; done) | (simp; omega) | omega) _) | (with_reducible refine Below.trans ?_ (Below.mono (by assumption) (by first | (simp; done) | (simp; omega) | omega))) | (with_reducible refine Below.trans ?_ (Below.mono (Later.below _) (by first | (simp; done) | (simp; omega) | omega))))))).mono ?_); rintro e wA ⟨v, rfl, hown, hbA⟩))
  obtain ⟨hl1, al, capl, rfl, hpl⟩ := poly_of_row hown
  obtain ⟨_, h | ⟨g, cap, cur, hv, hg, hh, hnc, hcm, hcz, ht⟩⟩ := id hown
  · omega
  injection hv with e1 e2 e3
  subst e1 e3
  clear e2 ht
  obtain ⟨gc, gf, gl⟩ := block_cells hh
  have hsA := hbA.size
  have gcs : ∀ j, j < n → ∃ u v, wA.cell? ⟨g, j * 2, none⟩ = some u ∧ wA.cell? ⟨g, j * 2 + 1, none⟩ = some v := fun j hj => ⟨cur[j * 2]'(by omega), cur[j * 2 + 1]'(by omega), by rw [gc]; simp, by rw [gc]; simp⟩
  rcases hpl with ⟨_, h, _⟩ | ⟨g', o', hgo, hzl, hle, hcm2, hcell⟩
  · omega
  obtain ⟨rfl, rfl⟩ : g = g' ∧ o' = 0 := by simpa [eq_comm] using hgo
  have hcl := src_take hzl hcell n
  rw [List.take_of_length_le (by omega)] at hcl
  unfold maxLen at hcm
  go_upto_region 7 with (at_builtin; refine wpList_append_grows _ rfl _ _ 23 rfl 29 i0 (.agg #[.int .i64 0, .int .i64 0]) 2 16 Try.underlying23 hii hz0 hz1 hz2 (by simp [Value.cells]) (by decide) _ 0 0 [] rfl (fun h => by cases h) rfl (fun b _ j u h => by simp at h) ⟨g, 0, none⟩ n _ (flat L1) rfl (by rw [flat_length]; omega) (fun j u h => cell_below (by (repeat (first | (with_reducible exact Below.refl _ _) | (with_reducible refine Below.drew ?_) | (with_reducible refine below_drewN ?_ _) | (with_reducible refine Below.setCell ?_ (by first | (simp; done) | (simp; omega) | omega) _) | (with_reducible refine Below.alloc ?_ (by first | (simp; done) | (simp; omega) | omega) _) | (with_reducible refine Below.trans ?_ (Below.mono (by assumption) (by first | (simp; done) | (simp; omega) | omega))) | (with_reducible refine Below.trans ?_ (Below.mono (Later.below _) (by first | (simp; done) | (simp; omega) | omega)))))) (hcl j u h)) (flat_one _) (by omega) (by unfold maxLen; omega) (by omega) ?_; intro vw wB hownB hgrowB)
  rw [List.nil_append, Nat.zero_add] at hownB
  obtain ⟨_, aw, capw, rfl, hpw⟩ := poly_of_row hownB
  have hbAB : Below wA.heap.size wA wB := Below.grown (by (repeat (first | (with_reducible exact Below.refl _ _) | (with_reducible refine Below.drew ?_) | (with_reducible refine below_drewN ?_ _) | (with_reducible refine Below.setCell ?_ (by first | (simp; done) | (simp; omega) | omega) _) | (with_reducible refine Below.alloc ?_ (by first | (simp; done) | (simp; omega) | omega) _) | (with_reducible refine Below.trans ?_ (Below.mono (by assumption) (by first | (simp; done) | (simp; omega) | omega))) | (with_reducible refine Below.trans ?_ (Below.mono (Later.below _) (by first | (simp; done) | (simp; omega) | omega)))))) hgrowB (by simp) (fun k e => by cases e)
  have hwb : ∀ b o, aw = some ⟨b, o, none⟩ → wA.heap.size ≤ b ∧ b < wB.heap.size := by
    rintro b o rfl
    have := hownB.lt b rfl
    simp only [World.size_alloc] at this
    omega
  have hsB := hbAB.size
  have kcs : ∀ j, j < n → ∃ u v, wB.cell? ⟨g, j * 2, none⟩ = some u ∧ wB.cell? ⟨g, j * 2 + 1, none⟩ = some v := fun j hj => by
    obtain ⟨u, v, h1, h2⟩ := gcs j hj
    exact ⟨u, v, cell_below hbAB h1, cell_below hbAB h2⟩
  have kf : ∀ i, wB.frozen? ⟨g, i, none⟩ = false := fun i => (hbAB.frozen (p := ⟨g, i, none⟩) gl).trans (gf i)
  have hb8 : Below W8.heap.size W8 wB := hbA.trans (hbAB.mono hsA)
  have s8 := hb8.size
  have k0 := cell_below hb8 t0
  have k1 := cell_below hb8 t1
  have k2 := cell_below hb8 u0
  have k3 := cell_below hb8 u1
  have k4 := cell_below hb8 p0
  have k5 := cell_below hb8 p1
  have k6 := cell_below hb8 q0
  have k7 := cell_below hb8 q1
  have hgB : g < wB.heap.size := by omega
  have Hwb := Lib.hid hwb
  have Hpw := Lib.hid hpw
  clear hownB hgrowB hown hh gc gf gcs hcl hcell hz0 hz1 hz2 hii t0 t1 u0 u1 p0 p1 q0 q1 hal hfal hwb hpw hzl hle hcm hcm2 hgo hcz hnc hl1
  have hnI : (0 : Int) < (n : Int) := by omega
  have hnM : n ≤ 1000 := nn1
  go_loopw [13] (fun i wr => ∃ k : Nat, k ≤ n ∧ i = .int .i64 k ∧ (∀ j, j < n → ∃ u v, wr.cell? ⟨g, j * 2, none⟩ = some u ∧ wr.cell? ⟨g, j * 2 + 1, none⟩ = some v) ∧ (∀ i, wr.frozen? ⟨g, i, none⟩ = false) ∧ But g wB.heap.size wB wr)
    (fun i _ => n - (intOf i).toNat)
  case atStart => exact ⟨0, Nat.zero_le _, rfl, kcs, kf, But.refl _ _ _⟩
  case round =>
    clear kcs kf
    obtain ⟨k, hk, rfl, hcs, hf, hB⟩ := hrel
    have hws := hB.size
    by_cases hlt : k < n
    · obtain ⟨u, v, c0, c1⟩ := hcs k hlt
      have hlg : g < wr.heap.size := by omega
      have Hcs := Lib.hid hcs
      have HB := Lib.hid hB
      clear hcs hB
      have hltI : (k : Int) < (n : Int) := by omega
      have hst := setCell_if
      go_wp2
      go_roundw
      case rel =>
        refine ⟨k + 1, by omega, by go_num, fun j hj => ?_, fun i => by simp [hf], (HB.out.trans (But.set g _ _ _ _)).trans (But.set g _ _ _ _)⟩
        obtain ⟨u', v', h1, h2⟩ := Hcs.out j hj
        by_cases e : j = k
        · subst e
          refine ⟨.int .i64 7, .int .i64 7, ?_, ?_⟩ <;> simp [setCell_if, c0, c1]
        · refine ⟨u', v', ?_, ?_⟩
          · simp [setCell_if, e, h1, show ¬ j * 2 = k * 2 + 1 by omega, show ¬ j * 2 = k * 2 by omega]
          · simp [setCell_if, e, h2, show ¬ j * 2 + 1 = k * 2 + 1 by omega, show ¬ j * 2 + 1 = k * 2 by omega]
            intro h
            omega
      case measure => simp [intOf]; omega
    · obtain rfl : k = n := by omega
      have m0 := hB.cell (by omega) (by omega) k0
      have m1 := hB.cell (by omega) (by omega) k1
      have m2 := hB.cell (by omega) (by omega) k2
      have m3 := hB.cell (by omega) (by omega) k3
      have m4 := hB.cell (by omega) (by omega) k4
      have m5 := hB.cell (by omega) (by omega) k5
      have m6 := hB.cell (by omega) (by omega) k6
      have m7 := hB.cell (by omega) (by omega) k7
      have hB8 : Below W8.heap.size W8 wr := hB.below hb8 (by omega) (by omega)
      have sB8 := hB8.size
      have gpA' := gpA.later hB8
      have gpB' := gpB.later hB8
      have gpw : IsPoly wr aw k capw L1 := by
        rcases Hpw.out with h | ⟨b, o, h1, h2, h3, h4, h5⟩
        · exact .inl h
        · obtain ⟨b1, b2⟩ := Hwb.out b o h1
          exact .inr ⟨b, o, h1, h2, h3, h4, fun i hi => ⟨hB.cell b2 (by omega) (h5 i hi).1, hB.cell b2 (by omega) (h5 i hi).2⟩⟩
      have l0' : bA < wr.heap.size := by omega
      have l1' : bB < wr.heap.size := by omega
      have l2' : bP + 1 < wr.heap.size := by omega
      have hcc := fun V (hV : Below wr.heap.size wr V) => Hcc1.out V (hB8.trans (hV.mono sB8))
      have hca := fun V (hV : Below wr.heap.size wr V) => Hca1.out V (hB8.trans (hV.mono sB8))
      clear k0 k1 k2 k3 k4 k5 k6 k7 hcs hf hB hb8 hbAB hbA Hca1 Hcc1 gpA gpB Hpw Hwb
      have Hhcc := Lib.hid hcc; have Hhca := Lib.hid hca; clear hcc hca
      have hal := alloc_if; have hfal := allocF_if
      go_upto_region 11 with (((with_reducible refine (Hhcc.out _ (by (repeat (first | (with_reducible exact Below.refl _ _) | (with_reducible refine Below.drew ?_) | (with_reducible refine below_drewN ?_ _) | (with_reducible refine Below.setCell ?_ (by first | (simp; done) | (simp; omega) | omega) _) | (with_reducible refine Below.alloc ?_ (by first | (simp; done) | (simp; omega) | omega) _) | (with_reducible refine Below.trans ?_ (Below.mono (by assumption) (by first | (simp; done) | (simp; omega) | omega))) | (with_reducible refine Below.trans ?_ (Below.mono (Later.below _) (by first | (simp; done) | (simp; omega) | omega))))))).mono ?_); rintro e wC ⟨rfl, hbC⟩; obtain ⟨NC, hNC, hcC, hfC, hsC⟩ := bcell hbC; (try simp only [World.size_alloc, World.size_setCell, World.size_drew] at hNC)))
      refine name_world fun W9 hW9 => ?_
      have hb9 : Below wr.heap.size wr W9 := by rw [hW9]; (repeat (first | (with_reducible exact Below.refl _ _) | (with_reducible refine Below.drew ?_) | (with_reducible refine below_drewN ?_ _) | (with_reducible refine Below.setCell ?_ (by first | (simp; done) | (simp; omega) | omega) _) | (with_reducible refine Below.alloc ?_ (by first | (simp; done) | (simp; omega) | omega) _) | (with_reducible refine Below.trans ?_ (Below.mono (by assumption) (by first | (simp; done) | (simp; omega) | omega))) | (with_reducible refine Below.trans ?_ (Below.mono (Later.below _) (by first | (simp; done) | (simp; omega) | omega)))))
      have s9 := hb9.size
      have st : ∀ V, Below W9.heap.size W9 V → V.cell? ⟨bA, 0, none⟩ = some (.int .i64 ra) ∧ V.cell? ⟨bA, 1, none⟩ = some (.slice aa la ca) ∧ V.cell? ⟨bB, 0, none⟩ = some (.int .i64 rb) ∧ V.cell? ⟨bB, 1, none⟩ = some (.slice ab lb cb) ∧ V.cell? ⟨bP, 0, none⟩ = some (.int .i64 px) ∧ V.cell? ⟨bP, 1, none⟩ = some (.int .i64 py) ∧ V.cell? ⟨bP + 1, 0, none⟩ = some (.int .i64 qx) ∧ V.cell? ⟨bP + 1, 1, none⟩ = some (.int .i64 qy) :=
        fun V hV => ⟨cell_below (hb9.trans (hV.mono s9)) m0, cell_below (hb9.trans (hV.mono s9)) m1, cell_below (hb9.trans (hV.mono s9)) m2, cell_below (hb9.trans (hV.mono s9)) m3, cell_below (hb9.trans (hV.mono s9)) m4, cell_below (hb9.trans (hV.mono s9)) m5, cell_below (hb9.trans (hV.mono s9)) m6, cell_below (hb9.trans (hV.mono s9)) m7⟩
      have Hst := Lib.hid st
      have hpA9 := gpA'.later hb9
      have hpB9 := gpB'.later hb9
      have hpw9 := gpw.later hb9
      have hca9 := fun V (hV : Below W9.heap.size W9 V) => Hhca.out V (hb9.trans (hV.mono s9))
      clear gpA' gpB' gpw st m0 m1 m2 m3 m4 m5 m6 m7 hcC hfC hsC hNC NC hbC hW9 Hhca Hhcc hal hfal
      clear wC
      have hfd : ∀ (r : Int) (a : Option Addr) (l c : Nat) (V : World), (Instr.field 25 (.agg #[.int .i64 r, .slice a l c]) 1).run Try.prog V = .ok (.slice a l c) V := fun _ _ _ _ _ => by kernel_rfl
      have Hhca9 := Lib.hid hca9; clear hca9
      go_region_held3 (fun V => V.cell? ⟨bA, 0, none⟩ = some (.int .i64 ra) ∧ V.cell? ⟨bA, 1, none⟩ = some (.slice aa la ca) ∧ V.cell? ⟨bB, 0, none⟩ = some (.int .i64 rb) ∧ V.cell? ⟨bB, 1, none⟩ = some (.slice ab lb cb) ∧ V.cell? ⟨bP, 0, none⟩ = some (.int .i64 px) ∧ V.cell? ⟨bP, 1, none⟩ = some (.int .i64 py) ∧ V.cell? ⟨bP + 1, 0, none⟩ = some (.int .i64 qx) ∧ V.cell? ⟨bP + 1, 1, none⟩ = some (.int .i64 qy)) (exact Hst.out _ (by (repeat (first | (with_reducible exact Below.refl _ _) | (with_reducible refine Below.drew ?_) | (with_reducible refine below_drewN ?_ _) | (with_reducible refine Below.setCell ?_ (by first | (simp; done) | (simp; omega) | omega) _) | (with_reducible refine Below.alloc ?_ (by first | (simp; done) | (simp; omega) | omega) _) | (with_reducible refine Below.trans ?_ (Below.mono (by assumption) (by first | (simp; done) | (simp; omega) | omega))) | (with_reducible refine Below.trans ?_ (Below.mono (Later.below _) (by first | (simp; done) | (simp; omega) | omega)))))))
        (first | ((with_reducible refine (Hhca9.out _ (by (repeat (first | (with_reducible exact Below.refl _ _) | (with_reducible refine Below.drew ?_) | (with_reducible refine below_drewN ?_ _) | (with_reducible refine Below.setCell ?_ (by first | (simp; done) | (simp; omega) | omega) _) | (with_reducible refine Below.alloc ?_ (by first | (simp; done) | (simp; omega) | omega) _) | (with_reducible refine Below.trans ?_ (Below.mono (by assumption) (by first | (simp; done) | (simp; omega) | omega))) | (with_reducible refine Below.trans ?_ (Below.mono (Later.below _) (by first | (simp; done) | (simp; omega) | omega))))))).mono ?_); rintro e wH ⟨vH, rfl, hoH, hbH⟩; obtain ⟨_, alH, capH, rfl, hpH⟩ := poly_of_row hoH; clear hoH; have hsH := hbH.size; (try simp only [World.size_alloc, World.size_setCell, World.size_drew] at hsH)) | ((with_reducible refine (equal_same (IsPoly.later (by assumption) (by (repeat (first | (with_reducible exact Below.refl _ _) | (with_reducible refine Below.drew ?_) | (with_reducible refine below_drewN ?_ _) | (with_reducible refine Below.setCell ?_ (by first | (simp; done) | (simp; omega) | omega) _) | (with_reducible refine Below.alloc ?_ (by first | (simp; done) | (simp; omega) | omega) _) | (with_reducible refine Below.trans ?_ (Below.mono (by assumption) (by first | (simp; done) | (simp; omega) | omega))) | (with_reducible refine Below.trans ?_ (Below.mono (Later.below _) (by first | (simp; done) | (simp; omega) | omega))))))) (IsPoly.later (by assumption) (by (repeat (first | (with_reducible exact Below.refl _ _) | (with_reducible refine Below.drew ?_) | (with_reducible refine below_drewN ?_ _) | (with_reducible refine Below.setCell ?_ (by first | (simp; done) | (simp; omega) | omega) _) | (with_reducible refine Below.alloc ?_ (by first | (simp; done) | (simp; omega) | omega) _) | (with_reducible refine Below.trans ?_ (Below.mono (by assumption) (by first | (simp; done) | (simp; omega) | omega))) | (with_reducible refine Below.trans ?_ (Below.mono (Later.below _) (by first | (simp; done) | (simp; omega) | omega))))))) (by assumption)).mono ?_); rintro e wQ ⟨rfl, hbQ⟩; have hsQ := hbQ.size; (try simp only [World.size_alloc, World.size_setCell, World.size_drew] at hsQ)) | ((with_reducible refine (Hcs0.out _).mono ?_); rintro e wS ⟨aS, cS, rfl, hS, hbS, _⟩; have gpS := hS.poly; have hsS := hbS.size; (try simp only [World.size_alloc, World.size_setCell, World.size_drew] at hsS)) | ((with_reducible refine (Hcs1.out _).mono ?_); rintro e wT ⟨aT, cT, rfl, hT, hbT, _⟩; have gpT := hT.poly; have hsT := hbT.size; (try simp only [World.size_alloc, World.size_setCell, World.size_drew] at hsT)) | ((with_reducible refine (Hlv.out _).mono ?_); rintro e wJ ⟨rfl, hbJ⟩; obtain ⟨NJ, hNJ, hcJ, hfJ, hsJ⟩ := bcell hbJ; (try simp only [World.size_alloc, World.size_setCell, World.size_drew] at hNJ)))
      go_wp2
      go_ret
      refine ⟨rfl, hbW.trans (Below.mono (hB8.trans (Below.mono (hb9.trans (Below.mono (?_ : Below W9.heap.size W9 _) s9)) sB8)) sw)⟩
      (repeat (first | (with_reducible exact Below.refl _ _) | (with_reducible refine Below.drew ?_) | (with_reducible refine below_drewN ?_ _) | (with_reducible refine Below.setCell ?_ (by first | (simp; done) | (simp; omega) | omega) _) | (with_reducible refine Below.alloc ?_ (by first | (simp; done) | (simp; omega) | omega) _) | (with_reducible refine Below.trans ?_ (Below.mono (by assumption) (by first | (simp; done) | (simp; omega) | omega))) | (with_reducible refine Below.trans ?_ (Below.mono (Later.below _) (by first | (simp; done) | (simp; omega) | omega)))))
end Go.Proofs.Ytcgcapfppceggaa.W
