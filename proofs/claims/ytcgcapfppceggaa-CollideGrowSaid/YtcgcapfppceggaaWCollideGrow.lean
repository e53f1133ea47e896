/-
  The walk of the law CollideGrow: it returns true at every input.
  Conditions: none.
-/
import Derived.Test.YtcgcapfppceggaaCoE
import Derived.Test.YtcgcapfppceggaaCoL
import Derived.Test.YtcgcapfppceggaaShN
import Derived.Test.YtcgcapfppceggaaQe
import Derived.Deep.Cut
import Derived.Deep.CutRange
import Derived.Deep.DeepCutAuto
namespace Go.Proofs.Ytcgcapfppceggaa.W
open Go.RowKit Go.Proofs.Ytcgcapfppceggaa.FxMath Go.Proofs.Ytcgcapfppceggaa.FxA Go.Proofs.Ytcgcapfppceggaa.Qt Go.Proofs.Ytcgcapfppceggaa.Ve Go.Proofs.Ytcgcapfppceggaa.Sh Go.Proofs.Ytcgcapfppceggaa.Co
set_option linter.unusedVariables false
set_option linter.unusedSimpArgs false
set_option maxRecDepth 100000 in
set_option maxHeartbeats 4000000 in
theorem CollideGrow_walk (a0 a1 a2 a3a a3b a3c a3d : Int) (w : World) (w0 : (Lit.int .i64 a0).wf = true) (w1 : (Lit.int .i64 a1).wf = true) (w2 : (Lit.int .i64 a2).wf = true) (w3a : (Lit.int .i64 a3a).wf = true) (w3b : (Lit.int .i64 a3b).wf = true) (w3c : (Lit.int .i64 a3c).wf = true) (w3d : (Lit.int .i64 a3d).wf = true) :
    Calls Try.prog 4 #[.int .i64 a0, .int .i64 a1, .int .i64 a2, .agg #[.int .i64 a3a, .int .i64 a3b, .int .i64 a3c, .int .i64 a3d]] w fun e w' => e = .returned (.bool true) ∧ Below w.heap.size w w' := by
  obtain ⟨b00, b01⟩ := i64_bd w0
  obtain ⟨b10, b11⟩ := i64_bd w1
  have t1 := Int.mul_tdiv_add_tmod a0 3
  have t2 := tmod_abs a0 3 (by decide)
  have t3 : -9223372036854775808 ≤ a0.tdiv 3 := by omega
  have t4 : a0.tdiv 3 ≤ 9223372036854775807 := by omega
  have e0 := fun V => around_any a0 30000 V b00 b01 (by decide) (by decide)
  have e1 := fun V => around_any a0 3 V b00 b01 (by decide) (by decide)
  have e2 := fun V => around_any (a0.tdiv 3) 60 V t3 t4 (by decide) (by decide)
  have e3 := fun V => around_any a1 2769 V b10 b11 (by decide) (by decide)
  have ga0 := aro_bd a0 30000 (by decide)
  have ga2 := aro_bd (a0.tdiv 3) 60 (by decide)
  have ga3 := aro_bd a1 2769 (by decide)
  have cs := fun W => shape_any a2 W w2
  clear t1 t2
  generalize aro a0 30000 = k at *
  generalize aro (a0.tdiv 3) 60 = j at *
  generalize aro a1 2769 = m at *
  generalize aro a0 3 = k3 at *
  obtain ⟨L, hL⟩ : ∃ L, L = (shZ a2).length := ⟨_, rfl⟩
  rw [← hL] at cs
  generalize shR a2 = r at *
  generalize shZ a2 = zs at *
  have He0 := Lib.hid e0; have He1 := Lib.hid e1; have He2 := Lib.hid e2; have He3 := Lib.hid e3; have Hcs := Lib.hid cs; have HhL := Lib.hid hL; clear e0 e1 e2 e3 cs hL
  have hal := alloc_if; have hfal := allocF_if
  by_cases h3 : k3 = 0
  · subst h3
    go_enter Try.func4, Try.ntmps4
    go_upto_region 7 with (first | ((with_reducible refine (He0.out _).mono ?_); rintro e w' ⟨rfl, rfl⟩) | ((with_reducible refine (He1.out _).mono ?_); rintro e w' ⟨rfl, rfl⟩) | ((with_reducible refine (He2.out _).mono ?_); rintro e w' ⟨rfl, rfl⟩) | ((with_reducible refine (He3.out _).mono ?_); rintro e w' ⟨rfl, rfl⟩) | ((with_reducible refine (Hcs.out _).mono ?_); rintro e WS ⟨sa, sc, rfl, hs, hbS, hsx⟩; obtain ⟨N0, hN0, hcS, hfS, hsS⟩ := bcell hbS; (try simp only [World.size_alloc, World.size_setCell, World.size_drew] at hN0)))
    have cp := place_s (shAt_circle WS (1 + j) ⟨by omega, by omega⟩) hs a3a a3b a3c a3d w3a w3b w3c w3d
    have Hcp := Lib.hid cp; clear cp
    go_upto_region 8 with (((with_reducible refine (Hcp.out _ (by (repeat (first | (with_reducible exact Below.refl _ _) | (with_reducible refine Below.drew ?_) | (with_reducible refine below_drewN ?_ _) | (with_reducible refine Below.setCell ?_ (by first | (simp; done) | (simp; omega) | omega) _) | (with_reducible refine Below.alloc ?_ (by first | (simp; done) | (simp; omega) | omega) _) | (with_reducible refine Below.trans ?_ (Below.mono (by assumption) (by first | (simp; done) | (simp; omega) | omega))) | (with_reducible refine Below.trans ?_ (Below.mono (Later.below _) (by first | (simp; done) | (simp; omega) | omega))))))).mono ?_); rintro e wP ⟨⟨px, py, qx, qy, rfl, hp, hq⟩, hbP⟩; obtain ⟨NP, hNP, hcP, hfP, hsP⟩ := bcell hbP; (try simp only [World.size_alloc, World.size_setCell, World.size_drew] at hNP)))
    have cc1 := fun V (hV : Below WS.heap.size WS V) => collide_at (shAt_circle V (1 + j) ⟨by omega, by omega⟩) (hs.later hV) (px := px) (py := py) (qx := qx) (qy := qy) (by omega) (by omega)
    have cc2 := fun V (hV : Below WS.heap.size WS V) => collide_at (shAt_circle V (1 + j + m) ⟨by omega, by omega⟩) (hs.later hV) (px := px) (py := py) (qx := qx) (qy := qy) (by omega) (by omega)
    have hg := col_grow (1 + j) m ga3.1 px py r zs qx qy
    generalize cis (1 + j) [] px py r zs qx qy = i1 at *
    generalize cis (1 + j + m) [] px py r zs qx qy = i2 at *
    generalize cdp (1 + j) [] px py r zs qx qy = d1 at *
    generalize cdp (1 + j + m) [] px py r zs qx qy = d2 at *
    generalize cnx (1 + j) [] px py r zs qx qy = x1 at *
    generalize cnx (1 + j + m) [] px py r zs qx qy = x2 at *
    generalize cny (1 + j) [] px py r zs qx qy = y1 at *
    generalize cny (1 + j + m) [] px py r zs qx qy = y2 at *
    have lv := lives05
    clear hp hq
    cases i1
    · clear hg
      have Hcc1 := Lib.hid cc1; have Hcc2 := Lib.hid cc2; have Hlv := Lib.hid lv; clear cc1 cc2 lv
      go_wp2_with (first | ((with_reducible refine (Hcc1.out _ (by (repeat (first | (with_reducible exact Below.refl _ _) | (with_reducible refine Below.drew ?_) | (with_reducible refine below_drewN ?_ _) | (with_reducible refine Below.setCell ?_ (by first | (simp; done) | (simp; omega) | omega) _) | (with_reducible refine Below.alloc ?_ (by first | (simp; done) | (simp; omega) | omega) _) | (with_reducible refine Below.trans ?_ (Below.mono (by assumption) (by first | (simp; done) | (simp; omega) | omega))) | (with_reducible refine Below.trans ?_ (Below.mono (Later.below _) (by first | (simp; done) | (simp; omega) | omega))))))).mono ?_); rintro e wA ⟨rfl, hbA⟩; obtain ⟨NA, hNA, hcA, hfA, hsA⟩ := bcell hbA; (try simp only [World.size_alloc, World.size_setCell, World.size_drew] at hNA)) | ((with_reducible refine (Hcc2.out _ (by (repeat (first | (with_reducible exact Below.refl _ _) | (with_reducible refine Below.drew ?_) | (with_reducible refine below_drewN ?_ _) | (with_reducible refine Below.setCell ?_ (by first | (simp; done) | (simp; omega) | omega) _) | (with_reducible refine Below.alloc ?_ (by first | (simp; done) | (simp; omega) | omega) _) | (with_reducible refine Below.trans ?_ (Below.mono (by assumption) (by first | (simp; done) | (simp; omega) | omega))) | (with_reducible refine Below.trans ?_ (Below.mono (Later.below _) (by first | (simp; done) | (simp; omega) | omega))))))).mono ?_); rintro e wB ⟨rfl, hbB⟩; obtain ⟨NB, hNB, hcB, hfB, hsB⟩ := bcell hbB; (try simp only [World.size_alloc, World.size_setCell, World.size_drew] at hNB)) | ((with_reducible refine (Hlv.out _).mono ?_); rintro e wD ⟨rfl, hbD⟩; obtain ⟨ND, hND, hcD, hfD, hsD⟩ := bcell hbD; (try simp only [World.size_alloc, World.size_setCell, World.size_drew] at hND)))
      go_ret
      exact ⟨rfl, by (repeat (first | (with_reducible exact Below.refl _ _) | (with_reducible refine Below.drew ?_) | (with_reducible refine below_drewN ?_ _) | (with_reducible refine Below.setCell ?_ (by first | (simp; done) | (simp; omega) | omega) _) | (with_reducible refine Below.alloc ?_ (by first | (simp; done) | (simp; omega) | omega) _) | (with_reducible refine Below.trans ?_ (Below.mono (by assumption) (by first | (simp; done) | (simp; omega) | omega))) | (with_reducible refine Below.trans ?_ (Below.mono (Later.below _) (by first | (simp; done) | (simp; omega) | omega)))))⟩
    · obtain ⟨rfl, hle⟩ := hg rfl
      have Hcc1 := Lib.hid cc1; have Hcc2 := Lib.hid cc2; have Hlv := Lib.hid lv; clear cc1 cc2 lv
      go_wp2_with (first | ((with_reducible refine (Hcc1.out _ (by (repeat (first | (with_reducible exact Below.refl _ _) | (with_reducible refine Below.drew ?_) | (with_reducible refine below_drewN ?_ _) | (with_reducible refine Below.setCell ?_ (by first | (simp; done) | (simp; omega) | omega) _) | (with_reducible refine Below.alloc ?_ (by first | (simp; done) | (simp; omega) | omega) _) | (with_reducible refine Below.trans ?_ (Below.mono (by assumption) (by first | (simp; done) | (simp; omega) | omega))) | (with_reducible refine Below.trans ?_ (Below.mono (Later.below _) (by first | (simp; done) | (simp; omega) | omega))))))).mono ?_); rintro e wA ⟨rfl, hbA⟩; obtain ⟨NA, hNA, hcA, hfA, hsA⟩ := bcell hbA; (try simp only [World.size_alloc, World.size_setCell, World.size_drew] at hNA)) | ((with_reducible refine (Hcc2.out _ (by (repeat (first | (with_reducible exact Below.refl _ _) | (with_reducible refine Below.drew ?_) | (with_reducible refine below_drewN ?_ _) | (with_reducible refine Below.setCell ?_ (by first | (simp; done) | (simp; omega) | omega) _) | (with_reducible refine Below.alloc ?_ (by first | (simp; done) | (simp; omega) | omega) _) | (with_reducible refine Below.trans ?_ (Below.mono (by assumption) (by first | (simp; done) | (simp; omega) | omega))) | (with_reducible refine Below.trans ?_ (Below.mono (Later.below _) (by first | (simp; done) | (simp; omega) | omega))))))).mono ?_); rintro e wB ⟨rfl, hbB⟩; obtain ⟨NB, hNB, hcB, hfB, hsB⟩ := bcell hbB; (try simp only [World.size_alloc, World.size_setCell, World.size_drew] at hNB)) | ((with_reducible refine (Hlv.out _).mono ?_); rintro e wD ⟨rfl, hbD⟩; obtain ⟨ND, hND, hcD, hfD, hsD⟩ := bcell hbD; (try simp only [World.size_alloc, World.size_setCell, World.size_drew] at hND)))
      go_ret
      exact ⟨rfl, by (repeat (first | (with_reducible exact Below.refl _ _) | (with_reducible refine Below.drew ?_) | (with_reducible refine below_drewN ?_ _) | (with_reducible refine Below.setCell ?_ (by first | (simp; done) | (simp; omega) | omega) _) | (with_reducible refine Below.alloc ?_ (by first | (simp; done) | (simp; omega) | omega) _) | (with_reducible refine Below.trans ?_ (Below.mono (by assumption) (by first | (simp; done) | (simp; omega) | omega))) | (with_reducible refine Below.trans ?_ (Below.mono (Later.below _) (by first | (simp; done) | (simp; omega) | omega)))))⟩
  · have hk3 : (k3 == 0) = false := beq_eq_false_iff_ne.2 h3
    clear h3
    go_enter Try.func4, Try.ntmps4
    go_upto_region 7 with (first | ((with_reducible refine (He0.out _).mono ?_); rintro e w' ⟨rfl, rfl⟩) | ((with_reducible refine (He1.out _).mono ?_); rintro e w' ⟨rfl, rfl⟩) | ((with_reducible refine (He2.out _).mono ?_); rintro e w' ⟨rfl, rfl⟩) | ((with_reducible refine (He3.out _).mono ?_); rintro e w' ⟨rfl, rfl⟩) | ((with_reducible refine (Hcs.out _).mono ?_); rintro e WS ⟨sa, sc, rfl, hs, hbS, hsx⟩; obtain ⟨N0, hN0, hcS, hfS, hsS⟩ := bcell hbS; (try simp only [World.size_alloc, World.size_setCell, World.size_drew] at hN0)))
    have cp := place_s (shAt_circle WS (1 + k) ⟨by omega, by omega⟩) hs a3a a3b a3c a3d w3a w3b w3c w3d
    have Hcp := Lib.hid cp; clear cp
    go_upto_region 8 with (((with_reducible refine (Hcp.out _ (by (repeat (first | (with_reducible exact Below.refl _ _) | (with_reducible refine Below.drew ?_) | (with_reducible refine below_drewN ?_ _) | (with_reducible refine Below.setCell ?_ (by first | (simp; done) | (simp; omega) | omega) _) | (with_reducible refine Below.alloc ?_ (by first | (simp; done) | (simp; omega) | omega) _) | (with_reducible refine Below.trans ?_ (Below.mono (by assumption) (by first | (simp; done) | (simp; omega) | omega))) | (with_reducible refine Below.trans ?_ (Below.mono (Later.below _) (by first | (simp; done) | (simp; omega) | omega))))))).mono ?_); rintro e wP ⟨⟨px, py, qx, qy, rfl, hp, hq⟩, hbP⟩; obtain ⟨NP, hNP, hcP, hfP, hsP⟩ := bcell hbP; (try simp only [World.size_alloc, World.size_setCell, World.size_drew] at hNP)))
    have cc1 := fun V (hV : Below WS.heap.size WS V) => collide_at (shAt_circle V (1 + k) ⟨by omega, by omega⟩) (hs.later hV) (px := px) (py := py) (qx := qx) (qy := qy) (by omega) (by omega)
    have cc2 := fun V (hV : Below WS.heap.size WS V) => collide_at (shAt_circle V (1 + k + m) ⟨by omega, by omega⟩) (hs.later hV) (px := px) (py := py) (qx := qx) (qy := qy) (by omega) (by omega)
    have hg := col_grow (1 + k) m ga3.1 px py r zs qx qy
    generalize cis (1 + k) [] px py r zs qx qy = i1 at *
    generalize cis (1 + k + m) [] px py r zs qx qy = i2 at *
    generalize cdp (1 + k) [] px py r zs qx qy = d1 at *
    generalize cdp (1 + k + m) [] px py r zs qx qy = d2 at *
    generalize cnx (1 + k) [] px py r zs qx qy = x1 at *
    generalize cnx (1 + k + m) [] px py r zs qx qy = x2 at *
    generalize cny (1 + k) [] px py r zs qx qy = y1 at *
    generalize cny (1 + k + m) [] px py r zs qx qy = y2 at *
    have lv := lives05
    clear hp hq
    cases i1
    · clear hg
      have Hcc1 := Lib.hid cc1; have Hcc2 := Lib.hid cc2; have Hlv := Lib.hid lv; clear cc1 cc2 lv
      go_wp2_with (first | ((with_reducible refine (Hcc1.out _ (by (repeat (first | (with_reducible exact Below.refl _ _) | (with_reducible refine Below.drew ?_) | (with_reducible refine below_drewN ?_ _) | (with_reducible refine Below.setCell ?_ (by first | (simp; done) | (simp; omega) | omega) _) | (with_reducible refine Below.alloc ?_ (by first | (simp; done) | (simp; omega) | omega) _) | (with_reducible refine Below.trans ?_ (Below.mono (by assumption) (by first | (simp; done) | (simp; omega) | omega))) | (with_reducible refine Below.trans ?_ (Below.mono (Later.below _) (by first | (simp; done) | (simp; omega) | omega))))))).mono ?_); rintro e wA ⟨rfl, hbA⟩; obtain ⟨NA, hNA, hcA, hfA, hsA⟩ := bcell hbA; (try simp only [World.size_alloc, World.size_setCell, World.size_drew] at hNA)) | ((with_reducible refine (Hcc2.out _ (by (repeat (first | (with_reducible exact Below.refl _ _) | (with_reducible refine Below.drew ?_) | (with_reducible refine below_drewN ?_ _) | (with_reducible refine Below.setCell ?_ (by first | (simp; done) | (simp; omega) | omega) _) | (with_reducible refine Below.alloc ?_ (by first | (simp; done) | (simp; omega) | omega) _) | (with_reducible refine Below.trans ?_ (Below.mono (by assumption) (by first | (simp; done) | (simp; omega) | omega))) | (with_reducible refine Below.trans ?_ (Below.mono (Later.below _) (by first | (simp; done) | (simp; omega) | omega))))))).mono ?_); rintro e wB ⟨rfl, hbB⟩; obtain ⟨NB, hNB, hcB, hfB, hsB⟩ := bcell hbB; (try simp only [World.size_alloc, World.size_setCell, World.size_drew] at hNB)) | ((with_reducible refine (Hlv.out _).mono ?_); rintro e wD ⟨rfl, hbD⟩; obtain ⟨ND, hND, hcD, hfD, hsD⟩ := bcell hbD; (try simp only [World.size_alloc, World.size_setCell, World.size_drew] at hND)))
      go_ret
      exact ⟨rfl, by (repeat (first | (with_reducible exact Below.refl _ _) | (with_reducible refine Below.drew ?_) | (with_reducible refine below_drewN ?_ _) | (with_reducible refine Below.setCell ?_ (by first | (simp; done) | (simp; omega) | omega) _) | (with_reducible refine Below.alloc ?_ (by first | (simp; done) | (simp; omega) | omega) _) | (with_reducible refine Below.trans ?_ (Below.mono (by assumption) (by first | (simp; done) | (simp; omega) | omega))) | (with_reducible refine Below.trans ?_ (Below.mono (Later.below _) (by first | (simp; done) | (simp; omega) | omega)))))⟩
    · obtain ⟨rfl, hle⟩ := hg rfl
      have Hcc1 := Lib.hid cc1; have Hcc2 := Lib.hid cc2; have Hlv := Lib.hid lv; clear cc1 cc2 lv
      go_wp2_with (first | ((with_reducible refine (Hcc1.out _ (by (repeat (first | (with_reducible exact Below.refl _ _) | (with_reducible refine Below.drew ?_) | (with_reducible refine below_drewN ?_ _) | (with_reducible refine Below.setCell ?_ (by first | (simp; done) | (simp; omega) | omega) _) | (with_reducible refine Below.alloc ?_ (by first | (simp; done) | (simp; omega) | omega) _) | (with_reducible refine Below.trans ?_ (Below.mono (by assumption) (by first | (simp; done) | (simp; omega) | omega))) | (with_reducible refine Below.trans ?_ (Below.mono (Later.below _) (by first | (simp; done) | (simp; omega) | omega))))))).mono ?_); rintro e wA ⟨rfl, hbA⟩; obtain ⟨NA, hNA, hcA, hfA, hsA⟩ := bcell hbA; (try simp only [World.size_alloc, World.size_setCell, World.size_drew] at hNA)) | ((with_reducible refine (Hcc2.out _ (by (repeat (first | (with_reducible exact Below.refl _ _) | (with_reducible refine Below.drew ?_) | (with_reducible refine below_drewN ?_ _) | (with_reducible refine Below.setCell ?_ (by first | (simp; done) | (simp; omega) | omega) _) | (with_reducible refine Below.alloc ?_ (by first | (simp; done) | (simp; omega) | omega) _) | (with_reducible refine Below.trans ?_ (Below.mono (by assumption) (by first | (simp; done) | (simp; omega) | omega))) | (with_reducible refine Below.trans ?_ (Below.mono (Later.below _) (by first | (simp; done) | (simp; omega) | omega))))))).mono ?_); rintro e wB ⟨rfl, hbB⟩; obtain ⟨NB, hNB, hcB, hfB, hsB⟩ := bcell hbB; (try simp only [World.size_alloc, World.size_setCell, World.size_drew] at hNB)) | ((with_reducible refine (Hlv.out _).mono ?_); rintro e wD ⟨rfl, hbD⟩; obtain ⟨ND, hND, hcD, hfD, hsD⟩ := bcell hbD; (try simp only [World.size_alloc, World.size_setCell, World.size_drew] at hND)))
      go_ret
      exact ⟨rfl, by (repeat (first | (with_reducible exact Below.refl _ _) | (with_reducible refine Below.drew ?_) | (with_reducible refine below_drewN ?_ _) | (with_reducible refine Below.setCell ?_ (by first | (simp; done) | (simp; omega) | omega) _) | (with_reducible refine Below.alloc ?_ (by first | (simp; done) | (simp; omega) | omega) _) | (with_reducible refine Below.trans ?_ (Below.mono (by assumption) (by first | (simp; done) | (simp; omega) | omega))) | (with_reducible refine Below.trans ?_ (Below.mono (Later.below _) (by first | (simp; done) | (simp; omega) | omega)))))⟩
end Go.Proofs.Ytcgcapfppceggaa.W
