/-
  The walk of the law CollideCircles: it returns true at every input.
  Conditions: none.
-/
import Derived.Test.YtcgcapfppceggaaCoE
import Derived.Test.YtcgcapfppceggaaCoN
import Derived.Test.YtcgcapfppceggaaShN
import Derived.Test.YtcgcapfppceggaaQe
import Derived.Deep.Cut
import Derived.Deep.CutRange
import Derived.Deep.DeepCutAuto
namespace Go.Proofs.Ytcgcapfppceggaa.W
open Go.RowKit Go.Proofs.Ytcgcapfppceggaa.FxMath Go.Proofs.Ytcgcapfppceggaa.FxA Go.Proofs.Ytcgcapfppceggaa.Qt Go.Proofs.Ytcgcapfppceggaa.Ve Go.Proofs.Ytcgcapfppceggaa.Sh Go.Proofs.Ytcgcapfppceggaa.Co
set_option linter.unusedVariables false
set_option linter.unusedSimpArgs false
theorem sqb (x : Int) (h : -2000000 ≤ x ∧ x ≤ 2000000) : x * x ≤ 4000000000000 := by
  have h1 : (x * x).natAbs ≤ 2000000 * 2000000 := by rw [Int.natAbs_mul]; exact Nat.mul_le_mul (by omega) (by omega)
  omega
set_option maxRecDepth 100000 in
set_option maxHeartbeats 4000000 in
theorem CollideCircles_walk (a0 a1 a2a a2b a2c a2d : Int) (w : World) (w0 : (Lit.int .i64 a0).wf = true) (w1 : (Lit.int .i64 a1).wf = true) (w2a : (Lit.int .i64 a2a).wf = true) (w2b : (Lit.int .i64 a2b).wf = true) (w2c : (Lit.int .i64 a2c).wf = true) (w2d : (Lit.int .i64 a2d).wf = true) :
    Calls Try.prog 5 #[.int .i64 a0, .int .i64 a1, .agg #[.int .i64 a2a, .int .i64 a2b, .int .i64 a2c, .int .i64 a2d]] w fun e w' => e = .returned (.bool true) ∧ Below w.heap.size w w' := by
  obtain ⟨b00, b01⟩ := i64_bd w0
  obtain ⟨b10, b11⟩ := i64_bd w1
  have e0 := fun V => around_any a0 30000 V b00 b01 (by decide) (by decide)
  have e1 := fun V => around_any a1 30000 V b10 b11 (by decide) (by decide)
  have ga0 := aro_bd a0 30000 (by decide)
  have ga1 := aro_bd a1 30000 (by decide)
  generalize aro a0 30000 = k at *
  generalize aro a1 30000 = m at *
  obtain ⟨ga00, ga01⟩ := ga0
  obtain ⟨ga10, ga11⟩ := ga1
  have cp := place_s (shAt_circle w (1024 + k) ⟨by omega, by omega⟩) (shAt_circle w (1024 + m) ⟨by omega, by omega⟩) a2a a2b a2c a2d w2a w2b w2c w2d
  have He0 := Lib.hid e0; have He1 := Lib.hid e1; have Hcp := Lib.hid cp; clear e0 e1 cp
  have hal := alloc_if; have hfal := allocF_if
  go_enter Try.func5, Try.ntmps5
  go_upto_region 4 with (first | ((with_reducible refine (He0.out _).mono ?_); rintro e w' ⟨rfl, rfl⟩) | ((with_reducible refine (He1.out _).mono ?_); rintro e w' ⟨rfl, rfl⟩) | ((with_reducible refine (Hcp.out _ (by (repeat (first | (with_reducible exact Below.refl _ _) | (with_reducible refine Below.drew ?_) | (with_reducible refine below_drewN ?_ _) | (with_reducible refine Below.setCell ?_ (by first | (simp; done) | (simp; omega) | omega) _) | (with_reducible refine Below.alloc ?_ (by first | (simp; done) | (simp; omega) | omega) _) | (with_reducible refine Below.trans ?_ (Below.mono (by assumption) (by first | (simp; done) | (simp; omega) | omega))) | (with_reducible refine Below.trans ?_ (Below.mono (Later.below _) (by first | (simp; done) | (simp; omega) | omega))))))).mono ?_); rintro e wP ⟨⟨px, py, qx, qy, rfl, hp, hq⟩, hbP⟩; obtain ⟨NP, hNP, hcP, hfP, hsP⟩ := bcell hbP; (try simp only [World.size_alloc, World.size_setCell, World.size_drew] at hNP)))
  have cc := fun V => collide_at (shAt_circle V (1024 + k) ⟨by omega, by omega⟩) (shAt_circle V (1024 + m) ⟨by omega, by omega⟩) (px := px) (py := py) (qx := qx) (qy := qy) (by omega) (by omega)
  have cs := sub_any qx qy px py (by omega) (by omega) (by omega) (by omega)
  have h1 := sqb (qx - px) (by omega)
  have h2 := sqb (qy - py) (by omega)
  have cl := len_any (qx - px) (qy - py) (by omega) (by omega)
  have law := fun h => circles_law (R1 := 1024 + k) (R2 := 1024 + m) (px := px) (py := py) (qx := qx) (qy := qy) (by omega) (by omega) rfl h
  have l0 := isq_nonneg ((qx - px) * (qx - px) + (qy - py) * (qy - py))
  have lb := abs_le_isq (qx - px) (qy - py)
  have lu : isq ((qx - px) * (qx - px) + (qy - py) * (qy - py)) ≤ 10000000 := by
    have h3 := (isq_spec ((qx - px) * (qx - px) + (qy - py) * (qy - py)) (by have := sq0 (qx - px); have := sq0 (qy - py); omega)).1
    generalize isq ((qx - px) * (qx - px) + (qy - py) * (qy - py)) = l at *
    refine Classical.byContradiction fun hn => ?_
    have h4 : 10000000 * 10000000 ≤ l * l := Int.mul_le_mul (by omega) (by omega) (by decide) (by omega)
    omega
  clear lb
  generalize isq ((qx - px) * (qx - px) + (qy - py) * (qy - py)) = l at *
  have tb0 : 0 ≤ l / 256 := by omega
  have tb1 : l / 256 ≤ 100000 := by omega
  generalize cis (1024 + k) [] px py (1024 + m) [] qx qy = i1 at *
  generalize cdp (1024 + k) [] px py (1024 + m) [] qx qy = d1 at *
  generalize cnx (1024 + k) [] px py (1024 + m) [] qx qy = x1 at *
  generalize cny (1024 + k) [] px py (1024 + m) [] qx qy = y1 at *
  have lv := lives05
  clear hp hq h1 h2
  have Hcc := Lib.hid cc; have Hcs := Lib.hid cs; have Hcl := Lib.hid cl; have Hlv := Lib.hid lv; clear cc cs cl lv
  by_cases hl : l < 1024
  · clear law
    go_wp2_with (first | ((with_reducible refine (Hcs.out _).mono ?_); rintro e wA ⟨rfl, hbA⟩; obtain ⟨NA, hNA, hcA, hfA, hsA⟩ := bcell hbA; (try simp only [World.size_alloc, World.size_setCell, World.size_drew] at hNA)) | ((with_reducible refine (Hcl.out _).mono ?_); rintro e wB ⟨rfl, hbB⟩; obtain ⟨NB, hNB, hcB, hfB, hsB⟩ := bcell hbB; (try simp only [World.size_alloc, World.size_setCell, World.size_drew] at hNB)) | ((with_reducible refine (Hcc.out _).mono ?_); rintro e wC ⟨rfl, hbC⟩; obtain ⟨NC, hNC, hcC, hfC, hsC⟩ := bcell hbC; (try simp only [World.size_alloc, World.size_setCell, World.size_drew] at hNC)) | ((with_reducible refine (Hlv.out _).mono ?_); rintro e wD ⟨rfl, hbD⟩; obtain ⟨ND, hND, hcD, hfD, hsD⟩ := bcell hbD; (try simp only [World.size_alloc, World.size_setCell, World.size_drew] at hND)))
    go_ret
    exact ⟨rfl, by (repeat (first | (with_reducible exact Below.refl _ _) | (with_reducible refine Below.drew ?_) | (with_reducible refine below_drewN ?_ _) | (with_reducible refine Below.setCell ?_ (by first | (simp; done) | (simp; omega) | omega) _) | (with_reducible refine Below.alloc ?_ (by first | (simp; done) | (simp; omega) | omega) _) | (with_reducible refine Below.trans ?_ (Below.mono (by assumption) (by first | (simp; done) | (simp; omega) | omega))) | (with_reducible refine Below.trans ?_ (Below.mono (Later.below _) (by first | (simp; done) | (simp; omega) | omega)))))⟩
  · obtain ⟨la, lb⟩ := law (by omega)
    have hl2 : 1024 ≤ l := by omega
    clear law hl
    cases i1
    · have l3 := lb rfl
      clear la lb
      go_wp2_with (first | ((with_reducible refine (Hcs.out _).mono ?_); rintro e wA ⟨rfl, hbA⟩; obtain ⟨NA, hNA, hcA, hfA, hsA⟩ := bcell hbA; (try simp only [World.size_alloc, World.size_setCell, World.size_drew] at hNA)) | ((with_reducible refine (Hcl.out _).mono ?_); rintro e wB ⟨rfl, hbB⟩; obtain ⟨NB, hNB, hcB, hfB, hsB⟩ := bcell hbB; (try simp only [World.size_alloc, World.size_setCell, World.size_drew] at hNB)) | ((with_reducible refine (Hcc.out _).mono ?_); rintro e wC ⟨rfl, hbC⟩; obtain ⟨NC, hNC, hcC, hfC, hsC⟩ := bcell hbC; (try simp only [World.size_alloc, World.size_setCell, World.size_drew] at hNC)) | ((with_reducible refine (Hlv.out _).mono ?_); rintro e wD ⟨rfl, hbD⟩; obtain ⟨ND, hND, hcD, hfD, hsD⟩ := bcell hbD; (try simp only [World.size_alloc, World.size_setCell, World.size_drew] at hND)))
      go_ret
      exact ⟨rfl, by (repeat (first | (with_reducible exact Below.refl _ _) | (with_reducible refine Below.drew ?_) | (with_reducible refine below_drewN ?_ _) | (with_reducible refine Below.setCell ?_ (by first | (simp; done) | (simp; omega) | omega) _) | (with_reducible refine Below.alloc ?_ (by first | (simp; done) | (simp; omega) | omega) _) | (with_reducible refine Below.trans ?_ (Below.mono (by assumption) (by first | (simp; done) | (simp; omega) | omega))) | (with_reducible refine Below.trans ?_ (Below.mono (Later.below _) (by first | (simp; done) | (simp; omega) | omega)))))⟩
    · obtain ⟨l3, l4⟩ := la rfl
      clear la lb
      go_wp2_with (first | ((with_reducible refine (Hcs.out _).mono ?_); rintro e wA ⟨rfl, hbA⟩; obtain ⟨NA, hNA, hcA, hfA, hsA⟩ := bcell hbA; (try simp only [World.size_alloc, World.size_setCell, World.size_drew] at hNA)) | ((with_reducible refine (Hcl.out _).mono ?_); rintro e wB ⟨rfl, hbB⟩; obtain ⟨NB, hNB, hcB, hfB, hsB⟩ := bcell hbB; (try simp only [World.size_alloc, World.size_setCell, World.size_drew] at hNB)) | ((with_reducible refine (Hcc.out _).mono ?_); rintro e wC ⟨rfl, hbC⟩; obtain ⟨NC, hNC, hcC, hfC, hsC⟩ := bcell hbC; (try simp only [World.size_alloc, World.size_setCell, World.size_drew] at hNC)) | ((with_reducible refine (Hlv.out _).mono ?_); rintro e wD ⟨rfl, hbD⟩; obtain ⟨ND, hND, hcD, hfD, hsD⟩ := bcell hbD; (try simp only [World.size_alloc, World.size_setCell, World.size_drew] at hND)))
      go_ret
      exact ⟨rfl, by (repeat (first | (with_reducible exact Below.refl _ _) | (with_reducible refine Below.drew ?_) | (with_reducible refine below_drewN ?_ _) | (with_reducible refine Below.setCell ?_ (by first | (simp; done) | (simp; omega) | omega) _) | (with_reducible refine Below.alloc ?_ (by first | (simp; done) | (simp; omega) | omega) _) | (with_reducible refine Below.trans ?_ (Below.mono (by assumption) (by first | (simp; done) | (simp; omega) | omega))) | (with_reducible refine Below.trans ?_ (Below.mono (Later.below _) (by first | (simp; done) | (simp; omega) | omega)))))⟩
end Go.Proofs.Ytcgcapfppceggaa.W
