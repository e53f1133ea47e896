/-
  The section's examples of package shape: they work.
  Conditions: none.
-/
import Derived.Test.YtiihnicmkenemaaShL
namespace Go.Proofs.Ytiihnicmkenemaa.Sh
open Go.RowKit Go.Proofs.Ytiihnicmkenemaa.FxMath Go.Proofs.Ytiihnicmkenemaa.FxA Go.Proofs.Ytiihnicmkenemaa.Qt Go.Proofs.Ytiihnicmkenemaa.Ve Go.Shelf
set_option linter.unusedVariables false
set_option linter.unusedSimpArgs false
def sqz : List (Int × Int) := [(-2, -2), (2, -2), (2, 2), (-2, 2)]
theorem sq_bd : Bd sqz 32768 := by
  intro i
  unfold vx vy sqz
  rw [List.getD_eq_getElem?_getD]
  match i with
  | 0 => decide
  | 1 => decide
  | 2 => decide
  | 3 => decide
  | j + 4 => rw [List.getElem?_eq_none (by simp)]; decide
set_option maxHeartbeats 4000000 in
theorem lives_any : Gives Try.prog 16 #[] (.bool true) := by
  intro w
  have vz := validate_zero none 0
  have hs : ShAt (w.alloc (.cells #[.int .i64 (-2), .int .i64 (-2), .int .i64 2, .int .i64 (-2), .int .i64 2, .int .i64 2, .int .i64 (-2), .int .i64 2] 27)) 0 (some ⟨w.heap.size, 0, none⟩) 4 4 sqz :=
    ⟨.inr ⟨rfl, by decide, by decide, sq_bd, by decide⟩, poly_of_block (zs := sqz) (t := 27) (World.alloc_heap_new w _) (by decide)⟩
  have hc : ShAt w 5 none 0 0 [] := ⟨.inl ⟨rfl, rfl, rfl, rfl, by decide, by decide⟩, .inl ⟨rfl, rfl, rfl, rfl⟩⟩
  have v1 := validate_s hs
  have v2 : Gives Try.prog 18 #[.agg #[.int .i64 5, .slice none 0 0]] (.int .i64 0) := validate_circle 5 none 0 (by decide)
  have b1 := bounds_s hs 10 0 (by decide) (by decide)
  have c1 := contains_s hs 10 0 12 2 (by decide) (by decide)
  have c2 := contains_s hs 10 0 13 0 (by decide) (by decide)
  have c3 := fun W => contains_circle 5 0 0 3 4 none 0 (by decide) (by decide) (by decide) W
  have c4 := fun W => contains_circle 5 0 0 4 4 none 0 (by decide) (by decide) (by decide) W
  simp only [show bx0 0 4 sqz 10 = 8 from by decide, show by0 0 4 sqz 0 = -2 from by decide, show bx1 0 4 sqz 10 = 12 from by decide, show by1 0 4 sqz 0 = 2 from by decide] at b1
  simp only [show sct 0 4 sqz (12 - 10) (2 - 0) = true from by decide] at c1
  simp only [show sct 0 4 sqz (13 - 10) (0 - 0) = false from by decide] at c2
  rw [show (decide (((3 : Int) - 0) * (3 - 0) + (4 - 0) * (4 - 0) ≤ 5 * 5)) = true from by decide] at c3
  rw [show (decide (((4 : Int) - 0) * (4 - 0) + (4 - 0) * (4 - 0) ≤ 5 * 5)) = false from by decide] at c4
  have Hvz := Lib.hid vz; have Hv1 := Lib.hid v1; have Hv2 := Lib.hid v2; have Hb1 := Lib.hid b1; have Hc1 := Lib.hid c1; have Hc2 := Lib.hid c2; have Hc3 := Lib.hid c3; have Hc4 := Lib.hid c4; clear vz v1 v2 b1 c1 c2 c3 c4
  clear hs hc
  have hal := alloc_if; have hfal := allocF_if
  go_enter Try.func16, Try.ntmps16
  go_wp2_with (first | ((with_reducible refine (Hv1.out _ (by (repeat (first | (with_reducible exact Below.refl _ _) | (with_reducible refine Below.drew ?_) | (with_reducible refine below_drewN ?_ _) | (with_reducible refine Below.setCell ?_ (by first | (simp; done) | (simp; omega) | omega) _) | (with_reducible refine Below.alloc ?_ (by first | (simp; done) | (simp; omega) | omega) _) | (with_reducible refine Below.trans ?_ (Below.mono (by assumption) (by first | (simp; done) | (simp; omega) | omega))) | (with_reducible refine Below.trans ?_ (Below.mono (Later.below _) (by first | (simp; done) | (simp; omega) | omega))))))).mono ?_); rintro e wA ⟨rfl, hbA⟩; obtain ⟨NA, hNA, hcA, hfA, hsA⟩ := bcell hbA; (try simp only [World.size_alloc, World.size_setCell, World.size_drew] at hNA)) | ((with_reducible refine (Hv2.out _).mono ?_); rintro e wB ⟨rfl, hbB⟩; obtain ⟨NB, hNB, hcB, hfB, hsB⟩ := bcell hbB; (try simp only [World.size_alloc, World.size_setCell, World.size_drew] at hNB)) | ((with_reducible refine (Hvz.out _).mono ?_); rintro e wC ⟨rfl, hbC⟩; obtain ⟨NC, hNC, hcC, hfC, hsC⟩ := bcell hbC; (try simp only [World.size_alloc, World.size_setCell, World.size_drew] at hNC)) | ((with_reducible refine (Hb1.out _ (by (repeat (first | (with_reducible exact Below.refl _ _) | (with_reducible refine Below.drew ?_) | (with_reducible refine below_drewN ?_ _) | (with_reducible refine Below.setCell ?_ (by first | (simp; done) | (simp; omega) | omega) _) | (with_reducible refine Below.alloc ?_ (by first | (simp; done) | (simp; omega) | omega) _) | (with_reducible refine Below.trans ?_ (Below.mono (by assumption) (by first | (simp; done) | (simp; omega) | omega))) | (with_reducible refine Below.trans ?_ (Below.mono (Later.below _) (by first | (simp; done) | (simp; omega) | omega))))))).mono ?_); rintro e wD ⟨rfl, hbD⟩; obtain ⟨ND, hND, hcD, hfD, hsD⟩ := bcell hbD; (try simp only [World.size_alloc, World.size_setCell, World.size_drew] at hND)) | ((with_reducible refine (Hc1.out _ (by (repeat (first | (with_reducible exact Below.refl _ _) | (with_reducible refine Below.drew ?_) | (with_reducible refine below_drewN ?_ _) | (with_reducible refine Below.setCell ?_ (by first | (simp; done) | (simp; omega) | omega) _) | (with_reducible refine Below.alloc ?_ (by first | (simp; done) | (simp; omega) | omega) _) | (with_reducible refine Below.trans ?_ (Below.mono (by assumption) (by first | (simp; done) | (simp; omega) | omega))) | (with_reducible refine Below.trans ?_ (Below.mono (Later.below _) (by first | (simp; done) | (simp; omega) | omega))))))).mono ?_); rintro e wE ⟨rfl, hbE⟩; obtain ⟨NE, hNE, hcE, hfE, hsE⟩ := bcell hbE; (try simp only [World.size_alloc, World.size_setCell, World.size_drew] at hNE)) | ((with_reducible refine (Hc2.out _ (by (repeat (first | (with_reducible exact Below.refl _ _) | (with_reducible refine Below.drew ?_) | (with_reducible refine below_drewN ?_ _) | (with_reducible refine Below.setCell ?_ (by first | (simp; done) | (simp; omega) | omega) _) | (with_reducible refine Below.alloc ?_ (by first | (simp; done) | (simp; omega) | omega) _) | (with_reducible refine Below.trans ?_ (Below.mono (by assumption) (by first | (simp; done) | (simp; omega) | omega))) | (with_reducible refine Below.trans ?_ (Below.mono (Later.below _) (by first | (simp; done) | (simp; omega) | omega))))))).mono ?_); rintro e wF ⟨rfl, hbF⟩; obtain ⟨NF, hNF, hcF, hfF, hsF⟩ := bcell hbF; (try simp only [World.size_alloc, World.size_setCell, World.size_drew] at hNF)) | ((with_reducible refine (Hc3.out _).mono ?_); rintro e wG ⟨rfl, hbG⟩; obtain ⟨NG, hNG, hcG, hfG, hsG⟩ := bcell hbG; (try simp only [World.size_alloc, World.size_setCell, World.size_drew] at hNG)) | ((with_reducible refine (Hc4.out _).mono ?_); rintro e wH ⟨rfl, hbH⟩; obtain ⟨NH, hNH, hcH, hfH, hsH⟩ := bcell hbH; (try simp only [World.size_alloc, World.size_setCell, World.size_drew] at hNH)))
  go_ret
  exact ⟨rfl, by (repeat (first | (with_reducible exact Below.refl _ _) | (with_reducible refine Below.drew ?_) | (with_reducible refine below_drewN ?_ _) | (with_reducible refine Below.setCell ?_ (by first | (simp; done) | (simp; omega) | omega) _) | (with_reducible refine Below.alloc ?_ (by first | (simp; done) | (simp; omega) | omega) _) | (with_reducible refine Below.trans ?_ (Below.mono (by assumption) (by first | (simp; done) | (simp; omega) | omega))) | (with_reducible refine Below.trans ?_ (Below.mono (Later.below _) (by first | (simp; done) | (simp; omega) | omega)))))⟩
end Go.Proofs.Ytiihnicmkenemaa.Sh
