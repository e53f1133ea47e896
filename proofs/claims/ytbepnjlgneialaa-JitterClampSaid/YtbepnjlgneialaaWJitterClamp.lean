/-
  The walk of the law JitterClamp: it returns true at every input.
  Conditions: none.
-/
import Derived.Test.YtbepnjlgneialaaJiL
namespace Go.Proofs.Ytbepnjlgneialaa.W
open Go Go.RowKit Go.Proofs.Ytbepnjlgneialaa.FxA Go.Proofs.Ytbepnjlgneialaa.Qt Go.Proofs.Ytbepnjlgneialaa.Ji
set_option linter.unusedVariables false
set_option linter.unusedSimpArgs false
set_option maxRecDepth 100000 in
set_option maxHeartbeats 2000000 in
theorem JitterClamp_walk (a0 a1 : Int) (w : World) (w0 : (Lit.int .i64 a0).wf = true) (w1 : (Lit.int .i64 a1).wf = true) :
    Calls Try.prog 4 #[.int .i64 a0, .int .i64 a1] w fun e w' => e = .returned (.bool true) ∧ Below w.heap.size w w' := by
  have hL : IsL (w.alloc (.cells #[.int .i64 a0] 3)) (some ⟨w.heap.size, 0, none⟩) 1 1 [a0] := isL_block (t := 3) (zs := [a0]) (World.alloc_heap_new w _) (by simp [maxLen]) (by simpa using w0)
  have cf := filled_any _ 1 1 [a0] _ hL (by decide)
  rw [show kept [a0] = [c60 a0] from rfl] at cf
  have hb : ∀ x ∈ [c60 a0], 0 ≤ x ∧ x ≤ 60 := by intro x hx; simp at hx; subst hx; unfold c60; omega
  have Hb := Lib.hid hb
  have i0 := i64_bd w0
  obtain ⟨i00, i01⟩ := i0
  have lv := lives_any
  have Hcf := Lib.hid cf; have Hlv := Lib.hid lv; clear cf lv
  clear hL hb
  go_enter Try.func4, Try.ntmps4
  go_wp2_with (first | ((with_reducible refine (Hcf.out).mono ?_); rintro e WE ⟨b, rfl, hE, hbE⟩; (obtain ⟨NE, hNE, hcE, hfE, hsE⟩ := bcell hbE; (try simp only [World.size_alloc, World.size_setCell, World.size_drew] at hNE)); have G1 := Lib.hid (hE.q a1); have G2 := Lib.hid hE.i; have G3 := Lib.hid (hE.wi Hb.out); rw [qnt_one] at G1 G2 G3; rw [show c60 a0 = min 60 (max 0 a0) from rfl] at G1 G2 G3; rw [Int.min_comm _ 12] at G3; clear hE) | ((with_reducible refine (G1.out _ (by (repeat (first | (with_reducible exact Below.refl _ _) | (with_reducible refine Below.drew ?_) | (with_reducible refine below_drewN ?_ _) | (with_reducible refine Below.setCell ?_ (by first | (simp; done) | (simp; omega) | omega) _) | (with_reducible refine Below.alloc ?_ (by first | (simp; done) | (simp; omega) | omega) _) | (with_reducible refine Below.trans ?_ (Below.mono (by assumption) (by first | (simp; done) | (simp; omega) | omega))) | (with_reducible refine Below.trans ?_ (Below.mono (Later.below _) (by first | (simp; done) | (simp; omega) | omega))))))).mono ?_); rintro e wA ⟨rfl, hbA⟩; obtain ⟨NA, hNA, hcA, hfA, hsA⟩ := bcell hbA; (try simp only [World.size_alloc, World.size_setCell, World.size_drew] at hNA)) | ((with_reducible refine (G2.out _ (by (repeat (first | (with_reducible exact Below.refl _ _) | (with_reducible refine Below.drew ?_) | (with_reducible refine below_drewN ?_ _) | (with_reducible refine Below.setCell ?_ (by first | (simp; done) | (simp; omega) | omega) _) | (with_reducible refine Below.alloc ?_ (by first | (simp; done) | (simp; omega) | omega) _) | (with_reducible refine Below.trans ?_ (Below.mono (by assumption) (by first | (simp; done) | (simp; omega) | omega))) | (with_reducible refine Below.trans ?_ (Below.mono (Later.below _) (by first | (simp; done) | (simp; omega) | omega))))))).mono ?_); rintro e wB ⟨rfl, hbB⟩; obtain ⟨NB, hNB, hcB, hfB, hsB⟩ := bcell hbB; (try simp only [World.size_alloc, World.size_setCell, World.size_drew] at hNB)) | ((with_reducible refine (G3.out _ (by (repeat (first | (with_reducible exact Below.refl _ _) | (with_reducible refine Below.drew ?_) | (with_reducible refine below_drewN ?_ _) | (with_reducible refine Below.setCell ?_ (by first | (simp; done) | (simp; omega) | omega) _) | (with_reducible refine Below.alloc ?_ (by first | (simp; done) | (simp; omega) | omega) _) | (with_reducible refine Below.trans ?_ (Below.mono (by assumption) (by first | (simp; done) | (simp; omega) | omega))) | (with_reducible refine Below.trans ?_ (Below.mono (Later.below _) (by first | (simp; done) | (simp; omega) | omega))))))).mono ?_); rintro e wC ⟨rfl, hbC⟩; obtain ⟨NC, hNC, hcC, hfC, hsC⟩ := bcell hbC; (try simp only [World.size_alloc, World.size_setCell, World.size_drew] at hNC)) | ((with_reducible refine (Hlv.out _).mono ?_); rintro e wD ⟨rfl, hbD⟩; obtain ⟨ND, hND, hcD, hfD, hsD⟩ := bcell hbD; (try simp only [World.size_alloc, World.size_setCell, World.size_drew] at hND)))
  go_ret
  exact ⟨rfl, by (repeat (first | (with_reducible exact Below.refl _ _) | (with_reducible refine Below.drew ?_) | (with_reducible refine below_drewN ?_ _) | (with_reducible refine Below.setCell ?_ (by first | (simp; done) | (simp; omega) | omega) _) | (with_reducible refine Below.alloc ?_ (by first | (simp; done) | (simp; omega) | omega) _) | (with_reducible refine Below.trans ?_ (Below.mono (by assumption) (by first | (simp; done) | (simp; omega) | omega))) | (with_reducible refine Below.trans ?_ (Below.mono (Later.below _) (by first | (simp; done) | (simp; omega) | omega)))))⟩
end Go.Proofs.Ytbepnjlgneialaa.W
