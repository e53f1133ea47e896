/-
  The section's example of package jitter works; contracts of an estimator in later worlds.
  Conditions: stated in each contract.
-/
import Derived.Test.YtbepnjlgneialaaJiE
namespace Go.Proofs.Ytbepnjlgneialaa.Ji
open Go Go.RowKit Go.Proofs.Ytbepnjlgneialaa.FxA Go.Proofs.Ytbepnjlgneialaa.Qt
set_option linter.unusedVariables false
set_option linter.unusedSimpArgs false
theorem isL_block {w : World} {B : Nat} {t : TypeId} {zs : List Int} (h : w.heap[B]? = some (.cells (zs.map (Value.int .i64)).toArray t (0, 0))) (hn : zs.length ≤ maxLen) (hw : ∀ x ∈ zs, (Lit.int .i64 x).wf = true) : IsL w (some ⟨B, 0, none⟩) zs.length zs.length zs := by
  refine ⟨rfl, Nat.le_refl _, hn, .inr ⟨B, 0, rfl, fun i hi => ?_⟩, hw⟩
  simp [World.cell?, h, List.getElem?_map, List.getD_eq_getElem?_getD, List.getElem?_eq_getElem hi]
section
variable {w : World} {b : Nat} {K : List Int}
theorem Est.q (h : Est w b K) (p : Int) (W : World) (hW : Below w.heap.size w W) : Calls Try.prog 12 #[.pointer (some ⟨b, 0, none⟩), .int .i64 p] W fun e w' => e = .returned (.int .i64 (qnt K p)) ∧ Below W.heap.size W w' := quantile_est W b K (h.later hW) p
theorem Est.i (h : Est w b K) (W : World) (hW : Below w.heap.size w W) : Calls Try.prog 13 #[.pointer (some ⟨b, 0, none⟩)] W fun e w' => e = .returned (.int .i64 (min 8 (qnt K 900))) ∧ Below W.heap.size W w' := inputDelay_est W b K (h.later hW)
theorem Est.wi (h : Est w b K) (hb : ∀ x ∈ K, 0 ≤ x ∧ x ≤ 60) (W : World) (hW : Below w.heap.size w W) : Calls Try.prog 14 #[.pointer (some ⟨b, 0, none⟩)] W fun e w' => e = .returned (.int .i64 (min (qnt K 1000 + 1) 12)) ∧ Below W.heap.size W w' := window_est W b K (h.later hW) hb
end
theorem qnt_is {K : List Int} (h : K ≠ []) {p v : Int} (h1 : rk K.length p < atm K v) (h2 : ¬ rk K.length p < atm K (v - 1)) : qnt K p = v := by
  have a := (qnt_le_iff h p v).2 h1
  have b : ¬ qnt K p ≤ v - 1 := fun hc => h2 ((qnt_le_iff h p (v - 1)).1 hc)
  omega
set_option maxHeartbeats 2000000 in
theorem lives_any : Gives Try.prog 20 #[] (.bool true) := by
  intro w
  have hL : IsL (w.alloc (.cells #[.int .i64 4, .int .i64 1, .int .i64 9] 3)) (some ⟨w.heap.size, 0, none⟩) 3 3 [4, 1, 9] := isL_block (t := 3) (zs := [4, 1, 9]) (World.alloc_heap_new w _) (by unfold maxLen; decide) (by decide)
  have cf := filled_any _ 3 3 [4, 1, 9] _ hL (by decide)
  have k3 : kept [4, 1, 9] = [4, 1, 9] := by decide
  rw [k3] at cf
  have v1 : qnt [4, 1, 9] 500 = 4 := qnt_is (by decide) (by decide) (by decide)
  have v2 : qnt [4, 1, 9] 900 = 9 := qnt_is (by decide) (by decide) (by decide)
  have v3 : qnt [4, 1, 9] 1000 = 9 := qnt_is (by decide) (by decide) (by decide)
  have key : ∀ (W : World) (b : Nat), Est W b [4, 1, 9] → (∀ V, Below W.heap.size W V → Calls Try.prog 12 #[.pointer (some ⟨b, 0, none⟩), .int .i64 500] V fun e w' => e = .returned (.int .i64 4) ∧ Below V.heap.size V w') ∧
      (∀ V, Below W.heap.size W V → Calls Try.prog 12 #[.pointer (some ⟨b, 0, none⟩), .int .i64 900] V fun e w' => e = .returned (.int .i64 9) ∧ Below V.heap.size V w') ∧
      (∀ V, Below W.heap.size W V → Calls Try.prog 13 #[.pointer (some ⟨b, 0, none⟩)] V fun e w' => e = .returned (.int .i64 8) ∧ Below V.heap.size V w') ∧
      (∀ V, Below W.heap.size W V → Calls Try.prog 14 #[.pointer (some ⟨b, 0, none⟩)] V fun e w' => e = .returned (.int .i64 10) ∧ Below V.heap.size V w') := by
    intro W b h
    refine ⟨fun V hV => ?_, fun V hV => ?_, fun V hV => ?_, fun V hV => ?_⟩
    · have := h.q 500 V hV; rwa [v1] at this
    · have := h.q 900 V hV; rwa [v2] at this
    · have := h.i V hV; rwa [v2] at this
    · have := h.wi (by decide) V hV; rwa [v3] at this
  have Hcf := Lib.hid cf; have Hkey := Lib.hid key; clear cf key
  clear hL k3 v1 v2 v3
  go_enter Try.func20, Try.ntmps20
  go_wp2_with (first | ((with_reducible refine (Hcf.out).mono ?_); rintro e WE ⟨b, rfl, hE, hbE⟩; (obtain ⟨NE, hNE, hcE, hfE, hsE⟩ := bcell hbE; (try simp only [World.size_alloc, World.size_setCell, World.size_drew] at hNE)); obtain ⟨g1, g2, g3, g4⟩ := Hkey.out WE b hE; have G1 := Lib.hid g1; have G2 := Lib.hid g2; have G3 := Lib.hid g3; have G4 := Lib.hid g4; clear g1 g2 g3 g4 hE) | ((with_reducible refine (G1.out _ (by (repeat (first | (with_reducible exact Below.refl _ _) | (with_reducible refine Below.drew ?_) | (with_reducible refine below_drewN ?_ _) | (with_reducible refine Below.setCell ?_ (by first | (simp; done) | (simp; omega) | omega) _) | (with_reducible refine Below.alloc ?_ (by first | (simp; done) | (simp; omega) | omega) _) | (with_reducible refine Below.trans ?_ (Below.mono (by assumption) (by first | (simp; done) | (simp; omega) | omega))) | (with_reducible refine Below.trans ?_ (Below.mono (Later.below _) (by first | (simp; done) | (simp; omega) | omega))))))).mono ?_); rintro e wA ⟨rfl, hbA⟩; obtain ⟨NA, hNA, hcA, hfA, hsA⟩ := bcell hbA; (try simp only [World.size_alloc, World.size_setCell, World.size_drew] at hNA)) | ((with_reducible refine (G2.out _ (by (repeat (first | (with_reducible exact Below.refl _ _) | (with_reducible refine Below.drew ?_) | (with_reducible refine below_drewN ?_ _) | (with_reducible refine Below.setCell ?_ (by first | (simp; done) | (simp; omega) | omega) _) | (with_reducible refine Below.alloc ?_ (by first | (simp; done) | (simp; omega) | omega) _) | (with_reducible refine Below.trans ?_ (Below.mono (by assumption) (by first | (simp; done) | (simp; omega) | omega))) | (with_reducible refine Below.trans ?_ (Below.mono (Later.below _) (by first | (simp; done) | (simp; omega) | omega))))))).mono ?_); rintro e wB ⟨rfl, hbB⟩; obtain ⟨NB, hNB, hcB, hfB, hsB⟩ := bcell hbB; (try simp only [World.size_alloc, World.size_setCell, World.size_drew] at hNB)) | ((with_reducible refine (G3.out _ (by (repeat (first | (with_reducible exact Below.refl _ _) | (with_reducible refine Below.drew ?_) | (with_reducible refine below_drewN ?_ _) | (with_reducible refine Below.setCell ?_ (by first | (simp; done) | (simp; omega) | omega) _) | (with_reducible refine Below.alloc ?_ (by first | (simp; done) | (simp; omega) | omega) _) | (with_reducible refine Below.trans ?_ (Below.mono (by assumption) (by first | (simp; done) | (simp; omega) | omega))) | (with_reducible refine Below.trans ?_ (Below.mono (Later.below _) (by first | (simp; done) | (simp; omega) | omega))))))).mono ?_); rintro e wC ⟨rfl, hbC⟩; obtain ⟨NC, hNC, hcC, hfC, hsC⟩ := bcell hbC; (try simp only [World.size_alloc, World.size_setCell, World.size_drew] at hNC)) | ((with_reducible refine (G4.out _ (by (repeat (first | (with_reducible exact Below.refl _ _) | (with_reducible refine Below.drew ?_) | (with_reducible refine below_drewN ?_ _) | (with_reducible refine Below.setCell ?_ (by first | (simp; done) | (simp; omega) | omega) _) | (with_reducible refine Below.alloc ?_ (by first | (simp; done) | (simp; omega) | omega) _) | (with_reducible refine Below.trans ?_ (Below.mono (by assumption) (by first | (simp; done) | (simp; omega) | omega))) | (with_reducible refine Below.trans ?_ (Below.mono (Later.below _) (by first | (simp; done) | (simp; omega) | omega))))))).mono ?_); rintro e wD ⟨rfl, hbD⟩; obtain ⟨ND, hND, hcD, hfD, hsD⟩ := bcell hbD; (try simp only [World.size_alloc, World.size_setCell, World.size_drew] at hND)))
  go_ret
  exact ⟨rfl, by (repeat (first | (with_reducible exact Below.refl _ _) | (with_reducible refine Below.drew ?_) | (with_reducible refine below_drewN ?_ _) | (with_reducible refine Below.setCell ?_ (by first | (simp; done) | (simp; omega) | omega) _) | (with_reducible refine Below.alloc ?_ (by first | (simp; done) | (simp; omega) | omega) _) | (with_reducible refine Below.trans ?_ (Below.mono (by assumption) (by first | (simp; done) | (simp; omega) | omega))) | (with_reducible refine Below.trans ?_ (Below.mono (Later.below _) (by first | (simp; done) | (simp; omega) | omega)))))⟩
end Go.Proofs.Ytbepnjlgneialaa.Ji
