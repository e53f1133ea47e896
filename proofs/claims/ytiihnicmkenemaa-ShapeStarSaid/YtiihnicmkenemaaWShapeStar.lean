/-
  The walk of the law ShapeStar: it returns true at every input.
  Conditions: none.
-/
import Derived.Test.YtiihnicmkenemaaShN
import Derived.Test.YtiihnicmkenemaaQe
import Derived.Deep.Cut
import Derived.Deep.CutRange
import Derived.Deep.DeepCutAuto
namespace Go.Proofs.Ytiihnicmkenemaa.W
open Go.RowKit Go.Proofs.Ytiihnicmkenemaa.FxMath Go.Proofs.Ytiihnicmkenemaa.FxA Go.Proofs.Ytiihnicmkenemaa.Qt Go.Proofs.Ytiihnicmkenemaa.Ve Go.Proofs.Ytiihnicmkenemaa.Sh
set_option linter.unusedVariables false
set_option linter.unusedSimpArgs false
theorem star_bd (k : Int) (h0 : 1 ≤ k) (h1 : k ≤ 10000) (zs : List (Int × Int)) (h : ∀ z ∈ zs, -3 ≤ z.1 ∧ z.1 ≤ 3 ∧ -3 ≤ z.2 ∧ z.2 ≤ 3) : Bd (scl k zs) 32768 := by
  refine bd_scl h0 h1 fun i => ?_
  unfold vx vy
  rw [List.getD_eq_getElem?_getD]
  cases hz : zs[i]? with
  | none => simp
  | some z => exact h z (List.mem_of_getElem? hz)
theorem cvx_scl_false {s : Int} {zs : List (Int × Int)} (hs : 1 ≤ s) (h : cvx zs = false) : cvx (scl s zs) = false := by
  rw [Bool.eq_false_iff] at h ⊢
  intro hc
  refine h ?_
  have inv : ∀ c : Int, 0 < s * s * c → 0 < c := fun c hc => by
    rcases Int.lt_or_le 0 c with hl | hl
    · exact hl
    · have := Int.mul_nonpos_of_nonneg_of_nonpos (show 0 ≤ s * s from Int.mul_nonneg (by omega) (by omega)) hl
      omega
  rw [cvx_iff] at hc ⊢
  intro i hi
  have hg := hc i (by rw [scl_length]; exact hi)
  rw [edgB_iff] at hg ⊢
  simp only [vx_scl, vy_scl, scl_length] at hg
  refine ⟨inv _ ?_, fun k hk h1 h2 => inv _ ?_⟩
  · have := crs_scale s (vx zs i) (vy zs i) (vx zs ((i + 1) % zs.length)) (vy zs ((i + 1) % zs.length)) 0 0
    simp only [Int.mul_zero] at this
    rw [← this]; exact hg.1
  · rw [← crs_scale]; exact hg.2 k hk h1 h2
def five (K : Int) : List (Int × Int) := [(0, 3 * K), (-2 * K, -2 * K), (3 * K, K), (-3 * K, K), (2 * K, -2 * K)]
def conv (K : Int) : List (Int × Int) := [(0, 3 * K), (-3 * K, K), (-2 * K, -2 * K), (2 * K, -2 * K), (3 * K, K)]
theorem five_scl (K : Int) : five K = scl K [(0, 3), (-2, -2), (3, 1), (-3, 1), (2, -2)] := by simp [five, scl]; omega
theorem conv_scl (K : Int) : conv K = scl K [(0, 3), (-3, 1), (-2, -2), (2, -2), (3, 1)] := by simp [conv, scl]; omega
set_option maxRecDepth 100000 in
set_option maxHeartbeats 4000000 in
theorem ShapeStar_walk (a0 : Int) (w : World) (w0 : (Lit.int .i64 a0).wf = true) :
    Calls Try.prog 5 #[.int .i64 a0] w fun e w' => e = .returned (.bool true) ∧ Below w.heap.size w w' := by
  have i0 := i64_bd w0
  have ca := gives_same (fun w => around_any a0 10000 w i0.1 i0.2 (by omega) (by omega))
  have ga := aro_bd a0 10000 (by decide)
  generalize aro a0 10000 = k at *
  obtain ⟨ga0, ga1⟩ := ga
  have lv := lives_any
  have Hca := Lib.hid ca; have Hlv := Lib.hid lv; clear ca lv
  have hal := alloc_if; have hfal := allocF_if
  go_enter Try.func5, Try.ntmps5
  go_upto_region 3 with (first | ((with_reducible refine (Hca.out _).mono ?_); rintro e wA ⟨rfl, hbA⟩; obtain ⟨NA, hNA, hcA, hfA, hsA⟩ := bcell hbA; (try simp only [World.size_alloc, World.size_setCell, World.size_drew] at hNA)))
  have K0 : 1 ≤ 1 + k := by omega
  have K1 : 1 + k ≤ 10000 := by omega
  have pF : IsPoly (wA.alloc (.cells #[.int .i64 0, .int .i64 (3 * (1 + k)), .int .i64 (-2 * (1 + k)), .int .i64 (-2 * (1 + k)), .int .i64 (3 * (1 + k)), .int .i64 (1 + k), .int .i64 (-3 * (1 + k)), .int .i64 (1 + k), .int .i64 (2 * (1 + k)), .int .i64 (-2 * (1 + k))] 27)) (some ⟨wA.heap.size, 0, none⟩) 5 5 (five (1 + k)) :=
    poly_of_block (zs := five (1 + k)) (t := 27) (World.alloc_heap_new wA _) (by simp [five, maxLen])
  have vF := fun W (hW : Below _ _ W) => validate_poly _ 5 5 _ W (pF.later hW) (by decide) (by decide) (by rw [five_scl]; exact star_bd _ K0 K1 _ (by decide))
  rw [show cvx (five (1 + k)) = false by rw [five_scl]; exact cvx_scl_false K0 (by decide)] at vF
  simp only [Bool.false_eq_true, if_false] at vF
  have HvF := Lib.hid vF; clear vF
  clear pF
  refine wp_region_later_tail 15 (by kernel_rfl) (by kernel_rfl) fun NL hL => ?_; obtain ⟨hNL, hlc, hlf⟩ := hL; (try simp only [World.size_alloc, World.size_setCell, World.size_drew] at hNL); simp only [List.take_succ_cons, List.take_zero, List.drop_succ_cons, List.drop_zero]
  repeat (go_big_quiet_step (fail))
  (refine wpQuiet_nil ?_; intro w1 hw1; obtain ⟨⟨w1, hb1⟩, rfl⟩ := hw1; clear hlc hlf hNL NL; obtain ⟨N1, hN1, hc1, hf1, hs1⟩ := bcell hb1; (try simp only [World.size_alloc, World.size_setCell, World.size_drew] at hN1))
  have pC : IsPoly (w1.alloc (.cells #[.int .i64 0, .int .i64 (3 * (1 + k)), .int .i64 (-3 * (1 + k)), .int .i64 (1 + k), .int .i64 (-2 * (1 + k)), .int .i64 (-2 * (1 + k)), .int .i64 (2 * (1 + k)), .int .i64 (-2 * (1 + k)), .int .i64 (3 * (1 + k)), .int .i64 (1 + k)] 27)) (some ⟨w1.heap.size, 0, none⟩) 5 5 (conv (1 + k)) :=
    poly_of_block (zs := conv (1 + k)) (t := 27) (World.alloc_heap_new w1 _) (by simp [conv, maxLen])
  have vC := fun W (hW : Below _ _ W) => validate_poly _ 5 5 _ W (pC.later hW) (by decide) (by decide) (by rw [conv_scl]; exact star_bd _ K0 K1 _ (by decide))
  rw [show cvx (conv (1 + k)) = true by rw [conv_scl]; exact cvx_scl K0 (by decide)] at vC
  simp only [if_true] at vC
  have HvC := Lib.hid vC; clear vC
  clear pC
  go_wp2_with (first | ((with_reducible refine (HvF.out _ (by (repeat (first | (with_reducible exact Below.refl _ _) | (with_reducible refine Below.drew ?_) | (with_reducible refine below_drewN ?_ _) | (with_reducible refine Below.setCell ?_ (by first | (simp; done) | (simp; omega) | omega) _) | (with_reducible refine Below.alloc ?_ (by first | (simp; done) | (simp; omega) | omega) _) | (with_reducible refine Below.trans ?_ (Below.mono (by assumption) (by first | (simp; done) | (simp; omega) | omega))) | (with_reducible refine Below.trans ?_ (Below.mono (Later.below _) (by first | (simp; done) | (simp; omega) | omega))))))).mono ?_); rintro e wB ⟨rfl, hbB⟩; obtain ⟨NB, hNB, hcB, hfB, hsB⟩ := bcell hbB; (try simp only [World.size_alloc, World.size_setCell, World.size_drew] at hNB)) | ((with_reducible refine (HvC.out _ (by (repeat (first | (with_reducible exact Below.refl _ _) | (with_reducible refine Below.drew ?_) | (with_reducible refine below_drewN ?_ _) | (with_reducible refine Below.setCell ?_ (by first | (simp; done) | (simp; omega) | omega) _) | (with_reducible refine Below.alloc ?_ (by first | (simp; done) | (simp; omega) | omega) _) | (with_reducible refine Below.trans ?_ (Below.mono (by assumption) (by first | (simp; done) | (simp; omega) | omega))) | (with_reducible refine Below.trans ?_ (Below.mono (Later.below _) (by first | (simp; done) | (simp; omega) | omega))))))).mono ?_); rintro e wC ⟨rfl, hbC⟩; obtain ⟨NC, hNC, hcC, hfC, hsC⟩ := bcell hbC; (try simp only [World.size_alloc, World.size_setCell, World.size_drew] at hNC)) | ((with_reducible refine (Hlv.out _).mono ?_); rintro e wD ⟨rfl, hbD⟩; obtain ⟨ND, hND, hcD, hfD, hsD⟩ := bcell hbD; (try simp only [World.size_alloc, World.size_setCell, World.size_drew] at hND)))
  go_ret
  exact ⟨rfl, by (repeat (first | (with_reducible exact Below.refl _ _) | (with_reducible refine Below.drew ?_) | (with_reducible refine below_drewN ?_ _) | (with_reducible refine Below.setCell ?_ (by first | (simp; done) | (simp; omega) | omega) _) | (with_reducible refine Below.alloc ?_ (by first | (simp; done) | (simp; omega) | omega) _) | (with_reducible refine Below.trans ?_ (Below.mono (by assumption) (by first | (simp; done) | (simp; omega) | omega))) | (with_reducible refine Below.trans ?_ (Below.mono (Later.below _) (by first | (simp; done) | (simp; omega) | omega)))))⟩
end Go.Proofs.Ytiihnicmkenemaa.W
