/-
  Plain law of CollideLeast: the depth of a contact is the least one, attained along the normal or its opposite.
  Conditions: stated in each law.
-/
import Derived.Test.YtcgcapfppceggaaCoI
import Derived.Test.YtcgcapfppceggaaCoL
namespace Go.Proofs.Ytcgcapfppceggaa.Co
open Go.RowKit Go.Proofs.Ytcgcapfppceggaa.FxMath Go.Proofs.Ytcgcapfppceggaa.FxA Go.Proofs.Ytcgcapfppceggaa.Ve Go.Proofs.Ytcgcapfppceggaa.Sh
set_option linter.unusedVariables false
set_option linter.unusedSimpArgs false
/-- Whether the depth cd is attained along (nx, ny) or its opposite among the first k axes. -/
def atB (D : Int × Int → Int) (L : List (Int × Int)) (cd nx ny : Int) : Nat → Bool
  | 0 => false
  | k + 1 => atB D L cd nx ny k || (decide (D (vx L k, vy L k) = cd) && ((decide (vx L k = nx) && decide (vy L k = ny)) || (decide (-vx L k = nx) && decide (-vy L k = ny))))
theorem atB_of {D : Int × Int → Int} {L : List (Int × Int)} {cd nx ny : Int} {j : Nat} (hd : D (vx L j, vy L j) = cd) (hn : (vx L j = nx ∧ vy L j = ny) ∨ (-vx L j = nx ∧ -vy L j = ny)) : ∀ k, j < k → atB D L cd nx ny k = true
  | 0, h => by omega
  | k + 1, h => by
    unfold atB
    by_cases e : j = k
    · subst e
      rw [Bool.or_eq_true]
      right
      rcases hn with ⟨h1, h2⟩ | ⟨h1, h2⟩
      · rw [decide_eq_true hd, decide_eq_true h1, decide_eq_true h2]; rfl
      · rw [decide_eq_true hd, decide_eq_true h1, decide_eq_true h2]; simp
    · rw [atB_of hd hn k (by omega)]
      rfl
section
variable (ra : Int) (za : List (Int × Int)) (px py rb : Int) (zb : List (Int × Int)) (qx qy : Int)
theorem least_false (h : cis ra za px py rb zb qx qy = false) : cnx ra za px py rb zb qx qy = 0 ∧ cny ra za px py rb zb qx qy = 0 ∧ cdp ra za px py rb zb qx qy = 0 := by
  unfold cnx cny cdp
  rw [h]
  exact ⟨rfl, rfl, rfl⟩
theorem least_true (h : cis ra za px py rb zb qx qy = true) :
    cdp ra za px py rb zb qx qy = dpt ra za px py rb zb qx qy (cbn ra za px py rb zb qx qy) ∧
    (-1024 ≤ cnx ra za px py rb zb qx qy ∧ cnx ra za px py rb zb qx qy ≤ 1024 ∧ -1024 ≤ cny ra za px py rb zb qx qy ∧ cny ra za px py rb zb qx qy ≤ 1024) ∧
    0 ≤ ((qx - px) * cnx ra za px py rb zb qx qy + (qy - py) * cny ra za px py rb zb qx qy) / 1024 ∧
    atB (dpt ra za px py rb zb qx qy) (axs za zb (qx - px) (qy - py)) (cdp ra za px py rb zb qx qy) (cnx ra za px py rb zb qx qy) (cny ra za px py rb zb qx qy) (axs za zb (qx - px) (qy - py)).length = true := by
  obtain ⟨hm, hle⟩ := cbn_mem ra za px py rb zb qx qy
  obtain ⟨n1, n2, n3, n4⟩ := axs_bd za zb (qx - px) (qy - py) _ hm
  obtain ⟨j, hj, hjn⟩ := List.mem_iff_getElem.1 hm
  have e : (vx (axs za zb (qx - px) (qy - py)) j, vy (axs za zb (qx - px) (qy - py)) j) = cbn ra za px py rb zb qx qy := by
    have : (axs za zb (qx - px) (qy - py)).getD j (0, 0) = (axs za zb (qx - px) (qy - py))[j] := by rw [List.getD_eq_getElem?_getD, List.getElem?_eq_getElem hj]; rfl
    unfold vx vy
    rw [this, hjn]
  have ex : vx (axs za zb (qx - px) (qy - py)) j = (cbn ra za px py rb zb qx qy).1 := congrArg Prod.fst e
  have ey : vy (axs za zb (qx - px) (qy - py)) j = (cbn ra za px py rb zb qx qy).2 := congrArg Prod.snd e
  have hd : cdp ra za px py rb zb qx qy = dpt ra za px py rb zb qx qy (cbn ra za px py rb zb qx qy) := by unfold cdp; rw [h]; rfl
  have hx : cnx ra za px py rb zb qx qy = if cneg (cbn ra za px py rb zb qx qy) (qx - px) (qy - py) then -(cbn ra za px py rb zb qx qy).1 else (cbn ra za px py rb zb qx qy).1 := by unfold cnx; rw [h]; rfl
  have hy : cny ra za px py rb zb qx qy = if cneg (cbn ra za px py rb zb qx qy) (qx - px) (qy - py) then -(cbn ra za px py rb zb qx qy).2 else (cbn ra za px py rb zb qx qy).2 := by unfold cny; rw [h]; rfl
  refine ⟨hd, ?_, ?_, ?_⟩
  · rw [hx, hy]
    split <;> omega
  · rw [hx, hy]
    by_cases hc : ((qx - px) * (cbn ra za px py rb zb qx qy).1 + (qy - py) * (cbn ra za px py rb zb qx qy).2) / 1024 < 0
    · have hcb : cneg (cbn ra za px py rb zb qx qy) (qx - px) (qy - py) = true := decide_eq_true hc
      rw [hcb, if_pos rfl, if_pos rfl]
      exact cneg_turn hc
    · have hcb : cneg (cbn ra za px py rb zb qx qy) (qx - px) (qy - py) = false := decide_eq_false hc
      rw [hcb, if_neg (by decide), if_neg (by decide)]
      omega
  · refine atB_of (j := j) ?_ ?_ _ hj
    · rw [e, hd]
    · rw [ex, ey, hx, hy]
      cases cneg (cbn ra za px py rb zb qx qy) (qx - px) (qy - py)
      · left; exact ⟨rfl, rfl⟩
      · right; exact ⟨rfl, rfl⟩
/-- The least depth over all axes, as the law reckons it. -/
theorem least_full : rb2 (dpt ra za px py rb zb qx qy) (axs za zb (qx - px) (qy - py)) (axs za zb (qx - px) (qy - py)).length = dpt ra za px py rb zb qx qy (cbn ra za px py rb zb qx qy) :=
  (rb_full _ _ (axs_ne _ _ _ _)).2.2
end
end Go.Proofs.Ytcgcapfppceggaa.Co
