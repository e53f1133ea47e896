/-
  What package collide computes, in plain words: unit axes, the axes of two shapes, the depth along an axis, the least one.
  Conditions: none.
-/
import Derived.Test.YtcgcapfppceggaaShL
namespace Go.Proofs.Ytcgcapfppceggaa.Co
open Go.RowKit Go.Proofs.Ytcgcapfppceggaa.FxMath Go.Proofs.Ytcgcapfppceggaa.FxA Go.Proofs.Ytcgcapfppceggaa.Ve Go.Proofs.Ytcgcapfppceggaa.Sh
set_option linter.unusedVariables false
set_option linter.unusedSimpArgs false
/-- A normalized vector. -/
def nmx (x y : Int) : Int := fdv (x * 1024) (isq (x * x + y * y))
def nmy (x y : Int) : Int := fdv (y * 1024) (isq (x * x + y * y))
/-- The axis in a direction. -/
def unx (x y : Int) : Int := if nmx x y = 0 ∧ nmy x y = 0 then 1024 else nmx x y
def uny (x y : Int) : Int := if nmx x y = 0 ∧ nmy x y = 0 then 0 else nmy x y
/-- The first index of the least number among the first k + 1. -/
def argl (g : Nat → Int) : Nat → Nat
  | 0 => 0
  | k + 1 => if g (k + 1) < g (argl g k) then k + 1 else argl g k
theorem argl_le (g : Nat → Int) : ∀ k, argl g k ≤ k
  | 0 => Nat.le_refl _
  | k + 1 => by
    have := argl_le g k
    unfold argl
    split <;> omega
theorem argl_least (g : Nat → Int) : ∀ k i, i ≤ k → g (argl g k) ≤ g i
  | 0, i, h => by obtain rfl : i = 0 := by omega
                  exact Int.le_refl _
  | k + 1, i, h => by
    unfold argl
    by_cases hi : i = k + 1
    · subst hi; split <;> omega
    · have := argl_least g k i (by omega)
      split <;> omega
/-- The edges' axes. -/
def edx (zs : List (Int × Int)) (i : Nat) : Int := unx (vy zs ((i + 1) % zs.length) - vy zs i) (vx zs i - vx zs ((i + 1) % zs.length))
def edy (zs : List (Int × Int)) (i : Nat) : Int := uny (vy zs ((i + 1) % zs.length) - vy zs i) (vx zs i - vx zs ((i + 1) % zs.length))
def edn (zs : List (Int × Int)) (i : Nat) : Int × Int := (edx zs i, edy zs i)
def eax (zs : List (Int × Int)) : List (Int × Int) := (List.range zs.length).map (edn zs)
/-- The vector to the nearest vertex. -/
def sqd (zs : List (Int × Int)) (ox oy : Int) (i : Nat) : Int := (ox + vx zs i) * (ox + vx zs i) + (oy + vy zs i) * (oy + vy zs i)
def nri (zs : List (Int × Int)) (ox oy : Int) : Nat := argl (sqd zs ox oy) (zs.length - 1)
def tvx (zs : List (Int × Int)) (ox oy : Int) : Int := ox + vx zs (nri zs ox oy)
def tvy (zs : List (Int × Int)) (ox oy : Int) : Int := oy + vy zs (nri zs ox oy)
/-- The axis of a circle, if there is one. -/
def cax (za zb : List (Int × Int)) (dx dy : Int) : List (Int × Int) :=
  if za.length = 0 then (if zb.length = 0 then [(unx dx dy, uny dx dy)] else [(unx (tvx zb dx dy) (tvy zb dx dy), uny (tvx zb dx dy) (tvy zb dx dy))])
  else if zb.length = 0 then [(unx (tvx za (-dx) (-dy)) (tvy za (-dx) (-dy)), uny (tvx za (-dx) (-dy)) (tvy za (-dx) (-dy)))] else []
/-- The axes of two shapes. -/
def axs (za zb : List (Int × Int)) (dx dy : Int) : List (Int × Int) := eax za ++ (eax zb ++ cax za zb dx dy)
/-- The ends of a projection. -/
def pl (r : Int) (zs : List (Int × Int)) (x y : Int) (n : Int × Int) : Int := plo r zs.length zs x y n.1 n.2
def ph (r : Int) (zs : List (Int × Int)) (x y : Int) (n : Int × Int) : Int := phi r zs.length zs x y n.1 n.2
/-- The depth along an axis. -/
def dpt (ra : Int) (za : List (Int × Int)) (px py rb : Int) (zb : List (Int × Int)) (qx qy : Int) (n : Int × Int) : Int := min (ph ra za px py n) (ph rb zb qx qy n) - max (pl ra za px py n) (pl rb zb qx qy n)
/-- Whether the bounds overlap. -/
def ovl (ra : Int) (za : List (Int × Int)) (px py rb : Int) (zb : List (Int × Int)) (qx qy : Int) : Bool :=
  decide (bx0 ra za.length za px ≤ bx1 rb zb.length zb qx) && decide (bx0 rb zb.length zb qx ≤ bx1 ra za.length za px) && (decide (by0 ra za.length za py ≤ by1 rb zb.length zb qy) && decide (by0 rb zb.length zb qy ≤ by1 ra za.length za py))
/-- The first one of the least measure. -/
def stp {α : Type} (f : α → Int) (b : Option α) (x : α) : Option α := match b with
  | none => some x
  | some y => if f x < f y then some x else some y
def bst {α : Type} (f : α → Int) (l : List α) : Option α := l.foldl (stp f) none
theorem bst_snoc {α : Type} (f : α → Int) (l : List α) (x : α) : bst f (l ++ [x]) = stp f (bst f l) x := by simp [bst, List.foldl_append]
theorem bst_nil {α : Type} (f : α → Int) : bst f [] = none := rfl
theorem bst_spec {α : Type} (f : α → Int) (l : List α) : (l = [] ∧ bst f l = none) ∨ ∃ y, bst f l = some y ∧ y ∈ l ∧ ∀ x ∈ l, f y ≤ f x := by
  have key : ∀ n (l : List α), l.length = n → (l = [] ∧ bst f l = none) ∨ ∃ y, bst f l = some y ∧ y ∈ l ∧ ∀ x ∈ l, f y ≤ f x := by
    intro n
    induction n with
    | zero => intro l hl; left; have : l = [] := List.eq_nil_of_length_eq_zero hl; subst this; exact ⟨rfl, rfl⟩
    | succ n ih =>
      intro l hl
      right
      have hne : l ≠ [] := fun h => by rw [h] at hl; cases hl
      obtain ⟨l', x, rfl⟩ : ∃ l' x, l = l' ++ [x] := ⟨l.dropLast, l.getLast hne, (List.dropLast_concat_getLast hne).symm⟩
      rw [bst_snoc]
      rcases ih l' (by simp at hl; omega) with ⟨rfl, h0⟩ | ⟨y, hy, hm, hle⟩
      · rw [h0]
        exact ⟨x, rfl, by simp, fun z hz => by simp at hz; subst hz; exact Int.le_refl _⟩
      · rw [hy]
        unfold stp
        by_cases h : f x < f y
        · simp only [if_pos h]
          refine ⟨x, rfl, by simp, fun z hz => ?_⟩
          rcases List.mem_append.1 hz with hz | hz
          · have := hle z hz; omega
          · simp at hz; subst hz; exact Int.le_refl _
        · simp only [if_neg h]
          refine ⟨y, rfl, List.mem_append.2 (.inl hm), fun z hz => ?_⟩
          rcases List.mem_append.1 hz with hz | hz
          · exact hle z hz
          · simp at hz; subst hz; omega
  exact key _ l rfl
/-- Whether two shapes collide. -/
def cis (ra : Int) (za : List (Int × Int)) (px py rb : Int) (zb : List (Int × Int)) (qx qy : Int) : Bool := ovl ra za px py rb zb qx qy && (axs za zb (qx - px) (qy - py)).all fun n => decide (0 < dpt ra za px py rb zb qx qy n)
/-- The axis of the least depth, and this depth. -/
def cbn (ra : Int) (za : List (Int × Int)) (px py rb : Int) (zb : List (Int × Int)) (qx qy : Int) : Int × Int := (bst (dpt ra za px py rb zb qx qy) (axs za zb (qx - px) (qy - py))).getD (0, 0)
def cneg (n : Int × Int) (dx dy : Int) : Bool := decide ((dx * n.1 + dy * n.2) / 1024 < 0)
/-- The contact. -/
def cnx (ra : Int) (za : List (Int × Int)) (px py rb : Int) (zb : List (Int × Int)) (qx qy : Int) : Int := if cis ra za px py rb zb qx qy then (if cneg (cbn ra za px py rb zb qx qy) (qx - px) (qy - py) then -(cbn ra za px py rb zb qx qy).1 else (cbn ra za px py rb zb qx qy).1) else 0
def cny (ra : Int) (za : List (Int × Int)) (px py rb : Int) (zb : List (Int × Int)) (qx qy : Int) : Int := if cis ra za px py rb zb qx qy then (if cneg (cbn ra za px py rb zb qx qy) (qx - px) (qy - py) then -(cbn ra za px py rb zb qx qy).2 else (cbn ra za px py rb zb qx qy).2) else 0
def cdp (ra : Int) (za : List (Int × Int)) (px py rb : Int) (zb : List (Int × Int)) (qx qy : Int) : Int := if cis ra za px py rb zb qx qy then dpt ra za px py rb zb qx qy (cbn ra za px py rb zb qx qy) else 0
/-! The components of an axis are at most One. -/
theorem abs_le_isq (x y : Int) : -isq (x * x + y * y) ≤ x ∧ x ≤ isq (x * x + y * y) := by
  have h0 := sq0 x
  have h1 := sq0 y
  have h := (isq_spec (x * x + y * y) (by omega)).2
  have hn := isq_nonneg (x * x + y * y)
  have a : x < isq (x * x + y * y) + 1 := lt_of_sq (by omega) (by omega)
  have b : -x < isq (x * x + y * y) + 1 := lt_of_sq (by omega) (by rw [Int.neg_mul_neg]; omega)
  omega
theorem nm_bd (x l : Int) (h0 : 0 ≤ l) (h1 : -l ≤ x) (h2 : x ≤ l) : -1024 ≤ fdv (x * 1024) l ∧ fdv (x * 1024) l ≤ 1024 := by
  by_cases hl : l = 0
  · subst hl; rw [fdv_zero]; omega
  · rw [fdv_pos _ _ (by omega)]
    constructor
    · exact (Int.le_ediv_iff_mul_le (by omega)).2 (by omega)
    · have := Int.ediv_le_ediv (a := x * 1024) (b := 1024 * l) (c := l) (by omega) (by omega)
      rwa [Int.mul_ediv_cancel _ hl] at this
theorem un_bd (x y : Int) : (-1024 ≤ unx x y ∧ unx x y ≤ 1024) ∧ -1024 ≤ uny x y ∧ uny x y ≤ 1024 := by
  have hx := abs_le_isq x y
  have hy := abs_le_isq y x
  rw [Int.add_comm (y * y)] at hy
  have a := nm_bd x _ (isq_nonneg (x * x + y * y)) hx.1 hx.2
  have b := nm_bd y _ (isq_nonneg (x * x + y * y)) hy.1 hy.2
  unfold unx uny nmx nmy
  split <;> omega
def AxB (n : Int × Int) : Prop := -1024 ≤ n.1 ∧ n.1 ≤ 1024 ∧ -1024 ≤ n.2 ∧ n.2 ≤ 1024
theorem un_axb (x y : Int) : AxB (unx x y, uny x y) := by
  have := un_bd x y
  unfold AxB
  simp only
  omega
theorem axs_bd (za zb : List (Int × Int)) (dx dy : Int) : ∀ n ∈ axs za zb dx dy, AxB n := by
  intro n hn
  unfold axs eax at hn
  rcases List.mem_append.1 hn with h | h
  · obtain ⟨i, _, rfl⟩ := List.mem_map.1 h; exact un_axb _ _
  rcases List.mem_append.1 h with h | h
  · obtain ⟨i, _, rfl⟩ := List.mem_map.1 h; exact un_axb _ _
  · unfold cax at h
    split at h
    · split at h
      · simp at h; rw [h]; exact un_axb _ _
      · simp at h; rw [h]; exact un_axb _ _
    · split at h
      · simp at h; rw [h]; exact un_axb _ _
      · cases h
theorem axs_ne (za zb : List (Int × Int)) (dx dy : Int) : axs za zb dx dy ≠ [] := by
  unfold axs cax
  by_cases ha : za.length = 0
  · rw [if_pos ha]; split <;> simp
  · intro h
    have : (eax za).length = 0 := by
      have := congrArg List.length h
      simp at this
      simp [this]
    rw [eax, List.length_map, List.length_range] at this
    omega
end Go.Proofs.Ytcgcapfppceggaa.Co
