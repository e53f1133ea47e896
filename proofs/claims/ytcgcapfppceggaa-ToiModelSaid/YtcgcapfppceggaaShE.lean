/-
  Contract of isConvex.
  Conditions: the exact numbers fit 64 bits.
-/
import Derived.Test.YtcgcapfppceggaaShB
namespace Go.Proofs.Ytcgcapfppceggaa.Sh
open Go.RowKit Go.Proofs.Ytcgcapfppceggaa.FxMath Go.Proofs.Ytcgcapfppceggaa.FxA Go.Proofs.Ytcgcapfppceggaa.Qt Go.Proofs.Ytcgcapfppceggaa.Ve Go.Shelf
set_option linter.unusedVariables false
set_option linter.unusedSimpArgs false
attribute [local go_sem] Oper.semAt_some

/-- The origin and all other vertices lie strictly to the left of the edge from i to j. -/
def edgB (zs : List (Int × Int)) (i j : Nat) : Bool := decide (0 < crs (vx zs i) (vy zs i) (vx zs j) (vy zs j) 0 0) && (List.range zs.length).all fun k => decide (k = i) || decide (k = j) || decide (0 < crs (vx zs i) (vy zs i) (vx zs j) (vy zs j) (vx zs k) (vy zs k))
def cvx (zs : List (Int × Int)) : Bool := (List.range zs.length).all fun i => edgB zs i ((i + 1) % zs.length)
theorem edgB_true {zs : List (Int × Int)} {i j : Nat} (h0 : 0 < crs (vx zs i) (vy zs i) (vx zs j) (vy zs j) 0 0) (h : ∀ k, k < zs.length → k ≠ i → k ≠ j → 0 < crs (vx zs i) (vy zs i) (vx zs j) (vy zs j) (vx zs k) (vy zs k)) : edgB zs i j = true := by
  unfold edgB
  rw [Bool.and_eq_true, List.all_eq_true]
  refine ⟨by simpa using h0, fun k hk => ?_⟩
  have hk' := List.mem_range.1 hk
  by_cases h1 : k = i
  · simp [h1]
  · by_cases h2 : k = j
    · simp [h2]
    · simp [h k hk' h1 h2]
theorem edgB_false0 {zs : List (Int × Int)} {i j : Nat} (h0 : crs (vx zs i) (vy zs i) (vx zs j) (vy zs j) 0 0 ≤ 0) : edgB zs i j = false := by
  unfold edgB
  rw [show decide (0 < crs (vx zs i) (vy zs i) (vx zs j) (vy zs j) 0 0) = false by simpa using h0]
  rfl
theorem edgB_false1 {zs : List (Int × Int)} {i j k : Nat} (hk : k < zs.length) (h1 : k ≠ i) (h2 : k ≠ j) (h : crs (vx zs i) (vy zs i) (vx zs j) (vy zs j) (vx zs k) (vy zs k) ≤ 0) : edgB zs i j = false := by
  unfold edgB
  have : (List.range zs.length).all (fun k => decide (k = i) || decide (k = j) || decide (0 < crs (vx zs i) (vy zs i) (vx zs j) (vy zs j) (vx zs k) (vy zs k))) = false := by
    rw [List.all_eq_false]
    exact ⟨k, List.mem_range.2 hk, by simp [h1, h2]; omega⟩
  rw [this, Bool.and_false]
end Go.Proofs.Ytcgcapfppceggaa.Sh
