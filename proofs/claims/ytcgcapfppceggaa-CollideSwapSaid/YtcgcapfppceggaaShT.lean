/-
  Turned shapes: the contract of Turned at every valid shape; a turned shape's queries are the same.
  Conditions: stated in each contract.
-/
import Derived.Test.YtcgcapfppceggaaCoL
namespace Go.Proofs.Ytcgcapfppceggaa.Sh
open Go.RowKit Go.Proofs.Ytcgcapfppceggaa.FxMath Go.Proofs.Ytcgcapfppceggaa.FxA Go.Proofs.Ytcgcapfppceggaa.Qt Go.Proofs.Ytcgcapfppceggaa.Ve Go.Proofs.Ytcgcapfppceggaa.Co Go.Shelf
set_option linter.unusedVariables false
set_option linter.unusedSimpArgs false
/-- The same outline, perhaps from another first vertex. -/
def Rot (zs zs' : List (Int × Int)) : Prop := zs' = zs ∨ ∃ k, k < zs.length ∧ zs' = rot zs k
theorem Rot.len {zs zs' : List (Int × Int)} (h : Rot zs zs') : zs'.length = zs.length := by
  rcases h with rfl | ⟨k, hk, rfl⟩
  · rfl
  · exact rot_length zs k
theorem Rot.same {zs zs' : List (Int × Int)} (h : Rot zs zs') {len : Nat} (hl : len = zs.length) (r x y a b P Q : Int) :
    plo r len zs' x y a b = plo r len zs x y a b ∧ phi r len zs' x y a b = phi r len zs x y a b ∧ (bx0 r len zs' x = bx0 r len zs x ∧ bx1 r len zs' x = bx1 r len zs x ∧ by0 r len zs' y = by0 r len zs y ∧ by1 r len zs' y = by1 r len zs y) ∧ sct r len zs' P Q = sct r len zs P Q := by
  subst hl
  rcases h with rfl | ⟨k, hk, rfl⟩
  · exact ⟨rfl, rfl, ⟨rfl, rfl, rfl, rfl⟩, rfl⟩
  · have h1 := pl_rot r zs k hk x y (a, b)
    have h2 := ph_rot r zs k hk x y (a, b)
    have h3 := box_rot r zs k hk x y
    have h4 := cov_rot zs k hk P Q
    unfold pl at h1
    unfold ph at h2
    simp only [rot_length] at h1 h2 h3
    refine ⟨h1, h2, h3, ?_⟩
    unfold sct
    rw [if_neg (by omega), if_neg (by omega)]
    exact h4
theorem turned_circle (r by' : Int) (w : World) : Calls Try.prog 22 #[.agg #[.int .i64 r, .slice none 0 0], .int .i64 by'] w fun e w' => e = .returned (.agg #[.int .i64 r, .slice none 0 0]) ∧ Below w.heap.size w w' := by
  have hal := alloc_if; have hfal := allocF_if
  have hst := setCell_if
  go_enter Try.func22, Try.ntmps22
  go_wp2
  refine bodyPost_ret (v := .agg #[.int .i64 r, .slice none 0 0]) (by simp [results, Try.results22, go_sem, hst, alloc_if, ↓IntWalk.iteOmega]) rfl ⟨rfl, ?_⟩
  (repeat (first | (with_reducible exact Below.refl _ _) | (with_reducible refine Below.drew ?_) | (with_reducible refine below_drewN ?_ _) | (with_reducible refine Below.setCell ?_ (by first | (simp; done) | (simp; omega) | omega) _) | (with_reducible refine Below.alloc ?_ (by first | (simp; done) | (simp; omega) | omega) _) | (with_reducible refine Below.trans ?_ (Below.mono (by assumption) (by first | (simp; done) | (simp; omega) | omega))) | (with_reducible refine Below.trans ?_ (Below.mono (Later.below _) (by first | (simp; done) | (simp; omega) | omega)))))
theorem turned_s {w : World} {r : Int} {a : Option Addr} {len cap : Nat} {zs : List (Int × Int)} (h : ShAt w r a len cap zs) (by' : Int) (hn : (Lit.int .i64 by').wf = true) (W : World) (hW : Below w.heap.size w W) :
    Calls Try.prog 22 #[.agg #[.int .i64 r, .slice a len cap], .int .i64 by'] W fun e W' => ∃ a' cap' zs', e = .returned (.agg #[.int .i64 r, .slice a' len cap']) ∧ ShAt W' r a' len cap' zs' ∧ Below W.heap.size W W' ∧ Rot zs zs' := by
  have g := h.later hW
  have hl := g.poly.len
  rcases h.kind with ⟨rfl, rfl, rfl, rfl, h1, h2⟩ | ⟨rfl, h1, h2, hb, hc⟩
  · refine (turned_circle r by' W).mono ?_
    rintro e W' ⟨rfl, hB⟩
    exact ⟨none, 0, [], rfl, g.later hB, hB, .inl rfl⟩
  · refine (turned_any 0 by' a len cap zs W g.poly (by omega) (by omega) (i64_bd hn).1 (i64_bd hn).2).mono ?_
    rintro e W' ⟨a', cap', rfl, hp, hB, _⟩
    have hk := aro_bd by' len (by omega)
    have hk' : (aro by' len).toNat < zs.length := by omega
    rw [hl] at hp ⊢
    exact ⟨a', cap', rot zs (aro by' len).toNat, rfl, ⟨.inr ⟨rfl, h1, h2, bd_rot hk' (by decide) hb, cvx_rot hk' hc⟩, hp⟩, hB, .inr ⟨_, hk', rfl⟩⟩
end Go.Proofs.Ytcgcapfppceggaa.Sh
