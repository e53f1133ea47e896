/-
  Slices of ints as lists; contracts of the reference's small functions on delays.
  Conditions: stated in each contract.
-/
import Derived.Test.YtcgcapfppceggaaJiM
import Derived.Test.YtcgcapfppceggaaFr
import Derived.Test.YtcgcapfppceggaaFxC
import Derived.Test.YtcgcapfppceggaaFxG
import Derived.Test.YtcgcapfppceggaaQk
import Derived.OwnWalk
namespace Go.Proofs.Ytcgcapfppceggaa.Ji
open Go Go.RowKit Go.Proofs.Ytcgcapfppceggaa.FxA Go.Proofs.Ytcgcapfppceggaa.Qt
set_option linter.unusedVariables false
set_option linter.unusedSimpArgs false
theorem Try.infoI : (Try.prog.info? 3).map (fun i => (i.zero, i.size, i.bytes)) = some (some (.int .i64 0), 1, 8) := by kernel_rfl
/-- A slice of ints reads as a list. -/
def IsL (w : World) (a : Option Addr) (len cap : Nat) (zs : List Int) : Prop :=
  zs.length = len ∧ len ≤ cap ∧ cap ≤ maxLen ∧ (len = 0 ∨ ∃ b o, a = some ⟨b, o, none⟩ ∧ ∀ i, i < len → w.cell? ⟨b, o + i, none⟩ = some (.int .i64 (zs.getD i 0))) ∧ ∀ n ∈ zs, (Lit.int .i64 n).wf = true
theorem IsL.later {w W : World} {a : Option Addr} {len cap : Nat} {zs : List Int} (h : IsL w a len cap zs) (hb : Below w.heap.size w W) : IsL W a len cap zs := by
  obtain ⟨h1, h2, h3, h4, h5⟩ := h
  refine ⟨h1, h2, h3, ?_, h5⟩
  rcases h4 with h | ⟨b, o, ha, hc⟩
  · exact .inl h
  · exact .inr ⟨b, o, ha, fun i hi => cell_below hb (hc i hi)⟩
theorem add_at' (b o j : Nat) : (⟨b, o, none⟩ : Addr).add j = ⟨b, o + j, none⟩ := by
  unfold Addr.add
  split
  · rename_i h; rw [h]; rfl
  · rfl
theorem isL_of_row {w : World} {a : Option Addr} {len cap : Nat} {zs : List Int} (h : Fr.IsRow .i64 w a len cap zs) : IsL w a len cap (zs.take len) := by
  rcases h with ⟨rfl, rfl, rfl, rfl⟩ | ⟨x, rfl, hl, hm, hz, hc, hw⟩
  · exact ⟨rfl, Nat.le_refl _, Nat.zero_le _, .inl rfl, by simp⟩
  · refine ⟨by rw [List.length_take]; omega, hl, hm, ?_, fun n hn => hw n (List.mem_of_mem_take hn)⟩
    by_cases h0 : len = 0
    · exact .inl h0
    · right
      obtain ⟨b, o, spot⟩ := x
      have hs : spot = none := by simpa [Addr.add] using World.cell?_spot (hc 0 (by omega))
      subst hs
      refine ⟨b, o, rfl, fun i hi => ?_⟩
      have := hc i (by omega)
      rw [add_at'] at this
      rw [this]
      simp [List.getD_eq_getElem?_getD, List.getElem?_take, hi]
theorem isL_of_own {w : World} {base : Nat} {e : TypeId} {v : Value} {n : Nat} {zs : List Int} (h : w.ownsRow base e 1 v n (zs.map (Value.int .i64))) (hw : ∀ x ∈ zs, (Lit.int .i64 x).wf = true) : zs.length = n ∧ ∃ a cap, v = .slice a n cap ∧ IsL w a n cap zs := by
  have hl : zs.length = n := by have := h.1; simp at this; omega
  refine ⟨hl, ?_⟩
  obtain ⟨_, ⟨hv, hn⟩ | ⟨g, cap, cur, hv, hb, hh, hnc, hcm, hcs, ht⟩⟩ := id h
  · subst hn
    exact ⟨none, 0, hv, hl, Nat.le_refl _, Nat.zero_le _, .inl rfl, hw⟩
  · refine ⟨_, cap, hv, hl, hnc, hcm, .inr ⟨g, 0, rfl, fun i hi => ?_⟩, hw⟩
    have c := h.cells (g := g) (by rw [hv]; rfl)
    have c0 := c i (.int .i64 (zs.getD i 0)) (by rw [List.getElem?_map, List.getD_eq_getElem?_getD, List.getElem?_eq_getElem (by omega)]; rfl)
    rwa [add_at'] at c0
theorem ownsRow_kept {w W : World} {base : Nat} {e : TypeId} {size : Nat} {v : Value} {n : Nat} {xs : List Value} (h : w.ownsRow base e size v n xs) (hb : Below w.heap.size w W) : W.ownsRow base e size v n xs := by
  refine h.kept (row := none) ⟨hb.os, hb.tape, hb.output, hb.size, fun k hk _ => hb.block k hk⟩ ?_
  cases v.ownBlock with
  | none => exact .inl rfl
  | some k => exact .inr (by simp)
theorem IsL.cell {w : World} {a : Option Addr} {len cap : Nat} {zs : List Int} (h : IsL w a len cap zs) {k : Nat} (hk : k < len) : ∃ b o, a = some ⟨b, o, none⟩ ∧ w.cell? ⟨b, o + k, none⟩ = some (.int .i64 (zs.getD k 0)) ∧ (Lit.int .i64 (zs.getD k 0)).wf = true := by
  obtain ⟨h1, h2, h3, h4, h5⟩ := h
  rcases h4 with h | ⟨b, o, ha, hc⟩
  · omega
  · refine ⟨b, o, ha, hc k hk, h5 _ ?_⟩
    rw [List.getD_eq_getElem?_getD, List.getElem?_eq_getElem (by omega)]
    exact List.getElem_mem _
theorem atm_snoc (K : List Int) (k : Nat) (h : k < K.length) (v : Int) : atm (K.take (k + 1)) v = atm (K.take k) v + if K.getD k 0 ≤ v then 1 else 0 := by
  unfold atm
  rw [List.take_succ_eq_append_getElem h, List.countP_append, List.countP_singleton, List.getD_eq_getElem?_getD, List.getElem?_eq_getElem h]
  simp
theorem atm_take_le (K : List Int) (k : Nat) (v : Int) : atm (K.take k) v ≤ k := Nat.le_trans (atm_le _ _) (by rw [List.length_take]; omega)
theorem new1 (w : World) (x : Value) (t : TypeId) : ∀ (j : Nat) (u : Value), [x][j]? = some u → (w.alloc (.cells #[x] t)).cell? ((⟨w.heap.size, 0, none⟩ : Addr).add j) = some u := by
  intro j u h
  match j with
  | 0 => rw [add_at', World.cell?_alloc_new]; simpa using h
  | j + 1 => simp at h
theorem c60_wf (x : Int) : (Lit.int .i64 (c60 x)).wf = true := by
  simp [Lit.wf, IntKind.min, IntKind.max, IntKind.bits, IntKind.signed, c60]
  omega
end Go.Proofs.Ytcgcapfppceggaa.Ji
