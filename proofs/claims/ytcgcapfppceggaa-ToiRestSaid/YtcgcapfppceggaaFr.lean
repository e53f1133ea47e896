/-
  What a walk is told of a slice of integers or an array of integers that came in.
  Conditions: none.
-/
import Derived.WalkKit
import Derived.ProofKit
import Derived.OpenShut
import Derived.ShutString
import Derived.ChangeOld
import Derived.Below
namespace Go.Proofs.Ytcgcapfppceggaa.Fr
open Go Go.ChangeShapes Go.WideShapes Go.ChangeAt Go.RowKit

/-- A slice of integers that came in: it is nil; or it leads to a row of 'cap' cells, the numbers 'zs' (the first 'len' are its elements), each fitting its kind. -/
def IsRow (k : IntKind) (w : World) (a : Option Addr) (len cap : Nat) (zs : List Int) : Prop :=
  (a = none ∧ len = 0 ∧ cap = 0 ∧ zs = []) ∨
  ∃ x, a = some x ∧ len ≤ cap ∧ cap ≤ maxLen ∧ zs.length = cap ∧ (∀ i, i < zs.length → w.cell? (x.add i) = some (.int k (zs.getD i 0))) ∧ ∀ n ∈ zs, (Lit.int k n).wf = true

section
variable {P : Program} {w : World} {H : Type} {enc : TypeId × Value → H} {base : Nat} {spare : Nat → Bool} {held : Bool}

def intOfV : Value → Int
  | .int _ z => z
  | _ => 0

theorem cells_of {l : List Value} {n : Nat} (hl : l.length = n) (h : ∀ i, i < n → ∃ z, l[i]? = some (.int .i64 z) ∧ (Lit.int .i64 z).wf = true) :
    ∃ zs : List Int, zs.length = n ∧ l = zs.map (Value.int .i64) ∧ ∀ z ∈ zs, (Lit.int .i64 z).wf = true := by
  refine ⟨l.map intOfV, by simpa using hl, ?_, ?_⟩
  · refine List.ext_getElem? fun i => ?_
    rw [List.map_map]
    by_cases hi : i < n
    · obtain ⟨z, hz, _⟩ := h i hi
      simp [hz, intOfV]
    · simp [hl, Nat.le_of_not_lt hi]
  · intro z hz
    obtain ⟨v, hv, rfl⟩ := List.mem_map.1 hz
    obtain ⟨i, hi, rfl⟩ := List.mem_iff_getElem.1 hv
    obtain ⟨z, hz, hw⟩ := h i (by omega)
    rw [List.getElem?_eq_getElem hi] at hz
    rw [Option.some.inj hz]
    exact hw

/-- An array of integers that came in. -/
theorem open_arr {n : Nat} {t e : TypeId} {r : Reach} {b0 : Nat} {v : Value} {d : DataW H} {p : List MemPlace} (ht : P.underlying t = some (.array n e)) (he : P.underlying e = some (.int .i64)) (hce : P.cellsOf e = 1) (hct : P.cellsOf t = n)
    (hv : Value.okWide P w r b0 t v) (h : DataW.Trod enc P w base spare held t v d p) :
    ∃ zs : List Int, zs.length = n ∧ v = .agg (zs.map (Value.int .i64)).toArray ∧ ∀ z ∈ zs, (Lit.int .i64 z).wf = true := by
  obtain ⟨cs, rfl, hsz, _⟩ : ∃ cs, v = .agg cs ∧ cs.size = P.cellsOf t ∧ Row.okWide P w r b0 t cs := by
    simpa [Value.okWide, ht] using hv
  rw [hct] at hsz
  obtain ⟨l⟩ := cs
  obtain ⟨fuel, hf⟩ := h
  obtain ⟨xs, m, _, _, _, hl, hel⟩ := DataW.trod_array ht hf
  rw [hce] at hel
  have hll : l.length = n := by simpa using hsz
  obtain ⟨zs, hz, e1, hw⟩ := cells_of (n := n) hll fun i hi => by
    have h1 := hel i hi
    have hx : i < xs.length := by omega
    rw [List.getElem?_eq_getElem hx] at h1
    have h2 : (l.drop (i * 1)).take 1 = [l[i]'(by omega)] := by
      rw [Nat.mul_one, List.drop_eq_getElem_cons (by omega)]
      rfl
    have h3 : DataW.trod enc P w base spare held m e ((l.drop (i * 1)).take 1) = some xs[i] := by simpa [Value.cells] using h1
    rw [h2] at h3
    obtain ⟨z, e2, _, w2⟩ := DataW.trod_int he h3
    refine ⟨z, ?_, w2⟩
    rw [List.getElem?_eq_getElem (by omega)]
    simpa using e2
  exact ⟨zs, hz, by rw [e1], hw⟩
end

theorem list2 (l : List Int) (h : l.length = 2) : ∃ a b, l = [a, b] := by match l, h with | [a, b], _ => exact ⟨a, b, rfl⟩
theorem list4 (l : List Int) (h : l.length = 4) : ∃ a b c d, l = [a, b, c, d] := by match l, h with | [a, b, c, d], _ => exact ⟨a, b, c, d, rfl⟩
theorem list6 (l : List Int) (h : l.length = 6) : ∃ a b c d e f, l = [a, b, c, d, e, f] := by match l, h with | [a, b, c, d, e, f], _ => exact ⟨a, b, c, d, e, f, rfl⟩
end Go.Proofs.Ytcgcapfppceggaa.Fr
