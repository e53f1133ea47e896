/-
  Slices of ints as lists; contracts of the reference's small functions on delays.
  Conditions: stated in each contract.
-/
import Derived.Test.YtbepnjlgneialaaJiM
import Derived.Test.YtbepnjlgneialaaFr
import Derived.Test.YtbepnjlgneialaaFxC
import Derived.Test.YtbepnjlgneialaaFxG
import Derived.Test.YtbepnjlgneialaaQk
import Derived.OwnWalk
namespace Go.Proofs.Ytbepnjlgneialaa.Ji
open Go Go.RowKit Go.Proofs.Ytbepnjlgneialaa.FxA Go.Proofs.Ytbepnjlgneialaa.Qt
set_option linter.unusedVariables false
set_option linter.unusedSimpArgs false
theorem Try.infoI : (Try.prog.info? 3).map (fun i => (i.zero, i.size, i.bytes)) = some (some (.int .i64 0), 1, 8) := by kernel_rfl
/-- A slice of ints reads as a list. -/
def IsL (w : World) (a : Option Addr) (len cap : Nat) (zs : List Int) : Prop :=
  zs.length = len ∧ len ≤ cap ∧ cap ≤ maxLen ∧ (len = 0 ∨ ∃ b o, a = some ⟨b, o, none⟩ ∧ ∀ i, i < len → w.cell? ⟨b, o + i, none⟩ = some (.int .i64 (zs.getD i 0))) ∧ ∀ n ∈ zs, (Lit.int .i64 n).wf = true
theorem IsL.later {w W : World} {a : Option Addr} {len cap : Nat} {zs : List Int} (h : IsL w a len cap zs) (hb : Below w.heap.size w W) : IsL W a len cap zs := by
  obtain ⟨h1, h2, h3, h4, h5⟩ := h
  refine ⟨h1, h2, h3, ?_, h5⟩
  rcases h4 with h | ⟨b, o, ha, hc⟩
  · exact .inl h
  · exact .inr ⟨b, o, ha, fun i hi => cell_below hb (hc i hi)⟩
theorem add_at' (b o j : Nat) : (⟨b, o, none⟩ : Addr).add j = ⟨b, o + j, none⟩ := by
  unfold Addr.add
  split
  · rename_i h; rw [h]; rfl
  · rfl
theorem isL_of_row {w : World} {a : Option Addr} {len cap : Nat} {zs : List Int} (h : Fr.IsRow .i64 w a len cap zs) : IsL w a len cap (zs.take len) := by
  rcases h with ⟨rfl, rfl, rfl, rfl⟩ | ⟨x, rfl, hl, hm, hz, hc, hw⟩
  · exact ⟨rfl, Nat.le_refl _, Nat.zero_le _, .inl rfl, by simp⟩
  · refine ⟨by rw [List.length_take]; omega, hl, hm, ?_, fun n hn => hw n (List.mem_of_mem_take hn)⟩
    by_cases h0 : len = 0
    · exact .inl h0
    · right
      obtain ⟨b, o, spot⟩ := x
      have hs : spot = none := by simpa [Addr.add] using World.cell?_spot (hc 0 (by omega))
      subst hs
      refine ⟨b, o, rfl, fun i hi => ?_⟩
      have := hc i (by omega)
      rw [add_at'] at this
      rw [this]
      simp [List.getD_eq_getElem?_getD, List.getElem?_take, hi]
theorem isL_of_own {w : World} {base : Nat} {e : TypeId} {v : Value} {n : Nat} {zs : List Int} (h : w.ownsRow base e 1 v n (zs.map (Value.int .i64))) (hw : ∀ x ∈ zs, (Lit.int .i64 x).wf = true) : zs.length = n ∧ ∃ a cap, v = .slice a n cap ∧ IsL w a n cap zs := by
  have hl : zs.length = n := by have := h.1; simp at this; omega
  refine ⟨hl, ?_⟩
  obtain ⟨_, ⟨hv, hn⟩ | ⟨g, cap, cur, hv, hb, hh, hnc, hcm, hcs, ht⟩⟩ := id h
  · subst hn
    exact ⟨none, 0, hv, hl, Nat.le_refl _, Nat.zero_le _, .inl rfl, hw⟩
  · refine ⟨_, cap, hv, hl, hnc, hcm, .inr ⟨g, 0, rfl, fun i hi => ?_⟩, hw⟩
    have c := h.cells (g := g) (by rw [hv]; rfl)
    have c0 := c i (.int .i64 (zs.getD i 0)) (by rw [List.getElem?_map, List.getD_eq_getElem?_getD, List.getElem?_eq_getElem (by omega)]; rfl)
    rwa [add_at'] at c0
theorem ownsRow_kept {w W : World} {base : Nat} {e : TypeId} {size : Nat} {v : Value} {n : Nat} {xs : List Value} (h : w.ownsRow base e size v n xs) (hb : Below w.heap.size w W) : W.ownsRow base e size v n xs := by
  refine h.kept (row := none) ⟨hb.os, hb.tape, hb.output, hb.size, fun k hk _ => hb.block k hk⟩ ?_
  cases v.ownBlock with
  | none => exact .inl rfl
  | some k => exact .inr (by simp)
theorem IsL.cell {w : World} {a : Option Addr} {len cap : Nat} {zs : List Int} (h : IsL w a len cap zs) {k : Nat} (hk : k < len) : ∃ b o, a = some ⟨b, o, none⟩ ∧ w.cell? ⟨b, o + k, none⟩ = some (.int .i64 (zs.getD k 0)) ∧ (Lit.int .i64 (zs.getD k 0)).wf = true := by
  obtain ⟨h1, h2, h3, h4, h5⟩ := h
  rcases h4 with h | ⟨b, o, ha, hc⟩
  · omega
  · refine ⟨b, o, ha, hc k hk, h5 _ ?_⟩
    rw [List.getD_eq_getElem?_getD, List.getElem?_eq_getElem (by omega)]
    exact List.getElem_mem _
theorem atm_snoc (K : List Int) (k : Nat) (h : k < K.length) (v : Int) : atm (K.take (k + 1)) v = atm (K.take k) v + if K.getD k 0 ≤ v then 1 else 0 := by
  unfold atm
  rw [List.take_succ_eq_append_getElem h, List.countP_append, List.countP_singleton, List.getD_eq_getElem?_getD, List.getElem?_eq_getElem h]
  simp
theorem atm_take_le (K : List Int) (k : Nat) (v : Int) : atm (K.take k) v ≤ k := Nat.le_trans (atm_le _ _) (by rw [List.length_take]; omega)
theorem atMost_any (a : Option Addr) (len cap : Nat) (K : List Int) (v : Int) (w : World) (h : IsL w a len cap K) (hl : len ≤ 1000) :
    Calls Try.prog 22 #[.slice a len cap, .int .i64 v] w fun e w' => e = .returned (.int .i64 (atm K v : Nat)) ∧ Below w.heap.size w w' := by
  have hK := h.1
  have hlc := h.2.1
  go_enter Try.func22, Try.ntmps22
  go_wp2
  go_loopw [5, 6] (fun n i wr => ∃ k : Nat, k ≤ len ∧ i = .int .i64 k ∧ n = .int .i64 (atm (K.take k) v : Nat) ∧ wr = w) (fun _ i _ => len - (intOf i).toNat)
  case atStart => exact ⟨0, Nat.zero_le _, rfl, rfl, rfl⟩
  case round =>
    obtain ⟨k, hk, rfl, rfl, rfl⟩ := hrel
    by_cases hlt : k < len
    · obtain ⟨b, o, rfl, hc, hw⟩ := h.cell hlt
      have hs := Lib.hid (atm_snoc K k (by omega) v)
      have ht := atm_take_le K k v
      generalize K.getD k 0 = x at *
      generalize atm (K.take k) v = n at *
      have hlI : (k : Int) < (len : Int) := by omega
      have hk0 : (0 : Int) ≤ (k : Int) := by omega
      go_wp2
      · have hx : x ≤ v := by assumption
        go_roundw
        case rel => exact ⟨k + 1, by omega, by go_num, by rw [hs.out, if_pos hx]; go_num, by trivial⟩
        case measure => simp [intOf]; omega
      · have hx : ¬ x ≤ v := by omega
        go_roundw
        case rel => exact ⟨k + 1, by omega, by go_num, by rw [hs.out, if_neg hx]; rfl, by trivial⟩
        case measure => simp [intOf]; omega
    · obtain rfl : k = len := by omega
      have e : K.take k = K := List.take_of_length_le (by omega)
      rw [e]
      clear e
      have := atm_le K v
      go_wp2
      go_ret
      exact ⟨rfl, Below.refl _ _⟩
theorem new1 (w : World) (x : Value) (t : TypeId) : ∀ (j : Nat) (u : Value), [x][j]? = some u → (w.alloc (.cells #[x] t)).cell? ((⟨w.heap.size, 0, none⟩ : Addr).add j) = some u := by
  intro j u h
  match j with
  | 0 => rw [add_at', World.cell?_alloc_new]; simpa using h
  | j + 1 => simp at h
theorem c60_wf (x : Int) : (Lit.int .i64 (c60 x)).wf = true := by
  simp [Lit.wf, IntKind.min, IntKind.max, IntKind.bits, IntKind.signed, c60]
  omega
theorem kept_take (K : List Int) (m j : Nat) (h : m + j < K.length) : ((((K.drop m).take (j + 1)).map c60).map (Value.int .i64)) = ((((K.drop m).take j).map c60).map (Value.int .i64)) ++ [.int .i64 (c60 (K.getD (m + j) 0))] := by
  rw [List.take_succ_eq_append_getElem (by rw [List.length_drop]; omega), List.map_append, List.map_append, List.getElem_drop, List.getD_eq_getElem?_getD, List.getElem?_eq_getElem h]
  rfl
set_option maxHeartbeats 2000000 in
theorem kept_any (a : Option Addr) (len cap : Nat) (K : List Int) (w : World) (h : IsL w a len cap K) (hl : len ≤ 1000) :
    Calls Try.prog 17 #[.slice a len cap] w fun e w' => ∃ a' cap', e = .returned (.slice a' (kept K).length cap') ∧ IsL w' a' (kept K).length cap' (kept K) ∧ Below w.heap.size w w' := by
  have hK := h.1
  have hlc := h.2.1
  obtain ⟨i0, hii, hz0, hz1, hz2⟩ := info_parts Try.infoI
  obtain ⟨m, hm⟩ : ∃ m : Nat, m = len - 16 := ⟨_, rfl⟩
  have hmI : max 0 ((len : Int) - 16) = (m : Int) := by omega
  go_enter Try.func17, Try.ntmps17
  go_wp2
  go_loopw [3, 4] (fun l i wr => ∃ j : Nat, m + j ≤ len ∧ i = .int .i64 ((m : Int) + j) ∧ wr.ownsRow w.heap.size 3 1 l j ((((K.drop m).take j).map c60).map (Value.int .i64)) ∧ Below w.heap.size w wr) (fun _ i _ => len - (intOf i).toNat)
  case atStart => exact ⟨0, by omega, by simp [hm], World.ownsRow_nil _ _ _ _, Below.refl _ _⟩
  case round =>
    obtain ⟨j, hj, rfl, hown, hB⟩ := hrel
    have hws := hB.size
    by_cases hlt : m + j < len
    · obtain ⟨k, hk⟩ : ∃ k, k = m + j := ⟨_, rfl⟩
      rw [show (m : Int) + j = (k : Int) by omega]
      obtain ⟨b, o, rfl, hc, hw⟩ := (h.later hB).cell (k := k) (by omega)
      have hsn := kept_take K m j (by omega)
      rw [← hk] at hsn
      obtain ⟨x, hx⟩ : ∃ x, x = K.getD k 0 := ⟨_, rfl⟩
      rw [← hx] at hc hw hsn
      rw [show c60 x = min 60 (max 0 x) from rfl] at hsn
      have hlI : (k : Int) < (len : Int) := by omega
      have hk0 : (0 : Int) ≤ (k : Int) := by omega
      have Hsn := Lib.hid hsn
      have Hk := Lib.hid hk
      clear hx hsn hk
      go_wp2_with (first | (at_builtin; refine wpList_append_own _ rfl _ _ 22 rfl w.heap.size 3 i0 (.int .i64 0) 1 8 Try.underlying22 hii hz0 hz1 hz2 (by simp [Value.cells]) (by decide) _ j ((((K.drop m).take j).map c60).map (Value.int .i64)) rfl (hown.alloc _) ⟨wr.heap.size, 0, none⟩ 1 1 [.int .i64 (min 60 (max 0 x))] rfl rfl (new1 _ _ _) (by simp [Value.oneCell']) (by unfold maxLen; omega) (by omega) (by simp; omega) ?_; intro v' w2 hown2 hgrow2 _))
      have hown3 : w2.ownsRow w.heap.size 3 1 v' (j + 1) ((((K.drop m).take (j + 1)).map c60).map (Value.int .i64)) := by rw [Hsn.out]; exact hown2
      have hB2 : Below w.heap.size w w2 := (hB.alloc hws _).grown hgrow2 (by simp; omega) (fun k e => (hown.lt k e).1)
      clear hown hown2 hgrow2
      go_wp2
      go_roundw
      case rel => exact ⟨j + 1, by omega, by have := Hk.out; (try go_num); (try omega), hown3, hB2⟩
      case measure => simp [intOf]; omega
    · have hj' : m + j = len := by omega
      rw [show (m : Int) + j = (len : Int) by omega]
      have e : ((K.drop m).take j).map c60 = kept K := by
        unfold kept
        rw [hK, ← hm, List.take_of_length_le (by rw [List.length_drop]; omega)]
      rw [e] at hown
      obtain ⟨hl', a', cap', rfl, hp⟩ := isL_of_own hown (fun x hx => by
        unfold kept at hx
        obtain ⟨y, _, rfl⟩ := List.mem_map.1 hx
        exact c60_wf y)
      clear hown e
      go_wp2
      go_ret
      subst hl'
      exact ⟨a', cap', rfl, hp, hB⟩
end Go.Proofs.Ytbepnjlgneialaa.Ji
