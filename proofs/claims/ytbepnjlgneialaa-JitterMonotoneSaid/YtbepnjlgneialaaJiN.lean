/-
  Contracts of insert and Ints; the lists that the laws build.
  Conditions: stated in each contract.
-/
import Derived.Test.YtbepnjlgneialaaJiK
namespace Go.Proofs.Ytbepnjlgneialaa.Ji
open Go Go.RowKit Go.Proofs.Ytbepnjlgneialaa.FxA Go.Proofs.Ytbepnjlgneialaa.Qt
set_option linter.unusedVariables false
set_option linter.unusedSimpArgs false
theorem isL_at {w : World} {a : Option Addr} {len cap : Nat} {zs : List Int} (h : IsL w a len cap zs) (h1 : 1 ≤ len) : ∃ b o, a = some ⟨b, o, none⟩ ∧ b < w.heap.size ∧ ∀ i, i < len → w.cell? ⟨b, o + i, none⟩ = some (.int .i64 (zs.getD i 0)) := by
  obtain ⟨_, _, _, h | ⟨b, o, ha, hc⟩, _⟩ := h
  · omega
  · exact ⟨b, o, ha, World.block_lt_of_cell? _ _ (hc 0 (by omega)), hc⟩
theorem src_take {W : World} {b o len : Nat} {zs : List Int} (hl : zs.length = len) (hc : ∀ i, i < len → W.cell? ⟨b, o + i, none⟩ = some (.int .i64 (zs.getD i 0))) (k : Nat) :
    ∀ (j : Nat) (u : Value), ((zs.take k).map (Value.int .i64))[j]? = some u → W.cell? ((⟨b, o, none⟩ : Addr).add j) = some u := by
  intro j u h
  have hj := (List.getElem?_eq_some_iff.1 h).1
  rw [List.length_map, List.length_take] at hj
  rw [add_at', hc j (by omega), ← h, List.getElem?_map, List.getElem?_take, if_pos (by omega), List.getD_eq_getElem?_getD, List.getElem?_eq_getElem (by omega)]
  rfl
theorem src_drop {W : World} {b o len : Nat} {zs : List Int} (hl : zs.length = len) (hc : ∀ i, i < len → W.cell? ⟨b, o + i, none⟩ = some (.int .i64 (zs.getD i 0))) (k : Nat) :
    ∀ (j : Nat) (u : Value), ((zs.drop k).map (Value.int .i64))[j]? = some u → W.cell? ((⟨b, o + k, none⟩ : Addr).add j) = some u := by
  intro j u h
  have hj := (List.getElem?_eq_some_iff.1 h).1
  rw [List.length_map, List.length_drop] at hj
  rw [add_at', Nat.add_assoc, hc (k + j) (by omega), ← h, List.getElem?_map, List.getElem?_drop, List.getD_eq_getElem?_getD, List.getElem?_eq_getElem (by omega)]
  rfl
theorem ints_one (zs : List Int) : ∀ u ∈ zs.map (Value.int .i64), u.oneCell' = true := by
  intro u hu
  obtain ⟨x, _, rfl⟩ := List.mem_map.1 hu
  rfl
/-- A list with a value put in. -/
def ins (K : List Int) (k : Nat) (v : Int) : List Int := K.take k ++ v :: K.drop k
theorem ins_len (K : List Int) (k : Nat) (v : Int) (h : k ≤ K.length) : (ins K k v).length = K.length + 1 := by simp [ins]; omega
set_option maxHeartbeats 2000000 in
theorem insert_any (a : Option Addr) (len cap : Nat) (K : List Int) (k : Nat) (v : Int) (w : World) (h : IsL w a len cap K) (h1 : 1 ≤ len) (hl : len ≤ 1000) (hk : k ≤ len) (hv : (Lit.int .i64 v).wf = true) :
    Calls Try.prog 23 #[.slice a len cap, .int .i64 (k : Nat), .int .i64 v] w fun e w' => ∃ a' cap', e = .returned (.slice a' (len + 1) cap') ∧ IsL w' a' (len + 1) cap' (ins K k v) ∧ Below w.heap.size w w' := by
  have hK := h.1
  have hlc := h.2.1
  have hcm := h.2.2.1
  have hwf := h.2.2.2.2
  unfold maxLen at hcm
  obtain ⟨b, o, rfl, hb, hc⟩ := isL_at h h1
  obtain ⟨i0, hii, hz0, hz1, hz2⟩ := info_parts Try.infoI
  have hk0 : (0 : Int) ≤ (k : Int) := by omega
  have hkc : (k : Int) ≤ (cap : Int) := by omega
  have hkl : (k : Int) ≤ (len : Int) := by omega
  have Hc := Lib.hid hc
  have HK := Lib.hid hK
  have Hwf := Lib.hid hwf
  clear h hc hK hwf
  go_enter Try.func23, Try.ntmps23
  go_upto_region 2 with (first | (at_builtin; refine wpList_append_own _ rfl _ _ 22 rfl w.heap.size 3 i0 (.int .i64 0) 1 8 Try.underlying22 hii hz0 hz1 hz2 (by simp [Value.cells]) (by decide) _ 0 [] rfl (World.ownsRow_nil _ _ _ _) ⟨b, o, none⟩ k cap ((K.take k).map (Value.int .i64)) rfl (by have := HK.out; simp; omega) (src_take HK.out Hc.out k) (ints_one _) (by unfold maxLen; omega) (by omega) (Nat.le_refl _) ?_; intro v1 w1 hown1 hgrow1 _))
  simp only [Nat.zero_add, List.nil_append] at hown1
  have hb1 : Below w.heap.size w w1 := (Below.refl _ _).grown hgrow1 (Nat.le_refl _) (fun k e => by cases e)
  have hs1 := hb1.size
  clear hgrow1
  go_upto_region 3 with (first | (at_builtin; refine wpList_append_own _ rfl _ _ 22 rfl w.heap.size 3 i0 (.int .i64 0) 1 8 Try.underlying22 hii hz0 hz1 hz2 (by simp [Value.cells]) (by decide) _ k ((K.take k).map (Value.int .i64)) rfl (hown1.alloc _) ⟨w1.heap.size, 0, none⟩ 1 1 [.int .i64 v] rfl rfl (new1 _ _ _) (by simp [Value.oneCell']) (by unfold maxLen; omega) (by omega) (by simp; omega) ?_; intro v2 w2 hown2 hgrow2 _))
  have hb2 : Below w.heap.size w w2 := (hb1.alloc hs1 _).grown hgrow2 (by simp; omega) (fun k e => (hown1.lt k e).1)
  have hs2 := hb2.size
  clear hgrow2 hown1 hb1
  have fin : ∀ v3 w3, w3.ownsRow w.heap.size 3 1 v3 (k + 1 + (len - k)) (((K.take k).map (Value.int .i64) ++ [.int .i64 v]) ++ (K.drop k).map (Value.int .i64)) → Below w.heap.size w w3 → ∃ a' cap', Ending.returned v3 = .returned (.slice a' (len + 1) cap') ∧ IsL w3 a' (len + 1) cap' (ins K k v) ∧ Below w.heap.size w w3 := by
    intro v3 w3 ho hb3
    rw [show k + 1 + (len - k) = len + 1 by omega] at ho
    obtain ⟨_, a', cap', rfl, hp⟩ := isL_of_own (zs := ins K k v) (by unfold ins; simpa using ho) (fun x hx => by
      unfold ins at hx
      rcases List.mem_append.1 hx with h | h
      · exact Hwf.out x (List.mem_of_mem_take h)
      · rcases List.mem_cons.1 h with rfl | h
        · exact hv
        · exact Hwf.out x (List.mem_of_mem_drop h))
    exact ⟨a', cap', rfl, hp, hb3⟩
  have Hfin := Lib.hid fin
  have hgl : ∀ k', v2.ownBlock = some k' → w.heap.size ≤ k' := fun k' e => (hown2.lt k' e).1
  have Hgl := Lib.hid hgl
  have Hb2 := Lib.hid hb2
  have Hc2 : Hid (∀ i, i < len → w2.cell? ⟨b, o + i, none⟩ = some (.int .i64 (K.getD i 0))) := Lib.hid (fun i hi => cell_below hb2 (Hc.out i hi))
  clear fin hgl hb2
  by_cases hkc2 : k < cap
  · have hcb : ((cap : Int) == (k : Int)) = false := beq_eq_false_iff_ne.2 (by omega)
    go_wp2_with (first | (at_builtin; refine wpList_append_own _ rfl _ _ 22 rfl w.heap.size 3 i0 (.int .i64 0) 1 8 Try.underlying22 hii hz0 hz1 hz2 (by simp [Value.cells]) (by decide) _ (k + 1) _ rfl hown2 ⟨b, o + k, none⟩ (len - k) (cap - k) ((K.drop k).map (Value.int .i64)) rfl (by have := HK.out; simp; omega) (src_drop HK.out Hc2.out k) (ints_one _) (by unfold maxLen; omega) (by omega) (by omega) ?_; intro v3 w3 hown3 hgrow3 _))
    go_ret
    exact Hfin.out _ _ hown3 (Hb2.out.grown hgrow3 hs2 Hgl.out)
  · obtain rfl : k = cap := by omega
    obtain rfl : k = len := by omega
    have hdn : K.drop k = [] := List.drop_of_length_le (by have := HK.out; omega)
    go_wp2_with (first | (at_builtin; refine wpList_append_own _ rfl _ _ 22 rfl w.heap.size 3 i0 (.int .i64 0) 1 8 Try.underlying22 hii hz0 hz1 hz2 (by simp [Value.cells]) (by decide) _ (k + 1) _ rfl hown2 ⟨b, o, none⟩ 0 0 [] rfl rfl (by simp) (by simp) (by unfold maxLen; omega) (by omega) (by omega) ?_; intro v3 w3 hown3 hgrow3 _))
    go_ret
    exact Hfin.out _ _ (by rw [hdn, Nat.sub_self]; exact hown3) (Hb2.out.grown hgrow3 hs2 Hgl.out)
set_option maxHeartbeats 2000000 in
theorem ints_any (a : Option Addr) (len cap m : Nat) (K : List Int) (w : World) (h : IsL w a len cap K) (h1 : 1 ≤ len) (hl : len ≤ 1000) (hm : len ≤ m) (hm2 : m ≤ 1000) :
    Calls Try.prog 24 #[.slice a len cap, .int .i64 (m : Nat)] w fun e w' => ∃ v, e = .returned v ∧ w'.ownsRow w.heap.size 3 1 v len (K.map (Value.int .i64)) ∧ Below w.heap.size w w' := by
  have hK := h.1
  have hlc := h.2.1
  have hcm := h.2.2.1
  unfold maxLen at hcm
  obtain ⟨b, o, rfl, hb, hc⟩ := isL_at h h1
  obtain ⟨i0, hii, hz0, hz1, hz2⟩ := info_parts Try.infoI
  have hmn : min (len : Int) (m : Int) = (len : Int) := by omega
  have hmn2 : min len m = len := by omega
  have hst := src_take hK hc len
  rw [List.take_of_length_le (by omega)] at hst
  have Hst := Lib.hid hst
  have HK := Lib.hid hK
  clear h hc hK hst
  go_enter Try.func24, Try.ntmps24
  go_wp2_with (first | (at_builtin; refine wpList_append_own _ rfl _ _ 22 rfl w.heap.size 3 i0 (.int .i64 0) 1 8 Try.underlying22 hii hz0 hz1 hz2 (by simp [Value.cells]) (by decide) _ 0 [] rfl (World.ownsRow_nil _ _ _ _) ⟨b, o, none⟩ len cap (K.map (Value.int .i64)) rfl (by have := HK.out; simp; omega) Hst.out (ints_one _) (by unfold maxLen; omega) (by omega) (Nat.le_refl _) ?_; intro v1 w1 hown1 hgrow1 _))
  simp only [Nat.zero_add, List.nil_append] at hown1
  go_ret
  exact ⟨_, rfl, hown1, (Below.refl _ _).grown hgrow1 (Nat.le_refl _) (fun k e => by cases e)⟩
/-- What the laws make of a list: its first n numbers reduced, the missing ones replaced by their indexes. -/
def gen (Z : List Int) (m : Int) (n : Nat) : List Int := (List.range n).map fun i => aro (if i < Z.length then Z.getD i 0 else (i : Int)) m
theorem gen_len (Z : List Int) (m : Int) (n : Nat) : (gen Z m n).length = n := by simp [gen]
theorem gen_snoc (Z : List Int) (m : Int) (n : Nat) : gen Z m (n + 1) = gen Z m n ++ [aro (if n < Z.length then Z.getD n 0 else (n : Int)) m] := by simp [gen, List.range_succ]
theorem gen_bd (Z : List Int) (m : Int) (n : Nat) (hm : 1 ≤ m) : ∀ x ∈ gen Z m n, 0 ≤ x ∧ x < m := by
  intro x hx
  unfold gen at hx
  obtain ⟨i, _, rfl⟩ := List.mem_map.1 hx
  exact aro_bd _ m hm
end Go.Proofs.Ytbepnjlgneialaa.Ji
