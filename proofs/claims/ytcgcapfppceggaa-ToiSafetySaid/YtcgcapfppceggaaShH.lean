/-
  Contracts of the generators of shapes: outlines, Turned, Shape.
  Conditions: none.
-/
import Derived.Test.YtcgcapfppceggaaShA
import Derived.Test.YtcgcapfppceggaaQk
import Derived.OwnWalk
import Derived.LoopTactic
namespace Go.Proofs.Ytcgcapfppceggaa.Sh
open Go.RowKit Go.Proofs.Ytcgcapfppceggaa.FxMath Go.Proofs.Ytcgcapfppceggaa.FxA Go.Proofs.Ytcgcapfppceggaa.Qt Go.Proofs.Ytcgcapfppceggaa.Ve Go.Shelf
set_option linter.unusedVariables false
set_option linter.unusedSimpArgs false

/-- The cells of a list of vectors. -/
def flat (zs : List (Int × Int)) : List Value := zs.flatMap fun z => [.int .i64 z.1, .int .i64 z.2]
theorem flat_nil : flat [] = [] := rfl
theorem flat_cons (z : Int × Int) (zs : List (Int × Int)) : flat (z :: zs) = .int .i64 z.1 :: .int .i64 z.2 :: flat zs := rfl
theorem flat_append (a b : List (Int × Int)) : flat (a ++ b) = flat a ++ flat b := by unfold flat; rw [List.flatMap_append]
theorem flat_length : ∀ zs : List (Int × Int), (flat zs).length = zs.length * 2
  | [] => rfl
  | z :: zs => by rw [flat_cons]; simp only [List.length_cons, flat_length zs]; omega
theorem flat_get : ∀ (zs : List (Int × Int)) (i : Nat), i < zs.length → (flat zs)[i * 2]? = some (.int .i64 (vx zs i)) ∧ (flat zs)[i * 2 + 1]? = some (.int .i64 (vy zs i))
  | [], i, h => by simp at h
  | z :: zs, 0, _ => ⟨rfl, rfl⟩
  | z :: zs, i + 1, h => by
    have := flat_get zs i (by simpa using h)
    rw [flat_cons, show (i + 1) * 2 = i * 2 + 1 + 1 by omega]
    exact this
theorem flat_inv : ∀ (zs : List (Int × Int)) (j : Nat) (u : Value), (flat zs)[j]? = some u → ∃ i, i < zs.length ∧ ((j = i * 2 ∧ u = .int .i64 (vx zs i)) ∨ (j = i * 2 + 1 ∧ u = .int .i64 (vy zs i))) := fun zs j u h => by
  have hl : j < zs.length * 2 := by rw [← flat_length]; exact (List.getElem?_eq_some_iff.1 h).1
  have g := flat_get zs (j / 2) (by omega)
  refine ⟨j / 2, by omega, ?_⟩
  by_cases he : j % 2 = 0
  · have e : j = j / 2 * 2 := by omega
    left
    refine ⟨e, ?_⟩
    rw [← e, h] at g
    exact Option.some.inj g.1
  · have e : j = j / 2 * 2 + 1 := by omega
    right
    refine ⟨e, ?_⟩
    rw [← e, h] at g
    exact Option.some.inj g.2
theorem flat_one (zs : List (Int × Int)) : ∀ u ∈ flat zs, u.oneCell' = true := by
  intro u hu
  unfold flat at hu
  obtain ⟨z, _, hz⟩ := List.mem_flatMap.1 hu
  simp at hz
  rcases hz with rfl | rfl <;> rfl
theorem vx_drop (zs : List (Int × Int)) (k i : Nat) : vx (zs.drop k) i = vx zs (k + i) := by unfold vx; simp [List.getD_eq_getElem?_getD]
theorem vy_drop (zs : List (Int × Int)) (k i : Nat) : vy (zs.drop k) i = vy zs (k + i) := by unfold vy; simp [List.getD_eq_getElem?_getD]
theorem vx_take (zs : List (Int × Int)) (k i : Nat) (h : i < k) : vx (zs.take k) i = vx zs i := by unfold vx; simp [List.getD_eq_getElem?_getD, h]
theorem vy_take (zs : List (Int × Int)) (k i : Nat) (h : i < k) : vy (zs.take k) i = vy zs i := by unfold vy; simp [List.getD_eq_getElem?_getD, h]
theorem add_at (b o j : Nat) : (⟨b, o, none⟩ : Addr).add j = ⟨b, o + j, none⟩ := by
  unfold Addr.add
  split
  · rename_i h; rw [h]; rfl
  · rfl
/-- A row of the call's own reads as a list. -/
theorem poly_of_row {w : World} {base : Nat} {e : TypeId} {v : Value} {n : Nat} {zs : List (Int × Int)} (h : w.ownsRow base e 2 v n (flat zs)) : zs.length = n ∧ ∃ a cap, v = .slice a n cap ∧ IsPoly w a n cap zs := by
  have hl : zs.length = n := by have := h.1; rw [flat_length] at this; omega
  refine ⟨hl, ?_⟩
  obtain ⟨_, ⟨hv, hn⟩ | ⟨g, cap, cur, hv, hb, hh, hnc, hcm, hcs, ht⟩⟩ := id h
  · subst hn
    exact ⟨none, 0, hv, .inl ⟨rfl, rfl, rfl, by cases zs with | nil => rfl | cons => simp at hl⟩⟩
  · refine ⟨_, cap, hv, .inr ⟨g, 0, rfl, hl, hnc, hcm, fun i hi => ?_⟩⟩
    have g1 := flat_get zs i (by omega)
    have c := h.cells (g := g) (by rw [hv]; rfl)
    have c0 := c _ _ g1.1
    have c1 := c _ _ g1.2
    rw [add_at] at c0 c1
    exact ⟨c0, c1⟩
theorem ownsRow_later {w W : World} {base : Nat} {e : TypeId} {size : Nat} {v : Value} {n : Nat} {xs : List Value} (h : w.ownsRow base e size v n xs) (hb : Below w.heap.size w W) : W.ownsRow base e size v n xs := by
  refine h.kept (row := none) ⟨hb.os, hb.tape, hb.output, hb.size, fun k hk _ => hb.block k hk⟩ ?_
  cases v.ownBlock with
  | none => exact .inl rfl
  | some k => exact .inr (by simp)
/-- A new block that holds a list of vectors. -/
theorem poly_of_block {W : World} {B : Nat} {t : TypeId} {zs : List (Int × Int)} (h : W.heap[B]? = some (.cells (flat zs).toArray t (0, 0))) (hn : zs.length ≤ maxLen) : IsPoly W (some ⟨B, 0, none⟩) zs.length zs.length zs := by
  refine .inr ⟨B, 0, rfl, rfl, Nat.le_refl _, hn, fun i hi => ?_⟩
  have g1 := flat_get zs i hi
  rw [Nat.zero_add]
  constructor
  · simp [World.cell?, h, g1.1]
  · simp [World.cell?, h, g1.2]

theorem heap_alloc_if (w : World) (o : Obj) (b : Nat) : (w.alloc o).heap[b]? = if b < w.heap.size then w.heap[b]? else if b = w.heap.size then some o else none := by
  split
  · exact Below.heap_alloc _ _ _ ‹_›
  · split
    · rename_i h; subst h; exact World.alloc_heap_new w o
    · simp only [World.alloc, Array.getElem?_eq_none_iff, Array.size_push]; omega
theorem src_drop {W : World} {b o len : Nat} {zs : List (Int × Int)} (hl : zs.length = len) (hc : ∀ i, i < len → W.cell? ⟨b, o + i * 2, none⟩ = some (.int .i64 (vx zs i)) ∧ W.cell? ⟨b, o + i * 2 + 1, none⟩ = some (.int .i64 (vy zs i))) (k : Nat) :
    ∀ j u, (flat (zs.drop k))[j]? = some u → W.cell? ((⟨b, o + k * 2, none⟩ : Addr).add j) = some u := by
  intro j u h
  obtain ⟨i, hi, ⟨rfl, rfl⟩ | ⟨rfl, rfl⟩⟩ := flat_inv _ _ _ h
  · rw [add_at, vx_drop, show o + k * 2 + i * 2 = o + (k + i) * 2 by omega]
    exact (hc (k + i) (by simp at hi; omega)).1
  · rw [add_at, vy_drop, show o + k * 2 + (i * 2 + 1) = o + (k + i) * 2 + 1 by omega]
    exact (hc (k + i) (by simp at hi; omega)).2
theorem src_take {W : World} {b o len : Nat} {zs : List (Int × Int)} (hl : zs.length = len) (hc : ∀ i, i < len → W.cell? ⟨b, o + i * 2, none⟩ = some (.int .i64 (vx zs i)) ∧ W.cell? ⟨b, o + i * 2 + 1, none⟩ = some (.int .i64 (vy zs i))) (k : Nat) :
    ∀ j u, (flat (zs.take k))[j]? = some u → W.cell? ((⟨b, o, none⟩ : Addr).add j) = some u := by
  intro j u h
  obtain ⟨i, hi, ⟨rfl, rfl⟩ | ⟨rfl, rfl⟩⟩ := flat_inv _ _ _ h
  · rw [add_at, vx_take _ _ _ (by simp at hi; omega)]
    exact (hc i (by simp at hi; omega)).1
  · rw [add_at, vy_take _ _ _ (by simp at hi; omega), ← Nat.add_assoc]
    exact (hc i (by simp at hi; omega)).2

theorem poly_set {W : World} {a : Option Addr} {len cap : Nat} {zs : List (Int × Int)} (h : IsPoly W a len cap zs) {B : Nat} (hn : ∀ x, a = some x → x.block ≠ B) (o : Nat) (v : Value) : IsPoly (W.setCell ⟨B, o, none⟩ v) a len cap zs := by
  rcases h with h | ⟨b, o', h1, h2, h3, h4, h5⟩
  · exact .inl h
  · have hb : b ≠ B := hn _ h1
    exact .inr ⟨b, o', h1, h2, h3, h4, fun i hi => ⟨by rw [setCell_if, if_neg hb]; exact (h5 i hi).1, by rw [setCell_if, if_neg hb]; exact (h5 i hi).2⟩⟩

/-- The six outlines. -/
def outl : Nat → List (Int × Int)
  | 0 => [(-1, -1), (1, -1), (0, 1)]
  | 1 => [(-1, -1), (1, -1), (1, 1), (-1, 1)]
  | 2 => [(0, -1), (1, 0), (0, 1), (-1, 0)]
  | 3 => [(-2, -2), (2, -2), (3, 1), (0, 3), (-3, 1)]
  | 4 => [(2, 0), (1, 2), (-1, 2), (-2, 0), (-1, -2), (1, -2)]
  | _ => [(-3, -1), (3, -1), (1, 2), (-1, 2)]

def OutP (w : World) (e : Ending) (W : World) : Prop := ∃ B, e = .returned (.slice (some ⟨B, 0, none⟩) 6 6) ∧ Below w.heap.size w W ∧
  ∀ i, i < 6 → ∃ Bi, W.cell? ⟨B, i, none⟩ = some (.slice (some ⟨Bi, 0, none⟩) (outl i).length (outl i).length) ∧ IsPoly W (some ⟨Bi, 0, none⟩) (outl i).length (outl i).length (outl i)
set_option maxHeartbeats 2000000 in
theorem outlines_any (w : World) : Calls Try.prog 48 #[] w (OutP w) := by
  go_enter Try.func48, Try.ntmps48
  go_wp2
  go_ret
  refine ⟨w.heap.size + 1 + 1 + 1 + 1 + 1 + 1, rfl, by (repeat (first | (with_reducible exact Below.refl _ _) | (with_reducible refine Below.drew ?_) | (with_reducible refine below_drewN ?_ _) | (with_reducible refine Below.setCell ?_ (by first | (simp; done) | (simp; omega) | omega) _) | (with_reducible refine Below.alloc ?_ (by first | (simp; done) | (simp; omega) | omega) _) | (with_reducible refine Below.trans ?_ (Below.mono (by assumption) (by first | (simp; done) | (simp; omega) | omega))) | (with_reducible refine Below.trans ?_ (Below.mono (Later.below _) (by first | (simp; done) | (simp; omega) | omega))))), fun i hi => ?_⟩
  match i, hi with
  | 0, _ => exact ⟨w.heap.size, by simp [outl, alloc_if, ↓IntWalk.iteOmega], poly_of_block (t := 29) (by simp only [heap_alloc_if, World.size_alloc, ↓IntWalk.iteOmega]; rfl) (by decide)⟩
  | 1, _ => exact ⟨w.heap.size + 1, by simp [outl, alloc_if, ↓IntWalk.iteOmega], poly_of_block (t := 29) (by simp only [heap_alloc_if, World.size_alloc, ↓IntWalk.iteOmega]; rfl) (by decide)⟩
  | 2, _ => exact ⟨w.heap.size + 1 + 1, by simp [outl, alloc_if, ↓IntWalk.iteOmega], poly_of_block (t := 29) (by simp only [heap_alloc_if, World.size_alloc, ↓IntWalk.iteOmega]; rfl) (by decide)⟩
  | 3, _ => exact ⟨w.heap.size + 1 + 1 + 1, by simp [outl, alloc_if, ↓IntWalk.iteOmega], poly_of_block (t := 29) (by simp only [heap_alloc_if, World.size_alloc, ↓IntWalk.iteOmega]; rfl) (by decide)⟩
  | 4, _ => exact ⟨w.heap.size + 1 + 1 + 1 + 1, by simp [outl, alloc_if, ↓IntWalk.iteOmega], poly_of_block (t := 29) (by simp only [heap_alloc_if, World.size_alloc, ↓IntWalk.iteOmega]; rfl) (by decide)⟩
  | 5, _ => exact ⟨w.heap.size + 1 + 1 + 1 + 1 + 1, by simp [outl, alloc_if, ↓IntWalk.iteOmega], poly_of_block (t := 29) (by simp only [heap_alloc_if, World.size_alloc, ↓IntWalk.iteOmega]; rfl) (by decide)⟩
def rot (zs : List (Int × Int)) (k : Nat) : List (Int × Int) := zs.drop k ++ zs.take k
theorem Try.infoV : (Try.prog.info? 29).map (fun i => (i.zero, i.size, i.bytes)) = some (some (.agg #[.int .i64 0, .int .i64 0]), 2, 16) := by kernel_rfl
def TurnP (w : World) (zs : List (Int × Int)) (k : Nat) (e : Ending) (W : World) : Prop := ∃ a cap, e = .returned (.agg #[.int .i64 0, .slice a zs.length cap]) ∧ IsPoly W a zs.length cap (rot zs k) ∧ Below w.heap.size w W ∧ ∀ x, a = some x → w.heap.size ≤ x.block
set_option maxHeartbeats 2000000 in
theorem turned_any (r by' : Int) (a : Option Addr) (len cap : Nat) (zs : List (Int × Int)) (w : World) (h : IsPoly w a len cap zs) (h1 : 1 ≤ len) (h2 : len ≤ 1000) (b0 : -9223372036854775808 ≤ by') (b1 : by' ≤ 9223372036854775807) :
    Calls Try.prog 22 #[.agg #[.int .i64 r, .slice a len cap], .int .i64 by'] w (TurnP w zs (aro by' len).toNat) := by
  rcases h with ⟨_, h0, _⟩ | ⟨b, o, rfl, hzl, hle, hcm, hcell⟩
  · omega
  unfold maxLen at hcm
  have lb := World.block_lt_of_cell? w _ (hcell 0 (by omega)).1
  simp only at lb
  have hk := aro_bd by' len (by omega)
  obtain ⟨k, hkk⟩ : ∃ k, k = (aro by' len).toNat := ⟨_, rfl⟩
  have hak : aro by' len = (k : Int) := by omega
  have hkl : k < len := by omega
  have ca := gives_same (fun w => around_any by' len w b0 b1 (by omega) (by omega))
  rw [hak] at ca
  rw [← hkk]
  clear hkk hak hk
  have Hca := Lib.hid ca; clear ca
  have hlb : ((len : Int) == 0) = false := beq_eq_false_iff_ne.2 (by omega)
  have hcb : ((cap : Int) == (k : Int)) = false := beq_eq_false_iff_ne.2 (by omega)
  have hk0 : (0 : Int) ≤ (k : Int) := by omega
  have hkI : (k : Int) ≤ (len : Int) := by omega
  have hkc : (k : Int) ≤ (cap : Int) := by omega
  have tok1 : True := trivial
  have hal := alloc_if; have hfal := allocF_if
  go_enter Try.func22, Try.ntmps22
  obtain ⟨i0, hi, hz0, hz1, hz2⟩ := info_parts Try.infoV
  go_wp2_with (first | ((with_reducible refine (Hca.out _).mono ?_); rintro e wA ⟨rfl, hbA⟩; obtain ⟨NA, hNA, hcA, hfA, hsA⟩ := bcell hbA; (try simp only [World.size_alloc, World.size_setCell, World.size_drew] at hNA)) | (at_builtin; have _t := tok1; refine wpList_append_own _ rfl _ _ 23 rfl (w.heap.size + 1 + 1) 29 i0 (.agg #[.int .i64 0, .int .i64 0]) 2 16 Try.underlying23 hi hz0 hz1 hz2 (by simp [Value.cells]) (by decide) _ 0 [] rfl (World.ownsRow_nil _ _ _ _) ⟨b, o + k * 2, none⟩ (len - k) (cap - k) (flat (zs.drop k)) rfl (by rw [flat_length]; simp; omega) (src_drop hzl (fun i hi => ⟨cell_below (by (repeat (first | (with_reducible exact Below.refl _ _) | (with_reducible refine Below.drew ?_) | (with_reducible refine below_drewN ?_ _) | (with_reducible refine Below.setCell ?_ (by first | (simp; done) | (simp; omega) | omega) _) | (with_reducible refine Below.alloc ?_ (by first | (simp; done) | (simp; omega) | omega) _) | (with_reducible refine Below.trans ?_ (Below.mono (by assumption) (by first | (simp; done) | (simp; omega) | omega))) | (with_reducible refine Below.trans ?_ (Below.mono (Later.below _) (by first | (simp; done) | (simp; omega) | omega)))))) (hcell i hi).1, cell_below (by (repeat (first | (with_reducible exact Below.refl _ _) | (with_reducible refine Below.drew ?_) | (with_reducible refine below_drewN ?_ _) | (with_reducible refine Below.setCell ?_ (by first | (simp; done) | (simp; omega) | omega) _) | (with_reducible refine Below.alloc ?_ (by first | (simp; done) | (simp; omega) | omega) _) | (with_reducible refine Below.trans ?_ (Below.mono (by assumption) (by first | (simp; done) | (simp; omega) | omega))) | (with_reducible refine Below.trans ?_ (Below.mono (Later.below _) (by first | (simp; done) | (simp; omega) | omega)))))) (hcell i hi).2⟩) k) (flat_one _) (by unfold maxLen; omega) (by omega) (by omega) ?_; intro v1 w2 hown1 hgrow1 _; clear tok1; simp only [Nat.zero_add, List.nil_append] at hown1; have hbw2 : Below w.heap.size w w2 := Below.grown (by (repeat (first | (with_reducible exact Below.refl _ _) | (with_reducible refine Below.drew ?_) | (with_reducible refine below_drewN ?_ _) | (with_reducible refine Below.setCell ?_ (by first | (simp; done) | (simp; omega) | omega) _) | (with_reducible refine Below.alloc ?_ (by first | (simp; done) | (simp; omega) | omega) _) | (with_reducible refine Below.trans ?_ (Below.mono (by assumption) (by first | (simp; done) | (simp; omega) | omega))) | (with_reducible refine Below.trans ?_ (Below.mono (Later.below _) (by first | (simp; done) | (simp; omega) | omega)))))) hgrow1 (by omega) (fun k e => by cases e); have hsz2 := hgrow1.size; have hg1 : World.grownBy wA w2 none := hgrow1; clear hgrow1; have s2 := hg1.cell (a := ⟨w.heap.size, 1, none⟩) (v := .slice (some ⟨b, o, none⟩) len cap) (by simp [hcA, alloc_if, ↓IntWalk.iteOmega]) (by simp); have z0 := hg1.cell (a := ⟨w.heap.size + 1, 0, none⟩) (v := .int .i64 0) (by simp [hcA, alloc_if, ↓IntWalk.iteOmega]) (by simp); have z1 := hg1.cell (a := ⟨w.heap.size + 1, 1, none⟩) (v := .slice none 0 0) (by simp [hcA, alloc_if, ↓IntWalk.iteOmega]) (by simp); have zf : ∀ i, w2.frozen? ⟨w.heap.size + 1, i, none⟩ = false := fun i => (World.frozen?_of_block (a := ⟨w.heap.size + 1, i, none⟩) (hg1.block (w.heap.size + 1) (by omega) (by simp))).trans (by simp [hfA, allocF_if, ↓IntWalk.iteOmega]); have tok2 : True := trivial) | (at_builtin; have _t := tok2; refine wpList_append_own _ rfl _ _ 23 rfl (w.heap.size + 1 + 1) 29 i0 (.agg #[.int .i64 0, .int .i64 0]) 2 16 Try.underlying23 hi hz0 hz1 hz2 (by simp [Value.cells]) (by decide) _ (len - k) (flat (zs.drop k)) rfl hown1 ⟨b, o, none⟩ k cap (flat (zs.take k)) rfl (by rw [flat_length]; simp; omega) (src_take hzl (fun i hi => ⟨cell_below hbw2 (hcell i hi).1, cell_below hbw2 (hcell i hi).2⟩) k) (flat_one _) (by unfold maxLen; omega) (by omega) (by omega) ?_; intro v2 w3 hown2 hgrow2 _; clear tok2; rw [← flat_append, show len - k + k = len by omega] at hown2; obtain ⟨hl2, a2, cap2, rfl, hp2⟩ := poly_of_row hown2; have hv1 := hown1.lt; have hne : some (w.heap.size + 1) ≠ v1.ownBlock := (fun e => by have := (hv1 _ e.symm).1; omega); have y0 := hgrow2.cell z0 hne; have y1 := hgrow2.cell z1 hne; have yf : ∀ i, w3.frozen? ⟨w.heap.size + 1, i, none⟩ = false := (fun i => (World.frozen?_of_block (a := ⟨w.heap.size + 1, i, none⟩) (hgrow2.block (w.heap.size + 1) (World.block_lt_of_cell? _ _ z0) hne)).trans (zf i)); have hbw3 : Below w.heap.size w w3 := hbw2.grown hgrow2 hbw2.size (fun k e => by have := (hv1 _ e).1; omega)))
  refine bodyPost_ret (v := .agg #[.int .i64 0, .slice a2 len cap2]) (by simp [results, Try.results22, go_sem, setCell_if, y0, y1]) rfl ?_
  refine ⟨a2, cap2, by rw [hzl], ?_, (hbw3.setCell (p := ⟨w.heap.size + 1, 0, none⟩) (by simp) _).setCell (p := ⟨w.heap.size + 1, 1, none⟩) (by simp) _, fun x hx => by have := (hown2.lt x.block (by rw [hx]; rfl)).1; omega⟩
  rw [hzl]
  have hg3 : w3.grownBy ((w3.setCell ⟨w.heap.size + 1, 0, none⟩ (.int .i64 0)).setCell ⟨w.heap.size + 1, 1, none⟩ (.slice a2 len cap2)) (some (w.heap.size + 1)) := only_set (p := ⟨w.heap.size + 1, 1, none⟩) (only_set (p := ⟨w.heap.size + 1, 0, none⟩) ⟨rfl, rfl, rfl, Nat.le_refl _, fun _ _ _ => rfl⟩ rfl _) rfl _
  have hown3 := hown2.kept hg3 (.inr (fun e => by have := (hown2.lt _ e).1; omega))
  obtain ⟨_, a3, cap3, he, hp3⟩ := poly_of_row hown3
  injection he with e1 _ e3
  subst e1 e3
  exact hp3
end Go.Proofs.Ytcgcapfppceggaa.Sh
