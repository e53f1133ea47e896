/-
  A region that draws its order: all operations but a forced tail are quiet in a class of worlds; then one walk in the order of the text serves every order. And the class of the later worlds: nothing that was there has changed.
  Conditions: stated in each law.
-/
import Derived.StillTail
import Derived.Deep.Quiet
import Derived.Deep.QuietTactic
import Derived.Below
import Derived.WalkKit
namespace Go.Proofs.Ytcgcapfppceggaa.Qt
open Go Go.RowKit
section
variable {P : Program} {ops : Array Oper} {md : Region.Mode} {C : World → Prop}

def wpAnyT (P : Program) (md : Region.Mode) (ops : Array Oper) (C : World → Prop) (n : Nat) (L : Array Bool → Act → Prop) : Nat → Array Bool → Act → Prop
  | 0, listed, a => L listed a
  | f + 1, listed, a =>
    Region.ready md ops listed ≠ [] ∧ ∀ i ∈ Region.ready md ops listed, i < n ∧ qOp P ops C i (wpAnyT P md ops C n L f (listed.setIfInBounds i true)) a

theorem wpAny_of_headT {n g : Nat} {L : Array Bool → Act → Prop} {Q' : Exit → Act → World → Prop} (hL : ∀ listed a w, C w → L listed a → wpAny P md ops Q' g listed a w) :
    ∀ (f : Nat) (listed : Array Bool) (a : Act) (w : World), C w → wpAnyT P md ops C n L f listed a → wpAny P md ops Q' (f + g) listed a w
  | 0, listed, a, w, hw, h => by rw [Nat.zero_add]; exact hL _ _ _ hw h
  | f + 1, listed, a, w, hw, h => by
    rw [show f + 1 + g = (f + g) + 1 by omega]
    exact ⟨fun h0 => absurd h0 h.1, fun i hi => wpOp_of_qOp hw (fun a' w' hw' h' => wpAny_of_headT hL f _ a' w' hw' h') (h.2 i hi).2⟩

theorem wpAnyT_first {n i : Nat} {oi : Oper} {v : Value} {L : Array Bool → Act → Prop} (hi : ops[i]? = some oi) (hsel : ∀ (j : Nat) (o : Oper) cs b, ops[j]? = some o → o.op ≠ .select cs b)
    (hs : Region.sinkB md ops n = true) (hc : Region.chainB md ops n = true) (hn : n < ops.size) (hin : i < n)
    (hdone : ∀ listed a, L listed a → ∀ j ∈ Region.ready md ops listed, n ≤ j) :
    ∀ (f : Nat) (listed : Array Bool) (a : Act), HeadInv md ops n listed →
      (∀ j oj, ops[j]? = some oj → j ≠ i → listed.getD j true = false → (∀ e ∈ oj.after, Region.binds md e = true → e.on ≠ i) → oi.apart ops oj = true) →
      i ∈ Region.ready md ops listed → YieldsIn P ops C oi v a →
      wpAnyT P md ops C n L f (listed.setIfInBounds i true) (a.put oi.dst v) → wpAnyT P md ops C n L (f + 1) listed a := by
  intro f
  induction f with
  | zero =>
    intro listed a inv _ hr hy H
    have hun := (mem_ready.1 hr).1
    refine ⟨fun h => (by rw [h] at hr; cases hr), fun j hj => ?_⟩
    have hjn : j < n := by
      rcases Nat.lt_or_ge j n with h | h
      · exact h
      · exact absurd hj (tail_waits hs hc hn inv _ i rfl hin hun j h)
    refine ⟨hjn, ?_⟩
    by_cases hji : j = i
    · subst hji; exact hy.qOp hi H
    · have := hdone _ _ H j (ready_mono hj hji)
      omega
  | succ f ih =>
    intro listed a inv hfree hr hy H
    have hun := (mem_ready.1 hr).1
    refine ⟨fun h => (by rw [h] at hr; cases hr), fun j hj => ?_⟩
    have hjn : j < n := by
      rcases Nat.lt_or_ge j n with h | h
      · exact h
      · exact absurd hj (tail_waits hs hc hn inv _ i rfl hin hun j h)
    refine ⟨hjn, ?_⟩
    by_cases hji : j = i
    · subst hji; exact hy.qOp hi H
    · have h1 := (H.2 j (ready_mono hj hji)).2
      obtain ⟨hjun, oj, hoj, hall⟩ := mem_ready.1 hj
      have hnot : ∀ e ∈ oj.after, Region.binds md e = true → e.on ≠ i := fun e he hb heq => by
        have h1 := hall e he hb
        rw [heq, getD_both hun] at h1
        cases h1
      have h2 := qOp_put hoj (hfree j oj hoj hji hjun hnot) (fun cs b => hsel i oi cs b hi) (fun cs b => hsel j oj cs b hoj) hy h1
      have hfree' : ∀ k ok, ops[k]? = some ok → k ≠ i → (listed.setIfInBounds j true).getD k true = false →
          (∀ e ∈ ok.after, Region.binds md e = true → e.on ≠ i) → oi.apart ops ok = true := fun k ok hk hki hun hno => by
        refine hfree k ok hk hki ?_ hno
        by_cases hjk : j = k
        · subst hjk; exact hjun
        · rw [getD_set_ne true hjk] at hun; exact hun
      refine qOp_mono (fun a' h3 => ih (listed.setIfInBounds j true) a' (inv.set hj hjn) hfree' (ready_mono hr (Ne.symm hji)) h3.1 ?_) h2
      rw [Array.setIfInBounds_comm _ _ hji]
      exact h3.2

theorem wpAnyT_lex {n g : Nat} {Lq : Act → Prop} (hsel : Region.noSelect ops = true) (hs : Region.sinkB md ops n = true) (hc : Region.chainB md ops n = true) (hn : n < ops.size) :
    ∀ (l : List Oper) (k : Nat) (listed : Array Bool) (a : Act), (∀ j, j < l.length → l[j]? = ops[k + j]?) → k + l.length = n → HeadInv md ops n listed →
    Region.lexHead md ops g l.length k listed = true → wpQuiet P ops C Lq l a →
    wpAnyT P md ops C n (fun listed' a' => Region.seqB md ops g n listed' = true ∧ Lq a') l.length listed a
  | [], k, listed, a, _, hk, _, hB, h => by
    have : k = n := by simpa using hk
    subst this
    exact ⟨by simpa [Region.lexHead] using hB, h⟩
  | o :: l, k, listed, a, hl, hk, inv, hB, h => by
    have h0 : ops[k]? = some o := by simpa using (hl 0 (by simp)).symm
    simp only [List.length_cons, Region.lexHead, Bool.and_eq_true] at hB
    obtain ⟨⟨hr, hf⟩, hB'⟩ := hB
    have hkn : k < n := by simp only [List.length_cons] at hk; omega
    have hr' : k ∈ Region.ready md ops listed := by simpa using hr
    have hst : qOp P ops C k (wpQuiet P ops C Lq l) a := by unfold qOp; simp only [h0]; exact h
    obtain ⟨v, hy, hK⟩ := yieldsIn_of_qOp h0 hst
    exact wpAnyT_first h0 (Region.noSelect_spec hsel) hs hc hn hkn (fun listed' a' hL => seqB_ready hL.1) l.length listed a inv (Region.free_spec h0 hf) hr' hy
      (wpAnyT_lex hsel hs hc hn l (k + 1) _ _ (fun j hj => by have := hl (j + 1) (by simp; omega); simpa [Nat.add_assoc, Nat.add_comm 1 j] using this) (by simp only [List.length_cons] at hk; omega) (inv.set hr' hkn) hB' hK)

/-- The head of the region, in the order of the text, quiet in the class; then the tail, in its forced order, from every world of the class. -/
theorem wp_region_quiet_tail {id : Nat} {Q : Exit → Act → World → Prop} {a : Act} {w : World} {l : List Oper} (n : Nat) (hm : P.follows .mixedOrders = true) (hB : Region.lexTailB .any l.toArray n = true)
    (hC : C { w with drawn := w.drawn + 1 })
    (h : wpQuiet P l.toArray C (fun a' => ∀ w', C w' → wpList P l.toArray Q (l.drop n) a' w') (l.take n) a) : (Code.region id l.toArray true).wp P Q a w := by
  simp only [Region.lexTailB, Bool.and_eq_true, decide_eq_true_eq] at hB
  obtain ⟨⟨⟨⟨hsel, hn⟩, hs⟩, hc⟩, hlex⟩ := hB
  have hn' : n < l.length := by simpa using hn
  have htl : (l.take n).length = n := by simp; omega
  have hdl : (l.drop n).length = l.toArray.size - n := by simp
  have inv0 : HeadInv .any l.toArray n (Array.replicate l.toArray.size false) :=
    ⟨by simp, fun j oj _ hl => (by rw [getD_replicate_false] at hl; cases hl), fun t _ ht => getD_in (by simpa using ht) (getD_replicate_false _ _)⟩
  have H := wpAnyT_lex (C := C) (md := .any) (g := l.toArray.size - n) hsel hs hc hn (l.take n) 0 _ a (fun j hj => by
    have hj' : j < n := by rw [htl] at hj; exact hj
    simp [hj']) (by simpa using htl) inv0 (by rw [htl]; exact hlex) h
  refine wp_region_any hm ?_
  have := wpAny_of_headT (Q' := Q) (g := l.toArray.size - n) (fun listed a' w' hw' hL => by
    have := wpAny_of_seq (md := .any) (Q' := Q) (l.drop n) n listed a' w' (fun j => by simp [List.getElem?_drop]) (by rw [hdl]; exact hL.1) (hL.2 w' hw')
    rwa [hdl] at this) _ _ _ _ hC H
  rw [htl, show n + (l.toArray.size - n) = l.toArray.size by omega] at this
  exact this
end

/-! ### The class of the later worlds -/
/-- A world in which all that w held is as it was. -/
structure Later (w : World) where
  out : World
  below : Below w.heap.size w out

instance (w : World) : Inhabited (Later w) := ⟨⟨w, Below.refl _ _⟩⟩

/-- What is not known of a later world (a name of its own, so that no rule goes in circles). -/
def unk (w : World) (b o : Nat) : Option Value := w.cell? ⟨b, o, none⟩
def unkF (w : World) (b o : Nat) : Bool := w.frozen? ⟨b, o, none⟩
theorem cell_if {W w1 : World} (hb : Below W.heap.size W w1) (N : Nat) (hN : N = W.heap.size) (b o : Nat) : w1.cell? ⟨b, o, none⟩ = if b < N then W.cell? ⟨b, o, none⟩ else unk w1 b o := by
  subst hN
  split
  · exact hb.cell (p := ⟨b, o, none⟩) ‹_›
  · rfl
theorem frozen_if {W w1 : World} (hb : Below W.heap.size W w1) (N : Nat) (hN : N = W.heap.size) (b o : Nat) : w1.frozen? ⟨b, o, none⟩ = if b < N then W.frozen? ⟨b, o, none⟩ else unkF w1 b o := by
  subst hN
  split
  · exact hb.frozen (p := ⟨b, o, none⟩) ‹_›
  · rfl
theorem alloc_if (w : World) (c : Array Value) (t : TypeId) (b i : Nat) : (w.alloc (.cells c t)).cell? ⟨b, i, none⟩ = if b < w.heap.size then w.cell? ⟨b, i, none⟩ else if b = w.heap.size then c[i]? else none := by
  split
  · exact World.cell?_alloc_lt _ _ _ ‹_›
  · split
    · rename_i h; subst h; exact World.cell?_alloc_new w c t i
    · have h : (w.alloc (.cells c t)).heap[b]? = none := by
        simp only [World.alloc, Array.getElem?_eq_none_iff, Array.size_push]
        omega
      simp [World.cell?, h]
theorem allocF_if (w : World) (c : Array Value) (t : TypeId) (b i : Nat) : (w.alloc (.cells c t)).frozen? ⟨b, i, none⟩ = if b < w.heap.size then w.frozen? ⟨b, i, none⟩ else if b = w.heap.size then false else unkF (w.alloc (.cells c t)) b i := by
  split
  · exact World.frozen?_alloc_old _ _ _ (Nat.ne_of_lt ‹_›)
  · split
    · rename_i h; subst h; exact World.frozen?_alloc_new w c t i
    · rfl

theorem setCell_if (w : World) (b o b' o' : Nat) (v : Value) : (w.setCell ⟨b, o, none⟩ v).cell? ⟨b', o', none⟩ = if b' = b then (if o' = o then (w.cell? ⟨b, o, none⟩).map (fun _ => v) else w.cell? ⟨b', o', none⟩) else w.cell? ⟨b', o', none⟩ := by
  by_cases hb : b' = b
  · subst hb
    rw [if_pos rfl]
    by_cases ho : o' = o
    · subst ho
      rw [if_pos rfl]
      cases h : w.cell? ⟨b', o', none⟩ with
      | some u => exact World.cell?_setCell_same w _ v h
      | none =>
        have hh : ((w.setCell ⟨b', o', none⟩ v).cell? ⟨b', o', none⟩).isSome = false := by
          simp only [World.setCell, World.cell?, Array.getElem?_modify] at h ⊢
          cases hk : w.heap[b']? with
          | none => simp
          | some x =>
            rw [hk] at h
            cases x <;> simp_all
        simpa using hh
    · rw [if_neg ho]
      exact World.cell?_setCell_other w _ _ _ (fun e => ho (by injection e with _ e; exact e.symm))
  · rw [if_neg hb]
    exact World.cell?_setCell_other w _ _ _ (fun e => hb (by injection e with e; exact e.symm))

theorem below_drewN {B : Nat} {a w : World} (h : Below B a w) (n : Nat) : Below B a (w.drewN n) := ⟨h.os, h.tape, h.output, h.size, h.block⟩

/-- The function gives this value, and changes nothing that was there. -/
abbrev Gives (P : Program) (f : FuncId) (args : Array Value) (v : Value) : Prop := ∀ w : World, Calls P f args w fun e w' => e = .returned v ∧ Below w.heap.size w w'

theorem gives_same {P : Program} {f : FuncId} {args : Array Value} {v : Value} (h : ∀ w : World, Calls P f args w fun e w' => e = .returned v ∧ w = w') : Gives P f args v :=
  fun w => (h w).mono fun _ _ ⟨he, hw⟩ => ⟨he, by subst hw; exact Below.refl _ _⟩
theorem gives_drewN {P : Program} {f : FuncId} {args : Array Value} {v : Value} (h : ∀ w : World, Calls P f args w fun e w' => e = .returned v ∧ ∃ n, w' = w.drewN n) : Gives P f args v :=
  fun w => (h w).mono fun _ _ ⟨he, n, hw⟩ => ⟨he, by subst hw; exact below_drewN (Below.refl _ _) n⟩

/-- A cell that is there stays in a later world, behind a new block. -/
theorem later_cell {w : World} (x : Later w) {p : Addr} {v : Value} (h : w.cell? p = some v) : x.out.cell? p = some v :=
  (x.below.cell (World.block_lt_of_cell? w p h)).trans h
theorem cell_alloc {w : World} {o : Obj} {p : Addr} {v : Value} (h : w.cell? p = some v) : (w.alloc o).cell? p = some v :=
  (World.cell?_alloc_lt _ _ _ (World.block_lt_of_cell? w p h)).trans h
theorem cell_below {w w1 : World} (hb : Below w.heap.size w w1) {p : Addr} {v : Value} (h : w.cell? p = some v) : w1.cell? p = some v :=
  (hb.cell (World.block_lt_of_cell? w p h)).trans h

/-- The rules of the later worlds. -/
structure Rules (w : World) (N : Nat) : Prop where
  eq : N = w.heap.size
  cell : ∀ (x : Later w) (b o : Nat), x.out.cell? ⟨b, o, none⟩ = if b < N then w.cell? ⟨b, o, none⟩ else unk x.out b o
  frozen : ∀ (x : Later w) (b o : Nat), x.out.frozen? ⟨b, o, none⟩ = if b < N then w.frozen? ⟨b, o, none⟩ else unkF x.out b o
theorem rules (w : World) (N : Nat) (hN : N = w.heap.size) : Rules w N := ⟨hN, fun x => cell_if x.below N hN, fun x => frozen_if x.below N hN⟩

/-- A region of quiet operations with a forced tail, over the later worlds. -/
theorem wp_region_later_tail {P : Program} {id : Nat} {Q : Exit → Act → World → Prop} {a : Act} {w : World} {l : List Oper} (n : Nat) (hm : P.follows .mixedOrders = true) (hB : Region.lexTailB .any l.toArray n = true)
    (h : ∀ N, Rules w N → wpQuiet P l.toArray (fun w' => ∃ x : Later w, w' = x.out) (fun a' => ∀ w', (∃ x : Later w, w' = x.out) → wpList P l.toArray Q (l.drop n) a' w') (l.take n) a) : (Code.region id l.toArray true).wp P Q a w :=
  wp_region_quiet_tail (C := fun w' => ∃ x : Later w, w' = x.out) n hm hB ⟨⟨w.drew, (Below.refl _ _).drew⟩, rfl⟩ (h _ (rules w _ rfl))

/-- A region of quiet operations, over the later worlds. -/
theorem wp_region_later {P : Program} {id : Nat} {Q : Exit → Act → World → Prop} {a : Act} {w : World} {l : List Oper} (hm : P.follows .mixedOrders = true) (hB : Region.lexB .any l.toArray = true)
    (h : ∀ N, Rules w N → wpQuiet P l.toArray (fun w' => ∃ x : Later w, w' = x.out) (fun a' => ∀ w', (∃ x : Later w, w' = x.out) → Q .normal a' w') l a) : (Code.region id l.toArray true).wp P Q a w :=
  wp_region_quiet (C := fun w' => ∃ x : Later w, w' = x.out) hm hB ⟨⟨w.drew, (Below.refl _ _).drew⟩, rfl⟩ (by simpa using h _ (rules w _ rfl))

/-- A call in a quiet walk over the later worlds. -/
theorem later_call {P : Program} {f : FuncId} {args : Array Value} {v : Value} {w : World} {x : Later w} (h : Calls P f args x.out fun e w' => e = .returned v ∧ Below x.out.heap.size x.out w') :
    Calls P f args x.out fun e w'' => e = .returned v ∧ ∃ y : Later w, w'' = y.out :=
  h.mono fun _ w' ⟨he, hb⟩ => ⟨he, ⟨w', x.below.trans (hb.mono x.below.size)⟩, rfl⟩

/-- Old cells, marks and the number of blocks behind a call. -/
theorem bcell {W w1 : World} (hb : Below W.heap.size W w1) : ∃ N, N = W.heap.size ∧ (∀ b o, w1.cell? ⟨b, o, none⟩ = if b < N then W.cell? ⟨b, o, none⟩ else unk w1 b o) ∧ (∀ b o, w1.frozen? ⟨b, o, none⟩ = if b < N then W.frozen? ⟨b, o, none⟩ else unkF w1 b o) ∧ N ≤ w1.heap.size :=
  ⟨W.heap.size, rfl, cell_if hb _ rfl, frozen_if hb _ rfl, hb.size⟩
end Go.Proofs.Ytcgcapfppceggaa.Qt
