/-
  A region that draws its order: operations that only read before anything is written (early), operations that only read what is not written (late), then a forced tail that may write one block.
  Conditions: stated in the law.
-/
import Derived.Test.YtcgcapfppceggaaQh
namespace Go.Proofs.Ytcgcapfppceggaa.Qt
set_option linter.unusedVariables false
open Go Go.RowKit
section
variable {P : Program} {ops : Array Oper} {md : Region.Mode} {C1 C2 : World → Prop}

def SS (C1 C2 : World → Prop) (t0 : Nat) (listed : Array Bool) (w : World) : Prop := if listed.getD t0 false = true then C2 w else C1 w
theorem SS.set {t0 i : Nat} (h : i ≠ t0) (listed : Array Bool) (w : World) : SS C1 C2 t0 (listed.setIfInBounds i true) w ↔ SS C1 C2 t0 listed w := by
  unfold SS
  rw [getD_set_ne false h]

def wpAnyS (P : Program) (md : Region.Mode) (ops : Array Oper) (Q : Exit → Act → World → Prop) (C1 C2 : World → Prop) (t0 : Nat) : Nat → Array Bool → Act → World → Prop
  | 0, listed, a, w => Region.ready md ops listed = [] ∧ Q .normal a w
  | f + 1, listed, a, w => (Region.ready md ops listed = [] → Q .normal a w) ∧ ∀ i ∈ Region.ready md ops listed, wpOp P ops Q i (fun a' w' => SS C1 C2 t0 (listed.setIfInBounds i true) w' ∧ wpAnyS P md ops Q C1 C2 t0 f (listed.setIfInBounds i true) a' w') a w

theorem wpAny_of_S {Q : Exit → Act → World → Prop} {t0 : Nat} : ∀ (f : Nat) (listed : Array Bool) (a : Act) (w : World), wpAnyS P md ops Q C1 C2 t0 f listed a w → wpAny P md ops Q f listed a w
  | 0, _, _, _, h => h
  | f + 1, listed, a, w, h => ⟨h.1, fun i hi => wpOp_mono (fun a' w' h' => wpAny_of_S f _ a' w' h'.2) (h.2 i hi)⟩

theorem wpAnyS_first {Q : Exit → Act → World → Prop} {t0 i : Nat} {oi : Oper} {v : Value} {D : World → Prop} {inv : Array Bool → Prop} (hi : ops[i]? = some oi) (hsel : ∀ (j : Nat) (o : Oper) cs b, ops[j]? = some o → o.op ≠ .select cs b)
    (hQ : ∀ c a w, Q (.panic c) (a.put oi.dst v) w → Q (.panic c) a w) (hit : i ≠ t0) (hinv : ∀ listed j, inv listed → j ∈ Region.ready md ops listed → j ≠ i → listed.getD i true = false → inv (listed.setIfInBounds j true))
    (hD : ∀ listed w, inv listed → listed.getD i true = false → SS C1 C2 t0 listed w → D w) :
    ∀ (fuel : Nat) (listed : Array Bool) (a : Act) (w : World), inv listed →
      (∀ j oj, ops[j]? = some oj → j ≠ i → listed.getD j true = false → (∀ e ∈ oj.after, Region.binds md e = true → e.on ≠ i) → oi.apart ops oj = true) →
      i ∈ Region.ready md ops listed → YieldsIf P ops D oi v a → SS C1 C2 t0 listed w →
      wpAnyS P md ops Q C1 C2 t0 fuel (listed.setIfInBounds i true) (a.put oi.dst v) w → wpAnyS P md ops Q C1 C2 t0 (fuel + 1) listed a w := by
  intro fuel
  induction fuel with
  | zero =>
    intro listed a w hv _ hr hy hS H
    refine ⟨fun h => (by rw [h] at hr; cases hr), fun j hj => ?_⟩
    by_cases hji : j = i
    · subst hji; exact hy.wpOp hi (hD listed w hv (mem_ready.1 hr).1 hS) ⟨(SS.set hit _ _).2 hS, H⟩
    · have := ready_mono hj hji
      rw [H.1] at this
      cases this
  | succ fuel ih =>
    intro listed a w hv hfree hr hy hS H
    refine ⟨fun h => (by rw [h] at hr; cases hr), fun j hj => ?_⟩
    by_cases hji : j = i
    · subst hji; exact hy.wpOp hi (hD listed w hv (mem_ready.1 hr).1 hS) ⟨(SS.set hit _ _).2 hS, H⟩
    · have h1 := H.2 j (ready_mono hj hji)
      obtain ⟨hjun, oj, hoj, hall⟩ := mem_ready.1 hj
      have hnot : ∀ e ∈ oj.after, Region.binds md e = true → e.on ≠ i := fun e he hb heq => by
        have h1 := hall e he hb
        rw [heq, getD_both (mem_ready.1 hr).1] at h1
        cases h1
      have h2 := wpOp_putIf hoj (hfree j oj hoj hji hjun hnot) (fun cs b => hsel i oi cs b hi) (fun cs b => hsel j oj cs b hoj) hQ hy h1
      have hfree' : ∀ k ok, ops[k]? = some ok → k ≠ i → (listed.setIfInBounds j true).getD k true = false →
          (∀ e ∈ ok.after, Region.binds md e = true → e.on ≠ i) → oi.apart ops ok = true := fun k ok hk hki hun hno => by
        refine hfree k ok hk hki ?_ hno
        by_cases hjk : j = k
        · subst hjk; exact hjun
        · rw [getD_set_ne true hjk] at hun; exact hun
      refine wpOp_mono (fun a' w' h3 => ?_) h2
      have h4 : SS C1 C2 t0 (listed.setIfInBounds j true) w' := by
        have := h3.2.1
        rw [Array.setIfInBounds_comm _ _ (Ne.symm hji)] at this
        exact (SS.set hit _ _).1 this
      refine ⟨h4, ih (listed.setIfInBounds j true) a' w' (hinv listed j hv hj hji (mem_ready.1 hr).1) hfree' (ready_mono hr (Ne.symm hji)) h3.1 h4 ?_⟩
      rw [Array.setIfInBounds_comm _ _ hji]
      exact h3.2.2

theorem wpAnyS_tail {Q : Exit → Act → World → Prop} {t0 : Nat} : ∀ (tail : List Nat) (listed : Array Bool) (a : Act) (w : World), tailB md ops tail listed = true → (listed.getD t0 false = true ∨ tail.head? = some t0) → C2 w → t0 < listed.size →
    wpListS P ops C2 Q (tail.map fun i => ops.getD i default) a w → wpAnyS P md ops Q C1 C2 t0 tail.length listed a w
  | [], listed, a, w, hB, _, _, _, h => ⟨by simpa [tailB] using hB, h⟩
  | i :: rest, listed, a, w, hB, ht, hS, hlt, h => by
    simp only [tailB, Bool.and_eq_true, decide_eq_true_eq] at hB
    have hi : i ∈ Region.ready md ops listed := by rw [hB.1]; simp
    obtain ⟨_, o, ho, _⟩ := mem_ready.1 hi
    have hg : ops.getD i default = o := by simp [ho]
    have hl : (listed.setIfInBounds i true).getD t0 false = true := by
      rcases ht with ht | ht
      · exact getD_set_true ht
      · obtain rfl : i = t0 := by simpa using ht
        simp [hlt]
    have hSS : ∀ w', C2 w' → SS C1 C2 t0 (listed.setIfInBounds i true) w' := fun w' h' => by unfold SS; rw [if_pos hl]; exact h'
    refine ⟨fun h0 => (by rw [hB.1] at h0; cases h0), fun j hj => ?_⟩
    rw [hB.1] at hj
    obtain rfl : j = i := by simpa using hj
    simp only [List.map_cons, hg] at h
    unfold wpListS at h
    unfold wpOp
    simp only [ho]
    split
    · rename_i hw
      rw [if_pos hw] at h
      exact .inl (Oper.wp_mono (fun a' w' h' => ⟨hSS _ h'.1, wpAnyS_tail rest _ a' w' hB.2 (.inl hl) h'.1 (by simpa using hlt) h'.2⟩) h)
    · rename_i hw
      rw [if_neg hw] at h
      exact ⟨hSS _ hS, wpAnyS_tail rest _ _ w hB.2 (.inl hl) hS (by simpa using hlt) h⟩

def headB2 (md : Region.Mode) (ops : Array Oper) (t0 : Nat) (early : Bool) (next : Array Bool → Bool) : List Nat → Array Bool → Bool
  | [], listed => next listed
  | i :: rest, listed => (Region.ready md ops listed).contains i && Region.free md ops listed i && (match ops[i]? with | some o => Op.reads o.op | none => false) && i != t0 && (!early || Region.waitsFor md ops t0 i) && !listed.getD t0 false && headB2 md ops t0 early next rest (listed.setIfInBounds i true)

theorem wpAnyS_head {Q : Exit → Act → World → Prop} {t0 g : Nat} {D : World → Prop} {K : Act → Prop} {next : Array Bool → Bool} (early : Bool) (hE : early = true → ∀ w, C1 w → D w) (hL : early = false → ∀ w, (C1 w ∨ C2 w) → D w) (hsel : Region.noSelect ops = true) (hQ : ∀ d v c a w, Q (.panic c) (Act.put a d v) w → Q (.panic c) a w) (w : World) (h1 : C1 w) (h2 : C2 w)
    (hn : ∀ listed a, next listed = true → listed.size = ops.size → K a → wpAnyS P md ops Q C1 C2 t0 g listed a w) :
    ∀ (head : List Nat) (listed : Array Bool) (a : Act), headB2 md ops t0 early next head listed = true → listed.size = ops.size →
      wpQuiet P ops D K (head.map fun i => ops.getD i default) a → wpAnyS P md ops Q C1 C2 t0 (head.length + g) listed a w
  | [], listed, a, hB, hsz, h => by rw [List.length_nil, Nat.zero_add]; exact hn listed a hB hsz h
  | i :: rest, listed, a, hB, hsz, h => by
    simp only [headB2, Bool.and_eq_true, bne_iff_ne, ne_eq] at hB
    obtain ⟨⟨⟨⟨⟨⟨hr, hf⟩, hrd⟩, hit⟩, hew⟩, ht⟩, hB'⟩ := hB
    have hi : i ∈ Region.ready md ops listed := by simpa using hr
    have ht' : listed.getD t0 false = false := by simpa using ht
    obtain ⟨_, o, ho, _⟩ := mem_ready.1 hi
    have hg : ops.getD i default = o := by simp [ho]
    rw [ho] at hrd
    simp only [List.map_cons, hg] at h
    have hSS : SS C1 C2 t0 listed w := by unfold SS; split <;> assumption
    have hgo := wpAnyS_head early hE hL hsel hQ w h1 h2 hn rest (listed.setIfInBounds i true)
    rw [show (i :: rest).length + g = (rest.length + g) + 1 by simp; omega]
    have fin : ∀ v, YieldsIf P ops D o v a → wpAnyS P md ops Q C1 C2 t0 (rest.length + g) (listed.setIfInBounds i true) (a.put o.dst v) w → wpAnyS P md ops Q C1 C2 t0 (rest.length + g + 1) listed a w := fun v hy H => by
      cases early with
      | true =>
        have hwt : Region.waitsFor md ops t0 i = true := by simpa using hew
        obtain ⟨ot, hot, e, he, hb, hon⟩ := Region.waitsFor_spec hwt
        exact wpAnyS_first (inv := fun listed => listed.getD i true = false → listed.getD t0 false = false) ho (Region.noSelect_spec hsel) (hQ o.dst v) hit
          (fun L j hv hj hji hun _ => by
            have h0 := hv hun
            by_cases hjt : j = t0
            · subst hjt
              exfalso
              obtain ⟨_, o', ho', hall⟩ := mem_ready.1 hj
              have : o' = ot := Option.some.inj (ho'.symm.trans hot)
              subst this
              have h5 := hall e he hb
              rw [hon, getD_both hun] at h5
              cases h5
            · rw [getD_set_ne false hjt]; exact h0)
          (fun L w1 hv hun hS => hE rfl w1 (by unfold SS at hS; rw [hv hun] at hS; simpa using hS)) _ listed a w (fun _ => ht') (Region.free_spec ho hf) hi hy hSS H
      | false =>
        exact wpAnyS_first (inv := fun _ => True) ho (Region.noSelect_spec hsel) (hQ o.dst v) hit (fun _ _ _ _ _ _ => trivial)
          (fun L w1 _ _ hS => hL rfl w1 (by unfold SS at hS; split at hS <;> simp [hS])) _ listed a w trivial (Region.free_spec ho hf) hi hy hSS H
    unfold wpQuiet at h
    split at h
    · rename_i hwant
      obtain ⟨v, g1, g2⟩ := h
      refine fin v (.inl ⟨hwant, fun w1 hw1 => ?_⟩) (hgo _ hB' (by simpa using hsz) g2)
      have h3 := g1 w1 hw1
      unfold Oper.quietAt at h3
      cases hx : (execOp a.eval o).run P w1 with
      | ok n w2 =>
        obtain ⟨u, rfl⟩ := reads_run hrd hx
        rw [hx] at h3
        simp only [Oper.quietUpon] at h3
        rw [h3.1, h3.2]
      | halt x w2 =>
        rw [hx] at h3
        simp only [Oper.quietUpon] at h3
    · rename_i hwant
      exact fin undef (.inr ⟨by simpa using hwant, rfl⟩) (hgo _ hB' (by simpa using hsz) h)
end

/-- A world in which block B alone may have changed. -/
structure Later2 (w : World) (B : Nat) where
  out : World
  only : w.grownBy out (some B)
instance (w : World) (B : Nat) : Inhabited (Later2 w B) := ⟨⟨w, ⟨rfl, rfl, rfl, Nat.le_refl _, fun _ _ _ => rfl⟩⟩⟩
theorem only_of_below {w W : World} (h : Below w.heap.size w W) (B : Nat) : w.grownBy W (some B) := ⟨h.os, h.tape, h.output, h.size, fun k hk _ => h.block k hk⟩
theorem cell_if2 {w : World} {B : Nat} (x : Later2 w B) (N : Nat) (hN : N = w.heap.size) (b o : Nat) : x.out.cell? ⟨b, o, none⟩ = if b < N then (if b = B then unk x.out b o else w.cell? ⟨b, o, none⟩) else unk x.out b o := by
  subst hN
  split
  · split
    · rfl
    · exact World.cell?_of_block (a := ⟨b, o, none⟩) (x.only.block b ‹_› (fun e => absurd (Option.some.inj e) ‹_›))
  · rfl
theorem only_set {a w : World} {g : Nat} (h : a.grownBy w (some g)) {p : Addr} (hp : p.block = g) (u : Value) : a.grownBy (w.setCell p u) (some g) :=
  ⟨h.os, h.tape, h.output, by simpa [World.setCell] using h.size, fun k hk hne => (Below.heap_setCell _ _ _ _ (by rw [hp]; exact fun e => hne (by rw [e]))).trans (h.block k hk hne)⟩
/-- A store in a forced tail. -/
theorem wpListS_skip {P : Program} {ops : Array Oper} {S : World → Prop} {Q : Exit → Act → World → Prop} {o : Oper} {rest : List Oper} {a : Act} {w w1 : World} (hw : Region.wanted o (yielded ops a.tmps) = true) (hr : (execOp a.eval o).run P w = .ok .skip w1)
    (h1 : S w1) (h2 : wpListS P ops S Q rest (a.put o.dst undef) w1) : wpListS P ops S Q (o :: rest) a w := by
  unfold wpListS
  rw [if_pos hw]
  unfold Oper.wp
  rw [hr]
  exact ⟨h1, h2⟩
theorem wpListS_wp {P : Program} {ops : Array Oper} {S : World → Prop} {Q : Exit → Act → World → Prop} {o : Oper} {rest : List Oper} {a : Act} {w : World} (hw : Region.wanted o (yielded ops a.tmps) = true) (h : o.wp P a w (fun a' w' => S w' ∧ wpListS P ops S Q rest a' w') Q) : wpListS P ops S Q (o :: rest) a w := by
  unfold wpListS
  rw [if_pos hw]
  exact h
structure Rules2 (w : World) (B N : Nat) : Prop where
  eq : N = w.heap.size
  cell : ∀ (x : Later2 w B) (b o : Nat), x.out.cell? ⟨b, o, none⟩ = if b < N then (if b = B then unk x.out b o else w.cell? ⟨b, o, none⟩) else unk x.out b o

def twoB (ops : Array Oper) (early late tail : List Nat) (t0 : Nat) : Bool :=
  Region.noSelect ops && headB2 .any ops t0 true (headB2 .any ops t0 false (tailB .any ops tail) late) early (Array.replicate ops.size false) && decide (early.length + (late.length + tail.length) = ops.size) && decide (tail.head? = some t0) && decide (t0 < ops.size)

theorem wp_region_two {P : Program} {id : Nat} {Q : Exit → Act → World → Prop} {a : Act} {w : World} {l : List Oper} (B : Nat) (early late tail : List Nat) (t0 : Nat) (hm : P.follows .mixedOrders = true) (hB : twoB l.toArray early late tail t0 = true)
    (h : ∀ N, Rules w N → Rules2 w B N → wpQuiet P l.toArray (fun w' => ∃ x : Later w, w' = x.out) (fun a1 => wpQuiet P l.toArray (fun w' => ∃ x : Later2 w B, w' = x.out) (fun a2 => wpListS P l.toArray (fun w' => ∃ x : Later2 w B, w' = x.out) (Calmly Q) (tail.map fun i => l.getD i default) a2 w.drew)
      (late.map fun i => l.getD i default) a1) (early.map fun i => l.getD i default) a) :
    (Code.region id l.toArray true).wp P Q a w := by
  refine Code.wp_mono Calmly.imp (wp_region_any hm (wpAny_of_S (C1 := fun w' => ∃ x : Later w, w' = x.out) (C2 := fun w' => ∃ x : Later2 w B, w' = x.out) (t0 := t0) _ _ _ _ ?_))
  simp only [twoB, Bool.and_eq_true, decide_eq_true_eq] at hB
  obtain ⟨⟨⟨⟨hsel, hB⟩, hsz⟩, hh⟩, ht⟩ := hB
  have h1 : ∃ x : Later w, w.drew = x.out := ⟨⟨w.drew, (Below.refl _ _).drew⟩, rfl⟩
  have h2 : ∃ x : Later2 w B, w.drew = x.out := ⟨⟨w.drew, only_of_below (Below.refl _ _).drew B⟩, rfl⟩
  have h' := h _ (rules w _ rfl) ⟨rfl, fun x => cell_if2 x _ rfl⟩
  rw [← getD_arr] at h'
  have := wpAnyS_head (P := P) (md := .any) (Q := Calmly Q) (g := late.length + tail.length) (D := fun w' => ∃ x : Later w, w' = x.out) (t0 := t0) (C1 := fun w' => ∃ x : Later w, w' = x.out) (C2 := fun w' => ∃ x : Later2 w B, w' = x.out) true (fun _ w hw => hw) (by simp) hsel (fun d v => Calmly.put d v) w.drew h1 h2
    (next := headB2 .any l.toArray t0 false (tailB .any l.toArray tail) late)
    (fun listed a1 hnx hls hq => wpAnyS_head (P := P) (Q := Calmly Q) (g := tail.length) (D := fun w' => ∃ x : Later2 w B, w' = x.out) (next := tailB .any l.toArray tail) false (by simp)
      (fun _ w1 hw1 => by
        rcases hw1 with ⟨x, rfl⟩ | hw1
        · exact ⟨⟨x.out, only_of_below x.below B⟩, rfl⟩
        · exact hw1) hsel (fun d v => Calmly.put d v) w.drew h1 h2 (fun listed a2 hnx hls hq => wpAnyS_tail tail listed a2 w.drew hnx (.inr hh) h2 (by rw [hls]; exact ht) hq) late listed a1 hnx hls hq) early _ a hB (by simp) h'
  rw [hsz] at this
  exact this
end Go.Proofs.Ytcgcapfppceggaa.Qt
