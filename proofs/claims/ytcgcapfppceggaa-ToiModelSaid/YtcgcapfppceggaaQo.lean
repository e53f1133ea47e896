/-
  A region that draws its order, whose early operations may be calls that leave the world as it is (they come ahead of the first store through a chain), whose late operations only read, and whose forced tail writes two blocks at most.
  Conditions: stated in the law.
-/
import Derived.Test.YtcgcapfppceggaaQk
namespace Go.Proofs.Ytcgcapfppceggaa.Qt
set_option linter.unusedVariables false
open Go Go.RowKit
section
variable {P : Program} {ops : Array Oper} {md : Region.Mode} {C1 C2 : World → Prop}

/-- An operation that hands back v and leaves the world as it is. -/
def Same (P : Program) (v : Value) (s : Sem Next) (w : World) : Prop :=
  s.run P w = .ok (.value v) w ∨ (s.run P w = .ok .skip w ∧ v = undef) ∨ ∃ f args, s.run P w = .ok (.enter f args) w ∧ Calls P f args w (fun e w' => e = .returned v ∧ w' = w)
def YSm (P : Program) (ops : Array Oper) (S : World → Prop) (o : Oper) (v : Value) (a : Act) : Prop :=
  (Region.wanted o (yielded ops a.tmps) = true ∧ ∀ w, S w → Same P v (execOp a.eval o) w) ∨ (Region.wanted o (yielded ops a.tmps) = false ∧ v = undef)
theorem YSm.of_same {S : World → Prop} {o : Oper} {v : Value} {a a' : Act} (hy : YSm P ops S o v a) (he : execOp a'.eval o = execOp a.eval o) (hw : Region.wanted o (yielded ops a'.tmps) = Region.wanted o (yielded ops a.tmps)) : YSm P ops S o v a' := by
  rcases hy with ⟨h1, h2⟩ | ⟨h1, h2⟩
  · exact .inl ⟨by rw [hw]; exact h1, fun w hS => by rw [he]; exact h2 w hS⟩
  · exact .inr ⟨by rw [hw]; exact h1, h2⟩
theorem YSm.wpOp {S : World → Prop} {Q : Exit → Act → World → Prop} {i : Nat} {o : Oper} {v : Value} {a : Act} (hi : ops[i]? = some o) (hy : YSm P ops S o v a) {K : Act → World → Prop} {w : World} (hS : S w) (h : K (a.put o.dst v) w) : wpOp P ops Q i K a w := by
  unfold Go.wpOp
  simp only [hi]
  rcases hy with ⟨hw, hv⟩ | ⟨hw, rfl⟩
  · rw [if_pos hw]
    refine .inl ?_
    unfold Oper.wp
    rcases hv w hS with hr | ⟨hr, rfl⟩ | ⟨f, args, hr, hc⟩
    · rw [hr]; exact h
    · rw [hr]; exact h
    · rw [hr]
      refine hc.mono ?_
      rintro e w' ⟨rfl, rfl⟩
      exact h
  · rw [if_neg (by rw [hw]; decide)]
    exact h
theorem wpOp_shape {Q : Exit → Act → World → Prop} {j : Nat} {oj : Oper} (hj : ops[j]? = some oj) {K : Act → World → Prop} {a : Act} {w : World} (h : wpOp P ops Q j K a w) :
    wpOp P ops Q j (fun a' w' => ((∃ u, a' = a.put oj.dst u) ∨ ∃ d, a' = ({ a with defers := d :: a.defers } : Act).put oj.dst undef) ∧ K a' w') a w := by
  unfold wpOp at *
  simp only [hj] at *
  split
  · rename_i hw
    rw [if_pos hw] at h
    rcases h with h | h
    · refine .inl ?_
      unfold Oper.wp at *
      generalize (execOp a.eval oj).run P w = r at *
      cases r with
      | ok n w' =>
        cases n <;> simp only [Oper.upon] at h ⊢
        case value u => exact ⟨.inl ⟨u, rfl⟩, h⟩
        case skip => exact ⟨.inl ⟨_, rfl⟩, h⟩
        case defer d => exact ⟨.inr ⟨d, rfl⟩, h⟩
        case enter f args =>
          refine h.mono fun e w'' he => ?_
          cases e with
          | returned v => exact ⟨.inl ⟨v, rfl⟩, he⟩
          | panicked c => exact he
          | outgrown => exact he
        case row row args =>
          intro c cs
          obtain ⟨v, w'', hv, hs⟩ := h c cs
          exact ⟨v, w'', ⟨.inl ⟨v, rfl⟩, hv⟩, hs⟩
      | halt x w' =>
        cases x <;> simp only [Oper.upon] at h ⊢
        case panic v => exact h
    · exact .inr h
  · rename_i hw
    rw [if_neg hw] at h
    exact ⟨.inl ⟨_, rfl⟩, h⟩
theorem wpOp_putSm {S : World → Prop} {Q : Exit → Act → World → Prop} {j : Nat} {oi oj : Oper} {v : Value} (hj : ops[j]? = some oj) (hap : oi.apart ops oj = true) (hsi : ∀ cs b, oi.op ≠ .select cs b) (hsj : ∀ cs b, oj.op ≠ .select cs b)
    (hQ : ∀ c a w, Q (.panic c) (a.put oi.dst v) w → Q (.panic c) a w) {K : Act → World → Prop} {a : Act} {w : World} (hy : YSm P ops S oi v a) (h : wpOp P ops Q j K (a.put oi.dst v) w) :
    wpOp P ops Q j (fun a' w' => YSm P ops S oi v a' ∧ K (a'.put oi.dst v) w') a w := by
  obtain ⟨h1, h2, h3⟩ := Oper.apart_spec hap
  have hyF : YieldsIf P ops (fun _ => False) oi v a := hy.imp (fun h => ⟨h.1, fun _ hf => hf.elim⟩) id
  refine wpOp_mono (fun a' w' h' => ?_) (wpOp_shape hj (wpOp_putIf hj hap hsi hsj hQ hyF h))
  refine ⟨?_, h'.2.2⟩
  rcases h'.1 with ⟨u, rfl⟩ | ⟨d, rfl⟩
  · exact hy.of_same (execOp_put oi hsi a oj.dst u h3) (wanted_put oi a oj.dst u h3)
  · exact (hy.of_same (a' := { a with defers := d :: a.defers }) rfl rfl).of_same (execOp_put oi hsi _ oj.dst _ h3) (wanted_put oi _ oj.dst _ h3)

theorem wpAnyS_sm {Q : Exit → Act → World → Prop} {t0 i : Nat} {oi : Oper} {v : Value} {D : World → Prop} {inv : Array Bool → Prop} (hi : ops[i]? = some oi) (hsel : ∀ (j : Nat) (o : Oper) cs b, ops[j]? = some o → o.op ≠ .select cs b)
    (hQ : ∀ c a w, Q (.panic c) (a.put oi.dst v) w → Q (.panic c) a w) (hit : i ≠ t0) (hinv : ∀ listed j, inv listed → j ∈ Region.ready md ops listed → inv (listed.setIfInBounds j true))
    (hD : ∀ listed w, inv listed → listed.getD i true = false → SS C1 C2 t0 listed w → D w) :
    ∀ (fuel : Nat) (listed : Array Bool) (a : Act) (w : World), inv listed →
      (∀ j oj, ops[j]? = some oj → j ≠ i → listed.getD j true = false → (∀ e ∈ oj.after, Region.binds md e = true → e.on ≠ i) → oi.apart ops oj = true) →
      i ∈ Region.ready md ops listed → YSm P ops D oi v a → SS C1 C2 t0 listed w →
      wpAnyS P md ops Q C1 C2 t0 fuel (listed.setIfInBounds i true) (a.put oi.dst v) w → wpAnyS P md ops Q C1 C2 t0 (fuel + 1) listed a w := by
  intro fuel
  induction fuel with
  | zero =>
    intro listed a w hv _ hr hy hS H
    refine ⟨fun h => (by rw [h] at hr; cases hr), fun j hj => ?_⟩
    by_cases hji : j = i
    · subst hji; exact hy.wpOp hi (hD listed w hv (mem_ready.1 hr).1 hS) ⟨(SS.set hit _ _).2 hS, H⟩
    · have := ready_mono hj hji
      rw [H.1] at this
      cases this
  | succ fuel ih =>
    intro listed a w hv hfree hr hy hS H
    refine ⟨fun h => (by rw [h] at hr; cases hr), fun j hj => ?_⟩
    by_cases hji : j = i
    · subst hji; exact hy.wpOp hi (hD listed w hv (mem_ready.1 hr).1 hS) ⟨(SS.set hit _ _).2 hS, H⟩
    · have h1 := H.2 j (ready_mono hj hji)
      obtain ⟨hjun, oj, hoj, hall⟩ := mem_ready.1 hj
      have hnot : ∀ e ∈ oj.after, Region.binds md e = true → e.on ≠ i := fun e he hb heq => by
        have h1 := hall e he hb
        rw [heq, getD_both (mem_ready.1 hr).1] at h1
        cases h1
      have h2 := wpOp_putSm hoj (hfree j oj hoj hji hjun hnot) (fun cs b => hsel i oi cs b hi) (fun cs b => hsel j oj cs b hoj) hQ hy h1
      have hfree' : ∀ k ok, ops[k]? = some ok → k ≠ i → (listed.setIfInBounds j true).getD k true = false →
          (∀ e ∈ ok.after, Region.binds md e = true → e.on ≠ i) → oi.apart ops ok = true := fun k ok hk hki hun hno => by
        refine hfree k ok hk hki ?_ hno
        by_cases hjk : j = k
        · subst hjk; exact hjun
        · rw [getD_set_ne true hjk] at hun; exact hun
      refine wpOp_mono (fun a' w' h3 => ?_) h2
      have h4 : SS C1 C2 t0 (listed.setIfInBounds j true) w' := by
        have := h3.2.1
        rw [Array.setIfInBounds_comm _ _ (Ne.symm hji)] at this
        exact (SS.set hit _ _).1 this
      refine ⟨h4, ih (listed.setIfInBounds j true) a' w' (hinv listed j hv hj) hfree' (ready_mono hr (Ne.symm hji)) h3.1 h4 ?_⟩
      rw [Array.setIfInBounds_comm _ _ hji]
      exact h3.2.2

/-- What came ahead has what it waits for. -/
def Closed (md : Region.Mode) (ops : Array Oper) (listed : Array Bool) : Prop := ∀ j k, Region.waitsFor md ops j k = true → listed.getD j false = true → listed.getD k false = true
theorem Closed.set {listed : Array Bool} (h : Closed md ops listed) {j : Nat} (hj : j ∈ Region.ready md ops listed) : Closed md ops (listed.setIfInBounds j true) := by
  intro m k hw hm
  by_cases hjm : j = m
  · subst hjm
    obtain ⟨o, ho, e, he, hb, hon⟩ := Region.waitsFor_spec hw
    obtain ⟨_, o', ho', hall⟩ := mem_ready.1 hj
    have : o = o' := Option.some.inj (ho.symm.trans ho')
    subst this
    have := hall e he hb
    rw [hon] at this
    exact getD_set_true this
  · rw [getD_set_ne false hjm] at hm
    exact getD_set_true (h m k hw hm)
def leadsB (md : Region.Mode) (ops : Array Oper) (t0 : Nat) : Nat → Nat → Bool
  | 0, i => Region.waitsFor md ops t0 i
  | f + 1, i => Region.waitsFor md ops t0 i || (List.range ops.size).any fun j => Region.waitsFor md ops j i && leadsB md ops t0 f j
theorem leads_listed {t0 : Nat} {listed : Array Bool} (h : Closed md ops listed) (ht : listed.getD t0 false = true) : ∀ (f i : Nat), leadsB md ops t0 f i = true → listed.getD i false = true
  | 0, i, hl => h t0 i hl ht
  | f + 1, i, hl => by
    unfold leadsB at hl
    simp only [Bool.or_eq_true, List.any_eq_true, Bool.and_eq_true] at hl
    rcases hl with hl | ⟨j, _, hw, hl⟩
    · exact h t0 i hl ht
    · exact h j i hw (leads_listed h ht f j hl)

def headB3 (md : Region.Mode) (ops : Array Oper) (t0 : Nat) (early : Bool) (next : Array Bool → Bool) : List Nat → Array Bool → Bool
  | [], listed => next listed
  | i :: rest, listed => (Region.ready md ops listed).contains i && Region.free md ops listed i && (early || match ops[i]? with | some o => Op.reads o.op | none => false) && i != t0 && (!early || leadsB md ops t0 5 i) && headB3 md ops t0 early next rest (listed.setIfInBounds i true)

theorem wpAnyS_head3 {Q : Exit → Act → World → Prop} {t0 g : Nat} {D : World → Prop} {K : Act → Prop} {next : Array Bool → Bool} (early : Bool) (w : World) (hE : early = true → ∀ w1, D w1 ↔ w1 = w) (hE1 : early = true → ∀ w1, C1 w1 → w1 = w) (hL : early = false → ∀ w, (C1 w ∨ C2 w) → D w) (hsel : Region.noSelect ops = true)
    (hQ : ∀ d v c a w, Q (.panic c) (Act.put a d v) w → Q (.panic c) a w) (h1 : C1 w) (h2 : C2 w)
    (hn : ∀ listed a, next listed = true → listed.size = ops.size → Closed md ops listed → K a → wpAnyS P md ops Q C1 C2 t0 g listed a w) :
    ∀ (head : List Nat) (listed : Array Bool) (a : Act), headB3 md ops t0 early next head listed = true → listed.size = ops.size → Closed md ops listed →
      wpQuiet P ops D K (head.map fun i => ops.getD i default) a → wpAnyS P md ops Q C1 C2 t0 (head.length + g) listed a w
  | [], listed, a, hB, hsz, hcl, h => by rw [List.length_nil, Nat.zero_add]; exact hn listed a hB hsz hcl h
  | i :: rest, listed, a, hB, hsz, hcl, h => by
    simp only [headB3, Bool.and_eq_true, bne_iff_ne, ne_eq] at hB
    obtain ⟨⟨⟨⟨⟨hr, hf⟩, hrd⟩, hit⟩, hew⟩, hB'⟩ := hB
    have hi : i ∈ Region.ready md ops listed := by simpa using hr
    obtain ⟨_, o, ho, _⟩ := mem_ready.1 hi
    have hg : ops.getD i default = o := by simp [ho]
    rw [ho] at hrd
    simp only [List.map_cons, hg] at h
    have hSS : SS C1 C2 t0 listed w := by unfold SS; split <;> assumption
    have hgo := wpAnyS_head3 early w hE hE1 hL hsel hQ h1 h2 hn rest (listed.setIfInBounds i true)
    rw [show (i :: rest).length + g = (rest.length + g) + 1 by simp; omega]
    have fin : ∀ v, YSm P ops D o v a → wpAnyS P md ops Q C1 C2 t0 (rest.length + g) (listed.setIfInBounds i true) (a.put o.dst v) w → wpAnyS P md ops Q C1 C2 t0 (rest.length + g + 1) listed a w := fun v hy H =>
      wpAnyS_sm (inv := Closed md ops) ho (Region.noSelect_spec hsel) (hQ o.dst v) hit (fun L j hv hj => hv.set hj)
        (fun L w1 hv hun hS => by
          cases he : early with
          | true =>
            have hl : leadsB md ops t0 5 i = true := by simpa [he] using hew
            have ht : L.getD t0 false = false := by
              cases hx : L.getD t0 false with
              | false => rfl
              | true => have := leads_listed hv hx 5 i hl; rw [getD_both hun] at this; cases this
            unfold SS at hS
            rw [ht] at hS
            exact (hE he w1).2 (hE1 he w1 (by simpa using hS))
          | false => exact hL he w1 (by unfold SS at hS; split at hS <;> simp [hS])) _ listed a w hcl (Region.free_spec ho hf) hi hy hSS H
    unfold wpQuiet at h
    split at h
    · rename_i hwant
      obtain ⟨v, g1, g2⟩ := h
      refine fin v (.inl ⟨hwant, fun w1 hw1 => ?_⟩) (hgo _ hB' (by simpa using hsz) (hcl.set hi) g2)
      have h3 := g1 w1 hw1
      unfold Oper.quietAt at h3
      unfold Same
      cases hx : (execOp a.eval o).run P w1 with
      | ok n w2 =>
        rw [hx] at h3
        cases he : early with
        | true =>
          cases n <;> simp only [Oper.quietUpon] at h3
          case value u => exact .inl (by rw [h3.1, h3.2])
          case skip => exact .inr (.inl ⟨by rw [h3.1], h3.2⟩)
          case enter f args =>
            refine .inr (.inr ⟨f, args, by rw [h3.1], h3.2.mono fun e w'' ⟨h4, h5⟩ => ⟨h4, ?_⟩⟩)
            rw [(hE he w'').1 h5, (hE he w1).1 hw1]
        | false =>
          obtain ⟨u, rfl⟩ := reads_run (by simpa [he] using hrd) hx
          simp only [Oper.quietUpon] at h3
          exact .inl (by rw [h3.1, h3.2])
      | halt x w2 =>
        rw [hx] at h3
        simp only [Oper.quietUpon] at h3
    · rename_i hwant
      exact fin undef (.inr ⟨by simpa using hwant, rfl⟩) (hgo _ hB' (by simpa using hsz) (hcl.set hi) h)
end
/-- The one world. -/
structure One (w : World) where
  out : World
  eq : out = w
instance (w : World) : Inhabited (One w) := ⟨⟨w, rfl⟩⟩
/-- A world in which the blocks B and C alone may have changed. -/
structure Later3 (w : World) (B C : Nat) where
  out : World
  os : out.os = w.os
  tape : out.tape = w.tape
  output : out.output = w.output
  size : w.heap.size ≤ out.heap.size
  block : ∀ k, k < w.heap.size → k ≠ B → k ≠ C → out.heap[k]? = w.heap[k]?
def later3 (w : World) (B C : Nat) : Later3 w B C := ⟨w, rfl, rfl, rfl, Nat.le_refl _, fun _ _ _ _ => rfl⟩
instance (w : World) (B C : Nat) : Inhabited (Later3 w B C) := ⟨later3 w B C⟩
def drew3 (w : World) (B C : Nat) : Later3 w B C := ⟨w.drew, (Below.refl w.heap.size w).drew.os, (Below.refl w.heap.size w).drew.tape, (Below.refl w.heap.size w).drew.output, (Below.refl w.heap.size w).drew.size, fun k hk _ _ => (Below.refl w.heap.size w).drew.block k hk⟩
def Later3.set {w : World} {B C : Nat} (x : Later3 w B C) (p : Addr) (hp : p.block = B ∨ p.block = C) (u : Value) : Later3 w B C :=
  ⟨x.out.setCell p u, x.os, x.tape, x.output, by simpa [World.setCell] using x.size, fun k hk h1 h2 => (Below.heap_setCell _ _ _ _ (by rcases hp with hp | hp <;> rw [hp] <;> assumption)).trans (x.block k hk h1 h2)⟩
theorem cell_if3 {w : World} {B C : Nat} (x : Later3 w B C) (N : Nat) (hN : N = w.heap.size) (b o : Nat) : x.out.cell? ⟨b, o, none⟩ = if b < N then (if b = B then unk x.out b o else if b = C then unk x.out b o else w.cell? ⟨b, o, none⟩) else unk x.out b o := by
  subst hN
  split
  · split
    · rfl
    · split
      · rfl
      · exact World.cell?_of_block (a := ⟨b, o, none⟩) (x.block b ‹_› ‹_› ‹_›)
  · rfl
structure Rules3 (w : World) (B C N : Nat) : Prop where
  eq : N = w.heap.size
  cell : ∀ (x : Later3 w B C) (b o : Nat), x.out.cell? ⟨b, o, none⟩ = if b < N then (if b = B then unk x.out b o else if b = C then unk x.out b o else w.cell? ⟨b, o, none⟩) else unk x.out b o
structure Rules1 (w : World) : Prop where
  cell : ∀ (x : One w.drew) (b o : Nat), x.out.cell? ⟨b, o, none⟩ = w.cell? ⟨b, o, none⟩

def twoB3 (ops : Array Oper) (early late tail : List Nat) (t0 : Nat) : Bool :=
  Region.noSelect ops && headB3 .any ops t0 true (headB3 .any ops t0 false (tailB .any ops tail) late) early (Array.replicate ops.size false) && decide (early.length + (late.length + tail.length) = ops.size) && decide (tail.head? = some t0) && decide (t0 < ops.size)
theorem wp_region_three {P : Program} {id : Nat} {Q : Exit → Act → World → Prop} {a : Act} {w : World} {l : List Oper} (B C : Nat) (early late tail : List Nat) (t0 : Nat) (hm : P.follows .mixedOrders = true) (hB : twoB3 l.toArray early late tail t0 = true)
    (h : ∀ N, Rules1 w → Rules3 w B C N → wpQuiet P l.toArray (fun w' => ∃ x : One w.drew, w' = x.out) (fun a1 => wpQuiet P l.toArray (fun w' => ∃ x : Later3 w B C, w' = x.out) (fun a2 => wpListS P l.toArray (fun w' => ∃ x : Later3 w B C, w' = x.out) (Calmly Q) (tail.map fun i => l.getD i default) a2 w.drew)
      (late.map fun i => l.getD i default) a1) (early.map fun i => l.getD i default) a) :
    (Code.region id l.toArray true).wp P Q a w := by
  refine Code.wp_mono Calmly.imp (wp_region_any hm (wpAny_of_S (C1 := fun w' => w' = w.drew) (C2 := fun w' => ∃ x : Later3 w B C, w' = x.out) (t0 := t0) _ _ _ _ ?_))
  simp only [twoB3, Bool.and_eq_true, decide_eq_true_eq] at hB
  obtain ⟨⟨⟨⟨hsel, hB⟩, hsz⟩, hh⟩, ht⟩ := hB
  have h2 : ∃ x : Later3 w B C, w.drew = x.out := ⟨drew3 w B C, rfl⟩
  have h' := h _ ⟨fun x b o => by rw [x.eq]; exact World.cell?_of_block (a := ⟨b, o, none⟩) rfl⟩ ⟨rfl, fun x => cell_if3 x _ rfl⟩
  rw [← getD_arr] at h'
  have := wpAnyS_head3 (P := P) (md := .any) (Q := Calmly Q) (g := late.length + tail.length) (D := fun w' => ∃ x : One w.drew, w' = x.out) (t0 := t0) (C1 := fun w' => w' = w.drew) (C2 := fun w' => ∃ x : Later3 w B C, w' = x.out) true w.drew
    (fun _ w1 => ⟨fun ⟨x, hx⟩ => hx.trans x.eq, fun hx => ⟨⟨w1, hx⟩, rfl⟩⟩) (fun _ _ h => h) (by simp) hsel (fun d v => Calmly.put d v) rfl h2
    (next := headB3 .any l.toArray t0 false (tailB .any l.toArray tail) late)
    (fun listed a1 hnx hls hcl hq => wpAnyS_head3 (P := P) (md := .any) (C1 := fun w' => w' = w.drew) (C2 := fun w' => ∃ x : Later3 w B C, w' = x.out) (t0 := t0) (Q := Calmly Q) (g := tail.length) (D := fun w' => ∃ x : Later3 w B C, w' = x.out) (next := tailB .any l.toArray tail) false w.drew (by simp) (by simp)
      (fun _ w1 hw1 => by
        rcases hw1 with rfl | hw1
        · exact ⟨drew3 w B C, rfl⟩
        · exact hw1) hsel (fun d v => Calmly.put d v) rfl h2 (fun listed a2 hnx hls hcl hq => wpAnyS_tail tail listed a2 w.drew hnx (.inr hh) h2 (by rw [hls]; exact ht) hq) late listed a1 hnx hls hcl hq) early _ a hB (by simp)
      (fun j k _ hj => by exfalso; simp [Array.getElem?_replicate] at hj; split at hj <;> simp at hj) h'
  rw [hsz] at this
  exact this
theorem one_call {P : Program} {f : FuncId} {args : Array Value} {v : Value} {w : World} {x : One w} (h : ∀ W : World, Calls P f args W fun e w' => e = .returned v ∧ W = w') :
    Calls P f args x.out fun e w'' => e = .returned v ∧ ∃ y : One w, w'' = y.out :=
  (h x.out).mono fun _ w' ⟨he, hw⟩ => ⟨he, x, hw.symm⟩
end Go.Proofs.Ytcgcapfppceggaa.Qt
