/-
  A region that draws its order: operations that only read are taken first, the others come in one forced order; also in a round of a loop over a function.
  Conditions: stated in each law.
-/
import Derived.Test.YtcgcapfppceggaaQg
import Derived.OrdersHeld
import Derived.RangeFuncCalls
import Derived.OrdersIn
namespace Go.Proofs.Ytcgcapfppceggaa.Qt
set_option linter.unusedVariables false
open Go Go.RowKit
section
variable {P : Program} {ops : Array Oper} {md : Region.Mode} {S : World → Prop}

/-- The post, but nothing at a panic. -/
def Calmly (Q : Exit → Act → World → Prop) : Exit → Act → World → Prop
  | .panic _, _, _ => False
  | .outgrown, _, _ => False
  | e, a, w => Q e a w
theorem Calmly.imp {Q : Exit → Act → World → Prop} : ∀ (e : Exit) (a : Act) (w : World), Calmly Q e a w → Q e a w := fun e a w h => by
  cases e <;> first | exact h | exact (h : False).elim
theorem Calmly.put {Q : Exit → Act → World → Prop} (d : Option Tmp) (v : Value) : ∀ c a w, Calmly Q (.panic c) (Act.put a d v) w → Calmly Q (.panic c) a w := fun _ _ _ h => h
theorem Calmly.stays {Q : Exit → Act → World → Prop} : ¬ LetsOut (Calmly Q) := fun ⟨_, _, h⟩ => h

/-- The operations that hand back a value and leave the world alone, or halt. -/
def Op.reads : Op → Bool
  | .slice .. | .move _ | .assign _ | .load .. | .fieldAddr .. | .field .. | .indexAddr .. | .index .. | .binOp .. | .unOp .. | .extract .. | .build .. => true
  | .call c => match c.callee with | .builtin .min | .builtin .max | .builtin .len => true | _ => false
  | _ => false

theorem reads_run {o : Oper} (h : Op.reads o.op = true) {ev : Operand → Value} {w w' : World} {n : Next} (hr : (execOp ev o).run P w = .ok n w') : ∃ v, n = .value v := by
  have key : ∀ (s : Sem Value), (s >>= fun v => (pure (.value v) : Sem Next)).run P w = .ok n w' → ∃ v, n = .value v := by
    intro s hs
    rw [Sem.run_bind] at hs
    cases hx : s.run P w with
    | ok v w1 =>
      rw [hx] at hs
      cases hs
      exact ⟨v, rfl⟩
    | halt x w1 =>
      rw [hx] at hs
      cases hs
  obtain ⟨dst, op, type, pos, after, guard⟩ := o
  cases op <;> simp only [Op.reads, Bool.false_eq_true] at h <;> simp only [execOp] at hr
  case call c =>
    obtain ⟨callee, args, argTypes⟩ := c
    cases callee with
    | builtin b => cases b <;> simp only [Bool.false_eq_true] at h <;> exact key _ hr
    | _ => simp only [Bool.false_eq_true] at h
  all_goals first
    | exact key _ hr
    | (cases hr; exact ⟨_, rfl⟩)

def wpListS (P : Program) (ops : Array Oper) (S : World → Prop) (Q : Exit → Act → World → Prop) : List Oper → Act → World → Prop
  | [], a, w => Q .normal a w
  | o :: rest, a, w => if Region.wanted o (yielded ops a.tmps) then o.wp P a w (fun a' w' => S w' ∧ wpListS P ops S Q rest a' w') Q else wpListS P ops S Q rest (a.put o.dst undef) w

/-- A call in a forced tail. -/
theorem wpListS_enter {Q : Exit → Act → World → Prop} {o : Oper} {rest : List Oper} {a : Act} {w w1 : World} {f : FuncId} {args : Array Value} {R : Ending → World → Prop} (hw : Region.wanted o (yielded ops a.tmps) = true) (hr : (execOp a.eval o).run P w = .ok (.enter f args) w1)
    (hc : Calls P f args w1 R) (hn : ∀ e w', R e w' → ∃ v, e = .returned v ∧ S w' ∧ wpListS P ops S Q rest (a.put o.dst v) w') : wpListS P ops S Q (o :: rest) a w := by
  unfold wpListS
  rw [if_pos hw]
  unfold Oper.wp
  rw [hr]
  refine Calls.mono hc fun e w' he => ?_
  obtain ⟨v, rfl, h1, h2⟩ := hn e w' he
  exact ⟨h1, h2⟩
/-- A value in a forced tail. -/
theorem wpListS_value {Q : Exit → Act → World → Prop} {o : Oper} {rest : List Oper} {a : Act} {w w1 : World} {v : Value} (hw : Region.wanted o (yielded ops a.tmps) = true) (hr : (execOp a.eval o).run P w = .ok (.value v) w1)
    (h1 : S w1) (h2 : wpListS P ops S Q rest (a.put o.dst v) w1) : wpListS P ops S Q (o :: rest) a w := by
  unfold wpListS
  rw [if_pos hw]
  unfold Oper.wp
  rw [hr]
  exact ⟨h1, h2⟩
theorem wpListS_nil {Q : Exit → Act → World → Prop} {a : Act} {w : World} (h : Q .normal a w) : wpListS P ops S (Calmly Q) [] a w := h

def tailB (md : Region.Mode) (ops : Array Oper) : List Nat → Array Bool → Bool
  | [], listed => (Region.ready md ops listed).isEmpty
  | i :: rest, listed => decide (Region.ready md ops listed = [i]) && tailB md ops rest (listed.setIfInBounds i true)
def headB (md : Region.Mode) (ops : Array Oper) (tail : List Nat) : List Nat → Array Bool → Bool
  | [], listed => tailB md ops tail listed
  | i :: rest, listed => (Region.ready md ops listed).contains i && Region.free md ops listed i && (match ops[i]? with | some o => Op.reads o.op | none => false) && headB md ops tail rest (listed.setIfInBounds i true)
def ordB (md : Region.Mode) (ops : Array Oper) (head tail : List Nat) : Bool :=
  Region.noSelect ops && headB md ops tail head (Array.replicate ops.size false) && decide (head.length + tail.length = ops.size)

theorem wpAnyH_tail {Q : Exit → Act → World → Prop} : ∀ (tail : List Nat) (listed : Array Bool) (a : Act) (w : World), tailB md ops tail listed = true → S w →
    wpListS P ops S Q (tail.map fun i => ops.getD i default) a w → wpAnyH P md ops Q S tail.length listed a w
  | [], listed, a, w, hB, _, h => ⟨by simpa [tailB] using hB, h⟩
  | i :: rest, listed, a, w, hB, hS, h => by
    simp only [tailB, Bool.and_eq_true, decide_eq_true_eq] at hB
    have hi : i ∈ Region.ready md ops listed := by rw [hB.1]; simp
    obtain ⟨_, o, ho, _⟩ := mem_ready.1 hi
    have hg : ops.getD i default = o := by simp [ho]
    refine wpAnyH_all hB.1 (by simp) fun j hj => ?_
    obtain rfl : j = i := by simpa using hj
    simp only [List.map_cons, hg] at h
    unfold wpListS at h
    unfold wpOp
    simp only [ho]
    split
    · rename_i hw
      rw [if_pos hw] at h
      exact .inl (Oper.wp_mono (fun a' w' h' => ⟨h'.1, wpAnyH_tail rest _ a' w' hB.2 h'.1 h'.2⟩) h)
    · rename_i hw
      rw [if_neg hw] at h
      exact ⟨hS, wpAnyH_tail rest _ _ w hB.2 hS h⟩

theorem wpAnyH_head {Q : Exit → Act → World → Prop} {C : World → Prop} {tail : List Nat} (hsel : Region.noSelect ops = true) (hQ : ∀ d v c a w, Q (.panic c) (Act.put a d v) w → Q (.panic c) a w) (w : World) (hw : C w) :
    ∀ (head : List Nat) (listed : Array Bool) (a : Act), headB md ops tail head listed = true →
      wpQuiet P ops C (fun a' => wpListS P ops C Q (tail.map fun i => ops.getD i default) a' w) (head.map fun i => ops.getD i default) a → wpAnyH P md ops Q C (head.length + tail.length) listed a w
  | [], listed, a, hB, h => by rw [List.length_nil, Nat.zero_add]; exact wpAnyH_tail tail listed a w hB hw h
  | i :: rest, listed, a, hB, h => by
    simp only [headB, Bool.and_eq_true] at hB
    obtain ⟨⟨⟨hr, hf⟩, hrd⟩, hB'⟩ := hB
    have hi : i ∈ Region.ready md ops listed := by simpa using hr
    obtain ⟨_, o, ho, _⟩ := mem_ready.1 hi
    have hg : ops.getD i default = o := by simp [ho]
    rw [ho] at hrd
    simp only [List.map_cons, hg] at h
    rw [show (i :: rest).length + tail.length = (rest.length + tail.length) + 1 by simp; omega]
    unfold wpQuiet at h
    split at h
    · rename_i hwant
      obtain ⟨v, h1, h2⟩ := h
      refine wpAnyH_take ho hsel hf hr (hQ o.dst v) (.inl ⟨hwant, fun w1 hw1 => ?_⟩) hw (wpAnyH_head hsel hQ w hw rest _ _ hB' h2)
      have h3 := h1 w1 hw1
      unfold Oper.quietAt at h3
      cases hx : (execOp a.eval o).run P w1 with
      | ok n w2 =>
        obtain ⟨u, rfl⟩ := reads_run hrd hx
        rw [hx] at h3
        simp only [Oper.quietUpon] at h3
        rw [h3.1, h3.2]
      | halt x w2 =>
        rw [hx] at h3
        simp only [Oper.quietUpon] at h3
    · rename_i hwant
      exact wpAnyH_take ho hsel hf hr (hQ o.dst undef) (.inr ⟨by simpa using hwant, rfl⟩) hw (wpAnyH_head hsel hQ w hw rest _ _ hB' h)

theorem getD_arr (l : List Oper) : (fun i => l.toArray.getD i default) = (fun i => l.getD i default) := by
  funext i
  simp [Array.getD_eq_getD_getElem?, List.getD_eq_getElem?_getD]
theorem wpAny_ord {Q : Exit → Act → World → Prop} {l : List Oper} {a : Act} {w : World} (head tail : List Nat) (hB : ordB .any l.toArray head tail = true)
    (h : ∀ N, Rules w N → wpQuiet P l.toArray (fun w' => ∃ x : Later w, w' = x.out) (fun a' => wpListS P l.toArray (fun w' => ∃ x : Later w, w' = x.out) (Calmly Q) (tail.map fun i => l.getD i default) a' w.drew) (head.map fun i => l.getD i default) a) :
    wpAny P .any l.toArray (Calmly Q) l.toArray.size (Array.replicate l.toArray.size false) a w.drew := by
  simp only [ordB, Bool.and_eq_true, decide_eq_true_eq] at hB
  obtain ⟨⟨hsel, hB⟩, hsz⟩ := hB
  rw [← getD_arr] at h
  have := wpAnyH_head (P := P) (Q := Calmly Q) (C := fun w' => ∃ x : Later w, w' = x.out) hsel (fun d v => Calmly.put d v) w.drew ⟨⟨w.drew, (Below.refl _ _).drew⟩, rfl⟩ head _ a hB (h _ (rules w _ rfl))
  rw [hsz] at this
  exact wpAny_of_held _ _ _ _ this

/-- A region: the head, in this order, only reads; then the tail, in its forced order. -/
theorem wp_region_ord {id : Nat} {Q : Exit → Act → World → Prop} {a : Act} {w : World} {l : List Oper} (head tail : List Nat) (hm : P.follows .mixedOrders = true) (hB : ordB .any l.toArray head tail = true)
    (h : ∀ N, Rules w N → wpQuiet P l.toArray (fun w' => ∃ x : Later w, w' = x.out) (fun a' => wpListS P l.toArray (fun w' => ∃ x : Later w, w' = x.out) (Calmly Q) (tail.map fun i => l.getD i default) a' w.drew) (head.map fun i => l.getD i default) a) :
    (Code.region id l.toArray true).wp P Q a w :=
  Code.wp_mono Calmly.imp (wp_region_any hm (wpAny_ord head tail hB h))

/-! ### In a round of a loop over a function -/
def noDefer (ops : Array Oper) : Bool := ops.all fun o => match o.op with | .defer _ => false | _ => true
theorem noDefer_spec (h : noDefer ops = true) {j : Nat} {o : Oper} (ho : ops[j]? = some o) (c : Call) : o.op ≠ .defer c := by
  intro e
  have := Array.all_eq_true_iff_forall_mem.1 h o (Array.mem_of_getElem? ho)
  rw [e] at this
  cases this

theorem operIn_of {Q : Exit → Act → World → Prop} {n lp : Nat} {o : Oper} {a : Act} {w : World} {K K' : Act → World → Prop} (hd : ∀ c, o.op ≠ .defer c) (hQ : ¬ LetsOut Q) (hK : ∀ a w, K a w → K' a w)
    (h : o.wp P a w K Q ∨ (o.asks P a w ∧ LetsOut Q)) : o.wpIn (Fence.wide.inRound lp) n P a w K' Q := by
  rcases h with h | h
  · refine ⟨fun _ _ => trivial, ?_⟩
    rw [Oper.semAt_eq _ _ _ hd]
    unfold Oper.wp at h
    generalize (execOp a.eval o).run P w = r at *
    cases r with
    | ok m w' =>
      cases m <;> simp only [Oper.upon] at h <;> simp only [Oper.uponIn]
      case value v => exact hK _ _ h
      case skip => exact hK _ _ h
      case defer d => exact hK _ _ h
      case enter f args =>
        refine ⟨(fun hh => by cases hh), (CallsIn.inRound lp (callsIn_wide.2 h)).mono fun e w'' he => ?_⟩
        cases e with
        | returned v => exact hK _ _ he
        | panicked c => exact he
        | outgrown => exact he
      case row row args =>
        refine ⟨(fun hh => by cases hh), fun c cs _ => ?_⟩
        obtain ⟨v, w'', hv, hs⟩ := h c cs
        exact ⟨v, w'', hK _ _ hv, stepsIn_wide.2 hs⟩
    | halt x w' =>
      cases x <;> simp only [Oper.upon] at h <;> simp only [Oper.uponIn]
      case panic v => exact h
  · exact absurd h.2 hQ
theorem wpOpIn_of {Q : Exit → Act → World → Prop} {n lp i : Nat} {a : Act} {w : World} {K K' : Act → World → Prop} (hd : noDefer ops = true) (hQ : ¬ LetsOut Q) (hK : ∀ a w, K a w → K' a w)
    (h : wpOp P ops Q i K a w) : wpOpIn (Fence.wide.inRound lp) n P ops Q i K' a w := by
  unfold wpOp at h
  unfold wpOpIn
  cases ho : ops[i]? with
  | none => simp only [ho] at h; exact hK _ _ h
  | some o =>
    simp only [ho] at h
    simp only
    split
    · rename_i hw
      rw [if_pos hw] at h
      exact operIn_of (noDefer_spec hd ho) hQ hK h
    · rename_i hw
      rw [if_neg hw] at h
      exact ⟨fun _ _ => trivial, hK _ _ h⟩
theorem wpAnyIn_of {Q : Exit → Act → World → Prop} {n lp : Nat} (hd : noDefer ops = true) (hQ : ¬ LetsOut Q) :
    ∀ (f : Nat) (listed : Array Bool) (a : Act) (w : World), wpAny P md ops Q f listed a w → wpAnyIn (Fence.wide.inRound lp) n P md ops Q f listed a w
  | 0, _, _, _, h => h
  | f + 1, listed, a, w, h => ⟨h.1, fun i hi => wpOpIn_of hd hQ (fun a' w' h' => wpAnyIn_of hd hQ f _ a' w' h') (h.2 i hi)⟩

/-- The same in a round of a loop over a function. -/
theorem wpIn_region_ord {id n lp : Nat} {Q : Exit → Act → World → Prop} {a : Act} {w : World} {l : List Oper} (head tail : List Nat) (hm : P.follows .mixedOrders = true) (hB : ordB .any l.toArray head tail = true) (hd : noDefer l.toArray = true)
    (h : ∀ N, Rules w N → wpQuiet P l.toArray (fun w' => ∃ x : Later w, w' = x.out) (fun a' => wpListS P l.toArray (fun w' => ∃ x : Later w, w' = x.out) (Calmly Q) (tail.map fun i => l.getD i default) a' w.drew) (head.map fun i => l.getD i default) a) :
    (Code.region id l.toArray true).wpIn (Fence.wide.inRound lp) n P Q a w :=
  wpIn_mono (wpIn_region_any hm (wpAnyIn_of hd Calmly.stays _ _ _ _ (wpAny_ord head tail hB h))) Calmly.imp
end
end Go.Proofs.Ytcgcapfppceggaa.Qt
