/-
  A region that draws its order, with new blocks that may be laid at any time before they are written: all other operations are calm (they change nothing that was there, and yield one value whatever has been laid beside); then one walk in the order of the text serves every order.
  Conditions: stated in each law.
-/
import Derived.Test.YtcgcapfppceggaaQt
namespace Go.Proofs.Ytcgcapfppceggaa.Qt
open Go Go.RowKit
section
variable {P : Program} {ops : Array Oper} {md : Region.Mode} {w0 : World}

def calmAt (P : Program) (o : Oper) (a : Act) (w : World) (v : Value) : Prop := o.quietAt P a (fun w'' => Below w.heap.size w w'') w v
def Calm (P : Program) (w0 : World) (o : Oper) (a : Act) (K : Act → Prop) : Prop := ∃ v, (∀ w, Below w0.heap.size w0 w → calmAt P o a w v) ∧ K (a.put o.dst v)

def wpCalm (P : Program) (ops : Array Oper) (w0 : World) (Q : Act → Prop) : List Oper → Act → Prop
  | [], a => Q a
  | o :: rest, a => if Region.wanted o (yielded ops a.tmps) then Calm P w0 o a (wpCalm P ops w0 Q rest) else wpCalm P ops w0 Q rest (a.put o.dst undef)
theorem wpCalm_nil {Q : Act → Prop} {a : Act} (h : Q a) : wpCalm P ops w0 Q [] a := h
theorem wpCalm_step {Q : Act → Prop} {a : Act} {o : Oper} {rest : List Oper}
    (h : ∀ K : Act → Prop, (∀ a, wpCalm P ops w0 Q rest a → K a) → if Region.wanted o (yielded ops a.tmps) then Calm P w0 o a K else K (a.put o.dst undef)) : wpCalm P ops w0 Q (o :: rest) a :=
  h _ (fun _ h => h)

def cOp (P : Program) (ops : Array Oper) (w0 : World) (i : Nat) (K : Act → Prop) (a : Act) : Prop :=
  match ops[i]? with
  | none => K a
  | some o => if Region.wanted o (yielded ops a.tmps) then Calm P w0 o a K else K (a.put o.dst undef)

theorem Calm.mono {o : Oper} {a : Act} {K K' : Act → Prop} (h : ∀ a, K a → K' a) (hh : Calm P w0 o a K) : Calm P w0 o a K' :=
  let ⟨v, h1, h2⟩ := hh
  ⟨v, h1, h _ h2⟩
theorem cOp_mono {i : Nat} {a : Act} {K K' : Act → Prop} (h : ∀ a, K a → K' a) (hh : cOp P ops w0 i K a) : cOp P ops w0 i K' a := by
  unfold cOp at *
  split
  · exact h _ (by simpa [*] using hh)
  · rename_i o ho
    simp only [ho] at hh
    split
    · rename_i hw; simp only [hw, if_true] at hh; exact hh.mono h
    · rename_i hw; simp only [hw] at hh; exact h _ hh

theorem wpCalm_mono {Q Q' : Act → Prop} (h : ∀ a, Q a → Q' a) : ∀ (l : List Oper) (a : Act), wpCalm P ops w0 Q l a → wpCalm P ops w0 Q' l a
  | [], _, hh => h _ hh
  | o :: l, a, hh => by
    unfold wpCalm at *
    split
    · rename_i hw; rw [if_pos hw] at hh; exact hh.mono (wpCalm_mono h l)
    · rename_i hw; rw [if_neg hw] at hh; exact wpCalm_mono h l _ hh

def YieldsC (P : Program) (ops : Array Oper) (w0 : World) (o : Oper) (v : Value) (a : Act) : Prop :=
  (Region.wanted o (yielded ops a.tmps) = true ∧ ∀ w, Below w0.heap.size w0 w → calmAt P o a w v) ∨
  (Region.wanted o (yielded ops a.tmps) = false ∧ v = undef)

theorem YieldsC.cOp {i : Nat} {o : Oper} {v : Value} {a : Act} (hi : ops[i]? = some o) (hy : YieldsC P ops w0 o v a) {K : Act → Prop} (h : K (a.put o.dst v)) : cOp P ops w0 i K a := by
  unfold Go.Proofs.Ytcgcapfppceggaa.Qt.cOp
  simp only [hi]
  rcases hy with ⟨hw, hv⟩ | ⟨hw, rfl⟩
  · simp only [hw, if_true]; exact ⟨v, hv, h⟩
  · simp only [hw, Bool.false_eq_true, if_false]; exact h

theorem YieldsC.of_same {o : Oper} {v : Value} {a a' : Act} (hy : YieldsC P ops w0 o v a) (he : execOp a'.eval o = execOp a.eval o)
    (hw : Region.wanted o (yielded ops a'.tmps) = Region.wanted o (yielded ops a.tmps)) : YieldsC P ops w0 o v a' := by
  unfold YieldsC calmAt Oper.quietAt at *
  rw [he, hw]
  exact hy

theorem yieldsC_of_cOp {i : Nat} {o : Oper} {a : Act} {K : Act → Prop} (hi : ops[i]? = some o) (h : cOp P ops w0 i K a) : ∃ v, YieldsC P ops w0 o v a ∧ K (a.put o.dst v) := by
  unfold cOp at h
  simp only [hi] at h
  by_cases hw : Region.wanted o (yielded ops a.tmps) = true
  · simp only [hw, if_true] at h
    obtain ⟨v, h1, h2⟩ := h
    exact ⟨v, .inl ⟨hw, h1⟩, h2⟩
  · simp only [hw] at h
    exact ⟨undef, .inr ⟨by simpa using hw, rfl⟩, h⟩

theorem cOp_put {j : Nat} {oi oj : Oper} {v : Value} (hj : ops[j]? = some oj) (hap : oi.apart ops oj = true)
    (hsi : ∀ cs b, oi.op ≠ .select cs b) (hsj : ∀ cs b, oj.op ≠ .select cs b) {K : Act → Prop} {a : Act}
    (hy : YieldsC P ops w0 oi v a) (h : cOp P ops w0 j K (a.put oi.dst v)) :
    cOp P ops w0 j (fun a' => YieldsC P ops w0 oi v a' ∧ K (a'.put oi.dst v)) a := by
  obtain ⟨h1, h2, h3⟩ := Oper.apart_spec hap
  have keep : ∀ (a : Act), YieldsC P ops w0 oi v a → ∀ u, YieldsC P ops w0 oi v (a.put oj.dst u) := fun a hy u =>
    hy.of_same (execOp_put oi hsi a oj.dst u h3) (wanted_put oi a oj.dst u h3)
  unfold cOp at *
  simp only [hj] at *
  rw [wanted_put oj a oi.dst v h1] at h
  split
  · rename_i hw
    simp only [hw, if_true] at h
    obtain ⟨u, hu, hn⟩ := h
    refine ⟨u, fun w hw' => ?_, keep a hy u, by rw [← Act.put_comm a v u h2]; exact hn⟩
    have := hu w hw'
    unfold calmAt Oper.quietAt at *
    rwa [execOp_put oj hsj a oi.dst v h1] at this
  · rename_i hw
    simp only [hw] at h
    exact ⟨keep a hy _, by rw [← Act.put_comm a v undef h2]; exact h⟩

/-- Whatever order the first n operations come in, with those from n to N behind them as good as done. -/
def wpAnyC (P : Program) (md : Region.Mode) (ops : Array Oper) (w0 : World) (n : Nat) (L : Array Bool → Act → Prop) : Nat → Array Bool → Act → Prop
  | 0, listed, a => L listed a
  | f + 1, listed, a =>
    Region.ready md ops listed ≠ [] ∧ ∀ i ∈ Region.ready md ops listed, i < n ∧ cOp P ops w0 i (wpAnyC P md ops w0 n L f (listed.setIfInBounds i true)) a

/-- The tail waits: its first operation for all ahead of it, each other for the one ahead of it. -/
def waitB (md : Region.Mode) (ops : Array Oper) (N : Nat) : Bool := ((List.range N).all fun i => Region.waitsFor md ops N i) && Region.chainB md ops N

theorem wait_spec {N : Nat} (hs : waitB md ops N = true) {listed : Array Bool} (htail : ∀ t, N ≤ t → t < ops.size → listed.getD t true = false) {i : Nat} (hi : i < N) (hun : listed.getD i false = false) :
    ∀ t, N ≤ t → t ∉ Region.ready md ops listed := by
  intro t ht hr
  simp only [waitB, Bool.and_eq_true] at hs
  obtain ⟨_, ot, hot, hall⟩ := mem_ready.1 hr
  have htlt : t < ops.size := (Array.getElem?_eq_some_iff.1 hot).1
  by_cases htn : t = N
  · subst htn
    have h1 := List.all_eq_true.1 hs.1 i (List.mem_range.2 hi)
    obtain ⟨o', ho', e, he, hb, hon⟩ := Region.waitsFor_spec h1
    have : o' = ot := Option.some.inj (ho'.symm.trans hot)
    subst this
    have h2 := hall e he hb
    rw [hon, hun] at h2
    cases h2
  · have h1 := List.all_eq_true.1 hs.2 t (List.mem_range.2 htlt)
    simp only [Bool.or_eq_true, decide_eq_true_eq] at h1
    rcases h1 with h1 | h1
    · omega
    · obtain ⟨o', ho', e, he, hb, hon⟩ := Region.waitsFor_spec h1
      have : o' = ot := Option.some.inj (ho'.symm.trans hot)
      subst this
      have h2 := hall e he hb
      rw [hon, getD_both (htail (t - 1) (by omega) (by omega))] at h2
      cases h2

/-- What the listed array is like while the first n operations are done: those from n to N are marked, the tail is not. -/
structure CInv (ops : Array Oper) (n N : Nat) (listed : Array Bool) : Prop where
  size : listed.size = ops.size
  mid : ∀ j, n ≤ j → j < N → listed.getD j true = true
  tail : ∀ t, N ≤ t → t < ops.size → listed.getD t true = false
theorem CInv.set {n N i : Nat} {listed : Array Bool} (inv : CInv ops n N listed) (hi : i < n) (hN : n ≤ N) : CInv ops n N (listed.setIfInBounds i true) :=
  ⟨by simp [inv.size], fun j h1 h2 => by rw [getD_set_ne true (by omega)]; exact inv.mid j h1 h2, fun t h1 h2 => by rw [getD_set_ne true (by omega)]; exact inv.tail t h1 h2⟩

theorem CInv.lt {n N : Nat} {listed : Array Bool} (inv : CInv ops n N listed) (hs : waitB md ops N = true) {i : Nat} (hi : i < n) (hN : n ≤ N) (hun : listed.getD i true = false) {j : Nat} (hj : j ∈ Region.ready md ops listed) : j < n := by
  rcases Nat.lt_or_ge j n with h | h
  · exact h
  · rcases Nat.lt_or_ge j N with h' | h'
    · have := (mem_ready.1 hj).1; rw [inv.mid j h h'] at this; cases this
    · exact absurd hj (wait_spec hs inv.tail (i := i) (by omega) (getD_both hun) j h')

theorem wpAnyC_first {n N i : Nat} {oi : Oper} {v : Value} {L : Array Bool → Act → Prop} (hi : ops[i]? = some oi) (hsel : ∀ (j : Nat) (o : Oper) cs b, ops[j]? = some o → o.op ≠ .select cs b)
    (hs : waitB md ops N = true) (hN : n ≤ N) (hin : i < n)
    (hdone : ∀ listed a, L listed a → ∀ j ∈ Region.ready md ops listed, n ≤ j) :
    ∀ (f : Nat) (listed : Array Bool) (a : Act), CInv ops n N listed →
      (∀ j oj, ops[j]? = some oj → j ≠ i → listed.getD j true = false → (∀ e ∈ oj.after, Region.binds md e = true → e.on ≠ i) → oi.apart ops oj = true) →
      i ∈ Region.ready md ops listed → YieldsC P ops w0 oi v a →
      wpAnyC P md ops w0 n L f (listed.setIfInBounds i true) (a.put oi.dst v) → wpAnyC P md ops w0 n L (f + 1) listed a := by
  intro f
  induction f with
  | zero =>
    intro listed a inv _ hr hy H
    have hun := (mem_ready.1 hr).1
    refine ⟨fun h => (by rw [h] at hr; cases hr), fun j hj => ?_⟩
    have hjn : j < n := inv.lt hs hin hN hun hj
    refine ⟨hjn, ?_⟩
    by_cases hji : j = i
    · subst hji; exact hy.cOp hi H
    · have := hdone _ _ H j (ready_mono hj hji)
      omega
  | succ f ih =>
    intro listed a inv hfree hr hy H
    have hun := (mem_ready.1 hr).1
    refine ⟨fun h => (by rw [h] at hr; cases hr), fun j hj => ?_⟩
    have hjn : j < n := inv.lt hs hin hN hun hj
    refine ⟨hjn, ?_⟩
    by_cases hji : j = i
    · subst hji; exact hy.cOp hi H
    · have h1 := (H.2 j (ready_mono hj hji)).2
      obtain ⟨hjun, oj, hoj, hall⟩ := mem_ready.1 hj
      have hnot : ∀ e ∈ oj.after, Region.binds md e = true → e.on ≠ i := fun e he hb heq => by
        have h1 := hall e he hb
        rw [heq, getD_both hun] at h1
        cases h1
      have h2 := cOp_put hoj (hfree j oj hoj hji hjun hnot) (fun cs b => hsel i oi cs b hi) (fun cs b => hsel j oj cs b hoj) hy h1
      have hfree' : ∀ k ok, ops[k]? = some ok → k ≠ i → (listed.setIfInBounds j true).getD k true = false →
          (∀ e ∈ ok.after, Region.binds md e = true → e.on ≠ i) → oi.apart ops ok = true := fun k ok hk hki hun hno => by
        refine hfree k ok hk hki ?_ hno
        by_cases hjk : j = k
        · subst hjk; exact hjun
        · rw [getD_set_ne true hjk] at hun; exact hun
      refine cOp_mono (fun a' h3 => ih (listed.setIfInBounds j true) a' (inv.set hjn hN) hfree' (ready_mono hr (Ne.symm hji)) h3.1 ?_) h2
      rw [Array.setIfInBounds_comm _ _ hji]
      exact h3.2

/-- The order of the text may be taken; behind the head stands the tail's forced order. -/
def lexC (md : Region.Mode) (ops : Array Oper) (N g : Nat) : Nat → Nat → Array Bool → Bool
  | 0, _, listed => Region.seqB md ops g N listed
  | f + 1, k, listed => (Region.ready md ops listed).contains k && Region.free md ops listed k && lexC md ops N g f (k + 1) (listed.setIfInBounds k true)

theorem wpAnyC_lex {n N g : Nat} {Lq : Act → Prop} (hsel : Region.noSelect ops = true) (hs : waitB md ops N = true) (hN : n ≤ N) :
    ∀ (l : List Oper) (k : Nat) (listed : Array Bool) (a : Act), (∀ j, j < l.length → l[j]? = ops[k + j]?) → k + l.length = n → CInv ops n N listed →
    lexC md ops N g l.length k listed = true → wpCalm P ops w0 Lq l a →
    wpAnyC P md ops w0 n (fun listed' a' => CInv ops n N listed' ∧ Region.seqB md ops g N listed' = true ∧ Lq a') l.length listed a
  | [], k, listed, a, _, _, inv, hB, h => ⟨inv, by simpa [lexC] using hB, h⟩
  | o :: l, k, listed, a, hl, hk, inv, hB, h => by
    have h0 : ops[k]? = some o := by simpa using (hl 0 (by simp)).symm
    simp only [List.length_cons, lexC, Bool.and_eq_true] at hB
    obtain ⟨⟨hr, hf⟩, hB'⟩ := hB
    have hkn : k < n := by simp only [List.length_cons] at hk; omega
    have hr' : k ∈ Region.ready md ops listed := by simpa using hr
    have hst : cOp P ops w0 k (wpCalm P ops w0 Lq l) a := by unfold cOp; simp only [h0]; exact h
    obtain ⟨v, hy, hK⟩ := yieldsC_of_cOp h0 hst
    exact wpAnyC_first h0 (Region.noSelect_spec hsel) hs hN hkn (fun listed' a' hL j hj => Nat.le_trans hN (seqB_ready hL.2.1 j hj)) l.length listed a inv (Region.free_spec h0 hf) hr' hy
      (wpAnyC_lex hsel hs hN l (k + 1) _ _ (fun j hj => by have := hl (j + 1) (by simp; omega); simpa [Nat.add_assoc, Nat.add_comm 1 j] using this) (by simp only [List.length_cons] at hk; omega) (inv.set hkn hN) hB' hK)
end
end Go.Proofs.Ytcgcapfppceggaa.Qt
