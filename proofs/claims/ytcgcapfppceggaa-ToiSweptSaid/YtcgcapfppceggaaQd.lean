/-
  The second half: new blocks laid at any time, and the law for a region.
  Conditions: stated in each law.
-/
import Derived.Test.YtcgcapfppceggaaQc
namespace Go.Proofs.Ytcgcapfppceggaa.Qt
open Go Go.RowKit
section
variable {P : Program} {ops : Array Oper} {md : Region.Mode} {w0 : World}

def dstAt (ops : Array Oper) (j : Nat) : Option Tmp := (ops[j]?).bind (·.dst)
def ptrTo (b : Nat) : Value := .pointer (some ⟨b, 0, none⟩)
def putAll (ops : Array Oper) (ps : List (Nat × Nat)) (a : Act) : Act := ps.foldl (fun a x => a.put (dstAt ops x.1) (ptrTo x.2)) a
theorem putAll_snoc (ps : List (Nat × Nat)) (j b : Nat) (a : Act) : putAll ops (ps ++ [(j, b)]) a = (putAll ops ps a).put (dstAt ops j) (ptrTo b) := by
  simp [putAll, List.foldl_append]

/-- What the walk asks of the operations from n to N: each lays a new block, waits for nothing, and no other operation looks at it. -/
structure Lays (P : Program) (md : Region.Mode) (ops : Array Oper) (n N : Nat) (O : Nat → Obj) : Prop where
  run : ∀ j o, n ≤ j → j < N → ops[j]? = some o → ∀ (ev : Operand → Value) (w : World), (execOp ev o).run P w = .ok (.value (ptrTo w.heap.size)) (w.alloc (O j))
  there : ∀ j, n ≤ j → j < N → ∃ o, ops[j]? = some o ∧ o.guard = none ∧ ∀ e ∈ o.after, Region.binds md e = false
  apart : ∀ j o, n ≤ j → j < N → ops[j]? = some o → ∀ i oi, i < n → ops[i]? = some oi → (∀ d, o.dst = some d → d ∉ oi.looksAt ops) ∧ (∀ d, o.dst = some d → oi.dst ≠ some d)
  free : ∀ i oi, i < n → ops[i]? = some oi → ∀ e ∈ oi.after, Region.binds md e = true → ¬ (n ≤ e.on ∧ e.on < N)

/-- The blocks that have been laid are there. -/
def Laid (w0 : World) (O : Nat → Obj) (ps : List (Nat × Nat)) (w : World) : Prop :=
  Below w0.heap.size w0 w ∧ (∀ x ∈ ps, w.heap[x.2]? = some (O x.1) ∧ w0.heap.size ≤ x.2) ∧ (ps.map (·.2)).Nodup

theorem Laid.later {O : Nat → Obj} {ps : List (Nat × Nat)} {w w' : World} (h : Laid w0 O ps w) (hb : Below w.heap.size w w') : Laid w0 O ps w' := by
  refine ⟨h.1.trans (hb.mono h.1.size), fun x hx => ?_, h.2.2⟩
  obtain ⟨h1, h2⟩ := h.2.1 x hx
  have hlt : x.2 < w.heap.size := (Array.getElem?_eq_some_iff.1 h1).1
  exact ⟨(hb.block _ hlt).trans h1, h2⟩

theorem Laid.lay {O : Nat → Obj} {ps : List (Nat × Nat)} {w : World} (h : Laid w0 O ps w) (j : Nat) : Laid w0 O (ps ++ [(j, w.heap.size)]) (w.alloc (O j)) := by
  have hb : Below w.heap.size w (w.alloc (O j)) := (Below.refl _ _).alloc (Nat.le_refl _) _
  have h' := h.later hb
  refine ⟨h'.1, fun x hx => ?_, ?_⟩
  · rcases List.mem_append.1 hx with hx | hx
    · exact h'.2.1 x hx
    · have : x = (j, w.heap.size) := by simpa using hx
      subst this
      exact ⟨by show (w.heap.push (O j))[w.heap.size]? = some (O j); simp, h.1.size⟩
  · rw [List.map_append, List.nodup_append]
    refine ⟨h.2.2, by simp, ?_⟩
    intro b hb' c hc
    have : c = w.heap.size := by simpa using hc
    subst this
    obtain ⟨x, hx, rfl⟩ := List.mem_map.1 hb'
    have hlt : x.2 < w.heap.size := (Array.getElem?_eq_some_iff.1 (h.2.1 x hx).1).1
    omega

theorem putAll_same {o : Oper} (hs : ∀ cs b, o.op ≠ .select cs b) (ps : List (Nat × Nat)) (h : ∀ x ∈ ps, ∀ d, dstAt ops x.1 = some d → d ∉ o.looksAt ops) :
    ∀ a : Act, execOp (putAll ops ps a).eval o = execOp a.eval o ∧ Region.wanted o (yielded ops (putAll ops ps a).tmps) = Region.wanted o (yielded ops a.tmps) := by
  induction ps with
  | nil => exact fun a => ⟨rfl, rfl⟩
  | cons x ps ih =>
    intro a
    have h1 := ih (fun y hy => h y (List.mem_cons_of_mem _ hy)) (a.put (dstAt ops x.1) (ptrTo x.2))
    have h2 := h x (List.mem_cons_self ..)
    exact ⟨h1.1.trans (execOp_put o hs a _ _ h2), h1.2.trans (wanted_put o a _ _ h2)⟩

theorem putAll_put {d' : Option Tmp} (v : Value) (ps : List (Nat × Nat)) (h : ∀ x ∈ ps, ∀ d, dstAt ops x.1 = some d → d' ≠ some d) :
    ∀ a : Act, (putAll ops ps a).put d' v = putAll ops ps (a.put d' v) := by
  induction ps with
  | nil => exact fun _ => rfl
  | cons x ps ih =>
    intro a
    have h1 := ih (fun y hy => h y (List.mem_cons_of_mem _ hy)) (a.put (dstAt ops x.1) (ptrTo x.2))
    have h2 := h x (List.mem_cons_self ..)
    show (putAll ops ps (a.put (dstAt ops x.1) (ptrTo x.2))).put d' v = putAll ops ps ((a.put d' v).put (dstAt ops x.1) (ptrTo x.2))
    rw [h1, Act.put_comm a _ v h2]

structure Real (ops : Array Oper) (w0 : World) (O : Nat → Obj) (n N : Nat) (listed listedM : Array Bool) (w : World) (ps : List (Nat × Nat)) (rem : List Nat) : Prop where
  size : listed.size = ops.size
  same : ∀ j b, (j < n ∨ N ≤ j) → listed.getD j b = listedM.getD j b
  done : ∀ x ∈ ps, listed.getD x.1 true = true
  todo : ∀ j ∈ rem, listed.getD j true = false
  perm : (ps.map (·.1) ++ rem).Perm (List.range' n (N - n))
  laid : Laid w0 O ps w

theorem Oper.wp_of_calm {o : Oper} {a : Act} {v : Value} {w : World} {K' : Act → World → Prop} {Q' : Exit → Act → World → Prop} (h3 : calmAt P o a w v) (h : ∀ w', Below w.heap.size w w' → K' (a.put o.dst v) w') : o.wp P a w K' Q' := by
  unfold calmAt Oper.quietAt at h3
  unfold Oper.wp
  generalize (execOp a.eval o).run P w = r at *
  cases r with
  | ok n w' =>
    cases n <;> simp only [Oper.quietUpon] at h3 <;> simp only [Oper.upon]
    case value u =>
      obtain ⟨e1, e2⟩ := h3
      rw [e1, e2]
      exact h _ (Below.refl _ _)
    case skip =>
      obtain ⟨e1, e2⟩ := h3
      rw [e1, ← e2]
      exact h _ (Below.refl _ _)
    case enter f args =>
      obtain ⟨e1, hc⟩ := h3
      rw [e1]
      exact hc.mono fun e w'' ⟨he, hw''⟩ => by subst he; exact h _ hw''
  | halt x w' => simp only [Oper.quietUpon] at h3

theorem getD_any {listed : Array Bool} {j : Nat} (hj : j < listed.size) (b : Bool) : listed.getD j b = listed.getD j true := by
  simp [hj]

theorem wpAny_of_C {Q' : Exit → Act → World → Prop} {O : Nat → Obj} {n N g : Nat} {Lq : Act → Prop} (hsel : ∀ (j : Nat) (o : Oper) cs b, ops[j]? = some o → o.op ≠ .select cs b) (hs : waitB md ops N = true) (hN : n ≤ N) (hNs : N ≤ ops.size) (hl : Lays P md ops n N O)
    (hT : ∀ listed a w ps, (ps.map (·.1)).Perm (List.range' n (N - n)) → Laid w0 O ps w → Region.seqB md ops g N listed = true → Lq a → wpAny P md ops Q' g listed (putAll ops ps a) w) :
    ∀ (s f : Nat) (listed listedM : Array Bool) (a : Act) (w : World) (ps : List (Nat × Nat)) (rem : List Nat), s = f + rem.length → Real ops w0 O n N listed listedM w ps rem → CInv ops n N listedM →
      wpAnyC P md ops w0 n (fun listed' a' => CInv ops n N listed' ∧ Region.seqB md ops g N listed' = true ∧ Lq a') f listedM a → wpAny P md ops Q' (s + g) listed (putAll ops ps a) w := by
  intro s
  induction s with
  | zero =>
    intro f listed listedM a w ps rem hsf hR inv h
    obtain rfl : f = 0 := by omega
    obtain rfl : rem = [] := List.eq_nil_of_length_eq_zero (by omega)
    have e : listed = listedM := by
      refine Array.ext (by rw [hR.size, inv.size]) fun j h1 h2 => ?_
      have hg : ∀ (l : Array Bool) (hj : j < l.size), l[j] = l.getD j true := fun l hj => by simp [hj]
      rw [hg _ h1, hg _ h2]
      rcases Nat.lt_or_ge j n with hj | hj
      · exact hR.same j true (.inl hj)
      · rcases Nat.lt_or_ge j N with hj' | hj'
        · rw [inv.mid j hj hj']
          have hm : j ∈ List.range' n (N - n) := List.mem_range'_1.2 ⟨hj, by omega⟩
          have hm' := hR.perm.mem_iff.2 hm
          rw [List.append_nil] at hm'
          obtain ⟨x, hx, rfl⟩ := List.mem_map.1 hm'
          exact hR.done x hx
        · exact hR.same j true (.inr hj')
    subst e
    rw [Nat.zero_add]
    exact hT _ _ _ _ (by simpa using hR.perm) hR.laid h.2.1 h.2.2
  | succ s ih =>
    intro f listed listedM a w ps rem hsf hR inv h
    have hmid : ∀ j ∈ rem, n ≤ j ∧ j < N := fun j hj => by
      have := hR.perm.mem_iff.1 (List.mem_append_right _ hj)
      rw [List.mem_range'_1] at this; omega
    have hps : ∀ x ∈ ps, n ≤ x.1 ∧ x.1 < N := fun x hx => by
      have := hR.perm.mem_iff.1 (List.mem_append_left _ (List.mem_map_of_mem hx))
      rw [List.mem_range'_1] at this; omega
    have htail : ∀ t, N ≤ t → t < ops.size → listed.getD t true = false := fun t h1 h2 => (hR.same t true (.inr h1)).trans (inv.tail t h1 h2)
    have toM : ∀ i, i < n → i ∈ Region.ready md ops listed → i ∈ Region.ready md ops listedM := fun i hi hr => by
      rw [mem_ready] at *
      obtain ⟨h0, o, ho, hall⟩ := hr
      refine ⟨(hR.same i true (.inl hi)).symm.trans h0, o, ho, fun e he hb => ?_⟩
      have h2 := hall e he hb
      by_cases hm : n ≤ e.on ∧ e.on < N
      · exact absurd hm (hl.free i o hi ho e he hb)
      · rw [← hR.same e.on false (by omega)]; exact h2
    have fromM : ∀ i, i < n → i ∈ Region.ready md ops listedM → i ∈ Region.ready md ops listed := fun i hi hr => by
      rw [mem_ready] at *
      obtain ⟨h0, o, ho, hall⟩ := hr
      refine ⟨(hR.same i true (.inl hi)).trans h0, o, ho, fun e he hb => ?_⟩
      have h2 := hall e he hb
      by_cases hm : n ≤ e.on ∧ e.on < N
      · exact absurd hm (hl.free i o hi ho e he hb)
      · rw [hR.same e.on false (by omega)]; exact h2
    have remR : ∀ j ∈ rem, j ∈ Region.ready md ops listed := fun j hj => by
      obtain ⟨o, ho, _, haf⟩ := hl.there j (hmid j hj).1 (hmid j hj).2
      exact mem_ready.2 ⟨hR.todo j hj, o, ho, fun e he hb => by rw [haf e he] at hb; cases hb⟩
    -- some operation ahead of the tail has not come up
    have hun : ∃ i, i < N ∧ listed.getD i false = false ∧ i ∈ Region.ready md ops listed := by
      cases rem with
      | cons j rem => exact ⟨j, (hmid j (List.mem_cons_self ..)).2, getD_both (hR.todo j (List.mem_cons_self ..)), remR j (List.mem_cons_self ..)⟩
      | nil =>
        obtain ⟨f', rfl⟩ : ∃ f', f = f' + 1 := ⟨f - 1, by simp at hsf; omega⟩
        obtain ⟨hne, hall⟩ := h
        obtain ⟨i, hi⟩ := List.exists_mem_of_ne_nil _ hne
        have hin := (hall i hi).1
        exact ⟨i, by omega, getD_both ((mem_ready.1 (fromM i hin hi)).1), fromM i hin hi⟩
    rw [show s + 1 + g = (s + g) + 1 by omega]
    refine ⟨fun h0 => ?_, fun i hi => ?_⟩
    · obtain ⟨i, _, _, hr⟩ := hun
      rw [h0] at hr; cases hr
    · rcases Nat.lt_or_ge i n with hin | hin
      · -- an operation of the head
        obtain ⟨f', rfl⟩ : ∃ f', f = f' + 1 := by
          cases f with
          | zero =>
            have := seqB_ready h.2.1 i (toM i hin hi)
            omega
          | succ f' => exact ⟨f', rfl⟩
        obtain ⟨o, ho, _⟩ := (mem_ready.1 hi).2
        have hh := (h.2 i (toM i hin hi)).2
        have hap : ∀ x ∈ ps, (∀ d, dstAt ops x.1 = some d → d ∉ o.looksAt ops) ∧ (∀ d, dstAt ops x.1 = some d → o.dst ≠ some d) := fun x hx => by
          obtain ⟨ox, hox, _⟩ := hl.there x.1 (hps x hx).1 (hps x hx).2
          have := hl.apart x.1 ox (hps x hx).1 (hps x hx).2 hox i o hin ho
          simp only [dstAt, hox, Option.bind_some]
          exact this
        have hsame := putAll_same (ops := ops) (o := o) (fun cs b => hsel i o cs b ho) ps (fun x hx => (hap x hx).1) a
        have hinv' := inv.set hin hN
        have next : ∀ (v : Value) (w' : World), Below w.heap.size w w' → wpAnyC P md ops w0 n (fun listed' a' => CInv ops n N listed' ∧ Region.seqB md ops g N listed' = true ∧ Lq a') f' (listedM.setIfInBounds i true) (a.put o.dst v) →
            wpAny P md ops Q' (s + g) (listed.setIfInBounds i true) ((putAll ops ps a).put o.dst v) w' := fun v w' hb hk => by
          rw [putAll_put v ps (fun x hx => (hap x hx).2) a]
          refine ih f' _ (listedM.setIfInBounds i true) _ _ ps rem (by omega) ⟨by simp [hR.size], fun j b hj => ?_, fun x hx => ?_, fun j hj => ?_, hR.perm, hR.laid.later hb⟩ hinv' hk
          · by_cases hij : i = j
            · subst hij
              have h1 : i < listed.size := by rw [hR.size]; omega
              have h2 : i < listedM.size := by rw [inv.size]; omega
              simp [h1, h2]
            · rw [getD_set_ne b hij, getD_set_ne b hij]; exact hR.same j b hj
          · rw [getD_set_ne true (by have := (hps x hx).1; omega)]; exact hR.done x hx
          · rw [getD_set_ne true (by have := (hmid j hj).1; omega)]; exact hR.todo j hj
        unfold cOp at hh
        simp only [ho] at hh
        unfold wpOp
        simp only [ho]
        rw [hsame.2]
        split
        · rename_i hw
          simp only [hw, if_true] at hh
          obtain ⟨v, hv, hk⟩ := hh
          refine .inl (Oper.wp_of_calm (v := v) ?_ fun w' hb => next v w' hb hk)
          have := hv w hR.laid.1
          unfold calmAt Oper.quietAt at *
          rw [hsame.1]
          exact this
        · rename_i hw
          simp only [hw] at hh
          exact next undef w (Below.refl _ _) hh
      · rcases Nat.lt_or_ge i N with hiN | hiN
        · -- a new block
          have hun' := (mem_ready.1 hi).1
          have hir : i ∈ rem := by
            have hm : i ∈ List.range' n (N - n) := List.mem_range'_1.2 ⟨hin, by omega⟩
            rcases List.mem_append.1 (hR.perm.mem_iff.2 hm) with hx | hx
            · obtain ⟨x, hx1, hx2⟩ := List.mem_map.1 hx
              have := hR.done x hx1
              rw [hx2, hun'] at this; cases this
            · exact hx
          obtain ⟨o, ho, hgd, haf⟩ := hl.there i hin hiN
          have hrun := hl.run i o hin hiN ho (putAll ops ps a).eval w
          have hnd : (ps.map (·.1) ++ rem).Nodup := hR.perm.nodup_iff.2 List.nodup_range'
          have hndr : rem.Nodup := (List.nodup_append.1 hnd).2.1
          unfold wpOp
          simp only [ho]
          have hw : Region.wanted o (yielded ops (putAll ops ps a).tmps) = true := by simp [Region.wanted, hgd]
          rw [if_pos hw]
          refine .inl ?_
          unfold Oper.wp
          rw [hrun]
          show wpAny P md ops Q' (s + g) (listed.setIfInBounds i true) ((putAll ops ps a).put o.dst (ptrTo w.heap.size)) (w.alloc (O i))
          have hd : dstAt ops i = o.dst := by simp [dstAt, ho]
          rw [← hd, ← putAll_snoc]
          have hlen : rem.length = (rem.erase i).length + 1 := by
            rw [List.length_erase_of_mem hir]
            have : 0 < rem.length := List.length_pos_of_mem hir
            omega
          refine ih f _ listedM _ _ (ps ++ [(i, w.heap.size)]) (rem.erase i) (by omega) ⟨by simp [hR.size], fun j b hj => ?_, fun x hx => ?_, fun j hj => ?_, ?_, hR.laid.lay i⟩ inv h
          · rw [getD_set_ne b (by omega)]; exact hR.same j b hj
          · rcases List.mem_append.1 hx with hx1 | hx1
            · by_cases hxi : i = x.1
              · have h1 : x.1 < listed.size := by rw [hR.size]; have := (hps x hx1).2; omega
                simp [hxi, h1]
              · rw [getD_set_ne true hxi]; exact hR.done x hx1
            · have : x = (i, w.heap.size) := by simpa using hx1
              subst this
              have h1 : i < listed.size := by rw [hR.size]; omega
              simp [h1]
          · have hj1 := List.mem_of_mem_erase hj
            have hji : i ≠ j := by
              intro e
              subst e
              exact (List.Nodup.not_mem_erase hndr) hj
            rw [getD_set_ne true hji]; exact hR.todo j hj1
          · refine List.Perm.trans ?_ hR.perm
            rw [List.map_append, List.append_assoc]
            exact List.Perm.append_left _ (List.perm_cons_erase hir).symm
        · -- the tail waits
          obtain ⟨i', hi', hu, _⟩ := hun
          exact absurd hi (wait_spec hs htail hi' hu i hiN)
end
end Go.Proofs.Ytcgcapfppceggaa.Qt
