/-
  The law for a region that draws its order and lays one new block, as in Qe, where the tail's first operation waits for all ahead of it directly or through others.
  Conditions: stated in each law.
-/
import Derived.Test.YtcgcapfppceggaaQe
namespace Go.Proofs.Ytcgcapfppceggaa.Qm
open Go Go.RowKit Go.Proofs.Ytcgcapfppceggaa.Qt
section
variable {P : Program} {md : Region.Mode} {ops : Array Oper} {w0 : World}
/-- What is listed has all that it waits for listed. -/
def Closed (md : Region.Mode) (ops : Array Oper) (listed : Array Bool) : Prop := ∀ j oj, ops[j]? = some oj → listed.getD j false = true → ∀ e ∈ oj.after, Region.binds md e = true → listed.getD e.on false = true
def waitB (md : Region.Mode) (ops : Array Oper) (N : Nat) : Bool := ((List.range N).all fun i => (List.range (N + 1)).any fun j => decide (i < j) && Region.waitsFor md ops j i) && Region.chainB md ops N
theorem wait_spec {N : Nat} (hs : waitB md ops N = true) {listed : Array Bool} (hcl : Closed md ops listed) (htail : ∀ t, N ≤ t → t < ops.size → listed.getD t true = false) {i : Nat} (hi : i < N) (hun : listed.getD i false = false) :
    ∀ t, N ≤ t → t ∉ Region.ready md ops listed := by
  intro t ht hr
  simp only [waitB, Bool.and_eq_true] at hs
  have hfirst : ∀ d i, N - i ≤ d → i < N → listed.getD i false = false → N ∉ Region.ready md ops listed := by
    intro d
    induction d with
    | zero => intro i h1 h2; omega
    | succ d ih =>
      intro i h1 hi hun hN
      have h1' := List.all_eq_true.1 hs.1 i (List.mem_range.2 hi)
      obtain ⟨j, hj, hw⟩ := List.any_eq_true.1 h1'
      rw [List.mem_range] at hj
      simp only [Bool.and_eq_true, decide_eq_true_eq] at hw
      obtain ⟨hij, hw⟩ := hw
      obtain ⟨oj, hoj, e, he, hb, hon⟩ := Region.waitsFor_spec hw
      by_cases hjN : j = N
      · subst hjN
        obtain ⟨_, ot, hot, hall⟩ := mem_ready.1 hN
        obtain rfl : oj = ot := Option.some.inj (hoj.symm.trans hot)
        have h2 := hall e he hb
        rw [hon, hun] at h2
        cases h2
      · have hju : listed.getD j false = false := by
          cases hc : listed.getD j false with
          | false => rfl
          | true =>
            have := hcl j oj hoj hc e he hb
            rw [hon, hun] at this; cases this
        exact ih j (by omega) (by omega) hju hN
  obtain ⟨_, ot, hot, hall⟩ := mem_ready.1 hr
  have htlt : t < ops.size := (Array.getElem?_eq_some_iff.1 hot).1
  by_cases htn : t = N
  · subst htn
    exact hfirst _ i (Nat.le_refl _) hi hun hr
  · have h1 := List.all_eq_true.1 hs.2 t (List.mem_range.2 htlt)
    simp only [Bool.or_eq_true, decide_eq_true_eq] at h1
    rcases h1 with h1 | h1
    · omega
    · obtain ⟨o', ho', e, he, hb, hon⟩ := Region.waitsFor_spec h1
      have : o' = ot := Option.some.inj (ho'.symm.trans hot)
      subst this
      have h2 := hall e he hb
      rw [hon, getD_both (htail (t - 1) (by omega) (by omega))] at h2
      cases h2
structure CInv (md : Region.Mode) (ops : Array Oper) (n N : Nat) (listed : Array Bool) : Prop extends Go.Proofs.Ytcgcapfppceggaa.Qt.CInv ops n N listed where
  closed : Closed md ops listed
theorem CInv.set {n N i : Nat} {listed : Array Bool} (inv : CInv md ops n N listed) (hr : i ∈ Region.ready md ops listed) (hi : i < n) (hN : n ≤ N) : CInv md ops n N (listed.setIfInBounds i true) := by
  refine ⟨inv.toCInv.set hi hN, fun j oj hoj hlj e he hb => ?_⟩
  have up : ∀ k, listed.getD k false = true → (listed.setIfInBounds i true).getD k false = true := by
    intro k hk
    by_cases hik : i = k
    · subst hik
      have : i < listed.size := by
        rcases Nat.lt_or_ge i listed.size with h | h
        · exact h
        · simp [Nat.not_lt.2 h] at hk
      simp [this]
    · rw [getD_set_ne false hik]; exact hk
  by_cases hij : i = j
  · subst hij
    obtain ⟨_, o, ho, hall⟩ := mem_ready.1 hr
    obtain rfl : o = oj := Option.some.inj (ho.symm.trans hoj)
    exact up _ (hall e he hb)
  · rw [getD_set_ne false hij] at hlj
    exact up _ (inv.closed j oj hoj hlj e he hb)
theorem CInv.lt {n N : Nat} {listed : Array Bool} (inv : CInv md ops n N listed) (hs : waitB md ops N = true) {i : Nat} (hi : i < n) (hN : n ≤ N) (hun : listed.getD i true = false) {j : Nat} (hj : j ∈ Region.ready md ops listed) : j < n := by
  rcases Nat.lt_or_ge j n with h | h
  · exact h
  · rcases Nat.lt_or_ge j N with h' | h'
    · have := (mem_ready.1 hj).1; rw [inv.mid j h h'] at this; cases this
    · exact absurd hj (wait_spec hs inv.closed inv.tail (i := i) (by omega) (getD_both hun) j h')
theorem wpAnyC_first {n N i : Nat} {oi : Oper} {v : Value} {L : Array Bool → Act → Prop} (hi : ops[i]? = some oi) (hsel : ∀ (j : Nat) (o : Oper) cs b, ops[j]? = some o → o.op ≠ .select cs b)
    (hs : waitB md ops N = true) (hN : n ≤ N) (hin : i < n)
    (hdone : ∀ listed a, L listed a → ∀ j ∈ Region.ready md ops listed, n ≤ j) :
    ∀ (f : Nat) (listed : Array Bool) (a : Act), CInv md ops n N listed →
      (∀ j oj, ops[j]? = some oj → j ≠ i → listed.getD j true = false → (∀ e ∈ oj.after, Region.binds md e = true → e.on ≠ i) → oi.apart ops oj = true) →
      i ∈ Region.ready md ops listed → YieldsC P ops w0 oi v a →
      wpAnyC P md ops w0 n L f (listed.setIfInBounds i true) (a.put oi.dst v) → wpAnyC P md ops w0 n L (f + 1) listed a := by
  intro f
  induction f with
  | zero =>
    intro listed a inv _ hr hy H
    have hun := (mem_ready.1 hr).1
    refine ⟨fun h => (by rw [h] at hr; cases hr), fun j hj => ?_⟩
    have hjn : j < n := inv.lt hs hin hN hun hj
    refine ⟨hjn, ?_⟩
    by_cases hji : j = i
    · subst hji; exact hy.cOp hi H
    · have := hdone _ _ H j (ready_mono hj hji)
      omega
  | succ f ih =>
    intro listed a inv hfree hr hy H
    have hun := (mem_ready.1 hr).1
    refine ⟨fun h => (by rw [h] at hr; cases hr), fun j hj => ?_⟩
    have hjn : j < n := inv.lt hs hin hN hun hj
    refine ⟨hjn, ?_⟩
    by_cases hji : j = i
    · subst hji; exact hy.cOp hi H
    · have h1 := (H.2 j (ready_mono hj hji)).2
      obtain ⟨hjun, oj, hoj, hall⟩ := mem_ready.1 hj
      have hnot : ∀ e ∈ oj.after, Region.binds md e = true → e.on ≠ i := fun e he hb heq => by
        have h1 := hall e he hb
        rw [heq, getD_both hun] at h1
        cases h1
      have h2 := cOp_put hoj (hfree j oj hoj hji hjun hnot) (fun cs b => hsel i oi cs b hi) (fun cs b => hsel j oj cs b hoj) hy h1
      have hfree' : ∀ k ok, ops[k]? = some ok → k ≠ i → (listed.setIfInBounds j true).getD k true = false →
          (∀ e ∈ ok.after, Region.binds md e = true → e.on ≠ i) → oi.apart ops ok = true := fun k ok hk hki hun hno => by
        refine hfree k ok hk hki ?_ hno
        by_cases hjk : j = k
        · subst hjk; exact hjun
        · rw [getD_set_ne true hjk] at hun; exact hun
      refine cOp_mono (fun a' h3 => ih (listed.setIfInBounds j true) a' (inv.set hj hjn hN) hfree' (ready_mono hr (Ne.symm hji)) h3.1 ?_) h2
      rw [Array.setIfInBounds_comm _ _ hji]
      exact h3.2

theorem wpAnyC_lex {n N g : Nat} {Lq : Act → Prop} (hsel : Region.noSelect ops = true) (hs : waitB md ops N = true) (hN : n ≤ N) :
    ∀ (l : List Oper) (k : Nat) (listed : Array Bool) (a : Act), (∀ j, j < l.length → l[j]? = ops[k + j]?) → k + l.length = n → CInv md ops n N listed →
    lexC md ops N g l.length k listed = true → wpCalm P ops w0 Lq l a →
    wpAnyC P md ops w0 n (fun listed' a' => CInv md ops n N listed' ∧ Region.seqB md ops g N listed' = true ∧ Lq a') l.length listed a
  | [], k, listed, a, _, _, inv, hB, h => ⟨inv, by simpa [lexC] using hB, h⟩
  | o :: l, k, listed, a, hl, hk, inv, hB, h => by
    have h0 : ops[k]? = some o := by simpa using (hl 0 (by simp)).symm
    simp only [List.length_cons, lexC, Bool.and_eq_true] at hB
    obtain ⟨⟨hr, hf⟩, hB'⟩ := hB
    have hkn : k < n := by simp only [List.length_cons] at hk; omega
    have hr' : k ∈ Region.ready md ops listed := by simpa using hr
    have hst : cOp P ops w0 k (wpCalm P ops w0 Lq l) a := by unfold cOp; simp only [h0]; exact h
    obtain ⟨v, hy, hK⟩ := yieldsC_of_cOp h0 hst
    exact wpAnyC_first h0 (Region.noSelect_spec hsel) hs hN hkn (fun listed' a' hL j hj => Nat.le_trans hN (seqB_ready hL.2.1 j hj)) l.length listed a inv (Region.free_spec h0 hf) hr' hy
      (wpAnyC_lex hsel hs hN l (k + 1) _ _ (fun j hj => by have := hl (j + 1) (by simp; omega); simpa [Nat.add_assoc, Nat.add_comm 1 j] using this) (by simp only [List.length_cons] at hk; omega) (inv.set hr' hkn hN) hB' hK)
theorem wpAny_of_C {Q' : Exit → Act → World → Prop} {O : Nat → Obj} {n N g : Nat} {Lq : Act → Prop} (hsel : ∀ (j : Nat) (o : Oper) cs b, ops[j]? = some o → o.op ≠ .select cs b) (hs : waitB md ops N = true) (hN : n ≤ N) (hNs : N ≤ ops.size) (hl : Lays P md ops n N O)
    (hT : ∀ listed a w ps, (ps.map (·.1)).Perm (List.range' n (N - n)) → Laid w0 O ps w → Region.seqB md ops g N listed = true → Lq a → wpAny P md ops Q' g listed (putAll ops ps a) w) :
    ∀ (s f : Nat) (listed listedM : Array Bool) (a : Act) (w : World) (ps : List (Nat × Nat)) (rem : List Nat), s = f + rem.length → Real ops w0 O n N listed listedM w ps rem → CInv md ops n N listedM →
      wpAnyC P md ops w0 n (fun listed' a' => CInv md ops n N listed' ∧ Region.seqB md ops g N listed' = true ∧ Lq a') f listedM a → wpAny P md ops Q' (s + g) listed (putAll ops ps a) w := by
  intro s
  induction s with
  | zero =>
    intro f listed listedM a w ps rem hsf hR inv h
    obtain rfl : f = 0 := by omega
    obtain rfl : rem = [] := List.eq_nil_of_length_eq_zero (by omega)
    have e : listed = listedM := by
      refine Array.ext (by rw [hR.size, inv.size]) fun j h1 h2 => ?_
      have hg : ∀ (l : Array Bool) (hj : j < l.size), l[j] = l.getD j true := fun l hj => by simp [hj]
      rw [hg _ h1, hg _ h2]
      rcases Nat.lt_or_ge j n with hj | hj
      · exact hR.same j true (.inl hj)
      · rcases Nat.lt_or_ge j N with hj' | hj'
        · rw [inv.mid j hj hj']
          have hm : j ∈ List.range' n (N - n) := List.mem_range'_1.2 ⟨hj, by omega⟩
          have hm' := hR.perm.mem_iff.2 hm
          rw [List.append_nil] at hm'
          obtain ⟨x, hx, rfl⟩ := List.mem_map.1 hm'
          exact hR.done x hx
        · exact hR.same j true (.inr hj')
    subst e
    rw [Nat.zero_add]
    exact hT _ _ _ _ (by simpa using hR.perm) hR.laid h.2.1 h.2.2
  | succ s ih =>
    intro f listed listedM a w ps rem hsf hR inv h
    have hmid : ∀ j ∈ rem, n ≤ j ∧ j < N := fun j hj => by
      have := hR.perm.mem_iff.1 (List.mem_append_right _ hj)
      rw [List.mem_range'_1] at this; omega
    have hps : ∀ x ∈ ps, n ≤ x.1 ∧ x.1 < N := fun x hx => by
      have := hR.perm.mem_iff.1 (List.mem_append_left _ (List.mem_map_of_mem hx))
      rw [List.mem_range'_1] at this; omega
    have htail : ∀ t, N ≤ t → t < ops.size → listed.getD t true = false := fun t h1 h2 => (hR.same t true (.inr h1)).trans (inv.tail t h1 h2)
    have hclosed : Closed md ops listed := by
      intro j oj hoj hlj e he hb
      rcases Nat.lt_or_ge j n with hj | hj
      · have hm : ¬ (n ≤ e.on ∧ e.on < N) := hl.free j oj hj hoj e he hb
        rw [hR.same e.on false (by omega)]
        exact inv.closed j oj hoj (by rw [← hR.same j false (.inl hj)]; exact hlj) e he hb
      · rcases Nat.lt_or_ge j N with hj' | hj'
        · obtain ⟨o, ho, _, haf⟩ := hl.there j hj hj'
          obtain rfl : o = oj := Option.some.inj (ho.symm.trans hoj)
          rw [haf e he] at hb; cases hb
        · have h1 := getD_both (htail j hj' (Array.getElem?_eq_some_iff.1 hoj).1)
          rw [hlj] at h1; cases h1
    have toM : ∀ i, i < n → i ∈ Region.ready md ops listed → i ∈ Region.ready md ops listedM := fun i hi hr => by
      rw [mem_ready] at *
      obtain ⟨h0, o, ho, hall⟩ := hr
      refine ⟨(hR.same i true (.inl hi)).symm.trans h0, o, ho, fun e he hb => ?_⟩
      have h2 := hall e he hb
      by_cases hm : n ≤ e.on ∧ e.on < N
      · exact absurd hm (hl.free i o hi ho e he hb)
      · rw [← hR.same e.on false (by omega)]; exact h2
    have fromM : ∀ i, i < n → i ∈ Region.ready md ops listedM → i ∈ Region.ready md ops listed := fun i hi hr => by
      rw [mem_ready] at *
      obtain ⟨h0, o, ho, hall⟩ := hr
      refine ⟨(hR.same i true (.inl hi)).trans h0, o, ho, fun e he hb => ?_⟩
      have h2 := hall e he hb
      by_cases hm : n ≤ e.on ∧ e.on < N
      · exact absurd hm (hl.free i o hi ho e he hb)
      · rw [hR.same e.on false (by omega)]; exact h2
    have remR : ∀ j ∈ rem, j ∈ Region.ready md ops listed := fun j hj => by
      obtain ⟨o, ho, _, haf⟩ := hl.there j (hmid j hj).1 (hmid j hj).2
      exact mem_ready.2 ⟨hR.todo j hj, o, ho, fun e he hb => by rw [haf e he] at hb; cases hb⟩
    -- some operation ahead of the tail has not come up
    have hun : ∃ i, i < N ∧ listed.getD i false = false ∧ i ∈ Region.ready md ops listed := by
      cases rem with
      | cons j rem => exact ⟨j, (hmid j (List.mem_cons_self ..)).2, getD_both (hR.todo j (List.mem_cons_self ..)), remR j (List.mem_cons_self ..)⟩
      | nil =>
        obtain ⟨f', rfl⟩ : ∃ f', f = f' + 1 := ⟨f - 1, by simp at hsf; omega⟩
        obtain ⟨hne, hall⟩ := h
        obtain ⟨i, hi⟩ := List.exists_mem_of_ne_nil _ hne
        have hin := (hall i hi).1
        exact ⟨i, by omega, getD_both ((mem_ready.1 (fromM i hin hi)).1), fromM i hin hi⟩
    rw [show s + 1 + g = (s + g) + 1 by omega]
    refine ⟨fun h0 => ?_, fun i hi => ?_⟩
    · obtain ⟨i, _, _, hr⟩ := hun
      rw [h0] at hr; cases hr
    · rcases Nat.lt_or_ge i n with hin | hin
      · -- an operation of the head
        obtain ⟨f', rfl⟩ : ∃ f', f = f' + 1 := by
          cases f with
          | zero =>
            have := seqB_ready h.2.1 i (toM i hin hi)
            omega
          | succ f' => exact ⟨f', rfl⟩
        obtain ⟨o, ho, _⟩ := (mem_ready.1 hi).2
        have hh := (h.2 i (toM i hin hi)).2
        have hap : ∀ x ∈ ps, (∀ d, dstAt ops x.1 = some d → d ∉ o.looksAt ops) ∧ (∀ d, dstAt ops x.1 = some d → o.dst ≠ some d) := fun x hx => by
          obtain ⟨ox, hox, _⟩ := hl.there x.1 (hps x hx).1 (hps x hx).2
          have := hl.apart x.1 ox (hps x hx).1 (hps x hx).2 hox i o hin ho
          simp only [dstAt, hox, Option.bind_some]
          exact this
        have hsame := putAll_same (ops := ops) (o := o) (fun cs b => hsel i o cs b ho) ps (fun x hx => (hap x hx).1) a
        have hinv' := inv.set (toM i hin hi) hin hN
        have next : ∀ (v : Value) (w' : World), Below w.heap.size w w' → wpAnyC P md ops w0 n (fun listed' a' => CInv md ops n N listed' ∧ Region.seqB md ops g N listed' = true ∧ Lq a') f' (listedM.setIfInBounds i true) (a.put o.dst v) →
            wpAny P md ops Q' (s + g) (listed.setIfInBounds i true) ((putAll ops ps a).put o.dst v) w' := fun v w' hb hk => by
          rw [putAll_put v ps (fun x hx => (hap x hx).2) a]
          refine ih f' _ (listedM.setIfInBounds i true) _ _ ps rem (by omega) ⟨by simp [hR.size], fun j b hj => ?_, fun x hx => ?_, fun j hj => ?_, hR.perm, hR.laid.later hb⟩ hinv' hk
          · by_cases hij : i = j
            · subst hij
              have h1 : i < listed.size := by rw [hR.size]; omega
              have h2 : i < listedM.size := by rw [inv.size]; omega
              simp [h1, h2]
            · rw [getD_set_ne b hij, getD_set_ne b hij]; exact hR.same j b hj
          · rw [getD_set_ne true (by have := (hps x hx).1; omega)]; exact hR.done x hx
          · rw [getD_set_ne true (by have := (hmid j hj).1; omega)]; exact hR.todo j hj
        unfold cOp at hh
        simp only [ho] at hh
        unfold wpOp
        simp only [ho]
        rw [hsame.2]
        split
        · rename_i hw
          simp only [hw, if_true] at hh
          obtain ⟨v, hv, hk⟩ := hh
          refine .inl (Oper.wp_of_calm (v := v) ?_ fun w' hb => next v w' hb hk)
          have := hv w hR.laid.1
          unfold calmAt Oper.quietAt at *
          rw [hsame.1]
          exact this
        · rename_i hw
          simp only [hw] at hh
          exact next undef w (Below.refl _ _) hh
      · rcases Nat.lt_or_ge i N with hiN | hiN
        · -- a new block
          have hun' := (mem_ready.1 hi).1
          have hir : i ∈ rem := by
            have hm : i ∈ List.range' n (N - n) := List.mem_range'_1.2 ⟨hin, by omega⟩
            rcases List.mem_append.1 (hR.perm.mem_iff.2 hm) with hx | hx
            · obtain ⟨x, hx1, hx2⟩ := List.mem_map.1 hx
              have := hR.done x hx1
              rw [hx2, hun'] at this; cases this
            · exact hx
          obtain ⟨o, ho, hgd, haf⟩ := hl.there i hin hiN
          have hrun := hl.run i o hin hiN ho (putAll ops ps a).eval w
          have hnd : (ps.map (·.1) ++ rem).Nodup := hR.perm.nodup_iff.2 List.nodup_range'
          have hndr : rem.Nodup := (List.nodup_append.1 hnd).2.1
          unfold wpOp
          simp only [ho]
          have hw : Region.wanted o (yielded ops (putAll ops ps a).tmps) = true := by simp [Region.wanted, hgd]
          rw [if_pos hw]
          refine .inl ?_
          unfold Oper.wp
          rw [hrun]
          show wpAny P md ops Q' (s + g) (listed.setIfInBounds i true) ((putAll ops ps a).put o.dst (ptrTo w.heap.size)) (w.alloc (O i))
          have hd : dstAt ops i = o.dst := by simp [dstAt, ho]
          rw [← hd, ← putAll_snoc]
          have hlen : rem.length = (rem.erase i).length + 1 := by
            rw [List.length_erase_of_mem hir]
            have : 0 < rem.length := List.length_pos_of_mem hir
            omega
          refine ih f _ listedM _ _ (ps ++ [(i, w.heap.size)]) (rem.erase i) (by omega) ⟨by simp [hR.size], fun j b hj => ?_, fun x hx => ?_, fun j hj => ?_, ?_, hR.laid.lay i⟩ inv h
          · rw [getD_set_ne b (by omega)]; exact hR.same j b hj
          · rcases List.mem_append.1 hx with hx1 | hx1
            · by_cases hxi : i = x.1
              · have h1 : x.1 < listed.size := by rw [hR.size]; have := (hps x hx1).2; omega
                simp [hxi, h1]
              · rw [getD_set_ne true hxi]; exact hR.done x hx1
            · have : x = (i, w.heap.size) := by simpa using hx1
              subst this
              have h1 : i < listed.size := by rw [hR.size]; omega
              simp [h1]
          · have hj1 := List.mem_of_mem_erase hj
            have hji : i ≠ j := by
              intro e
              subst e
              exact (List.Nodup.not_mem_erase hndr) hj
            rw [getD_set_ne true hji]; exact hR.todo j hj1
          · refine List.Perm.trans ?_ hR.perm
            rw [List.map_append, List.append_assoc]
            exact List.Perm.append_left _ (List.perm_cons_erase hir).symm
        · -- the tail waits
          obtain ⟨i', hi', hu, _⟩ := hun
          exact absurd hi (wait_spec hs hclosed htail hi' hu i hiN)
end
section
variable {P : Program} {md : Region.Mode}
def calmB (md : Region.Mode) (ops : Array Oper) (n N : Nat) (listedM : Array Bool) : Bool :=
  Region.noSelect ops && decide (N < ops.size) && waitB md ops N && laysB md ops n N && lexC md ops N (ops.size - N) n 0 listedM

theorem wp_region_calm {id : Nat} {Q : Exit → Act → World → Prop} {a : Act} {w : World} {l : List Oper} (n N : Nat) (O : Nat → Obj) (listedM : Array Bool) (hN : n ≤ N) (hm : P.follows .mixedOrders = true) (hB : calmB .any l.toArray n N listedM = true)
    (inv0 : Go.Proofs.Ytcgcapfppceggaa.Qt.CInv l.toArray n N listedM) (hsame : ∀ j b, (j < n ∨ N ≤ j) → (Array.replicate l.toArray.size false).getD j b = listedM.getD j b)
    (hr : ∀ j o, n ≤ j → j < N → l.toArray[j]? = some o → ∀ (ev : Operand → Value) (w : World), (execOp ev o).run P w = .ok (.value (ptrTo w.heap.size)) (w.alloc (O j)))
    (h : wpCalm P l.toArray w (fun a' => ∀ ps w', (ps.map (·.1)).Perm (List.range' n (N - n)) → Laid w O ps w' → wpList P l.toArray Q (l.drop N) (putAll l.toArray ps a') w') (l.take n) a) : (Code.region id l.toArray true).wp P Q a w := by
  simp only [calmB, Bool.and_eq_true, decide_eq_true_eq] at hB
  obtain ⟨⟨⟨⟨hsel, hNs⟩, hs⟩, hlB⟩, hlex⟩ := hB
  have hNl : N < l.length := by simpa using hNs
  have htl : (l.take n).length = n := by simp; omega
  have hdl : (l.drop N).length = l.toArray.size - N := by simp
  have inv : CInv .any l.toArray n N listedM := ⟨inv0, by
    intro j oj hoj hlj e he hb
    by_cases hm : n ≤ j ∧ j < N
    · obtain ⟨o, ho, _, haf⟩ := (lays_of (P := P) hlB hr).there j hm.1 hm.2
      obtain rfl : o = oj := Option.some.inj (ho.symm.trans hoj)
      rw [haf e he] at hb; cases hb
    · have := hsame j false (by omega)
      rw [hlj, getD_replicate_false] at this
      cases this⟩
  have H := wpAnyC_lex (md := .any) (g := l.toArray.size - N) hsel hs hN (l.take n) 0 listedM a (fun j hj => by
    have hj' : j < n := by rw [htl] at hj; exact hj
    simp [hj']) (by simpa using htl) inv (by rw [htl]; exact hlex) h
  refine wp_region_any hm ?_
  have htodo : ∀ j ∈ List.range' n (N - n), (Array.replicate l.toArray.size false).getD j true = false := by
    intro j hj
    rw [List.mem_range'_1] at hj
    have hlt : j < l.toArray.size := by omega
    simp only [Array.getD_eq_getD_getElem?, Array.getElem?_replicate, hlt, if_true, Option.getD_some]
  have hlaid : Laid w O [] { w with drawn := w.drawn + 1 } := ⟨(Below.refl w.heap.size w).drew, (fun x hx => by cases hx), by simp⟩
  have R : Real l.toArray w O n N (Array.replicate l.toArray.size false) listedM { w with drawn := w.drawn + 1 } [] (List.range' n (N - n)) :=
    ⟨by simp, hsame, (fun x hx => by cases hx), htodo, by simp, hlaid⟩
  have := wpAny_of_C (Q' := Q) (g := l.toArray.size - N) (Lq := fun a' => ∀ ps w', (ps.map (·.1)).Perm (List.range' n (N - n)) → Laid w O ps w' → wpList P l.toArray Q (l.drop N) (putAll l.toArray ps a') w') (Region.noSelect_spec hsel) hs hN (Nat.le_of_lt hNs) (lays_of (P := P) hlB hr)
    (fun listed a' w' ps hp hl hsq hLq => by
      have := wpAny_of_seq (md := .any) (Q' := Q) (l.drop N) N listed (putAll l.toArray ps a') w' (fun j => by simp [List.getElem?_drop]) (by rw [hdl]; exact hsq) (hLq ps w' hp hl)
      rwa [hdl] at this) (n + (N - n)) n _ listedM a _ [] (List.range' n (N - n)) (by simp) R inv (by rw [htl] at H; exact H)
  rw [show n + (N - n) + (l.toArray.size - N) = l.toArray.size by omega] at this
  exact this

/-- One new block. -/
theorem wp_region_calm1 {id : Nat} {Q : Exit → Act → World → Prop} {a : Act} {w : World} {l : List Oper} (n : Nat) (d : Tmp) (c : Array Value) (t : TypeId) (hd : dstAt l.toArray n = some d) (hm : P.follows .mixedOrders = true)
    (hB : calmB .any l.toArray n (n + 1) ((Array.replicate l.toArray.size false).setIfInBounds n true) = true)
    (hr : ∀ o, l.toArray[n]? = some o → ∀ (ev : Operand → Value) (w : World), (execOp ev o).run P w = .ok (.value (.pointer (some ⟨w.heap.size, 0, none⟩))) (w.alloc (.cells c t)))
    (h : ∀ N, Rules w N → wpCalm P l.toArray w (fun a' => ∀ b w', Below w.heap.size w w' → (∀ i, w'.cell? ⟨b, i, none⟩ = c[i]?) → (∀ i, w'.frozen? ⟨b, i, none⟩ = false) → w.heap.size ≤ b → b < w'.heap.size →
      wpList P l.toArray Q (l.drop (n + 1)) (a'.put (some d) (.pointer (some ⟨b, 0, none⟩))) w') (l.take n) a) : (Code.region id l.toArray true).wp P Q a w := by
  have hs : n < l.toArray.size := by
    simp only [calmB, Bool.and_eq_true, decide_eq_true_eq] at hB
    have := hB.1.1.1.2
    omega
  obtain ⟨inv, same⟩ := marks1 l.toArray n hs
  refine wp_region_calm n (n + 1) (fun _ => .cells c t) _ (Nat.le_succ _) hm hB inv same (fun j o h1 h2 ho => hr o (by rw [← ho, show j = n by omega])) ?_
  refine wpCalm_mono (fun a' ha ps w' hp hl => ?_) _ _ (h _ (rules w _ rfl))
  rw [show n + 1 - n = 1 by omega] at hp
  obtain ⟨x, rfl⟩ : ∃ x, ps = [x] := by
    have := hp.length_eq
    match ps, this with
    | [x], _ => exact ⟨x, rfl⟩
  have hx : x.1 = n := by simpa using hp.mem_iff.1 (by simp : x.1 ∈ [x].map (·.1))
  obtain ⟨j, b⟩ := x
  obtain rfl : j = n := hx
  have hb := hl.2.1 (j, b) (by simp)
  obtain ⟨g1, g2, g3⟩ := block_cells hb.1
  have := ha b w' hl.1 g1 g2 hb.2 g3
  rw [← hd] at this
  exact this

end
end Go.Proofs.Ytcgcapfppceggaa.Qm
