/-
  The law for a region that draws its order and lays one new block, or two, at any time before they are written.
  Conditions: stated in each law.
-/
import Derived.Test.YtcgcapfppceggaaQd
namespace Go.Proofs.Ytcgcapfppceggaa.Qt
open Go Go.RowKit
section
variable {P : Program} {md : Region.Mode}

def laysB (md : Region.Mode) (ops : Array Oper) (n N : Nat) : Bool :=
  ((List.range n).all fun i => match ops[i]? with
    | some oi => (oi.after.all fun e => !Region.binds md e || !(decide (n ≤ e.on) && decide (e.on < N))) && (List.range N).all fun j => decide (j < n) || match ops[j]? with
      | some o => o.apart ops oi
      | none => true
    | none => true) &&
  (List.range N).all fun j => decide (j < n) || match ops[j]? with
    | some o => o.guard.isNone && o.after.all fun e => !Region.binds md e
    | none => false

theorem lays_of {ops : Array Oper} {n N : Nat} {O : Nat → Obj} (h : laysB md ops n N = true) (hr : ∀ j o, n ≤ j → j < N → ops[j]? = some o → ∀ (ev : Operand → Value) (w : World), (execOp ev o).run P w = .ok (.value (ptrTo w.heap.size)) (w.alloc (O j))) : Lays P md ops n N O := by
  simp only [laysB, Bool.and_eq_true] at h
  obtain ⟨h1, h2⟩ := h
  have g1 : ∀ i oi, i < n → ops[i]? = some oi → (∀ e ∈ oi.after, Region.binds md e = true → ¬ (n ≤ e.on ∧ e.on < N)) ∧ ∀ j o, n ≤ j → j < N → ops[j]? = some o → o.apart ops oi = true := fun i oi hi ho => by
    have := List.all_eq_true.1 h1 i (List.mem_range.2 hi)
    simp only [ho, Bool.and_eq_true] at this
    refine ⟨fun e he hb hc => ?_, fun j o hj hjN hjo => ?_⟩
    · have := Array.all_eq_true_iff_forall_mem.1 this.1 e he
      simp [hb, hc.1, hc.2] at this
    · have := List.all_eq_true.1 this.2 j (List.mem_range.2 hjN)
      simp only [hjo, Bool.or_eq_true, decide_eq_true_eq] at this
      exact this.resolve_left (by omega)
  have g2 : ∀ j, n ≤ j → j < N → ∃ o, ops[j]? = some o ∧ o.guard = none ∧ ∀ e ∈ o.after, Region.binds md e = false := fun j hj hjN => by
    have := List.all_eq_true.1 h2 j (List.mem_range.2 hjN)
    simp only [Bool.or_eq_true, decide_eq_true_eq] at this
    have := this.resolve_left (by omega)
    split at this
    · rename_i o ho
      simp only [Bool.and_eq_true, Option.isNone_iff_eq_none] at this
      exact ⟨o, ho, this.1, fun e he => by have := Array.all_eq_true_iff_forall_mem.1 this.2 e he; simpa using this⟩
    · cases this
  exact ⟨hr, g2, fun j o hj hjN ho i oi hi hoi => by
    have := Oper.apart_spec ((g1 i oi hi hoi).2 j o hj hjN ho)
    exact ⟨this.1, this.2.1⟩, fun i oi hi hoi => (g1 i oi hi hoi).1⟩

def calmB (md : Region.Mode) (ops : Array Oper) (n N : Nat) (listedM : Array Bool) : Bool :=
  Region.noSelect ops && decide (N < ops.size) && waitB md ops N && laysB md ops n N && lexC md ops N (ops.size - N) n 0 listedM

theorem wp_region_calm {id : Nat} {Q : Exit → Act → World → Prop} {a : Act} {w : World} {l : List Oper} (n N : Nat) (O : Nat → Obj) (listedM : Array Bool) (hN : n ≤ N) (hm : P.follows .mixedOrders = true) (hB : calmB .any l.toArray n N listedM = true)
    (inv : CInv l.toArray n N listedM) (hsame : ∀ j b, (j < n ∨ N ≤ j) → (Array.replicate l.toArray.size false).getD j b = listedM.getD j b)
    (hr : ∀ j o, n ≤ j → j < N → l.toArray[j]? = some o → ∀ (ev : Operand → Value) (w : World), (execOp ev o).run P w = .ok (.value (ptrTo w.heap.size)) (w.alloc (O j)))
    (h : wpCalm P l.toArray w (fun a' => ∀ ps w', (ps.map (·.1)).Perm (List.range' n (N - n)) → Laid w O ps w' → wpList P l.toArray Q (l.drop N) (putAll l.toArray ps a') w') (l.take n) a) : (Code.region id l.toArray true).wp P Q a w := by
  simp only [calmB, Bool.and_eq_true, decide_eq_true_eq] at hB
  obtain ⟨⟨⟨⟨hsel, hNs⟩, hs⟩, hlB⟩, hlex⟩ := hB
  have hNl : N < l.length := by simpa using hNs
  have htl : (l.take n).length = n := by simp; omega
  have hdl : (l.drop N).length = l.toArray.size - N := by simp
  have H := wpAnyC_lex (md := .any) (g := l.toArray.size - N) hsel hs hN (l.take n) 0 listedM a (fun j hj => by
    have hj' : j < n := by rw [htl] at hj; exact hj
    simp [hj']) (by simpa using htl) inv (by rw [htl]; exact hlex) h
  refine wp_region_any hm ?_
  have htodo : ∀ j ∈ List.range' n (N - n), (Array.replicate l.toArray.size false).getD j true = false := by
    intro j hj
    rw [List.mem_range'_1] at hj
    have hlt : j < l.toArray.size := by omega
    simp only [Array.getD_eq_getD_getElem?, Array.getElem?_replicate, hlt, if_true, Option.getD_some]
  have hlaid : Laid w O [] { w with drawn := w.drawn + 1 } := ⟨(Below.refl w.heap.size w).drew, (fun x hx => by cases hx), by simp⟩
  have R : Real l.toArray w O n N (Array.replicate l.toArray.size false) listedM { w with drawn := w.drawn + 1 } [] (List.range' n (N - n)) :=
    ⟨by simp, hsame, (fun x hx => by cases hx), htodo, by simp, hlaid⟩
  have := wpAny_of_C (Q' := Q) (g := l.toArray.size - N) (Lq := fun a' => ∀ ps w', (ps.map (·.1)).Perm (List.range' n (N - n)) → Laid w O ps w' → wpList P l.toArray Q (l.drop N) (putAll l.toArray ps a') w') (Region.noSelect_spec hsel) hs hN (Nat.le_of_lt hNs) (lays_of (P := P) hlB hr)
    (fun listed a' w' ps hp hl hsq hLq => by
      have := wpAny_of_seq (md := .any) (Q' := Q) (l.drop N) N listed (putAll l.toArray ps a') w' (fun j => by simp [List.getElem?_drop]) (by rw [hdl]; exact hsq) (hLq ps w' hp hl)
      rwa [hdl] at this) (n + (N - n)) n _ listedM a _ [] (List.range' n (N - n)) (by simp) R inv (by rw [htl] at H; exact H)
  rw [show n + (N - n) + (l.toArray.size - N) = l.toArray.size by omega] at this
  exact this

theorem marks1 (ops : Array Oper) (n : Nat) (h : n < ops.size) : CInv ops n (n + 1) ((Array.replicate ops.size false).setIfInBounds n true) ∧ ∀ j b, (j < n ∨ n + 1 ≤ j) → (Array.replicate ops.size false).getD j b = ((Array.replicate ops.size false).setIfInBounds n true).getD j b := by
  refine ⟨⟨by simp, fun j h1 h2 => ?_, fun t h1 h2 => ?_⟩, fun j b hj => ?_⟩
  · obtain rfl : j = n := by omega
    simp [h]
  · rw [getD_set_ne true (by omega)]
    simp only [Array.getD_eq_getD_getElem?, Array.getElem?_replicate, h2, if_true, Option.getD_some]
  · rw [getD_set_ne b (by omega)]

theorem marks2 (ops : Array Oper) (n : Nat) (h : n + 1 < ops.size) : CInv ops n (n + 2) (((Array.replicate ops.size false).setIfInBounds n true).setIfInBounds (n + 1) true) ∧ ∀ j b, (j < n ∨ n + 2 ≤ j) → (Array.replicate ops.size false).getD j b = (((Array.replicate ops.size false).setIfInBounds n true).setIfInBounds (n + 1) true).getD j b := by
  refine ⟨⟨by simp, fun j h1 h2 => ?_, fun t h1 h2 => ?_⟩, fun j b hj => ?_⟩
  · by_cases hj : j = n + 1
    · subst hj; simp [h]
    · obtain rfl : j = n := by omega
      rw [getD_set_ne true (by omega)]
      have : j < ops.size := by omega
      simp [this]
  · rw [getD_set_ne true (by omega), getD_set_ne true (by omega)]
    simp only [Array.getD_eq_getD_getElem?, Array.getElem?_replicate, h2, if_true, Option.getD_some]
  · rw [getD_set_ne b (by omega), getD_set_ne b (by omega)]

/-- A new block as its cells. -/
theorem block_cells {w : World} {b : Nat} {c : Array Value} {t : TypeId} (h : w.heap[b]? = some (.cells c t)) : (∀ i, w.cell? ⟨b, i, none⟩ = c[i]?) ∧ (∀ i, w.frozen? ⟨b, i, none⟩ = false) ∧ b < w.heap.size := by
  refine ⟨fun i => ?_, fun i => ?_, (Array.getElem?_eq_some_iff.1 h).1⟩
  · simp [World.cell?, h]
  · simp [World.frozen?, h]

/-- One new block. -/
theorem wp_region_calm1 {id : Nat} {Q : Exit → Act → World → Prop} {a : Act} {w : World} {l : List Oper} (n : Nat) (d : Tmp) (c : Array Value) (t : TypeId) (hd : dstAt l.toArray n = some d) (hm : P.follows .mixedOrders = true)
    (hB : calmB .any l.toArray n (n + 1) ((Array.replicate l.toArray.size false).setIfInBounds n true) = true)
    (hr : ∀ o, l.toArray[n]? = some o → ∀ (ev : Operand → Value) (w : World), (execOp ev o).run P w = .ok (.value (.pointer (some ⟨w.heap.size, 0, none⟩))) (w.alloc (.cells c t)))
    (h : ∀ N, Rules w N → wpCalm P l.toArray w (fun a' => ∀ b w', Below w.heap.size w w' → (∀ i, w'.cell? ⟨b, i, none⟩ = c[i]?) → (∀ i, w'.frozen? ⟨b, i, none⟩ = false) → w.heap.size ≤ b → b < w'.heap.size →
      wpList P l.toArray Q (l.drop (n + 1)) (a'.put (some d) (.pointer (some ⟨b, 0, none⟩))) w') (l.take n) a) : (Code.region id l.toArray true).wp P Q a w := by
  have hs : n < l.toArray.size := by
    simp only [calmB, Bool.and_eq_true, decide_eq_true_eq] at hB
    have := hB.1.1.1.2
    omega
  obtain ⟨inv, same⟩ := marks1 l.toArray n hs
  refine wp_region_calm n (n + 1) (fun _ => .cells c t) _ (Nat.le_succ _) hm hB inv same (fun j o h1 h2 ho => hr o (by rw [← ho, show j = n by omega])) ?_
  refine wpCalm_mono (fun a' ha ps w' hp hl => ?_) _ _ (h _ (rules w _ rfl))
  rw [show n + 1 - n = 1 by omega] at hp
  obtain ⟨x, rfl⟩ : ∃ x, ps = [x] := by
    have := hp.length_eq
    match ps, this with
    | [x], _ => exact ⟨x, rfl⟩
  have hx : x.1 = n := by simpa using hp.mem_iff.1 (by simp : x.1 ∈ [x].map (·.1))
  obtain ⟨j, b⟩ := x
  obtain rfl : j = n := hx
  have hb := hl.2.1 (j, b) (by simp)
  obtain ⟨g1, g2, g3⟩ := block_cells hb.1
  have := ha b w' hl.1 g1 g2 hb.2 g3
  rw [← hd] at this
  exact this

/-- Two new blocks. -/
theorem wp_region_calm2 {id : Nat} {Q : Exit → Act → World → Prop} {a : Act} {w : World} {l : List Oper} (n : Nat) (d d' : Tmp) (c : Array Value) (t : TypeId) (c' : Array Value) (t' : TypeId) (hd1 : dstAt l.toArray n = some d) (hd2 : dstAt l.toArray (n + 1) = some d') (hm : P.follows .mixedOrders = true)
    (hB : (calmB .any l.toArray n (n + 2) (((Array.replicate l.toArray.size false).setIfInBounds n true).setIfInBounds (n + 1) true) && (dstAt l.toArray n != dstAt l.toArray (n + 1))) = true)
    (hr : ∀ o, l.toArray[n]? = some o → ∀ (ev : Operand → Value) (w : World), (execOp ev o).run P w = .ok (.value (.pointer (some ⟨w.heap.size, 0, none⟩))) (w.alloc (.cells c t)))
    (hr' : ∀ o, l.toArray[n + 1]? = some o → ∀ (ev : Operand → Value) (w : World), (execOp ev o).run P w = .ok (.value (.pointer (some ⟨w.heap.size, 0, none⟩))) (w.alloc (.cells c' t')))
    (h : ∀ N, Rules w N → wpCalm P l.toArray w (fun a' => ∀ b b' w', Below w.heap.size w w' → (∀ i, w'.cell? ⟨b, i, none⟩ = c[i]?) → (∀ i, w'.frozen? ⟨b, i, none⟩ = false) → w.heap.size ≤ b → b < w'.heap.size →
      (∀ i, w'.cell? ⟨b', i, none⟩ = c'[i]?) → (∀ i, w'.frozen? ⟨b', i, none⟩ = false) → w.heap.size ≤ b' → b' < w'.heap.size → b ≠ b' →
      wpList P l.toArray Q (l.drop (n + 2)) ((a'.put (some d) (.pointer (some ⟨b, 0, none⟩))).put (some d') (.pointer (some ⟨b', 0, none⟩))) w') (l.take n) a) : (Code.region id l.toArray true).wp P Q a w := by
  simp only [Bool.and_eq_true, bne_iff_ne, ne_eq] at hB
  obtain ⟨hB, hd⟩ := hB
  have hs : n + 1 < l.toArray.size := by
    simp only [calmB, Bool.and_eq_true, decide_eq_true_eq] at hB
    have := hB.1.1.1.2
    omega
  obtain ⟨inv, same⟩ := marks2 l.toArray n hs
  refine wp_region_calm n (n + 2) (fun j => if j = n then .cells c t else .cells c' t') _ (by omega) hm hB inv same (fun j o h1 h2 ho => ?_) ?_
  · by_cases hj : j = n
    · subst hj; rw [if_pos rfl]; exact hr o ho
    · obtain rfl : j = n + 1 := by omega
      rw [if_neg hj]; exact hr' o ho
  refine wpCalm_mono (fun a' ha ps w' hp hl => ?_) _ _ (h _ (rules w _ rfl))
  rw [show n + 2 - n = 2 by omega] at hp
  obtain ⟨x, y, rfl⟩ : ∃ x y, ps = [x, y] := by
    have := hp.length_eq
    match ps, this with
    | [x, y], _ => exact ⟨x, y, rfl⟩
  obtain ⟨j, b⟩ := x
  obtain ⟨j', b'⟩ := y
  have m1 := hp.mem_iff.1 (by simp : j ∈ [(j, b), (j', b')].map (·.1))
  have m2 := hp.mem_iff.1 (by simp : j' ∈ [(j, b), (j', b')].map (·.1))
  have nd := hp.nodup_iff.2 List.nodup_range'
  rw [List.mem_range'_1] at m1 m2
  have hne : j ≠ j' := by simpa using nd
  have hx := hl.2.1 (j, b) (by simp)
  have hy := hl.2.1 (j', b') (by simp)
  have hbb : b ≠ b' := by simpa using hl.2.2
  by_cases hj : j = n
  · subst hj
    obtain rfl : j' = j + 1 := by omega
    simp only [if_true, if_neg (show j + 1 ≠ j by omega)] at hx hy
    obtain ⟨g1, g2, g3⟩ := block_cells hx.1
    obtain ⟨k1, k2, k3⟩ := block_cells hy.1
    have := ha b b' w' hl.1 g1 g2 hx.2 g3 k1 k2 hy.2 k3 hbb
    rw [← hd1, ← hd2] at this
    exact this
  · obtain rfl : j = n + 1 := by omega
    obtain rfl : j' = n := by omega
    simp only [if_true, if_neg hj] at hx hy
    obtain ⟨g1, g2, g3⟩ := block_cells hx.1
    obtain ⟨k1, k2, k3⟩ := block_cells hy.1
    have := ha b' b w' hl.1 k1 k2 hy.2 k3 g1 g2 hx.2 g3 (Ne.symm hbb)
    rw [← hd1, ← hd2] at this
    rw [Act.put_comm a' _ _ (fun d e => by rw [← e]; exact Ne.symm hd)] at this
    exact this

/-- One operation of the calm walk, over the later worlds. -/
theorem wpCalm_go {ops : Array Oper} {w0 : World} {Q : Act → Prop} {a : Act} {o : Oper} {rest : List Oper}
    (h : ∀ K : Act → Prop, (∀ a, wpCalm P ops w0 Q rest a → K a) → if Region.wanted o (yielded ops a.tmps) then ∃ v, (∀ x : Later w0, o.quietAt P a (fun w'' => ∃ y : Later x.out, w'' = y.out) x.out v) ∧ K (a.put o.dst v) else K (a.put o.dst undef)) : wpCalm P ops w0 Q (o :: rest) a :=
  wpCalm_step fun K hK => by
    have := h K hK
    split
    · rename_i hw
      rw [if_pos hw] at this
      obtain ⟨v, h1, h2⟩ := this
      refine ⟨v, fun w hb => ?_, h2⟩
      have := h1 ⟨w, hb⟩
      unfold calmAt
      unfold Oper.quietAt at *
      generalize (execOp a.eval o).run P w = r at *
      cases r with
      | ok n w' =>
        cases n <;> simp only [Oper.quietUpon] at this ⊢
        case enter f args => exact ⟨this.1, this.2.mono fun e w'' ⟨he, y, hy⟩ => ⟨he, by rw [hy]; exact y.below⟩⟩
        all_goals exact this
      | halt x w' => simp only [Oper.quietUpon] at this
    · rename_i hw
      rw [if_neg hw] at this
      exact this

theorem calm_call {f : FuncId} {args : Array Value} {v : Value} {w : World} {x : Later w} (h : Calls P f args x.out fun e w' => e = .returned v ∧ Below x.out.heap.size x.out w') :
    Calls P f args x.out fun e w'' => e = .returned v ∧ ∃ y : Later x.out, w'' = y.out :=
  h.mono fun _ w' ⟨he, hb⟩ => ⟨he, ⟨w', hb⟩, rfl⟩
end
end Go.Proofs.Ytcgcapfppceggaa.Qt
