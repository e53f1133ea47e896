/-
  A region that draws its order, whose tail is forced but for one copy out of a call's results: the laws for a tail of stores.
  Conditions: stated in each law.
-/
import Derived.Test.YtcgcapfppceggaaQf
namespace Go.Proofs.Ytcgcapfppceggaa.Qt
open Go Go.RowKit
section
variable {P : Program} {ops : Array Oper} {md : Region.Mode} {C : World → Prop}

theorem wpAny_quiet_tail {Q : Exit → Act → World → Prop} {a : Act} {w : World} {l : List Oper} (n : Nat) (hB : Region.lexTailB .any l.toArray n = true)
    (hC : C w)
    (h : wpQuiet P l.toArray C (fun a' => ∀ w', C w' → wpList P l.toArray Q (l.drop n) a' w') (l.take n) a) : wpAny P .any l.toArray Q l.toArray.size (Array.replicate l.toArray.size false) a w := by
  simp only [Region.lexTailB, Bool.and_eq_true, decide_eq_true_eq] at hB
  obtain ⟨⟨⟨⟨hsel, hn⟩, hs⟩, hc⟩, hlex⟩ := hB
  have hn' : n < l.length := by simpa using hn
  have htl : (l.take n).length = n := by simp; omega
  have hdl : (l.drop n).length = l.toArray.size - n := by simp
  have inv0 : HeadInv .any l.toArray n (Array.replicate l.toArray.size false) :=
    ⟨by simp, fun j oj _ hl => (by rw [getD_replicate_false] at hl; cases hl), fun t _ ht => getD_in (by simpa using ht) (getD_replicate_false _ _)⟩
  have H := wpAnyT_lex (C := C) (md := .any) (g := l.toArray.size - n) hsel hs hc hn (l.take n) 0 _ a (fun j hj => by
    have hj' : j < n := by rw [htl] at hj; exact hj
    simp [hj']) (by simpa using htl) inv0 (by rw [htl]; exact hlex) h
  have := wpAny_of_headT (Q' := Q) (g := l.toArray.size - n) (fun listed a' w' hw' hL => by
    have := wpAny_of_seq (md := .any) (Q' := Q) (l.drop n) n listed a' w' (fun j => by simp [List.getElem?_drop]) (by rw [hdl]; exact hL.1) (hL.2 w' hw')
    rwa [hdl] at this) _ _ _ _ hC H
  rw [htl, show n + (l.toArray.size - n) = l.toArray.size by omega] at this
  exact this

theorem wpAny_calm {Q : Exit → Act → World → Prop} {a : Act} {w : World} {l : List Oper} (n N : Nat) (O : Nat → Obj) (listedM : Array Bool) (hN : n ≤ N) (hB : calmB .any l.toArray n N listedM = true)
    (inv : CInv l.toArray n N listedM) (hsame : ∀ j b, (j < n ∨ N ≤ j) → (Array.replicate l.toArray.size false).getD j b = listedM.getD j b)
    (hr : ∀ j o, n ≤ j → j < N → l.toArray[j]? = some o → ∀ (ev : Operand → Value) (w : World), (execOp ev o).run P w = .ok (.value (ptrTo w.heap.size)) (w.alloc (O j)))
    (h : wpCalm P l.toArray w (fun a' => ∀ ps w', (ps.map (·.1)).Perm (List.range' n (N - n)) → Laid w O ps w' → wpList P l.toArray Q (l.drop N) (putAll l.toArray ps a') w') (l.take n) a) : wpAny P .any l.toArray Q l.toArray.size (Array.replicate l.toArray.size false) a { w with drawn := w.drawn + 1 } := by
  simp only [calmB, Bool.and_eq_true, decide_eq_true_eq] at hB
  obtain ⟨⟨⟨⟨hsel, hNs⟩, hs⟩, hlB⟩, hlex⟩ := hB
  have hNl : N < l.length := by simpa using hNs
  have htl : (l.take n).length = n := by simp; omega
  have hdl : (l.drop N).length = l.toArray.size - N := by simp
  have H := wpAnyC_lex (md := .any) (g := l.toArray.size - N) hsel hs hN (l.take n) 0 listedM a (fun j hj => by
    have hj' : j < n := by rw [htl] at hj; exact hj
    simp [hj']) (by simpa using htl) inv (by rw [htl]; exact hlex) h
  have htodo : ∀ j ∈ List.range' n (N - n), (Array.replicate l.toArray.size false).getD j true = false := by
    intro j hj
    rw [List.mem_range'_1] at hj
    have hlt : j < l.toArray.size := by omega
    simp only [Array.getD_eq_getD_getElem?, Array.getElem?_replicate, hlt, if_true, Option.getD_some]
  have hlaid : Laid w O [] { w with drawn := w.drawn + 1 } := ⟨(Below.refl w.heap.size w).drew, (fun x hx => by cases hx), by simp⟩
  have R : Real l.toArray w O n N (Array.replicate l.toArray.size false) listedM { w with drawn := w.drawn + 1 } [] (List.range' n (N - n)) :=
    ⟨by simp, hsame, (fun x hx => by cases hx), htodo, by simp, hlaid⟩
  have := wpAny_of_C (Q' := Q) (g := l.toArray.size - N) (Lq := fun a' => ∀ ps w', (ps.map (·.1)).Perm (List.range' n (N - n)) → Laid w O ps w' → wpList P l.toArray Q (l.drop N) (putAll l.toArray ps a') w') (Region.noSelect_spec hsel) hs hN (Nat.le_of_lt hNs) (lays_of (P := P) hlB hr)
    (fun listed a' w' ps hp hl hsq hLq => by
      have := wpAny_of_seq (md := .any) (Q' := Q) (l.drop N) N listed (putAll l.toArray ps a') w' (fun j => by simp [List.getElem?_drop]) (by rw [hdl]; exact hsq) (hLq ps w' hp hl)
      rwa [hdl] at this) (n + (N - n)) n _ listedM a _ [] (List.range' n (N - n)) (by simp) R inv (by rw [htl] at H; exact H)
  rw [show n + (N - n) + (l.toArray.size - N) = l.toArray.size by omega] at this
  exact this

theorem wpAny_calm1 {Q : Exit → Act → World → Prop} {a : Act} {w : World} {l : List Oper} (n : Nat) (d : Tmp) (c : Array Value) (t : TypeId) (hd : dstAt l.toArray n = some d)
    (hB : calmB .any l.toArray n (n + 1) ((Array.replicate l.toArray.size false).setIfInBounds n true) = true)
    (hr : ∀ o, l.toArray[n]? = some o → ∀ (ev : Operand → Value) (w : World), (execOp ev o).run P w = .ok (.value (.pointer (some ⟨w.heap.size, 0, none⟩))) (w.alloc (.cells c t)))
    (h : ∀ N, Rules w N → wpCalm P l.toArray w (fun a' => ∀ b w', Below w.heap.size w w' → (∀ i, w'.cell? ⟨b, i, none⟩ = c[i]?) → (∀ i, w'.frozen? ⟨b, i, none⟩ = false) → w.heap.size ≤ b → b < w'.heap.size →
      wpList P l.toArray Q (l.drop (n + 1)) (a'.put (some d) (.pointer (some ⟨b, 0, none⟩))) w') (l.take n) a) : wpAny P .any l.toArray Q l.toArray.size (Array.replicate l.toArray.size false) a { w with drawn := w.drawn + 1 } := by
  have hs : n < l.toArray.size := by
    simp only [calmB, Bool.and_eq_true, decide_eq_true_eq] at hB
    have := hB.1.1.1.2
    omega
  obtain ⟨inv, same⟩ := marks1 l.toArray n hs
  refine wpAny_calm n (n + 1) (fun _ => .cells c t) _ (Nat.le_succ _) hB inv same (fun j o h1 h2 ho => hr o (by rw [← ho, show j = n by omega])) ?_
  refine wpCalm_mono (fun a' ha ps w' hp hl => ?_) _ _ (h _ (rules w _ rfl))
  rw [show n + 1 - n = 1 by omega] at hp
  obtain ⟨x, rfl⟩ : ∃ x, ps = [x] := by
    have := hp.length_eq
    match ps, this with
    | [x], _ => exact ⟨x, rfl⟩
  have hx : x.1 = n := by simpa using hp.mem_iff.1 (by simp : x.1 ∈ [x].map (·.1))
  obtain ⟨j, b⟩ := x
  obtain rfl : j = n := hx
  have hb := hl.2.1 (j, b) (by simp)
  obtain ⟨g1, g2, g3⟩ := block_cells hb.1
  have := ha b w' hl.1 g1 g2 hb.2 g3
  rw [← hd] at this
  exact this

theorem wpAny_calm2 {Q : Exit → Act → World → Prop} {a : Act} {w : World} {l : List Oper} (n : Nat) (d d' : Tmp) (c : Array Value) (t : TypeId) (c' : Array Value) (t' : TypeId) (hd1 : dstAt l.toArray n = some d) (hd2 : dstAt l.toArray (n + 1) = some d')
    (hB : (calmB .any l.toArray n (n + 2) (((Array.replicate l.toArray.size false).setIfInBounds n true).setIfInBounds (n + 1) true) && (dstAt l.toArray n != dstAt l.toArray (n + 1))) = true)
    (hr : ∀ o, l.toArray[n]? = some o → ∀ (ev : Operand → Value) (w : World), (execOp ev o).run P w = .ok (.value (.pointer (some ⟨w.heap.size, 0, none⟩))) (w.alloc (.cells c t)))
    (hr' : ∀ o, l.toArray[n + 1]? = some o → ∀ (ev : Operand → Value) (w : World), (execOp ev o).run P w = .ok (.value (.pointer (some ⟨w.heap.size, 0, none⟩))) (w.alloc (.cells c' t')))
    (h : ∀ N, Rules w N → wpCalm P l.toArray w (fun a' => ∀ b b' w', Below w.heap.size w w' → (∀ i, w'.cell? ⟨b, i, none⟩ = c[i]?) → (∀ i, w'.frozen? ⟨b, i, none⟩ = false) → w.heap.size ≤ b → b < w'.heap.size →
      (∀ i, w'.cell? ⟨b', i, none⟩ = c'[i]?) → (∀ i, w'.frozen? ⟨b', i, none⟩ = false) → w.heap.size ≤ b' → b' < w'.heap.size → b ≠ b' →
      wpList P l.toArray Q (l.drop (n + 2)) ((a'.put (some d) (.pointer (some ⟨b, 0, none⟩))).put (some d') (.pointer (some ⟨b', 0, none⟩))) w') (l.take n) a) : wpAny P .any l.toArray Q l.toArray.size (Array.replicate l.toArray.size false) a { w with drawn := w.drawn + 1 } := by
  simp only [Bool.and_eq_true, bne_iff_ne, ne_eq] at hB
  obtain ⟨hB, hd⟩ := hB
  have hs : n + 1 < l.toArray.size := by
    simp only [calmB, Bool.and_eq_true, decide_eq_true_eq] at hB
    have := hB.1.1.1.2
    omega
  obtain ⟨inv, same⟩ := marks2 l.toArray n hs
  refine wpAny_calm n (n + 2) (fun j => if j = n then .cells c t else .cells c' t') _ (by omega) hB inv same (fun j o h1 h2 ho => ?_) ?_
  · by_cases hj : j = n
    · subst hj; rw [if_pos rfl]; exact hr o ho
    · obtain rfl : j = n + 1 := by omega
      rw [if_neg hj]; exact hr' o ho
  refine wpCalm_mono (fun a' ha ps w' hp hl => ?_) _ _ (h _ (rules w _ rfl))
  rw [show n + 2 - n = 2 by omega] at hp
  obtain ⟨x, y, rfl⟩ : ∃ x y, ps = [x, y] := by
    have := hp.length_eq
    match ps, this with
    | [x, y], _ => exact ⟨x, y, rfl⟩
  obtain ⟨j, b⟩ := x
  obtain ⟨j', b'⟩ := y
  have m1 := hp.mem_iff.1 (by simp : j ∈ [(j, b), (j', b')].map (·.1))
  have m2 := hp.mem_iff.1 (by simp : j' ∈ [(j, b), (j', b')].map (·.1))
  have nd := hp.nodup_iff.2 List.nodup_range'
  rw [List.mem_range'_1] at m1 m2
  have hne : j ≠ j' := by simpa using nd
  have hx := hl.2.1 (j, b) (by simp)
  have hy := hl.2.1 (j', b') (by simp)
  have hbb : b ≠ b' := by simpa using hl.2.2
  by_cases hj : j = n
  · subst hj
    obtain rfl : j' = j + 1 := by omega
    simp only [if_true, if_neg (show j + 1 ≠ j by omega)] at hx hy
    obtain ⟨g1, g2, g3⟩ := block_cells hx.1
    obtain ⟨k1, k2, k3⟩ := block_cells hy.1
    have := ha b b' w' hl.1 g1 g2 hx.2 g3 k1 k2 hy.2 k3 hbb
    rw [← hd1, ← hd2] at this
    exact this
  · obtain rfl : j = n + 1 := by omega
    obtain rfl : j' = n := by omega
    simp only [if_true, if_neg hj] at hx hy
    obtain ⟨g1, g2, g3⟩ := block_cells hx.1
    obtain ⟨k1, k2, k3⟩ := block_cells hy.1
    have := ha b' b w' hl.1 k1 k2 hy.2 k3 g1 g2 hx.2 g3 (Ne.symm hbb)
    rw [← hd1, ← hd2] at this
    rw [Act.put_comm a' _ _ (fun d e => by rw [← e]; exact Ne.symm hd)] at this
    exact this

/-- Lists of the same operations, but for what they wait for. -/
inductive Alike (i : Nat) (S : List Nat) : List Oper → List Oper → Prop
  | nil : Alike i S [] []
  | cons (j : Nat) {o : Oper} {m m' : List Oper} : Alike i S m m' → Alike i S (o :: m) (awaitF i S j o :: m')

theorem alike_of {i : Nat} {S : List Nat} : ∀ (m m' : List Oper) (k : Nat), (∀ j, m'[j]? = (m[j]?).map (awaitF i S (k + j))) → Alike i S m m'
  | [], m', k, h => by
    have h0 := h 0
    cases m' with
    | nil => exact .nil
    | cons x t => simp at h0
  | o :: m, m', k, h => by
    have h0 := h 0
    cases m' with
    | nil => simp at h0
    | cons x t =>
      simp only [List.getElem?_cons_zero, Option.map_some, Option.some.injEq, Nat.add_zero] at h0
      rw [h0]
      refine .cons k (alike_of m t (k + 1) fun j => ?_)
      have := h (j + 1)
      simpa [Nat.add_assoc, Nat.add_comm 1 j] using this

def awaitL (i : Nat) (S : List Nat) (l : List Oper) : List Oper := (await i S l.toArray).toList
theorem awaitL_get (i : Nat) (S : List Nat) (l : List Oper) (j : Nat) : (awaitL i S l)[j]? = (l[j]?).map (awaitF i S j) := by
  unfold awaitL
  rw [Array.getElem?_toList, await_get]
  simp
theorem awaitL_arr (i : Nat) (S : List Nat) (l : List Oper) : (awaitL i S l).toArray = await i S l.toArray := by simp [awaitL]
theorem alike_take (i : Nat) (S : List Nat) (l : List Oper) (n : Nat) : Alike i S (l.take n) ((awaitL i S l).take n) :=
  alike_of _ _ 0 fun j => by
    rw [List.getElem?_take, List.getElem?_take, awaitL_get, Nat.zero_add]
    split <;> rfl
theorem alike_drop (i : Nat) (S : List Nat) (l : List Oper) (n : Nat) : Alike i S (l.drop n) ((awaitL i S l).drop n) :=
  alike_of _ _ n fun j => by
    rw [List.getElem?_drop, List.getElem?_drop, awaitL_get]

theorem quietAt_await (i : Nat) (S : List Nat) (j : Nat) (o : Oper) (a : Act) (D : World → Prop) (w : World) (v : Value) : (awaitF i S j o).quietAt P a D w v ↔ o.quietAt P a D w v := by
  unfold Oper.quietAt
  rw [awaitF_exec]
theorem wpQuiet_await {i : Nat} {S : List Nat} {Q Q' : Act → Prop} (hQ : ∀ a, Q a → Q' a) {m m' : List Oper} (h : Alike i S m m') : ∀ a, wpQuiet P ops C Q m a → wpQuiet P (await i S ops) C Q' m' a := by
  induction h with
  | nil => exact hQ
  | cons j _ ih =>
    intro a H
    unfold wpQuiet at H ⊢
    rw [yielded_await, wanted_await]
    split
    · rename_i hw
      rw [if_pos hw] at H
      obtain ⟨v, h1, h2⟩ := H
      exact ⟨v, fun w hw => (quietAt_await ..).2 (h1 w hw), by rw [awaitF_dst]; exact ih _ h2⟩
    · rename_i hw
      rw [if_neg hw] at H
      rw [awaitF_dst]
      exact ih _ H
theorem wpCalm_await {w0 : World} {i : Nat} {S : List Nat} {Q Q' : Act → Prop} (hQ : ∀ a, Q a → Q' a) {m m' : List Oper} (h : Alike i S m m') : ∀ a, wpCalm P ops w0 Q m a → wpCalm P (await i S ops) w0 Q' m' a := by
  induction h with
  | nil => exact hQ
  | cons j _ ih =>
    intro a H
    unfold wpCalm at H ⊢
    rw [yielded_await, wanted_await]
    split
    · rename_i hw
      rw [if_pos hw] at H
      obtain ⟨v, h1, h2⟩ := H
      exact ⟨v, fun w hw => (quietAt_await ..).2 (h1 w hw), by rw [awaitF_dst]; exact ih _ h2⟩
    · rename_i hw
      rw [if_neg hw] at H
      rw [awaitF_dst]
      exact ih _ H
theorem wpList_await {i : Nat} {S : List Nat} {Q : Exit → Act → World → Prop} {m m' : List Oper} (h : Alike i S m m') : ∀ a w, wpList P ops Q m a w → wpList P (await i S ops) Q m' a w := by
  induction h with
  | nil => exact fun _ _ h => h
  | cons j _ ih =>
    intro a w H
    unfold wpList at H ⊢
    rw [yielded_await, wanted_await]
    split
    · rename_i hw
      rw [if_pos hw] at H
      exact H.imp (fun h => (wp_await ..).2 (Oper.wp_mono ih h)) (fun h => ⟨(asks_await ..).2 h.1, h.2⟩)
    · rename_i hw
      rw [if_neg hw] at H
      rw [awaitF_dst]
      exact ih _ _ H

/-- A region of quiet operations with a forced tail, but that operation i may come behind those of S. -/
theorem wp_region_later_tail_await {id : Nat} {Q : Exit → Act → World → Prop} {a : Act} {w : World} {l : List Oper} (n i : Nat) (e : Tmp) (S : List Nat) (hm : P.follows .mixedOrders = true) (hA : awaitB .any l.toArray i S = true) (hB : Region.lexTailB .any (await i S l.toArray) n = true)
    (hd : dstAt l.toArray i = some e) (hQ : ∀ v c a w, Q (.panic c) (Act.put a (some e) v) w → Q (.panic c) a w)
    (h : ∀ N, Rules w N → wpQuiet P l.toArray (fun w' => ∃ x : Later w, w' = x.out) (fun a' => ∀ w', (∃ x : Later w, w' = x.out) → wpList P l.toArray Q (l.drop n) a' w') (l.take n) a) : (Code.region id l.toArray true).wp P Q a w := by
  refine wp_region_any hm (wpAny_await hA hd hQ _ _ _ _ (by simp) ?_)
  have hsz : l.toArray.size = (awaitL i S l).toArray.size := by rw [awaitL_arr, await_size]
  rw [← awaitL_arr] at hB
  rw [← awaitL_arr, hsz]
  refine wpAny_quiet_tail (C := fun w' => ∃ x : Later w, w' = x.out) n hB ⟨⟨w.drew, (Below.refl _ _).drew⟩, rfl⟩ ?_
  rw [awaitL_arr]
  exact wpQuiet_await (fun a' h w' hw' => wpList_await (alike_drop i S l n) _ _ (h w' hw')) (alike_take i S l n) _ (h _ (rules w _ rfl))

theorem dstAt_await (i : Nat) (S : List Nat) (l : List Oper) (n : Nat) : dstAt (awaitL i S l).toArray n = dstAt l.toArray n := by
  unfold dstAt
  rw [awaitL_arr, await_get]
  cases l.toArray[n]? with
  | none => rfl
  | some o => simp only [Option.map_some, Option.bind_some, awaitF_dst]

/-- Two new blocks, and operation i may come behind those of S. -/
theorem wp_region_calm2_await {id : Nat} {Q : Exit → Act → World → Prop} {a : Act} {w : World} {l : List Oper} (n : Nat) (d d' : Tmp) (c : Array Value) (t : TypeId) (c' : Array Value) (t' : TypeId) (i : Nat) (e : Tmp) (S : List Nat) (hd1 : dstAt l.toArray n = some d) (hd2 : dstAt l.toArray (n + 1) = some d') (hm : P.follows .mixedOrders = true)
    (hA : awaitB .any l.toArray i S = true)
    (hB : (calmB .any (await i S l.toArray) n (n + 2) (((Array.replicate l.toArray.size false).setIfInBounds n true).setIfInBounds (n + 1) true) && (dstAt l.toArray n != dstAt l.toArray (n + 1))) = true)
    (hd : dstAt l.toArray i = some e) (hQ : ∀ v c a w, Q (.panic c) (Act.put a (some e) v) w → Q (.panic c) a w)
    (hr : ∀ o, l.toArray[n]? = some o → ∀ (ev : Operand → Value) (w : World), (execOp ev o).run P w = .ok (.value (.pointer (some ⟨w.heap.size, 0, none⟩))) (w.alloc (.cells c t)))
    (hr' : ∀ o, l.toArray[n + 1]? = some o → ∀ (ev : Operand → Value) (w : World), (execOp ev o).run P w = .ok (.value (.pointer (some ⟨w.heap.size, 0, none⟩))) (w.alloc (.cells c' t')))
    (h : ∀ N, Rules w N → wpCalm P l.toArray w (fun a' => ∀ b b' w', Below w.heap.size w w' → (∀ i, w'.cell? ⟨b, i, none⟩ = c[i]?) → (∀ i, w'.frozen? ⟨b, i, none⟩ = false) → w.heap.size ≤ b → b < w'.heap.size →
      (∀ i, w'.cell? ⟨b', i, none⟩ = c'[i]?) → (∀ i, w'.frozen? ⟨b', i, none⟩ = false) → w.heap.size ≤ b' → b' < w'.heap.size → b ≠ b' →
      wpList P l.toArray Q (l.drop (n + 2)) ((a'.put (some d) (.pointer (some ⟨b, 0, none⟩))).put (some d') (.pointer (some ⟨b', 0, none⟩))) w') (l.take n) a) : (Code.region id l.toArray true).wp P Q a w := by
  refine wp_region_any hm (wpAny_await hA hd hQ _ _ _ _ (by simp) ?_)
  have hsz : l.toArray.size = (awaitL i S l).toArray.size := by rw [awaitL_arr, await_size]
  rw [← awaitL_arr, hsz, ← dstAt_await i S l n, ← dstAt_await i S l (n + 1)] at hB
  rw [← awaitL_arr, hsz]
  refine wpAny_calm2 n d d' c t c' t' (by rw [dstAt_await]; exact hd1) (by rw [dstAt_await]; exact hd2) hB (fun o ho ev w => ?_) (fun o ho ev w => ?_) fun N hN => ?_
  · rw [awaitL_arr, await_get] at ho
    obtain ⟨o', ho', rfl⟩ := Option.map_eq_some_iff.1 ho
    rw [awaitF_exec]; exact hr o' ho' ev w
  · rw [awaitL_arr, await_get] at ho
    obtain ⟨o', ho', rfl⟩ := Option.map_eq_some_iff.1 ho
    rw [awaitF_exec]; exact hr' o' ho' ev w
  · rw [awaitL_arr]
    exact wpCalm_await (fun a' h b b' w' h1 h2 h3 h4 h5 h6 h7 h8 h9 h10 => wpList_await (alike_drop i S l (n + 2)) _ _ (h b b' w' h1 h2 h3 h4 h5 h6 h7 h8 h9 h10)) (alike_take i S l n) _ (h N hN)
end
end Go.Proofs.Ytcgcapfppceggaa.Qt
