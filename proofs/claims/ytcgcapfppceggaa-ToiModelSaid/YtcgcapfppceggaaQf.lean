/-
  A region that draws its order, in which one copy out of a call's results may come behind a store: to let it come first loses nothing; then the laws for a forced tail serve.
  Conditions: stated in each law.
-/
import Derived.Test.YtcgcapfppceggaaQe
namespace Go.Proofs.Ytcgcapfppceggaa.Qt
open Go Go.RowKit
section
variable {P : Program} {md : Region.Mode}

/-- The same operation, with one thing more to wait for. -/
def awaitO (i : Nat) (o : Oper) : Oper := { o with after := o.after.push ⟨i, .data⟩ }
def awaitF (i : Nat) (S : List Nat) (j : Nat) (o : Oper) : Oper := if S.contains j then awaitO i o else o
def await (i : Nat) (S : List Nat) (ops : Array Oper) : Array Oper := ops.mapIdx (awaitF i S)

theorem await_get (i : Nat) (S : List Nat) (ops : Array Oper) (j : Nat) : (await i S ops)[j]? = (ops[j]?).map (awaitF i S j) := by
  simp [await, Array.getElem?_mapIdx]
theorem await_size (i : Nat) (S : List Nat) (ops : Array Oper) : (await i S ops).size = ops.size := by simp [await]
theorem awaitF_dst (i : Nat) (S : List Nat) (j : Nat) (o : Oper) : (awaitF i S j o).dst = o.dst := by unfold awaitF; split <;> rfl
theorem awaitF_guard (i : Nat) (S : List Nat) (j : Nat) (o : Oper) : (awaitF i S j o).guard = o.guard := by unfold awaitF; split <;> rfl
theorem awaitF_op (i : Nat) (S : List Nat) (j : Nat) (o : Oper) : (awaitF i S j o).op = o.op := by unfold awaitF; split <;> rfl
theorem awaitF_exec (i : Nat) (S : List Nat) (j : Nat) (o : Oper) (ev : Operand → Value) : execOp ev (awaitF i S j o) = execOp ev o := by
  unfold awaitF
  split
  · cases o; rfl
  · rfl
theorem yielded_await (i : Nat) (S : List Nat) (ops : Array Oper) (tmps : Array Value) : yielded (await i S ops) tmps = yielded ops tmps := by
  funext j
  unfold yielded
  rw [await_get]
  cases ops[j]? with
  | none => rfl
  | some o => simp only [Option.map_some, Option.bind_some, awaitF_dst]
theorem wanted_await (i : Nat) (S : List Nat) (j : Nat) (o : Oper) (y : Nat → Option Bool) : Region.wanted (awaitF i S j o) y = Region.wanted o y := by
  unfold Region.wanted
  rw [awaitF_guard]
theorem asks_await (i : Nat) (S : List Nat) (j : Nat) (o : Oper) (a : Act) (w : World) : (awaitF i S j o).asks P a w ↔ o.asks P a w := by
  unfold Oper.asks
  rw [awaitF_exec]
theorem wp_await (i : Nat) (S : List Nat) (j : Nat) (o : Oper) (a : Act) (w : World) (K : Act → World → Prop) (Q : Exit → Act → World → Prop) : (awaitF i S j o).wp P a w K Q ↔ o.wp P a w K Q := by
  unfold Oper.wp
  rw [awaitF_exec]
  generalize (execOp a.eval o).run P w = r
  cases r with
  | ok n w' => cases n <;> simp only [Oper.upon, awaitF_dst]
  | halt x w' => cases x <;> simp only [Oper.upon]
theorem wpOp_await (i : Nat) (S : List Nat) (ops : Array Oper) (Q : Exit → Act → World → Prop) (j : Nat) (K : Act → World → Prop) (a : Act) (w : World) : wpOp P (await i S ops) Q j K a w ↔ wpOp P ops Q j K a w := by
  unfold wpOp
  rw [await_get, yielded_await]
  cases ops[j]? with
  | none => exact Iff.rfl
  | some o => simp only [Option.map_some, wanted_await, wp_await, asks_await, awaitF_dst]

theorem ready_await {i : Nat} {S : List Nat} {ops : Array Oper} {listed : Array Bool} {j : Nat} : j ∈ Region.ready md (await i S ops) listed ↔ j ∈ Region.ready md ops listed ∧ (S.contains j = true → listed.getD i false = true) := by
  rw [mem_ready, mem_ready, await_get]
  constructor
  · rintro ⟨h0, o, ho, hall⟩
    obtain ⟨o', ho', rfl⟩ := Option.map_eq_some_iff.1 ho
    refine ⟨⟨h0, o', ho', fun e he hb => hall e ?_ hb⟩, fun hc => ?_⟩
    · unfold awaitF awaitO
      split
      · simp [he]
      · exact he
    · refine hall ⟨i, .data⟩ ?_ rfl
      unfold awaitF
      rw [if_pos hc]
      simp [awaitO]
  · rintro ⟨⟨h0, o, ho, hall⟩, hS⟩
    refine ⟨h0, _, by rw [ho]; rfl, fun e he hb => ?_⟩
    unfold awaitF awaitO at he
    split at he
    · rename_i hc
      simp only [Array.mem_push] at he
      rcases he with he | rfl
      · exact hall e he hb
      · exact hS hc
    · exact hall e he hb

/-- A copy out of a call's results. -/
def Op.extracts : Op → Bool
  | .extract .. => true
  | _ => false
theorem yields_extract {ops : Array Oper} {Q : Exit → Act → World → Prop} {o : Oper} (he : Op.extracts o.op = true) {i : Nat} (hi : ops[i]? = some o) {K : Act → World → Prop} {a : Act} {w : World} (h : wpOp P ops Q i K a w) :
    ∃ v, Yields P ops o v a ∧ K (a.put o.dst v) w := by
  unfold wpOp at h
  simp only [hi] at h
  by_cases hw : Region.wanted o (yielded ops a.tmps) = true
  · rw [if_pos hw] at h
    obtain ⟨dst, op, type, pos, after, guard⟩ := o
    cases op <;> simp only [Op.extracts, Bool.false_eq_true] at he
    rename_i x k
    cases hx : a.eval x with
    | tuple vs =>
      cases hk : vs[k]? with
      | some v =>
        have hrun : ∀ w, (execOp a.eval ⟨dst, .extract x k, type, pos, after, guard⟩).run P w = .ok (.value v) w := fun w => by
          simp only [execOp, Instr.extract, hx, hk]
          rfl
        refine ⟨v, .inl ⟨hw, hrun⟩, ?_⟩
        rcases h with h | ⟨h, _⟩
        · unfold Oper.wp at h
          rw [hrun] at h
          exact h
        · exfalso
          have h1 := h.1
          simp only [execOp, Instr.extract, hx, hk] at h1
          exact absurd (show noRoomEvent ∈ (#[] : Array Event) from h1) (by simp)
      | none =>
        exfalso
        rcases h with h | ⟨h, _⟩
        · unfold Oper.wp at h
          simp only [execOp, Instr.extract, hx, hk] at h
          exact h
        · have h1 := h.1
          simp only [execOp, Instr.extract, hx, hk] at h1
          exact absurd (show noRoomEvent ∈ (#[] : Array Event) from h1) (by simp)
    | _ =>
      exfalso
      rcases h with h | ⟨h, _⟩
      · unfold Oper.wp at h
        simp only [execOp, Instr.extract, hx] at h
        exact h
      · have h1 := h.1
        simp only [execOp, Instr.extract, hx] at h1
        exact absurd (show noRoomEvent ∈ (#[] : Array Event) from h1) (by simp)
  · rw [if_neg hw] at h
    exact ⟨undef, .inr ⟨by simpa using hw, rfl⟩, h⟩

def awaitB (md : Region.Mode) (ops : Array Oper) (i : Nat) (S : List Nat) : Bool :=
  match ops[i]? with
  | none => false
  | some oi => Op.extracts oi.op && !S.contains i && Region.noSelect ops &&
    ((List.range ops.size).all fun j => j == i || Region.waitsFor md ops i j || Region.waitsFor md ops j i || match ops[j]? with | some oj => oi.apart ops oj | none => true) &&
    (S.all fun j => match ops[j]? with | some _ => oi.after.all fun e => !Region.binds md e || Region.waitsFor md ops j e.on | none => true)

theorem wpAny_await {ops : Array Oper} {Q : Exit → Act → World → Prop} {i : Nat} {S : List Nat} (hB : awaitB md ops i S = true) {e : Tmp} (hd : dstAt ops i = some e) (hQ : ∀ v c a w, Q (.panic c) (Act.put a (some e) v) w → Q (.panic c) a w) :
    ∀ (f : Nat) (listed : Array Bool) (a : Act) (w : World), listed.size = ops.size → wpAny P md (await i S ops) Q f listed a w → wpAny P md ops Q f listed a w := by
  unfold awaitB at hB
  split at hB
  · cases hB
  rename_i oi hi
  simp only [Bool.and_eq_true] at hB
  obtain ⟨⟨⟨⟨hext, hiS⟩, hsel⟩, hap⟩, hdeps⟩ := hB
  have hde : oi.dst = some e := by unfold dstAt at hd; rw [hi] at hd; simpa using hd
  have hiS' : ¬ S.contains i = true := by simpa using hiS
  have hilt : i < ops.size := (Array.getElem?_eq_some_iff.1 hi).1
  -- if something that waits for i alone may come, i may come
  have key : ∀ listed : Array Bool, listed.size = ops.size → ∀ j, j ∈ Region.ready md ops listed → j ∉ Region.ready md (await i S ops) listed → i ∈ Region.ready md ops listed := by
    intro listed hsz j hj hn
    rw [ready_await] at hn
    have hjS : S.contains j = true ∧ ¬ listed.getD i false = true := by
      by_cases h1 : S.contains j = true
      · by_cases h2 : listed.getD i false = true
        · exact absurd ⟨hj, fun _ => h2⟩ hn
        · exact ⟨h1, h2⟩
      · exact absurd ⟨hj, fun h => absurd h h1⟩ hn
    obtain ⟨_, oj, hoj, hall⟩ := mem_ready.1 hj
    refine mem_ready.2 ⟨getD_in (by omega) (by simpa using hjS.2), oi, hi, fun e he hb => ?_⟩
    have h1 := List.all_eq_true.1 hdeps j (by simpa using hjS.1)
    simp only [hoj] at h1
    have h2 := Array.all_eq_true_iff_forall_mem.1 h1 e he
    simp only [hb, Bool.not_true, Bool.false_or] at h2
    obtain ⟨o', ho', e', he', hb', hon⟩ := Region.waitsFor_spec h2
    have : o' = oj := Option.some.inj (ho'.symm.trans hoj)
    subst this
    rw [← hon]
    exact hall e' he' hb'
  have isub : ∀ listed : Array Bool, i ∈ Region.ready md ops listed → i ∈ Region.ready md (await i S ops) listed := fun listed h => ready_await.2 ⟨h, fun h => absurd h hiS'⟩
  intro f
  induction f with
  | zero =>
    intro listed a w hsz H
    refine ⟨?_, H.2⟩
    cases hr : Region.ready md ops listed with
    | nil => rfl
    | cons j t =>
      exfalso
      have hj : j ∈ Region.ready md ops listed := by rw [hr]; simp
      have h1 : Region.ready md (await i S ops) listed = [] := H.1
      have := isub listed (key listed hsz j hj (by rw [h1]; simp))
      rw [h1] at this
      cases this
  | succ f ih =>
    intro listed a w hsz H
    by_cases hr : i ∈ Region.ready md ops listed
    · have h1 := (wpOp_await i S ops Q i _ a w).1 (H.2 i (isub listed hr))
      obtain ⟨v, hy, h2⟩ := yields_extract hext hi h1
      refine wpAny_first hi (Region.noSelect_spec hsel) (by rw [hde]; exact hQ v) f listed a w (fun j oj hj hne hun hno => ?_) hr hy (ih _ _ _ (by simp [hsz]) h2)
      have h3 := List.all_eq_true.1 hap j (List.mem_range.2 (Array.getElem?_eq_some_iff.1 hj).1)
      simp only [hj, Bool.or_eq_true, beq_iff_eq, hne, false_or] at h3
      rcases h3 with (h3 | h3) | h3
      · exfalso
        obtain ⟨o', ho', e, he, hb, hon⟩ := Region.waitsFor_spec h3
        have : o' = oi := Option.some.inj (ho'.symm.trans hi)
        subst this
        obtain ⟨_, o2, ho2, hall⟩ := mem_ready.1 hr
        have : o2 = o' := Option.some.inj (ho2.symm.trans hi)
        subst this
        have h4 := hall e he hb
        rw [hon, getD_both hun] at h4
        cases h4
      · exfalso
        obtain ⟨o', ho', e, he, hb, hon⟩ := Region.waitsFor_spec h3
        have : o' = oj := Option.some.inj (ho'.symm.trans hj)
        subst this
        exact hno e he hb hon
      · exact h3
    · have hsame : ∀ j, j ∈ Region.ready md ops listed → j ∈ Region.ready md (await i S ops) listed := fun j hj => Classical.byContradiction fun hn => hr (key listed hsz j hj hn)
      refine ⟨fun h0 => H.1 ?_, fun j hj => wpOp_mono (fun a' w' h => ih _ a' w' (by simp [hsz]) h) ((wpOp_await i S ops Q j _ a w).1 (H.2 j (hsame j hj)))⟩
      cases hr' : Region.ready md (await i S ops) listed with
      | nil => rfl
      | cons j t =>
        have : j ∈ Region.ready md ops listed := (ready_await.1 (by rw [hr']; simp : j ∈ Region.ready md (await i S ops) listed)).1
        rw [h0] at this
        cases this
end
end Go.Proofs.Ytcgcapfppceggaa.Qt
