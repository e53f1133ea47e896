/-
  The law for a region that draws its order and whose operations are quiet in the later worlds, at the fence that asks nothing (outside a round).
  Conditions: stated in the law.
-/
import Derived.Test.YtcgcapfppceggaaQh
import Derived.Test.YtcgcapfppceggaaQg
namespace Go.Proofs.Ytcgcapfppceggaa.Qn
open Go Go.RowKit Go.Proofs.Ytcgcapfppceggaa.Qt
set_option linter.unusedVariables false
section
variable {P : Program} {ops : Array Oper} {md : Region.Mode}
theorem operW_of {Q : Exit → Act → World → Prop} {n : Nat} {o : Oper} {a : Act} {w : World} {K K' : Act → World → Prop} (hd : ∀ c, o.op ≠ .defer c) (hQ : ¬ LetsOut Q) (hK : ∀ a w, K a w → K' a w)
    (h : o.wp P a w K Q ∨ (o.asks P a w ∧ LetsOut Q)) : o.wpIn Fence.wide n P a w K' Q := by
  rcases h with h | h
  · refine ⟨fun _ _ => trivial, ?_⟩
    rw [Oper.semAt_eq _ _ _ hd]
    unfold Oper.wp at h
    generalize (execOp a.eval o).run P w = r at *
    cases r with
    | ok m w' =>
      cases m <;> simp only [Oper.upon] at h <;> simp only [Oper.uponIn]
      case value v => exact hK _ _ h
      case skip => exact hK _ _ h
      case defer d => exact hK _ _ h
      case enter f args =>
        refine ⟨(fun hh => by cases hh), (callsIn_wide.2 h).mono fun e w'' he => ?_⟩
        cases e with
        | returned v => exact hK _ _ he
        | panicked c => exact he
        | outgrown => exact he
      case row row args =>
        refine ⟨(fun hh => by cases hh), fun c cs _ => ?_⟩
        obtain ⟨v, w'', hv, hs⟩ := h c cs
        exact ⟨v, w'', hK _ _ hv, stepsIn_wide.2 hs⟩
    | halt x w' =>
      cases x <;> simp only [Oper.upon] at h <;> simp only [Oper.uponIn]
      case panic v => exact h
  · exact absurd h.2 hQ
theorem wpOpW_of {Q : Exit → Act → World → Prop} {n i : Nat} {a : Act} {w : World} {K K' : Act → World → Prop} (hd : noDefer ops = true) (hQ : ¬ LetsOut Q) (hK : ∀ a w, K a w → K' a w)
    (h : wpOp P ops Q i K a w) : wpOpIn Fence.wide n P ops Q i K' a w := by
  unfold wpOp at h
  unfold wpOpIn
  cases ho : ops[i]? with
  | none => simp only [ho] at h; exact hK _ _ h
  | some o =>
    simp only [ho] at h
    simp only
    split
    · rename_i hw
      rw [if_pos hw] at h
      exact operW_of (noDefer_spec hd ho) hQ hK h
    · rename_i hw
      rw [if_neg hw] at h
      exact ⟨fun _ _ => trivial, hK _ _ h⟩
theorem wpAnyW_of {Q : Exit → Act → World → Prop} {n : Nat} (hd : noDefer ops = true) (hQ : ¬ LetsOut Q) :
    ∀ (f : Nat) (listed : Array Bool) (a : Act) (w : World), wpAny P md ops Q f listed a w → wpAnyIn Fence.wide n P md ops Q f listed a w
  | 0, _, _, _, h => h
  | f + 1, listed, a, w, h => ⟨h.1, fun i hi => wpOpW_of hd hQ (fun a' w' h' => wpAnyW_of hd hQ f _ a' w' h') (h.2 i hi)⟩
theorem wpIn_region_later_tail {id n : Nat} {Q : Exit → Act → World → Prop} {a : Act} {w : World} {l : List Oper} (k : Nat) (hm : P.follows .mixedOrders = true) (hB : Region.lexTailB .any l.toArray k = true) (hd : noDefer l.toArray = true)
    (h : ∀ N, Rules w N → wpQuiet P l.toArray (fun w' => ∃ x : Later w, w' = x.out) (fun a' => ∀ w', (∃ x : Later w, w' = x.out) → wpList P l.toArray (Calmly Q) (l.drop k) a' w') (l.take k) a) :
    (Code.region id l.toArray true).wpIn Fence.wide n P Q a w :=
  wpIn_mono (wpIn_region_any hm (wpAnyW_of hd Calmly.stays _ _ _ _ (wpAny_quiet_tail (C := fun w' => ∃ x : Later w, w' = x.out) k hB ⟨⟨w.drew, (Below.refl _ _).drew⟩, rfl⟩ (h _ (rules w _ rfl))))) Calmly.imp
theorem calmly_normal {Q : Exit → Act → World → Prop} {a : Act} {w : World} (h : Q .normal a w) : Calmly Q .normal a w := h
end
end Go.Proofs.Ytcgcapfppceggaa.Qn
