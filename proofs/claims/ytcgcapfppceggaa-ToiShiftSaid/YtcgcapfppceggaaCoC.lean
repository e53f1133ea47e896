/-
  Contracts of slices.AppendSeq, slices.Collect and Axes: the axes of two shapes in a new slice.
  Conditions: stated in each contract.
-/
import Derived.Test.YtcgcapfppceggaaCoB
import Derived.RangeFuncBox
import Derived.Maps.AppendAt
namespace Go.Proofs.Ytcgcapfppceggaa.Co
open Go.RowKit Go.Proofs.Ytcgcapfppceggaa.FxMath Go.Proofs.Ytcgcapfppceggaa.FxA Go.Proofs.Ytcgcapfppceggaa.Qt Go.Proofs.Ytcgcapfppceggaa.Ve Go.Proofs.Ytcgcapfppceggaa.Sh Go.Shelf
set_option linter.unusedVariables false
set_option linter.unusedSimpArgs false
attribute [local go_sem] Oper.semAt_some
/-- A closure of the axes of two shapes. -/
structure AxCl (w : World) (za zb : List (Int × Int)) (dx dy : Int) (Ba Bb Bq Bp : Nat) : Prop where
  ex : ∃ (ra : Int) (aa : Option Addr) (la ca : Nat) (rb : Int) (ab : Option Addr) (lb cb : Nat) (px py qx qy : Int),
    ShAt w ra aa la ca za ∧ ShAt w rb ab lb cb zb ∧ (-10000000 ≤ px ∧ px ≤ 10000000 ∧ -10000000 ≤ py ∧ py ≤ 10000000) ∧ (-10000000 ≤ qx ∧ qx ≤ 10000000 ∧ -10000000 ≤ qy ∧ qy ≤ 10000000) ∧ dx = qx - px ∧ dy = qy - py ∧
    w.cell? ⟨Ba, 0, none⟩ = some (.int .i64 ra) ∧ w.cell? ⟨Ba, 1, none⟩ = some (.slice aa la ca) ∧ w.cell? ⟨Bb, 0, none⟩ = some (.int .i64 rb) ∧ w.cell? ⟨Bb, 1, none⟩ = some (.slice ab lb cb) ∧
    w.cell? ⟨Bq, 0, none⟩ = some (.int .i64 qx) ∧ w.cell? ⟨Bq, 1, none⟩ = some (.int .i64 qy) ∧ w.cell? ⟨Bp, 0, none⟩ = some (.int .i64 px) ∧ w.cell? ⟨Bp, 1, none⟩ = some (.int .i64 py)
theorem AxCl.later {w W : World} {za zb : List (Int × Int)} {dx dy : Int} {Ba Bb Bq Bp : Nat} (h : AxCl w za zb dx dy Ba Bb Bq Bp) (hb : Below w.heap.size w W) : AxCl W za zb dx dy Ba Bb Bq Bp := by
  obtain ⟨ra, aa, la, ca, rb, ab, lb, cb, px, py, qx, qy, h1, h2, h3, h4, h5, h6, c1, c2, c3, c4, c5, c6, c7, c8⟩ := h.ex
  exact ⟨ra, aa, la, ca, rb, ab, lb, cb, px, py, qx, qy, h1.later hb, h2.later hb, h3, h4, h5, h6, cell_below hb c1, cell_below hb c2, cell_below hb c3, cell_below hb c4, cell_below hb c5, cell_below hb c6, cell_below hb c7, cell_below hb c8⟩
abbrev axPtrs (Ba Bb Bq Bp : Nat) : Array Value := #[.pointer (some ⟨Ba, 0, none⟩), .pointer (some ⟨Bb, 0, none⟩), .pointer (some ⟨Bq, 0, none⟩), .pointer (some ⟨Bp, 0, none⟩)]
theorem AxCl.stops {w : World} {za zb : List (Int × Int)} {dx dy : Int} {Ba Bb Bq Bp : Nat} (h : AxCl w za zb dx dy Ba Bb Bq Bp) (n : Nat) (hn : 1 ≤ n) :
    SeqStopsK Fence.wide n Try.prog 78 (axPtrs Ba Bb Bq Bp) encA (Below w.heap.size) (fun ys => ys = axsS za zb dx dy) (fun pre => pre <+: axsS za zb dx dy) (axsS za zb dx dy).length w := by
  intro l J Jx W hW hJ _ hY h0
  obtain ⟨ra, aa, la, ca, rb, ab, lb, cb, px, py, qx, qy, h1, h2, h3, h4, h5, h6, c1, c2, c3, c4, c5, c6, c7, c8⟩ := h.ex
  exact axes1_in n hn ra aa la ca za rb ab lb cb zb px py qx qy dx dy Ba Bb Bq Bp h3 h4 h5 h6 (fun V => Below w.heap.size w V) (Below w.heap.size)
    (fun V hV => ⟨h1.later hV, h2.later hV, cell_below hV c1, cell_below hV c2, cell_below hV c3, cell_below hV c4, cell_below hV c5, cell_below hV c6, cell_below hV c7, cell_below hV c8⟩) (fun _ _ hV hb => hV.trans (hb.mono hV.size)) (fun _ _ hV hb => hV.trans hb) _ (Nat.le_refl _) l J Jx _ hJ hY W hW h0
theorem AxCl.len {w : World} {za zb : List (Int × Int)} {dx dy : Int} {Ba Bb Bq Bp : Nat} (h : AxCl w za zb dx dy Ba Bb Bq Bp) : (axsS za zb dx dy).length ≤ 13 := by
  obtain ⟨ra, aa, la, ca, rb, ab, lb, cb, px, py, qx, qy, h1, h2, _⟩ := h.ex
  have e1 := h1.poly.len
  have e2 := h2.poly.len
  have b1 : la ≤ 6 := by rcases h1.kind with ⟨h, _⟩ | ⟨_, _, h, _⟩ <;> omega
  have b2 : lb ≤ 6 := by rcases h2.kind with ⟨h, _⟩ | ⟨_, _, h, _⟩ <;> omega
  have b3 : (caxS za zb dx dy).length ≤ 1 := by unfold caxS; split <;> split <;> simp
  unfold axsS eaxS
  rw [List.length_append, List.length_append, upto_length, upto_length]
  omega
/-- The cells of a row of axes. -/
def axRow (l : List Axs) : List Value := flat (l.map (·.1))
theorem axRow_snoc (l : List Axs) (x : Axs) : axRow (l ++ [x]) = axRow l ++ [.int .i64 x.1.1, .int .i64 x.1.2] := by
  unfold axRow
  rw [List.map_append, flat_append]
  rfl
set_option maxRecDepth 100000 in
set_option maxHeartbeats 4000000 in
theorem appendSeq_any {w : World} {za zb : List (Int × Int)} {dx dy : Int} {Ba Bb Bq Bp : Nat} (h : AxCl w za zb dx dy Ba Bb Bq Bp) :
    Calls Try.prog 83 #[.slice none 0 0, .func (.func 78) #[] (axPtrs Ba Bb Bq Bp)] w fun e w' => ∃ v, e = .returned v ∧ w'.ownsRow w.heap.size 29 2 v (axsS za zb dx dy).length (axRow (axsS za zb dx dy)) ∧ Below w.heap.size w w' := by
  have hlen := h.len
  obtain ⟨i0, hii, hz0, hz1, hz2⟩ := info_parts Try.infoV
  refine (callsIn_wide (n := 6)).1 ?_
  refine callsIn_of_wp_marks Try.func83 rfl trivial ?_ rfl
  simp only [Try.ntmps83, List.size_toArray, List.length_cons, List.length_nil, Nat.reduceAdd, Nat.reduceSub, Array.replicate_succ, Array.replicate_zero, List.push_toArray, List.append_toArray, List.nil_append, List.cons_append]
  gi_wp2
  obtain ⟨W0, hW0⟩ : ∃ W0, W0 = w.alloc (.cells #[.slice none 0 0] 23) := ⟨_, rfl⟩
  rw [← hW0]
  have hs0 : W0.heap.size = w.heap.size + 1 := by rw [hW0]; simp
  have hB0 : Below w.heap.size w W0 := by rw [hW0]; (repeat (first | (with_reducible exact Below.refl _ _) | (with_reducible refine Below.drew ?_) | (with_reducible refine below_drewN ?_ _) | (with_reducible refine Below.setCell ?_ (by first | (simp; done) | (simp; omega) | omega) _) | (with_reducible refine Below.alloc ?_ (by first | (simp; done) | (simp; omega) | omega) _) | (with_reducible refine Below.trans ?_ (Below.mono (by assumption) (by first | (simp; done) | (simp; omega) | omega))) | (with_reducible refine Below.trans ?_ (Below.mono (Later.below _) (by first | (simp; done) | (simp; omega) | omega)))))
  have bx0 : Boxed W0 w.heap.size 23 (.slice none 0 0) := by rw [hW0]; exact Boxed.new w _ _
  clear hW0
  refine wpIn_rangeFunc_ownH rfl (by decide) (gf := 78) (lb := axPtrs Ba Bb Bq Bp) rfl trivial (enters_of Try.func78 (by kernel_rfl) rfl)
    (h.stops 5 (by decide)) belowK_t (belowK_b (by omega)) hB0 (fun _ => rfl)
    (fun pre W => (∃ v, Boxed W w.heap.size 23 v ∧ W.ownsRow w.heap.size 29 2 v pre.length (axRow pre) ∧ True) ∧ Below w.heap.size w W)
    (fun _ _ _ => False)
    (OwnFrom.and (Own.from (holdsRow_own w.heap.size w.heap.size 23 29 2 (fun pre : List Axs => pre.length) axRow (fun _ _ => True)) _) (ownFrom_below (Nat.le_refl _) (by omega)))
    (fun _ _ _ _ _ hs _ _ => hs)
    ⟨⟨_, bx0, World.ownsRow_nil _ _ _ _, trivial⟩, hB0⟩
    (fun x a' W => ∃ Bx, w.heap.size < Bx ∧ W.heap[Bx]? = some (.cells #[.int .i64 x.1.1, .int .i64 x.1.2] 29 (0, 0)) ∧ a' = { tmps := #[.slice none 0 0, .func (.func 78) #[] (axPtrs Ba Bb Bq Bp), .pointer (some ⟨w.heap.size, 0, none⟩), undef, .slice none 0 0, .pointer (some ⟨Bx, 0, none⟩), .func (.func 78) #[] (axPtrs Ba Bb Bq Bp), .agg #[.int .i64 x.1.1, .int .i64 x.1.2], undef, undef, undef, undef, undef], defers := [] })
    (fun x a' _ X Y row hs hg hr => by
      obtain ⟨Bx, h1, h2, h3⟩ := hs
      refine ⟨Bx, h1, (hg.block Bx (Array.getElem?_eq_some_iff.1 h2).1 (fun e => ?_)).trans h2, h3⟩
      obtain ⟨_, o, ho, hc⟩ := hr Bx e.symm
      rw [h2] at ho
      cases ho
      cases hc)
    ?assign ?body ?done ?stop
  case assign =>
    rintro l pre x W K ⟨⟨v, bv, hr, _⟩, hB⟩ hK
    dsimp only [encA] at *
    gi_wp2
    exact hK _ _ ((KeepsOthers.alloc _ _).from _) ((Below.refl _ W).alloc hB.size _) ⟨⟨v, bv.alloc _, hr.alloc _, trivial⟩, hB.alloc hB.size _⟩ ⟨W.heap.size, bv.lt, World.alloc_heap_new W _, rfl⟩
  case body =>
    rintro l pre x a' W hl ⟨r, hr⟩ ⟨⟨v, bv, hrow, _⟩, hB⟩ ⟨Bx, hBx, bX, rfl⟩ hlt
    have cv := bv.cell
    have x0 : W.cell? ⟨Bx, 0, none⟩ = some (.int .i64 x.1.1) := by simp [World.cell?, bX]
    have x1 : W.cell? ⟨Bx, 1, none⟩ = some (.int .i64 x.1.2) := by simp [World.cell?, bX]
    have hBxl : Bx < W.heap.size := (Array.getElem?_eq_some_iff.1 bX).1
    have hbl := bv.lt
    have hws := hB.size
    have hpl : pre.length < 13 := by omega
    gi_wp2_with (gi_at_builtin; refine wpListIn_append_own _ rfl _ _ 23 rfl w.heap.size 29 i0 (.agg #[.int .i64 0, .int .i64 0]) 2 16 Try.underlying23 hii hz0 hz1 hz2 (by simp [Value.cells]) (by decide) v pre.length (axRow pre) rfl (hrow.alloc _) ⟨W.heap.size, 0, none⟩ 1 1 [.int .i64 x.1.1, .int .i64 x.1.2] rfl rfl (new2 _ _ _ _) (by simp [Value.oneCell']) (by unfold maxLen; omega) (by omega) (by simp; omega) ?_; intro v' w1 hown1 hgrow1 _; obtain ⟨g', cap', rfl⟩ := ownsRow_succ hown1; obtain ⟨hv1, hv2, hr2, hk2, hb2⟩ := bv.appended (by decide) hrow hws (Nat.le_refl _) hown1 hgrow1; have hc1 := hv1.cell; have hf1 := hv1.frozen)
    exact ⟨hk2.from _, hb2, ⟨_, hv2, by rw [axRow_snoc, List.length_append]; exact hr2, trivial⟩, hB.trans hb2⟩
  case done =>
    rintro D ys W hD rfl ⟨⟨v, bv, hrow, _⟩, hB⟩ hK
    have cv := bv.cell
    gi_wp2
    refine ⟨by simp, .inl ⟨_, _, rfl, run_takeDeferred hK, ?_⟩⟩
    exact ⟨v, by simp [results, Try.f83, go_sem], ⟨v, rfl, ownsRow_putObj hrow _ hK rfl, hB.trans (belowK_b (w := w) (Nat.le_refl _) W D _ _ (by omega) hK rfl rfl)⟩⟩
  case stop =>
    rintro D c pre W hD _ h hK
    exact h.elim
theorem collect_any {w : World} {za zb : List (Int × Int)} {dx dy : Int} {Ba Bb Bq Bp : Nat} (h : AxCl w za zb dx dy Ba Bb Bq Bp) :
    Calls Try.prog 55 #[.func (.func 78) #[] (axPtrs Ba Bb Bq Bp)] w fun e w' => ∃ v, e = .returned v ∧ w'.ownsRow w.heap.size 29 2 v (axsS za zb dx dy).length (axRow (axsS za zb dx dy)) ∧ Below w.heap.size w w' := by
  have c := appendSeq_any h
  have Hc := Lib.hid c; clear c
  go_enter Try.func55, Try.ntmps55
  go_wp2_with (first | ((with_reducible refine (Hc.out).mono ?_); rintro e w1 ⟨v, rfl, hr, hb⟩; have Hr := Lib.hid hr; clear hr))
  go_ret
  exact ⟨v, rfl, Hr.out, hb⟩
theorem ownsRow_base {w : World} {base base' : Nat} {e : TypeId} {size : Nat} {v : Value} {n : Nat} {xs : List Value} (h : w.ownsRow base e size v n xs) (hb : base' ≤ base) : w.ownsRow base' e size v n xs := by
  obtain ⟨h0, h | ⟨g, cap, cur, hv, hg, hh, hnc, hcm, hcs, ht⟩⟩ := h
  · exact ⟨h0, .inl h⟩
  · exact ⟨h0, .inr ⟨g, cap, cur, hv, by omega, hh, hnc, hcm, hcs, ht⟩⟩
theorem boxes_axcl {w : World} {ra : Int} {aa : Option Addr} {la ca : Nat} {za : List (Int × Int)} {rb : Int} {ab : Option Addr} {lb cb : Nat} {zb : List (Int × Int)} {px py qx qy : Int}
    (hA : ShAt w ra aa la ca za) (hB : ShAt w rb ab lb cb zb) (hp : -10000000 ≤ px ∧ px ≤ 10000000 ∧ -10000000 ≤ py ∧ py ≤ 10000000) (hq : -10000000 ≤ qx ∧ qx ≤ 10000000 ∧ -10000000 ≤ qy ∧ qy ≤ 10000000) :
    AxCl ((((w.alloc (.cells #[.int .i64 ra, .slice aa la ca] 25)).alloc (.cells #[.int .i64 px, .int .i64 py] 29)).alloc (.cells #[.int .i64 rb, .slice ab lb cb] 25)).alloc (.cells #[.int .i64 qx, .int .i64 qy] 29)) za zb (qx - px) (qy - py)
      w.heap.size (w.heap.size + 1 + 1) (w.heap.size + 1 + 1 + 1) (w.heap.size + 1) := by
  have hb : Below w.heap.size w ((((w.alloc (.cells #[.int .i64 ra, .slice aa la ca] 25)).alloc (.cells #[.int .i64 px, .int .i64 py] 29)).alloc (.cells #[.int .i64 rb, .slice ab lb cb] 25)).alloc (.cells #[.int .i64 qx, .int .i64 qy] 29)) := by (repeat (first | (with_reducible exact Below.refl _ _) | (with_reducible refine Below.drew ?_) | (with_reducible refine below_drewN ?_ _) | (with_reducible refine Below.setCell ?_ (by first | (simp; done) | (simp; omega) | omega) _) | (with_reducible refine Below.alloc ?_ (by first | (simp; done) | (simp; omega) | omega) _) | (with_reducible refine Below.trans ?_ (Below.mono (by assumption) (by first | (simp; done) | (simp; omega) | omega))) | (with_reducible refine Below.trans ?_ (Below.mono (Later.below _) (by first | (simp; done) | (simp; omega) | omega)))))
  refine ⟨ra, aa, la, ca, rb, ab, lb, cb, px, py, qx, qy, hA.later hb, hB.later hb, hp, hq, rfl, rfl, ?_, ?_, ?_, ?_, ?_, ?_, ?_, ?_⟩
  all_goals simp [alloc_if, ↓IntWalk.iteOmega]
theorem axes_s {w : World} {ra : Int} {aa : Option Addr} {la ca : Nat} {za : List (Int × Int)} {rb : Int} {ab : Option Addr} {lb cb : Nat} {zb : List (Int × Int)} {px py qx qy : Int}
    (hA : ShAt w ra aa la ca za) (hB : ShAt w rb ab lb cb zb) (hp : -10000000 ≤ px ∧ px ≤ 10000000 ∧ -10000000 ≤ py ∧ py ≤ 10000000) (hq : -10000000 ≤ qx ∧ qx ≤ 10000000 ∧ -10000000 ≤ qy ∧ qy ≤ 10000000) (W : World) (hW : Below w.heap.size w W) :
    Calls Try.prog 27 #[.agg #[.int .i64 ra, .slice aa la ca], .agg #[.int .i64 px, .int .i64 py], .agg #[.int .i64 rb, .slice ab lb cb], .agg #[.int .i64 qx, .int .i64 qy]] W fun e w' => ∃ v, e = .returned v ∧ w'.ownsRow W.heap.size 29 2 v (axs za zb (qx - px) (qy - py)).length (flat (axs za zb (qx - px) (qy - py))) ∧ Below W.heap.size W w' := by
  have kA := hA.later hW
  have kB := hB.later hW
  have ca1 := fun V => axes_any ra aa la ca px py rb ab lb cb qx qy V
  have hV : Below W.heap.size W ((((W.alloc (.cells #[.int .i64 ra, .slice aa la ca] 25)).alloc (.cells #[.int .i64 px, .int .i64 py] 29)).alloc (.cells #[.int .i64 rb, .slice ab lb cb] 25)).alloc (.cells #[.int .i64 qx, .int .i64 qy] 29)) := by (repeat (first | (with_reducible exact Below.refl _ _) | (with_reducible refine Below.drew ?_) | (with_reducible refine below_drewN ?_ _) | (with_reducible refine Below.setCell ?_ (by first | (simp; done) | (simp; omega) | omega) _) | (with_reducible refine Below.alloc ?_ (by first | (simp; done) | (simp; omega) | omega) _) | (with_reducible refine Below.trans ?_ (Below.mono (by assumption) (by first | (simp; done) | (simp; omega) | omega))) | (with_reducible refine Below.trans ?_ (Below.mono (Later.below _) (by first | (simp; done) | (simp; omega) | omega)))))
  have cc := collect_any (boxes_axcl (kA.later hV) (kB.later hV) hp hq)
  simp only [World.size_alloc, axPtrs] at cc
  have e1 : axRow (axsS za zb (qx - px) (qy - py)) = flat (axs za zb (qx - px) (qy - py)) := by unfold axRow; rw [axsS_val]
  have e2 : (axsS za zb (qx - px) (qy - py)).length = (axs za zb (qx - px) (qy - py)).length := by rw [← axsS_val, List.length_map]
  rw [e1, e2] at cc
  generalize axs za zb (qx - px) (qy - py) = L at *
  have Hca1 := Lib.hid ca1; have Hcc := Lib.hid cc; clear ca1 cc
  clear e1 e2 kA kB hA hB hW hp hq hV
  have hal := alloc_if; have hfal := allocF_if
  go_enter Try.func27, Try.ntmps27
  go_wp2_with (first | (go_at_call 50; refine (Hca1.out _).mono ?_; rintro e w1 ⟨rfl, rfl⟩) | ((with_reducible refine (Hcc.out).mono ?_); rintro e w2 ⟨v, rfl, hr, hb⟩; have Hr := Lib.hid hr; clear hr))
  go_ret
  exact ⟨v, rfl, ownsRow_base Hr.out (by omega), by (repeat (first | (with_reducible exact Below.refl _ _) | (with_reducible refine Below.drew ?_) | (with_reducible refine below_drewN ?_ _) | (with_reducible refine Below.setCell ?_ (by first | (simp; done) | (simp; omega) | omega) _) | (with_reducible refine Below.alloc ?_ (by first | (simp; done) | (simp; omega) | omega) _) | (with_reducible refine Below.trans ?_ (Below.mono (by assumption) (by first | (simp; done) | (simp; omega) | omega))) | (with_reducible refine Below.trans ?_ (Below.mono (Later.below _) (by first | (simp; done) | (simp; omega) | omega)))))⟩
end Go.Proofs.Ytcgcapfppceggaa.Co
