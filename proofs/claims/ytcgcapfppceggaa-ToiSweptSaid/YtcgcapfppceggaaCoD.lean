/-
  The contract of Collide.
  Conditions: stated in the contract.
-/
import Derived.Test.YtcgcapfppceggaaCoC
import Derived.Test.YtcgcapfppceggaaQn
namespace Go.Proofs.Ytcgcapfppceggaa.Co
open Go.RowKit Go.Proofs.Ytcgcapfppceggaa.FxMath Go.Proofs.Ytcgcapfppceggaa.FxA Go.Proofs.Ytcgcapfppceggaa.Qt Go.Proofs.Ytcgcapfppceggaa.Ve Go.Proofs.Ytcgcapfppceggaa.Sh Go.Shelf
set_option linter.unusedVariables false
set_option linter.unusedSimpArgs false
attribute [local go_sem] Oper.semAt_some
theorem overlap_s {ra rb : Int} {la lb : Nat} {za zb : List (Int × Int)} (ha : za.length = la) (hb : zb.length = lb) (px py qx qy : Int) :
    Gives Try.prog 30 #[.agg #[.int .i64 (bx0 ra la za px), .int .i64 (by0 ra la za py), .int .i64 (bx1 ra la za px), .int .i64 (by1 ra la za py)], .agg #[.int .i64 (bx0 rb lb zb qx), .int .i64 (by0 rb lb zb qy), .int .i64 (bx1 rb lb zb qx), .int .i64 (by1 rb lb zb qy)]] (.bool (ovl ra za px py rb zb qx qy)) := by
  subst ha hb
  exact overlap_any _ _ _ _ _ _ _ _
/-! Worlds that agree below B, but for one block. -/
structure But (C B : Nat) (w W : World) : Prop where
  os : W.os = w.os
  tape : W.tape = w.tape
  output : W.output = w.output
  size : w.heap.size ≤ W.heap.size
  block : ∀ k, k < B → k ≠ C → W.heap[k]? = w.heap[k]?
theorem But.refl (C B : Nat) (w : World) : But C B w w := ⟨rfl, rfl, rfl, Nat.le_refl _, fun _ _ _ => rfl⟩
theorem But.trans {C B : Nat} {u v w : World} (h : But C B u v) (k : But C B v w) : But C B u w :=
  ⟨k.os.trans h.os, k.tape.trans h.tape, k.output.trans h.output, Nat.le_trans h.size k.size, fun i hi hc => (k.block i hi hc).trans (h.block i hi hc)⟩
theorem But.of {C B n : Nat} {w W : World} (h : Below n w W) (hn : B ≤ n) : But C B w W := ⟨h.os, h.tape, h.output, h.size, fun k hk _ => h.block k (by omega)⟩
theorem But.set (C B o : Nat) (W : World) (v : Value) : But C B W (W.setCell ⟨C, o, none⟩ v) :=
  ⟨rfl, rfl, rfl, by simp [World.setCell], fun k _ hc => by simp [World.setCell, Array.getElem?_modify, Ne.symm hc]⟩
theorem But.grown {C B : Nat} {w W W' : World} {row : Option Nat} (h : But C B w W) (hg : W.grownBy W' row) (hB : B ≤ W.heap.size) (hr : ∀ k, row = some k → B ≤ k) : But C B w W' :=
  h.trans ⟨hg.os, hg.tape, hg.output, hg.size, fun k hk _ => hg.block k (by omega) (fun e => by have := hr k e.symm; omega)⟩
theorem But.below {C B n : Nat} {w0 w W : World} (h : But C B w W) (hb : Below n w0 w) (h1 : n ≤ C) (h2 : n ≤ B) : Below n w0 W :=
  hb.trans ⟨h.os, h.tape, h.output, h.size, fun k hk => h.block k (by omega) (by omega)⟩
theorem But.cell {C B b o : Nat} {w W : World} {v : Value} (h : But C B w W) (hb : b < B) (hc : b ≠ C) (e : w.cell? ⟨b, o, none⟩ = some v) : W.cell? ⟨b, o, none⟩ = some v :=
  (World.cell?_of_block (h.block b hb hc)).trans e
theorem But.froz {C B b o : Nat} {w W : World} (h : But C B w W) (hb : b < B) (hc : b ≠ C) (e : w.frozen? ⟨b, o, none⟩ = false) : W.frozen? ⟨b, o, none⟩ = false :=
  (World.frozen?_of_block (h.block b hb hc)).trans e
/-- The contact box. -/
structure Ctc (C : Nat) (W : World) (x y d : Int) : Prop where
  c0 : W.cell? ⟨C, 0, none⟩ = some (.int .i64 x)
  c1 : W.cell? ⟨C, 1, none⟩ = some (.int .i64 y)
  c2 : W.cell? ⟨C, 2, none⟩ = some (.int .i64 d)
  f : ∀ i, W.frozen? ⟨C, i, none⟩ = false
theorem Ctc.later {C : Nat} {W W' : World} {x y d : Int} (h : Ctc C W x y d) (hb : Below W.heap.size W W') : Ctc C W' x y d :=
  ⟨cell_below hb h.c0, cell_below hb h.c1, cell_below hb h.c2, fun i => (hb.frozen (p := ⟨C, i, none⟩) (by have := World.block_lt_of_cell? W _ h.c0; exact this)).trans (h.f i)⟩
theorem Ctc.kept {C : Nat} {W W' : World} {x y d : Int} {row : Option Nat} (h : Ctc C W x y d) (hg : W.grownBy W' row) (hr : ∀ r, row = some r → ∃ o : Obj, W.heap[r]? = some o ∧ o.isCells = false) : Ctc C W' x y d :=
  ⟨cell_kept h.c0 hg hr, cell_kept h.c1 hg hr, cell_kept h.c2 hg hr, fun i => (World.frozen?_of_block (by obtain ⟨o, ho, hc⟩ := cells_of_cell h.c0; exact grownBy_keeps_cells hg hr ho hc)).trans (h.f i)⟩
theorem Ctc.set3 {C : Nat} {W : World} {x y d : Int} (h : Ctc C W x y d) (u v e : Int) : Ctc C (((W.setCell ⟨C, 0, none⟩ (.int .i64 u)).setCell ⟨C, 1, none⟩ (.int .i64 v)).setCell ⟨C, 2, none⟩ (.int .i64 e)) u v e :=
  ⟨by simp [setCell_if, h.c0], by simp [setCell_if, h.c1], by simp [setCell_if, h.c2], fun i => by simp [h.f]⟩
/-- The contact after some axes. -/
def bs0 (f : Int × Int → Int) (l : List Axs) : Int := match bst f (l.map (·.1)) with | none => 0 | some y => y.1
def bs1 (f : Int × Int → Int) (l : List Axs) : Int := match bst f (l.map (·.1)) with | none => 0 | some y => y.2
def bs2 (f : Int × Int → Int) (l : List Axs) : Int := match bst f (l.map (·.1)) with | none => 9223372036854775807 | some y => f y
theorem bs_snoc (f : Int × Int → Int) (l : List Axs) (x : Axs) (h : f x.1 < 9223372036854775807) :
    bs0 f (l ++ [x]) = (if f x.1 < bs2 f l then x.1.1 else bs0 f l) ∧ bs1 f (l ++ [x]) = (if f x.1 < bs2 f l then x.1.2 else bs1 f l) ∧ bs2 f (l ++ [x]) = (if f x.1 < bs2 f l then f x.1 else bs2 f l) := by
  unfold bs0 bs1 bs2
  rw [List.map_append, show [x].map (·.1) = [x.1] from rfl, bst_snoc]
  cases hb : bst f (l.map (·.1)) with
  | none => simp [stp, h]
  | some y =>
    simp only [stp]
    by_cases hlt : f x.1 < f y
    · simp [hlt]
    · simp [hlt]
theorem dpt_bd {w : World} {ra : Int} {aa : Option Addr} {la ca : Nat} {za : List (Int × Int)} {rb : Int} {ab : Option Addr} {lb cb : Nat} {zb : List (Int × Int)} {px py qx qy : Int}
    (hA : ShAt w ra aa la ca za) (hB : ShAt w rb ab lb cb zb) (hp : -10000000 ≤ px ∧ px ≤ 10000000 ∧ -10000000 ≤ py ∧ py ≤ 10000000) (hq : -10000000 ≤ qx ∧ qx ≤ 10000000 ∧ -10000000 ≤ qy ∧ qy ≤ 10000000) (n : Int × Int) (hn : AxB n) :
    -80000000000000 ≤ dpt ra za px py rb zb qx qy n ∧ dpt ra za px py rb zb qx qy n ≤ 80000000000000 := by
  obtain ⟨a, b⟩ := n
  obtain ⟨n1, n2, n3, n4⟩ := hn
  simp only at n1 n2 n3 n4
  have b1 := prj_bd hA px py a b (by omega) (by omega) (by omega) (by omega)
  have b2 := prj_bd hB qx qy a b (by omega) (by omega) (by omega) (by omega)
  obtain ⟨e1, e2⟩ := ph_eq (r := ra) hA.poly.len px py a b
  obtain ⟨e3, e4⟩ := ph_eq (r := rb) hB.poly.len qx qy a b
  rw [e1, e2] at b1
  rw [e3, e4] at b2
  unfold dpt
  omega
theorem mulb (x a : Int) (hx : -20000000 ≤ x ∧ x ≤ 20000000) (ha : -1024 ≤ a ∧ a ≤ 1024) : -20480000000 ≤ x * a ∧ x * a ≤ 20480000000 := by
  have h : (x * a).natAbs ≤ 20000000 * 1024 := by rw [Int.natAbs_mul]; exact Nat.mul_le_mul (by omega) (by omega)
  omega
theorem bs_vals (f : Int × Int → Int) (l : List Axs) (hne : l.map (·.1) ≠ []) :
    bs0 f l = ((bst f (l.map (·.1))).getD (0, 0)).1 ∧ bs1 f l = ((bst f (l.map (·.1))).getD (0, 0)).2 ∧ bs2 f l = f ((bst f (l.map (·.1))).getD (0, 0)) ∧ AxB (bs0 f l, bs1 f l) := by
  rcases bst_spec f (l.map (·.1)) with ⟨h, _⟩ | ⟨y, hy, hm, _⟩
  · exact absurd h hne
  · obtain ⟨x, _, rfl⟩ := List.mem_map.1 hm
    unfold bs0 bs1 bs2
    rw [hy]
    exact ⟨rfl, rfl, rfl, x.2⟩
theorem cis_all {ra : Int} {za : List (Int × Int)} {px py rb : Int} {zb : List (Int × Int)} {qx qy : Int} (ho : ovl ra za px py rb zb qx qy = true) (h : ∀ x ∈ axsS za zb (qx - px) (qy - py), 0 < dpt ra za px py rb zb qx qy x.1) :
    cis ra za px py rb zb qx qy = true := by
  unfold cis
  rw [ho, Bool.true_and, List.all_eq_true]
  intro n hn
  rw [← axsS_val] at hn
  obtain ⟨x, hx, rfl⟩ := List.mem_map.1 hn
  exact decide_eq_true (h x hx)
theorem cis_some {ra : Int} {za : List (Int × Int)} {px py rb : Int} {zb : List (Int × Int)} {qx qy : Int} {pre : List Axs} (hp : pre <+: axsS za zb (qx - px) (qy - py)) (h : ∃ x ∈ pre, dpt ra za px py rb zb qx qy x.1 ≤ 0) :
    cis ra za px py rb zb qx qy = false := by
  obtain ⟨x, hx, hd⟩ := h
  have hm : x.1 ∈ axs za zb (qx - px) (qy - py) := by rw [← axsS_val]; exact List.mem_map.2 ⟨x, hp.subset hx, rfl⟩
  unfold cis
  have : ((axs za zb (qx - px) (qy - py)).all fun n => decide (0 < dpt ra za px py rb zb qx qy n)) = false := by
    rw [List.all_eq_false]
    exact ⟨x.1, hm, by simp; omega⟩
  rw [this, Bool.and_false]
theorem fin_all {ra : Int} {za : List (Int × Int)} {px py rb : Int} {zb : List (Int × Int)} {qx qy : Int} (ho : ovl ra za px py rb zb qx qy = true) (h : ∀ x ∈ axsS za zb (qx - px) (qy - py), 0 < dpt ra za px py rb zb qx qy x.1)
    (s0 s1 s2 : Int) (h0 : s0 = bs0 (dpt ra za px py rb zb qx qy) (axsS za zb (qx - px) (qy - py))) (h1 : s1 = bs1 (dpt ra za px py rb zb qx qy) (axsS za zb (qx - px) (qy - py))) (h2 : s2 = bs2 (dpt ra za px py rb zb qx qy) (axsS za zb (qx - px) (qy - py))) :
    cis ra za px py rb zb qx qy = true ∧ cnx ra za px py rb zb qx qy = (if ((qx - px) * s0 + (qy - py) * s1) / 1024 < 0 then -s0 else s0) ∧ cny ra za px py rb zb qx qy = (if ((qx - px) * s0 + (qy - py) * s1) / 1024 < 0 then -s1 else s1) ∧ cdp ra za px py rb zb qx qy = s2 ∧ AxB (s0, s1) := by
  have hc := cis_all ho h
  have hv := bs_vals (dpt ra za px py rb zb qx qy) (axsS za zb (qx - px) (qy - py)) (by rw [axsS_val]; exact axs_ne _ _ _ _)
  rw [axsS_val, ← h0, ← h1, ← h2] at hv
  obtain ⟨v0, v1, v2, v3⟩ := hv
  unfold cnx cny cdp cneg cbn
  rw [hc, ← v0, ← v1, ← v2]
  simp [v3]
theorem below_putD {n Dd : Nat} {w V : World} (h : Below n w V) (hn : n ≤ w.heap.size) (hD : n ≤ Dd) (o : Obj) : Below n w (V.putObj Dd o) := h.grown (grownBy_putObj' _ _ _) (Nat.le_trans hn h.size) (fun k e => by cases e; exact hD)
theorem cell_putD {b Dd : Nat} (h : b ≠ Dd) (V : World) (o : Obj) (i : Nat) : (V.putObj Dd o).cell? ⟨b, i, none⟩ = V.cell? ⟨b, i, none⟩ := World.cell?_of_block (World.putObj_heap_other h)
set_option maxRecDepth 100000 in
set_option maxHeartbeats 8000000 in
theorem collide_at {w : World} {ra : Int} {aa : Option Addr} {la ca : Nat} {za : List (Int × Int)} {rb : Int} {ab : Option Addr} {lb cb : Nat} {zb : List (Int × Int)} {px py qx qy : Int}
    (hA : ShAt w ra aa la ca za) (hB : ShAt w rb ab lb cb zb) (hp : -10000000 ≤ px ∧ px ≤ 10000000 ∧ -10000000 ≤ py ∧ py ≤ 10000000) (hq : -10000000 ≤ qx ∧ qx ≤ 10000000 ∧ -10000000 ≤ qy ∧ qy ≤ 10000000) :
    Calls Try.prog 21 #[.agg #[.int .i64 ra, .slice aa la ca], .agg #[.int .i64 px, .int .i64 py], .agg #[.int .i64 rb, .slice ab lb cb], .agg #[.int .i64 qx, .int .i64 qy]] w fun e w' => e = .returned (.tuple #[.agg #[.int .i64 (cnx ra za px py rb zb qx qy), .int .i64 (cny ra za px py rb zb qx qy), .int .i64 (cdp ra za px py rb zb qx qy)], .bool (cis ra za px py rb zb qx qy)]) ∧ Below w.heap.size w w' := by
  have hla := hA.poly.len
  have hlb := hB.poly.len
  have c1 := bounds_s hA px py (by omega) (by omega)
  have c2 := bounds_s hB qx qy (by omega) (by omega)
  have c3 := overlap_s (ra := ra) (rb := rb) hla hlb px py qx qy
  have cd := fun n (hn : AxB n) => depth_s hA hB px py qx qy n.1 n.2 hp hq hn
  have ca1 := fun V => axes_any ra aa la ca px py rb ab lb cb qx qy V
  generalize bx0 ra la za px = A0 at *
  generalize by0 ra la za py = A1 at *
  generalize bx1 ra la za px = A2 at *
  generalize by1 ra la za py = A3 at *
  generalize bx0 rb lb zb qx = B0 at *
  generalize by0 rb lb zb qy = B1 at *
  generalize bx1 rb lb zb qx = B2 at *
  generalize by1 rb lb zb qy = B3 at *
  obtain ⟨ov, hov⟩ : ∃ ov, ov = ovl ra za px py rb zb qx qy := ⟨_, rfl⟩
  rw [← hov] at c3
  have Hov := Lib.hid hov
  clear hov
  have Hc1 := Lib.hid c1; have Hc2 := Lib.hid c2; have Hc3 := Lib.hid c3; have Hcd := Lib.hid cd; have Hca1 := Lib.hid ca1; clear c1 c2 c3 cd ca1
  refine (callsIn_wide (n := 8)).1 ?_
  refine callsIn_of_wp_marks Try.func21 rfl trivial ?_ rfl
  simp only [Try.ntmps21, List.size_toArray, List.length_cons, List.length_nil, Nat.reduceAdd, Nat.reduceSub, Array.replicate_succ, Array.replicate_zero, List.push_toArray, List.append_toArray, List.nil_append, List.cons_append]
  have hal := alloc_if; have hfal := allocF_if
  gi_wp2
  refine Go.Proofs.Ytcgcapfppceggaa.Qn.wpIn_region_later_tail 7 (by kernel_rfl) (by kernel_rfl) (by kernel_rfl) fun NL hL => ?_; obtain ⟨hNL, hlc, hlf⟩ := hL; (try simp only [World.size_alloc, World.size_setCell, World.size_drew] at hNL); simp only [List.take_succ_cons, List.take_zero, List.drop_succ_cons, List.drop_zero]
  repeat (go_big_quiet_step (first | (with_reducible exact later_call (Hc1.out _ (by (repeat (first | exact Below.refl _ _ | (with_reducible refine Below.drew ?_) | (with_reducible refine below_drewN ?_ _) | (with_reducible refine Below.setCell ?_ (by first | (simp; done) | (simp; omega) | omega) _) | (with_reducible refine Below.alloc ?_ (by first | (simp; done) | (simp; omega) | omega) _) | (with_reducible refine Below.trans ?_ (Below.mono (by assumption) (by first | (simp; done) | (simp; omega) | omega))) | (with_reducible refine Below.trans ?_ (Below.mono (Later.below _) (by first | (simp; done) | (simp; omega) | omega)))))))) | (with_reducible exact later_call (Hc2.out _ (by (repeat (first | exact Below.refl _ _ | (with_reducible refine Below.drew ?_) | (with_reducible refine below_drewN ?_ _) | (with_reducible refine Below.setCell ?_ (by first | (simp; done) | (simp; omega) | omega) _) | (with_reducible refine Below.alloc ?_ (by first | (simp; done) | (simp; omega) | omega) _) | (with_reducible refine Below.trans ?_ (Below.mono (by assumption) (by first | (simp; done) | (simp; omega) | omega))) | (with_reducible refine Below.trans ?_ (Below.mono (Later.below _) (by first | (simp; done) | (simp; omega) | omega)))))))) | (with_reducible exact later_call (Hc3.out _))))
  (refine wpQuiet_nil ?_; intro w1 hw1; obtain ⟨⟨w1, hb1⟩, rfl⟩ := hw1; clear hlc hlf hNL NL; obtain ⟨N1, hN1, hc1, hf1, hs1⟩ := bcell hb1; (try simp only [World.size_alloc, World.size_setCell, World.size_drew] at hN1))
  cases ov
  · go_wp2
    refine Go.Proofs.Ytcgcapfppceggaa.Qn.calmly_normal ?_
    gi_wp2
    have hcis : cis ra za px py rb zb qx qy = false := by unfold cis; rw [← Hov.out]; rfl
    refine ⟨_, by simp [results, Try.f21, go_sem, setCell_if, hc1, hN1, hal, ↓IntWalk.iteOmega]; rfl, ?_, ?_⟩
    · simp only [cnx, cny, cdp, hcis]; rfl
    · (repeat (first | (with_reducible exact Below.refl _ _) | (with_reducible refine Below.drew ?_) | (with_reducible refine below_drewN ?_ _) | (with_reducible refine Below.setCell ?_ (by first | (simp; done) | (simp; omega) | omega) _) | (with_reducible refine Below.alloc ?_ (by first | (simp; done) | (simp; omega) | omega) _) | (with_reducible refine Below.trans ?_ (Below.mono (by assumption) (by first | (simp; done) | (simp; omega) | omega))) | (with_reducible refine Below.trans ?_ (Below.mono (Later.below _) (by first | (simp; done) | (simp; omega) | omega)))))
  · go_wp2
    refine Go.Proofs.Ytcgcapfppceggaa.Qn.calmly_normal ?_
    gi_wp2_with ((refine ⟨trivial, ?_⟩; with_reducible refine (callsIn_wide.2 (Hca1.out _)).mono ?_); rintro e w2 ⟨rfl, rfl⟩)
    obtain ⟨W0, hW0⟩ : ∃ W0, W0 = ((((w1.alloc (.cells #[.int .i64 0, .int .i64 0, .int .i64 9223372036854775807] 33)).alloc (.cells #[.int .i64 ra, .slice aa la ca] 25)).alloc (.cells #[.int .i64 px, .int .i64 py] 29)).alloc (.cells #[.int .i64 rb, .slice ab lb cb] 25)).alloc (.cells #[.int .i64 qx, .int .i64 qy] 29) := ⟨_, rfl⟩
    rw [← hW0]
    have hs0 : W0.heap.size = w1.heap.size + 5 := by rw [hW0]; simp
    have hbw : Below w.heap.size w w1 := by (repeat (first | (with_reducible exact Below.refl _ _) | (with_reducible refine Below.drew ?_) | (with_reducible refine below_drewN ?_ _) | (with_reducible refine Below.setCell ?_ (by first | (simp; done) | (simp; omega) | omega) _) | (with_reducible refine Below.alloc ?_ (by first | (simp; done) | (simp; omega) | omega) _) | (with_reducible refine Below.trans ?_ (Below.mono (by assumption) (by first | (simp; done) | (simp; omega) | omega))) | (with_reducible refine Below.trans ?_ (Below.mono (Later.below _) (by first | (simp; done) | (simp; omega) | omega)))))
    have hB1 : Below w1.heap.size w1 W0 := by rw [hW0]; clear hb1 hbw; (repeat (first | (with_reducible exact Below.refl _ _) | (with_reducible refine Below.drew ?_) | (with_reducible refine below_drewN ?_ _) | (with_reducible refine Below.setCell ?_ (by first | (simp; done) | (simp; omega) | omega) _) | (with_reducible refine Below.alloc ?_ (by first | (simp; done) | (simp; omega) | omega) _) | (with_reducible refine Below.trans ?_ (Below.mono (by assumption) (by first | (simp; done) | (simp; omega) | omega))) | (with_reducible refine Below.trans ?_ (Below.mono (Later.below _) (by first | (simp; done) | (simp; omega) | omega)))))
    have hct : Ctc w1.heap.size W0 0 0 9223372036854775807 := ⟨by rw [hW0]; simp [alloc_if, ↓IntWalk.iteOmega], by rw [hW0]; simp [alloc_if, ↓IntWalk.iteOmega], by rw [hW0]; simp [alloc_if, ↓IntWalk.iteOmega], fun i => by rw [hW0]; simp [allocF_if, ↓IntWalk.iteOmega] <;> (intros; omega)⟩
    have d0 : W0.cell? ⟨w1.heap.size + 1, 0, none⟩ = some (.int .i64 ra) := by rw [hW0]; simp [alloc_if, ↓IntWalk.iteOmega]
    have d1 : W0.cell? ⟨w1.heap.size + 1, 1, none⟩ = some (.slice aa la ca) := by rw [hW0]; simp [alloc_if, ↓IntWalk.iteOmega]
    have d2 : W0.cell? ⟨w1.heap.size + 1 + 1 + 1, 0, none⟩ = some (.int .i64 rb) := by rw [hW0]; simp [alloc_if, ↓IntWalk.iteOmega]
    have d3 : W0.cell? ⟨w1.heap.size + 1 + 1 + 1, 1, none⟩ = some (.slice ab lb cb) := by rw [hW0]; simp [alloc_if, ↓IntWalk.iteOmega]
    have d4 : W0.cell? ⟨w1.heap.size + 1 + 1 + 1 + 1, 0, none⟩ = some (.int .i64 qx) := by rw [hW0]; simp [alloc_if, ↓IntWalk.iteOmega]
    have d5 : W0.cell? ⟨w1.heap.size + 1 + 1 + 1 + 1, 1, none⟩ = some (.int .i64 qy) := by rw [hW0]; simp [alloc_if, ↓IntWalk.iteOmega]
    have d6 : W0.cell? ⟨w1.heap.size + 1 + 1, 0, none⟩ = some (.int .i64 px) := by rw [hW0]; simp [alloc_if, ↓IntWalk.iteOmega]
    have d7 : W0.cell? ⟨w1.heap.size + 1 + 1, 1, none⟩ = some (.int .i64 py) := by rw [hW0]; simp [alloc_if, ↓IntWalk.iteOmega]
    have u0 : W0.cell? ⟨w.heap.size, 0, none⟩ = some (.int .i64 ra) := by rw [hW0]; simp [alloc_if, hc1, hN1, ↓IntWalk.iteOmega]
    have u1 : W0.cell? ⟨w.heap.size, 1, none⟩ = some (.slice aa la ca) := by rw [hW0]; simp [alloc_if, hc1, hN1, ↓IntWalk.iteOmega]
    have u2 : W0.cell? ⟨w.heap.size + 1, 0, none⟩ = some (.int .i64 px) := by rw [hW0]; simp [alloc_if, hc1, hN1, ↓IntWalk.iteOmega]
    have u3 : W0.cell? ⟨w.heap.size + 1, 1, none⟩ = some (.int .i64 py) := by rw [hW0]; simp [alloc_if, hc1, hN1, ↓IntWalk.iteOmega]
    have u4 : W0.cell? ⟨w.heap.size + 1 + 1, 0, none⟩ = some (.int .i64 rb) := by rw [hW0]; simp [alloc_if, hc1, hN1, ↓IntWalk.iteOmega]
    have u5 : W0.cell? ⟨w.heap.size + 1 + 1, 1, none⟩ = some (.slice ab lb cb) := by rw [hW0]; simp [alloc_if, hc1, hN1, ↓IntWalk.iteOmega]
    have u6 : W0.cell? ⟨w.heap.size + 1 + 1 + 1, 0, none⟩ = some (.int .i64 qx) := by rw [hW0]; simp [alloc_if, hc1, hN1, ↓IntWalk.iteOmega]
    have u7 : W0.cell? ⟨w.heap.size + 1 + 1 + 1, 1, none⟩ = some (.int .i64 qy) := by rw [hW0]; simp [alloc_if, hc1, hN1, ↓IntWalk.iteOmega]
    have u8 : W0.cell? ⟨w.heap.size + 1 + 1 + 1 + 1, 0, none⟩ = some (.int .i64 0) := by rw [hW0]; simp [alloc_if, hc1, hN1, ↓IntWalk.iteOmega]
    have u9 : W0.cell? ⟨w.heap.size + 1 + 1 + 1 + 1, 1, none⟩ = some (.int .i64 0) := by rw [hW0]; simp [alloc_if, hc1, hN1, ↓IntWalk.iteOmega]
    have u10 : W0.cell? ⟨w.heap.size + 1 + 1 + 1 + 1, 2, none⟩ = some (.int .i64 0) := by rw [hW0]; simp [alloc_if, hc1, hN1, ↓IntWalk.iteOmega]
    have u11 : W0.cell? ⟨w.heap.size + 1 + 1 + 1 + 1 + 1, 0, none⟩ = some (.bool false) := by rw [hW0]; simp [alloc_if, hc1, hN1, ↓IntWalk.iteOmega]
    have g4 : ∀ i, W0.frozen? ⟨w.heap.size + 1 + 1 + 1 + 1, i, none⟩ = false := fun i => by rw [hW0]; simp [allocF_if, hf1, hN1, ↓IntWalk.iteOmega] <;> (intros; omega)
    have g5 : ∀ i, W0.frozen? ⟨w.heap.size + 1 + 1 + 1 + 1 + 1, i, none⟩ = false := fun i => by rw [hW0]; simp [allocF_if, hf1, hN1, ↓IntWalk.iteOmega] <;> (intros; omega)
    have hsz : w.heap.size + 6 ≤ w1.heap.size := by omega
    have hBW : Below w.heap.size w W0 := hbw.trans (hB1.mono hbw.size)
    clear hb1 hc1 hf1 hs1 hN1 N1 hW0 hal hfal Hc3 Hca1 hB1 hbw
    generalize w1.heap.size = C at *
    clear w1
    obtain ⟨D, hD⟩ : ∃ D, D = dpt ra za px py rb zb qx qy := ⟨_, rfl⟩
    have cd2 : ∀ u v, AxB (u, v) → ∀ V, Below w.heap.size w V → Calls Try.prog 51 #[.agg #[.int .i64 ra, .slice aa la ca], .agg #[.int .i64 px, .int .i64 py], .agg #[.int .i64 rb, .slice ab lb cb], .agg #[.int .i64 qx, .int .i64 qy], .agg #[.int .i64 u, .int .i64 v]] V fun e w' => e = .returned (.int .i64 (D (u, v))) ∧ Below V.heap.size V w' := fun u v hn => by rw [hD]; exact Hcd.out (u, v) hn
    have hDb : ∀ n, AxB n → -80000000000000 ≤ D n ∧ D n ≤ 80000000000000 := fun n hn => by rw [hD]; exact dpt_bd hA hB hp hq n hn
    have HDb := Lib.hid hDb
    have HD := Lib.hid hD
    have Hcd2 := Lib.hid cd2
    have HA := Lib.hid hA
    have HB := Lib.hid hB
    have Hp := Lib.hid hp
    have Hq := Lib.hid hq
    clear hD hDb cd2 Hcd hA hB hp hq
    refine wpIn_rangeFunc_ownH rfl (by decide) (gf := 78) (lb := axPtrs (C + 1) (C + 1 + 1 + 1) (C + 1 + 1 + 1 + 1) (C + 1 + 1)) rfl trivial (enters_of Try.func78 (by kernel_rfl) rfl)
      (encs := encA) (Kp := But C W0.heap.size) (S := fun ys => ys = axsS za zb (qx - px) (qy - py)) (Sp := fun pre => pre <+: axsS za zb (qx - px) (qy - py)) (N := (axsS za zb (qx - px) (qy - py)).length) (w0 := W0) ?seq But.trans (fun W l o o' hl ho _ _ => (But.refl _ _ W).grown (grownBy_putObj' W l o') (by have := (Array.getElem?_eq_some_iff.1 ho).1; omega) (fun k e => by cases e; exact hl)) (Below.refl _ W0) (fun _ => rfl)
      (fun pre W => ((∀ x ∈ pre, 0 < D x.1) ∧ Ctc C W (bs0 D pre) (bs1 D pre) (bs2 D pre)) ∧ But C W0.heap.size W0 W)
      (fun c pre W => (c = .ret ∧ (∃ x ∈ pre, D x.1 ≤ 0) ∧ W.cell? ⟨w.heap.size + 1 + 1 + 1 + 1, 0, none⟩ = some (.int .i64 0) ∧ W.cell? ⟨w.heap.size + 1 + 1 + 1 + 1, 1, none⟩ = some (.int .i64 0) ∧ W.cell? ⟨w.heap.size + 1 + 1 + 1 + 1, 2, none⟩ = some (.int .i64 0) ∧ W.cell? ⟨w.heap.size + 1 + 1 + 1 + 1 + 1, 0, none⟩ = some (.bool false)) ∧ Below w.heap.size w W)
      (fun s A B row hs hg hr => ⟨⟨hs.1.1, hs.1.2.kept hg (fun r e => (hr r e).2)⟩, hs.2.grown hg hs.2.size (fun k e => (hr k e).1)⟩)
      (fun c => OwnFrom.and (Own.from (fun s A B row hs hg hr => ⟨hs.1, hs.2.1, cell_kept hs.2.2.1 hg hr, cell_kept hs.2.2.2.1 hg hr, cell_kept hs.2.2.2.2.1 hg hr, cell_kept hs.2.2.2.2.2 hg hr⟩) _) (ownFrom_below (Nat.le_refl _) (by omega)))
      ⟨⟨by simp, hct⟩, But.refl _ _ _⟩
      (fun x a' W => ∃ Bx, W0.heap.size ≤ Bx ∧ W.heap[Bx]? = some (.cells #[.int .i64 x.1.1, .int .i64 x.1.2] 29 (0, 0)) ∧ a' = { tmps := #[.agg #[.int .i64 ra, .slice aa la ca], .agg #[.int .i64 px, .int .i64 py], .agg #[.int .i64 rb, .slice ab lb cb], .agg #[.int .i64 qx, .int .i64 qy], .pointer (some ⟨w.heap.size, 0, none⟩), .pointer (some ⟨w.heap.size + 1, 0, none⟩), .pointer (some ⟨w.heap.size + 1 + 1, 0, none⟩), .pointer (some ⟨w.heap.size + 1 + 1 + 1, 0, none⟩), .pointer (some ⟨w.heap.size + 1 + 1 + 1 + 1, 0, none⟩), .pointer (some ⟨w.heap.size + 1 + 1 + 1 + 1 + 1, 0, none⟩), .pointer (some ⟨C, 0, none⟩), .pointer (some ⟨Bx, 0, none⟩), undef, .agg #[.int .i64 ra, .slice aa la ca], .agg #[.int .i64 px, .int .i64 py], .agg #[.int .i64 A0, .int .i64 A1, .int .i64 A2, .int .i64 A3], .agg #[.int .i64 rb, .slice ab lb cb], .agg #[.int .i64 qx, .int .i64 qy], .agg #[.int .i64 B0, .int .i64 B1, .int .i64 B2, .int .i64 B3], .bool true, .bool false, undef, .agg #[.int .i64 0, .int .i64 0, .int .i64 9223372036854775807], .agg #[.int .i64 ra, .slice aa la ca], .agg #[.int .i64 px, .int .i64 py], .agg #[.int .i64 rb, .slice ab lb cb], .agg #[.int .i64 qx, .int .i64 qy], .func (.func 78) #[] (axPtrs (C + 1) (C + 1 + 1 + 1) (C + 1 + 1 + 1 + 1) (C + 1 + 1)), .agg #[.int .i64 (x.1.1), .int .i64 (x.1.2)], undef, undef, undef, undef, undef, undef, undef, undef, undef, undef, undef, undef, undef, undef, undef, undef, undef, undef, undef, undef, undef, undef, undef, undef, undef, undef, undef, undef], defers := [] })
      (fun x a' _ X Y row hs hg hr => by
        obtain ⟨Bx, h1, h2, h3⟩ := hs
        refine ⟨Bx, h1, (hg.block Bx (Array.getElem?_eq_some_iff.1 h2).1 (fun e => ?_)).trans h2, h3⟩
        obtain ⟨_, o, ho, hc⟩ := hr Bx e.symm
        rw [h2] at ho
        cases ho
        cases hc)
      ?assign ?body ?done ?stop
    case seq =>
      intro l J Jx W hW hJ _ hY h0
      exact axes1_in 7 (by decide) ra aa la ca za rb ab lb cb zb px py qx qy _ _ (C + 1) (C + 1 + 1 + 1) (C + 1 + 1 + 1 + 1) (C + 1 + 1) Hp.out Hq.out rfl rfl (fun V => But C W0.heap.size W0 V) (But C W0.heap.size)
        (fun V hV => ⟨HA.out.later (hV.below hBW (by omega) (by omega)), HB.out.later (hV.below hBW (by omega) (by omega)), hV.cell (by omega) (by omega) d0, hV.cell (by omega) (by omega) d1, hV.cell (by omega) (by omega) d2, hV.cell (by omega) (by omega) d3, hV.cell (by omega) (by omega) d4, hV.cell (by omega) (by omega) d5, hV.cell (by omega) (by omega) d6, hV.cell (by omega) (by omega) d7⟩) (fun _ _ hV hb => hV.trans (But.of hb hV.size)) (fun _ _ hV hb => hV.trans hb) _ (Nat.le_refl _) l J Jx _ hJ hY W (But.of hW (Nat.le_refl _)) h0
    case assign =>
      rintro l pre x W K ⟨⟨hp, hcx⟩, hB⟩ hK
      dsimp only [encA] at *
      have hal1 : Below W.heap.size W (W.alloc (.cells #[.int .i64 x.1.1, .int .i64 x.1.2] 29)) := by (repeat (first | (with_reducible exact Below.refl _ _) | (with_reducible refine Below.drew ?_) | (with_reducible refine below_drewN ?_ _) | (with_reducible refine Below.setCell ?_ (by first | (simp; done) | (simp; omega) | omega) _) | (with_reducible refine Below.alloc ?_ (by first | (simp; done) | (simp; omega) | omega) _) | (with_reducible refine Below.trans ?_ (Below.mono (by assumption) (by first | (simp; done) | (simp; omega) | omega))) | (with_reducible refine Below.trans ?_ (Below.mono (Later.below _) (by first | (simp; done) | (simp; omega) | omega)))))
      gi_wp2
      exact hK _ _ ((KeepsOthers.alloc _ _).from _) (But.of hal1 hB.size) ⟨⟨hp, hcx.later hal1⟩, hB.trans (But.of hal1 hB.size)⟩ ⟨W.heap.size, hB.size, World.alloc_heap_new W _, rfl⟩
    case body =>
      rintro l pre ⟨⟨u, v⟩, hn⟩ a' W hl ⟨r, hr⟩ ⟨⟨hp, hcx⟩, hB⟩ ⟨Bx, hBx, bX, rfl⟩ hlt
      dsimp only at *
      have x0 : W.cell? ⟨Bx, 0, none⟩ = some (.int .i64 u) := by simp [World.cell?, bX]
      have x1 : W.cell? ⟨Bx, 1, none⟩ = some (.int .i64 v) := by simp [World.cell?, bX]
      have hBxl : Bx < W.heap.size := (Array.getElem?_eq_some_iff.1 bX).1
      have hws := hB.size
      have hBw : Below w.heap.size w W := hB.below hBW (by omega) (by omega)
      have c4 := Hcd2.out u v hn
      obtain ⟨db0, db1⟩ := HDb.out (u, v) hn
      obtain ⟨e0, e1, e2⟩ := bs_snoc D pre ⟨(u, v), hn⟩ (by show D (u, v) < _; omega)
      dsimp only at e0 e1 e2
      have hpp : ∀ d, d = D (u, v) → 0 < d → ∀ x ∈ pre ++ [⟨(u, v), hn⟩], 0 < D x.1 := fun d hd h0 x hx => (List.mem_append.1 hx).elim (hp x) (fun h => by rw [List.mem_singleton.1 h]; rw [← hd]; exact h0)
      have hnn : ∀ d, d = D (u, v) → d ≤ 0 → ∃ x ∈ pre ++ [⟨(u, v), hn⟩], D x.1 ≤ 0 := fun d hd h0 => ⟨_, List.mem_append.2 (.inr (List.mem_singleton.2 rfl)), by rw [← hd]; exact h0⟩
      obtain ⟨d, hd⟩ : ∃ d, d = D (u, v) := ⟨_, rfl⟩
      rw [← hd] at c4 db0 db1 e0 e1 e2
      have Hpp := Lib.hid (hpp d hd)
      have Hnn := Lib.hid (hnn d hd)
      have k0 := hcx.c0
      have k1 := hcx.c1
      have k2 := hcx.c2
      have kf := hcx.f
      have Hcx := Lib.hid hcx
      have HBW := Lib.hid hB
      have HBw := Lib.hid hBw
      have v0 := hB.cell (by omega) (by omega) u0
      have v1 := hB.cell (by omega) (by omega) u1
      have v2 := hB.cell (by omega) (by omega) u2
      have v3 := hB.cell (by omega) (by omega) u3
      have v4 := hB.cell (by omega) (by omega) u4
      have v5 := hB.cell (by omega) (by omega) u5
      have v6 := hB.cell (by omega) (by omega) u6
      have v7 := hB.cell (by omega) (by omega) u7
      have v8 := hB.cell (by omega) (by omega) u8
      have v9 := hB.cell (by omega) (by omega) u9
      have v10 := hB.cell (by omega) (by omega) u10
      have v11 := hB.cell (by omega) (by omega) u11
      have f4 := fun i => hB.froz (by omega) (by omega) (g4 i)
      have f5 := fun i => hB.froz (by omega) (by omega) (g5 i)
      obtain ⟨s2, hs2⟩ : ∃ s2, s2 = bs2 D pre := ⟨_, rfl⟩
      rw [← hs2] at k2 e0 e1 e2
      have He0 := Lib.hid e0
      have He1 := Lib.hid e1
      have He2 := Lib.hid e2
      have Hs2 := Lib.hid hs2
      have Hc4 := Lib.hid c4
      clear e0 e1 e2 hs2 c4 hcx hB hBw hp hpp hnn hd hct u0 u1 u2 u3 u4 u5 u6 u7 u8 u9 u10 u11 d0 d1 d2 d3 d4 d5 d6 d7 g4 g5
      gi_wp2_with (((refine ⟨trivial, ?_⟩; with_reducible refine (CallsIn.inRound l (callsIn_wide.2 (Hc4.out _ HBw.out))).mono ?_); rintro e w5 ⟨rfl, hb5⟩; have hs5 := hb5.size; have y0 := cell_below hb5 x0; have y1 := cell_below hb5 x1; have y2 := cell_below hb5 k2; have y3 := cell_below hb5 k0; have y4 := cell_below hb5 k1; have z8 := cell_below hb5 v8; have z9 := cell_below hb5 v9; have z10 := cell_below hb5 v10; have z11 := cell_below hb5 v11; have ff4 := fun i => (hb5.frozen (p := ⟨w.heap.size + 1 + 1 + 1 + 1, i, none⟩) (by simp; omega)).trans (f4 i); have ff5 := fun i => (hb5.frozen (p := ⟨w.heap.size + 1 + 1 + 1 + 1 + 1, i, none⟩) (by simp; omega)).trans (f5 i); have ffC := fun i => (hb5.frozen (p := ⟨C, i, none⟩) (by simp; omega)).trans (kf i); have HBb := Lib.hid hb5; clear hb5 x0 x1 k0 k1 k2 v8 v9 v10 v11 f4 f5 kf))
      · have hb5 := HBb.out
        have hBw := HBw.out
        have hk5 := keeps_of_below hb5
        have h6 := hBw.trans (hb5.mono hBw.size)
        have hle : d ≤ 0 := by assumption
        exact ⟨((((hk5.trans (KeepsOthers.setCell _ _ _)).trans (KeepsOthers.setCell _ _ _)).trans (KeepsOthers.setCell _ _ _)).trans (KeepsOthers.setCell _ _ _)).from _, ⟨rfl, Hnn.out hle, by simp [setCell_if, z8], by simp [setCell_if, z9], by simp [setCell_if, z10], by simp [setCell_if, z11]⟩,
          Below.setCell (Below.setCell (Below.setCell (Below.setCell h6 (by simp; omega) _) (by simp; omega) _) (by simp; omega) _) (by simp; omega) _⟩
      · have hb5 := HBb.out
        have hc5 := Hcx.out.later hb5
        have hlt2 : d < s2 := by assumption
        have hBt := (((But.of (C := C) hb5 hws).trans (But.set C W0.heap.size 0 _ (.int .i64 u))).trans (But.set C W0.heap.size 1 _ (.int .i64 v))).trans (But.set C W0.heap.size 2 _ (.int .i64 d))
        exact ⟨((((keeps_of_below hb5).trans (KeepsOthers.setCell _ _ _)).trans (KeepsOthers.setCell _ _ _)).trans (KeepsOthers.setCell _ _ _)).from _, hBt, ⟨Hpp.out (by omega), by rw [He0.out, He1.out, He2.out, if_pos hlt2, if_pos hlt2, if_pos hlt2]; exact hc5.set3 u v d⟩, HBW.out.trans hBt⟩
      · have hb5 := HBb.out
        have hc5 := Hcx.out.later hb5
        have hlt2 : ¬ d < s2 := by omega
        have hBt := But.of (C := C) hb5 hws
        exact ⟨(keeps_of_below hb5).from _, hBt, ⟨Hpp.out (by omega), by rw [He0.out, He1.out, He2.out, if_neg hlt2, if_neg hlt2, if_neg hlt2, Hs2.out]; exact hc5⟩, HBW.out.trans hBt⟩
    case done =>
      rintro Dd ys W hD' rfl ⟨⟨hp, hcx⟩, hB⟩ hK
      have hws := hB.size
      have hBw : Below w.heap.size w W := hB.below hBW (by omega) (by omega)
      obtain ⟨p1, p2, p3, p4⟩ := Hp.out
      obtain ⟨q1, q2, q3, q4⟩ := Hq.out
      obtain ⟨s0, h0⟩ : ∃ s0, s0 = bs0 D (axsS za zb (qx - px) (qy - py)) := ⟨_, rfl⟩
      obtain ⟨s1, h1⟩ : ∃ s1, s1 = bs1 D (axsS za zb (qx - px) (qy - py)) := ⟨_, rfl⟩
      obtain ⟨s2, h2⟩ : ∃ s2, s2 = bs2 D (axsS za zb (qx - px) (qy - py)) := ⟨_, rfl⟩
      rw [← h0, ← h1, ← h2] at hcx
      have hfin := fin_all (Hov.out.symm) (by rw [← HD.out]; exact hp) s0 s1 s2 (by rw [← HD.out]; exact h0) (by rw [← HD.out]; exact h1) (by rw [← HD.out]; exact h2)
      obtain ⟨f0, f1, f2, f3, f4⟩ := hfin
      have HF := Lib.hid (show Ending.returned (.tuple #[.agg #[.int .i64 (cnx ra za px py rb zb qx qy), .int .i64 (cny ra za px py rb zb qx qy), .int .i64 (cdp ra za px py rb zb qx qy)], .bool (cis ra za px py rb zb qx qy)]) = .returned (.tuple #[.agg #[.int .i64 (if ((qx - px) * s0 + (qy - py) * s1) / 1024 < 0 then -s0 else s0), .int .i64 (if ((qx - px) * s0 + (qy - py) * s1) / 1024 < 0 then -s1 else s1), .int .i64 s2], .bool true]) by rw [f0, f1, f2, f3])
      obtain ⟨a1, a2, a3, a4⟩ := f4
      dsimp only at a1 a2 a3 a4
      have m1 := mulb (qx - px) s0 (by omega) (by omega)
      have m2 := mulb (qy - py) s1 (by omega) (by omega)
      obtain ⟨m11, m12⟩ := m1
      obtain ⟨m21, m22⟩ := m2
      have cs := sub_any qx qy px py (by omega) (by omega) (by omega) (by omega)
      have cdt := dot_any (qx - px) (qy - py) s0 s1 (by omega) (by omega) (by omega) (by omega)
      have cn := neg_any s0 s1 (by omega) (by omega) (by omega) (by omega)
      generalize ((qx - px) * s0 + (qy - py) * s1) / 1024 = dt at *
      have k0 := hcx.c0
      have k1 := hcx.c1
      have k2 := hcx.c2
      have kf := hcx.f
      have v0 := hB.cell (by omega) (by omega) u0
      have v1 := hB.cell (by omega) (by omega) u1
      have v2 := hB.cell (by omega) (by omega) u2
      have v3 := hB.cell (by omega) (by omega) u3
      have v4 := hB.cell (by omega) (by omega) u4
      have v5 := hB.cell (by omega) (by omega) u5
      have v6 := hB.cell (by omega) (by omega) u6
      have v7 := hB.cell (by omega) (by omega) u7
      have v8 := hB.cell (by omega) (by omega) u8
      have v9 := hB.cell (by omega) (by omega) u9
      have v10 := hB.cell (by omega) (by omega) u10
      have v11 := hB.cell (by omega) (by omega) u11
      have f4 := fun i => hB.froz (by omega) (by omega) (g4 i)
      have f5 := fun i => hB.froz (by omega) (by omega) (g5 i)
      have pv4 := fun V o i => cell_putD (b := w.heap.size + 1 + 1 + 1 + 1) (Dd := Dd) (by omega) V o i
      have pv5 := fun V o i => cell_putD (b := w.heap.size + 1 + 1 + 1 + 1 + 1) (Dd := Dd) (by omega) V o i
      have HK := Lib.hid hK
      have HBw := Lib.hid hBw
      have Hcs := Lib.hid cs; have Hcdt := Lib.hid cdt; have Hcn := Lib.hid cn; clear cs cdt cn
      clear h0 h1 h2 f0 f1 f2 f3 hp hcx hK hBw hB hct Hcd2 HDb Hov HA HB Hp Hq HD u0 u1 u2 u3 u4 u5 u6 u7 u8 u9 u10 u11 d0 d1 d2 d3 d4 d5 d6 d7 g4 g5 m11 m12 m21 m22
      have hal := alloc_if; have hfal := allocF_if
      gi_wp2
      refine Go.Proofs.Ytcgcapfppceggaa.Qn.wpIn_region_later_tail 6 (by kernel_rfl) (by kernel_rfl) (by kernel_rfl) fun NL hL => ?_; obtain ⟨hNL, hlc, hlf⟩ := hL; (try simp only [World.size_alloc, World.size_setCell, World.size_drew] at hNL); simp only [List.take_succ_cons, List.take_zero, List.drop_succ_cons, List.drop_zero]
      repeat (go_big_quiet_step (first | (with_reducible exact later_call (Hcs.out _)) | (with_reducible exact later_call (Hcdt.out _))))
      (refine wpQuiet_nil ?_; intro w1 hw1; obtain ⟨⟨w1, hb1⟩, rfl⟩ := hw1; clear hlc hlf hNL NL; obtain ⟨N1, hN1, hc1, hf1, hs1⟩ := bcell hb1; (try simp only [World.size_alloc, World.size_setCell, World.size_drew] at hN1))
      have y0 := cell_below hb1 k0
      have y1 := cell_below hb1 k1
      have y2 := cell_below hb1 k2
      have yf : ∀ i, w1.frozen? ⟨C, i, none⟩ = false := fun i => (hb1.frozen (p := ⟨C, i, none⟩) (by simp; omega)).trans (kf i)
      have z8 := cell_below hb1 v8
      have z9 := cell_below hb1 v9
      have z10 := cell_below hb1 v10
      have z11 := cell_below hb1 v11
      have z4 : ∀ i, w1.frozen? ⟨w.heap.size + 1 + 1 + 1 + 1, i, none⟩ = false := fun i => (hb1.frozen (p := ⟨w.heap.size + 1 + 1 + 1 + 1, i, none⟩) (by simp; omega)).trans (f4 i)
      have z5 : ∀ i, w1.frozen? ⟨w.heap.size + 1 + 1 + 1 + 1 + 1, i, none⟩ = false := fun i => (hb1.frozen (p := ⟨w.heap.size + 1 + 1 + 1 + 1 + 1, i, none⟩) (by simp; omega)).trans (f5 i)
      have hk1 := keeps_of_below hb1
      have hBw1 := HBw.out.trans (hb1.mono HBw.out.size)
      have Hk1 := Lib.hid hk1
      have HBw1 := Lib.hid hBw1
      clear hb1 hk1 hBw1 hc1 hf1 v0 v1 v2 v3 v4 v5 v6 v7 v8 v9 v10 v11 f4 f5 k0 k1 k2 kf
      go_wp2
      refine Go.Proofs.Ytcgcapfppceggaa.Qn.calmly_normal ?_
      gi_wp2_with (((refine ⟨trivial, ?_⟩; with_reducible refine (callsIn_wide.2 (Hcn.out _)).mono ?_); rintro e w6 ⟨rfl, hb6⟩; have x0 := cell_below hb6 y0; have x1 := cell_below hb6 y1; have x2 := cell_below hb6 y2; have xf : ∀ i, w6.frozen? ⟨C, i, none⟩ = false := (fun i => (hb6.frozen (p := ⟨C, i, none⟩) (by simp; omega)).trans (yf i)); have t8 := cell_below hb6 z8; have t9 := cell_below hb6 z9; have t10 := cell_below hb6 z10; have t11 := cell_below hb6 z11; have t4 : ∀ i, w6.frozen? ⟨w.heap.size + 1 + 1 + 1 + 1, i, none⟩ = false := (fun i => (hb6.frozen (p := ⟨w.heap.size + 1 + 1 + 1 + 1, i, none⟩) (by simp; omega)).trans (z4 i)); have t5 : ∀ i, w6.frozen? ⟨w.heap.size + 1 + 1 + 1 + 1 + 1, i, none⟩ = false := (fun i => (hb6.frozen (p := ⟨w.heap.size + 1 + 1 + 1 + 1 + 1, i, none⟩) (by simp; omega)).trans (z5 i)); have hk6 := Hk1.out.trans (keeps_of_below hb6); have hBw6 := HBw1.out.trans (hb6.mono HBw1.out.size); have hsi := setCell_if; have Hk6 := Lib.hid hk6; have HBw6 := Lib.hid hBw6; clear hb6 hk6 hBw6 y0 y1 y2 yf z8 z9 z10 z11 z4 z5))
      · have hdt : dt < 0 := by assumption
        refine ⟨by simp, .inl ⟨_, _, rfl, run_takeDeferred (KeepsOthers.same (W := W) ?_ Dd _ HK.out rfl), ?_⟩⟩
        · repeat (with_reducible refine KeepsOthers.trans ?_ (KeepsOthers.setCell _ _ _))
          exact Hk6.out
        have nc4 : ¬ (w.heap.size + 1 + 1 + 1 + 1 = C) := by omega
        have nc5 : ¬ (w.heap.size + 1 + 1 + 1 + 1 + 1 = C) := by omega
        refine ⟨_, by simp [results, Try.f21, go_sem, setCell_if, nc4, nc5, pv4, pv5, t8, t9, t10, t11]; rfl, ?_, ?_⟩
        · rw [HF.out, if_pos hdt, if_pos hdt]
        · refine below_putD ?_ (Nat.le_refl _) (by omega) _
          have hBw6 := HBw6.out
          (repeat (first | (with_reducible exact Below.refl _ _) | (with_reducible refine Below.drew ?_) | (with_reducible refine below_drewN ?_ _) | (with_reducible refine Below.setCell ?_ (by first | (simp; done) | (simp; omega) | omega) _) | (with_reducible refine Below.alloc ?_ (by first | (simp; done) | (simp; omega) | omega) _) | (with_reducible refine Below.trans ?_ (Below.mono (by assumption) (by first | (simp; done) | (simp; omega) | omega))) | (with_reducible refine Below.trans ?_ (Below.mono (Later.below _) (by first | (simp; done) | (simp; omega) | omega)))))
      · have hdt : ¬ dt < 0 := by omega
        refine ⟨by simp, .inl ⟨_, _, rfl, run_takeDeferred (KeepsOthers.same (W := W) ?_ Dd _ HK.out rfl), ?_⟩⟩
        · repeat (with_reducible refine KeepsOthers.trans ?_ (KeepsOthers.setCell _ _ _))
          exact Hk1.out
        refine ⟨_, by simp [results, Try.f21, go_sem, setCell_if, pv4, pv5, z8, z9, z10, z11]; rfl, ?_, ?_⟩
        · rw [HF.out, if_neg hdt, if_neg hdt]
        · refine below_putD ?_ (Nat.le_refl _) (by omega) _
          have hBw1 := HBw1.out
          (repeat (first | (with_reducible exact Below.refl _ _) | (with_reducible refine Below.drew ?_) | (with_reducible refine below_drewN ?_ _) | (with_reducible refine Below.setCell ?_ (by first | (simp; done) | (simp; omega) | omega) _) | (with_reducible refine Below.alloc ?_ (by first | (simp; done) | (simp; omega) | omega) _) | (with_reducible refine Below.trans ?_ (Below.mono (by assumption) (by first | (simp; done) | (simp; omega) | omega))) | (with_reducible refine Below.trans ?_ (Below.mono (Later.below _) (by first | (simp; done) | (simp; omega) | omega)))))
    case stop =>
      rintro Dd c pre W hD' hpre ⟨⟨rfl, hx, r0, r1, r2, r3⟩, hB⟩ hK
      gi_wp2
      have hcis := cis_some hpre (by rw [← HD.out]; exact hx)
      have pv4 := fun V o i => cell_putD (b := w.heap.size + 1 + 1 + 1 + 1) (Dd := Dd) (by omega) V o i
      have pv5 := fun V o i => cell_putD (b := w.heap.size + 1 + 1 + 1 + 1 + 1) (Dd := Dd) (by omega) V o i
      refine ⟨by simp, .inl ⟨_, _, rfl, run_takeDeferred hK, ?_⟩⟩
      refine ⟨_, by simp [results, Try.f21, go_sem, pv4, pv5, r0, r1, r2, r3]; rfl, ?_, below_putD hB (Nat.le_refl _) (by omega) _⟩
      simp only [cnx, cny, cdp, hcis]
      rfl
end Go.Proofs.Ytcgcapfppceggaa.Co
