/-
  Contracts of Contains.
  Conditions: the exact numbers fit 64 bits.
-/
import Derived.Test.YtcgcapfppceggaaShA
namespace Go.Proofs.Ytcgcapfppceggaa.Sh
open Go.RowKit Go.Proofs.Ytcgcapfppceggaa.FxMath Go.Proofs.Ytcgcapfppceggaa.FxA Go.Proofs.Ytcgcapfppceggaa.Qt Go.Proofs.Ytcgcapfppceggaa.Ve Go.Shelf
set_option linter.unusedVariables false
set_option linter.unusedSimpArgs false
attribute [local go_sem] Oper.semAt_some

/-- All edges have the point on their left, or on their line. -/
def cov (zs : List (Int × Int)) (P Q : Int) : Bool := (List.range zs.length).all fun i => decide (0 ≤ crs (vx zs i) (vy zs i) (vx zs ((i + 1) % zs.length)) (vy zs ((i + 1) % zs.length)) P Q)
theorem keeps_of_below {W W' : World} (h : Below W.heap.size W W') : KeepsOthers W W' := ⟨h.size, fun k o hk _ => (h.block k (Array.getElem?_eq_some_iff.1 hk).1).trans hk⟩
set_option maxHeartbeats 2000000 in
theorem contains_circle (r x y p q : Int) (a : Option Addr) (cap : Nat) (hr : -100000000 ≤ r ∧ r ≤ 100000000) (hx : -100000000 ≤ p - x ∧ p - x ≤ 100000000) (hy : -100000000 ≤ q - y ∧ q - y ≤ 100000000) :
    Gives Try.prog 47 #[.agg #[.int .i64 r, .slice a 0 cap], .agg #[.int .i64 x, .int .i64 y], .agg #[.int .i64 p, .int .i64 q]] (.bool (decide ((p - x) * (p - x) + (q - y) * (q - y) ≤ r * r))) := by
  intro w
  have c1 := sub_any p q x y (by omega) (by omega) (by omega) (by omega)
  have c2 := isCircle_yes r a cap
  have m1 := mul_bd hx.1 hx.2 hx.1 hx.2
  have m2 := mul_bd hy.1 hy.2 hy.1 hy.2
  have m3 := mul_bd hr.1 hr.2 hr.1 hr.2
  obtain ⟨e, he⟩ : ∃ e, e = decide ((p - x) * (p - x) + (q - y) * (q - y) ≤ r * r) := ⟨_, rfl⟩
  rw [← he]
  have HE := Lib.hid he
  clear he
  have Hc1 := Lib.hid c1; have Hc2 := Lib.hid c2; clear c1 c2
  have hal := alloc_if; have hfal := allocF_if
  have hst := setCell_if
  go_enter Try.func47, Try.ntmps47
  go_wp2_with (first | ((with_reducible refine (Hc1.out _).mono ?_); rintro e wA ⟨rfl, hbA⟩; obtain ⟨NA, hNA, hcA, hfA, hsA⟩ := bcell hbA; (try simp only [World.size_alloc, World.size_setCell, World.size_drew] at hNA)) | ((with_reducible refine (Hc2.out _).mono ?_); rintro e wB ⟨rfl, hbB⟩; obtain ⟨NB, hNB, hcB, hfB, hsB⟩ := bcell hbB; (try simp only [World.size_alloc, World.size_setCell, World.size_drew] at hNB)))
  refine bodyPost_ret (v := .bool e) (by simp [results, Try.results47, go_sem, hst, hcA, hcB, alloc_if, ↓IntWalk.iteOmega, HE.out]) rfl ⟨rfl, ?_⟩
  (repeat (first | (with_reducible exact Below.refl _ _) | (with_reducible refine Below.drew ?_) | (with_reducible refine below_drewN ?_ _) | (with_reducible refine Below.setCell ?_ (by first | (simp; done) | (simp; omega) | omega) _) | (with_reducible refine Below.alloc ?_ (by first | (simp; done) | (simp; omega) | omega) _) | (with_reducible refine Below.trans ?_ (Below.mono (by assumption) (by first | (simp; done) | (simp; omega) | omega))) | (with_reducible refine Below.trans ?_ (Below.mono (Later.below _) (by first | (simp; done) | (simp; omega) | omega)))))

set_option maxRecDepth 100000 in
set_option maxHeartbeats 2000000 in
theorem contains_poly (r : Int) (a : Option Addr) (len cap : Nat) (zs : List (Int × Int)) (x y p q : Int) (w : World) (h : IsPoly w a len cap zs) (h1 : 1 ≤ len) (h2 : len ≤ 1000) (hz : Bd zs 50000) (hx : -50000000 ≤ p - x ∧ p - x ≤ 50000000) (hy : -50000000 ≤ q - y ∧ q - y ≤ 50000000) :
    Calls Try.prog 47 #[.agg #[.int .i64 r, .slice a len cap], .agg #[.int .i64 x, .int .i64 y], .agg #[.int .i64 p, .int .i64 q]] w fun e w' => e = .returned (.bool (cov zs (p - x) (q - y))) ∧ Below w.heap.size w w' := by
  refine (callsIn_wide (n := 5)).1 ?_
  refine callsIn_of_wp_marks Try.func47 rfl trivial ?_ rfl
  have c1 := sub_any p q x y (by omega) (by omega) (by omega) (by omega)
  have c2 := isCircle_no r a len cap h1 h2
  have Hc1 := Lib.hid c1; have Hc2 := Lib.hid c2; clear c1 c2
  simp only [Try.ntmps47, List.size_toArray, List.length_cons, List.length_nil, Nat.reduceAdd, Nat.reduceSub, Array.replicate_succ, Array.replicate_zero, List.push_toArray, List.append_toArray, List.nil_append, List.cons_append]
  have hal := alloc_if; have hfal := allocF_if
  gi_wp2_with (first | ((refine ⟨trivial, ?_⟩; with_reducible refine (callsIn_wide.2 (Hc1.out _)).mono ?_); rintro e wA ⟨rfl, hbA⟩; obtain ⟨NA, hNA, hcA, hfA, hsA⟩ := bcell hbA; (try simp only [World.size_alloc, World.size_setCell, World.size_drew] at hNA)) | ((refine ⟨trivial, ?_⟩; with_reducible refine (callsIn_wide.2 (Hc2.out _)).mono ?_); rintro e wB ⟨rfl, hbB⟩; obtain ⟨NB, hNB, hcB, hfB, hsB⟩ := bcell hbB; (try simp only [World.size_alloc, World.size_setCell, World.size_drew] at hNB)) | ((refine ⟨trivial, ?_⟩; gi_at_call 76; refine (callsIn_wide.2 (edges_any _ _)).mono ?_); rintro e w1 ⟨rfl, rfl⟩))
  obtain ⟨W0, hW0⟩ : ∃ W0, W0 = wB.alloc (.cells #[.int .i64 (len : Int)] 3) := ⟨_, rfl⟩
  have hsz : W0.heap.size = wB.heap.size + 1 := by rw [hW0]; simp
  have hB0 : Below w.heap.size w W0 := by rw [hW0]; (repeat (first | (with_reducible exact Below.refl _ _) | (with_reducible refine Below.drew ?_) | (with_reducible refine below_drewN ?_ _) | (with_reducible refine Below.setCell ?_ (by first | (simp; done) | (simp; omega) | omega) _) | (with_reducible refine Below.alloc ?_ (by first | (simp; done) | (simp; omega) | omega) _) | (with_reducible refine Below.trans ?_ (Below.mono (by assumption) (by first | (simp; done) | (simp; omega) | omega))) | (with_reducible refine Below.trans ?_ (Below.mono (Later.below _) (by first | (simp; done) | (simp; omega) | omega)))))
  have e1 : W0.cell? ⟨wB.heap.size, 0, none⟩ = some (.int .i64 (len : Int)) := by rw [hW0]; exact World.cell?_alloc_new wB _ _ 0
  have eS : W0.cell? ⟨w.heap.size, 1, none⟩ = some (.slice a len cap) := by rw [hW0]; simp [hcA, hcB, alloc_if, ↓IntWalk.iteOmega]
  have eR : W0.cell? ⟨w.heap.size + 1 + 1 + 1, 0, none⟩ = some (.bool false) := by rw [hW0]; simp [hcA, hcB, alloc_if, ↓IntWalk.iteOmega]
  have fR : W0.frozen? ⟨w.heap.size + 1 + 1 + 1, 0, none⟩ = false := by rw [hW0]; simp [hfA, hfB, allocF_if, ↓IntWalk.iteOmega]
  have eD0 : W0.cell? ⟨wA.heap.size, 0, none⟩ = some (.int .i64 (p - x)) := by rw [hW0]; simp [hcA, hcB, alloc_if, ↓IntWalk.iteOmega]
  have eD1 : W0.cell? ⟨wA.heap.size, 1, none⟩ = some (.int .i64 (q - y)) := by rw [hW0]; simp [hcA, hcB, alloc_if, ↓IntWalk.iteOmega]
  rw [← hW0]
  obtain ⟨A0, hA0⟩ : ∃ A0, A0 = wA.heap.size := ⟨_, rfl⟩
  obtain ⟨B0, hB0'⟩ : ∃ B0, B0 = wB.heap.size := ⟨_, rfl⟩
  rw [← hA0] at eD0 eD1 ⊢
  rw [← hB0'] at e1 hsz ⊢
  have l1 := World.block_lt_of_cell? W0 _ e1
  have lR := World.block_lt_of_cell? W0 _ eR
  have lA := World.block_lt_of_cell? W0 _ eD0
  simp only at l1 lR lA
  clear hal hfal hcA hcB hfA hfB hsA hsB hNA hNB hbA hbB hW0 hA0 hB0' Hc1 Hc2
  obtain ⟨P, hP⟩ : ∃ P, P = p - x := ⟨_, rfl⟩
  obtain ⟨Q, hQ⟩ : ∃ Q, Q = q - y := ⟨_, rfl⟩
  rw [← hP] at hx eD0 ⊢
  rw [← hQ] at hy eD1 ⊢
  have HP := Lib.hid hP
  have HQ := Lib.hid hQ
  clear hP hQ
  rcases h with ⟨_, h0, _⟩ | ⟨b, o, rfl, hzl, hlc, hcm, hcell⟩
  · omega
  unfold maxLen at hcm
  refine' wpIn_rangeFunc_ownF rfl (by decide) (gf := 88) (lb := #[.pointer (some ⟨B0, 0, none⟩)]) rfl trivial (enters_of Try.func88 (by kernel_rfl) rfl)
    (edges_stops Fence.wide 4 trivial rfl (by decide) B0 W0.heap.size len h1 h2 _ l1 l1 e1) belowK_t (belowK_b (Nat.le_refl _)) (Below.refl _ _) (fun _ => rfl)
    (fun pre W => (∀ e ∈ pre, 0 ≤ crs (vx zs e.1.1) (vy zs e.1.1) (vx zs e.1.2) (vy zs e.1.2) P Q) ∧ Below W0.heap.size W0 W)
    (fun c pre W => (c = .ret ∧ (∃ e ∈ pre, crs (vx zs e.1.1) (vy zs e.1.1) (vx zs e.1.2) (vy zs e.1.2) P Q < 0) ∧ W.cell? ⟨w.heap.size + 1 + 1 + 1, 0, none⟩ = some (.bool false)) ∧ Below w.heap.size w W)
    (OwnFrom.and (ownFrom_pure _ _) (ownFrom_below (Nat.le_refl _) (Nat.le_refl _)))
    (fun c => OwnFrom.and (Own.from (fun s A B row hs hg hr => ⟨hs.1, hs.2.1, cell_kept hs.2.2 hg hr⟩) _) (ownFrom_below (Nat.le_refl _) hB0.size))
    ⟨by simp, Below.refl _ _⟩
    _ ?assign ?body ?done ?stop
  case assign =>
    intro l x W K hK
    gi_wp2
    exact hK
  case body =>
    rintro l pre ⟨⟨i, j⟩, hi, hj⟩ W ⟨hp, hB⟩ _
    dsimp only at hi hj ⊢
    have hBw : Below w.heap.size w W := hB0.trans (hB.mono hB0.size)
    have u0 := cell_below hB eS
    have u1 := cell_below hB eD0
    have u2 := cell_below hB eD1
    have v0 := cell_below hBw (hcell i hi).1
    have v1 := cell_below hBw (hcell i hi).2
    have v2 := cell_below hBw (hcell j hj).1
    have v3 := cell_below hBw (hcell j hj).2
    have hiI : (i : Int) < (len : Int) := by omega
    have hjI : (j : Int) < (len : Int) := by omega
    have hi0 : (0 : Int) ≤ (i : Int) := by omega
    have hj0 : (0 : Int) ≤ (j : Int) := by omega
    have hWs := hB.size
    have hws := hB0.size
    have lb := World.block_lt_of_cell? w _ (hcell i hi).1
    simp only at lb
    gi_wp2
    refine wpIn_region_ord [0, 1, 2, 3, 4, 5, 6, 7, 8, 9, 11] [10, 12, 13] (by kernel_rfl) (by kernel_rfl) (by kernel_rfl) fun NL hL => ?_
    obtain ⟨hNL, hlc, hlf⟩ := hL
    simp only [List.map_cons, List.map_nil, List.getD_cons_zero, List.getD_cons_succ]
    repeat (go_big_quiet_step (fail))
    refine wpQuiet_nil ?_
    clear hlc hlf hNL u0 u1 u2 v0 v1 v2 v3
    refine wpListS_enter (f := 77) (args := #[.agg #[.int .i64 (vx zs i), .int .i64 (vy zs i)], .agg #[.int .i64 (vx zs j), .int .i64 (vy zs j)]]) (w1 := W.drew) rfl (by go_simp) (side_any _ _ _ _ _) ?_
    rintro e1 w1' ⟨rfl, rfl⟩
    have hbA : Below W.heap.size W ((W.drew.alloc (.cells #[.int .i64 (vx zs i), .int .i64 (vy zs i)] 29)).alloc (.cells #[.int .i64 (vx zs j), .int .i64 (vy zs j)] 29)) := by (repeat (first | (with_reducible exact Below.refl _ _) | (with_reducible refine Below.drew ?_) | (with_reducible refine below_drewN ?_ _) | (with_reducible refine Below.setCell ?_ (by first | (simp; done) | (simp; omega) | omega) _) | (with_reducible refine Below.alloc ?_ (by first | (simp; done) | (simp; omega) | omega) _) | (with_reducible refine Below.trans ?_ (Below.mono (by assumption) (by first | (simp; done) | (simp; omega) | omega))) | (with_reducible refine Below.trans ?_ (Below.mono (Later.below _) (by first | (simp; done) | (simp; omega) | omega)))))
    refine ⟨_, rfl, ⟨⟨_, hbA⟩, rfl⟩, ?_⟩
    simp only [Act.put, List.setIfInBounds_toArray, List.set_cons_zero, List.set_cons_succ]
    have bi := hz i
    have bj := hz j
    refine wpListS_enter (f := 89) (args := #[.agg #[.int .i64 P, .int .i64 Q], .pointer (some ⟨W.drew.heap.size + 1, 0, none⟩), .pointer (some ⟨W.drew.heap.size, 0, none⟩)]) (w1 := (W.drew.alloc (.cells #[.int .i64 (vx zs i), .int .i64 (vy zs i)] 29)).alloc (.cells #[.int .i64 (vx zs j), .int .i64 (vy zs j)] 29)) rfl (by go_simp)
      (side1_any (vx zs i) (vy zs i) (vx zs j) (vy zs j) P Q _ _ _ (by simp [alloc_if]) (by simp [alloc_if]) (by simp [alloc_if]) (by simp [alloc_if]) (by omega) (by omega) (by omega) (by omega) (by omega) (by omega)) ?_
    rintro e2 w2 ⟨rfl, hb2⟩
    have hb3 : Below W.heap.size W w2 := hbA.trans (hb2.mono hbA.size)
    clear hbA
    refine ⟨_, rfl, ⟨⟨w2, hb3⟩, rfl⟩, ?_⟩
    simp only [Act.put, List.setIfInBounds_toArray, List.set_cons_zero, List.set_cons_succ]
    obtain ⟨t, ht⟩ : ∃ t, t = crs (vx zs i) (vy zs i) (vx zs j) (vy zs j) P Q := ⟨_, rfl⟩
    rw [← ht]
    refine wpListS_value (v := .bool (decide (t < 0))) (w1 := w2) rfl (by rfl) ⟨⟨w2, hb3⟩, rfl⟩ ?_
    simp only [Act.put, List.setIfInBounds_toArray, List.set_cons_zero, List.set_cons_succ]
    refine wpListS_nil ?_
    have uR := cell_below hb3 (cell_below hB eR)
    have gR : w2.frozen? ⟨w.heap.size + 1 + 1 + 1, 0, none⟩ = false := (hb3.frozen (p := ⟨w.heap.size + 1 + 1 + 1, 0, none⟩) (by simp; omega)).trans ((hB.frozen (p := ⟨w.heap.size + 1 + 1 + 1, 0, none⟩) lR).trans fR)
    have HT := Lib.hid ht
    clear ht hb2 bi bj
    gi_wp2
    · have hneg : t < 0 := by assumption
      rw [HT.out] at hneg
      exact ⟨(keeps_of_below hb3).trans (KeepsOthers.setCell _ _ _), ⟨rfl, ⟨_, List.mem_append.2 (.inr (List.mem_singleton.2 rfl)), hneg⟩, World.cell?_setCell_same' _ _ _ (by rw [uR]; rfl)⟩, (hBw.trans (hb3.mono hBw.size)).setCell (p := ⟨w.heap.size + 1 + 1 + 1, 0, none⟩) (by simp; omega) _⟩
    · have hpos : 0 ≤ t := by assumption
      rw [HT.out] at hpos
      exact ⟨keeps_of_below hb3, hb3.mono hWs, fun e he => (List.mem_append.1 he).elim (hp e) (fun h => by rw [List.mem_singleton.1 h]; exact hpos), hB.trans (hb3.mono hWs)⟩
  case done =>
    rintro D ys W hD rfl ⟨hp, hB⟩ hK
    have uR := cell_below hB eR
    have gR := (hB.frozen (p := ⟨w.heap.size + 1 + 1 + 1, 0, none⟩) lR).trans fR
    gi_wp2
    have hK' := (KeepsOthers.setCell W ⟨w.heap.size + 1 + 1 + 1, 0, none⟩ (.bool true)).same D _ hK rfl
    refine ⟨by simp, .inl ⟨_, _, rfl, run_takeDeferred hK', ?_⟩⟩
    have hc5 := cell_kept (World.cell?_setCell_same' W ⟨w.heap.size + 1 + 1 + 1, 0, none⟩ (.bool true) (by rw [uR]; rfl)) (grownBy_putObj' _ D (.deferred none)) (fun r e => by cases e; exact ⟨_, hK', rfl⟩)
    have hcv : cov zs P Q = true := by
      unfold cov
      rw [List.all_eq_true]
      intro i hi
      rw [List.mem_range, hzl] at hi
      have := hp (edg len h1 i) (by unfold upto; exact List.mem_map.2 ⟨i, List.mem_range.2 hi, rfl⟩)
      simp only [edg, Nat.mod_eq_of_lt hi] at this
      rw [hzl]
      simpa using this
    have hBw : Below w.heap.size w W := hB0.trans (hB.mono hB0.size)
    refine ⟨.bool true, ?_, by rw [← HP.out, ← HQ.out, hcv], (hBw.setCell (p := ⟨w.heap.size + 1 + 1 + 1, 0, none⟩) (by simp; omega) _).trans (belowK_b (w := w) (Nat.le_refl _) _ D _ _ (by have := hB0.size; omega) hK' rfl rfl)⟩
    simp [results, Try.f47, go_sem, hc5]
  case stop =>
    rintro D c pre W hD ⟨k, hk, rfl⟩ ⟨⟨rfl, hx, hc⟩, hB⟩ hK
    gi_wp2
    refine ⟨by simp, .inl ⟨_, _, rfl, run_takeDeferred hK, ?_⟩⟩
    have hc5 := cell_kept hc (grownBy_putObj' _ D (.deferred none)) (fun r e => by cases e; exact ⟨_, hK, rfl⟩)
    have hcv : cov zs P Q = false := by
      unfold cov
      rw [List.all_eq_false]
      obtain ⟨e, he, hn⟩ := hx
      unfold upto at he
      obtain ⟨i, hi, rfl⟩ := List.mem_map.1 he
      have hi' : i < len := by have := List.mem_range.1 hi; omega
      simp only [edg, Nat.mod_eq_of_lt hi'] at hn
      exact ⟨i, List.mem_range.2 (by omega), by rw [hzl]; simpa using hn⟩
    refine ⟨.bool false, ?_, by rw [← HP.out, ← HQ.out, hcv], hB.trans (belowK_b (w := w) (Nat.le_refl _) W D _ _ (by have := hB0.size; omega) hK rfl rfl)⟩
    simp [results, Try.f47, go_sem, hc5]
end Go.Proofs.Ytcgcapfppceggaa.Sh
