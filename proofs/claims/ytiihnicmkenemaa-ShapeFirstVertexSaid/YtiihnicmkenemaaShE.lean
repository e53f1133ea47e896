/-
  Contract of isConvex.
  Conditions: the exact numbers fit 64 bits.
-/
import Derived.Test.YtiihnicmkenemaaShB
namespace Go.Proofs.Ytiihnicmkenemaa.Sh
open Go.RowKit Go.Proofs.Ytiihnicmkenemaa.FxMath Go.Proofs.Ytiihnicmkenemaa.FxA Go.Proofs.Ytiihnicmkenemaa.Qt Go.Proofs.Ytiihnicmkenemaa.Ve Go.Shelf
set_option linter.unusedVariables false
set_option linter.unusedSimpArgs false
attribute [local go_sem] Oper.semAt_some

/-- The origin and all other vertices lie strictly to the left of the edge from i to j. -/
def edgB (zs : List (Int × Int)) (i j : Nat) : Bool := decide (0 < crs (vx zs i) (vy zs i) (vx zs j) (vy zs j) 0 0) && (List.range zs.length).all fun k => decide (k = i) || decide (k = j) || decide (0 < crs (vx zs i) (vy zs i) (vx zs j) (vy zs j) (vx zs k) (vy zs k))
def cvx (zs : List (Int × Int)) : Bool := (List.range zs.length).all fun i => edgB zs i ((i + 1) % zs.length)
theorem edgB_true {zs : List (Int × Int)} {i j : Nat} (h0 : 0 < crs (vx zs i) (vy zs i) (vx zs j) (vy zs j) 0 0) (h : ∀ k, k < zs.length → k ≠ i → k ≠ j → 0 < crs (vx zs i) (vy zs i) (vx zs j) (vy zs j) (vx zs k) (vy zs k)) : edgB zs i j = true := by
  unfold edgB
  rw [Bool.and_eq_true, List.all_eq_true]
  refine ⟨by simpa using h0, fun k hk => ?_⟩
  have hk' := List.mem_range.1 hk
  by_cases h1 : k = i
  · simp [h1]
  · by_cases h2 : k = j
    · simp [h2]
    · simp [h k hk' h1 h2]
theorem edgB_false0 {zs : List (Int × Int)} {i j : Nat} (h0 : crs (vx zs i) (vy zs i) (vx zs j) (vy zs j) 0 0 ≤ 0) : edgB zs i j = false := by
  unfold edgB
  rw [show decide (0 < crs (vx zs i) (vy zs i) (vx zs j) (vy zs j) 0 0) = false by simpa using h0]
  rfl
theorem edgB_false1 {zs : List (Int × Int)} {i j k : Nat} (hk : k < zs.length) (h1 : k ≠ i) (h2 : k ≠ j) (h : crs (vx zs i) (vy zs i) (vx zs j) (vy zs j) (vx zs k) (vy zs k) ≤ 0) : edgB zs i j = false := by
  unfold edgB
  have : (List.range zs.length).all (fun k => decide (k = i) || decide (k = j) || decide (0 < crs (vx zs i) (vy zs i) (vx zs j) (vy zs j) (vx zs k) (vy zs k))) = false := by
    rw [List.all_eq_false]
    exact ⟨k, List.mem_range.2 hk, by simp [h1, h2]; omega⟩
  rw [this, Bool.and_false]
set_option maxRecDepth 100000 in
set_option maxHeartbeats 4000000 in
theorem isConvex_any (a : Option Addr) (len cap : Nat) (zs : List (Int × Int)) (w : World) (h : IsPoly w a len cap zs) (h1 : 1 ≤ len) (h2 : len ≤ 1000) (hz : Bd zs 50000) :
    Calls Try.prog 37 #[.slice a len cap] w fun e w' => e = .returned (.bool (cvx zs)) ∧ Below w.heap.size w w' := by
  refine (callsIn_wide (n := 5)).1 ?_
  refine callsIn_of_wp_marks Try.func37 rfl trivial ?_ rfl
  simp only [Try.ntmps37, List.size_toArray, List.length_cons, List.length_nil, Nat.reduceAdd, Nat.reduceSub, Array.replicate_succ, Array.replicate_zero, List.push_toArray, List.append_toArray, List.nil_append, List.cons_append]
  have hal := alloc_if; have hfal := allocF_if
  gi_wp2_with (first | ((refine ⟨trivial, ?_⟩; gi_at_call 34; refine (callsIn_wide.2 (edges_any _ _)).mono ?_); rintro e w1 ⟨rfl, rfl⟩))
  rcases h with ⟨_, h0, _⟩ | ⟨b, o, rfl, hzl, hlc, hcm, hcell⟩
  · omega
  unfold maxLen at hcm
  obtain ⟨W0, hW0⟩ : ∃ W0, W0 = ((w.alloc (.cells #[.slice (some ⟨b, o, none⟩) len cap] 22)).alloc (.cells #[.bool false] 4)).alloc (.cells #[.int .i64 (len : Int)] 3) := ⟨_, rfl⟩
  have hsz : W0.heap.size = w.heap.size + 1 + 1 + 1 := by rw [hW0]; simp
  have hB0 : Below w.heap.size w W0 := by rw [hW0]; (repeat (first | (with_reducible exact Below.refl _ _) | (with_reducible refine Below.drew ?_) | (with_reducible refine below_drewN ?_ _) | (with_reducible refine Below.setCell ?_ (by first | (simp; done) | (simp; omega) | omega) _) | (with_reducible refine Below.alloc ?_ (by first | (simp; done) | (simp; omega) | omega) _) | (with_reducible refine Below.trans ?_ (Below.mono (by assumption) (by first | (simp; done) | (simp; omega) | omega))) | (with_reducible refine Below.trans ?_ (Below.mono (Later.below _) (by first | (simp; done) | (simp; omega) | omega)))))
  have e1 : W0.cell? ⟨w.heap.size + 1 + 1, 0, none⟩ = some (.int .i64 (len : Int)) := by rw [hW0]; simp [alloc_if, ↓IntWalk.iteOmega]
  have eS : W0.cell? ⟨w.heap.size, 0, none⟩ = some (.slice (some ⟨b, o, none⟩) len cap) := by rw [hW0]; simp [alloc_if, ↓IntWalk.iteOmega]
  have eR : W0.cell? ⟨w.heap.size + 1, 0, none⟩ = some (.bool false) := by rw [hW0]; simp [alloc_if, ↓IntWalk.iteOmega]
  have fR : W0.frozen? ⟨w.heap.size + 1, 0, none⟩ = false := by rw [hW0]; simp [allocF_if, ↓IntWalk.iteOmega]
  rw [← hW0]
  clear hal hfal hW0
  refine' wpIn_rangeFunc_ownF rfl (by decide) (gf := 43) (lb := #[.pointer (some ⟨w.heap.size + 1 + 1, 0, none⟩)]) rfl trivial (enters_of Try.func43 (by kernel_rfl) rfl)
    (edges_stops Fence.wide 4 trivial rfl (by decide) (w.heap.size + 1 + 1) W0.heap.size len h1 h2 _ (by omega) (by omega) e1) belowK_t (belowK_b (Nat.le_refl _)) (Below.refl _ _) (fun _ => rfl)
    (fun pre W => (∀ e ∈ pre, edgB zs e.1.1 e.1.2 = true) ∧ Below W0.heap.size W0 W)
    (fun c pre W => (c = .ret ∧ (∃ e ∈ pre, edgB zs e.1.1 e.1.2 = false) ∧ W.cell? ⟨w.heap.size + 1, 0, none⟩ = some (.bool false)) ∧ Below w.heap.size w W)
    (OwnFrom.and (ownFrom_pure _ _) (ownFrom_below (Nat.le_refl _) (Nat.le_refl _)))
    (fun c => OwnFrom.and (Own.from (fun s A B row hs hg hr => ⟨hs.1, hs.2.1, cell_kept hs.2.2 hg hr⟩) _) (ownFrom_below (Nat.le_refl _) hB0.size))
    ⟨by simp, Below.refl _ _⟩
    _ ?assign ?body ?done ?stop
  case assign =>
    intro l x W K hK
    gi_wp2
    exact hK
  case body =>
    rintro l pre ⟨⟨i, j⟩, hi, hj⟩ W ⟨hp, hB⟩ _
    dsimp only at hi hj ⊢
    have hBw : Below w.heap.size w W := hB0.trans (hB.mono hB0.size)
    have u0 := cell_below hB eS
    have v0 := cell_below hBw (hcell i hi).1
    have v1 := cell_below hBw (hcell i hi).2
    have v2 := cell_below hBw (hcell j hj).1
    have v3 := cell_below hBw (hcell j hj).2
    have hiI : (i : Int) < (len : Int) := by omega
    have hjI : (j : Int) < (len : Int) := by omega
    have hi0 : (0 : Int) ≤ (i : Int) := by omega
    have hj0 : (0 : Int) ≤ (j : Int) := by omega
    have hWs := hB.size
    have lb := World.block_lt_of_cell? w _ (hcell i hi).1
    simp only at lb
    gi_wp2
    refine wpIn_region_ord [0, 1, 2, 3, 4, 5, 6, 7] [8, 9] (by kernel_rfl) (by kernel_rfl) (by kernel_rfl) fun NL hL => ?_
    obtain ⟨hNL, hlc, hlf⟩ := hL
    simp only [List.map_cons, List.map_nil, List.getD_cons_zero, List.getD_cons_succ]
    repeat (go_big_quiet_step (fail))
    refine wpQuiet_nil ?_
    clear hlc hlf hNL u0 v0 v1 v2 v3
    refine wpListS_enter (f := 35) (args := #[.agg #[.int .i64 (vx zs i), .int .i64 (vy zs i)], .agg #[.int .i64 (vx zs j), .int .i64 (vy zs j)]]) (w1 := W.drew) rfl (by go_simp) (side_any _ _ _ _ _) ?_
    rintro e1 w1' ⟨rfl, rfl⟩
    obtain ⟨W4, hW4⟩ : ∃ W4, W4 = (W.drew.alloc (.cells #[.int .i64 (vx zs i), .int .i64 (vy zs i)] 27)).alloc (.cells #[.int .i64 (vx zs j), .int .i64 (vy zs j)] 27) := ⟨_, rfl⟩
    have hb4 : Below W.heap.size W W4 := by rw [hW4]; (repeat (first | (with_reducible exact Below.refl _ _) | (with_reducible refine Below.drew ?_) | (with_reducible refine below_drewN ?_ _) | (with_reducible refine Below.setCell ?_ (by first | (simp; done) | (simp; omega) | omega) _) | (with_reducible refine Below.alloc ?_ (by first | (simp; done) | (simp; omega) | omega) _) | (with_reducible refine Below.trans ?_ (Below.mono (by assumption) (by first | (simp; done) | (simp; omega) | omega))) | (with_reducible refine Below.trans ?_ (Below.mono (Later.below _) (by first | (simp; done) | (simp; omega) | omega)))))
    have c0 : W4.cell? ⟨W.heap.size, 0, none⟩ = some (.int .i64 (vx zs i)) := by rw [hW4]; simp [alloc_if]
    have c1 : W4.cell? ⟨W.heap.size, 1, none⟩ = some (.int .i64 (vy zs i)) := by rw [hW4]; simp [alloc_if]
    have c2 : W4.cell? ⟨W.heap.size + 1, 0, none⟩ = some (.int .i64 (vx zs j)) := by rw [hW4]; simp [alloc_if]
    have c3 : W4.cell? ⟨W.heap.size + 1, 1, none⟩ = some (.int .i64 (vy zs j)) := by rw [hW4]; simp [alloc_if]
    rw [← hW4]
    clear hW4
    refine ⟨_, rfl, ⟨⟨W4, hb4⟩, rfl⟩, ?_⟩
    simp only [Act.put, List.setIfInBounds_toArray, List.set_cons_zero, List.set_cons_succ]
    refine wpListS_value (v := .func (.func 44) #[] #[.pointer (some ⟨W.heap.size + 1, 0, none⟩), .pointer (some ⟨W.heap.size, 0, none⟩)]) (w1 := W4) rfl (by go_simp) ⟨⟨W4, hb4⟩, rfl⟩ ?_
    simp only [Act.put, List.setIfInBounds_toArray, List.set_cons_zero, List.set_cons_succ]
    refine wpListS_nil ?_
    obtain ⟨q, hq⟩ : ∃ q : Int → Int → Int, q = fun x y => crs (vx zs i) (vy zs i) (vx zs j) (vy zs j) x y := ⟨_, rfl⟩
    have bi := hz i
    have bj := hz j
    have hcall : ∀ (x y : Int) (W' : World), Below W4.heap.size W4 W' → -100000000 ≤ x ∧ x ≤ 100000000 → -100000000 ≤ y ∧ y ≤ 100000000 → Calls Try.prog 44 #[.agg #[.int .i64 x, .int .i64 y], .pointer (some ⟨W.heap.size + 1, 0, none⟩), .pointer (some ⟨W.heap.size, 0, none⟩)] W' fun e w' => e = .returned (.int .i64 (q x y)) ∧ Below W'.heap.size W' w' := by
      intro x y W' hb hx hy
      rw [hq]
      exact side1_any (vx zs i) (vy zs i) (vx zs j) (vy zs j) x y _ _ W' (cell_below hb c0) (cell_below hb c1) (cell_below hb c2) (cell_below hb c3) (by omega) (by omega) (by omega) (by omega) hx hy
    have h00 := hcall 0 0 W4 (Below.refl _ _) (by omega) (by omega)
    have HQ := Lib.hid hq
    have Hcall := Lib.hid hcall
    have Hh00 := Lib.hid h00; clear h00
    clear hq hcall c0 c1 c2 c3 bi bj
    have eR4 := cell_below hb4 (cell_below hB eR)
    have lR4 := World.block_lt_of_cell? _ _ eR4
    have fR4 : W4.frozen? ⟨w.heap.size + 1, 0, none⟩ = false := (hb4.frozen (p := ⟨w.heap.size + 1, 0, none⟩) (by simp; omega)).trans ((hB.frozen (p := ⟨w.heap.size + 1, 0, none⟩) (by simp; omega)).trans fR)
    have eS4 := cell_below hb4 (cell_below hB eS)
    simp only at lR4
    gi_wp2_with (((refine ⟨trivial, ?_⟩; with_reducible refine (CallsIn.inRound l (callsIn_wide.2 Hh00.out)).mono ?_); rintro e w5 ⟨rfl, hb5⟩; have eR5 := cell_below hb5 eR4; have fR5 : w5.frozen? ⟨w.heap.size + 1, 0, none⟩ = false := ((hb5.frozen (p := ⟨w.heap.size + 1, 0, none⟩) lR4).trans fR4); have eS5 := cell_below hb5 eS4))
    · have hneg : q 0 0 ≤ 0 := by assumption
      rw [HQ.out] at hneg
      have hb5' := hb4.trans (hb5.mono hb4.size)
      exact ⟨(keeps_of_below hb5').trans (KeepsOthers.setCell _ _ _), ⟨rfl, ⟨_, List.mem_append.2 (.inr (List.mem_singleton.2 rfl)), edgB_false0 hneg⟩, World.cell?_setCell_same' _ _ _ (by rw [eR5]; rfl)⟩, (hBw.trans (hb5'.mono hBw.size)).setCell (p := ⟨w.heap.size + 1, 0, none⟩) (by simp) _⟩
    have hpos : 0 < q 0 0 := by assumption
    have hb5' := hb4.trans (hb5.mono hb4.size)
    have l5 := hb5'.size
    gi_loopw [28] (fun i28 wr => ∃ k : Nat, k ≤ len ∧ i28 = .int .i64 (k : Int) ∧ (∀ k', k' < k → k' ≠ i → k' ≠ j → 0 < q (vx zs k') (vy zs k')) ∧ Below w5.heap.size w5 wr)
      (fun i28 _ => len - (intOf i28).toNat)
    case atStart => exact ⟨0, Nat.zero_le _, rfl, by intro k' hk'; omega, Below.refl _ _⟩
    case round =>
      obtain ⟨k, hk, rfl, hks, hnx⟩ := hrel
      have lr := hnx.size
      by_cases hlt : k < len
      · have hB6 : Below w.heap.size w wr := hBw.trans ((hb5'.trans (hnx.mono l5)).mono hBw.size)
        have v0 := cell_below hB6 (hcell k hlt).1
        have v1 := cell_below hB6 (hcell k hlt).2
        have hltI : (k : Int) < (len : Int) := by omega
        have hk0 : (0 : Int) ≤ (k : Int) := by omega
        have eR6 := cell_below hnx eR5
        have fR6 : wr.frozen? ⟨w.heap.size + 1, 0, none⟩ = false := ((hnx.frozen (p := ⟨w.heap.size + 1, 0, none⟩) (by simp; omega)).trans fR5)
        have bk := hz k
        have hsk : ∀ W' : World, Below wr.heap.size wr W' → (k ≠ i → k ≠ j → 0 < q (vx zs k) (vy zs k)) → (∀ k', k' < k + 1 → k' ≠ i → k' ≠ j → 0 < q (vx zs k') (vy zs k')) ∧ Below w5.heap.size w5 W' := by
          intro W' hW' hq'
          refine ⟨fun k' hk' h1' h2' => ?_, hnx.trans (hW'.mono lr)⟩
          by_cases he : k' = k
          · rw [he] at h1' h2' ⊢; exact hq' h1' h2'
          · exact hks k' (by omega) h1' h2'
        by_cases hki : k = i
        · have b1 : ((k : Int) != (i : Int)) = false := by rw [hki]; simp
          have Hhki := Lib.hid hki; clear hki
          gi_wp2
          refine ⟨fun _ h => (by cases h), ?_⟩
          gi_wp2
          go_roundw
          case rel => exact ⟨k + 1, by omega, by simp, hsk _ (by (repeat (first | (with_reducible exact Below.refl _ _) | (with_reducible refine Below.drew ?_) | (with_reducible refine below_drewN ?_ _) | (with_reducible refine Below.setCell ?_ (by first | (simp; done) | (simp; omega) | omega) _) | (with_reducible refine Below.alloc ?_ (by first | (simp; done) | (simp; omega) | omega) _) | (with_reducible refine Below.trans ?_ (Below.mono (by assumption) (by first | (simp; done) | (simp; omega) | omega))) | (with_reducible refine Below.trans ?_ (Below.mono (Later.below _) (by first | (simp; done) | (simp; omega) | omega)))))) (fun h => absurd Hhki.out h)⟩
          case measure => simp [intOf]; omega
        · by_cases hkj : k = j
          · have b1 : ((k : Int) != (i : Int)) = true := by simp; omega
            have b2 : ((k : Int) != (j : Int)) = false := by rw [hkj]; simp
            have Hhki := Lib.hid hki; have Hhkj := Lib.hid hkj; clear hki hkj
            gi_wp2
            refine ⟨fun _ h => (by cases h), ?_⟩
            gi_wp2
            go_roundw
            case rel => exact ⟨k + 1, by omega, by simp, hsk _ (by (repeat (first | (with_reducible exact Below.refl _ _) | (with_reducible refine Below.drew ?_) | (with_reducible refine below_drewN ?_ _) | (with_reducible refine Below.setCell ?_ (by first | (simp; done) | (simp; omega) | omega) _) | (with_reducible refine Below.alloc ?_ (by first | (simp; done) | (simp; omega) | omega) _) | (with_reducible refine Below.trans ?_ (Below.mono (by assumption) (by first | (simp; done) | (simp; omega) | omega))) | (with_reducible refine Below.trans ?_ (Below.mono (Later.below _) (by first | (simp; done) | (simp; omega) | omega)))))) (fun _ h => absurd Hhkj.out h)⟩
            case measure => simp [intOf]; omega
          · have b1 : ((k : Int) != (i : Int)) = true := by simp; omega
            have b2 : ((k : Int) != (j : Int)) = true := by simp; omega
            have hbW : Below W4.heap.size W4 wr := hb5.trans (hnx.mono hb5.size)
            have Hhki := Lib.hid hki; have Hhkj := Lib.hid hkj; clear hki hkj
            gi_wp2_with (((refine ⟨trivial, ?_⟩; with_reducible refine (CallsIn.inRound l (callsIn_wide.2 (Hcall.out (vx zs k) (vy zs k) _ (hbW.trans (Below.mono (by (repeat (first | (with_reducible exact Below.refl _ _) | (with_reducible refine Below.drew ?_) | (with_reducible refine below_drewN ?_ _) | (with_reducible refine Below.setCell ?_ (by first | (simp; done) | (simp; omega) | omega) _) | (with_reducible refine Below.alloc ?_ (by first | (simp; done) | (simp; omega) | omega) _) | (with_reducible refine Below.trans ?_ (Below.mono (by assumption) (by first | (simp; done) | (simp; omega) | omega))) | (with_reducible refine Below.trans ?_ (Below.mono (Later.below _) (by first | (simp; done) | (simp; omega) | omega)))))) hbW.size)) (by omega) (by omega)))).mono ?_); rintro e w7 ⟨rfl, hb7⟩; have hb8 : Below wr.heap.size wr w7 := Below.trans (by (repeat (first | (with_reducible exact Below.refl _ _) | (with_reducible refine Below.drew ?_) | (with_reducible refine below_drewN ?_ _) | (with_reducible refine Below.setCell ?_ (by first | (simp; done) | (simp; omega) | omega) _) | (with_reducible refine Below.alloc ?_ (by first | (simp; done) | (simp; omega) | omega) _) | (with_reducible refine Below.trans ?_ (Below.mono (by assumption) (by first | (simp; done) | (simp; omega) | omega))) | (with_reducible refine Below.trans ?_ (Below.mono (Later.below _) (by first | (simp; done) | (simp; omega) | omega)))))) (hb7.mono (by simp)); clear hb7; have eR7 := cell_below hb8 eR6; have fR7 : w7.frozen? ⟨w.heap.size + 1, 0, none⟩ = false := ((hb8.frozen (p := ⟨w.heap.size + 1, 0, none⟩) (by simp; omega)).trans fR6)))
            · have hneg : q (vx zs k) (vy zs k) ≤ 0 := by assumption
              rw [HQ.out] at hneg
              have hb9 : Below W.heap.size W w7 := hb5'.trans ((hnx.trans (hb8.mono lr)).mono l5)
              exact ⟨(keeps_of_below hb9).trans (KeepsOthers.setCell _ _ _), ⟨rfl, ⟨_, List.mem_append.2 (.inr (List.mem_singleton.2 rfl)), edgB_false1 (by omega) Hhki.out Hhkj.out hneg⟩, World.cell?_setCell_same' _ _ _ (by rw [eR7]; rfl)⟩, (hBw.trans (hb9.mono hBw.size)).setCell (p := ⟨w.heap.size + 1, 0, none⟩) (by simp) _⟩
            · have hps : 0 < q (vx zs k) (vy zs k) := by assumption
              exact ⟨⟨k + 1, by omega, by simp, hsk _ hb8 (fun _ _ => hps)⟩, by simp [intOf]; omega⟩
      · obtain rfl : k = len := by omega
        gi_wp2
        have hb9 : Below W.heap.size W wr := hb5'.trans (hnx.mono l5)
        refine ⟨keeps_of_below hb9, hb9.mono hWs, fun e he => (List.mem_append.1 he).elim (hp e) (fun h => by rw [List.mem_singleton.1 h]; exact edgB_true (by rw [HQ.out] at hpos; exact hpos) (fun k' h1' h2' h3' => by have := hks k' (by omega) h2' h3'; rw [HQ.out] at this; exact this)), hB.trans (hb9.mono hWs)⟩
  case done =>
    rintro D ys W hD rfl ⟨hp, hB⟩ hK
    have uR := cell_below hB eR
    have gR := (hB.frozen (p := ⟨w.heap.size + 1, 0, none⟩) (by simp; omega)).trans fR
    gi_wp2
    have hK' := (KeepsOthers.setCell W ⟨w.heap.size + 1, 0, none⟩ (.bool true)).same D _ hK rfl
    refine ⟨by simp, .inl ⟨_, _, rfl, run_takeDeferred hK', ?_⟩⟩
    have hc5 := cell_kept (World.cell?_setCell_same' W ⟨w.heap.size + 1, 0, none⟩ (.bool true) (by rw [uR]; rfl)) (grownBy_putObj' _ D (.deferred none)) (fun r e => by cases e; exact ⟨_, hK', rfl⟩)
    have hcv : cvx zs = true := by
      unfold cvx
      rw [List.all_eq_true]
      intro i hi
      rw [List.mem_range, hzl] at hi
      have := hp (edg len h1 i) (by unfold upto; exact List.mem_map.2 ⟨i, List.mem_range.2 hi, rfl⟩)
      simp only [edg, Nat.mod_eq_of_lt hi] at this
      rw [hzl]
      exact this
    have hBw : Below w.heap.size w W := hB0.trans (hB.mono hB0.size)
    refine ⟨.bool true, ?_, by rw [hcv], (hBw.setCell (p := ⟨w.heap.size + 1, 0, none⟩) (by simp) _).trans (belowK_b (w := w) (Nat.le_refl _) _ D _ _ (by have := hB0.size; omega) hK' rfl rfl)⟩
    simp [results, Try.f37, go_sem, hc5]
  case stop =>
    rintro D c pre W hD ⟨k, hk, rfl⟩ ⟨⟨rfl, hx, hc⟩, hB⟩ hK
    gi_wp2
    refine ⟨by simp, .inl ⟨_, _, rfl, run_takeDeferred hK, ?_⟩⟩
    have hc5 := cell_kept hc (grownBy_putObj' _ D (.deferred none)) (fun r e => by cases e; exact ⟨_, hK, rfl⟩)
    have hcv : cvx zs = false := by
      unfold cvx
      rw [List.all_eq_false]
      obtain ⟨e, he, hn⟩ := hx
      unfold upto at he
      obtain ⟨i, hi, rfl⟩ := List.mem_map.1 he
      have hi' : i < len := by have := List.mem_range.1 hi; omega
      simp only [edg, Nat.mod_eq_of_lt hi'] at hn
      exact ⟨i, List.mem_range.2 (by omega), by rw [hzl, hn]; decide⟩
    refine ⟨.bool false, ?_, by rw [hcv], hB.trans (belowK_b (w := w) (Nat.le_refl _) W D _ _ (by have := hB0.size; omega) hK rfl rfl)⟩
    simp [results, Try.f37, go_sem, hc5]
end Go.Proofs.Ytiihnicmkenemaa.Sh
