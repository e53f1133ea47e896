/-
  The reference of package collide: axis, Overlap, edges, nearest.
  Conditions: stated in each contract.
-/
import Derived.Test.YtcgcapfppceggaaCoD
import Derived.Test.YtcgcapfppceggaaQe
import Derived.Test.YtcgcapfppceggaaQk
namespace Go.Proofs.Ytcgcapfppceggaa.Co
open Go.RowKit Go.Proofs.Ytcgcapfppceggaa.FxMath Go.Proofs.Ytcgcapfppceggaa.FxA Go.Proofs.Ytcgcapfppceggaa.Qt Go.Proofs.Ytcgcapfppceggaa.Ve Go.Proofs.Ytcgcapfppceggaa.Sh Go.Shelf
set_option linter.unusedVariables false
set_option linter.unusedSimpArgs false
attribute [local go_sem] Oper.semAt_some
theorem raxis_of (x y p q : Int) (c : Gives Try.prog 84 #[.agg #[.int .i64 x, .int .i64 y]] (.agg #[.int .i64 p, .int .i64 q])) : Gives Try.prog 57 #[.agg #[.int .i64 x, .int .i64 y]] (.agg #[.int .i64 (if p = 0 ∧ q = 0 then 1024 else p), .int .i64 (if p = 0 ∧ q = 0 then 0 else q)]) := by
  intro w
  have Hc := Lib.hid c; clear c
  have hal := alloc_if; have hfal := allocF_if
  have hst := setCell_if
  by_cases hp : p = 0
  · by_cases hq : q = 0
    · subst hp hq
      rw [if_pos ⟨rfl, rfl⟩, if_pos ⟨rfl, rfl⟩]
      go_enter Try.func57, Try.ntmps57
      go_wp2_with (first | ((with_reducible refine (Hc.out _).mono ?_); rintro e wA ⟨rfl, hbA⟩; obtain ⟨NA, hNA, hcA, hfA, hsA⟩ := bcell hbA; (try simp only [World.size_alloc, World.size_setCell, World.size_drew] at hNA)))
      refine bodyPost_ret (v := .agg #[.int .i64 1024, .int .i64 0]) (by simp [results, Try.results57, go_sem, hst, hcA, alloc_if, ↓IntWalk.iteOmega]) rfl ⟨rfl, ?_⟩
      (repeat (first | (with_reducible exact Below.refl _ _) | (with_reducible refine Below.drew ?_) | (with_reducible refine below_drewN ?_ _) | (with_reducible refine Below.setCell ?_ (by first | (simp; done) | (simp; omega) | omega) _) | (with_reducible refine Below.alloc ?_ (by first | (simp; done) | (simp; omega) | omega) _) | (with_reducible refine Below.trans ?_ (Below.mono (by assumption) (by first | (simp; done) | (simp; omega) | omega))) | (with_reducible refine Below.trans ?_ (Below.mono (Later.below _) (by first | (simp; done) | (simp; omega) | omega)))))
    · rw [if_neg (by omega), if_neg (by omega)]
      subst hp
      have hq' : (q == 0) = false := beq_eq_false_iff_ne.2 hq
      go_enter Try.func57, Try.ntmps57
      go_wp2_with (first | ((with_reducible refine (Hc.out _).mono ?_); rintro e wA ⟨rfl, hbA⟩; obtain ⟨NA, hNA, hcA, hfA, hsA⟩ := bcell hbA; (try simp only [World.size_alloc, World.size_setCell, World.size_drew] at hNA)))
      refine bodyPost_ret (v := .agg #[.int .i64 0, .int .i64 q]) (by simp [results, Try.results57, go_sem, hst, hcA, alloc_if, ↓IntWalk.iteOmega]) rfl ⟨rfl, ?_⟩
      (repeat (first | (with_reducible exact Below.refl _ _) | (with_reducible refine Below.drew ?_) | (with_reducible refine below_drewN ?_ _) | (with_reducible refine Below.setCell ?_ (by first | (simp; done) | (simp; omega) | omega) _) | (with_reducible refine Below.alloc ?_ (by first | (simp; done) | (simp; omega) | omega) _) | (with_reducible refine Below.trans ?_ (Below.mono (by assumption) (by first | (simp; done) | (simp; omega) | omega))) | (with_reducible refine Below.trans ?_ (Below.mono (Later.below _) (by first | (simp; done) | (simp; omega) | omega)))))
  · rw [if_neg (by omega), if_neg (by omega)]
    have hp' : (p == 0) = false := beq_eq_false_iff_ne.2 hp
    go_enter Try.func57, Try.ntmps57
    go_wp2_with (first | ((with_reducible refine (Hc.out _).mono ?_); rintro e wA ⟨rfl, hbA⟩; obtain ⟨NA, hNA, hcA, hfA, hsA⟩ := bcell hbA; (try simp only [World.size_alloc, World.size_setCell, World.size_drew] at hNA)))
    refine bodyPost_ret (v := .agg #[.int .i64 p, .int .i64 q]) (by simp [results, Try.results57, go_sem, hst, hcA, alloc_if, ↓IntWalk.iteOmega]) rfl ⟨rfl, ?_⟩
    (repeat (first | (with_reducible exact Below.refl _ _) | (with_reducible refine Below.drew ?_) | (with_reducible refine below_drewN ?_ _) | (with_reducible refine Below.setCell ?_ (by first | (simp; done) | (simp; omega) | omega) _) | (with_reducible refine Below.alloc ?_ (by first | (simp; done) | (simp; omega) | omega) _) | (with_reducible refine Below.trans ?_ (Below.mono (by assumption) (by first | (simp; done) | (simp; omega) | omega))) | (with_reducible refine Below.trans ?_ (Below.mono (Later.below _) (by first | (simp; done) | (simp; omega) | omega)))))
theorem raxis_any (x y : Int) (hx : -100000000 ≤ x ∧ x ≤ 100000000) (hy : -100000000 ≤ y ∧ y ≤ 100000000) : Gives Try.prog 57 #[.agg #[.int .i64 x, .int .i64 y]] (.agg #[.int .i64 (unx x y), .int .i64 (uny x y)]) :=
  raxis_of x y (nmx x y) (nmy x y) (rnormalize_any x y (by omega) (by omega) (by omega) (by omega) (by have := sq_bd hx.1 hx.2; omega) (by have := sq_bd hy.1 hy.2; omega))
theorem roverlap_any (a0 a1 a2 a3 b0 b1 b2 b3 : Int) : Gives Try.prog 60 #[.agg #[.int .i64 a0, .int .i64 a1, .int .i64 a2, .int .i64 a3], .agg #[.int .i64 b0, .int .i64 b1, .int .i64 b2, .int .i64 b3]] (.bool (decide (max a0 b0 ≤ min a2 b2) && decide (max a1 b1 ≤ min a3 b3))) := by
  intro w
  have hal := alloc_if; have hfal := allocF_if
  have hst := setCell_if
  by_cases h1 : max a0 b0 ≤ min a2 b2
  · by_cases h2 : max a1 b1 ≤ min a3 b3
    · rw [decide_eq_true h1, decide_eq_true h2]
      go_enter Try.func60, Try.ntmps60
      go_wp2
      go_ret
      exact ⟨rfl, by (repeat (first | (with_reducible exact Below.refl _ _) | (with_reducible refine Below.drew ?_) | (with_reducible refine below_drewN ?_ _) | (with_reducible refine Below.setCell ?_ (by first | (simp; done) | (simp; omega) | omega) _) | (with_reducible refine Below.alloc ?_ (by first | (simp; done) | (simp; omega) | omega) _) | (with_reducible refine Below.trans ?_ (Below.mono (by assumption) (by first | (simp; done) | (simp; omega) | omega))) | (with_reducible refine Below.trans ?_ (Below.mono (Later.below _) (by first | (simp; done) | (simp; omega) | omega)))))⟩
    · rw [decide_eq_true h1, decide_eq_false h2]
      go_enter Try.func60, Try.ntmps60
      go_wp2
      go_ret
      exact ⟨rfl, by (repeat (first | (with_reducible exact Below.refl _ _) | (with_reducible refine Below.drew ?_) | (with_reducible refine below_drewN ?_ _) | (with_reducible refine Below.setCell ?_ (by first | (simp; done) | (simp; omega) | omega) _) | (with_reducible refine Below.alloc ?_ (by first | (simp; done) | (simp; omega) | omega) _) | (with_reducible refine Below.trans ?_ (Below.mono (by assumption) (by first | (simp; done) | (simp; omega) | omega))) | (with_reducible refine Below.trans ?_ (Below.mono (Later.below _) (by first | (simp; done) | (simp; omega) | omega)))))⟩
  · rw [decide_eq_false h1, Bool.false_and]
    go_enter Try.func60, Try.ntmps60
    go_wp2
    go_ret
    exact ⟨rfl, by (repeat (first | (with_reducible exact Below.refl _ _) | (with_reducible refine Below.drew ?_) | (with_reducible refine below_drewN ?_ _) | (with_reducible refine Below.setCell ?_ (by first | (simp; done) | (simp; omega) | omega) _) | (with_reducible refine Below.alloc ?_ (by first | (simp; done) | (simp; omega) | omega) _) | (with_reducible refine Below.trans ?_ (Below.mono (by assumption) (by first | (simp; done) | (simp; omega) | omega))) | (with_reducible refine Below.trans ?_ (Below.mono (Later.below _) (by first | (simp; done) | (simp; omega) | omega)))))⟩
theorem roverlap_s {w : World} {ra : Int} {aa : Option Addr} {la ca : Nat} {za : List (Int × Int)} {rb : Int} {ab : Option Addr} {lb cb : Nat} {zb : List (Int × Int)}
    (hA : ShAt w ra aa la ca za) (hB : ShAt w rb ab lb cb zb) (px py qx qy : Int) :
    Gives Try.prog 60 #[.agg #[.int .i64 (bx0 ra la za px), .int .i64 (by0 ra la za py), .int .i64 (bx1 ra la za px), .int .i64 (by1 ra la za py)], .agg #[.int .i64 (bx0 rb lb zb qx), .int .i64 (by0 rb lb zb qy), .int .i64 (bx1 rb lb zb qx), .int .i64 (by1 rb lb zb qy)]] (.bool (ovl ra za px py rb zb qx qy)) := by
  have e1 := hA.poly.len
  have e2 := hB.poly.len
  have b1 := box_bd hA px py
  have b2 := box_bd hB qx qy
  have e : ovl ra za px py rb zb qx qy = (decide (max (bx0 ra la za px) (bx0 rb lb zb qx) ≤ min (bx1 ra la za px) (bx1 rb lb zb qx)) && decide (max (by0 ra la za py) (by0 rb lb zb qy) ≤ min (by1 ra la za py) (by1 rb lb zb qy))) := by
    unfold ovl
    rw [e1, e2, Bool.eq_iff_iff]
    simp only [Bool.and_eq_true, decide_eq_true_eq]
    omega
  rw [e]
  exact roverlap_any _ _ _ _ _ _ _ _
def ept (zs : List (Int × Int)) (k : Nat) : List (Int × Int) := (List.range k).map (edn zs)
theorem ept_all (zs : List (Int × Int)) : ept zs zs.length = eax zs := rfl
theorem ept_len (zs : List (Int × Int)) (k : Nat) : (ept zs k).length = k := by simp [ept]
theorem ept_flat (zs : List (Int × Int)) (k : Nat) : flat (ept zs (k + 1)) = flat (ept zs k) ++ [.int .i64 (edx zs k), .int .i64 (edy zs k)] := by
  unfold ept
  rw [List.range_succ, List.map_append, flat_append]
  rfl
theorem redges_circle (r : Int) (w : World) : Calls Try.prog 56 #[.agg #[.int .i64 r, .slice none 0 0]] w fun e w' => e = .returned (.slice none 0 0) ∧ Below w.heap.size w w' := by
  have hal := alloc_if; have hfal := allocF_if
  go_enter Try.func56, Try.ntmps56
  go_wp2
  obtain ⟨W0, hW0⟩ : ∃ W0, W0 = w.alloc (.cells #[.int .i64 r, .slice none 0 0] 25) := ⟨_, rfl⟩
  have st0 : Below w.heap.size w W0 := by rw [hW0]; (repeat (first | (with_reducible exact Below.refl _ _) | (with_reducible refine Below.drew ?_) | (with_reducible refine below_drewN ?_ _) | (with_reducible refine Below.setCell ?_ (by first | (simp; done) | (simp; omega) | omega) _) | (with_reducible refine Below.alloc ?_ (by first | (simp; done) | (simp; omega) | omega) _) | (with_reducible refine Below.trans ?_ (Below.mono (by assumption) (by first | (simp; done) | (simp; omega) | omega))) | (with_reducible refine Below.trans ?_ (Below.mono (Later.below _) (by first | (simp; done) | (simp; omega) | omega)))))
  have q4 : W0.cell? ⟨w.heap.size, 1, none⟩ = some (.slice none 0 0) := by rw [hW0]; exact World.cell?_alloc_new w _ _ 1
  rw [← hW0]
  clear hW0
  go_loopw [3, 4] (fun l i wr => l = .slice none 0 0 ∧ i = .int .i64 0 ∧ wr = W0) (fun _ i _ => 0)
  case atStart => exact ⟨rfl, rfl, rfl⟩
  case round =>
    obtain ⟨rfl, rfl, rfl⟩ := hrel
    go_wp2
    go_ret
    exact ⟨rfl, st0⟩
set_option maxRecDepth 100000 in
set_option maxHeartbeats 4000000 in
theorem redges_poly (r : Int) (a : Option Addr) (len cap : Nat) (zs : List (Int × Int)) (w : World) (h : IsPoly w a len cap zs) (h1 : 1 ≤ len) (h2 : len ≤ 1000) (hz : Bd zs 50000) :
    Calls Try.prog 56 #[.agg #[.int .i64 r, .slice a len cap]] w fun e w' => ∃ v, e = .returned v ∧ w'.ownsRow w.heap.size 29 2 v len (flat (eax zs)) ∧ Below w.heap.size w w' := by
  have cx := fun (i j : Nat) => raxis_any (vy zs j - vy zs i) (vx zs i - vx zs j) (by have := hz i; have := hz j; omega) (by have := hz i; have := hz j; omega)
  rcases h with ⟨_, h0, _⟩ | ⟨b, o, rfl, hzl, hle, hcm, hcell⟩
  · omega
  unfold maxLen at hcm
  have lb := World.block_lt_of_cell? w _ (hcell 0 (by omega)).1
  simp only at lb
  have hb0 : ((len : Int) == 0) = false := beq_eq_false_iff_ne.2 (by omega)
  have Hcx := Lib.hid cx
  clear cx
  obtain ⟨i0, hii, hz0, hz1, hz2⟩ := info_parts Try.infoV
  have hal := alloc_if; have hfal := allocF_if
  go_enter Try.func56, Try.ntmps56
  go_wp2
  obtain ⟨W0, hW0⟩ : ∃ W0, W0 = w.alloc (.cells #[.int .i64 r, .slice (some ⟨b, o, none⟩) len cap] 25) := ⟨_, rfl⟩
  have st0 : Below w.heap.size w W0 := by rw [hW0]; (repeat (first | (with_reducible exact Below.refl _ _) | (with_reducible refine Below.drew ?_) | (with_reducible refine below_drewN ?_ _) | (with_reducible refine Below.setCell ?_ (by first | (simp; done) | (simp; omega) | omega) _) | (with_reducible refine Below.alloc ?_ (by first | (simp; done) | (simp; omega) | omega) _) | (with_reducible refine Below.trans ?_ (Below.mono (by assumption) (by first | (simp; done) | (simp; omega) | omega))) | (with_reducible refine Below.trans ?_ (Below.mono (Later.below _) (by first | (simp; done) | (simp; omega) | omega)))))
  have q4 : W0.cell? ⟨w.heap.size, 1, none⟩ = some (.slice (some ⟨b, o, none⟩) len cap) := by rw [hW0]; exact World.cell?_alloc_new w _ _ 1
  rw [← hW0]
  clear hal hfal hW0
  go_loopw [3, 4] (fun l i wr => ∃ k : Nat, k ≤ len ∧ i = .int .i64 k ∧ wr.ownsRow W0.heap.size 29 2 l k (flat (ept zs k)) ∧ Below W0.heap.size W0 wr)
    (fun _ i _ => len - (intOf i).toNat)
  case atStart => exact ⟨0, Nat.zero_le _, rfl, World.ownsRow_nil _ _ _ _, Below.refl _ _⟩
  case round =>
    obtain ⟨k, hk, rfl, hown, hB⟩ := hrel
    have hws := hB.size
    have hww := st0.size
    have r4 := cell_below hB q4
    have l4 := World.block_lt_of_cell? _ _ r4
    simp only at l4
    by_cases hlt : k < len
    · obtain ⟨j, hj⟩ : ∃ j, j = (k + 1) % len := ⟨_, rfl⟩
      have hjl : j < len := by rw [hj]; exact Nat.mod_lt _ h1
      have hjI : ((k : Int) + 1) % (len : Int) = (j : Int) := by rw [hj]; simp
      have gw : (IntKind.i64.wrap ((k : Int) + 1)).tmod (len : Int) = (j : Int) := by rw [IntWalk.i64_in _ (by omega), Int.tmod_eq_emod_of_nonneg (by omega)]; exact hjI
      have v0 := cell_below (st0.trans (hB.mono hww)) (hcell k hlt).1
      have v1 := cell_below (st0.trans (hB.mono hww)) (hcell k hlt).2
      have v2 := cell_below (st0.trans (hB.mono hww)) (hcell j hjl).1
      have v3 := cell_below (st0.trans (hB.mono hww)) (hcell j hjl).2
      have c1 := Hcx.out k j
      have bk := hz k
      have bj := hz j
      obtain ⟨b00, b01, b02, b03⟩ := bk
      obtain ⟨b10, b11, b12, b13⟩ := bj
      have hsn := ept_flat zs k
      have hex : edx zs k = unx (vy zs j - vy zs k) (vx zs k - vx zs j) := by unfold edx; rw [hzl, ← hj]
      have hey : edy zs k = uny (vy zs j - vy zs k) (vx zs k - vx zs j) := by unfold edy; rw [hzl, ← hj]
      rw [← hex, ← hey] at c1
      generalize edx zs k = ex at *
      generalize edy zs k = ey at *
      have Hsn := Lib.hid hsn
      have Hj := Lib.hid hj
      have Hown := Lib.hid hown
      have Hc1 := Lib.hid c1; clear c1
      clear hj hex hey hsn hown
      have hltI : (k : Int) < (len : Int) := by omega
      have hjlI : (j : Int) < (len : Int) := by omega
      have hal := alloc_if; have hfal := allocF_if
      go_upto_region 6 with (fail)
      have lbw : b < wr.heap.size := by omega
      refine wp_region_calm1 10 6 #[.int .i64 0, .int .i64 0] 29 rfl (by kernel_rfl) (by kernel_rfl) (fun o ho ev w => by have ho' := Option.some.inj ho; rw [← ho']; exact rfl) fun NL hL => ?_; obtain ⟨hNL, hlc, hlf⟩ := hL; (try simp only [World.size_alloc, World.size_setCell, World.size_drew] at hNL); simp only [List.take_succ_cons, List.take_zero, List.drop_succ_cons, List.drop_zero]
      repeat ((refine wpCalm_go (fun K hK => ?_); go_simp; (repeat (simp only [↓IntWalk.iteOmega]; (try go_simp)))); first | (refine hK _ ?_; clear hK K) | (apply Exists.intro; refine ⟨fun x => ?_, hK _ ?_⟩; (first | (with_reducible exact calm_call (Hc1.out _))); clear hK K))
      (refine wpCalm_nil ?_; intro b1 w1 hb1 hk1 hkf1 hkn1 hks1; (try simp only [World.size_alloc, World.size_setCell, World.size_drew] at hkn1); clear hlc hlf hNL NL; obtain ⟨N1, hN1, hc1, hf1, hs1⟩ := bcell hb1; (try simp only [World.size_alloc, World.size_setCell, World.size_drew] at hN1))
      have hst := setCell_if
      simp only [Act.put, List.setIfInBounds_toArray, List.set_cons_zero, List.set_cons_succ]
      go_wp2_with (first | ((with_reducible refine (Hc1.out _).mono ?_); rintro e wA ⟨rfl, hbA⟩; obtain ⟨NA, hNA, hcA, hfA, hsA⟩ := bcell hbA; (try simp only [World.size_alloc, World.size_setCell, World.size_drew] at hNA)) | (at_builtin; refine wpList_append_own _ rfl _ _ 23 rfl W0.heap.size 29 i0 (.agg #[.int .i64 0, .int .i64 0]) 2 16 Try.underlying23 hii hz0 hz1 hz2 (by simp [Value.cells]) (by decide) _ k (flat (ept zs k)) rfl ((ownsRow_later Hown.out (by (repeat (first | (with_reducible exact Below.refl _ _) | (with_reducible refine Below.drew ?_) | (with_reducible refine below_drewN ?_ _) | (with_reducible refine Below.setCell ?_ (by first | (simp; done) | (simp; omega) | omega) _) | (with_reducible refine Below.alloc ?_ (by first | (simp; done) | (simp; omega) | omega) _) | (with_reducible refine Below.trans ?_ (Below.mono (by assumption) (by first | (simp; done) | (simp; omega) | omega))) | (with_reducible refine Below.trans ?_ (Below.mono (Later.below _) (by first | (simp; done) | (simp; omega) | omega))))))).alloc _) ⟨wA.heap.size, 0, none⟩ 1 1 [.int .i64 ex, .int .i64 ey] rfl rfl (new2 _ _ _ _) (by simp [Value.oneCell']) (by unfold maxLen; omega) (by omega) (by simp; omega) ?_; intro v' w2 hown2 hgrow2 _))
      have hown3 : w2.ownsRow W0.heap.size 29 2 v' (k + 1) (flat (ept zs (k + 1))) := by rw [Hsn.out]; exact hown2
      have hbA0 : Below wr.heap.size wr wA := by (repeat (first | (with_reducible exact Below.refl _ _) | (with_reducible refine Below.drew ?_) | (with_reducible refine below_drewN ?_ _) | (with_reducible refine Below.setCell ?_ (by first | (simp; done) | (simp; omega) | omega) _) | (with_reducible refine Below.alloc ?_ (by first | (simp; done) | (simp; omega) | omega) _) | (with_reducible refine Below.trans ?_ (Below.mono (by assumption) (by first | (simp; done) | (simp; omega) | omega))) | (with_reducible refine Below.trans ?_ (Below.mono (Later.below _) (by first | (simp; done) | (simp; omega) | omega)))))
      have hB2 : Below W0.heap.size W0 w2 := ((hB.trans (hbA0.mono hws)).alloc (by have := hbA0.size; omega) _).grown hgrow2 (by have := hbA0.size; simp; omega) (fun k e => (Hown.out.lt k e).1)
      clear hown2 hgrow2
      go_wp2
      go_roundw
      case rel => exact ⟨k + 1, by omega, by go_num, hown3, hB2⟩
      case measure => simp [intOf]; omega
    · obtain rfl : k = len := by omega
      have e : ept zs k = eax zs := by rw [← hzl]; exact ept_all zs
      rw [e] at hown
      have Hown := Lib.hid hown
      clear hown
      go_wp2
      go_ret
      refine ⟨_, rfl, ?_, st0.trans (hB.mono hww)⟩
      obtain ⟨h0, h⟩ := Hown.out
      rcases h with h | ⟨g, cap, cur, hv, hg, hh⟩
      · exact ⟨h0, .inl h⟩
      · exact ⟨h0, .inr ⟨g, cap, cur, hv, by omega, hh⟩⟩
end Go.Proofs.Ytcgcapfppceggaa.Co
