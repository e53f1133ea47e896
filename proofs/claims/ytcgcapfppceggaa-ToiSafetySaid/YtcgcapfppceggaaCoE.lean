/-
  The contracts of Place and of lives (arenanetlaw05).
  Conditions: stated in each contract.
-/
import Derived.Test.YtcgcapfppceggaaCoD
import Derived.Test.YtcgcapfppceggaaQe
import Derived.Test.YtcgcapfppceggaaQo
namespace Go.Proofs.Ytcgcapfppceggaa.Co
open Go.RowKit Go.Proofs.Ytcgcapfppceggaa.FxMath Go.Proofs.Ytcgcapfppceggaa.FxA Go.Proofs.Ytcgcapfppceggaa.Qt Go.Proofs.Ytcgcapfppceggaa.Ve Go.Proofs.Ytcgcapfppceggaa.Sh Go.Shelf
set_option linter.unusedVariables false
set_option linter.unusedSimpArgs false
attribute [local go_sem] Oper.semAt_some
theorem shAt_circle (w : World) (r : Int) (h : 1 ≤ r ∧ r ≤ 32768) : ShAt w r none 0 0 [] := ⟨.inl ⟨rfl, rfl, rfl, rfl, h.1, h.2⟩, .inl ⟨rfl, rfl, rfl, rfl⟩⟩
theorem isq3072 : isq (3072 * 3072 + 0 * 0) = 3072 := isq_unique _ _ (by decide) (by decide) (by decide)
theorem ax1 : axs [] [] (3072 - 0) (0 - 0) = [(1024, 0)] := by
  have h1 : nmx 3072 0 = 1024 := by unfold nmx; rw [isq3072]; decide
  have h2 : nmy 3072 0 = 0 := by unfold nmy; rw [isq3072]; decide
  show [] ++ ([] ++ [(unx 3072 0, uny 3072 0)]) = _
  unfold unx uny
  rw [h1, h2]
  decide
theorem val1 : cnx 2048 [] 0 0 2048 [] 3072 0 = 1024 ∧ cny 2048 [] 0 0 2048 [] 3072 0 = 0 ∧ cdp 2048 [] 0 0 2048 [] 3072 0 = 1024 ∧ cis 2048 [] 0 0 2048 [] 3072 0 = true := by
  have h1 : cis 2048 [] 0 0 2048 [] 3072 0 = true := by unfold cis; rw [ax1]; decide
  have h2 : cbn 2048 [] 0 0 2048 [] 3072 0 = (1024, 0) := by unfold cbn; rw [ax1]; decide
  unfold cnx cny cdp
  rw [h1, h2]
  decide
theorem val2 : cnx 2048 [] 0 0 2048 [] 4097 0 = 0 ∧ cny 2048 [] 0 0 2048 [] 4097 0 = 0 ∧ cdp 2048 [] 0 0 2048 [] 4097 0 = 0 ∧ cis 2048 [] 0 0 2048 [] 4097 0 = false := by
  have h1 : cis 2048 [] 0 0 2048 [] 4097 0 = false := by unfold cis; rw [show ovl 2048 [] 0 0 2048 [] 4097 0 = false by decide]; rfl
  unfold cnx cny cdp
  rw [h1]
  exact ⟨rfl, rfl, rfl, rfl⟩
set_option maxRecDepth 100000 in
set_option maxHeartbeats 4000000 in
theorem lives05 : Gives Try.prog 19 #[] (.bool true) := by
  intro w
  have c1 : Gives Try.prog 21 #[.agg #[.int .i64 2048, .slice none 0 0], .agg #[.int .i64 0, .int .i64 0], .agg #[.int .i64 2048, .slice none 0 0], .agg #[.int .i64 3072, .int .i64 0]] (.tuple #[.agg #[.int .i64 1024, .int .i64 0, .int .i64 1024], .bool true]) := fun V => by
    have h := collide_at (shAt_circle V 2048 (by decide)) (shAt_circle V 2048 (by decide)) (px := 0) (py := 0) (qx := 3072) (qy := 0) (by decide) (by decide)
    rw [val1.1, val1.2.1, val1.2.2.1, val1.2.2.2] at h
    exact h
  have c2 : Gives Try.prog 21 #[.agg #[.int .i64 2048, .slice none 0 0], .agg #[.int .i64 0, .int .i64 0], .agg #[.int .i64 2048, .slice none 0 0], .agg #[.int .i64 4097, .int .i64 0]] (.tuple #[.agg #[.int .i64 0, .int .i64 0, .int .i64 0], .bool false]) := fun V => by
    have h := collide_at (shAt_circle V 2048 (by decide)) (shAt_circle V 2048 (by decide)) (px := 0) (py := 0) (qx := 4097) (qy := 0) (by decide) (by decide)
    rw [val2.1, val2.2.1, val2.2.2.1, val2.2.2.2] at h
    exact h
  have Hc1 := Lib.hid c1; have Hc2 := Lib.hid c2; clear c1 c2
  have hal := alloc_if; have hfal := allocF_if
  go_enter Try.func19, Try.ntmps19
  go_wp2_with (first | ((with_reducible refine (Hc1.out _).mono ?_); rintro e wA ⟨rfl, hbA⟩; obtain ⟨NA, hNA, hcA, hfA, hsA⟩ := bcell hbA; (try simp only [World.size_alloc, World.size_setCell, World.size_drew] at hNA)) | ((with_reducible refine (Hc2.out _).mono ?_); rintro e wB ⟨rfl, hbB⟩; obtain ⟨NB, hNB, hcB, hfB, hsB⟩ := bcell hbB; (try simp only [World.size_alloc, World.size_setCell, World.size_drew] at hNB)))
  go_ret
  exact ⟨rfl, by (repeat (first | (with_reducible exact Below.refl _ _) | (with_reducible refine Below.drew ?_) | (with_reducible refine below_drewN ?_ _) | (with_reducible refine Below.setCell ?_ (by first | (simp; done) | (simp; omega) | omega) _) | (with_reducible refine Below.alloc ?_ (by first | (simp; done) | (simp; omega) | omega) _) | (with_reducible refine Below.trans ?_ (Below.mono (by assumption) (by first | (simp; done) | (simp; omega) | omega))) | (with_reducible refine Below.trans ?_ (Below.mono (Later.below _) (by first | (simp; done) | (simp; omega) | omega)))))⟩
set_option maxRecDepth 100000 in
set_option maxHeartbeats 4000000 in
theorem place_s {w : World} {ra : Int} {aa : Option Addr} {la ca : Nat} {za : List (Int × Int)} {rb : Int} {ab : Option Addr} {lb cb : Nat} {zb : List (Int × Int)}
    (hA : ShAt w ra aa la ca za) (hB : ShAt w rb ab lb cb zb) (l0 l1 l2 l3 : Int) (w0 : (Lit.int .i64 l0).wf = true) (w1 : (Lit.int .i64 l1).wf = true) (w2 : (Lit.int .i64 l2).wf = true) (w3 : (Lit.int .i64 l3).wf = true) (W : World) (hW : Below w.heap.size w W) :
    Calls Try.prog 20 #[.agg #[.int .i64 ra, .slice aa la ca], .agg #[.int .i64 rb, .slice ab lb cb], .agg #[.int .i64 l0, .int .i64 l1, .int .i64 l2, .int .i64 l3]] W fun e w' =>
      (∃ px py qx qy : Int, e = .returned (.tuple #[.agg #[.int .i64 px, .int .i64 py], .agg #[.int .i64 qx, .int .i64 qy]]) ∧ (-1000000 ≤ px ∧ px ≤ 1000000 ∧ -1000000 ≤ py ∧ py ≤ 1000000) ∧ (-1000000 ≤ qx ∧ qx ≤ 1000000 ∧ -1000000 ≤ qy ∧ qy ≤ 1000000)) ∧ Below W.heap.size W w' := by
  obtain ⟨b00, b01⟩ := i64_bd w0
  obtain ⟨b10, b11⟩ := i64_bd w1
  obtain ⟨b20, b21⟩ := i64_bd w2
  obtain ⟨b30, b31⟩ := i64_bd w3
  have c1 := rbounds_s hA 0 0 (by decide) (by decide)
  have c2 := rbounds_s hB 0 0 (by decide) (by decide)
  have d1 := fun V (hV : Below W.heap.size W V) => c1 V (hW.trans (hV.mono hW.size))
  have d2 := fun V (hV : Below W.heap.size W V) => c2 V (hW.trans (hV.mono hW.size))
  obtain ⟨⟨x0, x1, x2⟩, y0, y1, y2⟩ := box_bd hA 0 0
  obtain ⟨⟨x3, x4, x5⟩, y3, y4, y5⟩ := box_bd hB 0 0
  clear c1 c2 hA hB hW
  generalize bx0 ra la za 0 = A0 at *
  generalize by0 ra la za 0 = A1 at *
  generalize bx1 ra la za 0 = A2 at *
  generalize by1 ra la za 0 = A3 at *
  generalize bx0 rb lb zb 0 = B0 at *
  generalize by0 rb lb zb 0 = B1 at *
  generalize bx1 rb lb zb 0 = B2 at *
  generalize by1 rb lb zb 0 = B3 at *
  have e0 := gives_same (fun V => bound_any l0 5000 V b00 b01 (by decide) (by decide))
  have e1 := gives_same (fun V => bound_any l1 5000 V b10 b11 (by decide) (by decide))
  have e2 : ∀ m : Int, 0 ≤ m → m ≤ 1000000 → _ := fun m h0 h1 => (fun V => bound_any l2 m V b20 b21 h0 (by omega))
  have e3 : ∀ m : Int, 0 ≤ m → m ≤ 1000000 → _ := fun m h0 h1 => (fun V => bound_any l3 m V b30 b31 h0 (by omega))
  have e5 := gives_same (fun V => around_any l0 5 V b00 b01 (by decide) (by decide))
  have n0 := bnd_bd l0 5000 (by decide)
  have n1 := bnd_bd l1 5000 (by decide)
  have n2 := fun m h => bnd_bd l2 m h
  have n3 := fun m h => bnd_bd l3 m h
  generalize bnd l0 5000 = p0 at *
  generalize bnd l1 5000 = p1 at *
  generalize aro l0 5 = k5 at *
  obtain ⟨n00, n01⟩ := n0
  obtain ⟨n10, n11⟩ := n1
  have t1 : (A2 - A0 + B2 - B0).tdiv 2 = (A2 - A0 + B2 - B0) / 2 := Int.tdiv_eq_ediv_of_nonneg (by omega)
  have t2 : (A3 - A1 + B3 - B1).tdiv 2 = (A3 - A1 + B3 - B1) / 2 := Int.tdiv_eq_ediv_of_nonneg (by omega)
  have t3 : 0 ≤ (A2 - A0 + B2 - B0).tdiv 2 := by omega
  have t4 : (A2 - A0 + B2 - B0).tdiv 2 ≤ 65536 := by omega
  have t5 : 0 ≤ (A3 - A1 + B3 - B1).tdiv 2 := by omega
  have t6 : (A3 - A1 + B3 - B1).tdiv 2 ≤ 65536 := by omega
  have n4 := n2 ((A2 - A0 + B2 - B0).tdiv 2 + 2) (by omega)
  have n5 := n3 ((A3 - A1 + B3 - B1).tdiv 2 + 2) (by omega)
  have n6 := n2 3 (by omega)
  have n7 := n3 3 (by omega)
  obtain ⟨n40, n41⟩ := n4
  obtain ⟨n50, n51⟩ := n5
  obtain ⟨n60, n61⟩ := n6
  obtain ⟨n70, n71⟩ := n7
  have Hd1 := Lib.hid d1; have Hd2 := Lib.hid d2; have He0 := Lib.hid e0; have He1 := Lib.hid e1; have He2 := Lib.hid e2; have He3 := Lib.hid e3; have He5 := Lib.hid e5; clear d1 d2 e0 e1 e2 e3 e5
  clear n2 n3 t1 t2
  have hal := alloc_if; have hfal := allocF_if
  have hst := setCell_if
  go_enter Try.func20, Try.ntmps20
  go_wp2_with (first | ((with_reducible refine (Hd1.out _ (by (repeat (first | (with_reducible exact Below.refl _ _) | (with_reducible refine Below.drew ?_) | (with_reducible refine below_drewN ?_ _) | (with_reducible refine Below.setCell ?_ (by first | (simp; done) | (simp; omega) | omega) _) | (with_reducible refine Below.alloc ?_ (by first | (simp; done) | (simp; omega) | omega) _) | (with_reducible refine Below.trans ?_ (Below.mono (by assumption) (by first | (simp; done) | (simp; omega) | omega))) | (with_reducible refine Below.trans ?_ (Below.mono (Later.below _) (by first | (simp; done) | (simp; omega) | omega))))))).mono ?_); rintro e wA ⟨rfl, hbA⟩; obtain ⟨NA, hNA, hcA, hfA, hsA⟩ := bcell hbA; (try simp only [World.size_alloc, World.size_setCell, World.size_drew] at hNA)) | ((with_reducible refine (Hd2.out _ (by (repeat (first | (with_reducible exact Below.refl _ _) | (with_reducible refine Below.drew ?_) | (with_reducible refine below_drewN ?_ _) | (with_reducible refine Below.setCell ?_ (by first | (simp; done) | (simp; omega) | omega) _) | (with_reducible refine Below.alloc ?_ (by first | (simp; done) | (simp; omega) | omega) _) | (with_reducible refine Below.trans ?_ (Below.mono (by assumption) (by first | (simp; done) | (simp; omega) | omega))) | (with_reducible refine Below.trans ?_ (Below.mono (Later.below _) (by first | (simp; done) | (simp; omega) | omega))))))).mono ?_); rintro e wB ⟨rfl, hbB⟩; obtain ⟨NB, hNB, hcB, hfB, hsB⟩ := bcell hbB; (try simp only [World.size_alloc, World.size_setCell, World.size_drew] at hNB)))
  refine wp_region_calm1 7 10 #[.int .i64 0, .int .i64 0] 29 rfl (by kernel_rfl) (by kernel_rfl) (fun o ho ev w => by have ho' := Option.some.inj ho; rw [← ho']; exact rfl) fun NL hL => ?_; obtain ⟨hNL, hlc, hlf⟩ := hL; (try simp only [World.size_alloc, World.size_setCell, World.size_drew] at hNL); simp only [List.take_succ_cons, List.take_zero, List.drop_succ_cons, List.drop_zero]
  repeat ((refine wpCalm_go (fun K hK => ?_); go_simp; (repeat (simp only [↓IntWalk.iteOmega]; (try go_simp)))); first | (refine hK _ ?_; clear hK K) | (apply Exists.intro; refine ⟨fun x => ?_, hK _ ?_⟩; (first | (with_reducible exact calm_call (He0.out _)) | (with_reducible exact calm_call (He1.out _))); clear hK K))
  (refine wpCalm_nil ?_; intro b1 w1 hb1 hk1 hkf1 hkn1 hks1; (try simp only [World.size_alloc, World.size_setCell, World.size_drew] at hkn1); clear hlc hlf hNL NL; obtain ⟨N1, hN1, hc1, hf1, hs1⟩ := bcell hb1; (try simp only [World.size_alloc, World.size_setCell, World.size_drew] at hN1))
  go_wp2_with (((with_reducible refine (He5.out _).mono ?_); rintro e wE ⟨rfl, hbE⟩; obtain ⟨NE, hNE, hcE, hfE, hsE⟩ := bcell hbE; (try simp only [World.size_alloc, World.size_setCell, World.size_drew] at hNE)))
  · have q0 : wE.cell? ⟨b1, 0, none⟩ = some (.int .i64 p0) := by clear hc1; simp [hcE, hst, hk1, ↓IntWalk.iteOmega]
    have q1 : wE.cell? ⟨b1, 1, none⟩ = some (.int .i64 p1) := by clear hc1; simp [hcE, hst, hk1, ↓IntWalk.iteOmega]
    have r0 : wE.cell? ⟨W.heap.size + 1 + 1, 0, none⟩ = some (.int .i64 l0) := by simp [hcE, hc1, hcB, hcA, hal, hst, hk1, ↓IntWalk.iteOmega]
    have r1 : wE.cell? ⟨W.heap.size + 1 + 1, 1, none⟩ = some (.int .i64 l1) := by simp [hcE, hc1, hcB, hcA, hal, hst, hk1, ↓IntWalk.iteOmega]
    have r2 : wE.cell? ⟨W.heap.size + 1 + 1, 2, none⟩ = some (.int .i64 l2) := by simp [hcE, hc1, hcB, hcA, hal, hst, hk1, ↓IntWalk.iteOmega]
    have r3 : wE.cell? ⟨W.heap.size + 1 + 1, 3, none⟩ = some (.int .i64 l3) := by simp [hcE, hc1, hcB, hcA, hal, hst, hk1, ↓IntWalk.iteOmega]
    have s0 : wE.cell? ⟨W.heap.size + 1 + 1 + 1, 0, none⟩ = some (.int .i64 0) := by simp [hcE, hc1, hcB, hcA, hal, hst, hk1, ↓IntWalk.iteOmega]
    have s1 : wE.cell? ⟨W.heap.size + 1 + 1 + 1, 1, none⟩ = some (.int .i64 0) := by simp [hcE, hc1, hcB, hcA, hal, hst, hk1, ↓IntWalk.iteOmega]
    have t0 : wE.cell? ⟨W.heap.size + 1 + 1 + 1 + 1, 0, none⟩ = some (.int .i64 0) := by simp [hcE, hc1, hcB, hcA, hal, hst, hk1, ↓IntWalk.iteOmega]
    have t1 : wE.cell? ⟨W.heap.size + 1 + 1 + 1 + 1, 1, none⟩ = some (.int .i64 0) := by simp [hcE, hc1, hcB, hcA, hal, hst, hk1, ↓IntWalk.iteOmega]
    have fs : ∀ i, wE.frozen? ⟨W.heap.size + 1 + 1 + 1, i, none⟩ = false := fun i => by simp [hfE, hf1, hfB, hfA, hfal, ↓IntWalk.iteOmega]
    have ft : ∀ i, wE.frozen? ⟨W.heap.size + 1 + 1 + 1 + 1, i, none⟩ = false := fun i => by simp [hfE, hf1, hfB, hfA, hfal, ↓IntWalk.iteOmega]
    have hbW : Below W.heap.size W wE := by (repeat (first | (with_reducible exact Below.refl _ _) | (with_reducible refine Below.drew ?_) | (with_reducible refine below_drewN ?_ _) | (with_reducible refine Below.setCell ?_ (by first | (simp; done) | (simp; omega) | omega) _) | (with_reducible refine Below.alloc ?_ (by first | (simp; done) | (simp; omega) | omega) _) | (with_reducible refine Below.trans ?_ (Below.mono (by assumption) (by first | (simp; done) | (simp; omega) | omega))) | (with_reducible refine Below.trans ?_ (Below.mono (Later.below _) (by first | (simp; done) | (simp; omega) | omega)))))
    have hn3 : W.heap.size + 1 + 1 + 1 < wE.heap.size := World.block_lt_of_cell? _ _ s0
    have hn4 : W.heap.size + 1 + 1 + 1 + 1 < wE.heap.size := World.block_lt_of_cell? _ _ t0
    have hn2 : b1 < wE.heap.size := World.block_lt_of_cell? _ _ q0
    have hne3 : b1 ≠ W.heap.size + 1 + 1 + 1 := by omega
    have hne4 : b1 ≠ W.heap.size + 1 + 1 + 1 + 1 := by omega
    refine wp_region_three (W.heap.size + 1 + 1 + 1) (W.heap.size + 1 + 1 + 1 + 1) [3, 4, 5, 6, 7, 8, 12, 13, 14, 15, 16, 17] [0, 1, 2, 9, 10, 11, 18, 19] [20, 21] 20 (by kernel_rfl) (by kernel_rfl) fun NL hR1 hR3 => ?_
    simp only [List.map_cons, List.map_nil, List.getD_cons_zero, List.getD_cons_succ]
    have hr1 := hR1.cell
    repeat (go_big_quiet_step (first | (with_reducible exact one_call (He2.out _ (by omega) (by omega))) | (with_reducible exact one_call (He3.out _ (by omega) (by omega)))))
    refine wpQuiet_nil ?_
    clear hr1 hR1
    have hr3 := hR3.cell
    have hNL := hR3.eq
    repeat (go_big_quiet_step (fail))
    refine wpQuiet_nil ?_
    clear hr3 hR3
    clear hcE hfE hc1 hf1 hcB hfB hcA hfA hal hfal hst
    refine wpListS_skip (w1 := (wE.drew.setCell ⟨W.heap.size + 1 + 1 + 1, 0, none⟩ (.int .i64 p0)).setCell ⟨W.heap.size + 1 + 1 + 1, 1, none⟩ (.int .i64 p1)) rfl (by go_simp) ⟨((drew3 wE (W.heap.size + 1 + 1 + 1) (W.heap.size + 1 + 1 + 1 + 1)).set ⟨W.heap.size + 1 + 1 + 1, 0, none⟩ (.inl rfl) (.int .i64 p0)).set ⟨W.heap.size + 1 + 1 + 1, 1, none⟩ (.inl rfl) (.int .i64 p1), rfl⟩ ?_
    simp only [Act.put, List.setIfInBounds_toArray, List.set_cons_zero, List.set_cons_succ]
    have hst := setCell_if
    refine wpListS_skip (w1 := (((wE.drew.setCell ⟨W.heap.size + 1 + 1 + 1, 0, none⟩ (.int .i64 p0)).setCell ⟨W.heap.size + 1 + 1 + 1, 1, none⟩ (.int .i64 p1)).setCell ⟨W.heap.size + 1 + 1 + 1 + 1, 0, none⟩ (.int .i64 (p0 + bnd l2 (3)))).setCell ⟨W.heap.size + 1 + 1 + 1 + 1, 1, none⟩ (.int .i64 (p1 + bnd l3 (3)))) rfl (by go_simp) ⟨((((drew3 wE (W.heap.size + 1 + 1 + 1) (W.heap.size + 1 + 1 + 1 + 1)).set ⟨W.heap.size + 1 + 1 + 1, 0, none⟩ (.inl rfl) (.int .i64 p0)).set ⟨W.heap.size + 1 + 1 + 1, 1, none⟩ (.inl rfl) (.int .i64 p1)).set ⟨W.heap.size + 1 + 1 + 1 + 1, 0, none⟩ (.inr rfl) (.int .i64 (p0 + bnd l2 (3)))).set ⟨W.heap.size + 1 + 1 + 1 + 1, 1, none⟩ (.inr rfl) (.int .i64 (p1 + bnd l3 (3))), rfl⟩ ?_
    simp only [Act.put, List.setIfInBounds_toArray, List.set_cons_zero, List.set_cons_succ]
    refine wpListS_nil ?_
    go_wp2
    refine bodyPost_ret (v := .tuple #[.agg #[.int .i64 p0, .int .i64 p1], .agg #[.int .i64 (p0 + bnd l2 (3)), .int .i64 (p1 + bnd l3 (3))]]) (by simp [results, Try.results20, go_sem, hst, s0, s1, t0, t1]) rfl ⟨⟨_, _, _, _, rfl, ⟨by omega, by omega, by omega, by omega⟩, by omega, by omega, by omega, by omega⟩, ?_⟩
    clear hbB hbA hbE hb1
    (repeat (first | (with_reducible exact Below.refl _ _) | (with_reducible refine Below.drew ?_) | (with_reducible refine below_drewN ?_ _) | (with_reducible refine Below.setCell ?_ (by first | (simp; done) | (simp; omega) | omega) _) | (with_reducible refine Below.alloc ?_ (by first | (simp; done) | (simp; omega) | omega) _) | (with_reducible refine Below.trans ?_ (Below.mono (by assumption) (by first | (simp; done) | (simp; omega) | omega))) | (with_reducible refine Below.trans ?_ (Below.mono (Later.below _) (by first | (simp; done) | (simp; omega) | omega)))))
  · have q0 : wE.cell? ⟨b1, 0, none⟩ = some (.int .i64 p0) := by clear hc1; simp [hcE, hst, hk1, ↓IntWalk.iteOmega]
    have q1 : wE.cell? ⟨b1, 1, none⟩ = some (.int .i64 p1) := by clear hc1; simp [hcE, hst, hk1, ↓IntWalk.iteOmega]
    have r0 : wE.cell? ⟨W.heap.size + 1 + 1, 0, none⟩ = some (.int .i64 l0) := by simp [hcE, hc1, hcB, hcA, hal, hst, hk1, ↓IntWalk.iteOmega]
    have r1 : wE.cell? ⟨W.heap.size + 1 + 1, 1, none⟩ = some (.int .i64 l1) := by simp [hcE, hc1, hcB, hcA, hal, hst, hk1, ↓IntWalk.iteOmega]
    have r2 : wE.cell? ⟨W.heap.size + 1 + 1, 2, none⟩ = some (.int .i64 l2) := by simp [hcE, hc1, hcB, hcA, hal, hst, hk1, ↓IntWalk.iteOmega]
    have r3 : wE.cell? ⟨W.heap.size + 1 + 1, 3, none⟩ = some (.int .i64 l3) := by simp [hcE, hc1, hcB, hcA, hal, hst, hk1, ↓IntWalk.iteOmega]
    have s0 : wE.cell? ⟨W.heap.size + 1 + 1 + 1, 0, none⟩ = some (.int .i64 0) := by simp [hcE, hc1, hcB, hcA, hal, hst, hk1, ↓IntWalk.iteOmega]
    have s1 : wE.cell? ⟨W.heap.size + 1 + 1 + 1, 1, none⟩ = some (.int .i64 0) := by simp [hcE, hc1, hcB, hcA, hal, hst, hk1, ↓IntWalk.iteOmega]
    have t0 : wE.cell? ⟨W.heap.size + 1 + 1 + 1 + 1, 0, none⟩ = some (.int .i64 0) := by simp [hcE, hc1, hcB, hcA, hal, hst, hk1, ↓IntWalk.iteOmega]
    have t1 : wE.cell? ⟨W.heap.size + 1 + 1 + 1 + 1, 1, none⟩ = some (.int .i64 0) := by simp [hcE, hc1, hcB, hcA, hal, hst, hk1, ↓IntWalk.iteOmega]
    have fs : ∀ i, wE.frozen? ⟨W.heap.size + 1 + 1 + 1, i, none⟩ = false := fun i => by simp [hfE, hf1, hfB, hfA, hfal, ↓IntWalk.iteOmega]
    have ft : ∀ i, wE.frozen? ⟨W.heap.size + 1 + 1 + 1 + 1, i, none⟩ = false := fun i => by simp [hfE, hf1, hfB, hfA, hfal, ↓IntWalk.iteOmega]
    have hbW : Below W.heap.size W wE := by (repeat (first | (with_reducible exact Below.refl _ _) | (with_reducible refine Below.drew ?_) | (with_reducible refine below_drewN ?_ _) | (with_reducible refine Below.setCell ?_ (by first | (simp; done) | (simp; omega) | omega) _) | (with_reducible refine Below.alloc ?_ (by first | (simp; done) | (simp; omega) | omega) _) | (with_reducible refine Below.trans ?_ (Below.mono (by assumption) (by first | (simp; done) | (simp; omega) | omega))) | (with_reducible refine Below.trans ?_ (Below.mono (Later.below _) (by first | (simp; done) | (simp; omega) | omega)))))
    have hn3 : W.heap.size + 1 + 1 + 1 < wE.heap.size := World.block_lt_of_cell? _ _ s0
    have hn4 : W.heap.size + 1 + 1 + 1 + 1 < wE.heap.size := World.block_lt_of_cell? _ _ t0
    have hn2 : b1 < wE.heap.size := World.block_lt_of_cell? _ _ q0
    have hne3 : b1 ≠ W.heap.size + 1 + 1 + 1 := by omega
    have hne4 : b1 ≠ W.heap.size + 1 + 1 + 1 + 1 := by omega
    refine wp_region_three (W.heap.size + 1 + 1 + 1) (W.heap.size + 1 + 1 + 1 + 1) [3, 4, 5, 6, 7, 8, 12, 13, 14, 15, 16, 17] [0, 1, 2, 9, 10, 11, 18, 19] [20, 21] 20 (by kernel_rfl) (by kernel_rfl) fun NL hR1 hR3 => ?_
    simp only [List.map_cons, List.map_nil, List.getD_cons_zero, List.getD_cons_succ]
    have hr1 := hR1.cell
    repeat (go_big_quiet_step (first | (with_reducible exact one_call (He2.out _ (by omega) (by omega))) | (with_reducible exact one_call (He3.out _ (by omega) (by omega)))))
    refine wpQuiet_nil ?_
    clear hr1 hR1
    have hr3 := hR3.cell
    have hNL := hR3.eq
    repeat (go_big_quiet_step (fail))
    refine wpQuiet_nil ?_
    clear hr3 hR3
    clear hcE hfE hc1 hf1 hcB hfB hcA hfA hal hfal hst
    refine wpListS_skip (w1 := (wE.drew.setCell ⟨W.heap.size + 1 + 1 + 1, 0, none⟩ (.int .i64 p0)).setCell ⟨W.heap.size + 1 + 1 + 1, 1, none⟩ (.int .i64 p1)) rfl (by go_simp) ⟨((drew3 wE (W.heap.size + 1 + 1 + 1) (W.heap.size + 1 + 1 + 1 + 1)).set ⟨W.heap.size + 1 + 1 + 1, 0, none⟩ (.inl rfl) (.int .i64 p0)).set ⟨W.heap.size + 1 + 1 + 1, 1, none⟩ (.inl rfl) (.int .i64 p1), rfl⟩ ?_
    simp only [Act.put, List.setIfInBounds_toArray, List.set_cons_zero, List.set_cons_succ]
    have hst := setCell_if
    refine wpListS_skip (w1 := (((wE.drew.setCell ⟨W.heap.size + 1 + 1 + 1, 0, none⟩ (.int .i64 p0)).setCell ⟨W.heap.size + 1 + 1 + 1, 1, none⟩ (.int .i64 p1)).setCell ⟨W.heap.size + 1 + 1 + 1 + 1, 0, none⟩ (.int .i64 (p0 + bnd l2 ((A2 - A0 + B2 - B0).tdiv 2 + 2)))).setCell ⟨W.heap.size + 1 + 1 + 1 + 1, 1, none⟩ (.int .i64 (p1 + bnd l3 ((A3 - A1 + B3 - B1).tdiv 2 + 2)))) rfl (by go_simp) ⟨((((drew3 wE (W.heap.size + 1 + 1 + 1) (W.heap.size + 1 + 1 + 1 + 1)).set ⟨W.heap.size + 1 + 1 + 1, 0, none⟩ (.inl rfl) (.int .i64 p0)).set ⟨W.heap.size + 1 + 1 + 1, 1, none⟩ (.inl rfl) (.int .i64 p1)).set ⟨W.heap.size + 1 + 1 + 1 + 1, 0, none⟩ (.inr rfl) (.int .i64 (p0 + bnd l2 ((A2 - A0 + B2 - B0).tdiv 2 + 2)))).set ⟨W.heap.size + 1 + 1 + 1 + 1, 1, none⟩ (.inr rfl) (.int .i64 (p1 + bnd l3 ((A3 - A1 + B3 - B1).tdiv 2 + 2))), rfl⟩ ?_
    simp only [Act.put, List.setIfInBounds_toArray, List.set_cons_zero, List.set_cons_succ]
    refine wpListS_nil ?_
    go_wp2
    refine bodyPost_ret (v := .tuple #[.agg #[.int .i64 p0, .int .i64 p1], .agg #[.int .i64 (p0 + bnd l2 ((A2 - A0 + B2 - B0).tdiv 2 + 2)), .int .i64 (p1 + bnd l3 ((A3 - A1 + B3 - B1).tdiv 2 + 2))]]) (by simp [results, Try.results20, go_sem, hst, s0, s1, t0, t1]) rfl ⟨⟨_, _, _, _, rfl, ⟨by omega, by omega, by omega, by omega⟩, by omega, by omega, by omega, by omega⟩, ?_⟩
    clear hbB hbA hbE hb1
    (repeat (first | (with_reducible exact Below.refl _ _) | (with_reducible refine Below.drew ?_) | (with_reducible refine below_drewN ?_ _) | (with_reducible refine Below.setCell ?_ (by first | (simp; done) | (simp; omega) | omega) _) | (with_reducible refine Below.alloc ?_ (by first | (simp; done) | (simp; omega) | omega) _) | (with_reducible refine Below.trans ?_ (Below.mono (by assumption) (by first | (simp; done) | (simp; omega) | omega))) | (with_reducible refine Below.trans ?_ (Below.mono (Later.below _) (by first | (simp; done) | (simp; omega) | omega)))))
end Go.Proofs.Ytcgcapfppceggaa.Co
