/-
  The reference of package collide: Axes.
  Conditions: stated in each contract.
-/
import Derived.Test.YtcgcapfppceggaaCoG
import Derived.Deep.Cut
import Derived.Deep.CutRange
import Derived.Deep.DeepCutAuto
namespace Go.Proofs.Ytcgcapfppceggaa.Co
open Go.RowKit Go.Proofs.Ytcgcapfppceggaa.FxMath Go.Proofs.Ytcgcapfppceggaa.FxA Go.Proofs.Ytcgcapfppceggaa.Qt Go.Proofs.Ytcgcapfppceggaa.Ve Go.Proofs.Ytcgcapfppceggaa.Sh Go.Shelf
set_option linter.unusedVariables false
set_option linter.unusedSimpArgs false
attribute [local go_sem] Oper.semAt_some
theorem axs_one {za zb : List (Int × Int)} {dx dy u v : Int} (h : cax za zb dx dy = [(u, v)]) :
    flat (axs za zb dx dy) = flat (eax za ++ eax zb) ++ [.int .i64 u, .int .i64 v] ∧ (axs za zb dx dy).length = za.length + zb.length + 1 := by
  unfold axs
  rw [h]
  constructor
  · rw [flat_append, flat_append, flat_append, List.append_assoc]; rfl
  · simp [eax]; omega
theorem axs_none {za zb : List (Int × Int)} {dx dy : Int} (h : cax za zb dx dy = []) :
    flat (axs za zb dx dy) = flat (eax za ++ eax zb) ∧ (axs za zb dx dy).length = za.length + zb.length := by
  unfold axs
  rw [h]
  constructor
  · rw [List.append_nil]
  · simp [eax]
theorem run_append_none_op {P : Program} {o : Oper} {ev : Operand → Value} (w : World) (s x : Operand) (t : TypeId) (ho : o.op = .call { callee := .builtin .append, args := #[s, x], argTypes := #[t, t] })
    (base : Nat) (e : TypeId) (i : TypeInfo) (size : Nat) (ht : P.underlying t = some (.slice e)) (hi : P.info? e = some i) (v : Value) (n : Nat) (xs : List Value) (hown : w.ownsRow base e size v n xs) (hs : ev s = v) (hx : ev x = .slice none 0 0) :
    (execOp ev o).run P w = .ok (.value v) w := by
  have hr := run_append_owned_none (P := P) w base t o.type e i size ht hi v n xs hown
  unfold execOp
  simp only [ho, resolve, invoke, builtin, Sem.run_bind, Sem.run_pure, Result.andThen_ok, List.map_toArray, List.map_cons, List.map_nil, hs, hx, hr]
section
variable {w : World} {ra : Int} {aa : Option Addr} {la ca : Nat} {za : List (Int × Int)} {rb : Int} {ab : Option Addr} {lb cb : Nat} {zb : List (Int × Int)}
theorem redges_s (hA : ShAt w ra aa la ca za) (W : World) (hW : Below w.heap.size w W) :
    Calls Try.prog 56 #[.agg #[.int .i64 ra, .slice aa la ca]] W fun e w' => ∃ v, e = .returned v ∧ w'.ownsRow W.heap.size 29 2 v la (flat (eax za)) ∧ Below W.heap.size W w' ∧ (la = 0 → v = .slice none 0 0) := by
  have g := hA.later hW
  rcases g.kind with ⟨rfl, rfl, rfl, rfl, h1, h2⟩ | ⟨_, h1, h2, hb, _⟩
  · refine (redges_circle ra W).mono ?_
    rintro e w' ⟨rfl, hb⟩
    exact ⟨_, rfl, World.ownsRow_nil _ _ _ _, hb, fun _ => rfl⟩
  · refine (redges_poly ra aa la ca za W g.poly (by omega) (by omega) (fun i => by have := hb i; omega)).mono ?_
    rintro e w' ⟨v, rfl, ho, hb⟩
    exact ⟨v, rfl, ho, hb, fun h => by omega⟩
theorem rnearest_s (hA : ShAt w ra aa la ca za) (h0 : 1 ≤ la) (px py cx cy : Int) (hp : -20000000 ≤ px ∧ px ≤ 20000000 ∧ -20000000 ≤ py ∧ py ≤ 20000000) (hc : -20000000 ≤ cx ∧ cx ≤ 20000000 ∧ -20000000 ≤ cy ∧ cy ≤ 20000000) (W : World) (hW : Below w.heap.size w W) :
    Calls Try.prog 59 #[.agg #[.int .i64 ra, .slice aa la ca], .agg #[.int .i64 px, .int .i64 py], .agg #[.int .i64 cx, .int .i64 cy]] W fun e w' => e = .returned (.agg #[.int .i64 (px + vx za (nri za (px - cx) (py - cy))), .int .i64 (py + vy za (nri za (px - cx) (py - cy)))]) ∧ Below W.heap.size W w' := by
  have g := hA.later hW
  rcases g.kind with ⟨h, _⟩ | ⟨_, h1, h2, hb, _⟩
  · omega
  · exact rnearest_poly ra aa la ca za px py cx cy W g.poly (by omega) (by omega) hb hp hc
set_option maxRecDepth 100000 in
set_option maxHeartbeats 4000000 in
theorem raxes_s {px py qx qy : Int} (hA : ShAt w ra aa la ca za) (hB : ShAt w rb ab lb cb zb) (hp : -10000000 ≤ px ∧ px ≤ 10000000 ∧ -10000000 ≤ py ∧ py ≤ 10000000) (hq : -10000000 ≤ qx ∧ qx ≤ 10000000 ∧ -10000000 ≤ qy ∧ qy ≤ 10000000) (W : World) (hW : Below w.heap.size w W) :
    Calls Try.prog 28 #[.agg #[.int .i64 ra, .slice aa la ca], .agg #[.int .i64 px, .int .i64 py], .agg #[.int .i64 rb, .slice ab lb cb], .agg #[.int .i64 qx, .int .i64 qy]] W fun e w' => ∃ v, e = .returned v ∧ w'.ownsRow W.heap.size 29 2 v (axs za zb (qx - px) (qy - py)).length (flat (axs za zb (qx - px) (qy - py))) ∧ Below W.heap.size W w' := by
  have gA := hA.later hW
  have gB := hB.later hW
  have la6 : la ≤ 6 := by rcases gA.kind with ⟨h, _⟩ | ⟨_, _, h, _⟩ <;> omega
  have lb6 : lb ≤ 6 := by rcases gB.kind with ⟨h, _⟩ | ⟨_, _, h, _⟩ <;> omega
  have ea := gA.poly.len
  have eb := gB.poly.len
  have ce1 := redges_s gA
  have ce2 := redges_s gB
  obtain ⟨i0, hii, hz0, hz1, hz2⟩ := info_parts Try.infoV
  have Hce1 := Lib.hid ce1
  have Hce2 := Lib.hid ce2
  have Hea := Lib.hid ea
  have Heb := Lib.hid eb
  clear ce1 ce2 ea eb hA hB hW
  have hal := alloc_if; have hfal := allocF_if
  go_enter Try.func28, Try.ntmps28
  go_upto_region 1 with (fail)
  refine name_world2 fun W1 hW1 => ?_
  have q0 : W1.cell? ⟨W.heap.size, 0, none⟩ = some (.int .i64 ra) := by rw [hW1]; simp [hal, ↓IntWalk.iteOmega]
  have q1 : W1.cell? ⟨W.heap.size, 1, none⟩ = some (.slice aa la ca) := by rw [hW1]; simp [hal, ↓IntWalk.iteOmega]
  have q2 : W1.cell? ⟨W.heap.size + 1, 0, none⟩ = some (.int .i64 px) := by rw [hW1]; simp [hal, ↓IntWalk.iteOmega]
  have q3 : W1.cell? ⟨W.heap.size + 1, 1, none⟩ = some (.int .i64 py) := by rw [hW1]; simp [hal, ↓IntWalk.iteOmega]
  have q4 : W1.cell? ⟨W.heap.size + 1 + 1, 0, none⟩ = some (.int .i64 rb) := by rw [hW1]; simp [hal, ↓IntWalk.iteOmega]
  have q5 : W1.cell? ⟨W.heap.size + 1 + 1, 1, none⟩ = some (.slice ab lb cb) := by rw [hW1]; simp [hal, ↓IntWalk.iteOmega]
  have q6 : W1.cell? ⟨W.heap.size + 1 + 1 + 1, 0, none⟩ = some (.int .i64 qx) := by rw [hW1]; simp [hal, ↓IntWalk.iteOmega]
  have q7 : W1.cell? ⟨W.heap.size + 1 + 1 + 1, 1, none⟩ = some (.int .i64 qy) := by rw [hW1]; simp [hal, ↓IntWalk.iteOmega]
  have st0 : Below W.heap.size W W1 := by rw [hW1]; (repeat (first | (with_reducible exact Below.refl _ _) | (with_reducible refine Below.drew ?_) | (with_reducible refine below_drewN ?_ _) | (with_reducible refine Below.setCell ?_ (by first | (simp; done) | (simp; omega) | omega) _) | (with_reducible refine Below.alloc ?_ (by first | (simp; done) | (simp; omega) | omega) _) | (with_reducible refine Below.trans ?_ (Below.mono (by assumption) (by first | (simp; done) | (simp; omega) | omega))) | (with_reducible refine Below.trans ?_ (Below.mono (Later.below _) (by first | (simp; done) | (simp; omega) | omega)))))
  have l7 := World.block_lt_of_cell? _ _ q7
  simp only at l7
  have sz0 := st0.size
  clear hW1 hal hfal
  go_cut [9] (fun s9 wx => wx.ownsRow W1.heap.size 29 2 s9 (la + lb) (flat (eax za ++ eax zb)) ∧ Below W1.heap.size W1 wx)
  case first =>
    refine wp_region_ord [0, 2] [1, 3, 4, 5] (by kernel_rfl) (by kernel_rfl) fun NL hL => ?_
    obtain ⟨hNL, hlc, hlf⟩ := hL
    simp only [List.map_cons, List.map_nil, List.getD_cons_zero, List.getD_cons_succ]
    repeat (go_big_quiet_step (fail))
    refine wpQuiet_nil ?_
    refine wpListS_enter (f := 56) (args := #[.agg #[.int .i64 ra, .slice aa la ca]]) (w1 := W1.drew) rfl (by go_simp) (Hce1.out _ (by (repeat (first | (with_reducible exact Below.refl _ _) | (with_reducible refine Below.drew ?_) | (with_reducible refine below_drewN ?_ _) | (with_reducible refine Below.setCell ?_ (by first | (simp; done) | (simp; omega) | omega) _) | (with_reducible refine Below.alloc ?_ (by first | (simp; done) | (simp; omega) | omega) _) | (with_reducible refine Below.trans ?_ (Below.mono (by assumption) (by first | (simp; done) | (simp; omega) | omega))) | (with_reducible refine Below.trans ?_ (Below.mono (Later.below _) (by first | (simp; done) | (simp; omega) | omega))))))) ?_
    rintro e w2 ⟨v1, rfl, ho1, hb1, _⟩
    have hs1 := hb1.size
    have hB1 : Below W1.heap.size W1 w2 := (Below.refl _ W1).drew.trans hb1
    have hzz1 := hB1.size
    refine ⟨v1, rfl, ⟨⟨w2, hB1⟩, rfl⟩, ?_⟩
    simp only [Act.put, List.setIfInBounds_toArray, List.set_cons_zero, List.set_cons_succ]
    refine wpListS_enter (f := 56) (args := #[.agg #[.int .i64 rb, .slice ab lb cb]]) (w1 := w2) rfl (by go_simp) (Hce2.out _ (st0.trans (hB1.mono sz0))) ?_
    rintro e w3 ⟨v2, rfl, ho2, hb2, hn2⟩
    have hs2 := hb2.size
    have hB2 : Below W1.heap.size W1 w3 := hB1.trans (hb2.mono hzz1)
    have hzz2 := hB2.size
    refine ⟨v2, rfl, ⟨⟨w3, hB2⟩, rfl⟩, ?_⟩
    simp only [Act.put, List.setIfInBounds_toArray, List.set_cons_zero, List.set_cons_succ]
    have ho1' : w3.ownsRow W1.heap.size 29 2 v1 la (flat (eax za)) := ownsRow_later ho1 hb2
    by_cases h0 : lb = 0
    · obtain rfl := hn2 h0
      have ez : eax zb = [] := by unfold eax; rw [Heb.out, h0]; rfl
      refine wpListS_value (v := v1) (w1 := w3) rfl (run_append_none_op w3 (.tmp 11) (.tmp 13) 23 rfl W1.heap.size 29 i0 2 Try.underlying23 hii v1 la _ ho1' rfl rfl) ⟨⟨w3, hB2⟩, rfl⟩ ?_
      simp only [Act.put, List.setIfInBounds_toArray, List.set_cons_zero, List.set_cons_succ]
      refine wpListS_value (v := v1) (w1 := w3) rfl (by go_simp) ⟨⟨w3, hB2⟩, rfl⟩ ?_
      simp only [Act.put, List.setIfInBounds_toArray, List.set_cons_zero, List.set_cons_succ]
      refine wpListS_nil ?_
      have Hh0 := Lib.hid h0
      clear h0
      go_wp2
      go_meet
      refine ⟨?_, hB2⟩
      rw [ez, Hh0.out, List.append_nil]
      exact ho1'
    · obtain ⟨hl2, a2, cap2, rfl, hp2⟩ := poly_of_row ho2
      rcases hp2 with ⟨_, h, _⟩ | ⟨g2, o2, rfl, hzl2, hle2, hcm2, hcell2⟩
      · exact absurd h h0
      refine wpListS_wp rfl ?_
      refine wp_append_own _ (.tmp 11) (.tmp 13) 23 rfl W1.heap.size 29 i0 (.agg #[.int .i64 0, .int .i64 0]) 2 16 Try.underlying23 hii hz0 hz1 hz2 (by simp [Value.cells]) (by decide) v1 la (flat (eax za)) rfl ho1' ⟨g2, o2, none⟩ lb cap2 (flat (eax zb)) rfl (by rw [flat_length, hl2, Nat.mul_comm]) (by have := src_take hzl2 hcell2 lb; rwa [List.take_of_length_le (by omega)] at this) (flat_one _) (by unfold maxLen; omega) (by omega) (by omega) fun v' w4 hown4 hgrow4 _ => ?_
      have hB4 : Below W1.heap.size W1 w4 := hB2.grown hgrow4 (by omega) (fun k e => (ho1'.lt k e).1)
      refine ⟨⟨⟨w4, hB4⟩, rfl⟩, ?_⟩
      simp only [Act.put, List.setIfInBounds_toArray, List.set_cons_zero, List.set_cons_succ]
      refine wpListS_value (v := v') (w1 := w4) rfl (by go_simp) ⟨⟨w4, hB4⟩, rfl⟩ ?_
      simp only [Act.put, List.setIfInBounds_toArray, List.set_cons_zero, List.set_cons_succ]
      refine wpListS_nil ?_
      go_wp2
      go_meet
      exact ⟨by rw [flat_append]; exact hown4, hB4⟩
  obtain ⟨hown, hB1⟩ := hcut
  have Hown := Lib.hid hown
  clear hown
  have y0 := cell_below hB1 q0
  have y1 := cell_below hB1 q1
  have y2 := cell_below hB1 q2
  have y3 := cell_below hB1 q3
  have y4 := cell_below hB1 q4
  have y5 := cell_below hB1 q5
  have y6 := cell_below hB1 q6
  have y7 := cell_below hB1 q7
  have hBW : Below W.heap.size W wc := st0.trans (hB1.mono sz0)
  have gA1 := gA.later hBW
  have gB1 := gB.later hBW
  have zc := hB1.size
  obtain ⟨p1, p2, p3, p4⟩ := hp
  obtain ⟨r1, r2, r3, r4⟩ := hq
  clear q0 q1 q2 q3 q4 q5 q6 q7 st0 gA gB Hce1 Hce2
  have l8 : W.heap.size + 1 + 1 + 1 < wc.heap.size := by omega
  have hal := alloc_if; have hfal := allocF_if
  by_cases h0 : la = 0
  · by_cases h1 : lb = 0
    · have e1 := axs_one (za := za) (zb := zb) (dx := qx - px) (dy := qy - py) (by unfold cax; rw [if_pos (by rw [Hea.out]; exact h0), if_pos (by rw [Heb.out]; exact h1)])
      have cs := rsub_any qx qy px py (by omega) (by omega) (by omega) (by omega)
      have cx := raxis_any (qx - px) (qy - py) (by omega) (by omega)
      generalize unx (qx - px) (qy - py) = u at *
      generalize uny (qx - px) (qy - py) = v at *
      have He1 := Lib.hid e1
      clear e1
      have Hcs := Lib.hid cs; have Hcx := Lib.hid cx; clear cs cx
      subst h0 h1
      go_wp2_with (first | ((with_reducible refine (Hcs.out _).mono ?_); rintro e wA ⟨rfl, hbA⟩; obtain ⟨NA, hNA, hcA, hfA, hsA⟩ := bcell hbA; (try simp only [World.size_alloc, World.size_setCell, World.size_drew] at hNA)) | ((with_reducible refine (Hcx.out _).mono ?_); rintro e wB ⟨rfl, hbB⟩; obtain ⟨NB, hNB, hcB, hfB, hsB⟩ := bcell hbB; (try simp only [World.size_alloc, World.size_setCell, World.size_drew] at hNB)) | (at_builtin; refine wpList_append_own _ rfl _ _ 23 rfl W1.heap.size 29 i0 (.agg #[.int .i64 0, .int .i64 0]) 2 16 Try.underlying23 hii hz0 hz1 hz2 (by simp [Value.cells]) (by decide) _ (0 + 0) (flat (eax za ++ eax zb)) rfl ((ownsRow_later Hown.out (by (repeat (first | (with_reducible exact Below.refl _ _) | (with_reducible refine Below.drew ?_) | (with_reducible refine below_drewN ?_ _) | (with_reducible refine Below.setCell ?_ (by first | (simp; done) | (simp; omega) | omega) _) | (with_reducible refine Below.alloc ?_ (by first | (simp; done) | (simp; omega) | omega) _) | (with_reducible refine Below.trans ?_ (Below.mono (by assumption) (by first | (simp; done) | (simp; omega) | omega))) | (with_reducible refine Below.trans ?_ (Below.mono (Later.below _) (by first | (simp; done) | (simp; omega) | omega))))))).alloc _) ⟨wB.heap.size, 0, none⟩ 1 1 [.int .i64 u, .int .i64 v] rfl rfl (new2 _ _ _ _) (by simp [Value.oneCell']) (by unfold maxLen; omega) (by omega) (by simp; omega) ?_; intro v' w2 hown2 hgrow2 _))
      have hbc : Below wc.heap.size wc wB := by (repeat (first | (with_reducible exact Below.refl _ _) | (with_reducible refine Below.drew ?_) | (with_reducible refine below_drewN ?_ _) | (with_reducible refine Below.setCell ?_ (by first | (simp; done) | (simp; omega) | omega) _) | (with_reducible refine Below.alloc ?_ (by first | (simp; done) | (simp; omega) | omega) _) | (with_reducible refine Below.trans ?_ (Below.mono (by assumption) (by first | (simp; done) | (simp; omega) | omega))) | (with_reducible refine Below.trans ?_ (Below.mono (Later.below _) (by first | (simp; done) | (simp; omega) | omega)))))
      have hbc1 := hbc.size
      have hB2 : Below W.heap.size W w2 := ((hBW.trans (hbc.mono hBW.size)).alloc (by omega) _).grown hgrow2 (by simp; omega) (fun k e => by have := (Hown.out.lt k e).1; omega)
      have Hown2 := Lib.hid hown2
      clear hown2 hgrow2
      go_wp2
      go_ret
      refine ⟨_, rfl, ?_, hB2⟩
      rw [He1.out.1, He1.out.2, Hea.out, Heb.out]
      exact ownsRow_base Hown2.out (by omega)
    · have e1 := axs_one (za := za) (zb := zb) (dx := qx - px) (dy := qy - py) (by unfold cax; rw [if_pos (by rw [Hea.out]; exact h0), if_neg (by rw [Heb.out]; exact h1)])
      have kb := gB1.kind
      have hbd : Bd zb 32768 := by rcases kb with ⟨h, _⟩ | ⟨_, _, _, h, _⟩ <;> first | exact h | omega
      have nb := near_bd hbd (qx - px) (qy - py)
      have cn := fun V hV => rnearest_s gB1 (by omega) qx qy px py (by omega) (by omega) V hV
      have et : qx + vx zb (nri zb (qx - px) (qy - py)) - px = tvx zb (qx - px) (qy - py) := by unfold tvx; omega
      have et' : qy + vy zb (nri zb (qx - px) (qy - py)) - py = tvy zb (qx - px) (qy - py) := by unfold tvy; omega
      have cs := rsub_any (qx + vx zb (nri zb (qx - px) (qy - py))) (qy + vy zb (nri zb (qx - px) (qy - py))) px py (by omega) (by omega) (by omega) (by omega)
      rw [et, et'] at cs
      have cx := raxis_any (tvx zb (qx - px) (qy - py)) (tvy zb (qx - px) (qy - py)) (by omega) (by omega)
      clear nb kb hbd et et'
      generalize unx (tvx zb (qx - px) (qy - py)) (tvy zb (qx - px) (qy - py)) = u at *
      generalize uny (tvx zb (qx - px) (qy - py)) (tvy zb (qx - px) (qy - py)) = v at *
      generalize tvx zb (qx - px) (qy - py) = tx at *
      generalize tvy zb (qx - px) (qy - py) = ty at *
      generalize qx + vx zb (nri zb (qx - px) (qy - py)) = nx at *
      generalize qy + vy zb (nri zb (qx - px) (qy - py)) = ny at *
      have He1 := Lib.hid e1
      clear e1
      have Hcs := Lib.hid cs; have Hcx := Lib.hid cx; have Hcn := Lib.hid cn; clear cs cx cn
      have hb1 : ((lb : Int) == 0) = false := beq_eq_false_iff_ne.2 (by omega)
      subst h0
      go_upto_region 5 with (fail)
      obtain ⟨G, hG1, hG2⟩ : ∃ G, W1.heap.size ≤ G ∧ (∀ k, u9.ownBlock = some k → k = G) := by
        have hlt1 := Hown.out.lt
        cases ho : u9.ownBlock with
        | none => exact ⟨W1.heap.size, Nat.le_refl _, (fun k hk => by cases hk)⟩
        | some g => exact ⟨g, (hlt1 g ho).1, (fun k hk => by cases hk; rfl)⟩
      have HG2 := Lib.hid hG2
      clear hG2
      refine wp_region_two G [] [0, 1, 2, 3, 5] [4, 6, 7, 8, 9, 10] 4 (by kernel_rfl) (by kernel_rfl) fun NL hL hL2 => ?_
      obtain ⟨hNL, hlc, hlf⟩ := hL
      obtain ⟨_, hl2⟩ := hL2
      simp only [List.map_cons, List.map_nil, List.getD_cons_zero, List.getD_cons_succ]
      refine wpQuiet_nil ?_
      repeat (go_big_quiet_step (fail))
      refine wpQuiet_nil ?_
      clear hlc hlf hl2 hNL
      refine wpListS_enter (f := 59) (args := #[.agg #[.int .i64 rb, .slice ab lb cb], .agg #[.int .i64 qx, .int .i64 qy], .agg #[.int .i64 px, .int .i64 py]]) (w1 := wc.drew) rfl (by go_simp) (Hcn.out _ (by (repeat (first | (with_reducible exact Below.refl _ _) | (with_reducible refine Below.drew ?_) | (with_reducible refine below_drewN ?_ _) | (with_reducible refine Below.setCell ?_ (by first | (simp; done) | (simp; omega) | omega) _) | (with_reducible refine Below.alloc ?_ (by first | (simp; done) | (simp; omega) | omega) _) | (with_reducible refine Below.trans ?_ (Below.mono (by assumption) (by first | (simp; done) | (simp; omega) | omega))) | (with_reducible refine Below.trans ?_ (Below.mono (Later.below _) (by first | (simp; done) | (simp; omega) | omega))))))) ?_
      rintro e w2 ⟨rfl, hb2⟩
      have hB2 : Below wc.heap.size wc w2 := (Below.refl _ wc).drew.trans hb2
      refine ⟨_, rfl, ⟨⟨w2, only_of_below hB2 G⟩, rfl⟩, ?_⟩
      simp only [Act.put, List.setIfInBounds_toArray, List.set_cons_zero, List.set_cons_succ]
      refine wpListS_enter (f := 58) (args := #[.agg #[.int .i64 nx, .int .i64 ny], .agg #[.int .i64 px, .int .i64 py]]) (w1 := w2) rfl (by go_simp) (Hcs.out _) ?_
      rintro e w3 ⟨rfl, hb3⟩
      have hB3 : Below wc.heap.size wc w3 := hB2.trans (hb3.mono hB2.size)
      refine ⟨_, rfl, ⟨⟨w3, only_of_below hB3 G⟩, rfl⟩, ?_⟩
      simp only [Act.put, List.setIfInBounds_toArray, List.set_cons_zero, List.set_cons_succ]
      refine wpListS_enter (f := 57) (args := #[.agg #[.int .i64 tx, .int .i64 ty]]) (w1 := w3) rfl (by go_simp) (Hcx.out _) ?_
      rintro e w4 ⟨rfl, hb4⟩
      have hB4 : Below wc.heap.size wc w4 := hB3.trans (hb4.mono hB3.size)
      have hz4 := hB4.size
      refine ⟨_, rfl, ⟨⟨w4, only_of_below hB4 G⟩, rfl⟩, ?_⟩
      simp only [Act.put, List.setIfInBounds_toArray, List.set_cons_zero, List.set_cons_succ]
      have hB5 : Below wc.heap.size wc (w4.alloc (.cells #[.int .i64 u, .int .i64 v] 29)) := hB4.alloc hz4 _
      have hO5 := only_of_below hB5 G
      refine wpListS_value (v := .slice (some ⟨w4.heap.size, 0, none⟩) 1 1) (w1 := w4.alloc (.cells #[.int .i64 u, .int .i64 v] 29)) rfl (by go_simp) ⟨⟨_, hO5⟩, rfl⟩ ?_
      simp only [Act.put, List.setIfInBounds_toArray, List.set_cons_zero, List.set_cons_succ]
      refine wpListS_wp rfl ?_
      refine wp_append_own _ (.tmp 36) (.tmp 44) 23 rfl W1.heap.size 29 i0 (.agg #[.int .i64 0, .int .i64 0]) 2 16 Try.underlying23 hii hz0 hz1 hz2 (by simp [Value.cells]) (by decide) u9 (0 + lb) (flat (eax za ++ eax zb)) rfl ((ownsRow_later Hown.out hB4).alloc _) ⟨w4.heap.size, 0, none⟩ 1 1 [.int .i64 u, .int .i64 v] rfl rfl (new2 _ _ _ _) (by simp [Value.oneCell']) (by unfold maxLen; omega) (by omega) (by simp; omega) fun v' w6 hown2 hgrow2 _ => ?_
      have hO6 : wc.grownBy w6 (some G) := only_trans hO5 hgrow2 HG2.out
      have hBW6 : Below W.heap.size W w6 := (hBW.trans (hB5.mono hBW.size)).grown hgrow2 (by have := hB5.size; omega) (fun k e => by have := (Hown.out.lt k e).1; omega)
      refine ⟨⟨⟨_, hO6⟩, rfl⟩, ?_⟩
      simp only [Act.put, List.setIfInBounds_toArray, List.set_cons_zero, List.set_cons_succ]
      refine wpListS_value (v := v') (w1 := w6) rfl (by go_simp) ⟨⟨_, hO6⟩, rfl⟩ ?_
      simp only [Act.put, List.setIfInBounds_toArray, List.set_cons_zero, List.set_cons_succ]
      refine wpListS_nil ?_
      have Hown2 := Lib.hid hown2
      clear hown2 hgrow2 hal hfal hO5 hO6
      go_wp2
      go_ret
      refine ⟨_, rfl, ?_, hBW6⟩
      rw [He1.out.1, He1.out.2, Hea.out, Heb.out]
      exact ownsRow_base Hown2.out (by omega)
  · by_cases h1 : lb = 0
    · have e1 := axs_one (za := za) (zb := zb) (dx := qx - px) (dy := qy - py) (by unfold cax; rw [if_neg (by rw [Hea.out]; exact h0), if_pos (by rw [Heb.out]; exact h1)])
      rw [show -(qx - px) = px - qx by omega, show -(qy - py) = py - qy by omega] at e1
      have kb := gA1.kind
      have hbd : Bd za 32768 := by rcases kb with ⟨h, _⟩ | ⟨_, _, _, h, _⟩ <;> first | exact h | omega
      have nb := near_bd hbd (px - qx) (py - qy)
      have cn := fun V hV => rnearest_s gA1 (by omega) px py qx qy (by omega) (by omega) V hV
      have et : px + vx za (nri za (px - qx) (py - qy)) - qx = tvx za (px - qx) (py - qy) := by unfold tvx; omega
      have et' : py + vy za (nri za (px - qx) (py - qy)) - qy = tvy za (px - qx) (py - qy) := by unfold tvy; omega
      have cs := rsub_any (px + vx za (nri za (px - qx) (py - qy))) (py + vy za (nri za (px - qx) (py - qy))) qx qy (by omega) (by omega) (by omega) (by omega)
      rw [et, et'] at cs
      have cx := raxis_any (tvx za (px - qx) (py - qy)) (tvy za (px - qx) (py - qy)) (by omega) (by omega)
      clear nb kb hbd et et'
      generalize unx (tvx za (px - qx) (py - qy)) (tvy za (px - qx) (py - qy)) = u at *
      generalize uny (tvx za (px - qx) (py - qy)) (tvy za (px - qx) (py - qy)) = v at *
      generalize tvx za (px - qx) (py - qy) = tx at *
      generalize tvy za (px - qx) (py - qy) = ty at *
      generalize px + vx za (nri za (px - qx) (py - qy)) = nx at *
      generalize py + vy za (nri za (px - qx) (py - qy)) = ny at *
      have He1 := Lib.hid e1
      clear e1
      have Hcs := Lib.hid cs; have Hcx := Lib.hid cx; have Hcn := Lib.hid cn; clear cs cx cn
      have hb0 : ((la : Int) == 0) = false := beq_eq_false_iff_ne.2 (by omega)
      subst h1
      go_upto_region 7 with (fail)
      obtain ⟨G, hG1, hG2⟩ : ∃ G, W1.heap.size ≤ G ∧ (∀ k, u9.ownBlock = some k → k = G) := by
        have hlt1 := Hown.out.lt
        cases ho : u9.ownBlock with
        | none => exact ⟨W1.heap.size, Nat.le_refl _, (fun k hk => by cases hk)⟩
        | some g => exact ⟨g, (hlt1 g ho).1, (fun k hk => by cases hk; rfl)⟩
      have HG2 := Lib.hid hG2
      clear hG2
      refine wp_region_two G [] [0, 1, 2, 3, 5] [4, 6, 7, 8, 9, 10] 4 (by kernel_rfl) (by kernel_rfl) fun NL hL hL2 => ?_
      obtain ⟨hNL, hlc, hlf⟩ := hL
      obtain ⟨_, hl2⟩ := hL2
      simp only [List.map_cons, List.map_nil, List.getD_cons_zero, List.getD_cons_succ]
      refine wpQuiet_nil ?_
      repeat (go_big_quiet_step (fail))
      refine wpQuiet_nil ?_
      clear hlc hlf hl2 hNL
      refine wpListS_enter (f := 59) (args := #[.agg #[.int .i64 ra, .slice aa la ca], .agg #[.int .i64 px, .int .i64 py], .agg #[.int .i64 qx, .int .i64 qy]]) (w1 := wc.drew) rfl (by go_simp) (Hcn.out _ (by (repeat (first | (with_reducible exact Below.refl _ _) | (with_reducible refine Below.drew ?_) | (with_reducible refine below_drewN ?_ _) | (with_reducible refine Below.setCell ?_ (by first | (simp; done) | (simp; omega) | omega) _) | (with_reducible refine Below.alloc ?_ (by first | (simp; done) | (simp; omega) | omega) _) | (with_reducible refine Below.trans ?_ (Below.mono (by assumption) (by first | (simp; done) | (simp; omega) | omega))) | (with_reducible refine Below.trans ?_ (Below.mono (Later.below _) (by first | (simp; done) | (simp; omega) | omega))))))) ?_
      rintro e w2 ⟨rfl, hb2⟩
      have hB2 : Below wc.heap.size wc w2 := (Below.refl _ wc).drew.trans hb2
      refine ⟨_, rfl, ⟨⟨w2, only_of_below hB2 G⟩, rfl⟩, ?_⟩
      simp only [Act.put, List.setIfInBounds_toArray, List.set_cons_zero, List.set_cons_succ]
      refine wpListS_enter (f := 58) (args := #[.agg #[.int .i64 nx, .int .i64 ny], .agg #[.int .i64 qx, .int .i64 qy]]) (w1 := w2) rfl (by go_simp) (Hcs.out _) ?_
      rintro e w3 ⟨rfl, hb3⟩
      have hB3 : Below wc.heap.size wc w3 := hB2.trans (hb3.mono hB2.size)
      refine ⟨_, rfl, ⟨⟨w3, only_of_below hB3 G⟩, rfl⟩, ?_⟩
      simp only [Act.put, List.setIfInBounds_toArray, List.set_cons_zero, List.set_cons_succ]
      refine wpListS_enter (f := 57) (args := #[.agg #[.int .i64 tx, .int .i64 ty]]) (w1 := w3) rfl (by go_simp) (Hcx.out _) ?_
      rintro e w4 ⟨rfl, hb4⟩
      have hB4 : Below wc.heap.size wc w4 := hB3.trans (hb4.mono hB3.size)
      have hz4 := hB4.size
      refine ⟨_, rfl, ⟨⟨w4, only_of_below hB4 G⟩, rfl⟩, ?_⟩
      simp only [Act.put, List.setIfInBounds_toArray, List.set_cons_zero, List.set_cons_succ]
      have hB5 : Below wc.heap.size wc (w4.alloc (.cells #[.int .i64 u, .int .i64 v] 29)) := hB4.alloc hz4 _
      have hO5 := only_of_below hB5 G
      refine wpListS_value (v := .slice (some ⟨w4.heap.size, 0, none⟩) 1 1) (w1 := w4.alloc (.cells #[.int .i64 u, .int .i64 v] 29)) rfl (by go_simp) ⟨⟨_, hO5⟩, rfl⟩ ?_
      simp only [Act.put, List.setIfInBounds_toArray, List.set_cons_zero, List.set_cons_succ]
      refine wpListS_wp rfl ?_
      refine wp_append_own _ (.tmp 50) (.tmp 58) 23 rfl W1.heap.size 29 i0 (.agg #[.int .i64 0, .int .i64 0]) 2 16 Try.underlying23 hii hz0 hz1 hz2 (by simp [Value.cells]) (by decide) u9 (la + 0) (flat (eax za ++ eax zb)) rfl ((ownsRow_later Hown.out hB4).alloc _) ⟨w4.heap.size, 0, none⟩ 1 1 [.int .i64 u, .int .i64 v] rfl rfl (new2 _ _ _ _) (by simp [Value.oneCell']) (by unfold maxLen; omega) (by omega) (by simp; omega) fun v' w6 hown2 hgrow2 _ => ?_
      have hO6 : wc.grownBy w6 (some G) := only_trans hO5 hgrow2 HG2.out
      have hBW6 : Below W.heap.size W w6 := (hBW.trans (hB5.mono hBW.size)).grown hgrow2 (by have := hB5.size; omega) (fun k e => by have := (Hown.out.lt k e).1; omega)
      refine ⟨⟨⟨_, hO6⟩, rfl⟩, ?_⟩
      simp only [Act.put, List.setIfInBounds_toArray, List.set_cons_zero, List.set_cons_succ]
      refine wpListS_value (v := v') (w1 := w6) rfl (by go_simp) ⟨⟨_, hO6⟩, rfl⟩ ?_
      simp only [Act.put, List.setIfInBounds_toArray, List.set_cons_zero, List.set_cons_succ]
      refine wpListS_nil ?_
      have Hown2 := Lib.hid hown2
      clear hown2 hgrow2 hal hfal hO5 hO6
      go_wp2
      go_ret
      refine ⟨_, rfl, ?_, hBW6⟩
      rw [He1.out.1, He1.out.2, Hea.out, Heb.out]
      exact ownsRow_base Hown2.out (by omega)
    · have e1 := axs_none (za := za) (zb := zb) (dx := qx - px) (dy := qy - py) (by unfold cax; rw [if_neg (by rw [Hea.out]; exact h0), if_neg (by rw [Heb.out]; exact h1)])
      have He1 := Lib.hid e1
      clear e1
      have hb0 : ((la : Int) == 0) = false := beq_eq_false_iff_ne.2 (by omega)
      have hb1 : ((lb : Int) == 0) = false := beq_eq_false_iff_ne.2 (by omega)
      go_wp2
      go_ret
      refine ⟨_, rfl, ?_, hBW⟩
      rw [He1.out.1, He1.out.2, Hea.out, Heb.out]
      exact ownsRow_base Hown.out (by omega)
end
end Go.Proofs.Ytcgcapfppceggaa.Co
