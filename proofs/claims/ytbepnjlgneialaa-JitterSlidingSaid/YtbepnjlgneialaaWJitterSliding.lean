/-
  The walk of the law JitterSliding: it returns true at every input.
  Conditions: none.
-/
import Derived.Test.YtbepnjlgneialaaJiN
namespace Go.Proofs.Ytbepnjlgneialaa.W
open Go Go.RowKit Go.Proofs.Ytbepnjlgneialaa.FxA Go.Proofs.Ytbepnjlgneialaa.Qt Go.Proofs.Ytbepnjlgneialaa.Ji
set_option linter.unusedVariables false
set_option linter.unusedSimpArgs false
theorem kept16 (D : List Int) (h : D.length = 16) : kept D = D.map c60 := by unfold kept; rw [h]; simp
theorem slide (Y T : List Int) (hT : T.length = 16) (k : Nat) (p : Int) : qnt (kept (Y ++ T)) p = qnt (kept (T.drop k ++ T.take k)) p := by
  have e : kept (Y ++ T) = T.map c60 := by
    unfold kept
    rw [List.length_append, hT, show Y.length + 16 - 16 = Y.length by omega, List.drop_left]
  rw [e, kept16 _ (by simp; omega)]
  refine qnt_perm ?_ p
  refine List.Perm.map _ ?_
  conv => lhs; rw [← List.take_append_drop k T]
  exact List.perm_append_comm
set_option maxRecDepth 100000 in
set_option maxHeartbeats 4000000 in
theorem JitterSliding_walk (a0 : Option Addr) (len0 cap0 : Nat) (z0 : List Int) (a1 : Option Addr) (len1 cap1 : Nat) (z1 : List Int) (a2 a3 : Int) (w : World) (w0 : Fr.IsRow .i64 w a0 len0 cap0 z0) (w1 : Fr.IsRow .i64 w a1 len1 cap1 z1) (w2 : (Lit.int .i64 a2).wf = true) (w3 : (Lit.int .i64 a3).wf = true) :
    Calls Try.prog 5 #[.slice a0 len0 cap0, .slice a1 len1 cap1, .int .i64 a2, .int .i64 a3] w fun e w' => e = .returned (.bool true) ∧ Below w.heap.size w w' := by
  have hp0 := isL_of_row w0
  have cd := hp0.dly
  have hp := isL_of_row w1
  generalize z0.take len0 = X at *
  generalize z1.take len1 = Z at *
  have hwf := dly_wf X
  have hlen := dly_len X
  generalize dly X = Y at *
  obtain ⟨n, hn⟩ : ∃ n, n = Y.length := ⟨_, rfl⟩
  rw [← hn] at cd hlen
  have hn40 : n ≤ 40 := by omega
  have Hwf := Lib.hid hwf
  have Hn := Lib.hid hn
  have i2 := i64_bd w2
  have c2 := gives_same (fun w => around_any a2 17 w i2.1 i2.2 (by omega) (by omega))
  have hb2 := aro_bd a2 17 (by decide)
  obtain ⟨k3, hk3⟩ : ∃ k : Nat, aro a2 17 = (k : Int) := ⟨(aro a2 17).toNat, by omega⟩
  rw [hk3] at c2 hb2
  have hk16 : k3 ≤ 16 := by omega
  have lv := lives_any
  obtain ⟨i0, hii, hz0, hz1, hz2⟩ := info_parts Try.infoI
  have hZ := hp.1
  have hlc := hp.2.1
  have hcm := hp.2.2.1
  unfold maxLen at hcm
  have Hcd := Lib.hid cd; have Hc2 := Lib.hid c2; have Hlv := Lib.hid lv; clear cd c2 lv
  clear w0 w1 i2 hb2 hk3 hp0 hwf hn hlen
  go_enter Try.func5, Try.ntmps5
  go_wp2
  go_loopw [9, 10] (fun l i wr => ∃ j : Nat, j ≤ 16 ∧ i = .int .i64 j ∧ wr.ownsRow w.heap.size 3 1 l j ((gen Z 70 j).map (Value.int .i64)) ∧ Below w.heap.size w wr) (fun _ i _ => 16 - (intOf i).toNat)
  case atStart => exact ⟨0, by omega, rfl, World.ownsRow_nil _ _ _ _, Below.refl _ _⟩
  case round =>
    obtain ⟨j, hj, rfl, hown, hB⟩ := hrel
    have hws := hB.size
    have hj0 : (0 : Int) ≤ (j : Int) := by omega
    by_cases h15 : j < 16
    · have h16I : (j : Int) < 16 := by omega
      have hsn := congrArg (List.map (Value.int .i64)) (gen_snoc Z 70 j)
      rw [List.map_append, List.map_singleton] at hsn
      by_cases hlt : j < len1
      · obtain ⟨b, o, rfl, hc, hw⟩ := (hp.later hB).cell (k := j) hlt
        rw [if_pos (by omega)] at hsn
        generalize Z.getD j 0 = x at *
        have hx := i64_bd hw
        have ca := gives_same (fun w => around_any x 70 w hx.1 hx.2 (by omega) (by omega))
        generalize aro x 70 = y at *
        have hlI : (j : Int) < (len1 : Int) := by omega
        have Hsn := Lib.hid hsn
        have Hp := Lib.hid hp
        clear hsn hp hx hZ
        have Hca := Lib.hid ca; clear ca
        go_wp2_with (first | ((with_reducible refine (Hca.out _).mono ?_); rintro e wA ⟨rfl, hbA⟩; obtain ⟨NA, hNA, hcA, hfA, hsA⟩ := bcell hbA; (try simp only [World.size_alloc, World.size_setCell, World.size_drew] at hNA)) | (at_builtin; refine wpList_append_own _ rfl _ _ 22 rfl w.heap.size 3 i0 (.int .i64 0) 1 8 Try.underlying22 hii hz0 hz1 hz2 (by simp [Value.cells]) (by decide) _ j ((gen Z 70 j).map (Value.int .i64)) rfl ((ownsRow_kept hown (by (repeat (first | (with_reducible exact Below.refl _ _) | (with_reducible refine Below.drew ?_) | (with_reducible refine below_drewN ?_ _) | (with_reducible refine Below.setCell ?_ (by first | (simp; done) | (simp; omega) | omega) _) | (with_reducible refine Below.alloc ?_ (by first | (simp; done) | (simp; omega) | omega) _) | (with_reducible refine Below.trans ?_ (Below.mono (by assumption) (by first | (simp; done) | (simp; omega) | omega))) | (with_reducible refine Below.trans ?_ (Below.mono (Later.below _) (by first | (simp; done) | (simp; omega) | omega))))))).alloc _) ⟨wA.heap.size, 0, none⟩ 1 1 [.int .i64 y] rfl rfl (new1 _ _ _) (by simp [Value.oneCell']) (by unfold maxLen; omega) (by omega) (by simp; omega) ?_; intro v' w2 hown2 hgrow2 _))
        have hown3 : w2.ownsRow w.heap.size 3 1 v' (j + 1) ((gen Z 70 (j + 1)).map (Value.int .i64)) := by rw [Hsn.out]; exact hown2
        have hB2 : Below w.heap.size w w2 := ((hB.trans (hbA.mono hws)).alloc (by omega) _).grown hgrow2 (by simp; omega) (fun k e => (hown.lt k e).1)
        clear hown hown2 hgrow2
        go_wp2
        go_roundw
        case rel => exact ⟨j + 1, by omega, by go_num, hown3, hB2⟩
        case measure => simp [intOf]; omega
      · rw [if_neg (by omega)] at hsn
        have ca := gives_same (fun w => around_any (j : Int) 70 w (by omega) (by omega) (by omega) (by omega))
        generalize aro (j : Int) 70 = y at *
        have hlI : ¬ (j : Int) < (len1 : Int) := by omega
        have Hsn := Lib.hid hsn
        have Hp := Lib.hid hp
        clear hsn hp hZ
        have Hca := Lib.hid ca; clear ca
        go_wp2_with (first | ((with_reducible refine (Hca.out _).mono ?_); rintro e wA ⟨rfl, hbA⟩; obtain ⟨NA, hNA, hcA, hfA, hsA⟩ := bcell hbA; (try simp only [World.size_alloc, World.size_setCell, World.size_drew] at hNA)) | (at_builtin; refine wpList_append_own _ rfl _ _ 22 rfl w.heap.size 3 i0 (.int .i64 0) 1 8 Try.underlying22 hii hz0 hz1 hz2 (by simp [Value.cells]) (by decide) _ j ((gen Z 70 j).map (Value.int .i64)) rfl ((ownsRow_kept hown (by (repeat (first | (with_reducible exact Below.refl _ _) | (with_reducible refine Below.drew ?_) | (with_reducible refine below_drewN ?_ _) | (with_reducible refine Below.setCell ?_ (by first | (simp; done) | (simp; omega) | omega) _) | (with_reducible refine Below.alloc ?_ (by first | (simp; done) | (simp; omega) | omega) _) | (with_reducible refine Below.trans ?_ (Below.mono (by assumption) (by first | (simp; done) | (simp; omega) | omega))) | (with_reducible refine Below.trans ?_ (Below.mono (Later.below _) (by first | (simp; done) | (simp; omega) | omega))))))).alloc _) ⟨wA.heap.size, 0, none⟩ 1 1 [.int .i64 y] rfl rfl (new1 _ _ _) (by simp [Value.oneCell']) (by unfold maxLen; omega) (by omega) (by simp; omega) ?_; intro v' w2 hown2 hgrow2 _))
        have hown3 : w2.ownsRow w.heap.size 3 1 v' (j + 1) ((gen Z 70 (j + 1)).map (Value.int .i64)) := by rw [Hsn.out]; exact hown2
        have hB2 : Below w.heap.size w w2 := ((hB.trans (hbA.mono hws)).alloc (by omega) _).grown hgrow2 (by simp; omega) (fun k e => (hown.lt k e).1)
        clear hown hown2 hgrow2
        go_wp2
        go_roundw
        case rel => exact ⟨j + 1, by omega, by go_num, hown3, hB2⟩
        case measure => simp [intOf]; omega
    · obtain rfl : j = 16 := by omega
      have hgb := gen_bd Z 70 16 (by decide)
      have hgl := gen_len Z 70 16
      generalize gen Z 70 16 = T at *
      obtain ⟨_, a, cap, rfl, hpT⟩ := isL_of_own hown (fun x hx => by have := hgb x hx; exact wf_small (by omega) (by omega))
      have hcT := hpT.2.1
      have hcmT := hpT.2.2.1
      unfold maxLen at hcmT
      obtain ⟨bT, oT, rfl, hbT, hcc⟩ := isL_at hpT (by omega)
      have Hcc := Lib.hid hcc
      have hsl := slide Y T hgl k3
      have Hsl := Lib.hid hsl
      have Hgl := Lib.hid hgl
      have Hgb := Lib.hid hgb
      have hkI : (k3 : Int) ≤ 16 := by omega
      have hk0 : (0 : Int) ≤ (k3 : Int) := by omega
      have hkc : (k3 : Int) ≤ (cap : Int) := by omega
      clear hown hp hgb hgl hZ hsl hcc hpT
      have Hsrc : ∀ W, Below wr.heap.size wr W → ∀ i, i < 16 → W.cell? ⟨bT, oT + i, none⟩ = some (.int .i64 (T.getD i 0)) := fun W hW i hi => cell_below hW (Hcc.out i hi)
      have HSrc := Lib.hid Hsrc
      clear Hsrc
      go_upto_region 11 with (first | ((with_reducible refine (Hc2.out _).mono ?_); rintro e wA ⟨rfl, hbA⟩; obtain ⟨NA, hNA, hcA, hfA, hsA⟩ := bcell hbA; (try simp only [World.size_alloc, World.size_setCell, World.size_drew] at hNA)) | ((with_reducible refine (Hcd.out _ (by (repeat (first | (with_reducible exact Below.refl _ _) | (with_reducible refine Below.drew ?_) | (with_reducible refine below_drewN ?_ _) | (with_reducible refine Below.setCell ?_ (by first | (simp; done) | (simp; omega) | omega) _) | (with_reducible refine Below.alloc ?_ (by first | (simp; done) | (simp; omega) | omega) _) | (with_reducible refine Below.trans ?_ (Below.mono (by assumption) (by first | (simp; done) | (simp; omega) | omega))) | (with_reducible refine Below.trans ?_ (Below.mono (Later.below _) (by first | (simp; done) | (simp; omega) | omega))))))).mono ?_); rintro e WD ⟨v, rfl, hownD, hbD⟩; (obtain ⟨ND, hND, hcD, hfD, hsD⟩ := bcell hbD; (try simp only [World.size_alloc, World.size_setCell, World.size_drew] at hND)); have hbrD : Below wr.heap.size wr WD := (by (repeat (first | (with_reducible exact Below.refl _ _) | (with_reducible refine Below.drew ?_) | (with_reducible refine below_drewN ?_ _) | (with_reducible refine Below.setCell ?_ (by first | (simp; done) | (simp; omega) | omega) _) | (with_reducible refine Below.alloc ?_ (by first | (simp; done) | (simp; omega) | omega) _) | (with_reducible refine Below.trans ?_ (Below.mono (by assumption) (by first | (simp; done) | (simp; omega) | omega))) | (with_reducible refine Below.trans ?_ (Below.mono (Later.below _) (by first | (simp; done) | (simp; omega) | omega))))))) | (at_builtin; refine wpList_append_own _ rfl _ _ 22 rfl wA.heap.size 3 i0 (.int .i64 0) 1 8 Try.underlying22 hii hz0 hz1 hz2 (by simp [Value.cells]) (by decide) _ n (Y.map (Value.int .i64)) rfl hownD ⟨bT, oT, none⟩ 16 cap (T.map (Value.int .i64)) rfl (by have := Hgl.out; simp; omega) (by have := src_take Hgl.out (HSrc.out WD hbrD) 16; rwa [List.take_of_length_le (by rw [Hgl.out]; omega)] at this) (ints_one _) (by unfold maxLen; omega) (by omega) (by omega) ?_; intro v2 w2 hown2 hgrow2 _; have hb2 : Below wr.heap.size wr w2 := hbrD.grown hgrow2 (by omega) (fun k e => by have := (hownD.lt k e).1; omega); obtain ⟨hl2, a', cap', rfl, hp2⟩ := isL_of_own (zs := Y ++ T) (by simpa using hown2) (fun x hx => (List.mem_append.1 hx).elim (Hwf.out x) (fun h => wf_small (by have := Hgb.out x h; omega) (by have := Hgb.out x h; omega))); have G1 := Lib.hid (hp2.fill (by omega)); have hb2s := hb2.size; clear hown2 hgrow2 hp2 hownD hbrD) | ((with_reducible refine (G1.out _ (by (repeat (first | (with_reducible exact Below.refl _ _) | (with_reducible refine Below.drew ?_) | (with_reducible refine below_drewN ?_ _) | (with_reducible refine Below.setCell ?_ (by first | (simp; done) | (simp; omega) | omega) _) | (with_reducible refine Below.alloc ?_ (by first | (simp; done) | (simp; omega) | omega) _) | (with_reducible refine Below.trans ?_ (Below.mono (by assumption) (by first | (simp; done) | (simp; omega) | omega))) | (with_reducible refine Below.trans ?_ (Below.mono (Later.below _) (by first | (simp; done) | (simp; omega) | omega))))))).mono ?_); rintro e WI ⟨bI, rfl, hE, hbI⟩; (obtain ⟨NI, hNI, hcI, hfI, hsI⟩ := bcell hbI; (try simp only [World.size_alloc, World.size_setCell, World.size_drew] at hNI)); have HE := Lib.hid hE; clear hE))
      have hbA11 : Below wr.heap.size wr WI := by (repeat (first | (with_reducible exact Below.refl _ _) | (with_reducible refine Below.drew ?_) | (with_reducible refine below_drewN ?_ _) | (with_reducible refine Below.setCell ?_ (by first | (simp; done) | (simp; omega) | omega) _) | (with_reducible refine Below.alloc ?_ (by first | (simp; done) | (simp; omega) | omega) _) | (with_reducible refine Below.trans ?_ (Below.mono (by assumption) (by first | (simp; done) | (simp; omega) | omega))) | (with_reducible refine Below.trans ?_ (Below.mono (Later.below _) (by first | (simp; done) | (simp; omega) | omega)))))
      have hIs := hbA11.size
      have HbI := Lib.hid hbA11
      have fin : ∀ v4 w4, w4.ownsRow WI.heap.size 3 1 v4 (16 - k3 + k3) ((T.drop k3).map (Value.int .i64) ++ (T.take k3).map (Value.int .i64)) → ∃ a4 cap4, v4 = .slice a4 16 cap4 ∧ IsL w4 a4 16 cap4 (T.drop k3 ++ T.take k3) := by
        intro v4 w4 ho
        rw [show 16 - k3 + k3 = 16 by omega] at ho
        have hTw : ∀ x ∈ T, (Lit.int .i64 x).wf = true := fun x h => wf_small (by have := Hgb.out x h; omega) (by have := Hgb.out x h; omega)
        obtain ⟨_, a4, cap4, h1, h2⟩ := isL_of_own (zs := T.drop k3 ++ T.take k3) (by simpa using ho) (fun x hx => (List.mem_append.1 hx).elim (fun h => hTw x (List.mem_of_mem_drop h)) (fun h => hTw x (List.mem_of_mem_take h)))
        exact ⟨a4, cap4, h1, h2⟩
      have Hfin := Lib.hid fin
      clear fin hbA11 hcA hfA hcD hfD hcI hfI hbA hbD hbI G1 hb2
      have hB3 : Below w.heap.size w WI := hB.trans (HbI.out.mono hws)
      have HB3 := Lib.hid hB3
      clear hB3 hB
      by_cases hkc2 : k3 < cap
      · have hcb : ((cap : Int) == (k3 : Int)) = false := beq_eq_false_iff_ne.2 (by omega)
        refine wp_region_two WI.heap.size [] [0, 1, 2, 4, 5, 6] [3, 7, 8, 9] 3 (by kernel_rfl) (by kernel_rfl) fun NL hL hL2 => ?_
        obtain ⟨hNL, hlc', hlf⟩ := hL
        obtain ⟨_, hl2⟩ := hL2
        simp only [List.map_cons, List.map_nil, List.getD_cons_zero, List.getD_cons_succ]
        refine wpQuiet_nil ?_
        repeat (go_big_quiet_step (fail))
        refine wpQuiet_nil ?_
        clear hlc' hlf hl2 hNL
        refine wpListS_wp rfl ?_
        refine wp_append_own _ (.const (.slice none 0 0)) (.tmp 42) 22 rfl WI.heap.size 3 i0 (.int .i64 0) 1 8 Try.underlying22 hii hz0 hz1 hz2 (by simp [Value.cells]) (by decide) (.slice none 0 0) 0 [] rfl (World.ownsRow_nil _ _ _ _) ⟨bT, oT + k3, none⟩ (16 - k3) (cap - k3) ((T.drop k3).map (Value.int .i64)) rfl (by have := Hgl.out; simp; omega) (src_drop Hgl.out (HSrc.out _ HbI.out.drew) k3) (ints_one _) (by unfold maxLen; omega) (by omega) (Nat.le_refl _) fun v3 w3 hown3 hgrow3 _ => ?_
        rw [Nat.zero_add, List.nil_append] at hown3
        have hb3 : Below WI.heap.size WI w3 := ((Below.refl _ WI).drew).grown hgrow3 (Nat.le_refl _) (fun k e => by cases e)
        refine ⟨⟨⟨_, only_of_below hb3 _⟩, rfl⟩, ?_⟩
        simp only [Act.put, List.setIfInBounds_toArray, List.set_cons_zero, List.set_cons_succ]
        refine wpListS_wp rfl ?_
        refine wp_append_own _ (.tmp 43) (.tmp 46) 22 rfl WI.heap.size 3 i0 (.int .i64 0) 1 8 Try.underlying22 hii hz0 hz1 hz2 (by simp [Value.cells]) (by decide) v3 (16 - k3) ((T.drop k3).map (Value.int .i64)) rfl hown3 ⟨bT, oT, none⟩ k3 cap ((T.take k3).map (Value.int .i64)) rfl (by have := Hgl.out; simp; omega) (src_take Hgl.out (HSrc.out _ (HbI.out.trans (hb3.mono hIs))) k3) (ints_one _) (by unfold maxLen; omega) (by omega) hb3.size fun v4 w4 hown4 hgrow4 _ => ?_
        have hb4 : Below WI.heap.size WI w4 := hb3.grown hgrow4 hb3.size (fun k e => (hown3.lt k e).1)
        refine ⟨⟨⟨_, only_of_below hb4 _⟩, rfl⟩, ?_⟩
        simp only [Act.put, List.setIfInBounds_toArray, List.set_cons_zero, List.set_cons_succ]
        obtain ⟨a4, cap4, rfl, hp4⟩ := Hfin.out _ _ hown4
        refine wpListS_enter (f := 21) (args := #[.slice a4 16 cap4]) (w1 := w4) rfl (by go_simp) (hp4.fill (by omega) w4 (Below.refl _ _)) ?_
        rintro e5 wJ ⟨bJ, rfl, hEJ, hbJ⟩
        have hb5 : Below WI.heap.size WI wJ := hb4.trans (hbJ.mono hb4.size)
        refine ⟨_, rfl, ⟨⟨_, only_of_below hb5 _⟩, rfl⟩, ?_⟩
        simp only [Act.put, List.setIfInBounds_toArray, List.set_cons_zero, List.set_cons_succ]
        refine wpListS_value (v := .pointer (some ⟨bJ, 0, none⟩)) (w1 := wJ) rfl (by go_simp) ⟨⟨_, only_of_below hb5 _⟩, rfl⟩ ?_
        simp only [Act.put, List.setIfInBounds_toArray, List.set_cons_zero, List.set_cons_succ]
        refine wpListS_nil ?_
        have hs5 := hb5.size
        have E1 := (HE.out.later hb5).q a3
        have E2 := (HE.out.later hb5).i
        have E3 := (HE.out.later hb5).wi (kept_bd _)
        have E4 := hEJ.q a3
        have E5 := hEJ.i
        have E6 := hEJ.wi (kept_bd _)
        rw [Hsl.out] at E1 E2 E3
        have Hb5 := Lib.hid hb5
        have HE1 := Lib.hid E1; have HE2 := Lib.hid E2; have HE3 := Lib.hid E3; have HE4 := Lib.hid E4; have HE5 := Lib.hid E5; have HE6 := Lib.hid E6; clear E1 E2 E3 E4 E5 E6
        clear hown3 hgrow3 hown4 hgrow4 hb3 hb4 hp4 hbJ hEJ hb5
        go_wp2_with (first | ((with_reducible refine (HE1.out _ (by (repeat (first | (with_reducible exact Below.refl _ _) | (with_reducible refine Below.drew ?_) | (with_reducible refine below_drewN ?_ _) | (with_reducible refine Below.setCell ?_ (by first | (simp; done) | (simp; omega) | omega) _) | (with_reducible refine Below.alloc ?_ (by first | (simp; done) | (simp; omega) | omega) _) | (with_reducible refine Below.trans ?_ (Below.mono (by assumption) (by first | (simp; done) | (simp; omega) | omega))) | (with_reducible refine Below.trans ?_ (Below.mono (Later.below _) (by first | (simp; done) | (simp; omega) | omega))))))).mono ?_); rintro e wA ⟨rfl, hbA⟩; obtain ⟨NA, hNA, hcA, hfA, hsA⟩ := bcell hbA; (try simp only [World.size_alloc, World.size_setCell, World.size_drew] at hNA)) | ((with_reducible refine (HE2.out _ (by (repeat (first | (with_reducible exact Below.refl _ _) | (with_reducible refine Below.drew ?_) | (with_reducible refine below_drewN ?_ _) | (with_reducible refine Below.setCell ?_ (by first | (simp; done) | (simp; omega) | omega) _) | (with_reducible refine Below.alloc ?_ (by first | (simp; done) | (simp; omega) | omega) _) | (with_reducible refine Below.trans ?_ (Below.mono (by assumption) (by first | (simp; done) | (simp; omega) | omega))) | (with_reducible refine Below.trans ?_ (Below.mono (Later.below _) (by first | (simp; done) | (simp; omega) | omega))))))).mono ?_); rintro e wC ⟨rfl, hbC⟩; obtain ⟨NC, hNC, hcC, hfC, hsC⟩ := bcell hbC; (try simp only [World.size_alloc, World.size_setCell, World.size_drew] at hNC)) | ((with_reducible refine (HE3.out _ (by (repeat (first | (with_reducible exact Below.refl _ _) | (with_reducible refine Below.drew ?_) | (with_reducible refine below_drewN ?_ _) | (with_reducible refine Below.setCell ?_ (by first | (simp; done) | (simp; omega) | omega) _) | (with_reducible refine Below.alloc ?_ (by first | (simp; done) | (simp; omega) | omega) _) | (with_reducible refine Below.trans ?_ (Below.mono (by assumption) (by first | (simp; done) | (simp; omega) | omega))) | (with_reducible refine Below.trans ?_ (Below.mono (Later.below _) (by first | (simp; done) | (simp; omega) | omega))))))).mono ?_); rintro e wD ⟨rfl, hbD⟩; obtain ⟨ND, hND, hcD, hfD, hsD⟩ := bcell hbD; (try simp only [World.size_alloc, World.size_setCell, World.size_drew] at hND)) | ((with_reducible refine (HE4.out _ (by (repeat (first | (with_reducible exact Below.refl _ _) | (with_reducible refine Below.drew ?_) | (with_reducible refine below_drewN ?_ _) | (with_reducible refine Below.setCell ?_ (by first | (simp; done) | (simp; omega) | omega) _) | (with_reducible refine Below.alloc ?_ (by first | (simp; done) | (simp; omega) | omega) _) | (with_reducible refine Below.trans ?_ (Below.mono (by assumption) (by first | (simp; done) | (simp; omega) | omega))) | (with_reducible refine Below.trans ?_ (Below.mono (Later.below _) (by first | (simp; done) | (simp; omega) | omega))))))).mono ?_); rintro e wF ⟨rfl, hbF⟩; obtain ⟨NF, hNF, hcF, hfF, hsF⟩ := bcell hbF; (try simp only [World.size_alloc, World.size_setCell, World.size_drew] at hNF)) | ((with_reducible refine (HE5.out _ (by (repeat (first | (with_reducible exact Below.refl _ _) | (with_reducible refine Below.drew ?_) | (with_reducible refine below_drewN ?_ _) | (with_reducible refine Below.setCell ?_ (by first | (simp; done) | (simp; omega) | omega) _) | (with_reducible refine Below.alloc ?_ (by first | (simp; done) | (simp; omega) | omega) _) | (with_reducible refine Below.trans ?_ (Below.mono (by assumption) (by first | (simp; done) | (simp; omega) | omega))) | (with_reducible refine Below.trans ?_ (Below.mono (Later.below _) (by first | (simp; done) | (simp; omega) | omega))))))).mono ?_); rintro e wG ⟨rfl, hbG⟩; obtain ⟨NG, hNG, hcG, hfG, hsG⟩ := bcell hbG; (try simp only [World.size_alloc, World.size_setCell, World.size_drew] at hNG)) | ((with_reducible refine (HE6.out _ (by (repeat (first | (with_reducible exact Below.refl _ _) | (with_reducible refine Below.drew ?_) | (with_reducible refine below_drewN ?_ _) | (with_reducible refine Below.setCell ?_ (by first | (simp; done) | (simp; omega) | omega) _) | (with_reducible refine Below.alloc ?_ (by first | (simp; done) | (simp; omega) | omega) _) | (with_reducible refine Below.trans ?_ (Below.mono (by assumption) (by first | (simp; done) | (simp; omega) | omega))) | (with_reducible refine Below.trans ?_ (Below.mono (Later.below _) (by first | (simp; done) | (simp; omega) | omega))))))).mono ?_); rintro e wH ⟨rfl, hbH⟩; obtain ⟨NH, hNH, hcH, hfH, hsH⟩ := bcell hbH; (try simp only [World.size_alloc, World.size_setCell, World.size_drew] at hNH)) | ((with_reducible refine (Hlv.out _).mono ?_); rintro e wQ ⟨rfl, hbQ⟩; obtain ⟨NQ, hNQ, hcQ, hfQ, hsQ⟩ := bcell hbQ; (try simp only [World.size_alloc, World.size_setCell, World.size_drew] at hNQ)))
        go_ret
        refine ⟨rfl, (HB3.out.trans (Hb5.out.mono ?_)).trans (Below.mono (B := wJ.heap.size) ?_ ?_)⟩
        · omega
        · (repeat (first | (with_reducible exact Below.refl _ _) | (with_reducible refine Below.drew ?_) | (with_reducible refine below_drewN ?_ _) | (with_reducible refine Below.setCell ?_ (by first | (simp; done) | (simp; omega) | omega) _) | (with_reducible refine Below.alloc ?_ (by first | (simp; done) | (simp; omega) | omega) _) | (with_reducible refine Below.trans ?_ (Below.mono (by assumption) (by first | (simp; done) | (simp; omega) | omega))) | (with_reducible refine Below.trans ?_ (Below.mono (Later.below _) (by first | (simp; done) | (simp; omega) | omega)))))
        · omega
      · obtain rfl : k3 = cap := by omega
        refine wp_region_two WI.heap.size [] [0, 1, 2, 4, 5, 6] [3, 7, 8, 9] 3 (by kernel_rfl) (by kernel_rfl) fun NL hL hL2 => ?_
        obtain ⟨hNL, hlc', hlf⟩ := hL
        obtain ⟨_, hl2⟩ := hL2
        simp only [List.map_cons, List.map_nil, List.getD_cons_zero, List.getD_cons_succ]
        refine wpQuiet_nil ?_
        repeat (go_big_quiet_step (fail))
        refine wpQuiet_nil ?_
        clear hlc' hlf hl2 hNL
        refine wpListS_wp rfl ?_
        refine wp_append_own _ (.const (.slice none 0 0)) (.tmp 42) 22 rfl WI.heap.size 3 i0 (.int .i64 0) 1 8 Try.underlying22 hii hz0 hz1 hz2 (by simp [Value.cells]) (by decide) (.slice none 0 0) 0 [] rfl (World.ownsRow_nil _ _ _ _) ⟨bT, oT, none⟩ 0 0 [] rfl rfl (by simp) (by simp) (by unfold maxLen; omega) (by omega) (Nat.le_refl _) fun v3 w3 hown3 hgrow3 _ => ?_
        replace hown3 : w3.ownsRow WI.heap.size 3 1 v3 (16 - k3) ((T.drop k3).map (Value.int .i64)) := by rw [show 16 - k3 = 0 by omega, List.drop_of_length_le (by have := Hgl.out; omega)]; exact hown3
        have hb3 : Below WI.heap.size WI w3 := ((Below.refl _ WI).drew).grown hgrow3 (Nat.le_refl _) (fun k e => by cases e)
        refine ⟨⟨⟨_, only_of_below hb3 _⟩, rfl⟩, ?_⟩
        simp only [Act.put, List.setIfInBounds_toArray, List.set_cons_zero, List.set_cons_succ]
        refine wpListS_wp rfl ?_
        refine wp_append_own _ (.tmp 43) (.tmp 46) 22 rfl WI.heap.size 3 i0 (.int .i64 0) 1 8 Try.underlying22 hii hz0 hz1 hz2 (by simp [Value.cells]) (by decide) v3 (16 - k3) ((T.drop k3).map (Value.int .i64)) rfl hown3 ⟨bT, oT, none⟩ k3 k3 ((T.take k3).map (Value.int .i64)) rfl (by have := Hgl.out; simp; omega) (src_take Hgl.out (HSrc.out _ (HbI.out.trans (hb3.mono hIs))) k3) (ints_one _) (by unfold maxLen; omega) (by omega) hb3.size fun v4 w4 hown4 hgrow4 _ => ?_
        have hb4 : Below WI.heap.size WI w4 := hb3.grown hgrow4 hb3.size (fun k e => (hown3.lt k e).1)
        refine ⟨⟨⟨_, only_of_below hb4 _⟩, rfl⟩, ?_⟩
        simp only [Act.put, List.setIfInBounds_toArray, List.set_cons_zero, List.set_cons_succ]
        obtain ⟨a4, cap4, rfl, hp4⟩ := Hfin.out _ _ hown4
        refine wpListS_enter (f := 21) (args := #[.slice a4 16 cap4]) (w1 := w4) rfl (by go_simp) (hp4.fill (by omega) w4 (Below.refl _ _)) ?_
        rintro e5 wJ ⟨bJ, rfl, hEJ, hbJ⟩
        have hb5 : Below WI.heap.size WI wJ := hb4.trans (hbJ.mono hb4.size)
        refine ⟨_, rfl, ⟨⟨_, only_of_below hb5 _⟩, rfl⟩, ?_⟩
        simp only [Act.put, List.setIfInBounds_toArray, List.set_cons_zero, List.set_cons_succ]
        refine wpListS_value (v := .pointer (some ⟨bJ, 0, none⟩)) (w1 := wJ) rfl (by go_simp) ⟨⟨_, only_of_below hb5 _⟩, rfl⟩ ?_
        simp only [Act.put, List.setIfInBounds_toArray, List.set_cons_zero, List.set_cons_succ]
        refine wpListS_nil ?_
        have hs5 := hb5.size
        have E1 := (HE.out.later hb5).q a3
        have E2 := (HE.out.later hb5).i
        have E3 := (HE.out.later hb5).wi (kept_bd _)
        have E4 := hEJ.q a3
        have E5 := hEJ.i
        have E6 := hEJ.wi (kept_bd _)
        rw [Hsl.out] at E1 E2 E3
        have Hb5 := Lib.hid hb5
        have HE1 := Lib.hid E1; have HE2 := Lib.hid E2; have HE3 := Lib.hid E3; have HE4 := Lib.hid E4; have HE5 := Lib.hid E5; have HE6 := Lib.hid E6; clear E1 E2 E3 E4 E5 E6
        clear hown3 hgrow3 hown4 hgrow4 hb3 hb4 hp4 hbJ hEJ hb5
        go_wp2_with (first | ((with_reducible refine (HE1.out _ (by (repeat (first | (with_reducible exact Below.refl _ _) | (with_reducible refine Below.drew ?_) | (with_reducible refine below_drewN ?_ _) | (with_reducible refine Below.setCell ?_ (by first | (simp; done) | (simp; omega) | omega) _) | (with_reducible refine Below.alloc ?_ (by first | (simp; done) | (simp; omega) | omega) _) | (with_reducible refine Below.trans ?_ (Below.mono (by assumption) (by first | (simp; done) | (simp; omega) | omega))) | (with_reducible refine Below.trans ?_ (Below.mono (Later.below _) (by first | (simp; done) | (simp; omega) | omega))))))).mono ?_); rintro e wA ⟨rfl, hbA⟩; obtain ⟨NA, hNA, hcA, hfA, hsA⟩ := bcell hbA; (try simp only [World.size_alloc, World.size_setCell, World.size_drew] at hNA)) | ((with_reducible refine (HE2.out _ (by (repeat (first | (with_reducible exact Below.refl _ _) | (with_reducible refine Below.drew ?_) | (with_reducible refine below_drewN ?_ _) | (with_reducible refine Below.setCell ?_ (by first | (simp; done) | (simp; omega) | omega) _) | (with_reducible refine Below.alloc ?_ (by first | (simp; done) | (simp; omega) | omega) _) | (with_reducible refine Below.trans ?_ (Below.mono (by assumption) (by first | (simp; done) | (simp; omega) | omega))) | (with_reducible refine Below.trans ?_ (Below.mono (Later.below _) (by first | (simp; done) | (simp; omega) | omega))))))).mono ?_); rintro e wC ⟨rfl, hbC⟩; obtain ⟨NC, hNC, hcC, hfC, hsC⟩ := bcell hbC; (try simp only [World.size_alloc, World.size_setCell, World.size_drew] at hNC)) | ((with_reducible refine (HE3.out _ (by (repeat (first | (with_reducible exact Below.refl _ _) | (with_reducible refine Below.drew ?_) | (with_reducible refine below_drewN ?_ _) | (with_reducible refine Below.setCell ?_ (by first | (simp; done) | (simp; omega) | omega) _) | (with_reducible refine Below.alloc ?_ (by first | (simp; done) | (simp; omega) | omega) _) | (with_reducible refine Below.trans ?_ (Below.mono (by assumption) (by first | (simp; done) | (simp; omega) | omega))) | (with_reducible refine Below.trans ?_ (Below.mono (Later.below _) (by first | (simp; done) | (simp; omega) | omega))))))).mono ?_); rintro e wD ⟨rfl, hbD⟩; obtain ⟨ND, hND, hcD, hfD, hsD⟩ := bcell hbD; (try simp only [World.size_alloc, World.size_setCell, World.size_drew] at hND)) | ((with_reducible refine (HE4.out _ (by (repeat (first | (with_reducible exact Below.refl _ _) | (with_reducible refine Below.drew ?_) | (with_reducible refine below_drewN ?_ _) | (with_reducible refine Below.setCell ?_ (by first | (simp; done) | (simp; omega) | omega) _) | (with_reducible refine Below.alloc ?_ (by first | (simp; done) | (simp; omega) | omega) _) | (with_reducible refine Below.trans ?_ (Below.mono (by assumption) (by first | (simp; done) | (simp; omega) | omega))) | (with_reducible refine Below.trans ?_ (Below.mono (Later.below _) (by first | (simp; done) | (simp; omega) | omega))))))).mono ?_); rintro e wF ⟨rfl, hbF⟩; obtain ⟨NF, hNF, hcF, hfF, hsF⟩ := bcell hbF; (try simp only [World.size_alloc, World.size_setCell, World.size_drew] at hNF)) | ((with_reducible refine (HE5.out _ (by (repeat (first | (with_reducible exact Below.refl _ _) | (with_reducible refine Below.drew ?_) | (with_reducible refine below_drewN ?_ _) | (with_reducible refine Below.setCell ?_ (by first | (simp; done) | (simp; omega) | omega) _) | (with_reducible refine Below.alloc ?_ (by first | (simp; done) | (simp; omega) | omega) _) | (with_reducible refine Below.trans ?_ (Below.mono (by assumption) (by first | (simp; done) | (simp; omega) | omega))) | (with_reducible refine Below.trans ?_ (Below.mono (Later.below _) (by first | (simp; done) | (simp; omega) | omega))))))).mono ?_); rintro e wG ⟨rfl, hbG⟩; obtain ⟨NG, hNG, hcG, hfG, hsG⟩ := bcell hbG; (try simp only [World.size_alloc, World.size_setCell, World.size_drew] at hNG)) | ((with_reducible refine (HE6.out _ (by (repeat (first | (with_reducible exact Below.refl _ _) | (with_reducible refine Below.drew ?_) | (with_reducible refine below_drewN ?_ _) | (with_reducible refine Below.setCell ?_ (by first | (simp; done) | (simp; omega) | omega) _) | (with_reducible refine Below.alloc ?_ (by first | (simp; done) | (simp; omega) | omega) _) | (with_reducible refine Below.trans ?_ (Below.mono (by assumption) (by first | (simp; done) | (simp; omega) | omega))) | (with_reducible refine Below.trans ?_ (Below.mono (Later.below _) (by first | (simp; done) | (simp; omega) | omega))))))).mono ?_); rintro e wH ⟨rfl, hbH⟩; obtain ⟨NH, hNH, hcH, hfH, hsH⟩ := bcell hbH; (try simp only [World.size_alloc, World.size_setCell, World.size_drew] at hNH)) | ((with_reducible refine (Hlv.out _).mono ?_); rintro e wQ ⟨rfl, hbQ⟩; obtain ⟨NQ, hNQ, hcQ, hfQ, hsQ⟩ := bcell hbQ; (try simp only [World.size_alloc, World.size_setCell, World.size_drew] at hNQ)))
        go_ret
        refine ⟨rfl, (HB3.out.trans (Hb5.out.mono ?_)).trans (Below.mono (B := wJ.heap.size) ?_ ?_)⟩
        · omega
        · (repeat (first | (with_reducible exact Below.refl _ _) | (with_reducible refine Below.drew ?_) | (with_reducible refine below_drewN ?_ _) | (with_reducible refine Below.setCell ?_ (by first | (simp; done) | (simp; omega) | omega) _) | (with_reducible refine Below.alloc ?_ (by first | (simp; done) | (simp; omega) | omega) _) | (with_reducible refine Below.trans ?_ (Below.mono (by assumption) (by first | (simp; done) | (simp; omega) | omega))) | (with_reducible refine Below.trans ?_ (Below.mono (Later.below _) (by first | (simp; done) | (simp; omega) | omega)))))
        · omega
end Go.Proofs.Ytbepnjlgneialaa.W
