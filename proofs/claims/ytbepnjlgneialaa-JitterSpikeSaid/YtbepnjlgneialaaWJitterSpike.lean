/-
  The walk of the law JitterSpike: it returns true at every input.
  Conditions: none.
-/
import Derived.Test.YtbepnjlgneialaaJiN
namespace Go.Proofs.Ytbepnjlgneialaa.W
open Go Go.RowKit Go.Proofs.Ytbepnjlgneialaa.FxA Go.Proofs.Ytbepnjlgneialaa.Qt Go.Proofs.Ytbepnjlgneialaa.Ji
set_option linter.unusedVariables false
set_option linter.unusedSimpArgs false
theorem kept16 (D : List Int) (h : D.length = 16) : kept D = D.map c60 := by unfold kept; rw [h]; simp
theorem atm_ins (B : List Int) (k : Nat) (u x : Int) : atm (ins B k u) x = atm B x + if u ≤ x then 1 else 0 := by
  unfold atm ins
  rw [List.countP_append, List.countP_cons]
  conv => rhs; rw [← List.take_append_drop k B, List.countP_append]
  simp only [decide_eq_true_eq]
  omega
theorem ins_map (B : List Int) (k : Nat) (u : Int) : (ins B k u).map c60 = ins (B.map c60) k (c60 u) := by simp [ins, List.map_take, List.map_drop]
theorem spike (B : List Int) (hl : B.length = 15) (hb : ∀ x ∈ B, 0 ≤ x ∧ x < 30) (k : Nat) (hk : k ≤ 15) (u v : Int) (hu : 30 ≤ u) (hv : 30 ≤ v) : qnt (kept (ins B k u)) 900 = qnt (kept (ins B k v)) 900 := by
  have lu := ins_len B k u (by omega)
  have lv := ins_len B k v (by omega)
  rw [kept16 _ (by omega), kept16 _ (by omega), ins_map, ins_map]
  have hu' : 30 ≤ c60 u := by unfold c60; omega
  have hv' : 30 ≤ c60 v := by unfold c60; omega
  have hB : ∀ x, 30 ≤ x → atm (B.map c60) x = 15 := by
    intro x hx
    unfold atm
    rw [show (15 : Nat) = (B.map c60).length by rw [List.length_map, hl], List.countP_eq_length]
    intro y hy
    obtain ⟨z, hz, rfl⟩ := List.mem_map.1 hy
    have := hb z hz
    simp only [decide_eq_true_eq]
    unfold c60; omega
  have hlB : (B.map c60).length = 15 := by rw [List.length_map, hl]
  generalize B.map c60 = C at *
  generalize c60 u = a at *
  generalize c60 v = b at *
  have la := ins_len C k a (by omega)
  have lb := ins_len C k b (by omega)
  have ne : ∀ z, ins C k z ≠ [] := fun z e => by have := ins_len C k z (by omega); rw [e] at this; simp at this
  have e : ∀ x, qnt (ins C k a) 900 ≤ x ↔ qnt (ins C k b) 900 ≤ x := fun x => by
    rw [qnt_le_iff (ne a), qnt_le_iff (ne b), la, lb, hlB, atm_ins, atm_ins, show rk (15 + 1) 900 = 14 by decide]
    by_cases h30 : 30 ≤ x
    · rw [hB x h30]; constructor <;> (intro _; omega)
    · rw [if_neg (by omega), if_neg (by omega)]
  have a1 := (e (qnt (ins C k b) 900)).2 (Int.le_refl _)
  have a2 := (e (qnt (ins C k a) 900)).1 (Int.le_refl _)
  omega
set_option maxRecDepth 100000 in
set_option maxHeartbeats 4000000 in
theorem JitterSpike_walk (a0 : Option Addr) (len0 cap0 : Nat) (z0 : List Int) (a1 a2 a3 : Int) (w : World) (w0 : Fr.IsRow .i64 w a0 len0 cap0 z0) (w1 : (Lit.int .i64 a1).wf = true) (w2 : (Lit.int .i64 a2).wf = true) (w3 : (Lit.int .i64 a3).wf = true) :
    Calls Try.prog 7 #[.slice a0 len0 cap0, .int .i64 a1, .int .i64 a2, .int .i64 a3] w fun e w' => e = .returned (.bool true) ∧ Below w.heap.size w w' := by
  have hp := isL_of_row w0
  generalize z0.take len0 = Z at *
  have i1 := i64_bd w1
  have i2 := i64_bd w2
  have i3 := i64_bd w3
  have c1 := gives_same (fun w => around_any a1 40 w i1.1 i1.2 (by omega) (by omega))
  have c2 := gives_same (fun w => around_any a2 40 w i2.1 i2.2 (by omega) (by omega))
  have c3 := gives_same (fun w => around_any a3 16 w i3.1 i3.2 (by omega) (by omega))
  have hb1 := aro_bd a1 40 (by decide)
  have hb2 := aro_bd a2 40 (by decide)
  have hb3 := aro_bd a3 16 (by decide)
  obtain ⟨hb10, hb11⟩ := hb1
  obtain ⟨hb20, hb21⟩ := hb2
  generalize aro a1 40 = r1 at *
  generalize aro a2 40 = r2 at *
  obtain ⟨k3, hk3⟩ : ∃ k : Nat, aro a3 16 = (k : Int) := ⟨(aro a3 16).toNat, by omega⟩
  rw [hk3] at c3 hb3
  have hk15 : k3 ≤ 15 := by omega
  have lv := lives_any
  obtain ⟨i0, hii, hz0, hz1, hz2⟩ := info_parts Try.infoI
  have hZ := hp.1
  have hlc := hp.2.1
  have hcm := hp.2.2.1
  unfold maxLen at hcm
  have Hc1 := Lib.hid c1; have Hc2 := Lib.hid c2; have Hc3 := Lib.hid c3; have Hlv := Lib.hid lv; clear c1 c2 c3 lv
  clear w0 i1 i2 i3 hb3 hk3
  go_enter Try.func7, Try.ntmps7
  go_wp2
  go_loopw [9, 10] (fun l i wr => ∃ j : Nat, j ≤ 15 ∧ i = .int .i64 j ∧ wr.ownsRow w.heap.size 3 1 l j ((gen Z 30 j).map (Value.int .i64)) ∧ Below w.heap.size w wr) (fun _ i _ => 15 - (intOf i).toNat)
  case atStart => exact ⟨0, by omega, rfl, World.ownsRow_nil _ _ _ _, Below.refl _ _⟩
  case round =>
    obtain ⟨j, hj, rfl, hown, hB⟩ := hrel
    have hws := hB.size
    have hj0 : (0 : Int) ≤ (j : Int) := by omega
    by_cases h15 : j < 15
    · have h15I : (j : Int) < 15 := by omega
      have hsn := congrArg (List.map (Value.int .i64)) (gen_snoc Z 30 j)
      rw [List.map_append, List.map_singleton] at hsn
      by_cases hlt : j < len0
      · obtain ⟨b, o, rfl, hc, hw⟩ := (hp.later hB).cell (k := j) hlt
        rw [if_pos (by omega)] at hsn
        generalize Z.getD j 0 = x at *
        have hx := i64_bd hw
        have ca := gives_same (fun w => around_any x 30 w hx.1 hx.2 (by omega) (by omega))
        generalize aro x 30 = y at *
        have hlI : (j : Int) < (len0 : Int) := by omega
        have Hsn := Lib.hid hsn
        have Hp := Lib.hid hp
        clear hsn hp hx hZ
        have Hca := Lib.hid ca; clear ca
        go_wp2_with (first | ((with_reducible refine (Hca.out _).mono ?_); rintro e wA ⟨rfl, hbA⟩; obtain ⟨NA, hNA, hcA, hfA, hsA⟩ := bcell hbA; (try simp only [World.size_alloc, World.size_setCell, World.size_drew] at hNA)) | (at_builtin; refine wpList_append_own _ rfl _ _ 22 rfl w.heap.size 3 i0 (.int .i64 0) 1 8 Try.underlying22 hii hz0 hz1 hz2 (by simp [Value.cells]) (by decide) _ j ((gen Z 30 j).map (Value.int .i64)) rfl ((ownsRow_kept hown (by (repeat (first | (with_reducible exact Below.refl _ _) | (with_reducible refine Below.drew ?_) | (with_reducible refine below_drewN ?_ _) | (with_reducible refine Below.setCell ?_ (by first | (simp; done) | (simp; omega) | omega) _) | (with_reducible refine Below.alloc ?_ (by first | (simp; done) | (simp; omega) | omega) _) | (with_reducible refine Below.trans ?_ (Below.mono (by assumption) (by first | (simp; done) | (simp; omega) | omega))) | (with_reducible refine Below.trans ?_ (Below.mono (Later.below _) (by first | (simp; done) | (simp; omega) | omega))))))).alloc _) ⟨wA.heap.size, 0, none⟩ 1 1 [.int .i64 y] rfl rfl (new1 _ _ _) (by simp [Value.oneCell']) (by unfold maxLen; omega) (by omega) (by simp; omega) ?_; intro v' w2 hown2 hgrow2 _))
        have hown3 : w2.ownsRow w.heap.size 3 1 v' (j + 1) ((gen Z 30 (j + 1)).map (Value.int .i64)) := by rw [Hsn.out]; exact hown2
        have hB2 : Below w.heap.size w w2 := ((hB.trans (hbA.mono hws)).alloc (by omega) _).grown hgrow2 (by simp; omega) (fun k e => (hown.lt k e).1)
        clear hown hown2 hgrow2
        go_wp2
        go_roundw
        case rel => exact ⟨j + 1, by omega, by go_num, hown3, hB2⟩
        case measure => simp [intOf]; omega
      · rw [if_neg (by omega)] at hsn
        have ca := gives_same (fun w => around_any (j : Int) 30 w (by omega) (by omega) (by omega) (by omega))
        generalize aro (j : Int) 30 = y at *
        have hlI : ¬ (j : Int) < (len0 : Int) := by omega
        have Hsn := Lib.hid hsn
        have Hp := Lib.hid hp
        clear hsn hp hZ
        have Hca := Lib.hid ca; clear ca
        go_wp2_with (first | ((with_reducible refine (Hca.out _).mono ?_); rintro e wA ⟨rfl, hbA⟩; obtain ⟨NA, hNA, hcA, hfA, hsA⟩ := bcell hbA; (try simp only [World.size_alloc, World.size_setCell, World.size_drew] at hNA)) | (at_builtin; refine wpList_append_own _ rfl _ _ 22 rfl w.heap.size 3 i0 (.int .i64 0) 1 8 Try.underlying22 hii hz0 hz1 hz2 (by simp [Value.cells]) (by decide) _ j ((gen Z 30 j).map (Value.int .i64)) rfl ((ownsRow_kept hown (by (repeat (first | (with_reducible exact Below.refl _ _) | (with_reducible refine Below.drew ?_) | (with_reducible refine below_drewN ?_ _) | (with_reducible refine Below.setCell ?_ (by first | (simp; done) | (simp; omega) | omega) _) | (with_reducible refine Below.alloc ?_ (by first | (simp; done) | (simp; omega) | omega) _) | (with_reducible refine Below.trans ?_ (Below.mono (by assumption) (by first | (simp; done) | (simp; omega) | omega))) | (with_reducible refine Below.trans ?_ (Below.mono (Later.below _) (by first | (simp; done) | (simp; omega) | omega))))))).alloc _) ⟨wA.heap.size, 0, none⟩ 1 1 [.int .i64 y] rfl rfl (new1 _ _ _) (by simp [Value.oneCell']) (by unfold maxLen; omega) (by omega) (by simp; omega) ?_; intro v' w2 hown2 hgrow2 _))
        have hown3 : w2.ownsRow w.heap.size 3 1 v' (j + 1) ((gen Z 30 (j + 1)).map (Value.int .i64)) := by rw [Hsn.out]; exact hown2
        have hB2 : Below w.heap.size w w2 := ((hB.trans (hbA.mono hws)).alloc (by omega) _).grown hgrow2 (by simp; omega) (fun k e => (hown.lt k e).1)
        clear hown hown2 hgrow2
        go_wp2
        go_roundw
        case rel => exact ⟨j + 1, by omega, by go_num, hown3, hB2⟩
        case measure => simp [intOf]; omega
    · obtain rfl : j = 15 := by omega
      have hgb := gen_bd Z 30 15 (by decide)
      have hgl := gen_len Z 30 15
      generalize gen Z 30 15 = B at *
      obtain ⟨_, a, cap, rfl, hpB⟩ := isL_of_own hown (fun x hx => by have := hgb x hx; exact wf_small (by omega) (by omega))
      have f1 := fun W hW => insert_any a 15 cap B k3 (30 + r1) W (hpB.later (W := W) hW) (by omega) (by omega) hk15 (wf_small (by omega) (by omega))
      have f2 := fun W hW => insert_any a 15 cap B k3 (30 + r2) W (hpB.later (W := W) hW) (by omega) (by omega) hk15 (wf_small (by omega) (by omega))
      have hsp := spike B hgl hgb k3 hk15 (30 + r1) (30 + r2) (by omega) (by omega)
      generalize ins B k3 (30 + r1) = D1 at *
      generalize ins B k3 (30 + r2) = D2 at *
      have Hsp := Lib.hid hsp
      have Hf1 := Lib.hid f1; have Hf2 := Lib.hid f2; clear f1 f2
      clear hsp hown hpB hp hgb hgl hZ
      go_wp2_with (first | ((with_reducible refine (Hc3.out _).mono ?_); rintro e wA ⟨rfl, hbA⟩; obtain ⟨NA, hNA, hcA, hfA, hsA⟩ := bcell hbA; (try simp only [World.size_alloc, World.size_setCell, World.size_drew] at hNA)) | ((with_reducible refine (Hc1.out _).mono ?_); rintro e wC ⟨rfl, hbC⟩; obtain ⟨NC, hNC, hcC, hfC, hsC⟩ := bcell hbC; (try simp only [World.size_alloc, World.size_setCell, World.size_drew] at hNC)) | ((with_reducible refine (Hc2.out _).mono ?_); rintro e wF ⟨rfl, hbF⟩; obtain ⟨NF, hNF, hcF, hfF, hsF⟩ := bcell hbF; (try simp only [World.size_alloc, World.size_setCell, World.size_drew] at hNF)) | ((with_reducible refine (Hf1.out _ (by (repeat (first | (with_reducible exact Below.refl _ _) | (with_reducible refine Below.drew ?_) | (with_reducible refine below_drewN ?_ _) | (with_reducible refine Below.setCell ?_ (by first | (simp; done) | (simp; omega) | omega) _) | (with_reducible refine Below.alloc ?_ (by first | (simp; done) | (simp; omega) | omega) _) | (with_reducible refine Below.trans ?_ (Below.mono (by assumption) (by first | (simp; done) | (simp; omega) | omega))) | (with_reducible refine Below.trans ?_ (Below.mono (Later.below _) (by first | (simp; done) | (simp; omega) | omega))))))).mono ?_); rintro e WG ⟨a', cap', rfl, hg, hbG⟩; (obtain ⟨NG, hNG, hcG, hfG, hsG⟩ := bcell hbG; (try simp only [World.size_alloc, World.size_setCell, World.size_drew] at hNG)); have G1 := Lib.hid (hg.fill (by omega)); clear hg) | ((with_reducible refine (Hf2.out _ (by (repeat (first | (with_reducible exact Below.refl _ _) | (with_reducible refine Below.drew ?_) | (with_reducible refine below_drewN ?_ _) | (with_reducible refine Below.setCell ?_ (by first | (simp; done) | (simp; omega) | omega) _) | (with_reducible refine Below.alloc ?_ (by first | (simp; done) | (simp; omega) | omega) _) | (with_reducible refine Below.trans ?_ (Below.mono (by assumption) (by first | (simp; done) | (simp; omega) | omega))) | (with_reducible refine Below.trans ?_ (Below.mono (Later.below _) (by first | (simp; done) | (simp; omega) | omega))))))).mono ?_); rintro e WH ⟨a', cap', rfl, hg, hbH⟩; (obtain ⟨NH, hNH, hcH, hfH, hsH⟩ := bcell hbH; (try simp only [World.size_alloc, World.size_setCell, World.size_drew] at hNH)); have G2 := Lib.hid (hg.fill (by omega)); clear hg) | ((with_reducible refine (G1.out _ (by (repeat (first | (with_reducible exact Below.refl _ _) | (with_reducible refine Below.drew ?_) | (with_reducible refine below_drewN ?_ _) | (with_reducible refine Below.setCell ?_ (by first | (simp; done) | (simp; omega) | omega) _) | (with_reducible refine Below.alloc ?_ (by first | (simp; done) | (simp; omega) | omega) _) | (with_reducible refine Below.trans ?_ (Below.mono (by assumption) (by first | (simp; done) | (simp; omega) | omega))) | (with_reducible refine Below.trans ?_ (Below.mono (Later.below _) (by first | (simp; done) | (simp; omega) | omega))))))).mono ?_); rintro e WI ⟨b, rfl, hE, hbI⟩; (obtain ⟨NI, hNI, hcI, hfI, hsI⟩ := bcell hbI; (try simp only [World.size_alloc, World.size_setCell, World.size_drew] at hNI)); have E1 := Lib.hid hE.i; have E2 := Lib.hid (hE.q 900); rw [Hsp.out] at E1 E2; clear hE) | ((with_reducible refine (G2.out _ (by (repeat (first | (with_reducible exact Below.refl _ _) | (with_reducible refine Below.drew ?_) | (with_reducible refine below_drewN ?_ _) | (with_reducible refine Below.setCell ?_ (by first | (simp; done) | (simp; omega) | omega) _) | (with_reducible refine Below.alloc ?_ (by first | (simp; done) | (simp; omega) | omega) _) | (with_reducible refine Below.trans ?_ (Below.mono (by assumption) (by first | (simp; done) | (simp; omega) | omega))) | (with_reducible refine Below.trans ?_ (Below.mono (Later.below _) (by first | (simp; done) | (simp; omega) | omega))))))).mono ?_); rintro e WJ ⟨b', rfl, hE, hbJ⟩; (obtain ⟨NJ, hNJ, hcJ, hfJ, hsJ⟩ := bcell hbJ; (try simp only [World.size_alloc, World.size_setCell, World.size_drew] at hNJ)); have E3 := Lib.hid hE.i; have E4 := Lib.hid (hE.q 900); clear hE) | ((with_reducible refine (E1.out _ (by (repeat (first | (with_reducible exact Below.refl _ _) | (with_reducible refine Below.drew ?_) | (with_reducible refine below_drewN ?_ _) | (with_reducible refine Below.setCell ?_ (by first | (simp; done) | (simp; omega) | omega) _) | (with_reducible refine Below.alloc ?_ (by first | (simp; done) | (simp; omega) | omega) _) | (with_reducible refine Below.trans ?_ (Below.mono (by assumption) (by first | (simp; done) | (simp; omega) | omega))) | (with_reducible refine Below.trans ?_ (Below.mono (Later.below _) (by first | (simp; done) | (simp; omega) | omega))))))).mono ?_); rintro e wK ⟨rfl, hbK⟩; obtain ⟨NK, hNK, hcK, hfK, hsK⟩ := bcell hbK; (try simp only [World.size_alloc, World.size_setCell, World.size_drew] at hNK)) | ((with_reducible refine (E2.out _ (by (repeat (first | (with_reducible exact Below.refl _ _) | (with_reducible refine Below.drew ?_) | (with_reducible refine below_drewN ?_ _) | (with_reducible refine Below.setCell ?_ (by first | (simp; done) | (simp; omega) | omega) _) | (with_reducible refine Below.alloc ?_ (by first | (simp; done) | (simp; omega) | omega) _) | (with_reducible refine Below.trans ?_ (Below.mono (by assumption) (by first | (simp; done) | (simp; omega) | omega))) | (with_reducible refine Below.trans ?_ (Below.mono (Later.below _) (by first | (simp; done) | (simp; omega) | omega))))))).mono ?_); rintro e wL ⟨rfl, hbL⟩; obtain ⟨NL, hNL, hcL, hfL, hsL⟩ := bcell hbL; (try simp only [World.size_alloc, World.size_setCell, World.size_drew] at hNL)) | ((with_reducible refine (E3.out _ (by (repeat (first | (with_reducible exact Below.refl _ _) | (with_reducible refine Below.drew ?_) | (with_reducible refine below_drewN ?_ _) | (with_reducible refine Below.setCell ?_ (by first | (simp; done) | (simp; omega) | omega) _) | (with_reducible refine Below.alloc ?_ (by first | (simp; done) | (simp; omega) | omega) _) | (with_reducible refine Below.trans ?_ (Below.mono (by assumption) (by first | (simp; done) | (simp; omega) | omega))) | (with_reducible refine Below.trans ?_ (Below.mono (Later.below _) (by first | (simp; done) | (simp; omega) | omega))))))).mono ?_); rintro e wM ⟨rfl, hbM⟩; obtain ⟨NM, hNM, hcM, hfM, hsM⟩ := bcell hbM; (try simp only [World.size_alloc, World.size_setCell, World.size_drew] at hNM)) | ((with_reducible refine (E4.out _ (by (repeat (first | (with_reducible exact Below.refl _ _) | (with_reducible refine Below.drew ?_) | (with_reducible refine below_drewN ?_ _) | (with_reducible refine Below.setCell ?_ (by first | (simp; done) | (simp; omega) | omega) _) | (with_reducible refine Below.alloc ?_ (by first | (simp; done) | (simp; omega) | omega) _) | (with_reducible refine Below.trans ?_ (Below.mono (by assumption) (by first | (simp; done) | (simp; omega) | omega))) | (with_reducible refine Below.trans ?_ (Below.mono (Later.below _) (by first | (simp; done) | (simp; omega) | omega))))))).mono ?_); rintro e wP ⟨rfl, hbP⟩; obtain ⟨NP, hNP, hcP, hfP, hsP⟩ := bcell hbP; (try simp only [World.size_alloc, World.size_setCell, World.size_drew] at hNP)) | ((with_reducible refine (Hlv.out _).mono ?_); rintro e wQ ⟨rfl, hbQ⟩; obtain ⟨NQ, hNQ, hcQ, hfQ, hsQ⟩ := bcell hbQ; (try simp only [World.size_alloc, World.size_setCell, World.size_drew] at hNQ)))
      go_ret
      exact ⟨rfl, hB.trans (Below.mono (by (repeat (first | (with_reducible exact Below.refl _ _) | (with_reducible refine Below.drew ?_) | (with_reducible refine below_drewN ?_ _) | (with_reducible refine Below.setCell ?_ (by first | (simp; done) | (simp; omega) | omega) _) | (with_reducible refine Below.alloc ?_ (by first | (simp; done) | (simp; omega) | omega) _) | (with_reducible refine Below.trans ?_ (Below.mono (by assumption) (by first | (simp; done) | (simp; omega) | omega))) | (with_reducible refine Below.trans ?_ (Below.mono (Later.below _) (by first | (simp; done) | (simp; omega) | omega)))))) hws)⟩
end Go.Proofs.Ytbepnjlgneialaa.W
