/-
  The walk of the law JitterMonotone: it returns true at every input.
  Conditions: none.
-/
import Derived.Test.YtbepnjlgneialaaJiN
namespace Go.Proofs.Ytbepnjlgneialaa.W
open Go Go.RowKit Go.Proofs.Ytbepnjlgneialaa.FxA Go.Proofs.Ytbepnjlgneialaa.Qt Go.Proofs.Ytbepnjlgneialaa.Ji
set_option linter.unusedVariables false
set_option linter.unusedSimpArgs false
theorem name_world {P : Program} {c : Code} {Q : Exit → Act → World → Prop} {a : Act} {w : World} (h : ∀ W, W = w → Code.wp P c Q a W) : Code.wp P c Q a w := h w rfl
theorem kept_up (D : List Int) (k : Nat) (s : Int) (hk : k < D.length) (hs : 0 ≤ s) : (kept D).length = (kept (D.set k (D.getD k 0 + s))).length ∧ ∀ i, i < (kept D).length → (kept D).getD i 0 ≤ (kept (D.set k (D.getD k 0 + s))).getD i 0 := by
  constructor
  · rw [kept_len, kept_len, List.length_set]
  · intro i hi
    rw [kept_len] at hi
    unfold kept
    have e1 : D.length - 16 + i < D.length := by omega
    simp only [List.getD_eq_getElem?_getD, List.getElem?_map, List.getElem?_drop, List.length_set, List.getElem?_set]
    by_cases he : k = D.length - 16 + i
    · rw [if_pos he, if_pos hk, ← he, List.getElem?_eq_getElem hk]
      simp only [Option.map_some, Option.getD_some]
      unfold c60; omega
    · rw [if_neg he]
      exact Int.le_refl _
theorem own_open {w : World} {base : Nat} {e : TypeId} {v : Value} {n : Nat} {zs : List Int} (h : w.ownsRow base e 1 v n (zs.map (Value.int .i64))) (h1 : 1 ≤ n) :
    ∃ g cap, v = .slice (some ⟨g, 0, none⟩) n cap ∧ base ≤ g ∧ g < w.heap.size ∧ n ≤ cap ∧ cap ≤ maxLen ∧ (∀ i, i < n → w.cell? ⟨g, i, none⟩ = some (.int .i64 (zs.getD i 0))) ∧ ∀ i, w.frozen? ⟨g, i, none⟩ = false := by
  have hl : zs.length = n := by have := h.1; simp at this; omega
  obtain ⟨_, ⟨hv, hn⟩ | ⟨g, cap, cur, hv, hb, hh, hnc, hcm, hcs, ht⟩⟩ := id h
  · omega
  · refine ⟨g, cap, hv, hb, (Array.getElem?_eq_some_iff.1 hh).1, hnc, hcm, fun i hi => ?_, fun i => by simp [World.frozen?, hh]⟩
    have c := h.cells (g := g) (by rw [hv]; rfl)
    have c0 := c i (.int .i64 (zs.getD i 0)) (by rw [List.getElem?_map, List.getD_eq_getElem?_getD, List.getElem?_eq_getElem (by omega)]; rfl)
    rwa [add_at', Nat.zero_add] at c0
set_option maxRecDepth 100000 in
set_option maxHeartbeats 4000000 in
theorem JitterMonotone_walk (a0 : Option Addr) (len0 cap0 : Nat) (z0 : List Int) (a1 a2 a3 a4 : Int) (w : World) (w0 : Fr.IsRow .i64 w a0 len0 cap0 z0) (w1 : (Lit.int .i64 a1).wf = true) (w2 : (Lit.int .i64 a2).wf = true) (w3 : (Lit.int .i64 a3).wf = true) (w4 : (Lit.int .i64 a4).wf = true) :
    Calls Try.prog 8 #[.slice a0 len0 cap0, .int .i64 a1, .int .i64 a2, .int .i64 a3, .int .i64 a4] w fun e w' => e = .returned (.bool true) ∧ Below w.heap.size w w' := by
  have hl := isL_of_row w0
  have cd := hl.dly
  generalize z0.take len0 = Z at *
  have hwf := dly_wf Z
  have hdb := dly_bd Z
  have hlen := dly_len Z
  generalize dly Z = Y at *
  obtain ⟨n, hn⟩ : ∃ n, n = Y.length := ⟨_, rfl⟩
  rw [← hn] at cd hlen
  have hn40 : n ≤ 40 := by omega
  obtain ⟨D, hD⟩ : ∃ D, D = Y ++ [5] := ⟨_, rfl⟩
  have hDl : D.length = n + 1 := by rw [hD, hn]; simp
  have hDb : ∀ x ∈ D, -5 ≤ x ∧ x ≤ 74 := by
    intro x hx
    rw [hD] at hx
    rcases List.mem_append.1 hx with h | h
    · exact hdb x h
    · simp at h; subst h; decide
  have hDm : D.map (Value.int .i64) = Y.map (Value.int .i64) ++ [.int .i64 5] := by rw [hD]; simp
  have i1 := i64_bd w1
  have i2 := i64_bd w2
  have i3 := i64_bd w3
  have i4 := i64_bd w4
  have c1 := gives_same (fun w => around_any a1 1001 w i1.1 i1.2 (by omega) (by omega))
  have hb1 := aro_bd a1 1001 (by decide)
  obtain ⟨hb10, hb11⟩ := hb1
  generalize aro a1 1001 = p at *
  have c2 := gives_same (fun w => around_any a2 (1001 - p) w i2.1 i2.2 (by omega) (by omega))
  have hb2 := aro_bd a2 (1001 - p) (by omega)
  obtain ⟨hb20, hb21⟩ := hb2
  generalize aro a2 (1001 - p) = q at *
  have c3 := gives_same (fun w => around_any a3 ((n : Int) + 1) w i3.1 i3.2 (by omega) (by omega))
  have hb3 := aro_bd a3 ((n : Int) + 1) (by omega)
  obtain ⟨k, hk⟩ : ∃ k : Nat, aro a3 ((n : Int) + 1) = (k : Int) := ⟨(aro a3 ((n : Int) + 1)).toNat, by omega⟩
  rw [hk] at c3 hb3
  have hkn : k < n + 1 := by omega
  have c4 := gives_same (fun w => around_any a4 30 w i4.1 i4.2 (by omega) (by omega))
  have hb4 := aro_bd a4 30 (by decide)
  obtain ⟨hb40, hb41⟩ := hb4
  generalize aro a4 30 = s at *
  obtain ⟨i0, hii, hz0, hz1, hz2⟩ := info_parts Try.infoI
  have lv := lives_any
  have HDb := Lib.hid hDb
  have HDl := Lib.hid hDl
  have HDm := Lib.hid hDm
  have Hcd := Lib.hid cd; have Hc1 := Lib.hid c1; have Hc2 := Lib.hid c2; have Hc3 := Lib.hid c3; have Hc4 := Lib.hid c4; have Hlv := Lib.hid lv; clear cd c1 c2 c3 c4 lv
  clear hl w0 hlen hwf hdb hn hD hDb hDl hDm i1 i2 i3 i4 hb3 hk
  go_enter Try.func8, Try.ntmps8
  go_upto_region 2 with (first | ((with_reducible refine (Hcd.out _ (by (repeat (first | (with_reducible exact Below.refl _ _) | (with_reducible refine Below.drew ?_) | (with_reducible refine below_drewN ?_ _) | (with_reducible refine Below.setCell ?_ (by first | (simp; done) | (simp; omega) | omega) _) | (with_reducible refine Below.alloc ?_ (by first | (simp; done) | (simp; omega) | omega) _) | (with_reducible refine Below.trans ?_ (Below.mono (by assumption) (by first | (simp; done) | (simp; omega) | omega))) | (with_reducible refine Below.trans ?_ (Below.mono (Later.below _) (by first | (simp; done) | (simp; omega) | omega))))))).mono ?_); rintro e WD ⟨v, rfl, hown, hbD⟩; (obtain ⟨ND, hND, hcD, hfD, hsD⟩ := bcell hbD; (try simp only [World.size_alloc, World.size_setCell, World.size_drew] at hND))) | (at_builtin; refine wpList_append_own _ rfl _ _ 22 rfl w.heap.size 3 i0 (.int .i64 0) 1 8 Try.underlying22 hii hz0 hz1 hz2 (by simp [Value.cells]) (by decide) _ n (Y.map (Value.int .i64)) rfl (hown.alloc _) ⟨WD.heap.size, 0, none⟩ 1 1 [.int .i64 5] rfl rfl (new1 _ _ _) (by simp [Value.oneCell']) (by unfold maxLen; omega) (by omega) (by simp; omega) ?_; intro v' w2 hown2 hgrow2 _))
  have hb2 : Below w.heap.size w w2 := (hbD.alloc (by omega) _).grown hgrow2 (by simp; omega) (fun k e => (hown.lt k e).1)
  have hs2 := hb2.size
  rw [← HDm.out] at hown2
  obtain ⟨_, a, cap, rfl, hp⟩ := isL_of_own hown2 (fun x hx => by have := HDb.out x hx; exact wf_small (by omega) (by omega))
  have cI : ∀ W, Below w2.heap.size w2 W → Calls Try.prog 24 #[.slice a (n + 1) cap, .int .i64 41] W fun e w' => ∃ v, e = .returned v ∧ w'.ownsRow W.heap.size 3 1 v (n + 1) (D.map (Value.int .i64)) ∧ Below W.heap.size W w' := fun W hW => ints_any a (n + 1) cap 41 D W (hp.later (W := W) hW) (by omega) (by omega) (by omega) (by omega)
  have Hp := Lib.hid hp
  have Hb2 := Lib.hid hb2
  have HcI := Lib.hid cI; clear cI
  clear hp hown2 hgrow2 hown hbD hcD hfD Hcd hb2
  go_upto_region 4 with (first | ((with_reducible refine (HcI.out _ (by (repeat (first | (with_reducible exact Below.refl _ _) | (with_reducible refine Below.drew ?_) | (with_reducible refine below_drewN ?_ _) | (with_reducible refine Below.setCell ?_ (by first | (simp; done) | (simp; omega) | omega) _) | (with_reducible refine Below.alloc ?_ (by first | (simp; done) | (simp; omega) | omega) _) | (with_reducible refine Below.trans ?_ (Below.mono (by assumption) (by first | (simp; done) | (simp; omega) | omega))) | (with_reducible refine Below.trans ?_ (Below.mono (Later.below _) (by first | (simp; done) | (simp; omega) | omega))))))).mono ?_); rintro e WU ⟨v, rfl, hownU, hbU⟩; (obtain ⟨NU, hNU, hcU, hfU, hsU⟩ := bcell hbU; (try simp only [World.size_alloc, World.size_setCell, World.size_drew] at hNU)); have hbU' := Lib.hid hbU) | ((with_reducible refine (Hc3.out _).mono ?_); rintro e wA ⟨rfl, hbA⟩; obtain ⟨NA, hNA, hcA, hfA, hsA⟩ := bcell hbA; (try simp only [World.size_alloc, World.size_setCell, World.size_drew] at hNA)))
  obtain ⟨g, capU, rfl, hg0, hg1, hgc, hgm, hgcell, hgfree⟩ := own_open hownU (by omega)
  unfold maxLen at hgm
  have ex := cell_below hbA (hgcell k hkn)
  have ef : ∀ i, wA.frozen? ⟨g, i, none⟩ = false := fun i => (hbA.frozen (p := ⟨g, i, none⟩) hg1).trans (hgfree i)
  have Hcells := Lib.hid (fun i (hi : i < n + 1) => cell_below hbA (hgcell i hi))
  have hxb := HDb.out _ (getD_mem (K := D) (k := k) (by rw [HDl.out]; exact hkn))
  obtain ⟨hxb0, hxb1⟩ := hxb
  have hup := kept_up D k s (by rw [HDl.out]; exact hkn) hb40
  obtain ⟨x, hx⟩ : ∃ x, x = D.getD k 0 := ⟨_, rfl⟩
  rw [← hx] at ex hxb0 hxb1 hup
  have Hx := Lib.hid hx
  have hkI : (k : Int) < (n : Int) + 1 := by omega
  have hk0 : (0 : Int) ≤ (k : Int) := by omega
  have hb2A : Below w2.heap.size w2 wA := hbU.trans (hbA.mono (by omega))
  clear hownU hgcell hgfree hx hbU hbA hbU' hcU hfU hcA hfA
  refine wp_region_later_tail 10 (by kernel_rfl) (by kernel_rfl) fun NL hL => ?_; obtain ⟨hNL, hlc, hlf⟩ := hL; (try simp only [World.size_alloc, World.size_setCell, World.size_drew] at hNL); simp only [List.take_succ_cons, List.take_zero, List.drop_succ_cons, List.drop_zero]
  repeat (go_big_quiet_step (first | (with_reducible exact later_call (Hc4.out _))))
  (refine wpQuiet_nil ?_; intro w1 hw1; obtain ⟨⟨w1, hb1⟩, rfl⟩ := hw1; clear hlc hlf hNL NL; obtain ⟨N1, hN1, hc1, hf1, hs1⟩ := bcell hb1; (try simp only [World.size_alloc, World.size_setCell, World.size_drew] at hN1))
  go_upto_region 5 with (fail)
  refine name_world fun W hW => ?_
  have hb2W : Below w2.heap.size w2 W := by rw [hW]; exact (hb2A.trans (hb1.mono (by omega))).setCell (p := ⟨g, k, none⟩) hg0 _
  have hpD := Hp.out.later hb2W
  have hpU : IsL W (some ⟨g, 0, none⟩) (n + 1) capU (D.set k (x + s)) := by
    refine ⟨by rw [List.length_set]; exact HDl.out, hgc, by unfold maxLen; exact hgm, .inr ⟨g, 0, rfl, fun i hi => ?_⟩, fun y hy => ?_⟩
    · have ci := cell_below hb1 (Hcells.out i hi)
      have ck := cell_below hb1 ex
      have hDl := HDl.out
      rw [hW, setCell_if, if_pos rfl, Nat.zero_add]
      by_cases hik : i = k
      · subst hik
        rw [if_pos rfl, ck]
        simp [List.getD_eq_getElem?_getD, List.getElem?_set, hDl, hi]
      · rw [if_neg hik, ci]
        simp [List.getD_eq_getElem?_getD, List.getElem?_set, Ne.symm hik]
    · rcases List.mem_or_eq_of_mem_set hy with h | rfl
      · have := HDb.out y h; exact wf_small (by omega) (by omega)
      · exact wf_small (by omega) (by omega)
  have hBw : Below w.heap.size w W := Hb2.out.trans (hb2W.mono hs2)
  have hws := hBw.size
  have cf := hpD.fill (by omega)
  have cg := hpU.fill (by omega)
  have m1 := qnt_mono (K := kept D) (p := p) (q := p + q) (by omega)
  have m2 := qnt_pointwise hup.1 hup.2 p
  have m3 := qnt_pointwise hup.1 hup.2 900
  have m4 := qnt_pointwise hup.1 hup.2 1000
  have kb1 := kept_bd D
  have kb2 := kept_bd (D.set k (x + s))
  generalize kept D = K at *
  generalize kept (D.set k (x + s)) = M at *
  obtain ⟨u1, hu1⟩ : ∃ u, u = qnt K p := ⟨_, rfl⟩
  obtain ⟨u2, hu2⟩ : ∃ u, u = qnt K (p + q) := ⟨_, rfl⟩
  obtain ⟨u3, hu3⟩ : ∃ u, u = qnt M p := ⟨_, rfl⟩
  obtain ⟨u4, hu4⟩ : ∃ u, u = min 8 (qnt K 900) := ⟨_, rfl⟩
  obtain ⟨u5, hu5⟩ : ∃ u, u = min 8 (qnt M 900) := ⟨_, rfl⟩
  obtain ⟨u6, hu6⟩ : ∃ u, u = min (qnt K 1000 + 1) 12 := ⟨_, rfl⟩
  obtain ⟨u7, hu7⟩ : ∃ u, u = min (qnt M 1000 + 1) 12 := ⟨_, rfl⟩
  have l1 : u1 ≤ u2 := by omega
  have l2 : u1 ≤ u3 := by omega
  have l3 : u4 ≤ u5 := by omega
  have l4 : u6 ≤ u7 := by omega
  have Hu1 := Lib.hid hu1
  have Hu2 := Lib.hid hu2
  have Hu3 := Lib.hid hu3
  have Hu4 := Lib.hid hu4
  have Hu5 := Lib.hid hu5
  have Hu6 := Lib.hid hu6
  have Hu7 := Lib.hid hu7
  have Kb1 := Lib.hid kb1
  have Kb2 := Lib.hid kb2
  have HBw := Lib.hid hBw
  have Hcf := Lib.hid cf; have Hcg := Lib.hid cg; clear cf cg
  clear hu1 hu2 hu3 hu4 hu5 hu6 hu7 kb1 kb2 m1 m2 m3 m4 hup hpD hpU hW hb2W ex ef hb1 hc1 hf1 hb2A hBw Hcells hN1 hs1
  go_wp2_with (first | ((with_reducible refine (Hcf.out _ (by (repeat (first | (with_reducible exact Below.refl _ _) | (with_reducible refine Below.drew ?_) | (with_reducible refine below_drewN ?_ _) | (with_reducible refine Below.setCell ?_ (by first | (simp; done) | (simp; omega) | omega) _) | (with_reducible refine Below.alloc ?_ (by first | (simp; done) | (simp; omega) | omega) _) | (with_reducible refine Below.trans ?_ (Below.mono (by assumption) (by first | (simp; done) | (simp; omega) | omega))) | (with_reducible refine Below.trans ?_ (Below.mono (Later.below _) (by first | (simp; done) | (simp; omega) | omega))))))).mono ?_); rintro e WE ⟨b, rfl, hE, hbE⟩; (obtain ⟨NE, hNE, hcE, hfE, hsE⟩ := bcell hbE; (try simp only [World.size_alloc, World.size_setCell, World.size_drew] at hNE)); have G1 := Lib.hid (hE.q p); have G2 := Lib.hid (hE.q (p + q)); have G3 := Lib.hid hE.i; have G4 := Lib.hid (hE.wi Kb1.out); rw [← Hu1.out] at G1; rw [← Hu2.out] at G2; rw [← Hu4.out] at G3; rw [← Hu6.out] at G4; clear hE) | ((with_reducible refine (Hcg.out _ (by (repeat (first | (with_reducible exact Below.refl _ _) | (with_reducible refine Below.drew ?_) | (with_reducible refine below_drewN ?_ _) | (with_reducible refine Below.setCell ?_ (by first | (simp; done) | (simp; omega) | omega) _) | (with_reducible refine Below.alloc ?_ (by first | (simp; done) | (simp; omega) | omega) _) | (with_reducible refine Below.trans ?_ (Below.mono (by assumption) (by first | (simp; done) | (simp; omega) | omega))) | (with_reducible refine Below.trans ?_ (Below.mono (Later.below _) (by first | (simp; done) | (simp; omega) | omega))))))).mono ?_); rintro e WF ⟨b', rfl, hE, hbF⟩; (obtain ⟨NF, hNF, hcF, hfF, hsF⟩ := bcell hbF; (try simp only [World.size_alloc, World.size_setCell, World.size_drew] at hNF)); have F1 := Lib.hid (hE.q p); have F2 := Lib.hid hE.i; have F3 := Lib.hid (hE.wi Kb2.out); rw [← Hu3.out] at F1; rw [← Hu5.out] at F2; rw [← Hu7.out] at F3; clear hE) | ((with_reducible refine (Hc1.out _).mono ?_); rintro e wG ⟨rfl, hbG⟩; obtain ⟨NG, hNG, hcG, hfG, hsG⟩ := bcell hbG; (try simp only [World.size_alloc, World.size_setCell, World.size_drew] at hNG)) | ((with_reducible refine (Hc2.out _).mono ?_); rintro e wH ⟨rfl, hbH⟩; obtain ⟨NH, hNH, hcH, hfH, hsH⟩ := bcell hbH; (try simp only [World.size_alloc, World.size_setCell, World.size_drew] at hNH)) | ((with_reducible refine (G1.out _ (by (repeat (first | (with_reducible exact Below.refl _ _) | (with_reducible refine Below.drew ?_) | (with_reducible refine below_drewN ?_ _) | (with_reducible refine Below.setCell ?_ (by first | (simp; done) | (simp; omega) | omega) _) | (with_reducible refine Below.alloc ?_ (by first | (simp; done) | (simp; omega) | omega) _) | (with_reducible refine Below.trans ?_ (Below.mono (by assumption) (by first | (simp; done) | (simp; omega) | omega))) | (with_reducible refine Below.trans ?_ (Below.mono (Later.below _) (by first | (simp; done) | (simp; omega) | omega))))))).mono ?_); rintro e wI ⟨rfl, hbI⟩; obtain ⟨NI, hNI, hcI, hfI, hsI⟩ := bcell hbI; (try simp only [World.size_alloc, World.size_setCell, World.size_drew] at hNI)) | ((with_reducible refine (G2.out _ (by (repeat (first | (with_reducible exact Below.refl _ _) | (with_reducible refine Below.drew ?_) | (with_reducible refine below_drewN ?_ _) | (with_reducible refine Below.setCell ?_ (by first | (simp; done) | (simp; omega) | omega) _) | (with_reducible refine Below.alloc ?_ (by first | (simp; done) | (simp; omega) | omega) _) | (with_reducible refine Below.trans ?_ (Below.mono (by assumption) (by first | (simp; done) | (simp; omega) | omega))) | (with_reducible refine Below.trans ?_ (Below.mono (Later.below _) (by first | (simp; done) | (simp; omega) | omega))))))).mono ?_); rintro e wJ ⟨rfl, hbJ⟩; obtain ⟨NJ, hNJ, hcJ, hfJ, hsJ⟩ := bcell hbJ; (try simp only [World.size_alloc, World.size_setCell, World.size_drew] at hNJ)) | ((with_reducible refine (G3.out _ (by (repeat (first | (with_reducible exact Below.refl _ _) | (with_reducible refine Below.drew ?_) | (with_reducible refine below_drewN ?_ _) | (with_reducible refine Below.setCell ?_ (by first | (simp; done) | (simp; omega) | omega) _) | (with_reducible refine Below.alloc ?_ (by first | (simp; done) | (simp; omega) | omega) _) | (with_reducible refine Below.trans ?_ (Below.mono (by assumption) (by first | (simp; done) | (simp; omega) | omega))) | (with_reducible refine Below.trans ?_ (Below.mono (Later.below _) (by first | (simp; done) | (simp; omega) | omega))))))).mono ?_); rintro e wK ⟨rfl, hbK⟩; obtain ⟨NK, hNK, hcK, hfK, hsK⟩ := bcell hbK; (try simp only [World.size_alloc, World.size_setCell, World.size_drew] at hNK)) | ((with_reducible refine (G4.out _ (by (repeat (first | (with_reducible exact Below.refl _ _) | (with_reducible refine Below.drew ?_) | (with_reducible refine below_drewN ?_ _) | (with_reducible refine Below.setCell ?_ (by first | (simp; done) | (simp; omega) | omega) _) | (with_reducible refine Below.alloc ?_ (by first | (simp; done) | (simp; omega) | omega) _) | (with_reducible refine Below.trans ?_ (Below.mono (by assumption) (by first | (simp; done) | (simp; omega) | omega))) | (with_reducible refine Below.trans ?_ (Below.mono (Later.below _) (by first | (simp; done) | (simp; omega) | omega))))))).mono ?_); rintro e wL ⟨rfl, hbL⟩; obtain ⟨NL, hNL, hcL, hfL, hsL⟩ := bcell hbL; (try simp only [World.size_alloc, World.size_setCell, World.size_drew] at hNL)) | ((with_reducible refine (F1.out _ (by (repeat (first | (with_reducible exact Below.refl _ _) | (with_reducible refine Below.drew ?_) | (with_reducible refine below_drewN ?_ _) | (with_reducible refine Below.setCell ?_ (by first | (simp; done) | (simp; omega) | omega) _) | (with_reducible refine Below.alloc ?_ (by first | (simp; done) | (simp; omega) | omega) _) | (with_reducible refine Below.trans ?_ (Below.mono (by assumption) (by first | (simp; done) | (simp; omega) | omega))) | (with_reducible refine Below.trans ?_ (Below.mono (Later.below _) (by first | (simp; done) | (simp; omega) | omega))))))).mono ?_); rintro e wM ⟨rfl, hbM⟩; obtain ⟨NM, hNM, hcM, hfM, hsM⟩ := bcell hbM; (try simp only [World.size_alloc, World.size_setCell, World.size_drew] at hNM)) | ((with_reducible refine (F2.out _ (by (repeat (first | (with_reducible exact Below.refl _ _) | (with_reducible refine Below.drew ?_) | (with_reducible refine below_drewN ?_ _) | (with_reducible refine Below.setCell ?_ (by first | (simp; done) | (simp; omega) | omega) _) | (with_reducible refine Below.alloc ?_ (by first | (simp; done) | (simp; omega) | omega) _) | (with_reducible refine Below.trans ?_ (Below.mono (by assumption) (by first | (simp; done) | (simp; omega) | omega))) | (with_reducible refine Below.trans ?_ (Below.mono (Later.below _) (by first | (simp; done) | (simp; omega) | omega))))))).mono ?_); rintro e wP ⟨rfl, hbP⟩; obtain ⟨NP, hNP, hcP, hfP, hsP⟩ := bcell hbP; (try simp only [World.size_alloc, World.size_setCell, World.size_drew] at hNP)) | ((with_reducible refine (F3.out _ (by (repeat (first | (with_reducible exact Below.refl _ _) | (with_reducible refine Below.drew ?_) | (with_reducible refine below_drewN ?_ _) | (with_reducible refine Below.setCell ?_ (by first | (simp; done) | (simp; omega) | omega) _) | (with_reducible refine Below.alloc ?_ (by first | (simp; done) | (simp; omega) | omega) _) | (with_reducible refine Below.trans ?_ (Below.mono (by assumption) (by first | (simp; done) | (simp; omega) | omega))) | (with_reducible refine Below.trans ?_ (Below.mono (Later.below _) (by first | (simp; done) | (simp; omega) | omega))))))).mono ?_); rintro e wQ ⟨rfl, hbQ⟩; obtain ⟨NQ, hNQ, hcQ, hfQ, hsQ⟩ := bcell hbQ; (try simp only [World.size_alloc, World.size_setCell, World.size_drew] at hNQ)) | ((with_reducible refine (Hlv.out _).mono ?_); rintro e wR ⟨rfl, hbR⟩; obtain ⟨NR, hNR, hcR, hfR, hsR⟩ := bcell hbR; (try simp only [World.size_alloc, World.size_setCell, World.size_drew] at hNR)))
  go_ret
  exact ⟨rfl, HBw.out.trans (Below.mono (by (repeat (first | (with_reducible exact Below.refl _ _) | (with_reducible refine Below.drew ?_) | (with_reducible refine below_drewN ?_ _) | (with_reducible refine Below.setCell ?_ (by first | (simp; done) | (simp; omega) | omega) _) | (with_reducible refine Below.alloc ?_ (by first | (simp; done) | (simp; omega) | omega) _) | (with_reducible refine Below.trans ?_ (Below.mono (by assumption) (by first | (simp; done) | (simp; omega) | omega))) | (with_reducible refine Below.trans ?_ (Below.mono (Later.below _) (by first | (simp; done) | (simp; omega) | omega)))))) hws)⟩
end Go.Proofs.Ytbepnjlgneialaa.W
