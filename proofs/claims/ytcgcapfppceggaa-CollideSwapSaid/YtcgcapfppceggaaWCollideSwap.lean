/-
  The walk of the law CollideSwap: it returns true at every input.
  Conditions: none.
-/
import Derived.Test.YtcgcapfppceggaaCoE
import Derived.Test.YtcgcapfppceggaaCoL
import Derived.Test.YtcgcapfppceggaaShN
import Derived.Test.YtcgcapfppceggaaShT
import Derived.Test.YtcgcapfppceggaaQe
import Derived.Deep.Cut
import Derived.Deep.CutRange
import Derived.Deep.DeepCutAuto
import Derived.Deep.RegionHeld3
namespace Go.Proofs.Ytcgcapfppceggaa.W
open Go.RowKit Go.Proofs.Ytcgcapfppceggaa.FxMath Go.Proofs.Ytcgcapfppceggaa.FxA Go.Proofs.Ytcgcapfppceggaa.Qt Go.Proofs.Ytcgcapfppceggaa.Ve Go.Proofs.Ytcgcapfppceggaa.Sh Go.Proofs.Ytcgcapfppceggaa.Co
set_option linter.unusedVariables false
set_option linter.unusedSimpArgs false
/-- Another first vertex changes nothing. -/
theorem col_Rot {za zt : List (Int × Int)} (h : Rot za zt) (ra px py rb : Int) (zb : List (Int × Int)) (qx qy : Int) (hb : zb.length ≠ 0) :
    cis ra zt px py rb zb qx qy = cis ra za px py rb zb qx qy ∧ cdp ra zt px py rb zb qx qy = cdp ra za px py rb zb qx qy := by
  rcases h with rfl | ⟨k, hk, rfl⟩
  · exact ⟨rfl, rfl⟩
  · obtain ⟨h1, h2⟩ := col_rot ra za px py rb zb qx qy hb k hk
    exact ⟨h1.symm, h2.symm⟩
set_option maxRecDepth 100000 in
set_option maxHeartbeats 4000000 in
theorem CollideSwap_walk (a0 a1 a2a a2b a2c a2d a3 : Int) (w : World) (w0 : (Lit.int .i64 a0).wf = true) (w1 : (Lit.int .i64 a1).wf = true) (w2a : (Lit.int .i64 a2a).wf = true) (w2b : (Lit.int .i64 a2b).wf = true) (w2c : (Lit.int .i64 a2c).wf = true) (w2d : (Lit.int .i64 a2d).wf = true) (w3 : (Lit.int .i64 a3).wf = true) :
    Calls Try.prog 3 #[.int .i64 a0, .int .i64 a1, .agg #[.int .i64 a2a, .int .i64 a2b, .int .i64 a2c, .int .i64 a2d], .int .i64 a3] w fun e w' => e = .returned (.bool true) ∧ Below w.heap.size w w' := by
  have cs0 := fun W => shape_any a0 W w0
  have cs1 := fun W => shape_any a1 W w1
  obtain ⟨la, hla⟩ : ∃ L, L = (shZ a0).length := ⟨_, rfl⟩
  obtain ⟨lb, hlb⟩ : ∃ L, L = (shZ a1).length := ⟨_, rfl⟩
  rw [← hla] at cs0
  rw [← hlb] at cs1
  generalize shR a0 = ra at *
  generalize shZ a0 = za at *
  generalize shR a1 = rb at *
  generalize shZ a1 = zb at *
  have lv := lives05
  have Hcs0 := Lib.hid cs0; have Hcs1 := Lib.hid cs1; have Hhla := Lib.hid hla; have Hhlb := Lib.hid hlb; have Hlv := Lib.hid lv; clear cs0 cs1 hla hlb lv
  have hal := alloc_if; have hfal := allocF_if
  go_enter Try.func3, Try.ntmps3
  go_upto_region 3 with (first | ((with_reducible refine (Hcs0.out _).mono ?_); rintro e WA ⟨aa, ca, rfl, hA, hbA, hxA⟩; obtain ⟨NA, hNA, hcA, hfA, hsA⟩ := bcell hbA; (try simp only [World.size_alloc, World.size_setCell, World.size_drew] at hNA)) | ((with_reducible refine (Hcs1.out _).mono ?_); rintro e WB ⟨ab, cb, rfl, hB, hbB, hxB⟩; obtain ⟨NB, hNB, hcB, hfB, hsB⟩ := bcell hbB; (try simp only [World.size_alloc, World.size_setCell, World.size_drew] at hNB)))
  have hA2 : ShAt WB ra aa la ca za := hA.later (by (repeat (first | (with_reducible exact Below.refl _ _) | (with_reducible refine Below.drew ?_) | (with_reducible refine below_drewN ?_ _) | (with_reducible refine Below.setCell ?_ (by first | (simp; done) | (simp; omega) | omega) _) | (with_reducible refine Below.alloc ?_ (by first | (simp; done) | (simp; omega) | omega) _) | (with_reducible refine Below.trans ?_ (Below.mono (by assumption) (by first | (simp; done) | (simp; omega) | omega))) | (with_reducible refine Below.trans ?_ (Below.mono (Later.below _) (by first | (simp; done) | (simp; omega) | omega))))))
  by_cases ha : la = 0
  · subst ha
    go_wp2_with (((with_reducible refine (Hlv.out _).mono ?_); rintro e wD ⟨rfl, hbD⟩; obtain ⟨ND, hND, hcD, hfD, hsD⟩ := bcell hbD; (try simp only [World.size_alloc, World.size_setCell, World.size_drew] at hND)))
    go_ret
    exact ⟨rfl, by (repeat (first | (with_reducible exact Below.refl _ _) | (with_reducible refine Below.drew ?_) | (with_reducible refine below_drewN ?_ _) | (with_reducible refine Below.setCell ?_ (by first | (simp; done) | (simp; omega) | omega) _) | (with_reducible refine Below.alloc ?_ (by first | (simp; done) | (simp; omega) | omega) _) | (with_reducible refine Below.trans ?_ (Below.mono (by assumption) (by first | (simp; done) | (simp; omega) | omega))) | (with_reducible refine Below.trans ?_ (Below.mono (Later.below _) (by first | (simp; done) | (simp; omega) | omega)))))⟩
  have ha' : ((la : Int) == 0) = false := beq_eq_false_iff_ne.2 (by omega)
  by_cases hb : lb = 0
  · subst hb
    go_wp2_with (((with_reducible refine (Hlv.out _).mono ?_); rintro e wD ⟨rfl, hbD⟩; obtain ⟨ND, hND, hcD, hfD, hsD⟩ := bcell hbD; (try simp only [World.size_alloc, World.size_setCell, World.size_drew] at hND)))
    go_ret
    exact ⟨rfl, by (repeat (first | (with_reducible exact Below.refl _ _) | (with_reducible refine Below.drew ?_) | (with_reducible refine below_drewN ?_ _) | (with_reducible refine Below.setCell ?_ (by first | (simp; done) | (simp; omega) | omega) _) | (with_reducible refine Below.alloc ?_ (by first | (simp; done) | (simp; omega) | omega) _) | (with_reducible refine Below.trans ?_ (Below.mono (by assumption) (by first | (simp; done) | (simp; omega) | omega))) | (with_reducible refine Below.trans ?_ (Below.mono (Later.below _) (by first | (simp; done) | (simp; omega) | omega)))))⟩
  have hb' : ((lb : Int) == 0) = false := beq_eq_false_iff_ne.2 (by omega)
  have cp := place_s hA2 hB a2a a2b a2c a2d w2a w2b w2c w2d
  have Hcp := Lib.hid cp; clear cp
  go_upto_region 6 with (((with_reducible refine (Hcp.out _ (by (repeat (first | (with_reducible exact Below.refl _ _) | (with_reducible refine Below.drew ?_) | (with_reducible refine below_drewN ?_ _) | (with_reducible refine Below.setCell ?_ (by first | (simp; done) | (simp; omega) | omega) _) | (with_reducible refine Below.alloc ?_ (by first | (simp; done) | (simp; omega) | omega) _) | (with_reducible refine Below.trans ?_ (Below.mono (by assumption) (by first | (simp; done) | (simp; omega) | omega))) | (with_reducible refine Below.trans ?_ (Below.mono (Later.below _) (by first | (simp; done) | (simp; omega) | omega))))))).mono ?_); rintro e wP ⟨⟨px, py, qx, qy, rfl, hp, hq⟩, hbP⟩; obtain ⟨NP, hNP, hcP, hfP, hsP⟩ := bcell hbP; (try simp only [World.size_alloc, World.size_setCell, World.size_drew] at hNP)))
  have hlb0 : zb.length ≠ 0 := by rw [← Hhlb.out]; exact hb
  have hla0 : za.length ≠ 0 := by rw [← Hhla.out]; exact ha
  have hsw := col_swap ra za px py rb zb qx qy hla0 hlb0
  have ccT : ∀ (V : World) (at' : Option Addr) (ct : Nat) (zt : List (Int × Int)), ShAt V ra at' la ct zt → Below WB.heap.size WB V → Rot za zt → Calls Try.prog 21 #[.agg #[.int .i64 ra, .slice at' la ct], .agg #[.int .i64 px, .int .i64 py], .agg #[.int .i64 rb, .slice ab lb cb], .agg #[.int .i64 qx, .int .i64 qy]] V fun e w' =>
      (∃ x y : Int, e = .returned (.tuple #[.agg #[.int .i64 x, .int .i64 y, .int .i64 (cdp ra za px py rb zb qx qy)], .bool (cis ra za px py rb zb qx qy)])) ∧ Below V.heap.size V w' := by
    intro V at' ct zt hT hV hr
    refine (collide_at hT (hB.later hV) (px := px) (py := py) (qx := qx) (qy := qy) (by omega) (by omega)).mono ?_
    rintro e w' ⟨rfl, hb⟩
    obtain ⟨e1, e2⟩ := col_Rot hr ra px py rb zb qx qy hlb0
    rw [e1, e2]
    exact ⟨⟨_, _, rfl⟩, hb⟩
  have cc1 := fun V (hV : Below WB.heap.size WB V) => collide_at (hA2.later hV) (hB.later hV) (px := px) (py := py) (qx := qx) (qy := qy) (by omega) (by omega)
  have cc2 := fun V (hV : Below WB.heap.size WB V) => collide_at (hB.later hV) (hA2.later hV) (px := qx) (py := qy) (qx := px) (qy := py) (by omega) (by omega)
  have ctn := turned_s hA2 a3 w3
  rw [← hsw.1, ← hsw.2] at cc2
  generalize cis ra za px py rb zb qx qy = i1 at *
  generalize cdp ra za px py rb zb qx qy = d1 at *
  generalize cnx ra za px py rb zb qx qy = x1 at *
  generalize cny ra za px py rb zb qx qy = y1 at *
  generalize cnx rb zb qx qy ra za px py = x2 at *
  generalize cny rb zb qx qy ra za px py = y2 at *
  clear hsw hp hq hla0 hlb0
  have Hcc1 := Lib.hid cc1; have Hcc2 := Lib.hid cc2; have HccT := Lib.hid ccT; have Hctn := Lib.hid ctn; clear cc1 cc2 ccT ctn
  go_upto_region 8 with (first | ((with_reducible refine (Hcc1.out _ (by (repeat (first | (with_reducible exact Below.refl _ _) | (with_reducible refine Below.drew ?_) | (with_reducible refine below_drewN ?_ _) | (with_reducible refine Below.setCell ?_ (by first | (simp; done) | (simp; omega) | omega) _) | (with_reducible refine Below.alloc ?_ (by first | (simp; done) | (simp; omega) | omega) _) | (with_reducible refine Below.trans ?_ (Below.mono (by assumption) (by first | (simp; done) | (simp; omega) | omega))) | (with_reducible refine Below.trans ?_ (Below.mono (Later.below _) (by first | (simp; done) | (simp; omega) | omega))))))).mono ?_); rintro e wC ⟨rfl, hbC⟩; obtain ⟨NC, hNC, hcC, hfC, hsC⟩ := bcell hbC; (try simp only [World.size_alloc, World.size_setCell, World.size_drew] at hNC)) | ((with_reducible refine (Hcc2.out _ (by (repeat (first | (with_reducible exact Below.refl _ _) | (with_reducible refine Below.drew ?_) | (with_reducible refine below_drewN ?_ _) | (with_reducible refine Below.setCell ?_ (by first | (simp; done) | (simp; omega) | omega) _) | (with_reducible refine Below.alloc ?_ (by first | (simp; done) | (simp; omega) | omega) _) | (with_reducible refine Below.trans ?_ (Below.mono (by assumption) (by first | (simp; done) | (simp; omega) | omega))) | (with_reducible refine Below.trans ?_ (Below.mono (Later.below _) (by first | (simp; done) | (simp; omega) | omega))))))).mono ?_); rintro e wD ⟨rfl, hbD⟩; obtain ⟨ND, hND, hcD, hfD, hsD⟩ := bcell hbD; (try simp only [World.size_alloc, World.size_setCell, World.size_drew] at hND)))
  refine name_world fun W8 hW8 => ?_
  have t0 : W8.cell? ⟨WA.heap.size, 0, none⟩ = some (.int .i64 ra) := by rw [hW8]; simp [hcD, hcC, hcP, hcB, hal, ↓IntWalk.iteOmega]
  have t1 : W8.cell? ⟨WA.heap.size, 1, none⟩ = some (.slice aa la ca) := by rw [hW8]; simp [hcD, hcC, hcP, hcB, hal, ↓IntWalk.iteOmega]
  have u0 : W8.cell? ⟨WB.heap.size, 0, none⟩ = some (.int .i64 rb) := by rw [hW8]; simp [hcD, hcC, hcP, hal, ↓IntWalk.iteOmega]
  have u1 : W8.cell? ⟨WB.heap.size, 1, none⟩ = some (.slice ab lb cb) := by rw [hW8]; simp [hcD, hcC, hcP, hal, ↓IntWalk.iteOmega]
  have p0 : W8.cell? ⟨wP.heap.size, 0, none⟩ = some (.int .i64 px) := by rw [hW8]; simp [hcD, hcC, hal, ↓IntWalk.iteOmega]
  have p1 : W8.cell? ⟨wP.heap.size, 1, none⟩ = some (.int .i64 py) := by rw [hW8]; simp [hcD, hcC, hal, ↓IntWalk.iteOmega]
  have q0 : W8.cell? ⟨wP.heap.size + 1, 0, none⟩ = some (.int .i64 qx) := by rw [hW8]; simp [hcD, hcC, hal, ↓IntWalk.iteOmega]
  have q1 : W8.cell? ⟨wP.heap.size + 1, 1, none⟩ = some (.int .i64 qy) := by rw [hW8]; simp [hcD, hcC, hal, ↓IntWalk.iteOmega]
  have c2 : W8.cell? ⟨wC.heap.size, 2, none⟩ = some (.int .i64 d1) := by rw [hW8]; simp [hcD, hal, ↓IntWalk.iteOmega]
  have d2 : W8.cell? ⟨wD.heap.size, 2, none⟩ = some (.int .i64 d1) := by rw [hW8]; simp [hal, ↓IntWalk.iteOmega]
  have hbW : Below w.heap.size w W8 := by rw [hW8]; (repeat (first | (with_reducible exact Below.refl _ _) | (with_reducible refine Below.drew ?_) | (with_reducible refine below_drewN ?_ _) | (with_reducible refine Below.setCell ?_ (by first | (simp; done) | (simp; omega) | omega) _) | (with_reducible refine Below.alloc ?_ (by first | (simp; done) | (simp; omega) | omega) _) | (with_reducible refine Below.trans ?_ (Below.mono (by assumption) (by first | (simp; done) | (simp; omega) | omega))) | (with_reducible refine Below.trans ?_ (Below.mono (Later.below _) (by first | (simp; done) | (simp; omega) | omega)))))
  have hbV : Below WB.heap.size WB W8 := by rw [hW8]; (repeat (first | (with_reducible exact Below.refl _ _) | (with_reducible refine Below.drew ?_) | (with_reducible refine below_drewN ?_ _) | (with_reducible refine Below.setCell ?_ (by first | (simp; done) | (simp; omega) | omega) _) | (with_reducible refine Below.alloc ?_ (by first | (simp; done) | (simp; omega) | omega) _) | (with_reducible refine Below.trans ?_ (Below.mono (by assumption) (by first | (simp; done) | (simp; omega) | omega))) | (with_reducible refine Below.trans ?_ (Below.mono (Later.below _) (by first | (simp; done) | (simp; omega) | omega)))))
  have sW : WB.heap.size ≤ W8.heap.size := hbV.size
  have sw : w.heap.size ≤ W8.heap.size := hbW.size
  have st : ∀ V, Below W8.heap.size W8 V → V.cell? ⟨WA.heap.size, 0, none⟩ = some (.int .i64 ra) ∧ V.cell? ⟨WA.heap.size, 1, none⟩ = some (.slice aa la ca) ∧ V.cell? ⟨WB.heap.size, 0, none⟩ = some (.int .i64 rb) ∧ V.cell? ⟨WB.heap.size, 1, none⟩ = some (.slice ab lb cb) ∧ V.cell? ⟨wP.heap.size, 0, none⟩ = some (.int .i64 px) ∧ V.cell? ⟨wP.heap.size, 1, none⟩ = some (.int .i64 py) ∧ V.cell? ⟨wP.heap.size + 1, 0, none⟩ = some (.int .i64 qx) ∧ V.cell? ⟨wP.heap.size + 1, 1, none⟩ = some (.int .i64 qy) :=
    fun V hV => ⟨cell_below hV t0, cell_below hV t1, cell_below hV u0, cell_below hV u1, cell_below hV p0, cell_below hV p1, cell_below hV q0, cell_below hV q1⟩
  clear hbA hbB hbP hbC hbD hcA hcB hcP hcC hcD hfA hfB hfP hfC hfD hA hB hA2 hxA hxB t0 t1 u0 u1 p0 p1 q0 q1 hW8 hsA hsB hsP hsC hsD hNA hNB hNP hNC hND NA NB NP NC ND
  have lc : wC.heap.size < W8.heap.size := World.block_lt_of_cell? _ _ c2
  have ld : wD.heap.size < W8.heap.size := World.block_lt_of_cell? _ _ d2
  have Hst := Lib.hid st; clear st
  go_region_held3 (fun V => V.cell? ⟨WA.heap.size, 0, none⟩ = some (.int .i64 ra) ∧ V.cell? ⟨WA.heap.size, 1, none⟩ = some (.slice aa la ca) ∧ V.cell? ⟨WB.heap.size, 0, none⟩ = some (.int .i64 rb) ∧ V.cell? ⟨WB.heap.size, 1, none⟩ = some (.slice ab lb cb) ∧ V.cell? ⟨wP.heap.size, 0, none⟩ = some (.int .i64 px) ∧ V.cell? ⟨wP.heap.size, 1, none⟩ = some (.int .i64 py) ∧ V.cell? ⟨wP.heap.size + 1, 0, none⟩ = some (.int .i64 qx) ∧ V.cell? ⟨wP.heap.size + 1, 1, none⟩ = some (.int .i64 qy)) (exact Hst.out _ (by (repeat (first | (with_reducible exact Below.refl _ _) | (with_reducible refine Below.drew ?_) | (with_reducible refine below_drewN ?_ _) | (with_reducible refine Below.setCell ?_ (by first | (simp; done) | (simp; omega) | omega) _) | (with_reducible refine Below.alloc ?_ (by first | (simp; done) | (simp; omega) | omega) _) | (with_reducible refine Below.trans ?_ (Below.mono (by assumption) (by first | (simp; done) | (simp; omega) | omega))) | (with_reducible refine Below.trans ?_ (Below.mono (Later.below _) (by first | (simp; done) | (simp; omega) | omega)))))))
    (first | ((with_reducible refine (Hctn.out _ (by (repeat (first | (with_reducible exact Below.refl _ _) | (with_reducible refine Below.drew ?_) | (with_reducible refine below_drewN ?_ _) | (with_reducible refine Below.setCell ?_ (by first | (simp; done) | (simp; omega) | omega) _) | (with_reducible refine Below.alloc ?_ (by first | (simp; done) | (simp; omega) | omega) _) | (with_reducible refine Below.trans ?_ (Below.mono (by assumption) (by first | (simp; done) | (simp; omega) | omega))) | (with_reducible refine Below.trans ?_ (Below.mono (Later.below _) (by first | (simp; done) | (simp; omega) | omega))))))).mono ?_); rintro e wT ⟨ta, tc, zt, rfl, hT, hbT, hrot⟩; obtain ⟨NT, hNT, hcT, hfT, hsT⟩ := bcell hbT; (try simp only [World.size_alloc, World.size_setCell, World.size_drew] at hNT)) | ((with_reducible refine (HccT.out _ _ _ _ (ShAt.later (by assumption) (by (repeat (first | (with_reducible exact Below.refl _ _) | (with_reducible refine Below.drew ?_) | (with_reducible refine below_drewN ?_ _) | (with_reducible refine Below.setCell ?_ (by first | (simp; done) | (simp; omega) | omega) _) | (with_reducible refine Below.alloc ?_ (by first | (simp; done) | (simp; omega) | omega) _) | (with_reducible refine Below.trans ?_ (Below.mono (by assumption) (by first | (simp; done) | (simp; omega) | omega))) | (with_reducible refine Below.trans ?_ (Below.mono (Later.below _) (by first | (simp; done) | (simp; omega) | omega))))))) (by (repeat (first | (with_reducible exact Below.refl _ _) | (with_reducible refine Below.drew ?_) | (with_reducible refine below_drewN ?_ _) | (with_reducible refine Below.setCell ?_ (by first | (simp; done) | (simp; omega) | omega) _) | (with_reducible refine Below.alloc ?_ (by first | (simp; done) | (simp; omega) | omega) _) | (with_reducible refine Below.trans ?_ (Below.mono (by assumption) (by first | (simp; done) | (simp; omega) | omega))) | (with_reducible refine Below.trans ?_ (Below.mono (Later.below _) (by first | (simp; done) | (simp; omega) | omega)))))) (by assumption)).mono ?_); rintro e wE ⟨⟨x3, y3, rfl⟩, hbE⟩; obtain ⟨NE, hNE, hcE, hfE, hsE⟩ := bcell hbE; (try simp only [World.size_alloc, World.size_setCell, World.size_drew] at hNE)))
  all_goals
    have hst := setCell_if
    cases i1 <;>
    (go_wp2_with (((with_reducible refine (Hlv.out _).mono ?_); rintro e wF ⟨rfl, hbF⟩; obtain ⟨NF, hNF, hcF, hfF, hsF⟩ := bcell hbF; (try simp only [World.size_alloc, World.size_setCell, World.size_drew] at hNF)))
     go_ret
     refine ⟨rfl, hbW.trans (Below.mono (?_ : Below W8.heap.size W8 _) sw)⟩
     (repeat (first | (with_reducible exact Below.refl _ _) | (with_reducible refine Below.drew ?_) | (with_reducible refine below_drewN ?_ _) | (with_reducible refine Below.setCell ?_ (by first | (simp; done) | (simp; omega) | omega) _) | (with_reducible refine Below.alloc ?_ (by first | (simp; done) | (simp; omega) | omega) _) | (with_reducible refine Below.trans ?_ (Below.mono (by assumption) (by first | (simp; done) | (simp; omega) | omega))) | (with_reducible refine Below.trans ?_ (Below.mono (Later.below _) (by first | (simp; done) | (simp; omega) | omega))))))
end Go.Proofs.Ytcgcapfppceggaa.W
