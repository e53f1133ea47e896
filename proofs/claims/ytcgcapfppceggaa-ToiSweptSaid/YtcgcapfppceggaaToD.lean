/-
  The law package's swept: the bounding box of a body over all sub-steps.
  Conditions: stated in the contract.
-/
import Derived.Test.YtcgcapfppceggaaToB
import Derived.Test.YtcgcapfppceggaaToX
namespace Go.Proofs.Ytcgcapfppceggaa.To
open Go.RowKit Go.Proofs.Ytcgcapfppceggaa.FxMath Go.Proofs.Ytcgcapfppceggaa.FxA Go.Proofs.Ytcgcapfppceggaa.Qt Go.Proofs.Ytcgcapfppceggaa.Ve Go.Proofs.Ytcgcapfppceggaa.Sh Go.Proofs.Ytcgcapfppceggaa.Co Go.Shelf
set_option linter.unusedVariables false
set_option linter.unusedSimpArgs false
attribute [local go_sem] Oper.semAt_some
section
variable {w : World} {ra : Int} {aa : Option Addr} {la ca : Nat} {za : List (Int × Int)} {px py ux uy : Int}
set_option maxRecDepth 100000 in
set_option maxHeartbeats 4000000 in
theorem swept_s (hA : ShAt w ra aa la ca za) (hp : -2000000 ≤ px ∧ px ≤ 2000000 ∧ -2000000 ≤ py ∧ py ≤ 2000000) (hu : -100000 ≤ ux ∧ ux ≤ 100000 ∧ -100000 ≤ uy ∧ uy ≤ 100000) (W : World) (hW : Below w.heap.size w W) :
    Calls Try.prog 43 #[.agg #[.int .i64 ra, .slice aa la ca, .int .i64 px, .int .i64 py, .int .i64 ux, .int .i64 uy]] W fun e w' =>
      e = .returned (.agg #[.int .i64 (sx0 ra za px ux 8), .int .i64 (sy0 ra za py uy 8), .int .i64 (sx1 ra za px ux 8), .int .i64 (sy1 ra za py uy 8)]) ∧ Below W.heap.size W w' := by
  have gA := hA.later hW
  obtain ⟨p1, p2, p3, p4⟩ := hp
  obtain ⟨u1, u2, u3, u4⟩ := hu
  have hla := hA.poly.len
  have cb0 := bounds_s gA px py (by omega) (by omega)
  rw [show bx0 ra la za px = sx0 ra za px ux 0 by unfold sx0 mnTo; rw [hla, Int.natCast_zero, at8_zero], show by0 ra la za py = sy0 ra za py uy 0 by unfold sy0 mnTo; rw [hla, Int.natCast_zero, at8_zero], show bx1 ra la za px = sx1 ra za px ux 0 by unfold sx1 mxTo; rw [hla, Int.natCast_zero, at8_zero], show by1 ra la za py = sy1 ra za py uy 0 by unfold sy1 mxTo; rw [hla, Int.natCast_zero, at8_zero]] at cb0
  have Hcb0 := Lib.hid cb0; clear cb0
  clear hA hW
  have hal := alloc_if; have hfal := allocF_if
  go_enter Try.func43, Try.ntmps43
  go_upto_region 2 with (((with_reducible refine (Hcb0.out _ (by (repeat (first | (with_reducible exact Below.refl _ _) | (with_reducible refine Below.drew ?_) | (with_reducible refine below_drewN ?_ _) | (with_reducible refine Below.setCell ?_ (by first | (simp; done) | (simp; omega) | omega) _) | (with_reducible refine Below.alloc ?_ (by first | (simp; done) | (simp; omega) | omega) _) | (with_reducible refine Below.trans ?_ (Below.mono (by assumption) (by first | (simp; done) | (simp; omega) | omega))) | (with_reducible refine Below.trans ?_ (Below.mono (Later.below _) (by first | (simp; done) | (simp; omega) | omega))))))).mono ?_); rintro e wB ⟨rfl, hbB⟩; obtain ⟨NB, hNB, hcB, hfB, hsB⟩ := bcell hbB; (try simp only [World.size_alloc, World.size_setCell, World.size_drew] at hNB)))
  refine name_world3 fun W1 hW1 => ?_
  have st0 : Below W.heap.size W W1 := by rw [hW1]; (repeat (first | (with_reducible exact Below.refl _ _) | (with_reducible refine Below.drew ?_) | (with_reducible refine below_drewN ?_ _) | (with_reducible refine Below.setCell ?_ (by first | (simp; done) | (simp; omega) | omega) _) | (with_reducible refine Below.alloc ?_ (by first | (simp; done) | (simp; omega) | omega) _) | (with_reducible refine Below.trans ?_ (Below.mono (by assumption) (by first | (simp; done) | (simp; omega) | omega))) | (with_reducible refine Below.trans ?_ (Below.mono (Later.below _) (by first | (simp; done) | (simp; omega) | omega)))))
  have x0 : W1.cell? ⟨W.heap.size, 0, none⟩ = some (.int .i64 ra) := by rw [hW1]; simp [hcB, hal, ↓IntWalk.iteOmega]
  have x1 : W1.cell? ⟨W.heap.size, 1, none⟩ = some (.slice aa la ca) := by rw [hW1]; simp [hcB, hal, ↓IntWalk.iteOmega]
  have x2 : W1.cell? ⟨W.heap.size, 2, none⟩ = some (.int .i64 px) := by rw [hW1]; simp [hcB, hal, ↓IntWalk.iteOmega]
  have x3 : W1.cell? ⟨W.heap.size, 3, none⟩ = some (.int .i64 py) := by rw [hW1]; simp [hcB, hal, ↓IntWalk.iteOmega]
  have x4 : W1.cell? ⟨W.heap.size, 4, none⟩ = some (.int .i64 ux) := by rw [hW1]; simp [hcB, hal, ↓IntWalk.iteOmega]
  have x5 : W1.cell? ⟨W.heap.size, 5, none⟩ = some (.int .i64 uy) := by rw [hW1]; simp [hcB, hal, ↓IntWalk.iteOmega]
  have z : ∀ i, i < 4 → ∃ v, W1.cell? ⟨W.heap.size + 1, i, none⟩ = some v := fun i hi => by
    rw [hW1]
    obtain rfl | rfl | rfl | rfl : i = 0 ∨ i = 1 ∨ i = 2 ∨ i = 3 := by omega
    all_goals exact ⟨_, by simp [hcB, hal, ↓IntWalk.iteOmega]; rfl⟩
  have zf : ∀ i, W1.frozen? ⟨W.heap.size + 1, i, none⟩ = false := fun i => by rw [hW1]; simp [hfB, hfal, ↓IntWalk.iteOmega]
  have o0 : W1.cell? ⟨wB.heap.size, 0, none⟩ = some (.int .i64 (sx0 ra za px ux 0)) := by rw [hW1]; simp [hal, ↓IntWalk.iteOmega]
  have o1 : W1.cell? ⟨wB.heap.size, 1, none⟩ = some (.int .i64 (sy0 ra za py uy 0)) := by rw [hW1]; simp [hal, ↓IntWalk.iteOmega]
  have o2 : W1.cell? ⟨wB.heap.size, 2, none⟩ = some (.int .i64 (sx1 ra za px ux 0)) := by rw [hW1]; simp [hal, ↓IntWalk.iteOmega]
  have o3 : W1.cell? ⟨wB.heap.size, 3, none⟩ = some (.int .i64 (sy1 ra za py uy 0)) := by rw [hW1]; simp [hal, ↓IntWalk.iteOmega]
  have fo : ∀ i, W1.frozen? ⟨wB.heap.size, i, none⟩ = false := fun i => by rw [hW1]; simp [hfal, ↓IntWalk.iteOmega]
  have hlo : W.heap.size + 1 < wB.heap.size := by have := hbB.size; simp at this; omega
  have lO : wB.heap.size < W1.heap.size := World.block_lt_of_cell? _ _ o0
  obtain ⟨bO, hbO⟩ : ∃ b, b = wB.heap.size := ⟨_, rfl⟩
  obtain ⟨bP, hbP⟩ : ∃ b, b = W.heap.size := ⟨_, rfl⟩
  rw [← hbO] at o0 o1 o2 o3 fo lO hlo ⊢
  have hA1 : ShAt W1 ra aa la ca za := gA.later st0
  rw [← hbP] at x0 x1 x2 x3 x4 x5 z zf hlo ⊢
  have hPl : W.heap.size ≤ bP ∧ bP ≤ W.heap.size := by omega
  have HbP := Lib.hid hbP
  have sz1 := st0.size
  have hApl : ∀ x, aa = some x → x.block < W.heap.size := fun x hx => by
    rcases gA.poly with ⟨h, _⟩ | ⟨b9, o9, h, _, _, _, h5⟩
    · rw [hx] at h; cases h
    · rcases gA.kind with ⟨h0, _, h1, _⟩ | ⟨_, h1, _⟩
      · rw [h1] at hx; cases hx
      · have := World.block_lt_of_cell? _ _ (h5 0 (by omega)).1
        rw [h] at hx; cases hx; exact this
  clear hW1 hbB hcB hfB hsB hNB NB hbO hbP Hcb0 hal hfal gA
  clear wB
  go_wp2
  go_loopw [4] (fun i wr => ∃ k : Nat, k ≤ 8 ∧ i = .int .i64 ((k : Int) + 1) ∧ Buts [bO] W1 wr ∧ wr.cell? ⟨bO, 0, none⟩ = some (.int .i64 (sx0 ra za px ux k)) ∧ wr.cell? ⟨bO, 1, none⟩ = some (.int .i64 (sy0 ra za py uy k)) ∧ wr.cell? ⟨bO, 2, none⟩ = some (.int .i64 (sx1 ra za px ux k)) ∧ wr.cell? ⟨bO, 3, none⟩ = some (.int .i64 (sy1 ra za py uy k)) ∧ ∀ i, wr.frozen? ⟨bO, i, none⟩ = false) (fun i _ => 9 - (intOf i).toNat)
  case atStart => exact ⟨0, by omega, rfl, Buts.refl _ _, o0, o1, o2, o3, fo⟩
  case round =>
    obtain ⟨k, hk, rfl, hBu, r0, r1, r2, r3, fr⟩ := hrel
    have hws := hBu.size
    have y0 := hBu.cell (by omega) (by simp; omega) x0
    have y1 := hBu.cell (by omega) (by simp; omega) x1
    have y2 := hBu.cell (by omega) (by simp; omega) x2
    have y3 := hBu.cell (by omega) (by simp; omega) x3
    have y4 := hBu.cell (by omega) (by simp; omega) x4
    have y5 := hBu.cell (by omega) (by simp; omega) x5
    have lPw : bP < wr.heap.size := by omega
    have lOw : bO < wr.heap.size := by omega
    clear o0 o1 o2 o3 fo x0 x1 x2 x3 x4 x5
    by_cases hlt : k < 8
    · obtain ⟨K, hK⟩ : ∃ K : Int, K = (k : Int) + 1 := ⟨_, rfl⟩
      have hKn : K = ((k + 1 : Nat) : Int) := by omega
      have a1 := (at8_bd (x := px) (u := ux) (k := K) (by omega) (by omega))
      have a2 := (at8_bd (x := py) (u := uy) (k := K) (by omega) (by omega))
      obtain ⟨a1, a3⟩ := a1
      obtain ⟨a2, a4⟩ := a2
      have cm := vMulDiv_any ux uy K 8 (by omega) (by omega) (by omega) (by omega)
      rw [fdv8, fdv8] at cm
      have cg := add_any px py (ux * K / 8) (uy * K / 8) (by omega) (by omega) (by omega) (by omega)
      rw [show px + ux * K / 8 = at8 px ux K from rfl, show py + uy * K / 8 = at8 py uy K from rfl] at cg
      have hAr : ShAt wr ra aa la ca za := hBu.shape hA1 (fun x hx => by
        have := hApl x hx
        simp; omega)
      have cb := bounds_s hAr (at8 px ux K) (at8 py uy K) (by omega) (by omega)
      have e0 : sx0 ra za px ux (k + 1) = min (sx0 ra za px ux k) (bx0 ra la za (at8 px ux K)) := by rw [hKn, ← hla]; rfl
      have e1 : sy0 ra za py uy (k + 1) = min (sy0 ra za py uy k) (by0 ra la za (at8 py uy K)) := by rw [hKn, ← hla]; rfl
      have e2 : sx1 ra za px ux (k + 1) = max (sx1 ra za px ux k) (bx1 ra la za (at8 px ux K)) := by rw [hKn, ← hla]; rfl
      have e3 : sy1 ra za py uy (k + 1) = max (sy1 ra za py uy k) (by1 ra la za (at8 py uy K)) := by rw [hKn, ← hla]; rfl
      generalize bx0 ra la za (at8 px ux K) = B0 at *
      generalize by0 ra la za (at8 py uy K) = B1 at *
      generalize bx1 ra la za (at8 px ux K) = B2 at *
      generalize by1 ra la za (at8 py uy K) = B3 at *
      generalize at8 px ux K = X at *
      generalize at8 py uy K = Y at *
      generalize ux * K / 8 = mx1 at *
      generalize uy * K / 8 = my1 at *
      rw [← hK]
      have hKb : 0 ≤ K ∧ K ≤ 8 := by omega
      obtain ⟨hK1, hK2⟩ := hKb
      have HE := Lib.hid (And.intro e0 (And.intro e1 (And.intro e2 e3)))
      generalize sx0 ra za px ux k = s0 at *
      generalize sy0 ra za py uy k = s1 at *
      generalize sx1 ra za px ux k = s2 at *
      generalize sy1 ra za py uy k = s3 at *
      have st : ∀ V, Below wr.heap.size wr V → V.cell? ⟨bP, 0, none⟩ = some (.int .i64 ra) ∧ V.cell? ⟨bP, 1, none⟩ = some (.slice aa la ca) ∧ V.cell? ⟨bP, 2, none⟩ = some (.int .i64 px) ∧ V.cell? ⟨bP, 3, none⟩ = some (.int .i64 py) ∧ V.cell? ⟨bP, 4, none⟩ = some (.int .i64 ux) ∧ V.cell? ⟨bP, 5, none⟩ = some (.int .i64 uy) := fun V hV => ⟨cell_below hV y0, cell_below hV y1, cell_below hV y2, cell_below hV y3, cell_below hV y4, cell_below hV y5⟩
      have Hst := Lib.hid st
      have HK := Lib.hid hK
      have Hcm := Lib.hid cm; have Hcg := Lib.hid cg; have Hcb := Lib.hid cb; clear cm cg cb
      clear st hK hKn e0 e1 e2 e3 hAr a1 a2 a3 a4 y0 y1 y2 y3 y4 y5
      have hal := alloc_if; have hfal := allocF_if
      go_upto_region 5 with (fail)
      go_cut [5] (fun s5 wx => (∃ b, s5 = .pointer (some ⟨b, 0, none⟩) ∧ wr.heap.size ≤ b ∧ wx.cell? ⟨b, 0, none⟩ = some (.int .i64 B0) ∧ wx.cell? ⟨b, 1, none⟩ = some (.int .i64 B1) ∧ wx.cell? ⟨b, 2, none⟩ = some (.int .i64 B2) ∧ wx.cell? ⟨b, 3, none⟩ = some (.int .i64 B3)) ∧ Below wr.heap.size wr wx)
      case first =>
        go_region_held3 (fun V => V.cell? ⟨bP, 0, none⟩ = some (.int .i64 ra) ∧ V.cell? ⟨bP, 1, none⟩ = some (.slice aa la ca) ∧ V.cell? ⟨bP, 2, none⟩ = some (.int .i64 px) ∧ V.cell? ⟨bP, 3, none⟩ = some (.int .i64 py) ∧ V.cell? ⟨bP, 4, none⟩ = some (.int .i64 ux) ∧ V.cell? ⟨bP, 5, none⟩ = some (.int .i64 uy)) (exact Hst.out _ (by (repeat (first | (with_reducible exact Below.refl _ _) | (with_reducible refine Below.drew ?_) | (with_reducible refine below_drewN ?_ _) | (with_reducible refine Below.setCell ?_ (by first | (simp; done) | (simp; omega) | omega) _) | (with_reducible refine Below.alloc ?_ (by first | (simp; done) | (simp; omega) | omega) _) | (with_reducible refine Below.trans ?_ (Below.mono (by assumption) (by first | (simp; done) | (simp; omega) | omega))) | (with_reducible refine Below.trans ?_ (Below.mono (Later.below _) (by first | (simp; done) | (simp; omega) | omega)))))))
          (first | ((with_reducible refine (Hcm.out _).mono ?_); rintro e wD ⟨rfl, hbD⟩; obtain ⟨ND, hND, hcD, hfD, hsD⟩ := bcell hbD; (try simp only [World.size_alloc, World.size_setCell, World.size_drew] at hND)) | ((with_reducible refine (Hcg.out _).mono ?_); rintro e wE ⟨rfl, hbE⟩; obtain ⟨NE, hNE, hcE, hfE, hsE⟩ := bcell hbE; (try simp only [World.size_alloc, World.size_setCell, World.size_drew] at hNE)) | ((with_reducible refine (Hcb.out _ (by (repeat (first | (with_reducible exact Below.refl _ _) | (with_reducible refine Below.drew ?_) | (with_reducible refine below_drewN ?_ _) | (with_reducible refine Below.setCell ?_ (by first | (simp; done) | (simp; omega) | omega) _) | (with_reducible refine Below.alloc ?_ (by first | (simp; done) | (simp; omega) | omega) _) | (with_reducible refine Below.trans ?_ (Below.mono (by assumption) (by first | (simp; done) | (simp; omega) | omega))) | (with_reducible refine Below.trans ?_ (Below.mono (Later.below _) (by first | (simp; done) | (simp; omega) | omega))))))).mono ?_); rintro e wF ⟨rfl, hbF⟩; obtain ⟨NF, hNF, hcF, hfF, hsF⟩ := bcell hbF; (try simp only [World.size_alloc, World.size_setCell, World.size_drew] at hNF)))
        all_goals
          have hst := setCell_if
          go_wp2
          go_meet
          refine ⟨⟨_, rfl, ?_, ?_, ?_, ?_, ?_⟩, ?_⟩
          · have := hbD.size
            have := hbE.size
            have := hbF.size
            simp at *
            try omega
          · simp [hst, hcF, hcE, hcD, hal, ↓IntWalk.iteOmega]
          · simp [hst, hcF, hcE, hcD, hal, ↓IntWalk.iteOmega]
          · simp [hst, hcF, hcE, hcD, hal, ↓IntWalk.iteOmega]
          · simp [hst, hcF, hcE, hcD, hal, ↓IntWalk.iteOmega]
          · (repeat (first | (with_reducible exact Below.refl _ _) | (with_reducible refine Below.drew ?_) | (with_reducible refine below_drewN ?_ _) | (with_reducible refine Below.setCell ?_ (by first | (simp; done) | (simp; omega) | omega) _) | (with_reducible refine Below.alloc ?_ (by first | (simp; done) | (simp; omega) | omega) _) | (with_reducible refine Below.trans ?_ (Below.mono (by assumption) (by first | (simp; done) | (simp; omega) | omega))) | (with_reducible refine Below.trans ?_ (Below.mono (Later.below _) (by first | (simp; done) | (simp; omega) | omega)))))
      case rest =>
        obtain ⟨⟨b, rfl, hbw, b0, b1, b2, b3⟩, hbc⟩ := hcut
        have q0 := cell_below hbc r0
        have q1 := cell_below hbc r1
        have q2 := cell_below hbc r2
        have q3 := cell_below hbc r3
        have fq : ∀ i, wc.frozen? ⟨bO, i, none⟩ = false := fun i => (hbc.frozen (p := ⟨bO, i, none⟩) lOw).trans (fr i)
        have lbc : b < wc.heap.size := World.block_lt_of_cell? _ _ b0
        have sc := hbc.size
        have nbO : ¬ b = bO := by omega
        clear r0 r1 r2 r3 fr
        have hst := setCell_if
        go_wp2
        go_roundw
        case rel =>
          obtain ⟨e0, e1, e2, e3⟩ := HE.out
          refine ⟨k + 1, by omega, by rw [HK.out]; go_num, ?_, ?_, ?_, ?_, ?_, ?_⟩
          · exact ((((hBu.below hbc).set (C := bO) (by simp) _ _).set (C := bO) (by simp) _ _).set (C := bO) (by simp) _ _).set (C := bO) (by simp) _ _
          · rw [e0]; simp [hst, q0, q1, q2, q3]
          · rw [e1]; simp [hst, q0, q1, q2, q3]
          · rw [e2]; simp [hst, q0, q1, q2, q3]
          · rw [e3]; simp [hst, q0, q1, q2, q3]
          · intro i; simp [fq]
        case measure => have := HK.out; simp [intOf]; omega
    · obtain rfl : k = 8 := by omega
      obtain ⟨zv0, z0⟩ := z 0 (by omega)
      have z0 := hBu.cell (by omega) (by simp; omega) z0
      obtain ⟨zv1, z1⟩ := z 1 (by omega)
      have z1 := hBu.cell (by omega) (by simp; omega) z1
      obtain ⟨zv2, z2⟩ := z 2 (by omega)
      have z2 := hBu.cell (by omega) (by simp; omega) z2
      obtain ⟨zv3, z3⟩ := z 3 (by omega)
      have z3 := hBu.cell (by omega) (by simp; omega) z3
      have zf' : ∀ i, wr.frozen? ⟨bP + 1, i, none⟩ = false := fun i => (World.frozen?_of_block (a := ⟨bP + 1, i, none⟩) (hBu.block (bP + 1) (by omega) (by simp; omega))).trans (zf i)
      have hst := setCell_if
      have hBw : Below W.heap.size W wr := hBu.to st0 (by simp; omega) (by omega)
      clear z zf
      go_wp2
      refine bodyPost_ret (v := .agg #[.int .i64 (sx0 ra za px ux 8), .int .i64 (sy0 ra za py uy 8), .int .i64 (sx1 ra za px ux 8), .int .i64 (sy1 ra za py uy 8)]) (by simp [results, Try.results43, go_sem, hst, z0, z1, z2, z3]) rfl ⟨rfl, ?_⟩
      (repeat (first | (with_reducible exact Below.refl _ _) | (with_reducible refine Below.drew ?_) | (with_reducible refine below_drewN ?_ _) | (with_reducible refine Below.setCell ?_ (by first | (simp; done) | (simp; omega) | omega) _) | (with_reducible refine Below.alloc ?_ (by first | (simp; done) | (simp; omega) | omega) _) | (with_reducible refine Below.trans ?_ (Below.mono (by assumption) (by first | (simp; done) | (simp; omega) | omega))) | (with_reducible refine Below.trans ?_ (Below.mono (Later.below _) (by first | (simp; done) | (simp; omega) | omega)))))
end
end Go.Proofs.Ytcgcapfppceggaa.To
