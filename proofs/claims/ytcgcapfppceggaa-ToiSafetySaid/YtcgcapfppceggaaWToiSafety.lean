/-
  The walk of the law ToiSafety: it returns true at every input.
  Conditions: none.
-/
import Derived.Test.YtcgcapfppceggaaToB
import Derived.Test.YtcgcapfppceggaaToX
import Derived.Test.YtcgcapfppceggaaQe
import Derived.Deep.Cut
import Derived.Deep.CutRange
import Derived.Deep.DeepCutAuto
import Derived.Deep.RegionHeld3
namespace Go.Proofs.Ytcgcapfppceggaa.W
open Go.RowKit Go.Proofs.Ytcgcapfppceggaa.FxMath Go.Proofs.Ytcgcapfppceggaa.FxA Go.Proofs.Ytcgcapfppceggaa.Qt Go.Proofs.Ytcgcapfppceggaa.Ve Go.Proofs.Ytcgcapfppceggaa.Sh Go.Proofs.Ytcgcapfppceggaa.Co Go.Proofs.Ytcgcapfppceggaa.Ji Go.Proofs.Ytcgcapfppceggaa.To
set_option linter.unusedVariables false
set_option linter.unusedSimpArgs false
set_option maxRecDepth 100000 in
set_option maxHeartbeats 4000000 in
theorem ToiSafety_walk (a0 : Option Addr) (len0 cap0 : Nat) (z0 : List Int) (w : World) (w0 : Fr.IsRow .i64 w a0 len0 cap0 z0) :
    Calls Try.prog 11 #[.slice a0 len0 cap0] w fun e w' => e = .returned (.bool true) ∧ Below w.heap.size w w' := by
  have cp := pair_any a0 len0 cap0 _ w (isL_of_row w0)
  have lv := lives06
  unfold PairP at cp
  have Hcp := Lib.hid cp; have Hlv := Lib.hid lv; clear cp lv
  have hal := alloc_if; have hfal := allocF_if
  go_enter Try.func11, Try.ntmps11
  go_upto_region 2 with (((with_reducible refine Hcp.out.mono ?_); rintro e WP ⟨ra, aa, la, ca, za, px, py, ux, uy, rb, ab, lb, cb, zb, qx, qy, vx', vy', rfl, hA, hB, ⟨p1, p2, p3, p4⟩, ⟨u1, u2, u3, u4⟩, ⟨q1, q2, q3, q4⟩, ⟨v1, v2, v3, v4⟩, hbP⟩; obtain ⟨NP, hNP, hcP, hfP, hsP⟩ := bcell hbP; (try simp only [World.size_alloc, World.size_setCell, World.size_drew] at hNP)))
  have szP := hbP.size
  refine name_world3 fun W8 hW8 => ?_
  have x0 : W8.cell? ⟨WP.heap.size, 0, none⟩ = some (.int .i64 ra) := by rw [hW8]; simp [hal, ↓IntWalk.iteOmega]
  have x1 : W8.cell? ⟨WP.heap.size, 1, none⟩ = some (.slice aa la ca) := by rw [hW8]; simp [hal, ↓IntWalk.iteOmega]
  have x2 : W8.cell? ⟨WP.heap.size, 2, none⟩ = some (.int .i64 px) := by rw [hW8]; simp [hal, ↓IntWalk.iteOmega]
  have x3 : W8.cell? ⟨WP.heap.size, 3, none⟩ = some (.int .i64 py) := by rw [hW8]; simp [hal, ↓IntWalk.iteOmega]
  have x4 : W8.cell? ⟨WP.heap.size, 4, none⟩ = some (.int .i64 ux) := by rw [hW8]; simp [hal, ↓IntWalk.iteOmega]
  have x5 : W8.cell? ⟨WP.heap.size, 5, none⟩ = some (.int .i64 uy) := by rw [hW8]; simp [hal, ↓IntWalk.iteOmega]
  have fx : ∀ i, W8.frozen? ⟨WP.heap.size, i, none⟩ = false := fun i => by rw [hW8]; simp [hfal, ↓IntWalk.iteOmega]
  have y0 : W8.cell? ⟨WP.heap.size + 1, 0, none⟩ = some (.int .i64 rb) := by rw [hW8]; simp [hal, ↓IntWalk.iteOmega]
  have y1 : W8.cell? ⟨WP.heap.size + 1, 1, none⟩ = some (.slice ab lb cb) := by rw [hW8]; simp [hal, ↓IntWalk.iteOmega]
  have y2 : W8.cell? ⟨WP.heap.size + 1, 2, none⟩ = some (.int .i64 qx) := by rw [hW8]; simp [hal, ↓IntWalk.iteOmega]
  have y3 : W8.cell? ⟨WP.heap.size + 1, 3, none⟩ = some (.int .i64 qy) := by rw [hW8]; simp [hal, ↓IntWalk.iteOmega]
  have y4 : W8.cell? ⟨WP.heap.size + 1, 4, none⟩ = some (.int .i64 vx') := by rw [hW8]; simp [hal, ↓IntWalk.iteOmega]
  have y5 : W8.cell? ⟨WP.heap.size + 1, 5, none⟩ = some (.int .i64 vy') := by rw [hW8]; simp [hal, ↓IntWalk.iteOmega]
  have fy : ∀ i, W8.frozen? ⟨WP.heap.size + 1, i, none⟩ = false := fun i => by rw [hW8]; simp [hfal, ↓IntWalk.iteOmega]
  have h8 : Below WP.heap.size WP W8 := by rw [hW8]; (repeat (first | (with_reducible exact Below.refl _ _) | (with_reducible refine Below.drew ?_) | (with_reducible refine below_drewN ?_ _) | (with_reducible refine Below.setCell ?_ (by first | (simp; done) | (simp; omega) | omega) _) | (with_reducible refine Below.alloc ?_ (by first | (simp; done) | (simp; omega) | omega) _) | (with_reducible refine Below.trans ?_ (Below.mono (by assumption) (by first | (simp; done) | (simp; omega) | omega))) | (with_reducible refine Below.trans ?_ (Below.mono (Later.below _) (by first | (simp; done) | (simp; omega) | omega)))))
  have s8 : WP.heap.size + 1 < W8.heap.size := World.block_lt_of_cell? _ _ y0
  obtain ⟨b, hb⟩ : ∃ b, b = WP.heap.size := ⟨_, rfl⟩
  rw [← hb] at x0 x1 x2 x3 x4 x5 y0 y1 y2 y3 y4 y5 fx fy s8 ⊢
  have hbl : WP.heap.size ≤ b := by omega
  clear hb hW8 hcP hfP hsP hNP NP Hcp hal hfal
  have hbd : TBd px py ux uy qx qy vx' vy' := ⟨by omega, by omega, by omega, by omega⟩
  have ce := fun V (hV : Below WP.heap.size WP V) => earl_s hA hB hbd V hV
  have ct := fun (k : Nat) (hk : k ≤ 8) V (hV : Below WP.heap.size WP V) => touch_s hA hB hbd k hk V hV
  have ct0 := ct 0 (by omega)
  generalize tch ra za px py ux uy rb zb qx qy vx' vy' = t at *
  have hsl := safety_law t
  clear hA hB hbd
  simp only [Int.natCast_zero] at ct0
  rcases hsl with ⟨h0, he⟩ | ⟨h0, K, hK, he, hno, hhit⟩
  · rw [he] at ce
    rw [h0] at ct0
    have Hce := Lib.hid ce; have Hct := Lib.hid ct; have Hct0 := Lib.hid ct0; clear ce ct ct0
    have hal := alloc_if; have hfal := allocF_if
    go_wp2_with (first | ((with_reducible refine (Hce.out _ (by (repeat (first | (with_reducible exact Below.refl _ _) | (with_reducible refine Below.drew ?_) | (with_reducible refine below_drewN ?_ _) | (with_reducible refine Below.setCell ?_ (by first | (simp; done) | (simp; omega) | omega) _) | (with_reducible refine Below.alloc ?_ (by first | (simp; done) | (simp; omega) | omega) _) | (with_reducible refine Below.trans ?_ (Below.mono (by assumption) (by first | (simp; done) | (simp; omega) | omega))) | (with_reducible refine Below.trans ?_ (Below.mono (Later.below _) (by first | (simp; done) | (simp; omega) | omega))))))).mono ?_); rintro e wE ⟨rfl, hbE⟩; obtain ⟨NE, hNE, hcE, hfE, hsE⟩ := bcell hbE; (try simp only [World.size_alloc, World.size_setCell, World.size_drew] at hNE)) | ((with_reducible refine (Hct0.out _ (by (repeat (first | (with_reducible exact Below.refl _ _) | (with_reducible refine Below.drew ?_) | (with_reducible refine below_drewN ?_ _) | (with_reducible refine Below.setCell ?_ (by first | (simp; done) | (simp; omega) | omega) _) | (with_reducible refine Below.alloc ?_ (by first | (simp; done) | (simp; omega) | omega) _) | (with_reducible refine Below.trans ?_ (Below.mono (by assumption) (by first | (simp; done) | (simp; omega) | omega))) | (with_reducible refine Below.trans ?_ (Below.mono (Later.below _) (by first | (simp; done) | (simp; omega) | omega))))))).mono ?_); rintro e wT ⟨rfl, hbT⟩; obtain ⟨NT, hNT, hcT, hfT, hsT⟩ := bcell hbT; (try simp only [World.size_alloc, World.size_setCell, World.size_drew] at hNT)) | ((with_reducible refine (Hlv.out _).mono ?_); rintro e wJ ⟨rfl, hbJ⟩; obtain ⟨NJ, hNJ, hcJ, hfJ, hsJ⟩ := bcell hbJ; (try simp only [World.size_alloc, World.size_setCell, World.size_drew] at hNJ)))
    go_ret
    refine ⟨rfl, hbP.trans (Below.mono (?_ : Below WP.heap.size WP _) szP)⟩
    (repeat (first | (with_reducible exact Below.refl _ _) | (with_reducible refine Below.drew ?_) | (with_reducible refine below_drewN ?_ _) | (with_reducible refine Below.setCell ?_ (by first | (simp; done) | (simp; omega) | omega) _) | (with_reducible refine Below.alloc ?_ (by first | (simp; done) | (simp; omega) | omega) _) | (with_reducible refine Below.trans ?_ (Below.mono (by assumption) (by first | (simp; done) | (simp; omega) | omega))) | (with_reducible refine Below.trans ?_ (Below.mono (Later.below _) (by first | (simp; done) | (simp; omega) | omega)))))
  · rw [he] at ce
    rw [h0] at ct0
    have e1 : (128 * (K : Int)).tmod 128 = 0 := by rw [Int.tmod_eq_emod_of_nonneg (by omega)]; omega
    have e2 : (128 * (K : Int) * 8).tdiv 1024 = (K : Int) := by rw [Int.tdiv_eq_ediv_of_nonneg (by omega)]; omega
    obtain ⟨f, hf⟩ : ∃ f, f = 128 * (K : Int) := ⟨_, rfl⟩
    rw [← hf] at e1 e2 ce
    have f1 : 0 ≤ f := by omega
    have f2 : f ≤ 1024 := by omega
    have Hf := Lib.hid hf
    have Hno := Lib.hid hno
    have Hhit := Lib.hid hhit
    have Hce := Lib.hid ce; have Hct := Lib.hid ct; have Hct0 := Lib.hid ct0; clear ce ct ct0
    clear hf he h0 hno hhit
    have hal := alloc_if; have hfal := allocF_if
    go_upto_region 9 with (first | ((with_reducible refine (Hce.out _ (by (repeat (first | (with_reducible exact Below.refl _ _) | (with_reducible refine Below.drew ?_) | (with_reducible refine below_drewN ?_ _) | (with_reducible refine Below.setCell ?_ (by first | (simp; done) | (simp; omega) | omega) _) | (with_reducible refine Below.alloc ?_ (by first | (simp; done) | (simp; omega) | omega) _) | (with_reducible refine Below.trans ?_ (Below.mono (by assumption) (by first | (simp; done) | (simp; omega) | omega))) | (with_reducible refine Below.trans ?_ (Below.mono (Later.below _) (by first | (simp; done) | (simp; omega) | omega))))))).mono ?_); rintro e wE ⟨rfl, hbE⟩; obtain ⟨NE, hNE, hcE, hfE, hsE⟩ := bcell hbE; (try simp only [World.size_alloc, World.size_setCell, World.size_drew] at hNE)) | ((with_reducible refine (Hct0.out _ (by (repeat (first | (with_reducible exact Below.refl _ _) | (with_reducible refine Below.drew ?_) | (with_reducible refine below_drewN ?_ _) | (with_reducible refine Below.setCell ?_ (by first | (simp; done) | (simp; omega) | omega) _) | (with_reducible refine Below.alloc ?_ (by first | (simp; done) | (simp; omega) | omega) _) | (with_reducible refine Below.trans ?_ (Below.mono (by assumption) (by first | (simp; done) | (simp; omega) | omega))) | (with_reducible refine Below.trans ?_ (Below.mono (Later.below _) (by first | (simp; done) | (simp; omega) | omega))))))).mono ?_); rintro e wT ⟨rfl, hbT⟩; obtain ⟨NT, hNT, hcT, hfT, hsT⟩ := bcell hbT; (try simp only [World.size_alloc, World.size_setCell, World.size_drew] at hNT)))
    refine name_world3 fun W9 hW9 => ?_
    have h89 : Below W8.heap.size W8 W9 := by rw [hW9]; (repeat (first | (with_reducible exact Below.refl _ _) | (with_reducible refine Below.drew ?_) | (with_reducible refine below_drewN ?_ _) | (with_reducible refine Below.setCell ?_ (by first | (simp; done) | (simp; omega) | omega) _) | (with_reducible refine Below.alloc ?_ (by first | (simp; done) | (simp; omega) | omega) _) | (with_reducible refine Below.trans ?_ (Below.mono (by assumption) (by first | (simp; done) | (simp; omega) | omega))) | (with_reducible refine Below.trans ?_ (Below.mono (Later.below _) (by first | (simp; done) | (simp; omega) | omega)))))
    have h9 : Below WP.heap.size WP W9 := h8.trans (h89.mono h8.size)
    have x0 := cell_below h89 x0
    have x1 := cell_below h89 x1
    have x2 := cell_below h89 x2
    have x3 := cell_below h89 x3
    have x4 := cell_below h89 x4
    have x5 := cell_below h89 x5
    have y0 := cell_below h89 y0
    have y1 := cell_below h89 y1
    have y2 := cell_below h89 y2
    have y3 := cell_below h89 y3
    have y4 := cell_below h89 y4
    have y5 := cell_below h89 y5
    have s9 := h89.size
    have bz : b + 1 < W9.heap.size := by omega
    clear hW9 hbE hcE hfE hsE hNE hbT hcT hfT hsT hNT h89 Hce Hct0 h8 fx fy s8 hal hfal
    go_wp2
    go_loopw [7] (fun i wr => ∃ j : Nat, j ≤ K + 1 ∧ i = .int .i64 j ∧ Below W9.heap.size W9 wr) (fun i _ => K + 1 - (intOf i).toNat)
    case atStart => exact ⟨0, by omega, rfl, Below.refl _ _⟩
    case round =>
      obtain ⟨j, hj, rfl, hB⟩ := hrel
      have hsB := hB.size
      have hBP : Below WP.heap.size WP wr := h9.trans (hB.mono h9.size)
      have x0 := cell_below hB x0
      have x1 := cell_below hB x1
      have x2 := cell_below hB x2
      have x3 := cell_below hB x3
      have x4 := cell_below hB x4
      have x5 := cell_below hB x5
      have y0 := cell_below hB y0
      have y1 := cell_below hB y1
      have y2 := cell_below hB y2
      have y3 := cell_below hB y3
      have y4 := cell_below hB y4
      have y5 := cell_below hB y5
      have bz' : b + 1 < wr.heap.size := by omega
      have szW := hBP.size
      by_cases hlt : j ≤ K
      · have c := Hct.out j (by omega)
        rw [Hno.out j hlt] at c
        have hltI : (j : Int) ≤ (K : Int) := by omega
        have Hc := Lib.hid c; clear c
        have hal := alloc_if; have hfal := allocF_if
        go_wp2_with (((with_reducible refine (Hc.out _ hBP).mono ?_); rintro e wC ⟨rfl, hbC⟩; obtain ⟨NC, hNC, hcC, hfC, hsC⟩ := bcell hbC; (try simp only [World.size_alloc, World.size_setCell, World.size_drew] at hNC)))
        go_roundw
        case rel => exact ⟨j + 1, by omega, by go_num, hB.trans (Below.mono (by (repeat (first | (with_reducible exact Below.refl _ _) | (with_reducible refine Below.drew ?_) | (with_reducible refine below_drewN ?_ _) | (with_reducible refine Below.setCell ?_ (by first | (simp; done) | (simp; omega) | omega) _) | (with_reducible refine Below.alloc ?_ (by first | (simp; done) | (simp; omega) | omega) _) | (with_reducible refine Below.trans ?_ (Below.mono (by assumption) (by first | (simp; done) | (simp; omega) | omega))) | (with_reducible refine Below.trans ?_ (Below.mono (Later.below _) (by first | (simp; done) | (simp; omega) | omega))))) : Below wr.heap.size wr _) hsB)⟩
        case measure => simp [intOf]; omega
      · obtain rfl : j = K + 1 := by omega
        have hltI : ¬ (((K + 1 : Nat) : Int) ≤ (K : Int)) := by omega
        have hal := alloc_if; have hfal := allocF_if
        by_cases hK8 : K = 8
        · have hf8 : f = 1024 := by have := Hf.out; omega
          go_wp2_with (((with_reducible refine (Hlv.out _).mono ?_); rintro e wJ ⟨rfl, hbJ⟩; obtain ⟨NJ, hNJ, hcJ, hfJ, hsJ⟩ := bcell hbJ; (try simp only [World.size_alloc, World.size_setCell, World.size_drew] at hNJ)))
          go_ret
          exact ⟨rfl, hbP.trans (Below.mono (hBP.trans (Below.mono (by (repeat (first | (with_reducible exact Below.refl _ _) | (with_reducible refine Below.drew ?_) | (with_reducible refine below_drewN ?_ _) | (with_reducible refine Below.setCell ?_ (by first | (simp; done) | (simp; omega) | omega) _) | (with_reducible refine Below.alloc ?_ (by first | (simp; done) | (simp; omega) | omega) _) | (with_reducible refine Below.trans ?_ (Below.mono (by assumption) (by first | (simp; done) | (simp; omega) | omega))) | (with_reducible refine Below.trans ?_ (Below.mono (Later.below _) (by first | (simp; done) | (simp; omega) | omega))))) : Below wr.heap.size wr _) szW)) szP)⟩
        · have hf8 : (f == 1024) = false := beq_eq_false_iff_ne.2 (by have := Hf.out; omega)
          have c := Hct.out (K + 1) (by omega)
          rw [Hhit.out (by omega), show ((K + 1 : Nat) : Int) = (K : Int) + 1 from rfl] at c
          have Hc := Lib.hid c; clear c
          go_wp2_with (first | ((with_reducible refine (Hc.out _ hBP).mono ?_); rintro e wC ⟨rfl, hbC⟩; obtain ⟨NC, hNC, hcC, hfC, hsC⟩ := bcell hbC; (try simp only [World.size_alloc, World.size_setCell, World.size_drew] at hNC)) | ((with_reducible refine (Hlv.out _).mono ?_); rintro e wJ ⟨rfl, hbJ⟩; obtain ⟨NJ, hNJ, hcJ, hfJ, hsJ⟩ := bcell hbJ; (try simp only [World.size_alloc, World.size_setCell, World.size_drew] at hNJ)))
          go_ret
          exact ⟨rfl, hbP.trans (Below.mono (hBP.trans (Below.mono (by (repeat (first | (with_reducible exact Below.refl _ _) | (with_reducible refine Below.drew ?_) | (with_reducible refine below_drewN ?_ _) | (with_reducible refine Below.setCell ?_ (by first | (simp; done) | (simp; omega) | omega) _) | (with_reducible refine Below.alloc ?_ (by first | (simp; done) | (simp; omega) | omega) _) | (with_reducible refine Below.trans ?_ (Below.mono (by assumption) (by first | (simp; done) | (simp; omega) | omega))) | (with_reducible refine Below.trans ?_ (Below.mono (Later.below _) (by first | (simp; done) | (simp; omega) | omega))))) : Below wr.heap.size wr _) szW)) szP)⟩
end Go.Proofs.Ytcgcapfppceggaa.W
