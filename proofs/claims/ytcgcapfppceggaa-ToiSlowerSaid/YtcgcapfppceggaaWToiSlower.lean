/-
  The walk of the law ToiSlower: it returns true at every input.
  Conditions: none.
-/
import Derived.Test.YtcgcapfppceggaaToB
import Derived.Test.YtcgcapfppceggaaToX
import Derived.Test.YtcgcapfppceggaaQe
import Derived.Deep.Cut
import Derived.Deep.CutRange
import Derived.Deep.DeepCutAuto
import Derived.Deep.RegionHeld3
namespace Go.Proofs.Ytcgcapfppceggaa.W
open Go.RowKit Go.Proofs.Ytcgcapfppceggaa.FxMath Go.Proofs.Ytcgcapfppceggaa.FxA Go.Proofs.Ytcgcapfppceggaa.Qt Go.Proofs.Ytcgcapfppceggaa.Ve Go.Proofs.Ytcgcapfppceggaa.Sh Go.Proofs.Ytcgcapfppceggaa.Co Go.Proofs.Ytcgcapfppceggaa.Ji Go.Proofs.Ytcgcapfppceggaa.To
set_option linter.unusedVariables false
set_option linter.unusedSimpArgs false
set_option maxRecDepth 100000 in
set_option maxHeartbeats 4000000 in
theorem ToiSlower_walk (a0 : Option Addr) (len0 cap0 : Nat) (z0 : List Int) (w : World) (w0 : Fr.IsRow .i64 w a0 len0 cap0 z0) :
    Calls Try.prog 16 #[.slice a0 len0 cap0] w fun e w' => e = .returned (.bool true) ∧ Below w.heap.size w w' := by
  have cp := pair_any a0 len0 cap0 _ w (isL_of_row w0)
  have lv := lives06
  unfold PairP at cp
  have Hcp := Lib.hid cp; have Hlv := Lib.hid lv; clear cp lv
  have hal := alloc_if; have hfal := allocF_if
  go_enter Try.func16, Try.ntmps16
  go_upto_region 2 with (((with_reducible refine Hcp.out.mono ?_); rintro e WP ⟨ra, aa, la, ca, za, px, py, ux, uy, rb, ab, lb, cb, zb, qx, qy, vx', vy', rfl, hA, hB, ⟨p1, p2, p3, p4⟩, ⟨u1, u2, u3, u4⟩, ⟨q1, q2, q3, q4⟩, ⟨v1, v2, v3, v4⟩, hbP⟩; obtain ⟨NP, hNP, hcP, hfP, hsP⟩ := bcell hbP; (try simp only [World.size_alloc, World.size_setCell, World.size_drew] at hNP)))
  have szP := hbP.size
  refine name_world3 fun W8 hW8 => ?_
  have x0 : W8.cell? ⟨WP.heap.size, 0, none⟩ = some (.int .i64 ra) := by rw [hW8]; simp [hal, ↓IntWalk.iteOmega]
  have x1 : W8.cell? ⟨WP.heap.size, 1, none⟩ = some (.slice aa la ca) := by rw [hW8]; simp [hal, ↓IntWalk.iteOmega]
  have x2 : W8.cell? ⟨WP.heap.size, 2, none⟩ = some (.int .i64 px) := by rw [hW8]; simp [hal, ↓IntWalk.iteOmega]
  have x3 : W8.cell? ⟨WP.heap.size, 3, none⟩ = some (.int .i64 py) := by rw [hW8]; simp [hal, ↓IntWalk.iteOmega]
  have x4 : W8.cell? ⟨WP.heap.size, 4, none⟩ = some (.int .i64 ux) := by rw [hW8]; simp [hal, ↓IntWalk.iteOmega]
  have x5 : W8.cell? ⟨WP.heap.size, 5, none⟩ = some (.int .i64 uy) := by rw [hW8]; simp [hal, ↓IntWalk.iteOmega]
  have fx : ∀ i, W8.frozen? ⟨WP.heap.size, i, none⟩ = false := fun i => by rw [hW8]; simp [hfal, ↓IntWalk.iteOmega]
  have y0 : W8.cell? ⟨WP.heap.size + 1, 0, none⟩ = some (.int .i64 rb) := by rw [hW8]; simp [hal, ↓IntWalk.iteOmega]
  have y1 : W8.cell? ⟨WP.heap.size + 1, 1, none⟩ = some (.slice ab lb cb) := by rw [hW8]; simp [hal, ↓IntWalk.iteOmega]
  have y2 : W8.cell? ⟨WP.heap.size + 1, 2, none⟩ = some (.int .i64 qx) := by rw [hW8]; simp [hal, ↓IntWalk.iteOmega]
  have y3 : W8.cell? ⟨WP.heap.size + 1, 3, none⟩ = some (.int .i64 qy) := by rw [hW8]; simp [hal, ↓IntWalk.iteOmega]
  have y4 : W8.cell? ⟨WP.heap.size + 1, 4, none⟩ = some (.int .i64 vx') := by rw [hW8]; simp [hal, ↓IntWalk.iteOmega]
  have y5 : W8.cell? ⟨WP.heap.size + 1, 5, none⟩ = some (.int .i64 vy') := by rw [hW8]; simp [hal, ↓IntWalk.iteOmega]
  have fy : ∀ i, W8.frozen? ⟨WP.heap.size + 1, i, none⟩ = false := fun i => by rw [hW8]; simp [hfal, ↓IntWalk.iteOmega]
  have h8 : Below WP.heap.size WP W8 := by rw [hW8]; (repeat (first | (with_reducible exact Below.refl _ _) | (with_reducible refine Below.drew ?_) | (with_reducible refine below_drewN ?_ _) | (with_reducible refine Below.setCell ?_ (by first | (simp; done) | (simp; omega) | omega) _) | (with_reducible refine Below.alloc ?_ (by first | (simp; done) | (simp; omega) | omega) _) | (with_reducible refine Below.trans ?_ (Below.mono (by assumption) (by first | (simp; done) | (simp; omega) | omega))) | (with_reducible refine Below.trans ?_ (Below.mono (Later.below _) (by first | (simp; done) | (simp; omega) | omega)))))
  have s8 : WP.heap.size + 1 < W8.heap.size := World.block_lt_of_cell? _ _ y0
  obtain ⟨b, hb⟩ : ∃ b, b = WP.heap.size := ⟨_, rfl⟩
  rw [← hb] at x0 x1 x2 x3 x4 x5 y0 y1 y2 y3 y4 y5 fx fy s8 ⊢
  have hbl : WP.heap.size ≤ b := by omega
  clear hb hW8 hcP hfP hsP hNP NP Hcp hal hfal
  obtain ⟨m, hm⟩ : ∃ m, m = ux.tdiv 16 := ⟨_, rfl⟩
  obtain ⟨n, hn⟩ : ∃ n, n = uy.tdiv 16 := ⟨_, rfl⟩
  have bm : -1024 ≤ m ∧ m ≤ 1024 := by rw [hm]; exact tdiv16_bd ux (by omega)
  have bn : -1024 ≤ n ∧ n ≤ 1024 := by rw [hn]; exact tdiv16_bd uy (by omega)
  have hbd1 : TBd px py (m * 16) (n * 16) qx qy 0 0 := ⟨by omega, by omega, by omega, by omega⟩
  have hbd2 : TBd px py (m * 8) (n * 8) qx qy 0 0 := ⟨by omega, by omega, by omega, by omega⟩
  have ce1 := fun V (hV : Below WP.heap.size WP V) => earl_s hA hB hbd1 V hV
  have ce2 := fun V (hV : Below WP.heap.size WP V) => earl_s hA hB hbd2 V hV
  have ct0 := fun V (hV : Below WP.heap.size WP V) => touch_s hA hB hbd1 0 (by omega) V hV
  simp only [Int.natCast_zero] at ct0
  have hsl := slower_law ra za px py m n rb zb qx qy
  generalize tch ra za px py (m * 16) (n * 16) rb zb qx qy 0 0 0 = t0 at *
  generalize erl (tch ra za px py (m * 16) (n * 16) rb zb qx qy 0 0) = f at *
  generalize erl (tch ra za px py (m * 8) (n * 8) rb zb qx qy 0 0) = g at *
  have k1 : (m * 16).tdiv 2 = m * 8 := by rw [show m * 16 = m * 8 * 2 by omega]; exact Int.mul_tdiv_cancel _ (by decide)
  have k2 : (n * 16).tdiv 2 = n * 8 := by rw [show n * 16 = n * 8 * 2 by omega]; exact Int.mul_tdiv_cancel _ (by decide)
  have bM : -16384 ≤ m * 16 ∧ m * 16 ≤ 16384 := by omega
  have bN : -16384 ≤ n * 16 ∧ n * 16 ≤ 16384 := by omega
  have bM2 : -8192 ≤ m * 8 ∧ m * 8 ≤ 8192 := by omega
  have bN2 : -8192 ≤ n * 8 ∧ n * 8 ≤ 8192 := by omega
  have hm' := hm.symm
  have hn' := hn.symm
  clear hm hn hbd1 hbd2
  generalize hM : m * 16 = M at *
  generalize hN : n * 16 = N at *
  generalize m * 8 = M2 at *
  generalize n * 8 = N2 at *
  have Hsl := Lib.hid hsl
  have Hce1 := Lib.hid ce1; have Hce2 := Lib.hid ce2; have Hct0 := Lib.hid ct0; clear ce1 ce2 ct0
  clear hsl
  have hal := alloc_if; have hfal := allocF_if
  have hst := setCell_if
  cases t0
  · by_cases hf : f = 1024
    · subst hf
      go_wp2_with (first | ((with_reducible refine (Hce1.out _ (by (repeat (first | (with_reducible exact Below.refl _ _) | (with_reducible refine Below.drew ?_) | (with_reducible refine below_drewN ?_ _) | (with_reducible refine Below.setCell ?_ (by first | (simp; done) | (simp; omega) | omega) _) | (with_reducible refine Below.alloc ?_ (by first | (simp; done) | (simp; omega) | omega) _) | (with_reducible refine Below.trans ?_ (Below.mono (by assumption) (by first | (simp; done) | (simp; omega) | omega))) | (with_reducible refine Below.trans ?_ (Below.mono (Later.below _) (by first | (simp; done) | (simp; omega) | omega))))))).mono ?_); rintro e wE ⟨rfl, hbE⟩; obtain ⟨NE, hNE, hcE, hfE, hsE⟩ := bcell hbE; (try simp only [World.size_alloc, World.size_setCell, World.size_drew] at hNE)) | ((with_reducible refine (Hce2.out _ (by (repeat (first | (with_reducible exact Below.refl _ _) | (with_reducible refine Below.drew ?_) | (with_reducible refine below_drewN ?_ _) | (with_reducible refine Below.setCell ?_ (by first | (simp; done) | (simp; omega) | omega) _) | (with_reducible refine Below.alloc ?_ (by first | (simp; done) | (simp; omega) | omega) _) | (with_reducible refine Below.trans ?_ (Below.mono (by assumption) (by first | (simp; done) | (simp; omega) | omega))) | (with_reducible refine Below.trans ?_ (Below.mono (Later.below _) (by first | (simp; done) | (simp; omega) | omega))))))).mono ?_); rintro e wF ⟨rfl, hbF⟩; obtain ⟨NF, hNF, hcF, hfF, hsF⟩ := bcell hbF; (try simp only [World.size_alloc, World.size_setCell, World.size_drew] at hNF)) | ((with_reducible refine (Hct0.out _ (by (repeat (first | (with_reducible exact Below.refl _ _) | (with_reducible refine Below.drew ?_) | (with_reducible refine below_drewN ?_ _) | (with_reducible refine Below.setCell ?_ (by first | (simp; done) | (simp; omega) | omega) _) | (with_reducible refine Below.alloc ?_ (by first | (simp; done) | (simp; omega) | omega) _) | (with_reducible refine Below.trans ?_ (Below.mono (by assumption) (by first | (simp; done) | (simp; omega) | omega))) | (with_reducible refine Below.trans ?_ (Below.mono (Later.below _) (by first | (simp; done) | (simp; omega) | omega))))))).mono ?_); rintro e wT ⟨rfl, hbT⟩; obtain ⟨NT, hNT, hcT, hfT, hsT⟩ := bcell hbT; (try simp only [World.size_alloc, World.size_setCell, World.size_drew] at hNT)) | ((with_reducible refine (Hlv.out _).mono ?_); rintro e wJ ⟨rfl, hbJ⟩; obtain ⟨NJ, hNJ, hcJ, hfJ, hsJ⟩ := bcell hbJ; (try simp only [World.size_alloc, World.size_setCell, World.size_drew] at hNJ)))
      go_ret
      refine ⟨rfl, hbP.trans (Below.mono (?_ : Below WP.heap.size WP _) szP)⟩
      (repeat (first | (with_reducible exact Below.refl _ _) | (with_reducible refine Below.drew ?_) | (with_reducible refine below_drewN ?_ _) | (with_reducible refine Below.setCell ?_ (by first | (simp; done) | (simp; omega) | omega) _) | (with_reducible refine Below.alloc ?_ (by first | (simp; done) | (simp; omega) | omega) _) | (with_reducible refine Below.trans ?_ (Below.mono (by assumption) (by first | (simp; done) | (simp; omega) | omega))) | (with_reducible refine Below.trans ?_ (Below.mono (Later.below _) (by first | (simp; done) | (simp; omega) | omega)))))
    · obtain ⟨k, hk, hfk, hor⟩ := Hsl.out rfl hf
      have e2 : (f * 8).tdiv 1024 = (k : Int) := by rw [hfk, Int.tdiv_eq_ediv_of_nonneg (by omega)]; omega
      have hf' : (f == 1024) = false := beq_eq_false_iff_ne.2 hf
      have f1 : 0 ≤ f ∧ f ≤ 1024 := by omega
      rcases hor with ⟨hg, h8k⟩ | ⟨j, hj, hjk, hg⟩
      · subst hg
        have h9k : (8 : Int) < 2 * ((k : Int) + 1) := by omega
        clear hfk Hsl
        go_wp2_with (first | ((with_reducible refine (Hce1.out _ (by (repeat (first | (with_reducible exact Below.refl _ _) | (with_reducible refine Below.drew ?_) | (with_reducible refine below_drewN ?_ _) | (with_reducible refine Below.setCell ?_ (by first | (simp; done) | (simp; omega) | omega) _) | (with_reducible refine Below.alloc ?_ (by first | (simp; done) | (simp; omega) | omega) _) | (with_reducible refine Below.trans ?_ (Below.mono (by assumption) (by first | (simp; done) | (simp; omega) | omega))) | (with_reducible refine Below.trans ?_ (Below.mono (Later.below _) (by first | (simp; done) | (simp; omega) | omega))))))).mono ?_); rintro e wE ⟨rfl, hbE⟩; obtain ⟨NE, hNE, hcE, hfE, hsE⟩ := bcell hbE; (try simp only [World.size_alloc, World.size_setCell, World.size_drew] at hNE)) | ((with_reducible refine (Hce2.out _ (by (repeat (first | (with_reducible exact Below.refl _ _) | (with_reducible refine Below.drew ?_) | (with_reducible refine below_drewN ?_ _) | (with_reducible refine Below.setCell ?_ (by first | (simp; done) | (simp; omega) | omega) _) | (with_reducible refine Below.alloc ?_ (by first | (simp; done) | (simp; omega) | omega) _) | (with_reducible refine Below.trans ?_ (Below.mono (by assumption) (by first | (simp; done) | (simp; omega) | omega))) | (with_reducible refine Below.trans ?_ (Below.mono (Later.below _) (by first | (simp; done) | (simp; omega) | omega))))))).mono ?_); rintro e wF ⟨rfl, hbF⟩; obtain ⟨NF, hNF, hcF, hfF, hsF⟩ := bcell hbF; (try simp only [World.size_alloc, World.size_setCell, World.size_drew] at hNF)) | ((with_reducible refine (Hct0.out _ (by (repeat (first | (with_reducible exact Below.refl _ _) | (with_reducible refine Below.drew ?_) | (with_reducible refine below_drewN ?_ _) | (with_reducible refine Below.setCell ?_ (by first | (simp; done) | (simp; omega) | omega) _) | (with_reducible refine Below.alloc ?_ (by first | (simp; done) | (simp; omega) | omega) _) | (with_reducible refine Below.trans ?_ (Below.mono (by assumption) (by first | (simp; done) | (simp; omega) | omega))) | (with_reducible refine Below.trans ?_ (Below.mono (Later.below _) (by first | (simp; done) | (simp; omega) | omega))))))).mono ?_); rintro e wT ⟨rfl, hbT⟩; obtain ⟨NT, hNT, hcT, hfT, hsT⟩ := bcell hbT; (try simp only [World.size_alloc, World.size_setCell, World.size_drew] at hNT)) | ((with_reducible refine (Hlv.out _).mono ?_); rintro e wJ ⟨rfl, hbJ⟩; obtain ⟨NJ, hNJ, hcJ, hfJ, hsJ⟩ := bcell hbJ; (try simp only [World.size_alloc, World.size_setCell, World.size_drew] at hNJ)))
        go_ret
        refine ⟨rfl, hbP.trans (Below.mono (?_ : Below WP.heap.size WP _) szP)⟩
        (repeat (first | (with_reducible exact Below.refl _ _) | (with_reducible refine Below.drew ?_) | (with_reducible refine below_drewN ?_ _) | (with_reducible refine Below.setCell ?_ (by first | (simp; done) | (simp; omega) | omega) _) | (with_reducible refine Below.alloc ?_ (by first | (simp; done) | (simp; omega) | omega) _) | (with_reducible refine Below.trans ?_ (Below.mono (by assumption) (by first | (simp; done) | (simp; omega) | omega))) | (with_reducible refine Below.trans ?_ (Below.mono (Later.below _) (by first | (simp; done) | (simp; omega) | omega)))))
      · have e3 : (g * 8).tdiv 1024 = (j : Int) := by rw [hg, Int.tdiv_eq_ediv_of_nonneg (by omega)]; omega
        have hg' : (g == 1024) = false := beq_eq_false_iff_ne.2 (by omega)
        have g1 : 0 ≤ g ∧ g ≤ 1024 := by omega
        have h9k : (j : Int) + 1 ≤ 2 * ((k : Int) + 1) := by omega
        clear hfk hg Hsl
        go_wp2_with (first | ((with_reducible refine (Hce1.out _ (by (repeat (first | (with_reducible exact Below.refl _ _) | (with_reducible refine Below.drew ?_) | (with_reducible refine below_drewN ?_ _) | (with_reducible refine Below.setCell ?_ (by first | (simp; done) | (simp; omega) | omega) _) | (with_reducible refine Below.alloc ?_ (by first | (simp; done) | (simp; omega) | omega) _) | (with_reducible refine Below.trans ?_ (Below.mono (by assumption) (by first | (simp; done) | (simp; omega) | omega))) | (with_reducible refine Below.trans ?_ (Below.mono (Later.below _) (by first | (simp; done) | (simp; omega) | omega))))))).mono ?_); rintro e wE ⟨rfl, hbE⟩; obtain ⟨NE, hNE, hcE, hfE, hsE⟩ := bcell hbE; (try simp only [World.size_alloc, World.size_setCell, World.size_drew] at hNE)) | ((with_reducible refine (Hce2.out _ (by (repeat (first | (with_reducible exact Below.refl _ _) | (with_reducible refine Below.drew ?_) | (with_reducible refine below_drewN ?_ _) | (with_reducible refine Below.setCell ?_ (by first | (simp; done) | (simp; omega) | omega) _) | (with_reducible refine Below.alloc ?_ (by first | (simp; done) | (simp; omega) | omega) _) | (with_reducible refine Below.trans ?_ (Below.mono (by assumption) (by first | (simp; done) | (simp; omega) | omega))) | (with_reducible refine Below.trans ?_ (Below.mono (Later.below _) (by first | (simp; done) | (simp; omega) | omega))))))).mono ?_); rintro e wF ⟨rfl, hbF⟩; obtain ⟨NF, hNF, hcF, hfF, hsF⟩ := bcell hbF; (try simp only [World.size_alloc, World.size_setCell, World.size_drew] at hNF)) | ((with_reducible refine (Hct0.out _ (by (repeat (first | (with_reducible exact Below.refl _ _) | (with_reducible refine Below.drew ?_) | (with_reducible refine below_drewN ?_ _) | (with_reducible refine Below.setCell ?_ (by first | (simp; done) | (simp; omega) | omega) _) | (with_reducible refine Below.alloc ?_ (by first | (simp; done) | (simp; omega) | omega) _) | (with_reducible refine Below.trans ?_ (Below.mono (by assumption) (by first | (simp; done) | (simp; omega) | omega))) | (with_reducible refine Below.trans ?_ (Below.mono (Later.below _) (by first | (simp; done) | (simp; omega) | omega))))))).mono ?_); rintro e wT ⟨rfl, hbT⟩; obtain ⟨NT, hNT, hcT, hfT, hsT⟩ := bcell hbT; (try simp only [World.size_alloc, World.size_setCell, World.size_drew] at hNT)) | ((with_reducible refine (Hlv.out _).mono ?_); rintro e wJ ⟨rfl, hbJ⟩; obtain ⟨NJ, hNJ, hcJ, hfJ, hsJ⟩ := bcell hbJ; (try simp only [World.size_alloc, World.size_setCell, World.size_drew] at hNJ)))
        go_ret
        refine ⟨rfl, hbP.trans (Below.mono (?_ : Below WP.heap.size WP _) szP)⟩
        (repeat (first | (with_reducible exact Below.refl _ _) | (with_reducible refine Below.drew ?_) | (with_reducible refine below_drewN ?_ _) | (with_reducible refine Below.setCell ?_ (by first | (simp; done) | (simp; omega) | omega) _) | (with_reducible refine Below.alloc ?_ (by first | (simp; done) | (simp; omega) | omega) _) | (with_reducible refine Below.trans ?_ (Below.mono (by assumption) (by first | (simp; done) | (simp; omega) | omega))) | (with_reducible refine Below.trans ?_ (Below.mono (Later.below _) (by first | (simp; done) | (simp; omega) | omega)))))
  · go_wp2_with (first | ((with_reducible refine (Hce1.out _ (by (repeat (first | (with_reducible exact Below.refl _ _) | (with_reducible refine Below.drew ?_) | (with_reducible refine below_drewN ?_ _) | (with_reducible refine Below.setCell ?_ (by first | (simp; done) | (simp; omega) | omega) _) | (with_reducible refine Below.alloc ?_ (by first | (simp; done) | (simp; omega) | omega) _) | (with_reducible refine Below.trans ?_ (Below.mono (by assumption) (by first | (simp; done) | (simp; omega) | omega))) | (with_reducible refine Below.trans ?_ (Below.mono (Later.below _) (by first | (simp; done) | (simp; omega) | omega))))))).mono ?_); rintro e wE ⟨rfl, hbE⟩; obtain ⟨NE, hNE, hcE, hfE, hsE⟩ := bcell hbE; (try simp only [World.size_alloc, World.size_setCell, World.size_drew] at hNE)) | ((with_reducible refine (Hce2.out _ (by (repeat (first | (with_reducible exact Below.refl _ _) | (with_reducible refine Below.drew ?_) | (with_reducible refine below_drewN ?_ _) | (with_reducible refine Below.setCell ?_ (by first | (simp; done) | (simp; omega) | omega) _) | (with_reducible refine Below.alloc ?_ (by first | (simp; done) | (simp; omega) | omega) _) | (with_reducible refine Below.trans ?_ (Below.mono (by assumption) (by first | (simp; done) | (simp; omega) | omega))) | (with_reducible refine Below.trans ?_ (Below.mono (Later.below _) (by first | (simp; done) | (simp; omega) | omega))))))).mono ?_); rintro e wF ⟨rfl, hbF⟩; obtain ⟨NF, hNF, hcF, hfF, hsF⟩ := bcell hbF; (try simp only [World.size_alloc, World.size_setCell, World.size_drew] at hNF)) | ((with_reducible refine (Hct0.out _ (by (repeat (first | (with_reducible exact Below.refl _ _) | (with_reducible refine Below.drew ?_) | (with_reducible refine below_drewN ?_ _) | (with_reducible refine Below.setCell ?_ (by first | (simp; done) | (simp; omega) | omega) _) | (with_reducible refine Below.alloc ?_ (by first | (simp; done) | (simp; omega) | omega) _) | (with_reducible refine Below.trans ?_ (Below.mono (by assumption) (by first | (simp; done) | (simp; omega) | omega))) | (with_reducible refine Below.trans ?_ (Below.mono (Later.below _) (by first | (simp; done) | (simp; omega) | omega))))))).mono ?_); rintro e wT ⟨rfl, hbT⟩; obtain ⟨NT, hNT, hcT, hfT, hsT⟩ := bcell hbT; (try simp only [World.size_alloc, World.size_setCell, World.size_drew] at hNT)) | ((with_reducible refine (Hlv.out _).mono ?_); rintro e wJ ⟨rfl, hbJ⟩; obtain ⟨NJ, hNJ, hcJ, hfJ, hsJ⟩ := bcell hbJ; (try simp only [World.size_alloc, World.size_setCell, World.size_drew] at hNJ)))
    go_ret
    refine ⟨rfl, hbP.trans (Below.mono (?_ : Below WP.heap.size WP _) szP)⟩
    (repeat (first | (with_reducible exact Below.refl _ _) | (with_reducible refine Below.drew ?_) | (with_reducible refine below_drewN ?_ _) | (with_reducible refine Below.setCell ?_ (by first | (simp; done) | (simp; omega) | omega) _) | (with_reducible refine Below.alloc ?_ (by first | (simp; done) | (simp; omega) | omega) _) | (with_reducible refine Below.trans ?_ (Below.mono (by assumption) (by first | (simp; done) | (simp; omega) | omega))) | (with_reducible refine Below.trans ?_ (Below.mono (Later.below _) (by first | (simp; done) | (simp; omega) | omega)))))
end Go.Proofs.Ytcgcapfppceggaa.W
