/-
  The walk of the law JitterBounds: it returns true at every input.
  Conditions: none.
-/
import Derived.Test.YtbepnjlgneialaaJiK
namespace Go.Proofs.Ytbepnjlgneialaa.W
open Go Go.RowKit Go.Proofs.Ytbepnjlgneialaa.FxA Go.Proofs.Ytbepnjlgneialaa.Qt Go.Proofs.Ytbepnjlgneialaa.Ji
set_option linter.unusedVariables false
set_option linter.unusedSimpArgs false
set_option maxRecDepth 100000 in
set_option maxHeartbeats 2000000 in
theorem JitterBounds_walk (a0 : Option Addr) (len0 cap0 : Nat) (z0 : List Int) (w : World) (w0 : Fr.IsRow .i64 w a0 len0 cap0 z0) :
    Calls Try.prog 9 #[.slice a0 len0 cap0] w fun e w' => e = .returned (.bool true) ∧ Below w.heap.size w w' := by
  have hl := isL_of_row w0
  have cd := hl.dly
  generalize z0.take len0 = Z at *
  have hwf := dly_wf Z
  have hlen := dly_len Z
  generalize dly Z = D at *
  obtain ⟨n, hn⟩ : ∃ n, n = D.length := ⟨_, rfl⟩
  rw [← hn] at cd hlen
  have hn40 : n ≤ 40 := by omega
  have lv := lives_any
  have Hwf := Lib.hid hwf
  have Hcd := Lib.hid cd; have Hlv := Lib.hid lv; clear cd lv
  clear hl w0 hlen hwf
  go_enter Try.func9, Try.ntmps9
  go_upto_region 2 with (first | ((with_reducible refine (Hcd.out _ (by (repeat (first | (with_reducible exact Below.refl _ _) | (with_reducible refine Below.drew ?_) | (with_reducible refine below_drewN ?_ _) | (with_reducible refine Below.setCell ?_ (by first | (simp; done) | (simp; omega) | omega) _) | (with_reducible refine Below.alloc ?_ (by first | (simp; done) | (simp; omega) | omega) _) | (with_reducible refine Below.trans ?_ (Below.mono (by assumption) (by first | (simp; done) | (simp; omega) | omega))) | (with_reducible refine Below.trans ?_ (Below.mono (Later.below _) (by first | (simp; done) | (simp; omega) | omega))))))).mono ?_); rintro e WD ⟨v, rfl, hown, hbD⟩; (obtain ⟨ND, hND, hcD, hfD, hsD⟩ := bcell hbD; (try simp only [World.size_alloc, World.size_setCell, World.size_drew] at hND))))
  obtain ⟨hl2, a, cap, rfl, hp⟩ := isL_of_own hown Hwf.out
  clear hn
  have cf := hp.fill (by omega)
  have hsD' := hbD.size
  have ck := hp.keep (by omega)
  have hkb := kept_bd D
  have hkl := kept_len D
  generalize kept D = K at *
  obtain ⟨m, hm⟩ : ∃ m, m = K.length := ⟨_, rfl⟩
  have q9 := qnt_bd hkb 900
  have q10 := qnt_bd hkb 1000
  obtain ⟨q90, q91⟩ := q9
  obtain ⟨q100, q101⟩ := q10
  obtain ⟨x, hx⟩ : ∃ x, x = min 8 (qnt K 900) := ⟨_, rfl⟩
  obtain ⟨y, hy⟩ : ∃ y, y = min (qnt K 1000 + 1) 12 := ⟨_, rfl⟩
  have hx0 : 0 ≤ x := by omega
  have hx8 : x ≤ 8 := by omega
  have hy0 : 1 ≤ y := by omega
  have hy12 : y ≤ 12 := by omega
  have key : ∀ k, k < m → K.getD k 0 < 12 → K.getD k 0 < y := fun k hk h => by
    have := qnt_top _ (getD_mem (K := K) (k := k) (by omega))
    omega
  rw [← hm] at ck hkl
  have hm16 : m ≤ 16 := by omega
  have Hx := Lib.hid hx
  have Hy := Lib.hid hy
  have Hkb := Lib.hid hkb
  have Hkey := Lib.hid key
  have Hcf := Lib.hid cf; have Hck := Lib.hid ck; clear cf ck
  clear hp hown hcD hfD hkb hkl hx hy key hm q90 q91 q100 q101 Hcd
  go_wp2_with (first | ((with_reducible refine (Hcf.out _ (by (repeat (first | (with_reducible exact Below.refl _ _) | (with_reducible refine Below.drew ?_) | (with_reducible refine below_drewN ?_ _) | (with_reducible refine Below.setCell ?_ (by first | (simp; done) | (simp; omega) | omega) _) | (with_reducible refine Below.alloc ?_ (by first | (simp; done) | (simp; omega) | omega) _) | (with_reducible refine Below.trans ?_ (Below.mono (by assumption) (by first | (simp; done) | (simp; omega) | omega))) | (with_reducible refine Below.trans ?_ (Below.mono (Later.below _) (by first | (simp; done) | (simp; omega) | omega))))))).mono ?_); rintro e WE ⟨b, rfl, hE, hbE⟩; (obtain ⟨NE, hNE, hcE, hfE, hsE⟩ := bcell hbE; (try simp only [World.size_alloc, World.size_setCell, World.size_drew] at hNE)); have G1 := Lib.hid hE.i; have G2 := Lib.hid (hE.wi Hkb.out); rw [← Hx.out] at G1; rw [← Hy.out] at G2; clear hE) | ((with_reducible refine (Hck.out _ (by (repeat (first | (with_reducible exact Below.refl _ _) | (with_reducible refine Below.drew ?_) | (with_reducible refine below_drewN ?_ _) | (with_reducible refine Below.setCell ?_ (by first | (simp; done) | (simp; omega) | omega) _) | (with_reducible refine Below.alloc ?_ (by first | (simp; done) | (simp; omega) | omega) _) | (with_reducible refine Below.trans ?_ (Below.mono (by assumption) (by first | (simp; done) | (simp; omega) | omega))) | (with_reducible refine Below.trans ?_ (Below.mono (Later.below _) (by first | (simp; done) | (simp; omega) | omega))))))).mono ?_); rintro e WK ⟨a', cap', rfl, hk, hbK⟩; (obtain ⟨NK, hNK, hcK, hfK, hsK⟩ := bcell hbK; (try simp only [World.size_alloc, World.size_setCell, World.size_drew] at hNK))) | ((with_reducible refine (G1.out _ (by (repeat (first | (with_reducible exact Below.refl _ _) | (with_reducible refine Below.drew ?_) | (with_reducible refine below_drewN ?_ _) | (with_reducible refine Below.setCell ?_ (by first | (simp; done) | (simp; omega) | omega) _) | (with_reducible refine Below.alloc ?_ (by first | (simp; done) | (simp; omega) | omega) _) | (with_reducible refine Below.trans ?_ (Below.mono (by assumption) (by first | (simp; done) | (simp; omega) | omega))) | (with_reducible refine Below.trans ?_ (Below.mono (Later.below _) (by first | (simp; done) | (simp; omega) | omega))))))).mono ?_); rintro e wF ⟨rfl, hbF⟩; obtain ⟨NF, hNF, hcF, hfF, hsF⟩ := bcell hbF; (try simp only [World.size_alloc, World.size_setCell, World.size_drew] at hNF)) | ((with_reducible refine (G2.out _ (by (repeat (first | (with_reducible exact Below.refl _ _) | (with_reducible refine Below.drew ?_) | (with_reducible refine below_drewN ?_ _) | (with_reducible refine Below.setCell ?_ (by first | (simp; done) | (simp; omega) | omega) _) | (with_reducible refine Below.alloc ?_ (by first | (simp; done) | (simp; omega) | omega) _) | (with_reducible refine Below.trans ?_ (Below.mono (by assumption) (by first | (simp; done) | (simp; omega) | omega))) | (with_reducible refine Below.trans ?_ (Below.mono (Later.below _) (by first | (simp; done) | (simp; omega) | omega))))))).mono ?_); rintro e wG ⟨rfl, hbG⟩; obtain ⟨NG, hNG, hcG, hfG, hsG⟩ := bcell hbG; (try simp only [World.size_alloc, World.size_setCell, World.size_drew] at hNG)))
  have hEK : Below WE.heap.size WE WK := by (repeat (first | (with_reducible exact Below.refl _ _) | (with_reducible refine Below.drew ?_) | (with_reducible refine below_drewN ?_ _) | (with_reducible refine Below.setCell ?_ (by first | (simp; done) | (simp; omega) | omega) _) | (with_reducible refine Below.alloc ?_ (by first | (simp; done) | (simp; omega) | omega) _) | (with_reducible refine Below.trans ?_ (Below.mono (by assumption) (by first | (simp; done) | (simp; omega) | omega))) | (with_reducible refine Below.trans ?_ (Below.mono (Later.below _) (by first | (simp; done) | (simp; omega) | omega)))))
  have hEs := hEK.size
  have hbW : Below w.heap.size w WK := (hbD.trans (hbE.mono hsD')).trans (hEK.mono (by omega))
  have hww := hbW.size
  clear hbD hbE hbK
  go_loopw [6] (fun i wr => ∃ k : Nat, k ≤ m ∧ i = .int .i64 k ∧ Below WK.heap.size WK wr) (fun i _ => m - (intOf i).toNat)
  case atStart => exact ⟨0, Nat.zero_le _, rfl, Below.refl _ _⟩
  case round =>
    obtain ⟨k, hk', rfl, hB⟩ := hrel
    have hws := hB.size
    by_cases hlt : k < m
    · obtain ⟨b', o, rfl, hc, hw⟩ := (hk.later hB).cell hlt
      have hkey := Hkey.out k hlt
      generalize K.getD k 0 = z at *
      have hlI : (k : Int) < (m : Int) := by omega
      have hk0 : (0 : Int) ≤ (k : Int) := by omega
      have hcl := hk.2.1
      have HbW := Lib.hid hbW
      have lb := World.block_lt_of_cell? _ _ hc
      simp only at lb
      have Hk := Lib.hid hk
      clear hk hcK hfK hcE hfE hbW HbW
      go_wp2
      by_cases hz : z < 12
      · have hzy := hkey hz
        refine wp_region_later (by kernel_rfl) (by kernel_rfl) fun NL hL => ?_; obtain ⟨hNL, hlc, hlf⟩ := hL; (try simp only [World.size_alloc, World.size_setCell, World.size_drew] at hNL)
        repeat (go_big_quiet_step (first | (with_reducible exact later_call (G2.out _ (by (repeat (first | exact Below.refl _ _ | (with_reducible refine Below.drew ?_) | (with_reducible refine below_drewN ?_ _) | (with_reducible refine Below.setCell ?_ (by first | (simp; done) | (simp; omega) | omega) _) | (with_reducible refine Below.alloc ?_ (by first | (simp; done) | (simp; omega) | omega) _) | (with_reducible refine Below.trans ?_ (Below.mono (by assumption) (by first | (simp; done) | (simp; omega) | omega))) | (with_reducible refine Below.trans ?_ (Below.mono (Later.below _) (by first | (simp; done) | (simp; omega) | omega))))))))))
        (refine wpQuiet_nil ?_; intro w1 hw1; obtain ⟨⟨w1, hb1⟩, rfl⟩ := hw1; clear hlc hlf hNL NL; obtain ⟨N1, hN1, hc1, hf1, hs1⟩ := bcell hb1; (try simp only [World.size_alloc, World.size_setCell, World.size_drew] at hN1))
        go_wp2
        go_roundw
        case rel => exact ⟨k + 1, by omega, by go_num, hB.trans (hb1.mono hws)⟩
        case measure => simp [intOf]; omega
      · have hz' : 12 ≤ z := by omega
        refine wp_region_later (by kernel_rfl) (by kernel_rfl) fun NL hL => ?_; obtain ⟨hNL, hlc, hlf⟩ := hL; (try simp only [World.size_alloc, World.size_setCell, World.size_drew] at hNL)
        repeat (go_big_quiet_step (first | (with_reducible exact later_call (G2.out _ (by (repeat (first | exact Below.refl _ _ | (with_reducible refine Below.drew ?_) | (with_reducible refine below_drewN ?_ _) | (with_reducible refine Below.setCell ?_ (by first | (simp; done) | (simp; omega) | omega) _) | (with_reducible refine Below.alloc ?_ (by first | (simp; done) | (simp; omega) | omega) _) | (with_reducible refine Below.trans ?_ (Below.mono (by assumption) (by first | (simp; done) | (simp; omega) | omega))) | (with_reducible refine Below.trans ?_ (Below.mono (Later.below _) (by first | (simp; done) | (simp; omega) | omega))))))))))
        (refine wpQuiet_nil ?_; intro w1 hw1; obtain ⟨⟨w1, hb1⟩, rfl⟩ := hw1; clear hlc hlf hNL NL; obtain ⟨N1, hN1, hc1, hf1, hs1⟩ := bcell hb1; (try simp only [World.size_alloc, World.size_setCell, World.size_drew] at hN1))
        go_wp2
        go_roundw
        case rel => exact ⟨k + 1, by omega, by go_num, hB.trans (hb1.mono hws)⟩
        case measure => simp [intOf]; omega
    · obtain rfl : k = m := by omega
      go_wp2_with (first | ((with_reducible refine (Hlv.out _).mono ?_); rintro e wI ⟨rfl, hbI⟩; obtain ⟨NI, hNI, hcI, hfI, hsI⟩ := bcell hbI; (try simp only [World.size_alloc, World.size_setCell, World.size_drew] at hNI)))
      go_ret
      exact ⟨rfl, (hbW.trans (hB.mono hww)).trans (Below.mono (by (repeat (first | (with_reducible exact Below.refl _ _) | (with_reducible refine Below.drew ?_) | (with_reducible refine below_drewN ?_ _) | (with_reducible refine Below.setCell ?_ (by first | (simp; done) | (simp; omega) | omega) _) | (with_reducible refine Below.alloc ?_ (by first | (simp; done) | (simp; omega) | omega) _) | (with_reducible refine Below.trans ?_ (Below.mono (by assumption) (by first | (simp; done) | (simp; omega) | omega))) | (with_reducible refine Below.trans ?_ (Below.mono (Later.below _) (by first | (simp; done) | (simp; omega) | omega)))))) (by omega))⟩
end Go.Proofs.Ytbepnjlgneialaa.W
