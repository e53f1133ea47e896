/-
  The walk of the law JitterModel: it returns true at every input.
  Conditions: none.
-/
import Derived.Test.YtbepnjlgneialaaJiK
namespace Go.Proofs.Ytbepnjlgneialaa.W
open Go Go.RowKit Go.Proofs.Ytbepnjlgneialaa.FxA Go.Proofs.Ytbepnjlgneialaa.Qt Go.Proofs.Ytbepnjlgneialaa.Ji
set_option linter.unusedVariables false
set_option linter.unusedSimpArgs false
theorem isL_prefix {w : World} {a : Option Addr} {len cap : Nat} {zs : List Int} (h : IsL w a len cap zs) (k : Nat) (hk : k ≤ len) : IsL w a k cap (zs.take k) := by
  obtain ⟨h1, h2, h3, h4, h5⟩ := h
  refine ⟨by rw [List.length_take]; omega, by omega, h3, ?_, fun n hn => h5 n (List.mem_of_mem_take hn)⟩
  rcases h4 with h | ⟨b, o, ha, hc⟩
  · exact .inl (by omega)
  · refine .inr ⟨b, o, ha, fun i hi => ?_⟩
    rw [hc i (by omega)]
    simp [List.getD_eq_getElem?_getD, List.getElem?_take, hi]
set_option maxRecDepth 100000 in
set_option maxHeartbeats 4000000 in
theorem JitterModel_walk (a0 : Option Addr) (len0 cap0 : Nat) (z0 : List Int) (a1 : Int) (w : World) (w0 : Fr.IsRow .i64 w a0 len0 cap0 z0) (w1 : (Lit.int .i64 a1).wf = true) :
    Calls Try.prog 3 #[.slice a0 len0 cap0, .int .i64 a1] w fun e w' => e = .returned (.bool true) ∧ Below w.heap.size w w' := by
  have hl := isL_of_row w0
  have cd := hl.dly
  generalize z0.take len0 = Z at *
  have hwf := dly_wf Z
  have hlen := dly_len Z
  generalize dly Z = D at *
  obtain ⟨n, hn⟩ : ∃ n, n = D.length := ⟨_, rfl⟩
  rw [← hn] at cd hlen
  have hn40 : n ≤ 40 := by omega
  have i1 := i64_bd w1
  have ca := gives_same (fun w => around_any a1 1200 w i1.1 i1.2 (by omega) (by omega))
  have hb := aro_bd a1 1200 (by decide)
  obtain ⟨hb0, hb1⟩ := hb
  generalize aro a1 1200 = r at *
  have lv := lives_any
  have Hwf := Lib.hid hwf
  have Hcd := Lib.hid cd; have Hca := Lib.hid ca; have Hlv := Lib.hid lv; clear cd ca lv
  clear hl w0 hlen hwf i1
  go_enter Try.func3, Try.ntmps3
  go_upto_region 2 with (first | ((with_reducible refine (Hcd.out _ (by (repeat (first | (with_reducible exact Below.refl _ _) | (with_reducible refine Below.drew ?_) | (with_reducible refine below_drewN ?_ _) | (with_reducible refine Below.setCell ?_ (by first | (simp; done) | (simp; omega) | omega) _) | (with_reducible refine Below.alloc ?_ (by first | (simp; done) | (simp; omega) | omega) _) | (with_reducible refine Below.trans ?_ (Below.mono (by assumption) (by first | (simp; done) | (simp; omega) | omega))) | (with_reducible refine Below.trans ?_ (Below.mono (Later.below _) (by first | (simp; done) | (simp; omega) | omega))))))).mono ?_); rintro e WD ⟨v, rfl, hown, hbD⟩; (obtain ⟨ND, hND, hcD, hfD, hsD⟩ := bcell hbD; (try simp only [World.size_alloc, World.size_setCell, World.size_drew] at hND))))
  obtain ⟨hl2, a, cap, rfl, hp⟩ := isL_of_own hown Hwf.out
  clear hn
  have hcl := hp.2.1
  have hww := hbD.size
  clear Hcd hcD hfD
  go_wp2_with (first | (go_at_call 11; refine (new_any _).mono ?_; rintro e wN ⟨rfl, hE, hbN⟩; (obtain ⟨NN, hNN, hcN, hfN, hsN⟩ := bcell hbN; (try simp only [World.size_alloc, World.size_setCell, World.size_drew] at hNN)); have HE := Lib.hid hE; have G1 := Lib.hid (hE.q a1); have G2 := Lib.hid hE.i; have G3 := Lib.hid (hE.wi (by simp)); rw [show qnt [] a1 = 0 from rfl] at G1; rw [show qnt [] 900 = 0 from rfl, show min 8 0 = (0 : Int) from rfl] at G2; rw [show qnt [] 1000 = 0 from rfl, show min (0 + 1) 12 = (1 : Int) from rfl] at G3; clear hE) | ((with_reducible refine (G1.out _ (by (repeat (first | (with_reducible exact Below.refl _ _) | (with_reducible refine Below.drew ?_) | (with_reducible refine below_drewN ?_ _) | (with_reducible refine Below.setCell ?_ (by first | (simp; done) | (simp; omega) | omega) _) | (with_reducible refine Below.alloc ?_ (by first | (simp; done) | (simp; omega) | omega) _) | (with_reducible refine Below.trans ?_ (Below.mono (by assumption) (by first | (simp; done) | (simp; omega) | omega))) | (with_reducible refine Below.trans ?_ (Below.mono (Later.below _) (by first | (simp; done) | (simp; omega) | omega))))))).mono ?_); rintro e wA ⟨rfl, hbA⟩; obtain ⟨NA, hNA, hcA, hfA, hsA⟩ := bcell hbA; (try simp only [World.size_alloc, World.size_setCell, World.size_drew] at hNA)) | ((with_reducible refine (G2.out _ (by (repeat (first | (with_reducible exact Below.refl _ _) | (with_reducible refine Below.drew ?_) | (with_reducible refine below_drewN ?_ _) | (with_reducible refine Below.setCell ?_ (by first | (simp; done) | (simp; omega) | omega) _) | (with_reducible refine Below.alloc ?_ (by first | (simp; done) | (simp; omega) | omega) _) | (with_reducible refine Below.trans ?_ (Below.mono (by assumption) (by first | (simp; done) | (simp; omega) | omega))) | (with_reducible refine Below.trans ?_ (Below.mono (Later.below _) (by first | (simp; done) | (simp; omega) | omega))))))).mono ?_); rintro e wB ⟨rfl, hbB⟩; obtain ⟨NB, hNB, hcB, hfB, hsB⟩ := bcell hbB; (try simp only [World.size_alloc, World.size_setCell, World.size_drew] at hNB)) | ((with_reducible refine (G3.out _ (by (repeat (first | (with_reducible exact Below.refl _ _) | (with_reducible refine Below.drew ?_) | (with_reducible refine below_drewN ?_ _) | (with_reducible refine Below.setCell ?_ (by first | (simp; done) | (simp; omega) | omega) _) | (with_reducible refine Below.alloc ?_ (by first | (simp; done) | (simp; omega) | omega) _) | (with_reducible refine Below.trans ?_ (Below.mono (by assumption) (by first | (simp; done) | (simp; omega) | omega))) | (with_reducible refine Below.trans ?_ (Below.mono (Later.below _) (by first | (simp; done) | (simp; omega) | omega))))))).mono ?_); rintro e wC ⟨rfl, hbC⟩; obtain ⟨NC, hNC, hcC, hfC, hsC⟩ := bcell hbC; (try simp only [World.size_alloc, World.size_setCell, World.size_drew] at hNC)) | ((with_reducible refine (Hca.out _).mono ?_); rintro e wF ⟨rfl, hbF⟩; obtain ⟨NF, hNF, hcF, hfF, hsF⟩ := bcell hbF; (try simp only [World.size_alloc, World.size_setCell, World.size_drew] at hNF)))
  have hbW : Below wN.heap.size wN wF := by (repeat (first | (with_reducible exact Below.refl _ _) | (with_reducible refine Below.drew ?_) | (with_reducible refine below_drewN ?_ _) | (with_reducible refine Below.setCell ?_ (by first | (simp; done) | (simp; omega) | omega) _) | (with_reducible refine Below.alloc ?_ (by first | (simp; done) | (simp; omega) | omega) _) | (with_reducible refine Below.trans ?_ (Below.mono (by assumption) (by first | (simp; done) | (simp; omega) | omega))) | (with_reducible refine Below.trans ?_ (Below.mono (Later.below _) (by first | (simp; done) | (simp; omega) | omega)))))
  have hEF := HE.out.later hbW
  have hbDF : Below WD.heap.size WD wF := by (repeat (first | (with_reducible exact Below.refl _ _) | (with_reducible refine Below.drew ?_) | (with_reducible refine below_drewN ?_ _) | (with_reducible refine Below.setCell ?_ (by first | (simp; done) | (simp; omega) | omega) _) | (with_reducible refine Below.alloc ?_ (by first | (simp; done) | (simp; omega) | omega) _) | (with_reducible refine Below.trans ?_ (Below.mono (by assumption) (by first | (simp; done) | (simp; omega) | omega))) | (with_reducible refine Below.trans ?_ (Below.mono (Later.below _) (by first | (simp; done) | (simp; omega) | omega)))))
  clear hbA hbB hbC hbF hcA hcB hcC hcF hfA hfB hfC hfF G1 G2 G3 HE hbN hcN hfN hbW
  go_loopw [8] (fun i wr => ∃ k : Nat, k ≤ n ∧ i = .int .i64 k ∧ Est wr WD.heap.size (kept (D.take k)) ∧ Below WD.heap.size WD wr) (fun i _ => n - (intOf i).toNat)
  case atStart => exact ⟨0, Nat.zero_le _, rfl, hEF, hbDF⟩
  case round =>
    obtain ⟨k, hk, rfl, hE, hB⟩ := hrel
    have hws := hB.size
    by_cases hlt : k < n
    · have hpk := isL_prefix hp (k + 1) (by omega)
      obtain ⟨b', o, rfl, hc, hw⟩ := (hp.later hB).cell hlt
      have ca := add_est wr WD.heap.size _ hE (D.getD k 0) hw
      have ck := hpk.keep (by omega)
      have hkl := kept_len (D.take (k + 1))
      have hkb := kept_bd (D.take (k + 1))
      rw [show push (kept (D.take k)) (c60 (D.getD k 0)) = kept (D.take (k + 1)) by
        rw [List.take_succ_eq_append_getElem (by omega), kept_snoc, List.getD_eq_getElem?_getD, List.getElem?_eq_getElem (by omega)]
        rfl] at ca
      generalize D.getD k 0 = x at *
      obtain ⟨K, hK⟩ : ∃ K, K = kept (D.take (k + 1)) := ⟨_, rfl⟩
      rw [← hK] at ca ck hkl hkb
      obtain ⟨m, hm⟩ : ∃ m, m = K.length := ⟨_, rfl⟩
      rw [← hm] at ck hkl
      have hm1 : 1 ≤ m := by rw [hkl, List.length_take]; omega
      have hm16 : m ≤ 16 := by omega
      have q10 := qnt_bd hkb 1000
      obtain ⟨q100, q101⟩ := q10
      have hlI : (k : Int) < (n : Int) := by omega
      have hk0 : (0 : Int) ≤ (k : Int) := by omega
      have hkc : (k : Int) + 1 ≤ (cap : Int) := by omega
      have HK := Lib.hid hK
      have Hkb := Lib.hid hkb
      have Hp := Lib.hid hp
      have Hca := Lib.hid ca; have Hck := Lib.hid ck; clear ca ck
      clear hp hpk hE hK hkb hkl hm hown hEF
      go_wp2_with (first | (go_at_call 16; refine Hca.out.mono ?_; rintro e w2 ⟨rfl, hE2, hgA⟩; have hb2 : Below WD.heap.size WD w2 := hB.grown hgA hB.size (fun k e => by cases e; exact Nat.le_refl _); have HE2 := Lib.hid hE2; have G1 := Lib.hid (hE2.q a1); have G2 := Lib.hid (hE2.q (r - 100)); have G3 := Lib.hid hE2.i; have G4 := Lib.hid (hE2.wi Hkb.out); rw [Int.min_comm _ 12] at G4; have hs2 := hb2.size; clear hE2 hgA) | ((with_reducible refine (Hck.out _ (by (repeat (first | (with_reducible exact Below.refl _ _) | (with_reducible refine Below.drew ?_) | (with_reducible refine below_drewN ?_ _) | (with_reducible refine Below.setCell ?_ (by first | (simp; done) | (simp; omega) | omega) _) | (with_reducible refine Below.alloc ?_ (by first | (simp; done) | (simp; omega) | omega) _) | (with_reducible refine Below.trans ?_ (Below.mono (by assumption) (by first | (simp; done) | (simp; omega) | omega))) | (with_reducible refine Below.trans ?_ (Below.mono (Later.below _) (by first | (simp; done) | (simp; omega) | omega))))))).mono ?_); rintro e WK ⟨a', cap', rfl, hk, hbK⟩; (obtain ⟨NK, hNK, hcK, hfK, hsK⟩ := bcell hbK; (try simp only [World.size_alloc, World.size_setCell, World.size_drew] at hNK)); have F1 := Lib.hid (hk.rq (by omega) Hkb.out a1); have F2 := Lib.hid (hk.rq (by omega) Hkb.out (r - 100)); have F3 := Lib.hid (hk.rq (by omega) Hkb.out 900); have F4 := Lib.hid (hk.top (by omega) hm1 Hkb.out); clear hk) | ((with_reducible refine (G1.out _ (by (repeat (first | (with_reducible exact Below.refl _ _) | (with_reducible refine Below.drew ?_) | (with_reducible refine below_drewN ?_ _) | (with_reducible refine Below.setCell ?_ (by first | (simp; done) | (simp; omega) | omega) _) | (with_reducible refine Below.alloc ?_ (by first | (simp; done) | (simp; omega) | omega) _) | (with_reducible refine Below.trans ?_ (Below.mono (by assumption) (by first | (simp; done) | (simp; omega) | omega))) | (with_reducible refine Below.trans ?_ (Below.mono (Later.below _) (by first | (simp; done) | (simp; omega) | omega))))))).mono ?_); rintro e wA ⟨rfl, hbA⟩; obtain ⟨NA, hNA, hcA, hfA, hsA⟩ := bcell hbA; (try simp only [World.size_alloc, World.size_setCell, World.size_drew] at hNA)) | ((with_reducible refine (G2.out _ (by (repeat (first | (with_reducible exact Below.refl _ _) | (with_reducible refine Below.drew ?_) | (with_reducible refine below_drewN ?_ _) | (with_reducible refine Below.setCell ?_ (by first | (simp; done) | (simp; omega) | omega) _) | (with_reducible refine Below.alloc ?_ (by first | (simp; done) | (simp; omega) | omega) _) | (with_reducible refine Below.trans ?_ (Below.mono (by assumption) (by first | (simp; done) | (simp; omega) | omega))) | (with_reducible refine Below.trans ?_ (Below.mono (Later.below _) (by first | (simp; done) | (simp; omega) | omega))))))).mono ?_); rintro e wB ⟨rfl, hbB⟩; obtain ⟨NB, hNB, hcB, hfB, hsB⟩ := bcell hbB; (try simp only [World.size_alloc, World.size_setCell, World.size_drew] at hNB)) | ((with_reducible refine (G3.out _ (by (repeat (first | (with_reducible exact Below.refl _ _) | (with_reducible refine Below.drew ?_) | (with_reducible refine below_drewN ?_ _) | (with_reducible refine Below.setCell ?_ (by first | (simp; done) | (simp; omega) | omega) _) | (with_reducible refine Below.alloc ?_ (by first | (simp; done) | (simp; omega) | omega) _) | (with_reducible refine Below.trans ?_ (Below.mono (by assumption) (by first | (simp; done) | (simp; omega) | omega))) | (with_reducible refine Below.trans ?_ (Below.mono (Later.below _) (by first | (simp; done) | (simp; omega) | omega))))))).mono ?_); rintro e wC ⟨rfl, hbC⟩; obtain ⟨NC, hNC, hcC, hfC, hsC⟩ := bcell hbC; (try simp only [World.size_alloc, World.size_setCell, World.size_drew] at hNC)) | ((with_reducible refine (G4.out _ (by (repeat (first | (with_reducible exact Below.refl _ _) | (with_reducible refine Below.drew ?_) | (with_reducible refine below_drewN ?_ _) | (with_reducible refine Below.setCell ?_ (by first | (simp; done) | (simp; omega) | omega) _) | (with_reducible refine Below.alloc ?_ (by first | (simp; done) | (simp; omega) | omega) _) | (with_reducible refine Below.trans ?_ (Below.mono (by assumption) (by first | (simp; done) | (simp; omega) | omega))) | (with_reducible refine Below.trans ?_ (Below.mono (Later.below _) (by first | (simp; done) | (simp; omega) | omega))))))).mono ?_); rintro e wF ⟨rfl, hbF⟩; obtain ⟨NF, hNF, hcF, hfF, hsF⟩ := bcell hbF; (try simp only [World.size_alloc, World.size_setCell, World.size_drew] at hNF)) | ((with_reducible refine (F1.out _ (by (repeat (first | (with_reducible exact Below.refl _ _) | (with_reducible refine Below.drew ?_) | (with_reducible refine below_drewN ?_ _) | (with_reducible refine Below.setCell ?_ (by first | (simp; done) | (simp; omega) | omega) _) | (with_reducible refine Below.alloc ?_ (by first | (simp; done) | (simp; omega) | omega) _) | (with_reducible refine Below.trans ?_ (Below.mono (by assumption) (by first | (simp; done) | (simp; omega) | omega))) | (with_reducible refine Below.trans ?_ (Below.mono (Later.below _) (by first | (simp; done) | (simp; omega) | omega))))))).mono ?_); rintro e wG ⟨rfl, hbG⟩; obtain ⟨NG, hNG, hcG, hfG, hsG⟩ := bcell hbG; (try simp only [World.size_alloc, World.size_setCell, World.size_drew] at hNG)) | ((with_reducible refine (F2.out _ (by (repeat (first | (with_reducible exact Below.refl _ _) | (with_reducible refine Below.drew ?_) | (with_reducible refine below_drewN ?_ _) | (with_reducible refine Below.setCell ?_ (by first | (simp; done) | (simp; omega) | omega) _) | (with_reducible refine Below.alloc ?_ (by first | (simp; done) | (simp; omega) | omega) _) | (with_reducible refine Below.trans ?_ (Below.mono (by assumption) (by first | (simp; done) | (simp; omega) | omega))) | (with_reducible refine Below.trans ?_ (Below.mono (Later.below _) (by first | (simp; done) | (simp; omega) | omega))))))).mono ?_); rintro e wH ⟨rfl, hbH⟩; obtain ⟨NH, hNH, hcH, hfH, hsH⟩ := bcell hbH; (try simp only [World.size_alloc, World.size_setCell, World.size_drew] at hNH)) | ((with_reducible refine (F3.out _ (by (repeat (first | (with_reducible exact Below.refl _ _) | (with_reducible refine Below.drew ?_) | (with_reducible refine below_drewN ?_ _) | (with_reducible refine Below.setCell ?_ (by first | (simp; done) | (simp; omega) | omega) _) | (with_reducible refine Below.alloc ?_ (by first | (simp; done) | (simp; omega) | omega) _) | (with_reducible refine Below.trans ?_ (Below.mono (by assumption) (by first | (simp; done) | (simp; omega) | omega))) | (with_reducible refine Below.trans ?_ (Below.mono (Later.below _) (by first | (simp; done) | (simp; omega) | omega))))))).mono ?_); rintro e wI ⟨rfl, hbI⟩; obtain ⟨NI, hNI, hcI, hfI, hsI⟩ := bcell hbI; (try simp only [World.size_alloc, World.size_setCell, World.size_drew] at hNI)) | ((with_reducible refine (F4.out _ (by (repeat (first | (with_reducible exact Below.refl _ _) | (with_reducible refine Below.drew ?_) | (with_reducible refine below_drewN ?_ _) | (with_reducible refine Below.setCell ?_ (by first | (simp; done) | (simp; omega) | omega) _) | (with_reducible refine Below.alloc ?_ (by first | (simp; done) | (simp; omega) | omega) _) | (with_reducible refine Below.trans ?_ (Below.mono (by assumption) (by first | (simp; done) | (simp; omega) | omega))) | (with_reducible refine Below.trans ?_ (Below.mono (Later.below _) (by first | (simp; done) | (simp; omega) | omega))))))).mono ?_); rintro e wJ ⟨rfl, hbJ⟩; obtain ⟨NJ, hNJ, hcJ, hfJ, hsJ⟩ := bcell hbJ; (try simp only [World.size_alloc, World.size_setCell, World.size_drew] at hNJ)))
      have hbE : Below w2.heap.size w2 wJ := by (repeat (first | (with_reducible exact Below.refl _ _) | (with_reducible refine Below.drew ?_) | (with_reducible refine below_drewN ?_ _) | (with_reducible refine Below.setCell ?_ (by first | (simp; done) | (simp; omega) | omega) _) | (with_reducible refine Below.alloc ?_ (by first | (simp; done) | (simp; omega) | omega) _) | (with_reducible refine Below.trans ?_ (Below.mono (by assumption) (by first | (simp; done) | (simp; omega) | omega))) | (with_reducible refine Below.trans ?_ (Below.mono (Later.below _) (by first | (simp; done) | (simp; omega) | omega)))))
      go_roundw
      case rel => exact ⟨k + 1, by omega, by go_num, by rw [← HK.out]; exact HE2.out.later hbE, hb2.trans (hbE.mono hs2)⟩
      case measure => simp [intOf]; omega
    · obtain rfl : k = n := by omega
      clear hE
      go_wp2_with (first | ((with_reducible refine (Hlv.out _).mono ?_); rintro e wI ⟨rfl, hbI⟩; obtain ⟨NI, hNI, hcI, hfI, hsI⟩ := bcell hbI; (try simp only [World.size_alloc, World.size_setCell, World.size_drew] at hNI)))
      go_ret
      exact ⟨rfl, (hbD.trans (hB.mono hww)).trans (Below.mono (by (repeat (first | (with_reducible exact Below.refl _ _) | (with_reducible refine Below.drew ?_) | (with_reducible refine below_drewN ?_ _) | (with_reducible refine Below.setCell ?_ (by first | (simp; done) | (simp; omega) | omega) _) | (with_reducible refine Below.alloc ?_ (by first | (simp; done) | (simp; omega) | omega) _) | (with_reducible refine Below.trans ?_ (Below.mono (by assumption) (by first | (simp; done) | (simp; omega) | omega))) | (with_reducible refine Below.trans ?_ (Below.mono (Later.below _) (by first | (simp; done) | (simp; omega) | omega)))))) (by omega))⟩
end Go.Proofs.Ytbepnjlgneialaa.W
