/-
  The walk of the law JitterCoverage: it returns true at every input.
  Conditions: none.
-/
import Derived.Test.YtbepnjlgneialaaJiK
namespace Go.Proofs.Ytbepnjlgneialaa.W
open Go Go.RowKit Go.Proofs.Ytbepnjlgneialaa.FxA Go.Proofs.Ytbepnjlgneialaa.Qt Go.Proofs.Ytbepnjlgneialaa.Ji
set_option linter.unusedVariables false
set_option linter.unusedSimpArgs false
set_option maxRecDepth 100000 in
set_option maxHeartbeats 2000000 in
theorem JitterCoverage_walk (a0 : Option Addr) (len0 cap0 : Nat) (z0 : List Int) (a1 : Int) (w : World) (w0 : Fr.IsRow .i64 w a0 len0 cap0 z0) (w1 : (Lit.int .i64 a1).wf = true) :
    Calls Try.prog 6 #[.slice a0 len0 cap0, .int .i64 a1] w fun e w' => e = .returned (.bool true) ∧ Below w.heap.size w w' := by
  have hl := isL_of_row w0
  have cd := hl.dly
  generalize z0.take len0 = Z at *
  have hwf := dly_wf Z
  have hlen := dly_len Z
  generalize dly Z = Y at *
  have i1 := i64_bd w1
  have ca := gives_same (fun w => around_any a1 1000 w i1.1 i1.2 (by omega) (by omega))
  have hb := aro_bd a1 1000 (by decide)
  obtain ⟨hb0, hb1⟩ := hb
  generalize aro a1 1000 = r at *
  obtain ⟨i0, hii, hz0, hz1, hz2⟩ := info_parts Try.infoI
  obtain ⟨n, hn⟩ : ∃ n, n = Y.length := ⟨_, rfl⟩
  rw [← hn] at cd hlen
  have hn40 : n ≤ 40 := by omega
  have lv := lives_any
  have Hwf := Lib.hid hwf
  have Hn := Lib.hid hn
  have Hca := Lib.hid ca; have Hcd := Lib.hid cd; have Hlv := Lib.hid lv; clear ca cd lv
  clear hl i1 w0 hlen hwf hn
  go_enter Try.func6, Try.ntmps6
  go_upto_region 2 with (first | ((with_reducible refine (Hcd.out _ (by (repeat (first | (with_reducible exact Below.refl _ _) | (with_reducible refine Below.drew ?_) | (with_reducible refine below_drewN ?_ _) | (with_reducible refine Below.setCell ?_ (by first | (simp; done) | (simp; omega) | omega) _) | (with_reducible refine Below.alloc ?_ (by first | (simp; done) | (simp; omega) | omega) _) | (with_reducible refine Below.trans ?_ (Below.mono (by assumption) (by first | (simp; done) | (simp; omega) | omega))) | (with_reducible refine Below.trans ?_ (Below.mono (Later.below _) (by first | (simp; done) | (simp; omega) | omega))))))).mono ?_); rintro e WD ⟨v, rfl, hown, hbD⟩; (obtain ⟨ND, hND, hcD, hfD, hsD⟩ := bcell hbD; (try simp only [World.size_alloc, World.size_setCell, World.size_drew] at hND))) | (at_builtin; refine wpList_append_own _ rfl _ _ 22 rfl w.heap.size 3 i0 (.int .i64 0) 1 8 Try.underlying22 hii hz0 hz1 hz2 (by simp [Value.cells]) (by decide) _ n (Y.map (Value.int .i64)) rfl (hown.alloc _) ⟨WD.heap.size, 0, none⟩ 1 1 [.int .i64 3] rfl rfl (new1 _ _ _) (by simp [Value.oneCell']) (by unfold maxLen; omega) (by omega) (by simp; omega) ?_; intro v' w2 hown2 hgrow2 _))
  have hb2 : Below w.heap.size w w2 := (hbD.alloc (by omega) _).grown hgrow2 (by simp; omega) (fun k e => (hown.lt k e).1)
  obtain ⟨hl2, a, cap, rfl, hp⟩ := isL_of_own (zs := Y ++ [3]) (by simpa using hown2) (fun x hx => by
    rcases List.mem_append.1 hx with h | h
    · exact Hwf.out x h
    · simp at h; subst h; decide)
  have cf := hp.fill (by omega)
  have ck := hp.keep (by omega)
  have hkb := kept_bd (Y ++ [3])
  have hkl := kept_len (Y ++ [3])
  rw [hl2] at hkl
  generalize kept (Y ++ [3]) = K at *
  have hK : K ≠ [] := fun e => by rw [e] at hkl; simp at hkl; omega
  have cov := qnt_cover hK (p := 1 + r) (by omega) (by omega)
  obtain ⟨m, hm⟩ : ∃ m, m = K.length := ⟨_, rfl⟩
  have hq := qnt_bd hkb (1 + r)
  obtain ⟨hq0, hq1⟩ := hq
  have t1 := atm_le K (qnt K (1 + r))
  have t2 := atm_le K (qnt K (1 + r) - 1)
  rw [← hm] at ck cov hkl t1 t2
  obtain ⟨cov1, cov2⟩ := cov
  have hm16 : m ≤ 16 := by omega
  have mb := mul_bd (a := 1 + r) (b := (m : Int)) (A := 1000) (B := 16) (by omega) (by omega) (by omega) (by omega)
  obtain ⟨mb0, mb1⟩ := mb
  obtain ⟨q, hqq⟩ : ∃ q, q = qnt K (1 + r) := ⟨_, rfl⟩
  rw [← hqq] at cov1 cov2 hq0 hq1 t1 t2
  obtain ⟨c1, hc1⟩ : ∃ c, c = atm K q := ⟨_, rfl⟩
  obtain ⟨c2, hc2⟩ : ∃ c, c = atm K (q - 1) := ⟨_, rfl⟩
  rw [← hc1] at cov1 t1
  rw [← hc2] at cov2 t2
  have Hqq := Lib.hid hqq
  have Hc1 := Lib.hid hc1
  have Hc2 := Lib.hid hc2
  have Hb2 := Lib.hid hb2
  have hws := hb2.size
  have Hcf := Lib.hid cf; have Hck := Lib.hid ck; clear cf ck
  clear hp hown2 hgrow2 hown hbD hcD hfD hkb hkl hK hqq hc1 hc2 hb2 hm Hcd
  go_wp2_with (first | ((with_reducible refine (Hca.out _).mono ?_); rintro e wA ⟨rfl, hbA⟩; obtain ⟨NA, hNA, hcA, hfA, hsA⟩ := bcell hbA; (try simp only [World.size_alloc, World.size_setCell, World.size_drew] at hNA)) | ((with_reducible refine (Hcf.out _ (by (repeat (first | (with_reducible exact Below.refl _ _) | (with_reducible refine Below.drew ?_) | (with_reducible refine below_drewN ?_ _) | (with_reducible refine Below.setCell ?_ (by first | (simp; done) | (simp; omega) | omega) _) | (with_reducible refine Below.alloc ?_ (by first | (simp; done) | (simp; omega) | omega) _) | (with_reducible refine Below.trans ?_ (Below.mono (by assumption) (by first | (simp; done) | (simp; omega) | omega))) | (with_reducible refine Below.trans ?_ (Below.mono (Later.below _) (by first | (simp; done) | (simp; omega) | omega))))))).mono ?_); rintro e WE ⟨b, rfl, hE, hbE⟩; (obtain ⟨NE, hNE, hcE, hfE, hsE⟩ := bcell hbE; (try simp only [World.size_alloc, World.size_setCell, World.size_drew] at hNE)); have G1 := Lib.hid (hE.q (1 + r)); rw [← Hqq.out] at G1; clear hE) | ((with_reducible refine (Hck.out _ (by (repeat (first | (with_reducible exact Below.refl _ _) | (with_reducible refine Below.drew ?_) | (with_reducible refine below_drewN ?_ _) | (with_reducible refine Below.setCell ?_ (by first | (simp; done) | (simp; omega) | omega) _) | (with_reducible refine Below.alloc ?_ (by first | (simp; done) | (simp; omega) | omega) _) | (with_reducible refine Below.trans ?_ (Below.mono (by assumption) (by first | (simp; done) | (simp; omega) | omega))) | (with_reducible refine Below.trans ?_ (Below.mono (Later.below _) (by first | (simp; done) | (simp; omega) | omega))))))).mono ?_); rintro e WK ⟨a', cap', rfl, hk, hbK⟩; (obtain ⟨NK, hNK, hcK, hfK, hsK⟩ := bcell hbK; (try simp only [World.size_alloc, World.size_setCell, World.size_drew] at hNK)); have G2 := Lib.hid (hk.atm (by omega) q); have G3 := Lib.hid (hk.atm (by omega) (q - 1)); rw [← Hc1.out] at G2; rw [← Hc2.out] at G3; clear hk) | ((with_reducible refine (G1.out _ (by (repeat (first | (with_reducible exact Below.refl _ _) | (with_reducible refine Below.drew ?_) | (with_reducible refine below_drewN ?_ _) | (with_reducible refine Below.setCell ?_ (by first | (simp; done) | (simp; omega) | omega) _) | (with_reducible refine Below.alloc ?_ (by first | (simp; done) | (simp; omega) | omega) _) | (with_reducible refine Below.trans ?_ (Below.mono (by assumption) (by first | (simp; done) | (simp; omega) | omega))) | (with_reducible refine Below.trans ?_ (Below.mono (Later.below _) (by first | (simp; done) | (simp; omega) | omega))))))).mono ?_); rintro e wF ⟨rfl, hbF⟩; obtain ⟨NF, hNF, hcF, hfF, hsF⟩ := bcell hbF; (try simp only [World.size_alloc, World.size_setCell, World.size_drew] at hNF)) | ((with_reducible refine (G2.out _ (by (repeat (first | (with_reducible exact Below.refl _ _) | (with_reducible refine Below.drew ?_) | (with_reducible refine below_drewN ?_ _) | (with_reducible refine Below.setCell ?_ (by first | (simp; done) | (simp; omega) | omega) _) | (with_reducible refine Below.alloc ?_ (by first | (simp; done) | (simp; omega) | omega) _) | (with_reducible refine Below.trans ?_ (Below.mono (by assumption) (by first | (simp; done) | (simp; omega) | omega))) | (with_reducible refine Below.trans ?_ (Below.mono (Later.below _) (by first | (simp; done) | (simp; omega) | omega))))))).mono ?_); rintro e wG ⟨rfl, hbG⟩; obtain ⟨NG, hNG, hcG, hfG, hsG⟩ := bcell hbG; (try simp only [World.size_alloc, World.size_setCell, World.size_drew] at hNG)) | ((with_reducible refine (G3.out _ (by (repeat (first | (with_reducible exact Below.refl _ _) | (with_reducible refine Below.drew ?_) | (with_reducible refine below_drewN ?_ _) | (with_reducible refine Below.setCell ?_ (by first | (simp; done) | (simp; omega) | omega) _) | (with_reducible refine Below.alloc ?_ (by first | (simp; done) | (simp; omega) | omega) _) | (with_reducible refine Below.trans ?_ (Below.mono (by assumption) (by first | (simp; done) | (simp; omega) | omega))) | (with_reducible refine Below.trans ?_ (Below.mono (Later.below _) (by first | (simp; done) | (simp; omega) | omega))))))).mono ?_); rintro e wH ⟨rfl, hbH⟩; obtain ⟨NH, hNH, hcH, hfH, hsH⟩ := bcell hbH; (try simp only [World.size_alloc, World.size_setCell, World.size_drew] at hNH)) | ((with_reducible refine (Hlv.out _).mono ?_); rintro e wI ⟨rfl, hbI⟩; obtain ⟨NI, hNI, hcI, hfI, hsI⟩ := bcell hbI; (try simp only [World.size_alloc, World.size_setCell, World.size_drew] at hNI)))
  go_ret
  exact ⟨rfl, Hb2.out.trans (Below.mono (by (repeat (first | (with_reducible exact Below.refl _ _) | (with_reducible refine Below.drew ?_) | (with_reducible refine below_drewN ?_ _) | (with_reducible refine Below.setCell ?_ (by first | (simp; done) | (simp; omega) | omega) _) | (with_reducible refine Below.alloc ?_ (by first | (simp; done) | (simp; omega) | omega) _) | (with_reducible refine Below.trans ?_ (Below.mono (by assumption) (by first | (simp; done) | (simp; omega) | omega))) | (with_reducible refine Below.trans ?_ (Below.mono (Later.below _) (by first | (simp; done) | (simp; omega) | omega)))))) hws)⟩
end Go.Proofs.Ytbepnjlgneialaa.W
