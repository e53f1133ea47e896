/-
  The walk of the law ToiTunnel: it returns true at every input.
  Conditions: none.
-/
import Derived.Test.YtcgcapfppceggaaToL
import Derived.Test.YtcgcapfppceggaaQe
namespace Go.Proofs.Ytcgcapfppceggaa.W
open Go.RowKit Go.Proofs.Ytcgcapfppceggaa.FxMath Go.Proofs.Ytcgcapfppceggaa.FxA Go.Proofs.Ytcgcapfppceggaa.Qt Go.Proofs.Ytcgcapfppceggaa.Ve Go.Proofs.Ytcgcapfppceggaa.Sh Go.Proofs.Ytcgcapfppceggaa.Co Go.Proofs.Ytcgcapfppceggaa.To
set_option linter.unusedVariables false
set_option linter.unusedSimpArgs false
theorem wal_bd (h : Int) (h0 : 1 ≤ h ∧ h ≤ 200) : Bd (wal h) 32768 := by
  intro i
  match i with
  | 0 => rw [(wal_vx h).1, (wal_vy h).1]; omega
  | 1 => rw [(wal_vx h).2.1, (wal_vy h).2.1]; omega
  | 2 => rw [(wal_vx h).2.2.1, (wal_vy h).2.2.1]; omega
  | 3 => rw [(wal_vx h).2.2.2, (wal_vy h).2.2.2]; omega
  | n + 4 =>
    have e1 : vx (wal h) (n + 4) = 0 := rfl
    have e2 : vy (wal h) (n + 4) = 0 := rfl
    rw [e1, e2]; omega
theorem wal_cvx (h : Int) (h0 : 1 ≤ h) : cvx (wal h) = true := by
  have l : (wal h).length = 4 := rfl
  obtain ⟨x0, x1, x2, x3⟩ := wal_vx h
  obtain ⟨y0, y1, y2, y3⟩ := wal_vy h
  unfold cvx
  rw [List.all_eq_true]
  intro i hi
  have hi' : i < 4 := List.mem_range.1 hi
  rw [l]
  obtain rfl | rfl | rfl | rfl : i = 0 ∨ i = 1 ∨ i = 2 ∨ i = 3 := by omega
  all_goals
    refine edgB_true ?_ (fun k hk h1 h2 => ?_)
    · simp only [Nat.reduceAdd, Nat.reduceMod, x0, x1, x2, x3, y0, y1, y2, y3]; unfold crs; omega
    · rw [l] at hk
      simp only [Nat.reduceAdd, Nat.reduceMod] at h2
      obtain rfl | rfl | rfl | rfl : k = 0 ∨ k = 1 ∨ k = 2 ∨ k = 3 := by omega
      all_goals first
        | omega
        | (simp only [Nat.reduceAdd, Nat.reduceMod, x0, x1, x2, x3, y0, y1, y2, y3]; unfold crs; omega)
set_option maxRecDepth 100000 in
set_option maxHeartbeats 4000000 in
theorem ToiTunnel_walk (a0 a1 a2 a3 : Int) (w : World) (w0 : (Lit.int .i64 a0).wf = true) (w1 : (Lit.int .i64 a1).wf = true) (w2 : (Lit.int .i64 a2).wf = true) (w3 : (Lit.int .i64 a3).wf = true) :
    Calls Try.prog 12 #[.int .i64 a0, .int .i64 a1, .int .i64 a2, .int .i64 a3] w fun e w' => e = .returned (.bool true) ∧ Below w.heap.size w w' := by
  obtain ⟨b00, b01⟩ := i64_bd w0
  obtain ⟨b10, b11⟩ := i64_bd w1
  obtain ⟨b20, b21⟩ := i64_bd w2
  obtain ⟨b30, b31⟩ := i64_bd w3
  have c0 := gives_same (fun V => around_any a0 191 V b00 b01 (by decide) (by decide))
  have c1 := gives_same (fun V => around_any a1 200 V b10 b11 (by decide) (by decide))
  have t0 := aro_bd a0 191 (by decide)
  have t1 := aro_bd a1 200 (by decide)
  generalize aro a0 191 = kr at *
  generalize aro a1 200 = kh at *
  obtain ⟨m, hm⟩ : ∃ m, m = min 16384 (8 * (2 * ((1 + kh) + (10 + kr)) - 2)) := ⟨_, rfl⟩
  have c3 := gives_same (fun V => around_any a3 (m + 1) V b30 b31 (by omega) (by omega))
  have t3 := aro_bd a3 (m + 1) (by omega)
  have c2 := gives_same (fun V => around_any a2 2000 V b20 b21 (by decide) (by decide))
  have t2 := aro_bd a2 2000 (by decide)
  generalize aro a3 (m + 1) = v at *
  rw [hm] at c3
  generalize aro a2 2000 = g at *
  have lw := tunnel_law (10 + kr) (1 + kh) (-(1 + kh + (10 + kr) + 1 + g)) v (by omega) (by omega) (by omega) (by omega)
  have ce : ∀ (V : World) (B : Nat), IsPoly V (some ⟨B, 0, none⟩) 4 4 (wal (1 + kh)) → Calls Try.prog 42 #[.agg #[.int .i64 (10 + kr), .slice none 0 0], .agg #[.int .i64 (-(1 + kh + (10 + kr) + 1 + g)), .int .i64 0], .agg #[.int .i64 v, .int .i64 0], .agg #[.int .i64 0, .slice (some ⟨B, 0, none⟩) 4 4], .agg #[.int .i64 0, .int .i64 0], .agg #[.int .i64 0, .int .i64 0]] V fun e w' =>
      e = .returned (.int .i64 (erl (tch (10 + kr) [] (-(1 + kh + (10 + kr) + 1 + g)) 0 v 0 0 (wal (1 + kh)) 0 0 0 0))) ∧ Below V.heap.size V w' := by
    intro V B hp
    have hw : ShAt V 0 (some ⟨B, 0, none⟩) 4 4 (wal (1 + kh)) := ⟨.inr ⟨rfl, by decide, by decide, wal_bd _ (by omega), wal_cvx _ (by omega)⟩, hp⟩
    exact earliest_s (shAt_circle V (10 + kr) (by omega)) hw ⟨by omega, by omega, by omega, by omega⟩ V (Below.refl _ _)
  obtain ⟨f, hf⟩ : ∃ f, f = erl (tch (10 + kr) [] (-(1 + kh + (10 + kr) + 1 + g)) 0 v 0 0 (wal (1 + kh)) 0 0 0 0) := ⟨_, rfl⟩
  rw [← hf] at lw
  have ce' : ∀ (V : World) (B : Nat), IsPoly V (some ⟨B, 0, none⟩) 4 4 (wal (1 + kh)) → Calls Try.prog 42 #[.agg #[.int .i64 (10 + kr), .slice none 0 0], .agg #[.int .i64 (-(1 + kh + (10 + kr) + 1 + g)), .int .i64 0], .agg #[.int .i64 v, .int .i64 0], .agg #[.int .i64 0, .slice (some ⟨B, 0, none⟩) 4 4], .agg #[.int .i64 0, .int .i64 0], .agg #[.int .i64 0, .int .i64 0]] V fun e w' => e = .returned (.int .i64 f) ∧ Below V.heap.size V w' := fun V B hp => by
    have := ce V B hp
    rw [← hf] at this
    exact this
  obtain ⟨lw1, lw2⟩ := lw
  have lv := lives06
  have Hce := Lib.hid ce'
  have Hlw1 := Lib.hid lw1
  have Hlw2 := Lib.hid lw2
  have tm : m ≤ 16384 := by omega
  obtain ⟨tr1, tr2⟩ := t0
  obtain ⟨th1, th2⟩ := t1
  obtain ⟨tg1, tg2⟩ := t2
  obtain ⟨tv1, tv2⟩ := t3
  have Hc0 := Lib.hid c0; have Hc1 := Lib.hid c1; have Hc2 := Lib.hid c2; have Hc3 := Lib.hid c3; have Hlv := Lib.hid lv; clear c0 c1 c2 c3 lv
  clear ce ce' lw1 lw2 hf hm
  have hal := alloc_if; have hfal := allocF_if
  go_enter Try.func12, Try.ntmps12
  go_upto_region 6 with (first | ((with_reducible refine (Hc0.out _).mono ?_); rintro e wA ⟨rfl, hbA⟩; obtain ⟨NA, hNA, hcA, hfA, hsA⟩ := bcell hbA; (try simp only [World.size_alloc, World.size_setCell, World.size_drew] at hNA)) | ((with_reducible refine (Hc1.out _).mono ?_); rintro e wB ⟨rfl, hbB⟩; obtain ⟨NB, hNB, hcB, hfB, hsB⟩ := bcell hbB; (try simp only [World.size_alloc, World.size_setCell, World.size_drew] at hNB)) | ((with_reducible refine (Hc3.out _).mono ?_); rintro e wC ⟨rfl, hbC⟩; obtain ⟨NC, hNC, hcC, hfC, hsC⟩ := bcell hbC; (try simp only [World.size_alloc, World.size_setCell, World.size_drew] at hNC)) | ((with_reducible refine (Hc2.out _).mono ?_); rintro e wD ⟨rfl, hbD⟩; obtain ⟨ND, hND, hcD, hfD, hsD⟩ := bcell hbD; (try simp only [World.size_alloc, World.size_setCell, World.size_drew] at hND)))
  refine name_world3 fun W6 hW6 => ?_
  have hp : IsPoly W6 (some ⟨wB.heap.size, 0, none⟩) 4 4 (wal (1 + kh)) := by
    refine .inr ⟨_, 0, rfl, rfl, Nat.le_refl _, by decide, fun i hi => ?_⟩
    rw [hW6]
    obtain rfl | rfl | rfl | rfl : i = 0 ∨ i = 1 ∨ i = 2 ∨ i = 3 := by omega
    all_goals simp [hcD, hcC, hal, (wal_vx (1 + kh)).1, (wal_vx (1 + kh)).2.1, (wal_vx (1 + kh)).2.2.1, (wal_vx (1 + kh)).2.2.2, (wal_vy (1 + kh)).1, (wal_vy (1 + kh)).2.1, (wal_vy (1 + kh)).2.2.1, (wal_vy (1 + kh)).2.2.2, ↓IntWalk.iteOmega]
  have hbW : Below w.heap.size w W6 := by rw [hW6]; (repeat (first | (with_reducible exact Below.refl _ _) | (with_reducible refine Below.drew ?_) | (with_reducible refine below_drewN ?_ _) | (with_reducible refine Below.setCell ?_ (by first | (simp; done) | (simp; omega) | omega) _) | (with_reducible refine Below.alloc ?_ (by first | (simp; done) | (simp; omega) | omega) _) | (with_reducible refine Below.trans ?_ (Below.mono (by assumption) (by first | (simp; done) | (simp; omega) | omega))) | (with_reducible refine Below.trans ?_ (Below.mono (Later.below _) (by first | (simp; done) | (simp; omega) | omega)))))
  have s6 := hbW.size
  have bx0 : W6.cell? ⟨wB.heap.size + 1, 0, none⟩ = some (.int .i64 0) := by rw [hW6]; simp [hcD, hcC, hal, ↓IntWalk.iteOmega]
  have bx1 : W6.cell? ⟨wB.heap.size + 1, 1, none⟩ = some (.slice (some ⟨wB.heap.size, 0, none⟩) 4 4) := by rw [hW6]; simp [hcD, hcC, hal, ↓IntWalk.iteOmega]
  have cE := Hce.out W6 _ hp
  clear hW6 hp Hce
  have HcE := Lib.hid cE; clear cE
  by_cases hc : -(1 + kh + (10 + kr)) < -(1 + kh + (10 + kr) + 1 + g) + v
  · have hff := Hlw1.out hc
    go_wp2_with (first | ((with_reducible refine (HcE.out).mono ?_); rintro e wE ⟨rfl, hbE⟩; obtain ⟨NE, hNE, hcE, hfE, hsE⟩ := bcell hbE; (try simp only [World.size_alloc, World.size_setCell, World.size_drew] at hNE)) | ((with_reducible refine (Hlv.out _).mono ?_); rintro e wF ⟨rfl, hbF⟩; obtain ⟨NF, hNF, hcF, hfF, hsF⟩ := bcell hbF; (try simp only [World.size_alloc, World.size_setCell, World.size_drew] at hNF)))
    go_ret
    refine ⟨rfl, hbW.trans (Below.mono (?_ : Below W6.heap.size W6 _) s6)⟩
    (repeat (first | (with_reducible exact Below.refl _ _) | (with_reducible refine Below.drew ?_) | (with_reducible refine below_drewN ?_ _) | (with_reducible refine Below.setCell ?_ (by first | (simp; done) | (simp; omega) | omega) _) | (with_reducible refine Below.alloc ?_ (by first | (simp; done) | (simp; omega) | omega) _) | (with_reducible refine Below.trans ?_ (Below.mono (by assumption) (by first | (simp; done) | (simp; omega) | omega))) | (with_reducible refine Below.trans ?_ (Below.mono (Later.below _) (by first | (simp; done) | (simp; omega) | omega)))))
  · obtain rfl : f = 1024 := Hlw2.out (by omega)
    go_wp2_with (first | ((with_reducible refine (HcE.out).mono ?_); rintro e wE ⟨rfl, hbE⟩; obtain ⟨NE, hNE, hcE, hfE, hsE⟩ := bcell hbE; (try simp only [World.size_alloc, World.size_setCell, World.size_drew] at hNE)) | ((with_reducible refine (Hlv.out _).mono ?_); rintro e wF ⟨rfl, hbF⟩; obtain ⟨NF, hNF, hcF, hfF, hsF⟩ := bcell hbF; (try simp only [World.size_alloc, World.size_setCell, World.size_drew] at hNF)))
    go_ret
    refine ⟨rfl, hbW.trans (Below.mono (?_ : Below W6.heap.size W6 _) s6)⟩
    (repeat (first | (with_reducible exact Below.refl _ _) | (with_reducible refine Below.drew ?_) | (with_reducible refine below_drewN ?_ _) | (with_reducible refine Below.setCell ?_ (by first | (simp; done) | (simp; omega) | omega) _) | (with_reducible refine Below.alloc ?_ (by first | (simp; done) | (simp; omega) | omega) _) | (with_reducible refine Below.trans ?_ (Below.mono (by assumption) (by first | (simp; done) | (simp; omega) | omega))) | (with_reducible refine Below.trans ?_ (Below.mono (Later.below _) (by first | (simp; done) | (simp; omega) | omega)))))
end Go.Proofs.Ytcgcapfppceggaa.W
