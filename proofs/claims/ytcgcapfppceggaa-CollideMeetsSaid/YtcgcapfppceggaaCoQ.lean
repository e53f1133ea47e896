/-
  The contract of arenanetlaw05.long.
  Conditions: stated in each contract.
-/
import Derived.Test.YtcgcapfppceggaaCoP
import Derived.Test.YtcgcapfppceggaaQe
namespace Go.Proofs.Ytcgcapfppceggaa.Co
open Go.RowKit Go.Proofs.Ytcgcapfppceggaa.FxMath Go.Proofs.Ytcgcapfppceggaa.FxA Go.Proofs.Ytcgcapfppceggaa.Qt Go.Proofs.Ytcgcapfppceggaa.Ve Go.Proofs.Ytcgcapfppceggaa.Sh Go.Shelf
set_option linter.unusedVariables false
set_option linter.unusedSimpArgs false
attribute [local go_sem] Oper.semAt_some
theorem long_circle (r : Int) (w : World) : Calls Try.prog 45 #[.agg #[.int .i64 r, .slice none 0 0]] w fun e w' => e = .returned (.bool true) ∧ Below w.heap.size w w' := by
  have hal := alloc_if; have hfal := allocF_if
  go_enter Try.func45, Try.ntmps45
  go_wp2
  obtain ⟨W0, hW0⟩ : ∃ W0, W0 = w.alloc (.cells #[.int .i64 r, .slice none 0 0] 25) := ⟨_, rfl⟩
  have st0 : Below w.heap.size w W0 := by rw [hW0]; (repeat (first | (with_reducible exact Below.refl _ _) | (with_reducible refine Below.drew ?_) | (with_reducible refine below_drewN ?_ _) | (with_reducible refine Below.setCell ?_ (by first | (simp; done) | (simp; omega) | omega) _) | (with_reducible refine Below.alloc ?_ (by first | (simp; done) | (simp; omega) | omega) _) | (with_reducible refine Below.trans ?_ (Below.mono (by assumption) (by first | (simp; done) | (simp; omega) | omega))) | (with_reducible refine Below.trans ?_ (Below.mono (Later.below _) (by first | (simp; done) | (simp; omega) | omega)))))
  have q4 : W0.cell? ⟨w.heap.size, 1, none⟩ = some (.slice none 0 0) := by rw [hW0]; exact World.cell?_alloc_new w _ _ 1
  rw [← hW0]
  clear hW0
  go_loopw [3] (fun i wr => i = .int .i64 0 ∧ wr = W0) (fun i _ => 0)
  case atStart => exact ⟨rfl, rfl⟩
  case round =>
    obtain ⟨rfl, rfl⟩ := hrel
    go_wp2
    go_ret
    exact ⟨rfl, st0⟩
set_option maxRecDepth 100000 in
set_option maxHeartbeats 4000000 in
theorem long_poly (r : Int) (a : Option Addr) (len cap : Nat) (zs : List (Int × Int)) (w : World) (h : IsPoly w a len cap zs) (h1 : 1 ≤ len) (h2 : len ≤ 1000) (hz : Bd zs 50000) :
    Calls Try.prog 45 #[.agg #[.int .i64 r, .slice a len cap]] w fun e w' => e = .returned (.bool (lng zs)) ∧ Below w.heap.size w w' := by
  have cs := fun (i j : Nat) => sub_any (vx zs j) (vy zs j) (vx zs i) (vy zs i) (by have := hz i; have := hz j; omega) (by have := hz i; have := hz j; omega) (by have := hz i; have := hz j; omega) (by have := hz i; have := hz j; omega)
  rcases h with ⟨_, h0, _⟩ | ⟨b, o, rfl, hzl, hle, hcm, hcell⟩
  · omega
  unfold maxLen at hcm
  have lb := World.block_lt_of_cell? w _ (hcell 0 (by omega)).1
  simp only at lb
  have hb0 : ((len : Int) == 0) = false := beq_eq_false_iff_ne.2 (by omega)
  have Hcs := Lib.hid cs
  clear cs
  have hal := alloc_if; have hfal := allocF_if
  go_enter Try.func45, Try.ntmps45
  go_wp2
  obtain ⟨W0, hW0⟩ : ∃ W0, W0 = w.alloc (.cells #[.int .i64 r, .slice (some ⟨b, o, none⟩) len cap] 25) := ⟨_, rfl⟩
  have st0 : Below w.heap.size w W0 := by rw [hW0]; (repeat (first | (with_reducible exact Below.refl _ _) | (with_reducible refine Below.drew ?_) | (with_reducible refine below_drewN ?_ _) | (with_reducible refine Below.setCell ?_ (by first | (simp; done) | (simp; omega) | omega) _) | (with_reducible refine Below.alloc ?_ (by first | (simp; done) | (simp; omega) | omega) _) | (with_reducible refine Below.trans ?_ (Below.mono (by assumption) (by first | (simp; done) | (simp; omega) | omega))) | (with_reducible refine Below.trans ?_ (Below.mono (Later.below _) (by first | (simp; done) | (simp; omega) | omega)))))
  have q4 : W0.cell? ⟨w.heap.size, 1, none⟩ = some (.slice (some ⟨b, o, none⟩) len cap) := by rw [hW0]; exact World.cell?_alloc_new w _ _ 1
  rw [← hW0]
  clear hal hfal hW0
  go_loopw [3] (fun i wr => ∃ k : Nat, k ≤ len ∧ i = .int .i64 k ∧ (∀ j, j < k → lgE zs j = true) ∧ Below W0.heap.size W0 wr)
    (fun i _ => len - (intOf i).toNat)
  case atStart => exact ⟨0, Nat.zero_le _, rfl, by omega, Below.refl _ _⟩
  case round =>
    obtain ⟨k, hk, rfl, hyes, hB⟩ := hrel
    have hws := hB.size
    have hww := st0.size
    have r4 := cell_below hB q4
    have l4 := World.block_lt_of_cell? _ _ r4
    simp only at l4
    by_cases hlt : k < len
    · obtain ⟨j, hj⟩ : ∃ j, j = (k + 1) % len := ⟨_, rfl⟩
      have hjl : j < len := by rw [hj]; exact Nat.mod_lt _ h1
      have hjI : ((k : Int) + 1) % (len : Int) = (j : Int) := by rw [hj]; simp
      have gw : (IntKind.i64.wrap ((k : Int) + 1)).tmod (len : Int) = (j : Int) := by rw [IntWalk.i64_in _ (by omega), Int.tmod_eq_emod_of_nonneg (by omega)]; exact hjI
      have v0 := cell_below (st0.trans (hB.mono hww)) (hcell k hlt).1
      have v1 := cell_below (st0.trans (hB.mono hww)) (hcell k hlt).2
      have v2 := cell_below (st0.trans (hB.mono hww)) (hcell j hjl).1
      have v3 := cell_below (st0.trans (hB.mono hww)) (hcell j hjl).2
      have c1 := Hcs.out k j
      have bk := hz k
      have bj := hz j
      have hlg : lgE zs k = decide (1024 ≤ max (max (vx zs j - vx zs k) (-(vx zs j - vx zs k))) (max (vy zs j - vy zs k) (-(vy zs j - vy zs k)))) := by
        unfold lgE
        rw [hzl, ← hj]
      obtain ⟨dx, hdx⟩ : ∃ d, d = vx zs j - vx zs k := ⟨_, rfl⟩
      obtain ⟨dy, hdy⟩ : ∃ d, d = vy zs j - vy zs k := ⟨_, rfl⟩
      rw [← hdx, ← hdy] at c1 hlg
      have b0 : -100000 ≤ dx ∧ dx ≤ 100000 := by omega
      have b1 : -100000 ≤ dy ∧ dy ≤ 100000 := by omega
      obtain ⟨b00, b01⟩ := b0
      obtain ⟨b10, b11⟩ := b1
      obtain ⟨m, hm⟩ : ∃ m, m = max (max dx (-dx)) (max dy (-dy)) := ⟨_, rfl⟩
      rw [← hm] at hlg
      have Hj := Lib.hid hj
      have Hyes := Lib.hid hyes
      have Hlg := Lib.hid hlg
      have Hc1 := Lib.hid c1; have Hhdx := Lib.hid hdx; have Hhdy := Lib.hid hdy; clear c1 hdx hdy
      clear hj hyes hlg bk bj
      have hltI : (k : Int) < (len : Int) := by omega
      have hjlI : (j : Int) < (len : Int) := by omega
      have hal := alloc_if; have hfal := allocF_if
      go_wp2
      refine wp_region_calm1 16 4 #[.int .i64 0, .int .i64 0] 29 rfl (by kernel_rfl) (by kernel_rfl) (fun o ho ev w => by have ho' := Option.some.inj ho; rw [← ho']; exact rfl) fun NL hL => ?_; obtain ⟨hNL, hlc, hlf⟩ := hL; (try simp only [World.size_alloc, World.size_setCell, World.size_drew] at hNL); simp only [List.take_succ_cons, List.take_zero, List.drop_succ_cons, List.drop_zero]
      repeat ((refine wpCalm_go (fun K hK => ?_); go_simp; (repeat (simp only [↓IntWalk.iteOmega]; (try go_simp)))); first | (refine hK _ ?_; clear hK K) | (apply Exists.intro; refine ⟨fun x => ?_, hK _ ?_⟩; (first | (with_reducible exact calm_call (Hc1.out _))); clear hK K))
      (refine wpCalm_nil ?_; intro b1 w1 hb1 hk1 hkf1 hkn1 hks1; (try simp only [World.size_alloc, World.size_setCell, World.size_drew] at hkn1); clear hlc hlf hNL NL; obtain ⟨N1, hN1, hc1, hf1, hs1⟩ := bcell hb1; (try simp only [World.size_alloc, World.size_setCell, World.size_drew] at hN1))
      have hst := setCell_if
      simp only [Act.put, List.setIfInBounds_toArray, List.set_cons_zero, List.set_cons_succ]
      by_cases hs : m < 1024
      · rw [hm] at hs
        go_wp2
        go_ret
        refine ⟨?_, ?_⟩
        · have : lng zs = false := by
            rw [lng, Bool.eq_false_iff]
            intro h
            have := List.all_eq_true.1 h k (List.mem_range.2 (by omega))
            rw [Hlg.out, decide_eq_true_eq] at this
            omega
          rw [this]
          rfl
        · refine st0.trans (Below.mono ?_ hww)
          (repeat (first | (with_reducible exact Below.refl _ _) | (with_reducible refine Below.drew ?_) | (with_reducible refine below_drewN ?_ _) | (with_reducible refine Below.setCell ?_ (by first | (simp; done) | (simp; omega) | omega) _) | (with_reducible refine Below.alloc ?_ (by first | (simp; done) | (simp; omega) | omega) _) | (with_reducible refine Below.trans ?_ (Below.mono (by assumption) (by first | (simp; done) | (simp; omega) | omega))) | (with_reducible refine Below.trans ?_ (Below.mono (Later.below _) (by first | (simp; done) | (simp; omega) | omega)))))
      · have hs' : 1024 ≤ max (max dx (-dx)) (max dy (-dy)) := by omega
        go_wp2
        go_roundw
        case rel => exact ⟨k + 1, by omega, by go_num, fun j' hj' => by
          by_cases e : j' = k
          · subst e; rw [Hlg.out, decide_eq_true_eq]; omega
          · exact Hyes.out j' (by omega), by (repeat (first | (with_reducible exact Below.refl _ _) | (with_reducible refine Below.drew ?_) | (with_reducible refine below_drewN ?_ _) | (with_reducible refine Below.setCell ?_ (by first | (simp; done) | (simp; omega) | omega) _) | (with_reducible refine Below.alloc ?_ (by first | (simp; done) | (simp; omega) | omega) _) | (with_reducible refine Below.trans ?_ (Below.mono (by assumption) (by first | (simp; done) | (simp; omega) | omega))) | (with_reducible refine Below.trans ?_ (Below.mono (Later.below _) (by first | (simp; done) | (simp; omega) | omega)))))⟩
        case measure => simp [intOf]; omega
    · obtain rfl : k = len := by omega
      go_wp2
      go_ret
      refine ⟨?_, st0.trans (hB.mono hww)⟩
      have : lng zs = true := by
        rw [lng, List.all_eq_true]
        intro i hi
        exact hyes i (by have := List.mem_range.1 hi; omega)
      rw [this]
      rfl
theorem long_s {w : World} {r : Int} {a : Option Addr} {len cap : Nat} {zs : List (Int × Int)} (h : ShAt w r a len cap zs) (W : World) (hW : Below w.heap.size w W) :
    Calls Try.prog 45 #[.agg #[.int .i64 r, .slice a len cap]] W fun e w' => e = .returned (.bool (lng zs)) ∧ Below W.heap.size W w' := by
  have g := h.later hW
  rcases h.kind with ⟨rfl, rfl, rfl, rfl, h1, h2⟩ | ⟨rfl, h1, h2, hb, hc⟩
  · exact long_circle r W
  · exact long_poly 0 a len cap zs W g.poly (by omega) (by omega) (fun i => by have := hb i; omega)
end Go.Proofs.Ytcgcapfppceggaa.Co
