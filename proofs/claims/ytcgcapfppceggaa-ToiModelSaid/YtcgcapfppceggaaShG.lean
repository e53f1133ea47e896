/-
  Contract of the reference's Bounds.
  Conditions: the exact numbers fit 64 bits.
-/
import Derived.Test.YtcgcapfppceggaaShF
namespace Go.Proofs.Ytcgcapfppceggaa.Sh
open Go.RowKit Go.Proofs.Ytcgcapfppceggaa.FxMath Go.Proofs.Ytcgcapfppceggaa.FxA Go.Proofs.Ytcgcapfppceggaa.Qt Go.Proofs.Ytcgcapfppceggaa.Ve Go.Shelf
set_option linter.unusedVariables false
set_option linter.unusedSimpArgs false

/-- The least so far, the first counted twice. -/
def rnT (f : Nat → Int) : Nat → Int
  | 0 => f 0
  | k + 1 => min (rnT f k) (f k)
def rxT (f : Nat → Int) : Nat → Int
  | 0 => f 0
  | k + 1 => max (rxT f k) (f k)
theorem rnT_succ (f : Nat → Int) : ∀ k, rnT f (k + 1) = mnTo f k
  | 0 => by simp [rnT, mnTo]
  | k + 1 => by rw [rnT, rnT_succ f k]; rfl
theorem rxT_succ (f : Nat → Int) : ∀ k, rxT f (k + 1) = mxTo f k
  | 0 => by simp [rxT, mxTo]
  | k + 1 => by rw [rxT, rxT_succ f k]; rfl
theorem BSt.set4 {w W : World} {B3 B4 B6 : Nat} {x y b0 b1 b2 b3 : Int} (s : BSt w W B3 B4 B6 x y b0 b1 b2 b3) (d0 d1 d2 d3 : Int) :
    BSt w ((((W.setCell ⟨B6, 0, none⟩ (.int .i64 d0)).setCell ⟨B6, 1, none⟩ (.int .i64 d1)).setCell ⟨B6, 2, none⟩ (.int .i64 d2)).setCell ⟨B6, 3, none⟩ (.int .i64 d3)) B3 B4 B6 x y d0 d1 d2 d3 :=
  ⟨(((s.below.setCell (p := ⟨B6, 0, none⟩) s.h6 _).setCell (p := ⟨B6, 1, none⟩) s.h6 _).setCell (p := ⟨B6, 2, none⟩) s.h6 _).setCell (p := ⟨B6, 3, none⟩) s.h6 _, s.h4, s.h6, s.n36, s.n46,
    by simp only [setCell_if, s.n36, if_false, s.p0], by simp only [setCell_if, s.n36, if_false, s.p1], by simp only [setCell_if, s.n46, if_false, s.r0], by simp only [setCell_if, s.n46, if_false, s.r1], by simp only [setCell_if, s.n46, if_false, s.r2], by simp only [setCell_if, s.n46, if_false, s.r3], fun i => by simpa using s.rf i,
    by simp [setCell_if, s.c0], by simp [setCell_if, s.c1], by simp [setCell_if, s.c2], by simp [setCell_if, s.c3], fun i => by simpa using s.cf i⟩
set_option maxHeartbeats 2000000 in
theorem rbounds_circle (r x y : Int) (a : Option Addr) (cap : Nat) (hr : -100000000 ≤ r ∧ r ≤ 100000000) (hx : -100000000 ≤ x ∧ x ≤ 100000000) (hy : -100000000 ≤ y ∧ y ≤ 100000000) :
    Gives Try.prog 49 #[.agg #[.int .i64 r, .slice a 0 cap], .agg #[.int .i64 x, .int .i64 y]] (.agg #[.int .i64 (x - r), .int .i64 (y - r), .int .i64 (x + r), .int .i64 (y + r)]) := by
  intro w
  have hal := alloc_if; have hfal := allocF_if
  have hst := setCell_if
  go_enter Try.func49, Try.ntmps49
  go_wp2
  refine bodyPost_ret (v := .agg #[.int .i64 (x - r), .int .i64 (y - r), .int .i64 (x + r), .int .i64 (y + r)]) (by simp [results, Try.results49, go_sem, hst, alloc_if, ↓IntWalk.iteOmega]) rfl ⟨rfl, ?_⟩
  (repeat (first | (with_reducible exact Below.refl _ _) | (with_reducible refine Below.drew ?_) | (with_reducible refine below_drewN ?_ _) | (with_reducible refine Below.setCell ?_ (by first | (simp; done) | (simp; omega) | omega) _) | (with_reducible refine Below.alloc ?_ (by first | (simp; done) | (simp; omega) | omega) _) | (with_reducible refine Below.trans ?_ (Below.mono (by assumption) (by first | (simp; done) | (simp; omega) | omega))) | (with_reducible refine Below.trans ?_ (Below.mono (Later.below _) (by first | (simp; done) | (simp; omega) | omega)))))

set_option maxRecDepth 100000 in
set_option maxHeartbeats 4000000 in
theorem rbounds_poly (r : Int) (a : Option Addr) (len cap : Nat) (zs : List (Int × Int)) (x y : Int) (w : World) (h : IsPoly w a len cap zs) (h1 : 1 ≤ len) (h2 : len ≤ 1000) (hz : Bd zs 50000) (hx : -100000000 ≤ x ∧ x ≤ 100000000) (hy : -100000000 ≤ y ∧ y ≤ 100000000) :
    Calls Try.prog 49 #[.agg #[.int .i64 r, .slice a len cap], .agg #[.int .i64 x, .int .i64 y]] w fun e w' => e = .returned (.agg #[.int .i64 (mnTo (fun i => x + vx zs i) (len - 1)), .int .i64 (mnTo (fun i => y + vy zs i) (len - 1)), .int .i64 (mxTo (fun i => x + vx zs i) (len - 1)), .int .i64 (mxTo (fun i => y + vy zs i) (len - 1))]) ∧ Below w.heap.size w w' := by
  have ca := fun (i : Nat) => radd_any x y (vx zs i) (vy zs i) (by have := hz i; omega) (by have := hz i; omega) (by have := hz i; omega) (by have := hz i; omega)
  have b0 := hz 0
  rcases h with ⟨_, h0, _⟩ | ⟨b, o, rfl, hzl, hle, hcm, hcell⟩
  · omega
  unfold maxLen at hcm
  have v0 := (hcell 0 (by omega)).1
  have v1 := (hcell 0 (by omega)).2
  have lb := World.block_lt_of_cell? w _ v0
  simp only [Nat.zero_mul, Nat.add_zero] at lb v0 v1
  have hb0 : ((len : Int) == 0) = false := beq_eq_false_iff_ne.2 (by omega)
  have hlI : (0 : Int) < (len : Int) := by omega
  have Hca := Lib.hid ca
  clear ca
  have hal := alloc_if; have hfal := allocF_if
  have hst := setCell_if
  go_enter Try.func49, Try.ntmps49
  go_wp2
  obtain ⟨px, hpx⟩ : ∃ p, p = x + vx zs 0 := ⟨_, rfl⟩
  obtain ⟨py, hpy⟩ : ∃ p, p = y + vy zs 0 := ⟨_, rfl⟩
  have g0 : IntKind.i64.wrap (x + vx zs 0) = px := by rw [hpx]; exact IntWalk.i64_in _ (by omega)
  have g1 : IntKind.i64.wrap (y + vy zs 0) = py := by rw [hpy]; exact IntWalk.i64_in _ (by omega)
  have Hhpx := Lib.hid hpx; have Hhpy := Lib.hid hpy; clear hpx hpy
  refine wp_region_calm1 33 5 #[.int .i64 0, .int .i64 0, .int .i64 0, .int .i64 0] 47 rfl (by kernel_rfl) (by kernel_rfl) (fun o ho ev w => by have ho' := Option.some.inj ho; rw [← ho']; exact rfl) fun NL hL => ?_; obtain ⟨hNL, hlc, hlf⟩ := hL; (try simp only [World.size_alloc, World.size_setCell, World.size_drew] at hNL); simp only [List.take_succ_cons, List.take_zero, List.drop_succ_cons, List.drop_zero]
  repeat ((refine wpCalm_go (fun K hK => ?_); go_simp; (repeat (simp only [↓IntWalk.iteOmega]; (try go_simp)))); first | (refine hK _ ?_; clear hK K) | (apply Exists.intro; refine ⟨fun x => ?_, hK _ ?_⟩; (first | (with_reducible exact calm_call (Hca.out _))); clear hK K))
  refine wpCalm_nil ?_
  intro b5 w5 hb5 hk5 hkf5 hkn5 hks5
  (try simp only [World.size_alloc, World.size_setCell, World.size_drew] at hkn5)
  simp only [Act.put, List.setIfInBounds_toArray, List.set_cons_zero, List.set_cons_succ]
  clear hlc hlf hNL NL
  obtain ⟨N5, hN5, hc5, hf5, hs5⟩ := bcell hb5
  (try simp only [World.size_alloc, World.size_setCell, World.size_drew] at hN5)
  go_wp2
  obtain ⟨W0, hW0⟩ : ∃ W0, W0 = (((w5.setCell ⟨b5, 0, none⟩ (.int .i64 px)).setCell ⟨b5, 1, none⟩ (.int .i64 py)).setCell ⟨b5, 2, none⟩ (.int .i64 px)).setCell ⟨b5, 3, none⟩ (.int .i64 py) := ⟨_, rfl⟩
  have st0 : BSt w W0 (w.heap.size + 1) (w.heap.size + 1 + 1) b5 x y px py px py := by
    rw [hW0]
    apply BSt.mk
    case below => (repeat (first | (with_reducible exact Below.refl _ _) | (with_reducible refine Below.drew ?_) | (with_reducible refine below_drewN ?_ _) | (with_reducible refine Below.setCell ?_ (by first | (simp; done) | (simp; omega) | omega) _) | (with_reducible refine Below.alloc ?_ (by first | (simp; done) | (simp; omega) | omega) _) | (with_reducible refine Below.trans ?_ (Below.mono (by assumption) (by first | (simp; done) | (simp; omega) | omega))) | (with_reducible refine Below.trans ?_ (Below.mono (Later.below _) (by first | (simp; done) | (simp; omega) | omega)))))
    case rf => intro i; simp [hf5, allocF_if, ↓IntWalk.iteOmega]
    case cf => intro i; simp [hkf5]
    case c0 => simp [setCell_if, hk5]
    case c1 => simp [setCell_if, hk5]
    case c2 => simp [setCell_if, hk5]
    case c3 => simp [setCell_if, hk5]
    all_goals first | omega | (simp [hc5, hk5, hf5, hkf5, setCell_if, alloc_if, allocF_if, ↓IntWalk.iteOmega]; done)
  have q4 : W0.cell? ⟨w.heap.size, 1, none⟩ = some (.slice (some ⟨b, o, none⟩) len cap) := by
    rw [hW0]
    simp only [setCell_if, if_neg (show ¬ w.heap.size = b5 by omega)]
    simp [hc5, alloc_if, ↓IntWalk.iteOmega]
  rw [← hW0]
  clear hW0 hk5 hkf5 hks5 hc5 hf5 hs5 hN5 hb5 v0 v1 hal hfal hst g0 g1 b0
  have hnS : ¬ w.heap.size = b5 := by omega
  have st0' : BSt w W0 (w.heap.size + 1) (w.heap.size + 1 + 1) b5 x y (rnT (fun i => x + vx zs i) 0) (rnT (fun i => y + vy zs i) 0) (rxT (fun i => x + vx zs i) 0) (rxT (fun i => y + vy zs i) 0) := by
    rw [Hhpx.out, Hhpy.out] at st0
    exact st0
  clear st0 Hhpx Hhpy
  go_loopw [6] (fun i wr => ∃ k : Nat, k ≤ len ∧ i = .int .i64 k ∧ BSt w wr (w.heap.size + 1) (w.heap.size + 1 + 1) b5 x y (rnT (fun i => x + vx zs i) k) (rnT (fun i => y + vy zs i) k) (rxT (fun i => x + vx zs i) k) (rxT (fun i => y + vy zs i) k) ∧ wr.cell? ⟨w.heap.size, 1, none⟩ = some (.slice (some ⟨b, o, none⟩) len cap))
    (fun i _ => len - (intOf i).toNat)
  case atStart => exact ⟨0, Nat.zero_le _, rfl, st0', q4⟩
  case round =>
    obtain ⟨k, hk, rfl, st, r4⟩ := hrel
    clear st0' q4
    by_cases hlt : k < len
    · have v0 := cell_below st.below (hcell k (by omega)).1
      have v1 := cell_below st.below (hcell k (by omega)).2
      have hws := st.below.size
      have s_p0 := st.p0
      have s_p1 := st.p1
      have s_c0 := st.c0
      have s_c1 := st.c1
      have s_c2 := st.c2
      have s_c3 := st.c3
      have s_cf := st.cf
      have l6 := World.block_lt_of_cell? _ _ st.c0
      have l3 := World.block_lt_of_cell? _ _ st.p0
      simp only at l6 l3
      have ca := Hca.out k
      have bk := hz k
      obtain ⟨px, hpx⟩ : ∃ p, p = x + vx zs k := ⟨_, rfl⟩
      obtain ⟨py, hpy⟩ : ∃ p, p = y + vy zs k := ⟨_, rfl⟩
      rw [← hpx, ← hpy] at ca
      have HHca := Lib.hid ca
      clear ca
      obtain ⟨e0, he0⟩ : ∃ e, e = rnT (fun i => x + vx zs i) k := ⟨_, rfl⟩
      obtain ⟨e1, he1⟩ : ∃ e, e = rnT (fun i => y + vy zs i) k := ⟨_, rfl⟩
      obtain ⟨e2, he2⟩ : ∃ e, e = rxT (fun i => x + vx zs i) k := ⟨_, rfl⟩
      obtain ⟨e3, he3⟩ : ∃ e, e = rxT (fun i => y + vy zs i) k := ⟨_, rfl⟩
      rw [← he0] at s_c0
      rw [← he1] at s_c1
      rw [← he2] at s_c2
      rw [← he3] at s_c3
      have Hhe0 := Lib.hid he0; have Hhe1 := Lib.hid he1; have Hhe2 := Lib.hid he2; have Hhe3 := Lib.hid he3; have Hhpx := Lib.hid hpx; have Hhpy := Lib.hid hpy; clear he0 he1 he2 he3 hpx hpy
      have hltI : (k : Int) < (len : Int) := by omega
      have hal := alloc_if; have hfal := allocF_if
      go_wp2
      refine wp_region_calm1 7 7 #[.int .i64 0, .int .i64 0] 29 rfl (by kernel_rfl) (by kernel_rfl) (fun o ho ev w => by have ho' := Option.some.inj ho; rw [← ho']; exact rfl) fun NL hL => ?_; obtain ⟨hNL, hlc, hlf⟩ := hL; (try simp only [World.size_alloc, World.size_setCell, World.size_drew] at hNL); simp only [List.take_succ_cons, List.take_zero, List.drop_succ_cons, List.drop_zero]
      repeat ((refine wpCalm_go (fun K hK => ?_); go_simp; (repeat (simp only [↓IntWalk.iteOmega]; (try go_simp)))); first | (refine hK _ ?_; clear hK K) | (apply Exists.intro; refine ⟨fun x => ?_, hK _ ?_⟩; (first | (with_reducible exact calm_call (HHca.out _))); clear hK K))
      refine wpCalm_nil ?_
      intro b7 w7 hb7 hk7 hkf7 hkn7 hks7
      simp only [Act.put, List.setIfInBounds_toArray, List.set_cons_zero, List.set_cons_succ]
      clear hlc hlf hNL NL
      have st7 := st.later hb7
      have n75 : ¬ b7 = b5 := by omega
      have hst := setCell_if
      clear s_c0 s_c1 s_c2 s_c3 s_cf s_p0 s_p1 v0 v1 l6 l3
      have s_c0 := st7.c0
      have s_c1 := st7.c1
      have s_c2 := st7.c2
      have s_c3 := st7.c3
      have s_cf := st7.cf
      rw [← Hhe0.out] at s_c0
      rw [← Hhe1.out] at s_c1
      rw [← Hhe2.out] at s_c2
      rw [← Hhe3.out] at s_c3
      have n57 : ¬ b5 = b7 := by omega
      have r7 := cell_below hb7 r4
      go_wp2
      have l4 := World.block_lt_of_cell? _ _ r4
      simp only at l4
      have n7S : ¬ w.heap.size = b7 := by omega
      refine ⟨⟨k + 1, by omega, by go_num, ?_, ?_⟩, by simp [intOf]; omega⟩
      · have st8 := (st.later (show Below wr.heap.size wr ((w7.setCell ⟨b7, 0, none⟩ (.int .i64 px)).setCell ⟨b7, 1, none⟩ (.int .i64 py)) from (hb7.setCell (p := ⟨b7, 0, none⟩) hkn7 _).setCell (p := ⟨b7, 1, none⟩) hkn7 _)).set4 (min e0 px) (min e1 py) (max e2 px) (max e3 py)
        have g0 : rnT (fun i => x + vx zs i) (k + 1) = min e0 px := by rw [Hhe0.out, Hhpx.out]; rfl
        have g1 : rnT (fun i => y + vy zs i) (k + 1) = min e1 py := by rw [Hhe1.out, Hhpy.out]; rfl
        have g2 : rxT (fun i => x + vx zs i) (k + 1) = max e2 px := by rw [Hhe2.out, Hhpx.out]; rfl
        have g3 : rxT (fun i => y + vy zs i) (k + 1) = max e3 py := by rw [Hhe3.out, Hhpy.out]; rfl
        rw [g0, g1, g2, g3]
        exact st8
      · simp only [setCell_if, if_neg hnS, if_neg n7S]
        exact r7
    · obtain rfl : k = len := by omega
      have s_c0 := st.c0
      have s_c1 := st.c1
      have s_c2 := st.c2
      have s_c3 := st.c3
      have s_r0 := st.r0
      have s_r1 := st.r1
      have s_r2 := st.r2
      have s_r3 := st.r3
      have s_rf := st.rf
      have hst := setCell_if
      obtain ⟨m0, hm0⟩ : ∃ e, e = rnT (fun i => x + vx zs i) k := ⟨_, rfl⟩
      obtain ⟨m1, hm1⟩ : ∃ e, e = rnT (fun i => y + vy zs i) k := ⟨_, rfl⟩
      obtain ⟨m2, hm2⟩ : ∃ e, e = rxT (fun i => x + vx zs i) k := ⟨_, rfl⟩
      obtain ⟨m3, hm3⟩ : ∃ e, e = rxT (fun i => y + vy zs i) k := ⟨_, rfl⟩
      rw [← hm0] at s_c0
      rw [← hm1] at s_c1
      rw [← hm2] at s_c2
      rw [← hm3] at s_c3
      have Hhm0 := Lib.hid hm0; have Hhm1 := Lib.hid hm1; have Hhm2 := Lib.hid hm2; have Hhm3 := Lib.hid hm3; clear hm0 hm1 hm2 hm3
      go_wp2
      refine bodyPost_ret (v := .agg #[.int .i64 m0, .int .i64 m1, .int .i64 m2, .int .i64 m3]) (by simp [results, Try.results49, go_sem, hst, s_r0, s_r1, s_r2, s_r3]) rfl ⟨?_, ?_⟩
      · obtain ⟨j, rfl⟩ : ∃ j, k = j + 1 := ⟨k - 1, by omega⟩
        rw [Hhm0.out, Hhm1.out, Hhm2.out, Hhm3.out, rnT_succ, rnT_succ, rxT_succ, rxT_succ]
        rfl
      · have hbl := st.below
        repeat (refine Below.setCell ?_ (by simp; omega) _)
        exact hbl
end Go.Proofs.Ytcgcapfppceggaa.Sh
