/-
  Contracts of Bounds.
  Conditions: the exact numbers fit 64 bits.
-/
import Derived.Test.YtcgcapfppceggaaShA
import Derived.Test.YtcgcapfppceggaaQk
import Derived.RegionTactic
import Derived.BigRegion
import Derived.LoopTactic
namespace Go.Proofs.Ytcgcapfppceggaa.Sh
open Go.RowKit Go.Proofs.Ytcgcapfppceggaa.FxMath Go.Proofs.Ytcgcapfppceggaa.FxA Go.Proofs.Ytcgcapfppceggaa.Qt Go.Proofs.Ytcgcapfppceggaa.Ve Go.Shelf
set_option linter.unusedVariables false
set_option linter.unusedSimpArgs false

/-- The least and the greatest of f 0, .., f k. -/
def mnTo (f : Nat → Int) : Nat → Int
  | 0 => f 0
  | k + 1 => min (mnTo f k) (f (k + 1))
def mxTo (f : Nat → Int) : Nat → Int
  | 0 => f 0
  | k + 1 => max (mxTo f k) (f (k + 1))

structure BSt (w W : World) (B3 B4 B6 : Nat) (x y b0 b1 b2 b3 : Int) : Prop where
  below : Below w.heap.size w W
  h4 : w.heap.size ≤ B4
  h6 : w.heap.size ≤ B6
  n36 : B3 ≠ B6
  n46 : B4 ≠ B6
  p0 : W.cell? ⟨B3, 0, none⟩ = some (.int .i64 x)
  p1 : W.cell? ⟨B3, 1, none⟩ = some (.int .i64 y)
  r0 : W.cell? ⟨B4, 0, none⟩ = some (.int .i64 0)
  r1 : W.cell? ⟨B4, 1, none⟩ = some (.int .i64 0)
  r2 : W.cell? ⟨B4, 2, none⟩ = some (.int .i64 0)
  r3 : W.cell? ⟨B4, 3, none⟩ = some (.int .i64 0)
  rf : ∀ i, W.frozen? ⟨B4, i, none⟩ = false
  c0 : W.cell? ⟨B6, 0, none⟩ = some (.int .i64 b0)
  c1 : W.cell? ⟨B6, 1, none⟩ = some (.int .i64 b1)
  c2 : W.cell? ⟨B6, 2, none⟩ = some (.int .i64 b2)
  c3 : W.cell? ⟨B6, 3, none⟩ = some (.int .i64 b3)
  cf : ∀ i, W.frozen? ⟨B6, i, none⟩ = false
theorem frozen_below {W W' : World} (hb : Below W.heap.size W W') {b o i : Nat} {v : Value} (hc : W.cell? ⟨b, o, none⟩ = some v) (hf : W.frozen? ⟨b, i, none⟩ = false) : W'.frozen? ⟨b, i, none⟩ = false :=
  (hb.frozen (p := ⟨b, i, none⟩) (World.block_lt_of_cell? W ⟨b, o, none⟩ hc)).trans hf
theorem BSt.later {w W W' : World} {B3 B4 B6 : Nat} {x y b0 b1 b2 b3 : Int} (s : BSt w W B3 B4 B6 x y b0 b1 b2 b3) (hb : Below W.heap.size W W') : BSt w W' B3 B4 B6 x y b0 b1 b2 b3 :=
  ⟨s.below.trans (hb.mono s.below.size), s.h4, s.h6, s.n36, s.n46, cell_below hb s.p0, cell_below hb s.p1, cell_below hb s.r0, cell_below hb s.r1, cell_below hb s.r2, cell_below hb s.r3, fun i => frozen_below hb s.r0 (s.rf i), cell_below hb s.c0, cell_below hb s.c1, cell_below hb s.c2, cell_below hb s.c3, fun i => frozen_below hb s.c0 (s.cf i)⟩
theorem BSt.set02 {w W : World} {B3 B4 B6 : Nat} {x y b0 b1 b2 b3 : Int} (s : BSt w W B3 B4 B6 x y b0 b1 b2 b3) (d d' : Int) :
    BSt w ((W.drew.setCell ⟨B6, 0, none⟩ (.int .i64 d)).setCell ⟨B6, 2, none⟩ (.int .i64 d')) B3 B4 B6 x y d b1 d' b3 :=
  have s := s.later (W' := W.drew) (Below.refl _ _).drew
  ⟨(s.below.setCell (p := ⟨B6, 0, none⟩) s.h6 _).setCell (p := ⟨B6, 2, none⟩) s.h6 _, s.h4, s.h6, s.n36, s.n46,
    by simp only [setCell_if, s.n36, if_false, s.p0], by simp only [setCell_if, s.n36, if_false, s.p1], by simp only [setCell_if, s.n46, if_false, s.r0], by simp only [setCell_if, s.n46, if_false, s.r1], by simp only [setCell_if, s.n46, if_false, s.r2], by simp only [setCell_if, s.n46, if_false, s.r3], fun i => by simpa using s.rf i,
    by simp [setCell_if, s.c0], by simp [setCell_if, s.c1], by simp [setCell_if, s.c2], by simp [setCell_if, s.c3], fun i => by simpa using s.cf i⟩
theorem BSt.set13 {w W : World} {B3 B4 B6 : Nat} {x y b0 b1 b2 b3 : Int} (s : BSt w W B3 B4 B6 x y b0 b1 b2 b3) (d d' : Int) :
    BSt w ((W.drew.setCell ⟨B6, 1, none⟩ (.int .i64 d)).setCell ⟨B6, 3, none⟩ (.int .i64 d')) B3 B4 B6 x y b0 d b2 d' :=
  have s := s.later (W' := W.drew) (Below.refl _ _).drew
  ⟨(s.below.setCell (p := ⟨B6, 1, none⟩) s.h6 _).setCell (p := ⟨B6, 3, none⟩) s.h6 _, s.h4, s.h6, s.n36, s.n46,
    by simp only [setCell_if, s.n36, if_false, s.p0], by simp only [setCell_if, s.n36, if_false, s.p1], by simp only [setCell_if, s.n46, if_false, s.r0], by simp only [setCell_if, s.n46, if_false, s.r1], by simp only [setCell_if, s.n46, if_false, s.r2], by simp only [setCell_if, s.n46, if_false, s.r3], fun i => by simpa using s.rf i,
    by simp [setCell_if, s.c0], by simp [setCell_if, s.c1], by simp [setCell_if, s.c2], by simp [setCell_if, s.c3], fun i => by simpa using s.cf i⟩
set_option maxHeartbeats 2000000 in
theorem bounds_circle (r x y : Int) (a : Option Addr) (cap : Nat) (hr : -100000000 ≤ r ∧ r ≤ 100000000) (hx : -100000000 ≤ x ∧ x ≤ 100000000) (hy : -100000000 ≤ y ∧ y ≤ 100000000) :
    Gives Try.prog 31 #[.agg #[.int .i64 r, .slice a 0 cap], .agg #[.int .i64 x, .int .i64 y]] (.agg #[.int .i64 (x - r), .int .i64 (y - r), .int .i64 (x + r), .int .i64 (y + r)]) := by
  intro w
  have c2 := isCircle_yes r a cap
  have Hc2 := Lib.hid c2; clear c2
  have hal := alloc_if; have hfal := allocF_if
  have hst := setCell_if
  go_enter Try.func31, Try.ntmps31
  go_wp2_with (first | ((with_reducible refine (Hc2.out _).mono ?_); rintro e wB ⟨rfl, hbB⟩; obtain ⟨NB, hNB, hcB, hfB, hsB⟩ := bcell hbB; (try simp only [World.size_alloc, World.size_setCell, World.size_drew] at hNB)))
  refine bodyPost_ret (v := .agg #[.int .i64 (x - r), .int .i64 (y - r), .int .i64 (x + r), .int .i64 (y + r)]) (by simp [results, Try.results31, go_sem, hst, hcB, alloc_if, ↓IntWalk.iteOmega]) rfl ⟨rfl, ?_⟩
  (repeat (first | (with_reducible exact Below.refl _ _) | (with_reducible refine Below.drew ?_) | (with_reducible refine below_drewN ?_ _) | (with_reducible refine Below.setCell ?_ (by first | (simp; done) | (simp; omega) | omega) _) | (with_reducible refine Below.alloc ?_ (by first | (simp; done) | (simp; omega) | omega) _) | (with_reducible refine Below.trans ?_ (Below.mono (by assumption) (by first | (simp; done) | (simp; omega) | omega))) | (with_reducible refine Below.trans ?_ (Below.mono (Later.below _) (by first | (simp; done) | (simp; omega) | omega)))))

set_option maxRecDepth 100000 in
set_option maxHeartbeats 4000000 in
theorem bounds_poly (r : Int) (a : Option Addr) (len cap : Nat) (zs : List (Int × Int)) (x y : Int) (w : World) (h : IsPoly w a len cap zs) (h1 : 2 ≤ len) (h2 : len ≤ 1000) (hz : Bd zs 50000) (hx : -100000000 ≤ x ∧ x ≤ 100000000) (hy : -100000000 ≤ y ∧ y ≤ 100000000) :
    Calls Try.prog 31 #[.agg #[.int .i64 r, .slice a len cap], .agg #[.int .i64 x, .int .i64 y]] w fun e w' => e = .returned (.agg #[.int .i64 (mnTo (fun i => x + vx zs i) (len - 1)), .int .i64 (mnTo (fun i => y + vy zs i) (len - 1)), .int .i64 (mxTo (fun i => x + vx zs i) (len - 1)), .int .i64 (mxTo (fun i => y + vy zs i) (len - 1))]) ∧ Below w.heap.size w w' := by
  have c2 := isCircle_no r a len cap (by omega) h2
  have ca := fun (i : Nat) => add_any x y (vx zs i) (vy zs i) (by have := hz i; omega) (by have := hz i; omega) (by have := hz i; omega) (by have := hz i; omega)
  have ca0 := ca 0
  rcases h with ⟨_, h0, _⟩ | ⟨b, o, rfl, hzl, hle, hcm, hcell⟩
  · omega
  unfold maxLen at hcm
  have v0 := (hcell 0 (by omega)).1
  have v1 := (hcell 0 (by omega)).2
  have lb := World.block_lt_of_cell? w _ v0
  simp only [Nat.zero_mul, Nat.add_zero] at lb v0 v1
  have hcap : ((cap : Int) == 1) = false := beq_eq_false_iff_ne.2 (by omega)
  have Hc2 := Lib.hid c2; have Hca0 := Lib.hid ca0; clear c2 ca0
  have Hca := Lib.hid ca
  clear ca
  have hal := alloc_if; have hfal := allocF_if
  have hst := setCell_if
  go_enter Try.func31, Try.ntmps31
  go_wp2_with (first | ((with_reducible refine (Hc2.out _).mono ?_); rintro e wB ⟨rfl, hbB⟩; obtain ⟨NB, hNB, hcB, hfB, hsB⟩ := bcell hbB; (try simp only [World.size_alloc, World.size_setCell, World.size_drew] at hNB)))
  refine wp_region_calm1 6 5 #[.int .i64 0, .int .i64 0] 29 rfl (by kernel_rfl) (by kernel_rfl) (fun o ho ev w => by have ho' := Option.some.inj ho; rw [← ho']; exact rfl) fun NL hL => ?_; obtain ⟨hNL, hlc, hlf⟩ := hL; (try simp only [World.size_alloc, World.size_setCell, World.size_drew] at hNL); simp only [List.take_succ_cons, List.take_zero, List.drop_succ_cons, List.drop_zero]
  repeat ((refine wpCalm_go (fun K hK => ?_); go_simp; (repeat (simp only [↓IntWalk.iteOmega]; (try go_simp)))); first | (refine hK _ ?_; clear hK K) | (apply Exists.intro; refine ⟨fun x => ?_, hK _ ?_⟩; (first | (with_reducible exact calm_call (Hca0.out _))); clear hK K))
  refine wpCalm_nil ?_
  intro b5 w5 hb5 hk5 hkf5 hkn5 hks5
  (try simp only [World.size_alloc, World.size_setCell, World.size_drew] at hkn5)
  simp only [Act.put, List.setIfInBounds_toArray, List.set_cons_zero, List.set_cons_succ]
  clear hlc hlf hNL NL
  obtain ⟨N5, hN5, hc5, hf5, hs5⟩ := bcell hb5
  (try simp only [World.size_alloc, World.size_setCell, World.size_drew] at hN5)
  go_wp2
  obtain ⟨W0, hW0⟩ : ∃ W0, W0 = (((w5.setCell ⟨b5, 0, none⟩ (.int .i64 (x + vx zs 0))).setCell ⟨b5, 1, none⟩ (.int .i64 (y + vy zs 0))).alloc (.cells #[.int .i64 (x + vx zs 0), .int .i64 (y + vy zs 0), .int .i64 (x + vx zs 0), .int .i64 (y + vy zs 0)] 47)) := ⟨_, rfl⟩
  have st0 : BSt w W0 (w.heap.size + 1) (w.heap.size + 1 + 1) w5.heap.size x y (mnTo (fun i => x + vx zs i) 0) (mnTo (fun i => y + vy zs i) 0) (mxTo (fun i => x + vx zs i) 0) (mxTo (fun i => y + vy zs i) 0) := by
    rw [hW0]
    apply BSt.mk
    case below => (repeat (first | (with_reducible exact Below.refl _ _) | (with_reducible refine Below.drew ?_) | (with_reducible refine below_drewN ?_ _) | (with_reducible refine Below.setCell ?_ (by first | (simp; done) | (simp; omega) | omega) _) | (with_reducible refine Below.alloc ?_ (by first | (simp; done) | (simp; omega) | omega) _) | (with_reducible refine Below.trans ?_ (Below.mono (by assumption) (by first | (simp; done) | (simp; omega) | omega))) | (with_reducible refine Below.trans ?_ (Below.mono (Later.below _) (by first | (simp; done) | (simp; omega) | omega)))))
    case rf => intro i; rw [allocF_if, if_pos (by simp; omega)]; simp [hf5, hfB, allocF_if, ↓IntWalk.iteOmega]
    all_goals first | omega | (simp [mnTo, mxTo, hcB, hc5, hfB, hf5, setCell_if, alloc_if, allocF_if, ↓IntWalk.iteOmega]; done) | (intro i; simp [hcB, hc5, hfB, hf5, alloc_if, allocF_if, ↓IntWalk.iteOmega]; done)
  rw [← hW0]
  obtain ⟨B6, hB6⟩ : ∃ B6, B6 = w5.heap.size := ⟨_, rfl⟩
  rw [← hB6] at st0 ⊢
  clear hW0 hB6 hk5 hkf5 hkn5 hks5 hc5 hf5 hs5 hN5 hb5 hcB hfB hsB hNB hbB v0 v1 Hc2 Hca0 hal hfal hst hcap
  go_loopw [52] (fun i wr => ∃ k : Nat, k ≤ len - 1 ∧ i = .int .i64 k ∧ BSt w wr (w.heap.size + 1) (w.heap.size + 1 + 1) B6 x y (mnTo (fun i => x + vx zs i) k) (mnTo (fun i => y + vy zs i) k) (mxTo (fun i => x + vx zs i) k) (mxTo (fun i => y + vy zs i) k))
    (fun i _ => len - 1 - (intOf i).toNat)
  case atStart => exact ⟨0, Nat.zero_le _, rfl, st0⟩
  case round =>
    obtain ⟨k, hk, rfl, st⟩ := hrel
    clear st0
    by_cases hlt : k < len - 1
    · have v0 := cell_below st.below (hcell (k + 1) (by omega)).1
      have v1 := cell_below st.below (hcell (k + 1) (by omega)).2
      rw [show o + (k + 1) * 2 = o + 2 + k * 2 by omega] at v0 v1
      have hws := st.below.size
      have s_p0 := st.p0
      have s_p1 := st.p1
      have l6 := World.block_lt_of_cell? _ _ st.c0
      have l3 := World.block_lt_of_cell? _ _ st.p0
      simp only at l6 l3
      have ca := Hca.out (k + 1)
      have HHca := Lib.hid ca
      clear ca
      have hal := alloc_if; have hfal := allocF_if
      go_wp2_with (first | ((with_reducible refine (HHca.out _).mono ?_); rintro e wC ⟨rfl, hbC⟩; obtain ⟨NC, hNC, hcC, hfC, hsC⟩ := bcell hbC; (try simp only [World.size_alloc, World.size_setCell, World.size_drew] at hNC)))
      obtain ⟨W2, hW2⟩ : ∃ W2, W2 = wC.alloc (.cells #[.int .i64 (x + vx zs (k + 1)), .int .i64 (y + vy zs (k + 1))] 29) := ⟨_, rfl⟩
      have st2 := st.later (show Below wr.heap.size wr W2 by rw [hW2]; (repeat (first | (with_reducible exact Below.refl _ _) | (with_reducible refine Below.drew ?_) | (with_reducible refine below_drewN ?_ _) | (with_reducible refine Below.setCell ?_ (by first | (simp; done) | (simp; omega) | omega) _) | (with_reducible refine Below.alloc ?_ (by first | (simp; done) | (simp; omega) | omega) _) | (with_reducible refine Below.trans ?_ (Below.mono (by assumption) (by first | (simp; done) | (simp; omega) | omega))) | (with_reducible refine Below.trans ?_ (Below.mono (Later.below _) (by first | (simp; done) | (simp; omega) | omega))))))
      have d0 : W2.cell? ⟨wC.heap.size, 0, none⟩ = some (.int .i64 (x + vx zs (k + 1))) := by rw [hW2]; exact World.cell?_alloc_new wC _ _ 0
      have d1 : W2.cell? ⟨wC.heap.size, 1, none⟩ = some (.int .i64 (y + vy zs (k + 1))) := by rw [hW2]; exact World.cell?_alloc_new wC _ _ 1
      have n96 : ¬ wC.heap.size = B6 := by omega
      rw [← hW2]
      obtain ⟨C9, hC9⟩ : ∃ C9, C9 = wC.heap.size := ⟨_, rfl⟩
      rw [← hC9] at d0 d1 n96 ⊢
      clear st hal hfal hcC hfC hsC hNC hbC hW2 hC9 s_p0 s_p1 HHca
      have s_c0 := st2.c0
      have s_c1 := st2.c1
      have s_c2 := st2.c2
      have s_c3 := st2.c3
      have s_cf := st2.cf
      have l6' := World.block_lt_of_cell? _ _ st2.c0
      have l9' := World.block_lt_of_cell? _ _ d0
      simp only at l6' l9'
      have hst := setCell_if
      have bk := hz (k + 1)
      obtain ⟨e0, he0⟩ : ∃ e, e = mnTo (fun i => x + vx zs i) k := ⟨_, rfl⟩
      obtain ⟨e1, he1⟩ : ∃ e, e = mnTo (fun i => y + vy zs i) k := ⟨_, rfl⟩
      obtain ⟨e2, he2⟩ : ∃ e, e = mxTo (fun i => x + vx zs i) k := ⟨_, rfl⟩
      obtain ⟨e3, he3⟩ : ∃ e, e = mxTo (fun i => y + vy zs i) k := ⟨_, rfl⟩
      rw [← he0] at s_c0
      rw [← he1] at s_c1
      rw [← he2] at s_c2
      rw [← he3] at s_c3
      have Hhe0 := Lib.hid he0; have Hhe1 := Lib.hid he1; have Hhe2 := Lib.hid he2; have Hhe3 := Lib.hid he3; clear he0 he1 he2 he3
      obtain ⟨px, hpx⟩ : ∃ p, p = x + vx zs (k + 1) := ⟨_, rfl⟩
      obtain ⟨py, hpy⟩ : ∃ p, p = y + vy zs (k + 1) := ⟨_, rfl⟩
      rw [← hpx] at d0
      rw [← hpy] at d1
      have Hhpx := Lib.hid hpx; have Hhpy := Lib.hid hpy; clear hpx hpy
      refine wp_region_two B6 [0, 1, 2, 3, 4, 5, 6, 10] [7, 8, 9] [11, 12, 13] 11 (by kernel_rfl) (by kernel_rfl) fun NL hL hL2 => ?_
      obtain ⟨hNL, hlc, hlf⟩ := hL
      obtain ⟨_, hl2⟩ := hL2
      simp only [List.map_cons, List.map_nil, List.getD_cons_zero, List.getD_cons_succ]
      repeat (go_big_quiet_step (fail))
      refine wpQuiet_nil ?_
      repeat (go_big_quiet_step (fail))
      refine wpQuiet_nil ?_
      clear hlc hlf hl2 hNL
      have hO0 : W2.grownBy (W2.drew.setCell ⟨B6, 0, none⟩ (.int .i64 (min e0 px))) (some B6) := only_set (only_of_below (Below.refl _ _).drew B6) rfl _
      refine wpListS_skip (w1 := W2.drew.setCell ⟨B6, 0, none⟩ (.int .i64 (min e0 px))) rfl (by go_simp) ⟨⟨_, hO0⟩, rfl⟩ ?_
      simp only [Act.put, List.setIfInBounds_toArray, List.set_cons_zero, List.set_cons_succ]
      refine wpListS_value (v := .pointer (some ⟨B6, 2, none⟩)) (w1 := W2.drew.setCell ⟨B6, 0, none⟩ (.int .i64 (min e0 px))) rfl (by go_simp) ⟨⟨_, hO0⟩, rfl⟩ ?_
      simp only [Act.put, List.setIfInBounds_toArray, List.set_cons_zero, List.set_cons_succ]
      have hO1 : W2.grownBy ((W2.drew.setCell ⟨B6, 0, none⟩ (.int .i64 (min e0 px))).setCell ⟨B6, 2, none⟩ (.int .i64 (max e2 px))) (some B6) := only_set hO0 rfl _
      refine wpListS_skip (w1 := (W2.drew.setCell ⟨B6, 0, none⟩ (.int .i64 (min e0 px))).setCell ⟨B6, 2, none⟩ (.int .i64 (max e2 px))) rfl (by go_simp) ⟨⟨_, hO1⟩, rfl⟩ ?_
      simp only [Act.put, List.setIfInBounds_toArray, List.set_cons_zero, List.set_cons_succ]
      refine wpListS_nil ?_
      clear hO0 hO1
      obtain ⟨W3, hW3⟩ : ∃ W3, W3 = (W2.drew.setCell ⟨B6, 0, none⟩ (.int .i64 (min e0 px))).setCell ⟨B6, 2, none⟩ (.int .i64 (max e2 px)) := ⟨_, rfl⟩
      have st3 := st2.set02 (min e0 px) (max e2 px)
      have d1' : W3.cell? ⟨C9, 1, none⟩ = some (.int .i64 py) := by rw [hW3]; simp [setCell_if, n96, d1]
      rw [← hW3] at st3 ⊢
      clear s_c0 s_c1 s_c2 s_c3 s_cf d0 d1 hW3 l6' l9' st2
      have s_c1 := st3.c1
      have s_c3 := st3.c3
      have s_cf := st3.cf
      rw [← Hhe1.out] at s_c1
      rw [← Hhe3.out] at s_c3
      have l6' := World.block_lt_of_cell? _ _ st3.c0
      have l9' := World.block_lt_of_cell? _ _ d1'
      simp only at l6' l9'
      go_wp2
      refine wp_region_two B6 [0, 1, 2, 3, 4, 5, 6, 10] [7, 8, 9] [11, 12, 13] 11 (by kernel_rfl) (by kernel_rfl) fun NL hL hL2 => ?_
      obtain ⟨hNL, hlc, hlf⟩ := hL
      obtain ⟨_, hl2⟩ := hL2
      simp only [List.map_cons, List.map_nil, List.getD_cons_zero, List.getD_cons_succ]
      repeat (go_big_quiet_step (fail))
      refine wpQuiet_nil ?_
      repeat (go_big_quiet_step (fail))
      refine wpQuiet_nil ?_
      clear hlc hlf hl2 hNL
      have hO0 : W3.grownBy (W3.drew.setCell ⟨B6, 1, none⟩ (.int .i64 (min e1 py))) (some B6) := only_set (only_of_below (Below.refl _ _).drew B6) rfl _
      refine wpListS_skip (w1 := W3.drew.setCell ⟨B6, 1, none⟩ (.int .i64 (min e1 py))) rfl (by go_simp) ⟨⟨_, hO0⟩, rfl⟩ ?_
      simp only [Act.put, List.setIfInBounds_toArray, List.set_cons_zero, List.set_cons_succ]
      refine wpListS_value (v := .pointer (some ⟨B6, 3, none⟩)) (w1 := W3.drew.setCell ⟨B6, 1, none⟩ (.int .i64 (min e1 py))) rfl (by go_simp) ⟨⟨_, hO0⟩, rfl⟩ ?_
      simp only [Act.put, List.setIfInBounds_toArray, List.set_cons_zero, List.set_cons_succ]
      have hO1 : W3.grownBy ((W3.drew.setCell ⟨B6, 1, none⟩ (.int .i64 (min e1 py))).setCell ⟨B6, 3, none⟩ (.int .i64 (max e3 py))) (some B6) := only_set hO0 rfl _
      refine wpListS_skip (w1 := (W3.drew.setCell ⟨B6, 1, none⟩ (.int .i64 (min e1 py))).setCell ⟨B6, 3, none⟩ (.int .i64 (max e3 py))) rfl (by go_simp) ⟨⟨_, hO1⟩, rfl⟩ ?_
      simp only [Act.put, List.setIfInBounds_toArray, List.set_cons_zero, List.set_cons_succ]
      refine wpListS_nil ?_
      clear hO0 hO1
      have st4 := st3.set13 (min e1 py) (max e3 py)
      obtain ⟨W4, hW4⟩ : ∃ W4, W4 = (W3.drew.setCell ⟨B6, 1, none⟩ (.int .i64 (min e1 py))).setCell ⟨B6, 3, none⟩ (.int .i64 (max e3 py)) := ⟨_, rfl⟩
      rw [← hW4] at st4 ⊢
      clear hW4 s_c1 s_c3 s_cf st3 d1' hst
      go_wp2
      go_roundw
      case rel =>
        rw [Hhe0.out, Hhe1.out, Hhe2.out, Hhe3.out, Hhpx.out, Hhpy.out] at st4
        exact ⟨k + 1, by omega, by go_num, st4⟩
      case measure => simp [intOf]; omega
    · obtain rfl : k = len - 1 := by omega
      have s_c0 := st.c0
      have s_c1 := st.c1
      have s_c2 := st.c2
      have s_c3 := st.c3
      have s_r0 := st.r0
      have s_r1 := st.r1
      have s_r2 := st.r2
      have s_r3 := st.r3
      have s_rf := st.rf
      have hst := setCell_if
      obtain ⟨m0, hm0⟩ : ∃ e, e = mnTo (fun i => x + vx zs i) (len - 1) := ⟨_, rfl⟩
      obtain ⟨m1, hm1⟩ : ∃ e, e = mnTo (fun i => y + vy zs i) (len - 1) := ⟨_, rfl⟩
      obtain ⟨m2, hm2⟩ : ∃ e, e = mxTo (fun i => x + vx zs i) (len - 1) := ⟨_, rfl⟩
      obtain ⟨m3, hm3⟩ : ∃ e, e = mxTo (fun i => y + vy zs i) (len - 1) := ⟨_, rfl⟩
      rw [← hm0] at s_c0
      rw [← hm1] at s_c1
      rw [← hm2] at s_c2
      rw [← hm3] at s_c3
      have Hhm0 := Lib.hid hm0; have Hhm1 := Lib.hid hm1; have Hhm2 := Lib.hid hm2; have Hhm3 := Lib.hid hm3; clear hm0 hm1 hm2 hm3
      go_wp2
      refine bodyPost_ret (v := .agg #[.int .i64 m0, .int .i64 m1, .int .i64 m2, .int .i64 m3]) (by simp [results, Try.results31, go_sem, hst, s_r0, s_r1, s_r2, s_r3]) rfl ⟨by rw [Hhm0.out, Hhm1.out, Hhm2.out, Hhm3.out], ?_⟩
      have hbl := st.below
      repeat (refine Below.setCell ?_ (by simp; omega) _)
      exact hbl
end Go.Proofs.Ytcgcapfppceggaa.Sh
