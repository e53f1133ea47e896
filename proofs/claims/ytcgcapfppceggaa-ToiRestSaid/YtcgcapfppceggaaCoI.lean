/-
  The reference of package collide: Equal, Collide.
  Conditions: stated in each contract.
-/
import Derived.Test.YtcgcapfppceggaaCoH
namespace Go.Proofs.Ytcgcapfppceggaa.Co
open Go.RowKit Go.Proofs.Ytcgcapfppceggaa.FxMath Go.Proofs.Ytcgcapfppceggaa.FxA Go.Proofs.Ytcgcapfppceggaa.Qt Go.Proofs.Ytcgcapfppceggaa.Ve Go.Proofs.Ytcgcapfppceggaa.Sh Go.Shelf
set_option linter.unusedVariables false
set_option linter.unusedSimpArgs false
attribute [local go_sem] Oper.semAt_some
set_option maxHeartbeats 2000000 in
theorem equal_same {w : World} {aa ab : Option Addr} {n ca cb : Nat} {zs : List (Int × Int)} (hA : IsPoly w aa n ca zs) (hB : IsPoly w ab n cb zs) (hn : n ≤ 1000) :
    Calls Try.prog 26 #[.slice aa n ca, .slice ab n cb] w fun e w' => e = .returned (.bool true) ∧ Below w.heap.size w w' := by
  go_enter Try.func26, Try.ntmps26
  go_wp2
  go_loopw [5] (fun i wr => ∃ k : Nat, k ≤ n ∧ i = .int .i64 k ∧ Below w.heap.size w wr) (fun i _ => n - (intOf i).toNat)
  case atStart => exact ⟨0, Nat.zero_le _, rfl, Below.refl _ _⟩
  case round =>
    obtain ⟨k, hk, rfl, hr⟩ := hrel
    by_cases hlt : k < n
    · have gA := hA.later hr
      have gB := hB.later hr
      rcases gA with ⟨_, h0, _⟩ | ⟨b, o, rfl, hzl, hle, hcm, hcell⟩
      · omega
      rcases gB with ⟨_, h0, _⟩ | ⟨b', o', rfl, hzl', hle', hcm', hcell'⟩
      · omega
      unfold maxLen at hcm hcm'
      have v0 := (hcell k hlt).1
      have v1 := (hcell k hlt).2
      have v2 := (hcell' k hlt).1
      have v3 := (hcell' k hlt).2
      have l0 := World.block_lt_of_cell? _ _ v0
      have l1 := World.block_lt_of_cell? _ _ v2
      simp only at l0 l1
      have hltI : (k : Int) < (n : Int) := by omega
      have hrs := hr.size
      clear hcell hcell' hA hB
      generalize vx zs k = x at *
      generalize vy zs k = y at *
      have hal := alloc_if; have hfal := allocF_if
      go_wp2
      refine wp_region_later (by kernel_rfl) (by kernel_rfl) fun NL hL => ?_; obtain ⟨hNL, hlc, hlf⟩ := hL; (try simp only [World.size_alloc, World.size_setCell, World.size_drew] at hNL)
      repeat (go_big_quiet_step (fail))
      (refine wpQuiet_nil ?_; intro w1 hw1; obtain ⟨⟨w1, hb1⟩, rfl⟩ := hw1; clear hlc hlf hNL NL; obtain ⟨N1, hN1, hc1, hf1, hs1⟩ := bcell hb1; (try simp only [World.size_alloc, World.size_setCell, World.size_drew] at hN1))
      go_wp2
      go_roundw
      case rel => exact ⟨k + 1, by omega, by go_num, by (repeat (first | (with_reducible exact Below.refl _ _) | (with_reducible refine Below.drew ?_) | (with_reducible refine below_drewN ?_ _) | (with_reducible refine Below.setCell ?_ (by first | (simp; done) | (simp; omega) | omega) _) | (with_reducible refine Below.alloc ?_ (by first | (simp; done) | (simp; omega) | omega) _) | (with_reducible refine Below.trans ?_ (Below.mono (by assumption) (by first | (simp; done) | (simp; omega) | omega))) | (with_reducible refine Below.trans ?_ (Below.mono (Later.below _) (by first | (simp; done) | (simp; omega) | omega)))))⟩
      case measure => simp [intOf]; omega
    · obtain rfl : k = n := by omega
      clear hA hB
      go_wp2
      go_ret
      exact ⟨rfl, hr⟩
/-- The best axis among the first ones, as cells. -/
def rb0 (D : Int × Int → Int) (l : List (Int × Int)) (k : Nat) : Int := match bst D (l.take k) with | none => 0 | some y => y.1
def rb1 (D : Int × Int → Int) (l : List (Int × Int)) (k : Nat) : Int := match bst D (l.take k) with | none => 0 | some y => y.2
def rb2 (D : Int × Int → Int) (l : List (Int × Int)) (k : Nat) : Int := match bst D (l.take k) with | none => 0 | some y => D y
theorem rb_zero (D : Int × Int → Int) (l : List (Int × Int)) : rb0 D l 0 = 0 ∧ rb1 D l 0 = 0 ∧ rb2 D l 0 = 0 := ⟨rfl, rfl, rfl⟩
theorem rb_step (D : Int × Int → Int) (l : List (Int × Int)) (k : Nat) (hk : k < l.length) (u v d : Int) (hu : u = vx l k) (hv : v = vy l k) (hd : d = D (u, v)) :
    (k = 0 ∨ d < rb2 D l k → rb0 D l (k + 1) = u ∧ rb1 D l (k + 1) = v ∧ rb2 D l (k + 1) = d) ∧
    (¬ k = 0 → ¬ d < rb2 D l k → rb0 D l (k + 1) = rb0 D l k ∧ rb1 D l (k + 1) = rb1 D l k ∧ rb2 D l (k + 1) = rb2 D l k) := by
  have hx : l[k]? = some (u, v) := by
    rw [List.getElem?_eq_getElem hk]
    have : l.getD k (0, 0) = l[k] := by rw [List.getD_eq_getElem?_getD, List.getElem?_eq_getElem hk]; rfl
    rw [hu, hv]
    unfold vx vy
    rw [this]
  have ht : l.take (k + 1) = l.take k ++ [(u, v)] := by rw [List.take_add_one, hx]; rfl
  unfold rb0 rb1 rb2
  rw [ht, bst_snoc]
  rcases bst_spec D (l.take k) with ⟨h0, h1⟩ | ⟨y, hy, hm, _⟩
  · rw [h1]
    have hk0 : k = 0 := by
      have := congrArg List.length h0
      simp at this
      rcases this with h | h
      · exact h
      · rw [h] at hk; simp at hk
    exact ⟨fun _ => ⟨rfl, rfl, hd.symm⟩, fun h => absurd hk0 h⟩
  · rw [hy]
    have hk0 : ¬ k = 0 := by
      rintro rfl
      simp at hm
    simp only [stp, ← hd]
    constructor
    · rintro (h | h)
      · exact absurd h hk0
      · rw [if_pos h]; exact ⟨rfl, rfl, hd.symm⟩
    · intro _ h
      rw [if_neg h]; exact ⟨rfl, rfl, rfl⟩
theorem rb_full (D : Int × Int → Int) (l : List (Int × Int)) (hl : l ≠ []) : rb0 D l l.length = ((bst D l).getD (0, 0)).1 ∧ rb1 D l l.length = ((bst D l).getD (0, 0)).2 ∧ rb2 D l l.length = D ((bst D l).getD (0, 0)) := by
  unfold rb0 rb1 rb2
  rw [List.take_length]
  rcases bst_spec D l with ⟨h0, h1⟩ | ⟨y, hy, hm, _⟩
  · exact absurd h0 hl
  · rw [hy]; exact ⟨rfl, rfl, rfl⟩
section
variable {w : World} {ra : Int} {aa : Option Addr} {la ca : Nat} {za : List (Int × Int)} {rb : Int} {ab : Option Addr} {lb cb : Nat} {zb : List (Int × Int)}
set_option maxRecDepth 100000 in
set_option maxHeartbeats 8000000 in
theorem rcollide_s {px py qx qy : Int} (hA : ShAt w ra aa la ca za) (hB : ShAt w rb ab lb cb zb) (hp : -10000000 ≤ px ∧ px ≤ 10000000 ∧ -10000000 ≤ py ∧ py ≤ 10000000) (hq : -10000000 ≤ qx ∧ qx ≤ 10000000 ∧ -10000000 ≤ qy ∧ qy ≤ 10000000) (W : World) (hW : Below w.heap.size w W) :
    Calls Try.prog 29 #[.agg #[.int .i64 ra, .slice aa la ca], .agg #[.int .i64 px, .int .i64 py], .agg #[.int .i64 rb, .slice ab lb cb], .agg #[.int .i64 qx, .int .i64 qy]] W fun e w' => e = .returned (.tuple #[.agg #[.int .i64 (cnx ra za px py rb zb qx qy), .int .i64 (cny ra za px py rb zb qx qy), .int .i64 (cdp ra za px py rb zb qx qy)], .bool (cis ra za px py rb zb qx qy)]) ∧ Below W.heap.size W w' := by
  have gA := hA.later hW
  have gB := hB.later hW
  obtain ⟨p1, p2, p3, p4⟩ := hp
  obtain ⟨r1, r2, r3, r4⟩ := hq
  have c1 := rbounds_s gA px py (by omega) (by omega)
  have c2 := rbounds_s gB qx qy (by omega) (by omega)
  have c3 := roverlap_s gA gB px py qx qy
  have c4 := raxes_s gA gB (px := px) (py := py) (qx := qx) (qy := qy) (by omega) (by omega)
  obtain ⟨ov, hov⟩ : ∃ o, o = ovl ra za px py rb zb qx qy := ⟨_, rfl⟩
  rw [← hov] at c3
  generalize bx0 ra la za px = A0 at *
  generalize by0 ra la za py = A1 at *
  generalize bx1 ra la za px = A2 at *
  generalize by1 ra la za py = A3 at *
  generalize bx0 rb lb zb qx = B0 at *
  generalize by0 rb lb zb qy = B1 at *
  generalize bx1 rb lb zb qx = B2 at *
  generalize by1 rb lb zb qy = B3 at *
  have Hov := Lib.hid hov
  have Hc1 := Lib.hid c1; have Hc2 := Lib.hid c2; have Hc3 := Lib.hid c3; have Hc4 := Lib.hid c4; clear c1 c2 c3 c4
  clear hov hA hB hW
  have hal := alloc_if; have hfal := allocF_if
  go_enter Try.func29, Try.ntmps29
  go_upto_region 1 with (fail)
  refine name_world2 fun W1 hW1 => ?_
  have q0 : W1.cell? ⟨W.heap.size, 0, none⟩ = some (.int .i64 ra) := by rw [hW1]; simp [hal, ↓IntWalk.iteOmega]
  have q1 : W1.cell? ⟨W.heap.size, 1, none⟩ = some (.slice aa la ca) := by rw [hW1]; simp [hal, ↓IntWalk.iteOmega]
  have q2 : W1.cell? ⟨W.heap.size + 1, 0, none⟩ = some (.int .i64 px) := by rw [hW1]; simp [hal, ↓IntWalk.iteOmega]
  have q3 : W1.cell? ⟨W.heap.size + 1, 1, none⟩ = some (.int .i64 py) := by rw [hW1]; simp [hal, ↓IntWalk.iteOmega]
  have q4 : W1.cell? ⟨W.heap.size + 1 + 1, 0, none⟩ = some (.int .i64 rb) := by rw [hW1]; simp [hal, ↓IntWalk.iteOmega]
  have q5 : W1.cell? ⟨W.heap.size + 1 + 1, 1, none⟩ = some (.slice ab lb cb) := by rw [hW1]; simp [hal, ↓IntWalk.iteOmega]
  have q6 : W1.cell? ⟨W.heap.size + 1 + 1 + 1, 0, none⟩ = some (.int .i64 qx) := by rw [hW1]; simp [hal, ↓IntWalk.iteOmega]
  have q7 : W1.cell? ⟨W.heap.size + 1 + 1 + 1, 1, none⟩ = some (.int .i64 qy) := by rw [hW1]; simp [hal, ↓IntWalk.iteOmega]
  have q8 : W1.cell? ⟨W.heap.size + 1 + 1 + 1 + 1, 0, none⟩ = some (.int .i64 0) := by rw [hW1]; simp [hal, ↓IntWalk.iteOmega]
  have q9 : W1.cell? ⟨W.heap.size + 1 + 1 + 1 + 1, 1, none⟩ = some (.int .i64 0) := by rw [hW1]; simp [hal, ↓IntWalk.iteOmega]
  have q10 : W1.cell? ⟨W.heap.size + 1 + 1 + 1 + 1, 2, none⟩ = some (.int .i64 0) := by rw [hW1]; simp [hal, ↓IntWalk.iteOmega]
  have qf : ∀ i, W1.frozen? ⟨W.heap.size + 1 + 1 + 1 + 1, i, none⟩ = false := fun i => by rw [hW1]; simp [hfal, ↓IntWalk.iteOmega]
  have st0 : Below W.heap.size W W1 := by rw [hW1]; (repeat (first | (with_reducible exact Below.refl _ _) | (with_reducible refine Below.drew ?_) | (with_reducible refine below_drewN ?_ _) | (with_reducible refine Below.setCell ?_ (by first | (simp; done) | (simp; omega) | omega) _) | (with_reducible refine Below.alloc ?_ (by first | (simp; done) | (simp; omega) | omega) _) | (with_reducible refine Below.trans ?_ (Below.mono (by assumption) (by first | (simp; done) | (simp; omega) | omega))) | (with_reducible refine Below.trans ?_ (Below.mono (Later.below _) (by first | (simp; done) | (simp; omega) | omega)))))
  have l8 := World.block_lt_of_cell? _ _ q8
  simp only at l8
  have sz0 := st0.size
  clear hW1
  refine wp_region_later (by kernel_rfl) (by kernel_rfl) fun NL hL => ?_; obtain ⟨hNL, hlc, hlf⟩ := hL; (try simp only [World.size_alloc, World.size_setCell, World.size_drew] at hNL)
  repeat (go_big_quiet_step (first | (with_reducible exact later_call (Hc1.out _ (by (repeat (first | exact Below.refl _ _ | (with_reducible refine Below.drew ?_) | (with_reducible refine below_drewN ?_ _) | (with_reducible refine Below.setCell ?_ (by first | (simp; done) | (simp; omega) | omega) _) | (with_reducible refine Below.alloc ?_ (by first | (simp; done) | (simp; omega) | omega) _) | (with_reducible refine Below.trans ?_ (Below.mono (by assumption) (by first | (simp; done) | (simp; omega) | omega))) | (with_reducible refine Below.trans ?_ (Below.mono (Later.below _) (by first | (simp; done) | (simp; omega) | omega)))))))) | (with_reducible exact later_call (Hc2.out _ (by (repeat (first | exact Below.refl _ _ | (with_reducible refine Below.drew ?_) | (with_reducible refine below_drewN ?_ _) | (with_reducible refine Below.setCell ?_ (by first | (simp; done) | (simp; omega) | omega) _) | (with_reducible refine Below.alloc ?_ (by first | (simp; done) | (simp; omega) | omega) _) | (with_reducible refine Below.trans ?_ (Below.mono (by assumption) (by first | (simp; done) | (simp; omega) | omega))) | (with_reducible refine Below.trans ?_ (Below.mono (Later.below _) (by first | (simp; done) | (simp; omega) | omega)))))))) | (with_reducible exact later_call (Hc3.out _))))
  (refine wpQuiet_nil ?_; intro w1 hw1; obtain ⟨⟨w1, hb1⟩, rfl⟩ := hw1; clear hlc hlf hNL NL; obtain ⟨N1, hN1, hc1, hf1, hs1⟩ := bcell hb1; (try simp only [World.size_alloc, World.size_setCell, World.size_drew] at hN1))
  have hci0 : ov = false → Ending.returned (.tuple #[.agg #[.int .i64 (cnx ra za px py rb zb qx qy), .int .i64 (cny ra za px py rb zb qx qy), .int .i64 (cdp ra za px py rb zb qx qy)], .bool (cis ra za px py rb zb qx qy)]) = .returned (.tuple #[.agg #[.int .i64 0, .int .i64 0, .int .i64 0], .bool false]) := by
    intro h
    have hci : cis ra za px py rb zb qx qy = false := by unfold cis; rw [← Hov.out, h]; rfl
    have hr : cnx ra za px py rb zb qx qy = 0 ∧ cny ra za px py rb zb qx qy = 0 ∧ cdp ra za px py rb zb qx qy = 0 := by unfold cnx cny cdp; rw [hci]; exact ⟨rfl, rfl, rfl⟩
    rw [hci, hr.1, hr.2.1, hr.2.2]
  have y8 := cell_below hb1 q8
  have y9 := cell_below hb1 q9
  have y10 := cell_below hb1 q10
  have yf : ∀ i, w1.frozen? ⟨W.heap.size + 1 + 1 + 1 + 1, i, none⟩ = false := fun i => (hb1.frozen (p := ⟨W.heap.size + 1 + 1 + 1 + 1, i, none⟩) l8).trans (qf i)
  have HF0 := Lib.hid hci0
  clear hci0
  cases ov
  · clear hal hfal
    have hst := setCell_if
    go_wp2
    refine bodyPost_ret (v := .tuple #[.agg #[.int .i64 0, .int .i64 0, .int .i64 0], .bool false]) (by simp [results, Try.results29, go_sem, hst, y8, y9, y10]) rfl ⟨by rw [HF0.out trivial], ?_⟩
    refine ((Below.setCell ?_ ?_ _).setCell ?_ _).setCell ?_ _
    · exact st0.trans (hb1.mono sz0)
    all_goals (simp only; omega)
  · have y0 := cell_below hb1 q0
    have y1 := cell_below hb1 q1
    have y2 := cell_below hb1 q2
    have y3 := cell_below hb1 q3
    have y4 := cell_below hb1 q4
    have y5 := cell_below hb1 q5
    have y6 := cell_below hb1 q6
    have y7 := cell_below hb1 q7
    have hBW1 : Below W.heap.size W w1 := st0.trans (hb1.mono sz0)
    have lw1 := World.block_lt_of_cell? _ _ y8
    simp only at lw1
    clear q0 q1 q2 q3 q4 q5 q6 q7 q8 q9 q10 qf hc1 hf1 hN1 hs1 N1 hb1 st0 l8 sz0 W1 Hc1 Hc2 Hc3 HF0
    go_upto_region 5 with ((with_reducible refine (Hc4.out _ (by (repeat (first | (with_reducible exact Below.refl _ _) | (with_reducible refine Below.drew ?_) | (with_reducible refine below_drewN ?_ _) | (with_reducible refine Below.setCell ?_ (by first | (simp; done) | (simp; omega) | omega) _) | (with_reducible refine Below.alloc ?_ (by first | (simp; done) | (simp; omega) | omega) _) | (with_reducible refine Below.trans ?_ (Below.mono (by assumption) (by first | (simp; done) | (simp; omega) | omega))) | (with_reducible refine Below.trans ?_ (Below.mono (Later.below _) (by first | (simp; done) | (simp; omega) | omega))))))).mono ?_); rintro e w2 ⟨v, rfl, hown, hb2⟩)
    have hb12 : Below w1.heap.size w1 w2 := ((Below.refl _ w1).alloc (Nat.le_refl _) _).trans (hb2.mono (by simp))
    obtain ⟨hln, al, cap, rfl, hpl⟩ := poly_of_row hown
    have hblk : ∀ b o, al = some ⟨b, o, none⟩ → w1.heap.size + 1 ≤ b ∧ b < w2.heap.size := by
      rintro b o rfl
      have := hown.lt b rfl
      simp only [World.size_alloc] at this
      exact this
    have z0 := cell_below hb12 y0
    have z1 := cell_below hb12 y1
    have z2 := cell_below hb12 y2
    have z3 := cell_below hb12 y3
    have z4 := cell_below hb12 y4
    have z5 := cell_below hb12 y5
    have z6 := cell_below hb12 y6
    have z7 := cell_below hb12 y7
    have z8 := cell_below hb12 y8
    have z9 := cell_below hb12 y9
    have z10 := cell_below hb12 y10
    have zf : ∀ i, w2.frozen? ⟨W.heap.size + 1 + 1 + 1 + 1, i, none⟩ = false := fun i => (hb12.frozen (p := ⟨W.heap.size + 1 + 1 + 1 + 1, i, none⟩) lw1).trans (yf i)
    have hBW2 : Below W.heap.size W w2 := hBW1.trans (hb12.mono hBW1.size)
    have sz2 := hb12.size
    have x0 : w2.cell? ⟨w1.heap.size, 0, none⟩ = some (.int .i64 0) := cell_below hb2 (World.cell?_alloc_new w1 _ _ 0)
    have x1 : w2.cell? ⟨w1.heap.size, 1, none⟩ = some (.int .i64 0) := cell_below hb2 (World.cell?_alloc_new w1 _ _ 1)
    have x2 : w2.cell? ⟨w1.heap.size, 2, none⟩ = some (.int .i64 0) := cell_below hb2 (World.cell?_alloc_new w1 _ _ 2)
    have xf : ∀ i, w2.frozen? ⟨w1.heap.size, i, none⟩ = false := fun i => (hb2.frozen (p := ⟨w1.heap.size, i, none⟩) (by simp)).trans (by rw [hfal, if_neg (by omega), if_pos rfl])
    have lx := World.block_lt_of_cell? _ _ x0
    simp only at lx
    obtain ⟨C, hC⟩ : ∃ C, C = w1.heap.size := ⟨_, rfl⟩
    rw [← hC] at x0 x1 x2 xf lx hblk ⊢
    have sW1 := hBW1.size
    have hCW : W.heap.size + 1 + 1 + 1 + 1 < C := by omega
    have hW2 : W.heap.size + 1 + 1 + 1 + 1 < w2.heap.size := by omega
    clear hown y0 y1 y2 y3 y4 y5 y6 y7 y8 y9 y10 yf lw1 hb2 hb12 hC Hc4 hal hfal sz2 sW1 hBW1
    obtain ⟨D, hD⟩ : ∃ D, D = dpt ra za px py rb zb qx qy := ⟨_, rfl⟩
    have hbd := axs_bd za zb (qx - px) (qy - py)
    have hne := axs_ne za zb (qx - px) (qy - py)
    have hci1 : ∀ n ∈ axs za zb (qx - px) (qy - py), D n ≤ 0 → Ending.returned (.tuple #[.agg #[.int .i64 (cnx ra za px py rb zb qx qy), .int .i64 (cny ra za px py rb zb qx qy), .int .i64 (cdp ra za px py rb zb qx qy)], .bool (cis ra za px py rb zb qx qy)]) = .returned (.tuple #[.agg #[.int .i64 0, .int .i64 0, .int .i64 0], .bool false]) := by
      intro n hn hd
      have hci : cis ra za px py rb zb qx qy = false := by
        rw [Bool.eq_false_iff]
        intro h
        unfold cis at h
        rw [Bool.and_eq_true, List.all_eq_true] at h
        have := h.2 n hn
        rw [← hD, decide_eq_true_eq] at this
        omega
      have hr : cnx ra za px py rb zb qx qy = 0 ∧ cny ra za px py rb zb qx qy = 0 ∧ cdp ra za px py rb zb qx qy = 0 := by unfold cnx cny cdp; rw [hci]; exact ⟨rfl, rfl, rfl⟩
      rw [hci, hr.1, hr.2.1, hr.2.2]
    have hci2 : (∀ n ∈ axs za zb (qx - px) (qy - py), 0 < D n) → ∀ s0 s1 s2, s0 = ((bst D (axs za zb (qx - px) (qy - py))).getD (0, 0)).1 → s1 = ((bst D (axs za zb (qx - px) (qy - py))).getD (0, 0)).2 → s2 = D ((bst D (axs za zb (qx - px) (qy - py))).getD (0, 0)) →
        AxB (s0, s1) ∧ Ending.returned (.tuple #[.agg #[.int .i64 (cnx ra za px py rb zb qx qy), .int .i64 (cny ra za px py rb zb qx qy), .int .i64 (cdp ra za px py rb zb qx qy)], .bool (cis ra za px py rb zb qx qy)]) = .returned (.tuple #[.agg #[.int .i64 (if ((qx - px) * s0 + (qy - py) * s1) / 1024 < 0 then -s0 else s0), .int .i64 (if ((qx - px) * s0 + (qy - py) * s1) / 1024 < 0 then -s1 else s1), .int .i64 s2], .bool true]) := by
      intro hall s0 s1 s2 h0 h1 h2
      have hci : cis ra za px py rb zb qx qy = true := by
        unfold cis
        rw [← Hov.out, Bool.true_and, List.all_eq_true]
        intro n hn
        rw [decide_eq_true_eq, ← hD]
        exact hall n hn
      have hm := (cbn_mem ra za px py rb zb qx qy).1
      have hcb : cbn ra za px py rb zb qx qy = (s0, s1) := by
        unfold cbn
        rw [← hD, h0, h1]
      refine ⟨hbd _ (by rw [← hcb]; exact hm), ?_⟩
      have h2' : s2 = D (s0, s1) := by rw [h2, h0, h1]
      unfold cnx cny cdp cneg
      rw [hci, hcb, ← hD, h2']
      simp only [if_true, decide_eq_true_eq]
    have HD := Lib.hid hD
    have Hci1 := Lib.hid hci1
    have Hci2 := Lib.hid hci2
    clear hci1 hci2 hD
    generalize hn : (axs za zb (qx - px) (qy - py)).length = n at *
    obtain ⟨L, hL⟩ : ∃ L, L = axs za zb (qx - px) (qy - py) := ⟨_, rfl⟩
    rw [← hL] at hpl hn hbd hne Hci1 Hci2
    have cs := rsub_any qx qy px py (by omega) (by omega) (by omega) (by omega)
    have Hpl := Lib.hid hpl
    have HhL := Lib.hid hL; have Hhbd := Lib.hid hbd; have Hhne := Lib.hid hne; have Hhblk := Lib.hid hblk; have Hcs := Lib.hid cs; clear hL hbd hne hblk cs
    clear hln hpl Hov
    have hxI : n ≤ maxLen := by rcases Hpl.out with ⟨h, _⟩ | ⟨_, _, _, _, h, h', _⟩ <;> omega
    unfold maxLen at hxI
    go_wp2
    go_loopw [12] (fun i wr => ∃ k : Nat, k ≤ n ∧ i = .int .i64 k ∧ (∀ j, j < k → 0 < D (vx L j, vy L j)) ∧ wr.cell? ⟨C, 0, none⟩ = some (.int .i64 (rb0 D L k)) ∧ wr.cell? ⟨C, 1, none⟩ = some (.int .i64 (rb1 D L k)) ∧ wr.cell? ⟨C, 2, none⟩ = some (.int .i64 (rb2 D L k)) ∧ (∀ i, wr.frozen? ⟨C, i, none⟩ = false) ∧ But C w2.heap.size w2 wr)
      (fun i _ => n - (intOf i).toNat)
    case atStart => exact ⟨0, Nat.zero_le _, rfl, by omega, x0, x1, x2, xf, But.refl _ _ _⟩
    case round =>
      clear x0 x1 x2 xf
      obtain ⟨k, hk, rfl, hpos, x0, x1, x2, xf, hB⟩ := hrel
      have hws := hB.size
      have hBWr : Below W.heap.size W wr := hB.below hBW2 (by omega) (by omega)
      have y0 := hB.cell (by omega) (by omega) z0
      have y1 := hB.cell (by omega) (by omega) z1
      have y2 := hB.cell (by omega) (by omega) z2
      have y3 := hB.cell (by omega) (by omega) z3
      have y4 := hB.cell (by omega) (by omega) z4
      have y5 := hB.cell (by omega) (by omega) z5
      have y6 := hB.cell (by omega) (by omega) z6
      have y7 := hB.cell (by omega) (by omega) z7
      have y8 := hB.cell (by omega) (by omega) z8
      have y9 := hB.cell (by omega) (by omega) z9
      have y10 := hB.cell (by omega) (by omega) z10
      have yf : ∀ i, wr.frozen? ⟨W.heap.size + 1 + 1 + 1 + 1, i, none⟩ = false := fun i => hB.froz (by omega) (by omega) (zf i)
      have hW3 : W.heap.size + 1 + 1 + 1 + 1 < wr.heap.size := by omega
      have lx' : C < wr.heap.size := by omega
      clear z0 z1 z2 z3 z4 z5 z6 z7 z8 z9 z10 zf
      by_cases hlt : k < n
      · rcases Hpl.out with ⟨_, h, _⟩ | ⟨b, o, rfl, hzl, hle, hcm, hcell⟩
        · omega
        unfold maxLen at hcm
        obtain ⟨hb1, hb2⟩ := Hhblk.out b o rfl
        have v0 := hB.cell (by omega) (by omega) (hcell k hlt).1
        have v1 := hB.cell (by omega) (by omega) (hcell k hlt).2
        have lbw : b < wr.heap.size := by omega
        have hmem : (vx L k, vy L k) ∈ L := by
          have : L.getD k (0, 0) ∈ L := by
            rw [List.getD_eq_getElem?_getD, List.getElem?_eq_getElem (by omega)]
            exact List.getElem_mem _
          exact this
        obtain ⟨n1, n2, n3, n4⟩ := Hhbd.out _ hmem
        have hstep := rb_step D L k (by omega) (vx L k) (vy L k) (D (vx L k, vy L k)) rfl rfl rfl
        have hstop := Hci1.out _ hmem
        have hpos1 : 0 < D (vx L k, vy L k) → ∀ j, j < k + 1 → 0 < D (vx L j, vy L j) := fun h j hj => by
          by_cases e : j = k
          · rw [e]; exact h
          · exact hpos j (by omega)
        have c1 := fun V (hV : Below wr.heap.size wr V) => rproject_s gA px py (vx L k) (vy L k) (by omega) (by omega) (by simp only at n1 n2; omega) (by simp only at n3 n4; omega) V (hBWr.trans (hV.mono hBWr.size))
        have c2 := fun V (hV : Below wr.heap.size wr V) => rproject_s gB qx qy (vx L k) (vy L k) (by omega) (by omega) (by simp only at n1 n2; omega) (by simp only at n3 n4; omega) V (hBWr.trans (hV.mono hBWr.size))
        have b1 := prj_bd gA px py (vx L k) (vy L k) (by omega) (by omega) (by simp only at n1 n2; omega) (by simp only at n3 n4; omega)
        have b2 := prj_bd gB qx qy (vx L k) (vy L k) (by omega) (by omega) (by simp only at n1 n2; omega) (by simp only at n3 n4; omega)
        have hd : D (vx L k, vy L k) = min (phi ra la za px py (vx L k) (vy L k)) (phi rb lb zb qx qy (vx L k) (vy L k)) - max (plo ra la za px py (vx L k) (vy L k)) (plo rb lb zb qx qy (vx L k) (vy L k)) := by
          rw [HD.out]
          unfold dpt ph pl
          rw [gA.poly.len, gB.poly.len]
        generalize phi ra la za px py (vx L k) (vy L k) = h1 at *
        generalize phi rb lb zb qx qy (vx L k) (vy L k) = h2 at *
        generalize plo ra la za px py (vx L k) (vy L k) = l1 at *
        generalize plo rb lb zb qx qy (vx L k) (vy L k) = l2 at *
        obtain ⟨d, hd'⟩ : ∃ d, d = D (vx L k, vy L k) := ⟨_, rfl⟩
        rw [← hd'] at hstep hstop hpos1 hd
        have hdd : min h1 h2 - max l1 l2 = d := hd.symm
        have bd : -100000000000000 ≤ d ∧ d ≤ 100000000000000 := by omega
        obtain ⟨bd1, bd2⟩ := bd
        obtain ⟨⟨b11, b12⟩, b13, b14⟩ := b1
        obtain ⟨⟨b21, b22⟩, b23, b24⟩ := b2
        obtain ⟨st1, st2⟩ := hstep
        obtain ⟨s2, hs2⟩ : ∃ s, s = rb2 D L k := ⟨_, rfl⟩
        rw [← hs2] at x2 st1 st2
        generalize hux : vx L k = ux at *
        generalize huy : vy L k = uy at *
        have Hst1 := Lib.hid st1
        have Hst2 := Lib.hid st2
        have Hstop := Lib.hid hstop
        have Hpos1 := Lib.hid hpos1
        have HB := Lib.hid hB
        have Hc1 := Lib.hid c1; have Hc2 := Lib.hid c2; have Hhux := Lib.hid hux; have Hhuy := Lib.hid huy; have Hhs2 := Lib.hid hs2; clear c1 c2 hux huy hs2
        clear st1 st2 hstop hpos1 hpos hB hcell hd hd' hmem n1 n2 n3 n4
        have hltI : (k : Int) < (n : Int) := by omega
        have hal := alloc_if; have hfal := allocF_if
        go_wp2
        refine wp_region_later (by kernel_rfl) (by kernel_rfl) fun NL hL => ?_; obtain ⟨hNL, hlc, hlf⟩ := hL; (try simp only [World.size_alloc, World.size_setCell, World.size_drew] at hNL)
        repeat (go_big_quiet_step (first | (with_reducible exact later_call (Hc1.out _ (by (repeat (first | exact Below.refl _ _ | (with_reducible refine Below.drew ?_) | (with_reducible refine below_drewN ?_ _) | (with_reducible refine Below.setCell ?_ (by first | (simp; done) | (simp; omega) | omega) _) | (with_reducible refine Below.alloc ?_ (by first | (simp; done) | (simp; omega) | omega) _) | (with_reducible refine Below.trans ?_ (Below.mono (by assumption) (by first | (simp; done) | (simp; omega) | omega))) | (with_reducible refine Below.trans ?_ (Below.mono (Later.below _) (by first | (simp; done) | (simp; omega) | omega))))))))))
        (refine wpQuiet_nil ?_; intro w1 hw1; obtain ⟨⟨w1, hb1⟩, rfl⟩ := hw1; clear hlc hlf hNL NL; obtain ⟨N1, hN1, hc1, hf1, hs1⟩ := bcell hb1; (try simp only [World.size_alloc, World.size_setCell, World.size_drew] at hN1))
        have hbA : Below wr.heap.size wr w1 := by (repeat (first | (with_reducible exact Below.refl _ _) | (with_reducible refine Below.drew ?_) | (with_reducible refine below_drewN ?_ _) | (with_reducible refine Below.setCell ?_ (by first | (simp; done) | (simp; omega) | omega) _) | (with_reducible refine Below.alloc ?_ (by first | (simp; done) | (simp; omega) | omega) _) | (with_reducible refine Below.trans ?_ (Below.mono (by assumption) (by first | (simp; done) | (simp; omega) | omega))) | (with_reducible refine Below.trans ?_ (Below.mono (Later.below _) (by first | (simp; done) | (simp; omega) | omega)))))
        have lA := hbA.size
        go_upto_region 9 with (fail)
        refine wp_region_later (by kernel_rfl) (by kernel_rfl) fun NL hL => ?_; obtain ⟨hNL, hlc, hlf⟩ := hL; (try simp only [World.size_alloc, World.size_setCell, World.size_drew] at hNL)
        repeat (go_big_quiet_step (first | (with_reducible exact later_call (Hc2.out _ (by (repeat (first | exact Below.refl _ _ | (with_reducible refine Below.drew ?_) | (with_reducible refine below_drewN ?_ _) | (with_reducible refine Below.setCell ?_ (by first | (simp; done) | (simp; omega) | omega) _) | (with_reducible refine Below.alloc ?_ (by first | (simp; done) | (simp; omega) | omega) _) | (with_reducible refine Below.trans ?_ (Below.mono (by assumption) (by first | (simp; done) | (simp; omega) | omega))) | (with_reducible refine Below.trans ?_ (Below.mono (Later.below _) (by first | (simp; done) | (simp; omega) | omega))))))))))
        (refine wpQuiet_nil ?_; intro w1 hw1; obtain ⟨⟨w1, hb1⟩, rfl⟩ := hw1; clear hlc hlf hNL NL; obtain ⟨N1, hN1, hc1, hf1, hs1⟩ := bcell hb1; (try simp only [World.size_alloc, World.size_setCell, World.size_drew] at hN1))
        have hbX : Below wr.heap.size wr w1 := hbA.trans (hb1.mono lA)
        have t8 := cell_below hbX y8
        have t9 := cell_below hbX y9
        have t10 := cell_below hbX y10
        have tf : ∀ i, w1.frozen? ⟨W.heap.size + 1 + 1 + 1 + 1, i, none⟩ = false := fun i => (hbX.frozen (p := ⟨W.heap.size + 1 + 1 + 1 + 1, i, none⟩) hW3).trans (yf i)
        have u0 := cell_below hbX x0
        have u1 := cell_below hbX x1
        have u2 := cell_below hbX x2
        have uf : ∀ i, w1.frozen? ⟨C, i, none⟩ = false := fun i => (hbX.frozen (p := ⟨C, i, none⟩) lx').trans (xf i)
        have e0 := cell_below hbX v0
        have e1 := cell_below hbX v1
        have hBX := HB.out.trans (But.of (C := C) hbX hws)
        have hBWX := hBWr.trans (hbX.mono hBWr.size)
        have HBX := Lib.hid hBX
        have HBWX := Lib.hid hBWX
        clear y0 y1 y2 y3 y4 y5 y6 y7 y8 y9 y10 yf x0 x1 x2 xf v0 v1 hb1 hc1 hf1 hN1 hs1 N1 hal hfal hbX hbA hBX hBWX hBWr
        have hst := setCell_if
        by_cases hd0 : d ≤ 0
        · have Hend := Lib.hid (Hstop.out hd0)
          go_wp2
          refine bodyPost_ret (v := .tuple #[.agg #[.int .i64 0, .int .i64 0, .int .i64 0], .bool false]) (by simp [results, Try.results29, go_sem, hst, t8, t9, t10]) rfl ⟨by rw [Hend.out], ?_⟩
          refine ((HBWX.out.setCell ?_ _).setCell ?_ _).setCell ?_ _ <;> (simp only; omega)
        · by_cases hk0 : k = 0
          · obtain ⟨f1, f2, f3⟩ := Hst1.out (.inl hk0)
            have Hf1 := Lib.hid f1
            have Hf2 := Lib.hid f2
            have Hf3 := Lib.hid f3
            have Hk0 := Lib.hid hk0
            clear f1 f2 f3
            have hkb : ((k : Int) == 0) = true := by rw [hk0]; rfl
            clear hk0
            go_wp2
            go_roundw
            case rel =>
              refine ⟨k + 1, by omega, by go_num, Hpos1.out (by omega), by rw [Hf1.out]; simp [hst, u0, u1, u2], by rw [Hf2.out]; simp [hst, u0, u1, u2], by rw [Hf3.out]; simp [hst, u0, u1, u2], fun i => by simp [uf], ?_⟩
              exact ((HBX.out.trans (But.set C _ 0 _ _)).trans (But.set C _ 1 _ _)).trans (But.set C _ 2 _ _)
            case measure => simp [intOf]; omega
          · have hkb : ((k : Int) == 0) = false := beq_eq_false_iff_ne.2 (by omega)
            by_cases hl2 : d < s2
            · obtain ⟨f1, f2, f3⟩ := Hst1.out (.inr hl2)
              have Hf1 := Lib.hid f1
              have Hf2 := Lib.hid f2
              have Hf3 := Lib.hid f3
              clear f1 f2 f3
              go_wp2
              go_roundw
              case rel =>
                refine ⟨k + 1, by omega, by go_num, Hpos1.out (by omega), by rw [Hf1.out]; simp [hst, u0, u1, u2], by rw [Hf2.out]; simp [hst, u0, u1, u2], by rw [Hf3.out]; simp [hst, u0, u1, u2], fun i => by simp [uf], ?_⟩
                exact ((HBX.out.trans (But.set C _ 0 _ _)).trans (But.set C _ 1 _ _)).trans (But.set C _ 2 _ _)
              case measure => simp [intOf]; omega
            · obtain ⟨f1, f2, f3⟩ := Hst2.out hk0 (by omega)
              have Hf1 := Lib.hid f1
              have Hf2 := Lib.hid f2
              have Hf3 := Lib.hid f3
              clear f1 f2 f3
              go_wp2
              go_roundw
              case rel =>
                exact ⟨k + 1, by omega, by go_num, Hpos1.out (by omega), by rw [Hf1.out]; exact u0, by rw [Hf2.out]; exact u1, by rw [Hf3.out]; exact u2, uf, HBX.out⟩
              case measure => simp [intOf]; omega
      · obtain rfl : k = n := by omega
        have hall : ∀ m ∈ L, 0 < D m := by
          intro m hm
          obtain ⟨j, hj, rfl⟩ := List.mem_iff_getElem.1 hm
          have := hpos j (by omega)
          have e : L.getD j (0, 0) = L[j] := by rw [List.getD_eq_getElem?_getD, List.getElem?_eq_getElem hj]; rfl
          rw [← e]
          exact this
        obtain ⟨g0, g1, g2⟩ := rb_full D L Hhne.out
        rw [hn] at g0 g1 g2
        obtain ⟨⟨n1, n2, n3, n4⟩, hend⟩ := Hci2.out hall _ _ _ g0 g1 g2
        simp only at n1 n2 n3 n4
        have Hend := Lib.hid hend
        clear hall hpos hend g0 g1 g2
        generalize rb0 D L k = s0 at *
        generalize rb1 D L k = s1 at *
        generalize rb2 D L k = s2 at *
        have m1 := mulb (qx - px) s0 (by omega) (by omega)
        have m2 := mulb (qy - py) s1 (by omega) (by omega)
        have cdt := rdot_any (qx - px) (qy - py) s0 s1 (by omega) (by omega) (by omega) (by omega)
        have cn := rneg_any s0 s1 (by omega) (by omega) (by omega) (by omega)
        obtain ⟨dt, hdt⟩ : ∃ dt, dt = ((qx - px) * s0 + (qy - py) * s1) / 1024 := ⟨_, rfl⟩
        rw [← hdt] at cdt Hend
        have HBWr := Lib.hid hBWr
        have Hcdt := Lib.hid cdt; have Hcn := Lib.hid cn; have Hhdt := Lib.hid hdt; clear cdt cn hdt
        clear hBWr hB m1 m2
        have hal := alloc_if; have hfal := allocF_if
        go_wp2
        refine wp_region_later (by kernel_rfl) (by kernel_rfl) fun NL hL => ?_; obtain ⟨hNL, hlc, hlf⟩ := hL; (try simp only [World.size_alloc, World.size_setCell, World.size_drew] at hNL)
        repeat (go_big_quiet_step (first | (with_reducible exact later_call (Hcs.out _)) | (with_reducible exact later_call (Hcdt.out _))))
        (refine wpQuiet_nil ?_; intro w1 hw1; obtain ⟨⟨w1, hb1⟩, rfl⟩ := hw1; clear hlc hlf hNL NL; obtain ⟨N1, hN1, hc1, hf1, hs1⟩ := bcell hb1; (try simp only [World.size_alloc, World.size_setCell, World.size_drew] at hN1))
        have hbX : Below wr.heap.size wr w1 := by (repeat (first | (with_reducible exact Below.refl _ _) | (with_reducible refine Below.drew ?_) | (with_reducible refine below_drewN ?_ _) | (with_reducible refine Below.setCell ?_ (by first | (simp; done) | (simp; omega) | omega) _) | (with_reducible refine Below.alloc ?_ (by first | (simp; done) | (simp; omega) | omega) _) | (with_reducible refine Below.trans ?_ (Below.mono (by assumption) (by first | (simp; done) | (simp; omega) | omega))) | (with_reducible refine Below.trans ?_ (Below.mono (Later.below _) (by first | (simp; done) | (simp; omega) | omega)))))
        have t8 := cell_below hbX y8
        have t9 := cell_below hbX y9
        have t10 := cell_below hbX y10
        have tf : ∀ i, w1.frozen? ⟨W.heap.size + 1 + 1 + 1 + 1, i, none⟩ = false := fun i => (hbX.frozen (p := ⟨W.heap.size + 1 + 1 + 1 + 1, i, none⟩) hW3).trans (yf i)
        have u0 := cell_below hbX x0
        have u1 := cell_below hbX x1
        have u2 := cell_below hbX x2
        have uf : ∀ i, w1.frozen? ⟨C, i, none⟩ = false := fun i => (hbX.frozen (p := ⟨C, i, none⟩) lx').trans (xf i)
        have lX := hbX.size
        have lC : C < w1.heap.size := by omega
        have lR : W.heap.size + 1 + 1 + 1 + 1 < w1.heap.size := by omega
        have hBWX := HBWr.out.trans (hbX.mono HBWr.out.size)
        have HBWX := Lib.hid hBWX
        clear y0 y1 y2 y3 y4 y5 y6 y7 y8 y9 y10 yf x0 x1 x2 xf hb1 hc1 hf1 hN1 hs1 N1 hbX hBWX
        have hst := setCell_if
        have hCne : ¬ (W.heap.size + 1 + 1 + 1 + 1 = C) := by omega
        have hCne' : ¬ (C = W.heap.size + 1 + 1 + 1 + 1) := by omega
        by_cases hneg : dt < 0
        · rw [if_pos hneg, if_pos hneg] at Hend
          go_wp2_with (first | ((with_reducible refine (Hcn.out _).mono ?_); rintro e wE ⟨rfl, hbE⟩; obtain ⟨NE, hNE, hcE, hfE, hsE⟩ := bcell hbE; (try simp only [World.size_alloc, World.size_setCell, World.size_drew] at hNE)))
          refine bodyPost_ret (v := .tuple #[.agg #[.int .i64 (-s0), .int .i64 (-s1), .int .i64 s2], .bool true]) (by simp [results, Try.results29, go_sem, hst, hCne, hCne', hcE, lR, t8, t9, t10, ↓IntWalk.iteOmega]) rfl ⟨by rw [Hend.out], ?_⟩
          refine ((((HBWX.out.trans (hbE.mono HBWX.out.size)).setCell ?_ _ |>.setCell ?_ _).setCell ?_ _).setCell ?_ _).setCell ?_ _ <;> (simp only; omega)
        · rw [if_neg hneg, if_neg hneg] at Hend
          go_wp2
          refine bodyPost_ret (v := .tuple #[.agg #[.int .i64 s0, .int .i64 s1, .int .i64 s2], .bool true]) (by simp [results, Try.results29, go_sem, hst, t8, t9, t10]) rfl ⟨by rw [Hend.out], ?_⟩
          refine ((HBWX.out.setCell ?_ _).setCell ?_ _).setCell ?_ _ <;> (simp only; omega)
end
end Go.Proofs.Ytcgcapfppceggaa.Co
