/-
  Package toi: positions after some sub-steps, the closure touch, Earliest.
  Conditions: stated in each contract.
-/
import Derived.Test.YtcgcapfppceggaaCoE
import Derived.Test.YtcgcapfppceggaaCoI
import Derived.Test.YtcgcapfppceggaaQe
import Derived.Deep.Cut
import Derived.Deep.CutRange
import Derived.Deep.DeepCutAuto
import Derived.Deep.RegionHeld3
namespace Go.Proofs.Ytcgcapfppceggaa.To
open Go.RowKit Go.Proofs.Ytcgcapfppceggaa.FxMath Go.Proofs.Ytcgcapfppceggaa.FxA Go.Proofs.Ytcgcapfppceggaa.Qt Go.Proofs.Ytcgcapfppceggaa.Ve Go.Proofs.Ytcgcapfppceggaa.Sh Go.Proofs.Ytcgcapfppceggaa.Co Go.Shelf
set_option linter.unusedVariables false
set_option linter.unusedSimpArgs false
attribute [local go_sem] Oper.semAt_some
/-- A coordinate after k sub-steps. -/
def at8 (x u k : Int) : Int := x + u * k / 8
theorem at8_bd {x u k : Int} (hu : -100000 ≤ u ∧ u ≤ 100000) (hk : 0 ≤ k ∧ k ≤ 100) : (-10000000 ≤ u * k ∧ u * k ≤ 10000000) ∧ x - 1250001 ≤ at8 x u k ∧ at8 x u k ≤ x + 1250001 := by
  have m := mul_bd (a := u) (b := k) (A := 100000) (B := 100) hu.1 hu.2 (by omega) hk.2
  unfold at8
  omega
theorem fdv8 (a : Int) : fdv a 8 = a / 8 := fdv_pos _ _ (by omega)
theorem name_world3 {P : Program} {c : Code} {Q : Exit → Act → World → Prop} {a : Act} {w : World} (h : ∀ W, W = w → Code.wp P c Q a W) : Code.wp P c Q a w := h w rfl
theorem after_any (x y u v k : Int) (hx : -100000000 ≤ x ∧ x ≤ 100000000) (hy : -100000000 ≤ y ∧ y ≤ 100000000) (hu : -100000 ≤ u ∧ u ≤ 100000) (hv : -100000 ≤ v ∧ v ≤ 100000) (hk : 0 ≤ k ∧ k ≤ 100) :
    Gives Try.prog 72 #[.agg #[.int .i64 x, .int .i64 y], .agg #[.int .i64 u, .int .i64 v], .int .i64 k] (.agg #[.int .i64 (at8 x u k), .int .i64 (at8 y v k)]) := by
  intro w
  have m1 := (at8_bd (x := x) hu hk).1
  have m2 := (at8_bd (x := y) hv hk).1
  have c1 := vMulDiv_any u v k 8 (by omega) (by omega) (by omega) (by omega)
  rw [fdv8, fdv8] at c1
  have c2 := add_any x y (u * k / 8) (v * k / 8) (by omega) (by omega) (by omega) (by omega)
  rw [show x + u * k / 8 = at8 x u k from rfl, show y + v * k / 8 = at8 y v k from rfl] at c2
  generalize at8 x u k = X at *
  generalize at8 y v k = Y at *
  generalize u * k / 8 = p at *
  generalize v * k / 8 = q at *
  have Hc1 := Lib.hid c1; have Hc2 := Lib.hid c2; clear c1 c2
  clear m1 m2
  have hal := alloc_if; have hfal := allocF_if
  have hst := setCell_if
  go_enter Try.func72, Try.ntmps72
  go_upto_region 1 with (fail)
  refine wp_region_later_tail 5 (by kernel_rfl) (by kernel_rfl) fun NL hL => ?_; obtain ⟨hNL, hlc, hlf⟩ := hL; (try simp only [World.size_alloc, World.size_setCell, World.size_drew] at hNL); simp only [List.take_succ_cons, List.take_zero, List.drop_succ_cons, List.drop_zero]
  repeat (go_big_quiet_step (first | (with_reducible exact later_call (Hc1.out _)) | (with_reducible exact later_call (Hc2.out _))))
  (refine wpQuiet_nil ?_; intro w1 hw1; obtain ⟨⟨w1, hb1⟩, rfl⟩ := hw1; clear hlc hlf hNL NL; obtain ⟨N1, hN1, hc1, hf1, hs1⟩ := bcell hb1; (try simp only [World.size_alloc, World.size_setCell, World.size_drew] at hN1))
  go_wp2
  refine bodyPost_ret (v := .agg #[.int .i64 X, .int .i64 Y]) (by simp [results, Try.results72, go_sem, hst, hc1, alloc_if, ↓IntWalk.iteOmega]) rfl ⟨rfl, ?_⟩
  (repeat (first | (with_reducible exact Below.refl _ _) | (with_reducible refine Below.drew ?_) | (with_reducible refine below_drewN ?_ _) | (with_reducible refine Below.setCell ?_ (by first | (simp; done) | (simp; omega) | omega) _) | (with_reducible refine Below.alloc ?_ (by first | (simp; done) | (simp; omega) | omega) _) | (with_reducible refine Below.trans ?_ (Below.mono (by assumption) (by first | (simp; done) | (simp; omega) | omega))) | (with_reducible refine Below.trans ?_ (Below.mono (Later.below _) (by first | (simp; done) | (simp; omega) | omega)))))
/-- Two bodies in six boxes. -/
structure TB (w : World) (ra : Int) (aa : Option Addr) (la ca : Nat) (za : List (Int × Int)) (px py ux uy rb : Int) (ab : Option Addr) (lb cb : Nat) (zb : List (Int × Int)) (qx qy vx' vy' : Int) (B1 B2 B3 B4 B5 B6 : Nat) : Prop where
  a : ShAt w ra aa la ca za
  b : ShAt w rb ab lb cb zb
  c1 : w.cell? ⟨B1, 0, none⟩ = some (.int .i64 ra)
  c2 : w.cell? ⟨B1, 1, none⟩ = some (.slice aa la ca)
  c3 : w.cell? ⟨B2, 0, none⟩ = some (.int .i64 px)
  c4 : w.cell? ⟨B2, 1, none⟩ = some (.int .i64 py)
  c5 : w.cell? ⟨B3, 0, none⟩ = some (.int .i64 ux)
  c6 : w.cell? ⟨B3, 1, none⟩ = some (.int .i64 uy)
  c7 : w.cell? ⟨B4, 0, none⟩ = some (.int .i64 rb)
  c8 : w.cell? ⟨B4, 1, none⟩ = some (.slice ab lb cb)
  c9 : w.cell? ⟨B5, 0, none⟩ = some (.int .i64 qx)
  c10 : w.cell? ⟨B5, 1, none⟩ = some (.int .i64 qy)
  c11 : w.cell? ⟨B6, 0, none⟩ = some (.int .i64 vx')
  c12 : w.cell? ⟨B6, 1, none⟩ = some (.int .i64 vy')
structure TBd (px py ux uy qx qy vx' vy' : Int) : Prop where
  p : -2000000 ≤ px ∧ px ≤ 2000000 ∧ -2000000 ≤ py ∧ py ≤ 2000000
  u : -100000 ≤ ux ∧ ux ≤ 100000 ∧ -100000 ≤ uy ∧ uy ≤ 100000
  q : -2000000 ≤ qx ∧ qx ≤ 2000000 ∧ -2000000 ≤ qy ∧ qy ≤ 2000000
  v : -100000 ≤ vx' ∧ vx' ≤ 100000 ∧ -100000 ≤ vy' ∧ vy' ≤ 100000
section
variable {w : World} {ra : Int} {aa : Option Addr} {la ca : Nat} {za : List (Int × Int)} {px py ux uy rb : Int} {ab : Option Addr} {lb cb : Nat} {zb : List (Int × Int)} {qx qy vx' vy' : Int} {B1 B2 B3 B4 B5 B6 : Nat}
theorem TB.later (h : TB w ra aa la ca za px py ux uy rb ab lb cb zb qx qy vx' vy' B1 B2 B3 B4 B5 B6) {W : World} (hb : Below w.heap.size w W) : TB W ra aa la ca za px py ux uy rb ab lb cb zb qx qy vx' vy' B1 B2 B3 B4 B5 B6 :=
  ⟨h.a.later hb, h.b.later hb, cell_below hb h.c1, cell_below hb h.c2, cell_below hb h.c3, cell_below hb h.c4, cell_below hb h.c5, cell_below hb h.c6, cell_below hb h.c7, cell_below hb h.c8, cell_below hb h.c9, cell_below hb h.c10, cell_below hb h.c11, cell_below hb h.c12⟩
/-- Whether two bodies touch after k sub-steps. -/
def tch (ra : Int) (za : List (Int × Int)) (px py ux uy rb : Int) (zb : List (Int × Int)) (qx qy vx' vy' : Int) (k : Nat) : Bool := cis ra za (at8 px ux k) (at8 py uy k) rb zb (at8 qx vx' k) (at8 qy vy' k)
set_option maxHeartbeats 4000000 in
theorem touch1_any (h : TB w ra aa la ca za px py ux uy rb ab lb cb zb qx qy vx' vy' B1 B2 B3 B4 B5 B6) (hbd : TBd px py ux uy qx qy vx' vy') (k : Nat) (hk : k ≤ 8) (W : World) (hW : Below w.heap.size w W) :
    Calls Try.prog 71 #[.int .i64 k, .pointer (some ⟨B1, 0, none⟩), .pointer (some ⟨B2, 0, none⟩), .pointer (some ⟨B3, 0, none⟩), .pointer (some ⟨B4, 0, none⟩), .pointer (some ⟨B5, 0, none⟩), .pointer (some ⟨B6, 0, none⟩)] W fun e w' =>
      e = .returned (.bool (tch ra za px py ux uy rb zb qx qy vx' vy' k)) ∧ Below W.heap.size W w' := by
  have g := h.later hW
  obtain ⟨⟨p1, p2, p3, p4⟩, ⟨u1, u2, u3, u4⟩, ⟨q1, q2, q3, q4⟩, ⟨v1, v2, v3, v4⟩⟩ := hbd
  have cga := after_any px py ux uy k (by omega) (by omega) (by omega) (by omega) (by omega)
  have cgb := after_any qx qy vx' vy' k (by omega) (by omega) (by omega) (by omega) (by omega)
  have m1 := (at8_bd (x := px) (u := ux) (k := k) (by omega) (by omega)).2
  have m2 := (at8_bd (x := py) (u := uy) (k := k) (by omega) (by omega)).2
  have m3 := (at8_bd (x := qx) (u := vx') (k := k) (by omega) (by omega)).2
  have m4 := (at8_bd (x := qy) (u := vy') (k := k) (by omega) (by omega)).2
  have cc := fun V (hV : Below W.heap.size W V) => collide_at (g.a.later hV) (g.b.later hV) (px := at8 px ux k) (py := at8 py uy k) (qx := at8 qx vx' k) (qy := at8 qy vy' k) (by omega) (by omega)
  unfold tch
  clear m1 m2 m3 m4
  generalize at8 px ux k = X at *
  generalize at8 py uy k = Y at *
  generalize at8 qx vx' k = P at *
  generalize at8 qy vy' k = Q at *
  generalize cis ra za X Y rb zb P Q = i1 at *
  generalize cdp ra za X Y rb zb P Q = d1 at *
  generalize cnx ra za X Y rb zb P Q = x1 at *
  generalize cny ra za X Y rb zb P Q = y1 at *
  obtain ⟨_, _, c1, c2, c3, c4, c5, c6, c7, c8, c9, c10, c11, c12⟩ := g
  have st : ∀ V, Below W.heap.size W V → V.cell? ⟨B1, 0, none⟩ = some (.int .i64 ra) ∧ V.cell? ⟨B1, 1, none⟩ = some (.slice aa la ca) ∧ V.cell? ⟨B2, 0, none⟩ = some (.int .i64 px) ∧ V.cell? ⟨B2, 1, none⟩ = some (.int .i64 py) ∧ V.cell? ⟨B3, 0, none⟩ = some (.int .i64 ux) ∧ V.cell? ⟨B3, 1, none⟩ = some (.int .i64 uy) ∧ V.cell? ⟨B4, 0, none⟩ = some (.int .i64 rb) ∧ V.cell? ⟨B4, 1, none⟩ = some (.slice ab lb cb) ∧ V.cell? ⟨B5, 0, none⟩ = some (.int .i64 qx) ∧ V.cell? ⟨B5, 1, none⟩ = some (.int .i64 qy) ∧ V.cell? ⟨B6, 0, none⟩ = some (.int .i64 vx') ∧ V.cell? ⟨B6, 1, none⟩ = some (.int .i64 vy') :=
    fun V hV => ⟨cell_below hV c1, cell_below hV c2, cell_below hV c3, cell_below hV c4, cell_below hV c5, cell_below hV c6, cell_below hV c7, cell_below hV c8, cell_below hV c9, cell_below hV c10, cell_below hV c11, cell_below hV c12⟩
  have Hst := Lib.hid st
  have Hca := Lib.hid cga
  have Hcb := Lib.hid cgb
  have Hcc := Lib.hid cc; clear cc
  clear st c1 c2 c3 c4 c5 c6 c7 c8 c9 c10 c11 c12 cga cgb h hW
  have hal := alloc_if; have hfal := allocF_if
  go_enter Try.func71, Try.ntmps71
  go_upto_region 1 with (fail)
  go_region_held3 (fun V => V.cell? ⟨B1, 0, none⟩ = some (.int .i64 ra) ∧ V.cell? ⟨B1, 1, none⟩ = some (.slice aa la ca) ∧ V.cell? ⟨B2, 0, none⟩ = some (.int .i64 px) ∧ V.cell? ⟨B2, 1, none⟩ = some (.int .i64 py) ∧ V.cell? ⟨B3, 0, none⟩ = some (.int .i64 ux) ∧ V.cell? ⟨B3, 1, none⟩ = some (.int .i64 uy) ∧ V.cell? ⟨B4, 0, none⟩ = some (.int .i64 rb) ∧ V.cell? ⟨B4, 1, none⟩ = some (.slice ab lb cb) ∧ V.cell? ⟨B5, 0, none⟩ = some (.int .i64 qx) ∧ V.cell? ⟨B5, 1, none⟩ = some (.int .i64 qy) ∧ V.cell? ⟨B6, 0, none⟩ = some (.int .i64 vx') ∧ V.cell? ⟨B6, 1, none⟩ = some (.int .i64 vy')) (exact Hst.out _ (by (repeat (first | (with_reducible exact Below.refl _ _) | (with_reducible refine Below.drew ?_) | (with_reducible refine below_drewN ?_ _) | (with_reducible refine Below.setCell ?_ (by first | (simp; done) | (simp; omega) | omega) _) | (with_reducible refine Below.alloc ?_ (by first | (simp; done) | (simp; omega) | omega) _) | (with_reducible refine Below.trans ?_ (Below.mono (by assumption) (by first | (simp; done) | (simp; omega) | omega))) | (with_reducible refine Below.trans ?_ (Below.mono (Later.below _) (by first | (simp; done) | (simp; omega) | omega)))))))
    (first | ((with_reducible refine (Hca.out _).mono ?_); rintro e wA ⟨rfl, hbA⟩; obtain ⟨NA, hNA, hcA, hfA, hsA⟩ := bcell hbA; (try simp only [World.size_alloc, World.size_setCell, World.size_drew] at hNA)) | ((with_reducible refine (Hcb.out _).mono ?_); rintro e wB ⟨rfl, hbB⟩; obtain ⟨NB, hNB, hcB, hfB, hsB⟩ := bcell hbB; (try simp only [World.size_alloc, World.size_setCell, World.size_drew] at hNB)) | ((with_reducible refine (Hcc.out _ (by (repeat (first | (with_reducible exact Below.refl _ _) | (with_reducible refine Below.drew ?_) | (with_reducible refine below_drewN ?_ _) | (with_reducible refine Below.setCell ?_ (by first | (simp; done) | (simp; omega) | omega) _) | (with_reducible refine Below.alloc ?_ (by first | (simp; done) | (simp; omega) | omega) _) | (with_reducible refine Below.trans ?_ (Below.mono (by assumption) (by first | (simp; done) | (simp; omega) | omega))) | (with_reducible refine Below.trans ?_ (Below.mono (Later.below _) (by first | (simp; done) | (simp; omega) | omega))))))).mono ?_); rintro e wC ⟨rfl, hbC⟩; obtain ⟨NC, hNC, hcC, hfC, hsC⟩ := bcell hbC; (try simp only [World.size_alloc, World.size_setCell, World.size_drew] at hNC)))
  all_goals
    go_wp2
    go_ret
    exact ⟨rfl, by (repeat (first | (with_reducible exact Below.refl _ _) | (with_reducible refine Below.drew ?_) | (with_reducible refine below_drewN ?_ _) | (with_reducible refine Below.setCell ?_ (by first | (simp; done) | (simp; omega) | omega) _) | (with_reducible refine Below.alloc ?_ (by first | (simp; done) | (simp; omega) | omega) _) | (with_reducible refine Below.trans ?_ (Below.mono (by assumption) (by first | (simp; done) | (simp; omega) | omega))) | (with_reducible refine Below.trans ?_ (Below.mono (Later.below _) (by first | (simp; done) | (simp; omega) | omega)))))⟩
/-- The result of Earliest. -/
def erl (t : Nat → Bool) : Int := if t 0 then 1024 else if t 1 then 0 else if t 2 then 128 else if t 3 then 256 else if t 4 then 384 else if t 5 then 512 else if t 6 then 640 else if t 7 then 768 else if t 8 then 896 else 1024
theorem erl_zero {t : Nat → Bool} (h : t 0 = true) : erl t = 1024 := by unfold erl; rw [if_pos h]
theorem erl_hit {t : Nat → Bool} {k : Nat} (hk : k < 8) (h0 : ∀ j, j ≤ k → t j = false) (h1 : t (k + 1) = true) : erl t = 128 * k := by
  have a0 := h0 0 (by omega)
  unfold erl
  obtain rfl | rfl | rfl | rfl | rfl | rfl | rfl | rfl : k = 0 ∨ k = 1 ∨ k = 2 ∨ k = 3 ∨ k = 4 ∨ k = 5 ∨ k = 6 ∨ k = 7 := by omega
  all_goals
    have a1 := h0 1
    have a2 := h0 2
    have a3 := h0 3
    have a4 := h0 4
    have a5 := h0 5
    have a6 := h0 6
    have a7 := h0 7
    simp at a1 a2 a3 a4 a5 a6 a7
    simp_all
theorem erl_miss {t : Nat → Bool} (h0 : ∀ j, j ≤ 8 → t j = false) : erl t = 1024 := by
  unfold erl
  rw [h0 0 (by omega), h0 1 (by omega), h0 2 (by omega), h0 3 (by omega), h0 4 (by omega), h0 5 (by omega), h0 6 (by omega), h0 7 (by omega), h0 8 (by omega)]
  rfl
theorem erl_spec (t : Nat → Bool) : (t 0 = true ∧ erl t = 1024) ∨ (∃ k, k < 8 ∧ (∀ j, j ≤ k → t j = false) ∧ t (k + 1) = true ∧ erl t = 128 * k) ∨ ((∀ j, j ≤ 8 → t j = false) ∧ erl t = 1024) := by
  cases h : t 0 with
  | true => exact .inl ⟨rfl, erl_zero h⟩
  | false =>
    right
    have key : ∀ n, n ≤ 8 → (∃ k, k < n ∧ (∀ j, j ≤ k → t j = false) ∧ t (k + 1) = true) ∨ ∀ j, j ≤ n → t j = false := by
      intro n
      induction n with
      | zero => intro _; right; intro j hj; obtain rfl : j = 0 := by omega
                exact h
      | succ n ih =>
        intro hn
        rcases ih (by omega) with ⟨k, hk, h1, h2⟩ | hall
        · exact .inl ⟨k, by omega, h1, h2⟩
        · cases ht : t (n + 1) with
          | true => exact .inl ⟨n, by omega, hall, ht⟩
          | false =>
            right
            intro j hj
            by_cases e : j = n + 1
            · rw [e]; exact ht
            · exact hall j (by omega)
    rcases key 8 (by omega) with ⟨k, hk, h1, h2⟩ | hall
    · exact .inl ⟨k, hk, h1, h2, erl_hit hk h1 h2⟩
    · exact .inr ⟨hall, erl_miss hall⟩
set_option maxRecDepth 100000 in
set_option maxHeartbeats 4000000 in
theorem earliest_s (hA : ShAt w ra aa la ca za) (hB : ShAt w rb ab lb cb zb) (hbd : TBd px py ux uy qx qy vx' vy') (W : World) (hW : Below w.heap.size w W) :
    Calls Try.prog 42 #[.agg #[.int .i64 ra, .slice aa la ca], .agg #[.int .i64 px, .int .i64 py], .agg #[.int .i64 ux, .int .i64 uy], .agg #[.int .i64 rb, .slice ab lb cb], .agg #[.int .i64 qx, .int .i64 qy], .agg #[.int .i64 (vx'), .int .i64 (vy')]] W fun e w' =>
      e = .returned (.int .i64 (erl (tch ra za px py ux uy rb zb qx qy vx' vy'))) ∧ Below W.heap.size W w' := by
  have gA := hA.later hW
  have gB := hB.later hW
  obtain ⟨t, ht⟩ : ∃ t, t = tch ra za px py ux uy rb zb qx qy vx' vy' := ⟨_, rfl⟩
  rw [← ht]
  have hal := alloc_if; have hfal := allocF_if
  go_enter Try.func42, Try.ntmps42
  go_upto_region 2 with (fail)
  refine name_world3 fun W1 hW1 => ?_
  have st0 : Below W.heap.size W W1 := by rw [hW1]; (repeat (first | (with_reducible exact Below.refl _ _) | (with_reducible refine Below.drew ?_) | (with_reducible refine below_drewN ?_ _) | (with_reducible refine Below.setCell ?_ (by first | (simp; done) | (simp; omega) | omega) _) | (with_reducible refine Below.alloc ?_ (by first | (simp; done) | (simp; omega) | omega) _) | (with_reducible refine Below.trans ?_ (Below.mono (by assumption) (by first | (simp; done) | (simp; omega) | omega))) | (with_reducible refine Below.trans ?_ (Below.mono (Later.below _) (by first | (simp; done) | (simp; omega) | omega)))))
  have q0 : W1.cell? ⟨W.heap.size, 0, none⟩ = some (.int .i64 ra) := by rw [hW1]; simp [hal, ↓IntWalk.iteOmega]
  have q1 : W1.cell? ⟨W.heap.size, 1, none⟩ = some (.slice aa la ca) := by rw [hW1]; simp [hal, ↓IntWalk.iteOmega]
  have q2 : W1.cell? ⟨W.heap.size + 1, 0, none⟩ = some (.int .i64 px) := by rw [hW1]; simp [hal, ↓IntWalk.iteOmega]
  have q3 : W1.cell? ⟨W.heap.size + 1, 1, none⟩ = some (.int .i64 py) := by rw [hW1]; simp [hal, ↓IntWalk.iteOmega]
  have q4 : W1.cell? ⟨W.heap.size + 1 + 1, 0, none⟩ = some (.int .i64 ux) := by rw [hW1]; simp [hal, ↓IntWalk.iteOmega]
  have q5 : W1.cell? ⟨W.heap.size + 1 + 1, 1, none⟩ = some (.int .i64 uy) := by rw [hW1]; simp [hal, ↓IntWalk.iteOmega]
  have q6 : W1.cell? ⟨W.heap.size + 1 + 1 + 1, 0, none⟩ = some (.int .i64 rb) := by rw [hW1]; simp [hal, ↓IntWalk.iteOmega]
  have q7 : W1.cell? ⟨W.heap.size + 1 + 1 + 1, 1, none⟩ = some (.slice ab lb cb) := by rw [hW1]; simp [hal, ↓IntWalk.iteOmega]
  have q8 : W1.cell? ⟨W.heap.size + 1 + 1 + 1 + 1, 0, none⟩ = some (.int .i64 qx) := by rw [hW1]; simp [hal, ↓IntWalk.iteOmega]
  have q9 : W1.cell? ⟨W.heap.size + 1 + 1 + 1 + 1, 1, none⟩ = some (.int .i64 qy) := by rw [hW1]; simp [hal, ↓IntWalk.iteOmega]
  have q10 : W1.cell? ⟨W.heap.size + 1 + 1 + 1 + 1 + 1, 0, none⟩ = some (.int .i64 vx') := by rw [hW1]; simp [hal, ↓IntWalk.iteOmega]
  have q11 : W1.cell? ⟨W.heap.size + 1 + 1 + 1 + 1 + 1, 1, none⟩ = some (.int .i64 vy') := by rw [hW1]; simp [hal, ↓IntWalk.iteOmega]
  have tb : TB W1 ra aa la ca za px py ux uy rb ab lb cb zb qx qy vx' vy' W.heap.size (W.heap.size + 1) (W.heap.size + 1 + 1) (W.heap.size + 1 + 1 + 1) (W.heap.size + 1 + 1 + 1 + 1) (W.heap.size + 1 + 1 + 1 + 1 + 1) :=
    ⟨gA.later st0, gB.later st0, q0, q1, q2, q3, q4, q5, q6, q7, q8, q9, q10, q11⟩
  have ct0 := touch1_any tb hbd 0 (by omega)
  have ct : ∀ k : Nat, k < 8 → ∀ V, Below W1.heap.size W1 V → Calls Try.prog 71 #[.int .i64 ((k : Int) + 1), .pointer (some ⟨W.heap.size, 0, none⟩), .pointer (some ⟨W.heap.size + 1, 0, none⟩), .pointer (some ⟨W.heap.size + 1 + 1, 0, none⟩), .pointer (some ⟨W.heap.size + 1 + 1 + 1, 0, none⟩), .pointer (some ⟨W.heap.size + 1 + 1 + 1 + 1, 0, none⟩), .pointer (some ⟨W.heap.size + 1 + 1 + 1 + 1 + 1, 0, none⟩)] V fun e w' =>
      e = .returned (.bool (t (k + 1))) ∧ Below V.heap.size V w' := fun k hk V hV => by
    have := touch1_any tb hbd (k + 1) (by omega) V hV
    rw [← ht] at this
    exact this
  rw [← ht] at ct0
  simp only [Int.ofNat_eq_natCast, Int.natCast_zero] at ct0
  have sz0 := st0.size
  obtain ⟨t0, ht0⟩ : ∃ b, b = t 0 := ⟨_, rfl⟩
  rw [← ht0] at ct0
  have Hct := Lib.hid ct
  have Hct0 := Lib.hid ct0; have Hht0 := Lib.hid ht0; clear ct0 ht0
  clear ct tb q0 q1 q2 q3 q4 q5 q6 q7 q8 q9 q10 q11 hW1 gA gB hA hB hW hbd ht
  cases t0
  · go_wp2_with (((with_reducible refine (Hct0.out _ (by (repeat (first | (with_reducible exact Below.refl _ _) | (with_reducible refine Below.drew ?_) | (with_reducible refine below_drewN ?_ _) | (with_reducible refine Below.setCell ?_ (by first | (simp; done) | (simp; omega) | omega) _) | (with_reducible refine Below.alloc ?_ (by first | (simp; done) | (simp; omega) | omega) _) | (with_reducible refine Below.trans ?_ (Below.mono (by assumption) (by first | (simp; done) | (simp; omega) | omega))) | (with_reducible refine Below.trans ?_ (Below.mono (Later.below _) (by first | (simp; done) | (simp; omega) | omega))))))).mono ?_); rintro e wA ⟨rfl, hbA⟩; obtain ⟨NA, hNA, hcA, hfA, hsA⟩ := bcell hbA; (try simp only [World.size_alloc, World.size_setCell, World.size_drew] at hNA)))
    have hA1 : Below W1.heap.size W1 wA := by (repeat (first | (with_reducible exact Below.refl _ _) | (with_reducible refine Below.drew ?_) | (with_reducible refine below_drewN ?_ _) | (with_reducible refine Below.setCell ?_ (by first | (simp; done) | (simp; omega) | omega) _) | (with_reducible refine Below.alloc ?_ (by first | (simp; done) | (simp; omega) | omega) _) | (with_reducible refine Below.trans ?_ (Below.mono (by assumption) (by first | (simp; done) | (simp; omega) | omega))) | (with_reducible refine Below.trans ?_ (Below.mono (Later.below _) (by first | (simp; done) | (simp; omega) | omega)))))
    have hsA1 := hA1.size
    clear hal hfal hcA hfA hsA hNA NA hbA
    go_loopw [18] (fun i wr => ∃ k : Nat, k ≤ 8 ∧ i = .int .i64 k ∧ (∀ j, j ≤ k → t j = false) ∧ Below wA.heap.size wA wr) (fun i _ => 8 - (intOf i).toNat)
    case atStart => exact ⟨0, by omega, rfl, fun j hj => by obtain rfl : j = 0 := by omega
                                                            exact Hht0.out.symm, Below.refl _ _⟩
    case round =>
      obtain ⟨k, hk, rfl, hno, hB⟩ := hrel
      have hsB := hB.size
      have hB1 : Below W1.heap.size W1 wr := hA1.trans (hB.mono hsA1)
      have Hno := Lib.hid hno
      clear hno
      by_cases hlt : k < 8
      · have c := Hct.out k hlt
        obtain ⟨tk, htk⟩ : ∃ b, b = t (k + 1) := ⟨_, rfl⟩
        rw [← htk] at c
        have Hc := Lib.hid c; have Hhtk := Lib.hid htk; clear c htk
        have hltI : (k : Int) < 8 := by omega
        have hal := alloc_if; have hfal := allocF_if
        cases tk
        · go_wp2_with (((with_reducible refine (Hc.out _ (by (repeat (first | (with_reducible exact Below.refl _ _) | (with_reducible refine Below.drew ?_) | (with_reducible refine below_drewN ?_ _) | (with_reducible refine Below.setCell ?_ (by first | (simp; done) | (simp; omega) | omega) _) | (with_reducible refine Below.alloc ?_ (by first | (simp; done) | (simp; omega) | omega) _) | (with_reducible refine Below.trans ?_ (Below.mono (by assumption) (by first | (simp; done) | (simp; omega) | omega))) | (with_reducible refine Below.trans ?_ (Below.mono (Later.below _) (by first | (simp; done) | (simp; omega) | omega))))))).mono ?_); rintro e wC ⟨rfl, hbC⟩; obtain ⟨NC, hNC, hcC, hfC, hsC⟩ := bcell hbC; (try simp only [World.size_alloc, World.size_setCell, World.size_drew] at hNC)))
          go_roundw
          case rel =>
            refine ⟨k + 1, by omega, by go_num, fun j hj => ?_, hB.trans (Below.mono (?_ : Below wr.heap.size wr _) hsB)⟩
            · by_cases e : j = k + 1
              · rw [e]; exact Hhtk.out.symm
              · exact Hno.out j (by omega)
            · (repeat (first | (with_reducible exact Below.refl _ _) | (with_reducible refine Below.drew ?_) | (with_reducible refine below_drewN ?_ _) | (with_reducible refine Below.setCell ?_ (by first | (simp; done) | (simp; omega) | omega) _) | (with_reducible refine Below.alloc ?_ (by first | (simp; done) | (simp; omega) | omega) _) | (with_reducible refine Below.trans ?_ (Below.mono (by assumption) (by first | (simp; done) | (simp; omega) | omega))) | (with_reducible refine Below.trans ?_ (Below.mono (Later.below _) (by first | (simp; done) | (simp; omega) | omega)))))
          case measure => simp [intOf]; omega
        · have hf := erl_hit hlt Hno.out Hhtk.out.symm
          go_wp2_with (((with_reducible refine (Hc.out _ (by (repeat (first | (with_reducible exact Below.refl _ _) | (with_reducible refine Below.drew ?_) | (with_reducible refine below_drewN ?_ _) | (with_reducible refine Below.setCell ?_ (by first | (simp; done) | (simp; omega) | omega) _) | (with_reducible refine Below.alloc ?_ (by first | (simp; done) | (simp; omega) | omega) _) | (with_reducible refine Below.trans ?_ (Below.mono (by assumption) (by first | (simp; done) | (simp; omega) | omega))) | (with_reducible refine Below.trans ?_ (Below.mono (Later.below _) (by first | (simp; done) | (simp; omega) | omega))))))).mono ?_); rintro e wC ⟨rfl, hbC⟩; obtain ⟨NC, hNC, hcC, hfC, hsC⟩ := bcell hbC; (try simp only [World.size_alloc, World.size_setCell, World.size_drew] at hNC)))
          go_ret
          refine ⟨?_, st0.trans (Below.mono (hB1.trans (Below.mono (?_ : Below wr.heap.size wr _) hB1.size)) sz0)⟩
          · rw [hf]
            go_num
          · (repeat (first | (with_reducible exact Below.refl _ _) | (with_reducible refine Below.drew ?_) | (with_reducible refine below_drewN ?_ _) | (with_reducible refine Below.setCell ?_ (by first | (simp; done) | (simp; omega) | omega) _) | (with_reducible refine Below.alloc ?_ (by first | (simp; done) | (simp; omega) | omega) _) | (with_reducible refine Below.trans ?_ (Below.mono (by assumption) (by first | (simp; done) | (simp; omega) | omega))) | (with_reducible refine Below.trans ?_ (Below.mono (Later.below _) (by first | (simp; done) | (simp; omega) | omega)))))
      · obtain rfl : k = 8 := by omega
        have hf := erl_miss Hno.out
        go_wp2
        go_ret
        exact ⟨by rw [hf]; rfl, st0.trans (hB1.mono sz0)⟩
  · have hf := erl_zero Hht0.out.symm
    go_wp2_with (((with_reducible refine (Hct0.out _ (by (repeat (first | (with_reducible exact Below.refl _ _) | (with_reducible refine Below.drew ?_) | (with_reducible refine below_drewN ?_ _) | (with_reducible refine Below.setCell ?_ (by first | (simp; done) | (simp; omega) | omega) _) | (with_reducible refine Below.alloc ?_ (by first | (simp; done) | (simp; omega) | omega) _) | (with_reducible refine Below.trans ?_ (Below.mono (by assumption) (by first | (simp; done) | (simp; omega) | omega))) | (with_reducible refine Below.trans ?_ (Below.mono (Later.below _) (by first | (simp; done) | (simp; omega) | omega))))))).mono ?_); rintro e wA ⟨rfl, hbA⟩; obtain ⟨NA, hNA, hcA, hfA, hsA⟩ := bcell hbA; (try simp only [World.size_alloc, World.size_setCell, World.size_drew] at hNA)))
    go_ret
    refine ⟨by rw [hf]; rfl, st0.trans (Below.mono (?_ : Below W1.heap.size W1 _) sz0)⟩
    (repeat (first | (with_reducible exact Below.refl _ _) | (with_reducible refine Below.drew ?_) | (with_reducible refine below_drewN ?_ _) | (with_reducible refine Below.setCell ?_ (by first | (simp; done) | (simp; omega) | omega) _) | (with_reducible refine Below.alloc ?_ (by first | (simp; done) | (simp; omega) | omega) _) | (with_reducible refine Below.trans ?_ (Below.mono (by assumption) (by first | (simp; done) | (simp; omega) | omega))) | (with_reducible refine Below.trans ?_ (Below.mono (Later.below _) (by first | (simp; done) | (simp; omega) | omega)))))
end
end Go.Proofs.Ytcgcapfppceggaa.To
