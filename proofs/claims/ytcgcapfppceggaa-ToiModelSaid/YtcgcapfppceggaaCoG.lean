/-
  The reference of package collide: nearest.
  Conditions: stated in each contract.
-/
import Derived.Test.YtcgcapfppceggaaCoF
namespace Go.Proofs.Ytcgcapfppceggaa.Co
open Go.RowKit Go.Proofs.Ytcgcapfppceggaa.FxMath Go.Proofs.Ytcgcapfppceggaa.FxA Go.Proofs.Ytcgcapfppceggaa.Qt Go.Proofs.Ytcgcapfppceggaa.Ve Go.Proofs.Ytcgcapfppceggaa.Sh Go.Shelf
set_option linter.unusedVariables false
set_option linter.unusedSimpArgs false
attribute [local go_sem] Oper.semAt_some
theorem name_world2 {P : Program} {c : Code} {Q : Exit → Act → World → Prop} {a : Act} {w : World} (h : ∀ W, W = w → Code.wp P c Q a W) : Code.wp P c Q a w := h w rfl
/-- The nearest vertex among the first ones. -/
def nrK (zs : List (Int × Int)) (ox oy : Int) (k : Nat) : Nat := argl (sqd zs ox oy) (k - 1)
def lsU (zs : List (Int × Int)) (ox oy : Int) (k : Nat) : Int := if k = 0 then -1 else sqd zs ox oy (nrK zs ox oy k)
def bxU (zs : List (Int × Int)) (px ox oy : Int) (k : Nat) : Int := if k = 0 then 0 else px + vx zs (nrK zs ox oy k)
def byU (zs : List (Int × Int)) (py ox oy : Int) (k : Nat) : Int := if k = 0 then 0 else py + vy zs (nrK zs ox oy k)
theorem nr_step (zs : List (Int × Int)) (px py ox oy : Int) (k : Nat) (S : Int) (hS : S = sqd zs ox oy k) :
    (lsU zs ox oy k < 0 ∨ S < lsU zs ox oy k → lsU zs ox oy (k + 1) = S ∧ bxU zs px ox oy (k + 1) = px + vx zs k ∧ byU zs py ox oy (k + 1) = py + vy zs k) ∧
    (¬ lsU zs ox oy k < 0 → ¬ S < lsU zs ox oy k → lsU zs ox oy (k + 1) = lsU zs ox oy k ∧ bxU zs px ox oy (k + 1) = bxU zs px ox oy k ∧ byU zs py ox oy (k + 1) = byU zs py ox oy k) := by
  have hnn : ∀ i, 0 ≤ sqd zs ox oy i := fun i => by have := sq0 (ox + vx zs i); have := sq0 (oy + vy zs i); unfold sqd; omega
  cases k with
  | zero =>
    refine ⟨fun _ => ⟨hS.symm, rfl, rfl⟩, fun h => ?_⟩
    exact absurd (by unfold lsU; simp) h
  | succ k =>
    have e0 : lsU zs ox oy (k + 1) = sqd zs ox oy (argl (sqd zs ox oy) k) := by unfold lsU nrK; rw [if_neg (by omega)]; rfl
    have e1 : lsU zs ox oy (k + 1 + 1) = sqd zs ox oy (argl (sqd zs ox oy) (k + 1)) := by unfold lsU nrK; rw [if_neg (by omega)]; rfl
    have e2 : bxU zs px ox oy (k + 1 + 1) = px + vx zs (argl (sqd zs ox oy) (k + 1)) := by unfold bxU nrK; rw [if_neg (by omega)]; rfl
    have e3 : byU zs py ox oy (k + 1 + 1) = py + vy zs (argl (sqd zs ox oy) (k + 1)) := by unfold byU nrK; rw [if_neg (by omega)]; rfl
    have e4 : bxU zs px ox oy (k + 1) = px + vx zs (argl (sqd zs ox oy) k) := by unfold bxU nrK; rw [if_neg (by omega)]; rfl
    have e5 : byU zs py ox oy (k + 1) = py + vy zs (argl (sqd zs ox oy) k) := by unfold byU nrK; rw [if_neg (by omega)]; rfl
    have hh := hnn (argl (sqd zs ox oy) k)
    rw [e0, e1, e2, e3, e4, e5]
    constructor
    · intro h
      have h' : sqd zs ox oy (k + 1) < sqd zs ox oy (argl (sqd zs ox oy) k) := by rw [← hS]; omega
      have ea : argl (sqd zs ox oy) (k + 1) = k + 1 := by unfold argl; rw [if_pos h']
      rw [ea]
      exact ⟨hS.symm, rfl, rfl⟩
    · intro _ h
      have h' : ¬ sqd zs ox oy (k + 1) < sqd zs ox oy (argl (sqd zs ox oy) k) := by rw [← hS]; exact h
      have ea : argl (sqd zs ox oy) (k + 1) = argl (sqd zs ox oy) k := by show (if sqd zs ox oy (k + 1) < sqd zs ox oy (argl (sqd zs ox oy) k) then k + 1 else argl (sqd zs ox oy) k) = _; rw [if_neg h']
      rw [ea]
      exact ⟨rfl, rfl, rfl⟩
set_option maxRecDepth 100000 in
set_option maxHeartbeats 4000000 in
theorem rnearest_poly (r : Int) (a : Option Addr) (len cap : Nat) (zs : List (Int × Int)) (px py cx cy : Int) (w : World) (h : IsPoly w a len cap zs) (h1 : 1 ≤ len) (h2 : len ≤ 1000) (hz : Bd zs 32768)
    (hp : -20000000 ≤ px ∧ px ≤ 20000000 ∧ -20000000 ≤ py ∧ py ≤ 20000000) (hc : -20000000 ≤ cx ∧ cx ≤ 20000000 ∧ -20000000 ≤ cy ∧ cy ≤ 20000000) :
    Calls Try.prog 59 #[.agg #[.int .i64 r, .slice a len cap], .agg #[.int .i64 px, .int .i64 py], .agg #[.int .i64 cx, .int .i64 cy]] w fun e w' => e = .returned (.agg #[.int .i64 (px + vx zs (nri zs (px - cx) (py - cy))), .int .i64 (py + vy zs (nri zs (px - cx) (py - cy)))]) ∧ Below w.heap.size w w' := by
  obtain ⟨p1, p2, p3, p4⟩ := hp
  obtain ⟨c1, c2, c3, c4⟩ := hc
  have ca := fun (i : Nat) => radd_any px py (vx zs i) (vy zs i) (by have := hz i; omega) (by have := hz i; omega) (by have := hz i; omega) (by have := hz i; omega)
  have cs := fun (i : Nat) => rsub_any (px + vx zs i) (py + vy zs i) cx cy (by have := hz i; omega) (by have := hz i; omega) (by have := hz i; omega) (by have := hz i; omega)
  rcases h with ⟨_, h0, _⟩ | ⟨b, o, rfl, hzl, hle, hcm, hcell⟩
  · omega
  unfold maxLen at hcm
  have lb := World.block_lt_of_cell? w _ (hcell 0 (by omega)).1
  simp only at lb
  have Hca := Lib.hid ca
  have Hcs := Lib.hid cs
  clear ca cs
  have hfin : nri zs (px - cx) (py - cy) = nrK zs (px - cx) (py - cy) len := by unfold nri nrK; rw [hzl]
  have hfx : px + vx zs (nri zs (px - cx) (py - cy)) = bxU zs px (px - cx) (py - cy) len := by rw [hfin]; unfold bxU; rw [if_neg (by omega)]
  have hfy : py + vy zs (nri zs (px - cx) (py - cy)) = byU zs py (px - cx) (py - cy) len := by rw [hfin]; unfold byU; rw [if_neg (by omega)]
  rw [hfx, hfy]
  obtain ⟨ox, hox⟩ : ∃ x, x = px - cx := ⟨_, rfl⟩
  obtain ⟨oy, hoy⟩ : ∃ x, x = py - cy := ⟨_, rfl⟩
  rw [← hox, ← hoy]
  clear hfin hfx hfy
  obtain ⟨C, hC⟩ : ∃ C, C = w.heap.size + 1 + 1 + 1 + 1 := ⟨_, rfl⟩
  have Hox := Lib.hid hox
  have Hoy := Lib.hid hoy
  clear hox hoy
  have hal := alloc_if; have hfal := allocF_if
  go_enter Try.func59, Try.ntmps59
  go_wp2
  refine name_world2 fun W0 hW0 => ?_
  have q0 : W0.cell? ⟨w.heap.size, 1, none⟩ = some (.slice (some ⟨b, o, none⟩) len cap) := by rw [hW0]; simp [hal, ↓IntWalk.iteOmega]
  have q1 : W0.cell? ⟨w.heap.size + 1, 0, none⟩ = some (.int .i64 px) := by rw [hW0]; simp [hal, ↓IntWalk.iteOmega]
  have q2 : W0.cell? ⟨w.heap.size + 1, 1, none⟩ = some (.int .i64 py) := by rw [hW0]; simp [hal, ↓IntWalk.iteOmega]
  have q3 : W0.cell? ⟨w.heap.size + 1 + 1, 0, none⟩ = some (.int .i64 cx) := by rw [hW0]; simp [hal, ↓IntWalk.iteOmega]
  have q4 : W0.cell? ⟨w.heap.size + 1 + 1, 1, none⟩ = some (.int .i64 cy) := by rw [hW0]; simp [hal, ↓IntWalk.iteOmega]
  have q5 : W0.cell? ⟨w.heap.size + 1 + 1 + 1, 0, none⟩ = some (.int .i64 0) := by rw [hW0]; simp [hal, ↓IntWalk.iteOmega]
  have q6 : W0.cell? ⟨w.heap.size + 1 + 1 + 1, 1, none⟩ = some (.int .i64 0) := by rw [hW0]; simp [hal, ↓IntWalk.iteOmega]
  have q7 : W0.cell? ⟨C, 0, none⟩ = some (.int .i64 0) := by rw [hW0, hC]; simp [hal, ↓IntWalk.iteOmega]
  have q8 : W0.cell? ⟨C, 1, none⟩ = some (.int .i64 0) := by rw [hW0, hC]; simp [hal, ↓IntWalk.iteOmega]
  have q9 : ∀ i, W0.frozen? ⟨w.heap.size + 1 + 1 + 1, i, none⟩ = false := fun i => by rw [hW0]; simp [hfal, ↓IntWalk.iteOmega]
  have q10 : ∀ i, W0.frozen? ⟨C, i, none⟩ = false := fun i => by rw [hW0, hC]; simp [hfal, ↓IntWalk.iteOmega]
  have st0 : Below w.heap.size w W0 := by rw [hW0]; (repeat (first | (with_reducible exact Below.refl _ _) | (with_reducible refine Below.drew ?_) | (with_reducible refine below_drewN ?_ _) | (with_reducible refine Below.setCell ?_ (by first | (simp; done) | (simp; omega) | omega) _) | (with_reducible refine Below.alloc ?_ (by first | (simp; done) | (simp; omega) | omega) _) | (with_reducible refine Below.trans ?_ (Below.mono (by assumption) (by first | (simp; done) | (simp; omega) | omega))) | (with_reducible refine Below.trans ?_ (Below.mono (Later.below _) (by first | (simp; done) | (simp; omega) | omega)))))
  have lC := World.block_lt_of_cell? _ _ q7
  simp only at lC
  have sz0 := st0.size
  rw [← hC]
  have hC1 : w.heap.size + 1 + 1 + 1 < C := by omega
  clear hW0 hal hfal hC
  go_loopw [8, 9] (fun l i wr => ∃ k : Nat, k ≤ len ∧ i = .int .i64 k ∧ l = .int .i64 (lsU zs ox oy k) ∧ wr.cell? ⟨C, 0, none⟩ = some (.int .i64 (bxU zs px ox oy k)) ∧ wr.cell? ⟨C, 1, none⟩ = some (.int .i64 (byU zs py ox oy k)) ∧ (∀ i, wr.frozen? ⟨C, i, none⟩ = false) ∧ But C W0.heap.size W0 wr)
    (fun _ i _ => len - (intOf i).toNat)
  case atStart => exact ⟨0, Nat.zero_le _, rfl, rfl, q7, q8, q10, But.refl _ _ _⟩
  case round =>
    obtain ⟨k, hk, rfl, rfl, x0, x1, xf, hB⟩ := hrel
    have hws := hB.size
    have r0 := hB.cell (by omega) (by omega) q0
    by_cases hlt : k < len
    · have hbw : Below w.heap.size w wr := hB.below st0 (by omega) (by omega)
      have v0 := cell_below hbw (hcell k hlt).1
      have v1 := cell_below hbw (hcell k hlt).2
      have r1 := hB.cell (by omega) (by omega) q1
      have r2 := hB.cell (by omega) (by omega) q2
      have r3 := hB.cell (by omega) (by omega) q3
      have r4 := hB.cell (by omega) (by omega) q4
      have l3 := World.block_lt_of_cell? _ _ r3
      have lx := World.block_lt_of_cell? _ _ x0
      simp only at l3 lx
      have cca := Hca.out k
      have ccs := Hcs.out k
      have bk := hz k
      obtain ⟨u, hu⟩ : ∃ u, u = px + vx zs k := ⟨_, rfl⟩
      obtain ⟨v, hv⟩ : ∃ u, u = py + vy zs k := ⟨_, rfl⟩
      rw [← hu, ← hv] at cca ccs
      obtain ⟨dx, hdx⟩ : ∃ d, d = u - cx := ⟨_, rfl⟩
      obtain ⟨dy, hdy⟩ : ∃ d, d = v - cy := ⟨_, rfl⟩
      rw [← hdx, ← hdy] at ccs
      have hS0 : sqd zs ox oy k = dx * dx + dy * dy := by
        unfold sqd
        rw [show ox + vx zs k = dx by have := Hox.out; omega, show oy + vy zs k = dy by have := Hoy.out; omega]
      have m1 := sq_bd (x := dx) (by omega) (by omega)
      have m2 := sq_bd (x := dy) (by omega) (by omega)
      have n1 := sq0 dx
      have n2 := sq0 dy
      have hst0 := nr_step zs px py ox oy k (dx * dx + dy * dy) hS0.symm
      obtain ⟨S, hS⟩ : ∃ S, S = dx * dx + dy * dy := ⟨_, rfl⟩
      rw [← hS] at hst0
      obtain ⟨ls, hls⟩ : ∃ l, l = lsU zs ox oy k := ⟨_, rfl⟩
      rw [← hls] at hst0 ⊢
      have bx0 : -100000000 ≤ dx ∧ dx ≤ 100000000 := by omega
      have by0 : -100000000 ≤ dy ∧ dy ≤ 100000000 := by omega
      obtain ⟨bx1, bx2⟩ := bx0
      obtain ⟨by1, by2⟩ := by0
      have bS : 0 ≤ S ∧ S ≤ 20000000000000000 := by omega
      rw [← hu, ← hv] at hst0
      have hSS : dx * dx + dy * dy = S := hS.symm
      generalize bxU zs px ox oy k = bx at *
      generalize byU zs py ox oy k = byy at *
      obtain ⟨st1, st2⟩ := hst0
      have hltI : (k : Int) < (len : Int) := by omega
      have Hst1 := Lib.hid st1
      have Hst2 := Lib.hid st2
      have HB := Lib.hid hB
      have Hcca := Lib.hid cca; have Hccs := Lib.hid ccs; have Hhu := Lib.hid hu; have Hhv := Lib.hid hv; have Hhdx := Lib.hid hdx; have Hhdy := Lib.hid hdy; have HhS0 := Lib.hid hS0; have HhS := Lib.hid hS; have Hhls := Lib.hid hls; clear cca ccs hu hv hdx hdy hS0 hS hls
      clear st1 st2 bk hcell
      clear hB
      have hal := alloc_if; have hfal := allocF_if
      have hst := setCell_if
      go_wp2
      refine wp_region_calm1 7 10 #[.int .i64 0, .int .i64 0] 29 rfl (by kernel_rfl) (by kernel_rfl) (fun o ho ev w => by have ho' := Option.some.inj ho; rw [← ho']; exact rfl) fun NL hL => ?_; obtain ⟨hNL, hlc, hlf⟩ := hL; (try simp only [World.size_alloc, World.size_setCell, World.size_drew] at hNL); simp only [List.take_succ_cons, List.take_zero, List.drop_succ_cons, List.drop_zero]
      repeat ((refine wpCalm_go (fun K hK => ?_); go_simp; (repeat (simp only [↓IntWalk.iteOmega]; (try go_simp)))); first | (refine hK _ ?_; clear hK K) | (apply Exists.intro; refine ⟨fun x => ?_, hK _ ?_⟩; (first | (with_reducible exact calm_call (Hcca.out _))); clear hK K))
      (refine wpCalm_nil ?_; intro b1 w1 hb1 hk1 hkf1 hkn1 hks1; (try simp only [World.size_alloc, World.size_setCell, World.size_drew] at hkn1); clear hlc hlf hNL NL; obtain ⟨N1, hN1, hc1, hf1, hs1⟩ := bcell hb1; (try simp only [World.size_alloc, World.size_setCell, World.size_drew] at hN1))
      simp only [Act.put, List.setIfInBounds_toArray, List.set_cons_zero, List.set_cons_succ]
      go_upto_region 9 with (first | ((with_reducible refine (Hccs.out _).mono ?_); rintro e wA ⟨rfl, hbA⟩; obtain ⟨NA, hNA, hcA, hfA, hsA⟩ := bcell hbA; (try simp only [World.size_alloc, World.size_setCell, World.size_drew] at hNA)))
      refine name_world2 fun W9 hW9 => ?_
      have y0 : W9.cell? ⟨b1, 0, none⟩ = some (.int .i64 u) := by rw [hW9]; simp [hal, hcA, hst, hk1, ↓IntWalk.iteOmega]
      have y1 : W9.cell? ⟨b1, 1, none⟩ = some (.int .i64 v) := by rw [hW9]; simp [hal, hcA, hst, hk1, ↓IntWalk.iteOmega]
      have hb9 : Below wr.heap.size wr W9 := by rw [hW9]; (repeat (first | (with_reducible exact Below.refl _ _) | (with_reducible refine Below.drew ?_) | (with_reducible refine below_drewN ?_ _) | (with_reducible refine Below.setCell ?_ (by first | (simp; done) | (simp; omega) | omega) _) | (with_reducible refine Below.alloc ?_ (by first | (simp; done) | (simp; omega) | omega) _) | (with_reducible refine Below.trans ?_ (Below.mono (by assumption) (by first | (simp; done) | (simp; omega) | omega))) | (with_reducible refine Below.trans ?_ (Below.mono (Later.below _) (by first | (simp; done) | (simp; omega) | omega)))))
      have z0 := cell_below hb9 x0
      have z1 := cell_below hb9 x1
      have zf : ∀ i, W9.frozen? ⟨C, i, none⟩ = false := fun i => (hb9.frozen (p := ⟨C, i, none⟩) lx).trans (xf i)
      have hB9 := HB.out.trans (But.of (C := C) hb9 hws)
      clear hW9 hbA hcA hfA hsA hNA hk1 hkf1 hks1 hkn1 hb1 hc1 hf1 hs1 hN1 hal hfal r0 r1 r2 r3 r4 v0 v1 x0 x1 xf
      by_cases h0 : ls < 0
      · go_wp2
        go_roundw
        case rel =>
          obtain ⟨e1, e2, e3⟩ := Hst1.out (.inl h0)
          refine ⟨k + 1, by omega, by go_num, by rw [e1], by rw [e2]; simp [hst, z0, z1], by rw [e3]; simp [hst, z0, z1], fun i => by simp [zf], ?_⟩
          exact (hB9.trans (But.set C _ 0 _ _)).trans (But.set C _ 1 _ _)
        case measure => simp [intOf]; omega
      · by_cases hs : S < ls
        · go_wp2
          go_roundw
          case rel =>
            obtain ⟨e1, e2, e3⟩ := Hst1.out (.inr hs)
            refine ⟨k + 1, by omega, by go_num, by rw [e1], by rw [e2]; simp [hst, z0, z1], by rw [e3]; simp [hst, z0, z1], fun i => by simp [zf], ?_⟩
            exact (hB9.trans (But.set C _ 0 _ _)).trans (But.set C _ 1 _ _)
          case measure => simp [intOf]; omega
        · go_wp2
          go_roundw
          case rel =>
            obtain ⟨e1, e2, e3⟩ := Hst2.out (by omega) (by omega)
            exact ⟨k + 1, by omega, by go_num, by rw [e1], by rw [e2]; exact z0, by rw [e3]; exact z1, zf, hB9⟩
          case measure => simp [intOf]; omega
    · obtain rfl : k = len := by omega
      have hbw : Below w.heap.size w wr := hB.below st0 (by omega) (by omega)
      have r5 := hB.cell (by omega) (by omega) q5
      have r6 := hB.cell (by omega) (by omega) q6
      have r9 := fun i => hB.froz (by omega) (by omega) (q9 i)
      have hst := setCell_if
      go_wp2
      refine bodyPost_ret (v := .agg #[.int .i64 (bxU zs px ox oy k), .int .i64 (byU zs py ox oy k)]) (by simp [results, Try.results59, go_sem, hst, r5, r6]) rfl ⟨rfl, ?_⟩
      refine (hbw.setCell ?_ _).setCell ?_ _ <;> (simp only; omega)
end Go.Proofs.Ytcgcapfppceggaa.Co
