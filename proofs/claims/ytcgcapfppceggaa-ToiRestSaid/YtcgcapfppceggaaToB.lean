/-
  The reference of package toi: Pair.
  Conditions: none.
-/
import Derived.Test.YtcgcapfppceggaaToA
import Derived.Test.YtcgcapfppceggaaJiA
namespace Go.Proofs.Ytcgcapfppceggaa.To
open Go.RowKit Go.Proofs.Ytcgcapfppceggaa.FxMath Go.Proofs.Ytcgcapfppceggaa.FxA Go.Proofs.Ytcgcapfppceggaa.Qt Go.Proofs.Ytcgcapfppceggaa.Ve Go.Proofs.Ytcgcapfppceggaa.Sh Go.Proofs.Ytcgcapfppceggaa.Co Go.Proofs.Ytcgcapfppceggaa.Ji Go.Shelf
set_option linter.unusedVariables false
set_option linter.unusedSimpArgs false
attribute [local go_sem] Oper.semAt_some
/-! Worlds that agree but for some blocks. -/
structure Buts (L : List Nat) (w W : World) : Prop where
  os : W.os = w.os
  tape : W.tape = w.tape
  output : W.output = w.output
  size : w.heap.size ≤ W.heap.size
  block : ∀ k, k < w.heap.size → k ∉ L → W.heap[k]? = w.heap[k]?
theorem Buts.refl (L : List Nat) (w : World) : Buts L w w := ⟨rfl, rfl, rfl, Nat.le_refl _, fun _ _ _ => rfl⟩
theorem Buts.below {L : List Nat} {u v w : World} (h : Buts L u v) (k : Below v.heap.size v w) : Buts L u w :=
  ⟨k.os.trans h.os, k.tape.trans h.tape, k.output.trans h.output, Nat.le_trans h.size k.size, fun i hi hc => (k.block i (Nat.lt_of_lt_of_le hi h.size)).trans (h.block i hi hc)⟩
theorem Buts.set {L : List Nat} {u v : World} (h : Buts L u v) {C : Nat} (hC : C ∈ L) (o : Nat) (x : Value) : Buts L u (v.setCell ⟨C, o, none⟩ x) :=
  ⟨h.os, h.tape, h.output, by simpa [World.setCell] using h.size, fun k hk hc => by
    have hne : C ≠ k := fun e => hc (e ▸ hC)
    have := h.block k hk hc
    simpa [World.setCell, Array.getElem?_modify, hne] using this⟩
theorem Buts.cell {L : List Nat} {w W : World} {b o : Nat} {v : Value} (h : Buts L w W) (hb : b < w.heap.size) (hc : b ∉ L) (e : w.cell? ⟨b, o, none⟩ = some v) : W.cell? ⟨b, o, none⟩ = some v :=
  (World.cell?_of_block (h.block b hb hc)).trans e
theorem Buts.to {L : List Nat} {w0 w W : World} {n : Nat} (h : Buts L w W) (hb : Below n w0 w) (hL : ∀ k ∈ L, n ≤ k) (hn : n ≤ w.heap.size) : Below n w0 W :=
  hb.trans ⟨h.os, h.tape, h.output, h.size, fun k hk => h.block k (by omega) (fun hk' => by have := hL k hk'; omega)⟩
theorem Buts.shape {L : List Nat} {w W : World} {r : Int} {a : Option Addr} {len cap : Nat} {zs : List (Int × Int)} (h : Buts L w W) (hs : ShAt w r a len cap zs) (hL : ∀ x, a = some x → x.block ∉ L) : ShAt W r a len cap zs := by
  refine ⟨hs.kind, ?_⟩
  rcases hs.poly with h0 | ⟨b, o, h1, h2, h3, h4, h5⟩
  · exact .inl h0
  · have hb := hL _ h1
    simp only at hb
    refine .inr ⟨b, o, h1, h2, h3, h4, fun i hi => ?_⟩
    have l0 := World.block_lt_of_cell? _ _ (h5 i hi).1
    simp only at l0
    exact ⟨h.cell l0 hb (h5 i hi).1, h.cell l0 hb (h5 i hi).2⟩
theorem clm_bd (n lo hi : Int) (h : lo ≤ hi) : lo ≤ clm n lo hi ∧ clm n lo hi ≤ hi := by
  unfold clm
  split <;> (try split) <;> omega
theorem later3_one {w : World} {B C : Nat} {U : World} (x : Later3 w B C) (hU : U = x.out) (p : Addr) (hp : p.block = B ∨ p.block = C) (v : Value) : ∃ y : Later3 w B C, U.setCell p v = y.out :=
  ⟨x.set p hp v, by rw [hU]; rfl⟩
theorem later3_six {w : World} {B C : Nat} {U : World} (x : Later3 w B C) (hU : U = x.out) (b : Nat) (hb : b = B ∨ b = C) (v0 v1 v2 v3 v4 v5 : Value) :
    ∃ y : Later3 w B C, ((((((U.setCell ⟨b, 0, none⟩ v0).setCell ⟨b, 1, none⟩ v1).setCell ⟨b, 2, none⟩ v2).setCell ⟨b, 3, none⟩ v3).setCell ⟨b, 4, none⟩ v4).setCell ⟨b, 5, none⟩ v5) = y.out := by
  obtain ⟨x0, h0⟩ := later3_one x hU ⟨b, 0, none⟩ hb v0
  obtain ⟨x1, h1⟩ := later3_one x0 h0 ⟨b, 1, none⟩ hb v1
  obtain ⟨x2, h2⟩ := later3_one x1 h1 ⟨b, 2, none⟩ hb v2
  obtain ⟨x3, h3⟩ := later3_one x2 h2 ⟨b, 3, none⟩ hb v3
  obtain ⟨x4, h4⟩ := later3_one x3 h3 ⟨b, 4, none⟩ hb v4
  exact later3_one x4 h4 ⟨b, 5, none⟩ hb v5
/-- What Pair hands back. -/
def PairP (w : World) (e : Ending) (W : World) : Prop :=
  ∃ (ra : Int) (aa : Option Addr) (la ca : Nat) (za : List (Int × Int)) (px py ux uy rb : Int) (ab : Option Addr) (lb cb : Nat) (zb : List (Int × Int)) (qx qy vx' vy' : Int),
    e = .returned (.tuple #[.agg #[.int .i64 ra, .slice aa la ca, .int .i64 px, .int .i64 py, .int .i64 ux, .int .i64 uy], .agg #[.int .i64 rb, .slice ab lb cb, .int .i64 qx, .int .i64 qy, .int .i64 vx', .int .i64 vy']]) ∧
    ShAt W ra aa la ca za ∧ ShAt W rb ab lb cb zb ∧ (-640000 ≤ px ∧ px ≤ 640000 ∧ -640000 ≤ py ∧ py ≤ 640000) ∧ (-16384 ≤ ux ∧ ux ≤ 16384 ∧ -16384 ≤ uy ∧ uy ≤ 16384) ∧ (-640000 ≤ qx ∧ qx ≤ 640000 ∧ -640000 ≤ qy ∧ qy ≤ 640000) ∧ (-16384 ≤ vx' ∧ vx' ≤ 16384 ∧ -16384 ≤ vy' ∧ vy' ≤ 16384) ∧ Below w.heap.size w W
set_option maxRecDepth 100000 in
set_option maxHeartbeats 8000000 in
theorem pair_any (a : Option Addr) (len cap : Nat) (A : List Int) (w : World) (h : IsL w a len cap A) :
    Calls Try.prog 37 #[.slice a len cap] w (PairP w) := by
  have hcm := h.2.2.1
  have hlc := h.2.1
  unfold maxLen at hcm
  obtain ⟨i0, hii, hz0, hz1, hz2⟩ := info_parts Try.infoI
  have hal := alloc_if; have hfal := allocF_if
  go_enter Try.func37, Try.ntmps37
  go_wp2
  refine name_world3 fun W0 hW0 => ?_
  have st0 : Below w.heap.size w W0 := by rw [hW0]; (repeat (first | (with_reducible exact Below.refl _ _) | (with_reducible refine Below.drew ?_) | (with_reducible refine below_drewN ?_ _) | (with_reducible refine Below.setCell ?_ (by first | (simp; done) | (simp; omega) | omega) _) | (with_reducible refine Below.alloc ?_ (by first | (simp; done) | (simp; omega) | omega) _) | (with_reducible refine Below.trans ?_ (Below.mono (by assumption) (by first | (simp; done) | (simp; omega) | omega))) | (with_reducible refine Below.trans ?_ (Below.mono (Later.below _) (by first | (simp; done) | (simp; omega) | omega)))))
  have z2 : ∀ i, i < 6 → ∃ v, W0.cell? ⟨w.heap.size, i, none⟩ = some v := fun i hi => by
    rw [hW0]
    obtain rfl | rfl | rfl | rfl | rfl | rfl : i = 0 ∨ i = 1 ∨ i = 2 ∨ i = 3 ∨ i = 4 ∨ i = 5 := by omega
    all_goals exact ⟨_, by simp [hal, ↓IntWalk.iteOmega]; rfl⟩
  have z3 : ∀ i, i < 6 → ∃ v, W0.cell? ⟨w.heap.size + 1, i, none⟩ = some v := fun i hi => by
    rw [hW0]
    obtain rfl | rfl | rfl | rfl | rfl | rfl : i = 0 ∨ i = 1 ∨ i = 2 ∨ i = 3 ∨ i = 4 ∨ i = 5 := by omega
    all_goals exact ⟨_, by simp [hal, ↓IntWalk.iteOmega]; rfl⟩
  have z4 : ∀ i, W0.frozen? ⟨w.heap.size, i, none⟩ = false := fun i => by rw [hW0]; simp [hfal, ↓IntWalk.iteOmega]
  have z5 : ∀ i, W0.frozen? ⟨w.heap.size + 1, i, none⟩ = false := fun i => by rw [hW0]; simp [hfal, ↓IntWalk.iteOmega]
  have hsz : W0.heap.size = w.heap.size + 1 + 1 := by rw [hW0]; simp
  clear hW0 hal hfal
  have Hh := Lib.hid h
  clear h
  go_loopw [4, 5] (fun l i wr => ∃ (k : Nat) (K : List Int), k ≤ 8 ∧ i = .int .i64 k ∧ wr.ownsRow W0.heap.size 3 1 l k (K.map (Value.int .i64)) ∧ (∀ x ∈ K, 0 ≤ x ∧ x < 1000000000) ∧ Below W0.heap.size W0 wr) (fun _ i _ => 8 - (intOf i).toNat)
  case atStart => exact ⟨0, [], by omega, rfl, World.ownsRow_nil _ _ _ _, by simp, Below.refl _ _⟩
  case round =>
    obtain ⟨k, K, hk, rfl, hown, hKb, hB⟩ := hrel
    have hws := hB.size
    have hKl : K.length = k := by have := hown.1; simpa using this
    by_cases hlt : k < 8
    · have hltI : (k : Int) < 8 := by omega
      have key : ∀ x : Int, (0 ≤ x ∧ x < 1000000000) → ∀ (v' : Value) (w2 : World), w2.ownsRow W0.heap.size 3 1 v' (k + 1) (K.map (Value.int .i64) ++ [.int .i64 x]) → w2.ownsRow W0.heap.size 3 1 v' (k + 1) ((K ++ [x]).map (Value.int .i64)) ∧ ∀ y ∈ K ++ [x], 0 ≤ y ∧ y < 1000000000 := by
        intro x hx v' w2 hr
        refine ⟨by rw [List.map_append]; exact hr, fun y hy => ?_⟩
        rcases List.mem_append.1 hy with hy | hy
        · exact hKb y hy
        · rw [List.mem_singleton.1 hy]; exact hx
      have Hkey := Lib.hid key
      have Hown := Lib.hid hown
      clear key hKb hown
      by_cases hin : k < len
      · obtain ⟨b, o, rfl, hc, hw⟩ := ((Hh.out.later st0).later hB).cell (k := k) hin
        generalize A.getD k 0 = x at *
        have hx := i64_bd hw
        have ca := gives_same (fun w => around_any x 1000000000 w hx.1 hx.2 (by omega) (by omega))
        have hb := aro_bd x 1000000000 (by decide)
        obtain ⟨hb0, hb1⟩ := hb
        generalize aro x 1000000000 = y at *
        have hlI : (k : Int) < (len : Int) := by omega
        have hk0 : (0 : Int) ≤ (k : Int) := by omega
        clear hx hKl
        have Hca := Lib.hid ca; clear ca
        have hal := alloc_if; have hfal := allocF_if
        go_wp2_with (first | ((with_reducible refine (Hca.out _).mono ?_); rintro e wA ⟨rfl, hbA⟩; obtain ⟨NA, hNA, hcA, hfA, hsA⟩ := bcell hbA; (try simp only [World.size_alloc, World.size_setCell, World.size_drew] at hNA)) | (at_builtin; refine wpList_append_own _ rfl _ _ 54 rfl W0.heap.size 3 i0 (.int .i64 0) 1 8 Try.underlying54 hii hz0 hz1 hz2 (by simp [Value.cells]) (by decide) _ k (K.map (Value.int .i64)) rfl ((ownsRow_kept Hown.out (by (repeat (first | (with_reducible exact Below.refl _ _) | (with_reducible refine Below.drew ?_) | (with_reducible refine below_drewN ?_ _) | (with_reducible refine Below.setCell ?_ (by first | (simp; done) | (simp; omega) | omega) _) | (with_reducible refine Below.alloc ?_ (by first | (simp; done) | (simp; omega) | omega) _) | (with_reducible refine Below.trans ?_ (Below.mono (by assumption) (by first | (simp; done) | (simp; omega) | omega))) | (with_reducible refine Below.trans ?_ (Below.mono (Later.below _) (by first | (simp; done) | (simp; omega) | omega))))))).alloc _) ⟨wA.heap.size, 0, none⟩ 1 1 [.int .i64 y] rfl rfl (new1 _ _ _) (by simp [Value.oneCell']) (by unfold maxLen; omega) (by omega) (by simp; omega) ?_; intro v' w2 hown2 hgrow2 _))
        obtain ⟨hown3, hKb3⟩ := Hkey.out y (by omega) v' w2 hown2
        have hbw : Below wr.heap.size wr wA := by (repeat (first | (with_reducible exact Below.refl _ _) | (with_reducible refine Below.drew ?_) | (with_reducible refine below_drewN ?_ _) | (with_reducible refine Below.setCell ?_ (by first | (simp; done) | (simp; omega) | omega) _) | (with_reducible refine Below.alloc ?_ (by first | (simp; done) | (simp; omega) | omega) _) | (with_reducible refine Below.trans ?_ (Below.mono (by assumption) (by first | (simp; done) | (simp; omega) | omega))) | (with_reducible refine Below.trans ?_ (Below.mono (Later.below _) (by first | (simp; done) | (simp; omega) | omega)))))
        have hB2 : Below W0.heap.size W0 w2 := ((hB.trans (hbw.mono hws)).alloc (by have := hbw.size; omega) _).grown hgrow2 (by have := hbw.size; simp; omega) (fun k e => (Hown.out.lt k e).1)
        clear hown2 hgrow2
        go_wp2
        go_roundw
        case rel => exact ⟨k + 1, _, by omega, by go_num, hown3, hKb3, hB2⟩
        case measure => simp [intOf]; omega
      · have hlI : ¬ (k : Int) < (len : Int) := by omega
        have hal := alloc_if; have hfal := allocF_if
        clear hKl
        go_wp2_with (at_builtin; refine wpList_append_own _ rfl _ _ 54 rfl W0.heap.size 3 i0 (.int .i64 0) 1 8 Try.underlying54 hii hz0 hz1 hz2 (by simp [Value.cells]) (by decide) _ k (K.map (Value.int .i64)) rfl ((ownsRow_kept Hown.out (by (repeat (first | (with_reducible exact Below.refl _ _) | (with_reducible refine Below.drew ?_) | (with_reducible refine below_drewN ?_ _) | (with_reducible refine Below.setCell ?_ (by first | (simp; done) | (simp; omega) | omega) _) | (with_reducible refine Below.alloc ?_ (by first | (simp; done) | (simp; omega) | omega) _) | (with_reducible refine Below.trans ?_ (Below.mono (by assumption) (by first | (simp; done) | (simp; omega) | omega))) | (with_reducible refine Below.trans ?_ (Below.mono (Later.below _) (by first | (simp; done) | (simp; omega) | omega))))))).alloc _) ⟨wr.heap.size, 0, none⟩ 1 1 [.int .i64 0] rfl rfl (new1 _ _ _) (by simp [Value.oneCell']) (by unfold maxLen; omega) (by omega) (by simp; omega) ?_; intro v' w2 hown2 hgrow2 _)
        obtain ⟨hown3, hKb3⟩ := Hkey.out 0 (by omega) v' w2 hown2
        have hB2 : Below W0.heap.size W0 w2 := (hB.alloc (by omega) _).grown hgrow2 (by simp; omega) (fun k e => (Hown.out.lt k e).1)
        clear hown2 hgrow2
        go_wp2
        go_roundw
        case rel => exact ⟨k + 1, _, by omega, by go_num, hown3, hKb3, hB2⟩
        case measure => simp [intOf]; omega
    · obtain rfl : k = 8 := by omega
      obtain ⟨hKl, aK, capK, rfl, hK⟩ := isL_of_own hown (fun x hx => by have := hKb x hx; simp [Lit.wf, IntKind.min, IntKind.max, IntKind.bits, IntKind.signed]; omega)
      obtain ⟨_, hKc, hKm, h8 | ⟨b, o, rfl, hKcell⟩, _⟩ := hK
      · omega
      have hblk := hown.lt b rfl
      have hKi : ∀ i, i < 8 → 0 ≤ K.getD i 0 ∧ K.getD i 0 < 1000000000 := fun i hi => by
        refine hKb _ ?_
        rw [List.getD_eq_getElem?_getD, List.getElem?_eq_getElem (by omega)]
        exact List.getElem_mem _
      unfold maxLen at hKm
      have e0 := hKcell 0 (by omega)
      have e1 := hKcell 1 (by omega)
      have e2 := hKcell 2 (by omega)
      have e3 := hKcell 3 (by omega)
      have e4 := hKcell 4 (by omega)
      have e5 := hKcell 5 (by omega)
      have e6 := hKcell 6 (by omega)
      have e7 := hKcell 7 (by omega)
      have r0 := hKi 0 (by omega)
      have r1 := hKi 1 (by omega)
      have r2 := hKi 2 (by omega)
      have r3 := hKi 3 (by omega)
      have r4 := hKi 4 (by omega)
      have r5 := hKi 5 (by omega)
      have r6 := hKi 6 (by omega)
      have r7 := hKi 7 (by omega)
      simp only [Nat.add_zero] at e0
      clear hKcell hKi hKb hown hz0 hz1 hz2 hii
      generalize K.getD 0 0 = k0 at *
      generalize K.getD 1 0 = k1 at *
      generalize K.getD 2 0 = k2 at *
      generalize K.getD 3 0 = k3 at *
      generalize K.getD 4 0 = k4 at *
      generalize K.getD 5 0 = k5 at *
      generalize K.getD 6 0 = k6 at *
      generalize K.getD 7 0 = k7 at *
      have wfk : ∀ x : Int, 0 ≤ x ∧ x < 1000000000 → (Lit.int .i64 x).wf = true := fun x hx => by simp [Lit.wf, IntKind.min, IntKind.max, IntKind.bits, IntKind.signed]; omega
      have cs0 := fun V => shape_any k0 V (wfk k0 r0)
      have cs1 := fun V => shape_any k1 V (wfk k1 r1)
      obtain ⟨la, hla⟩ : ∃ L, L = (shZ k0).length := ⟨_, rfl⟩
      obtain ⟨lb, hlb⟩ : ∃ L, L = (shZ k1).length := ⟨_, rfl⟩
      rw [← hla] at cs0
      rw [← hlb] at cs1
      generalize shR k0 = ra at *
      generalize shZ k0 = za at *
      generalize shR k1 = rb at *
      generalize shZ k1 = zb at *
      have hKI : (8 : Int) ≤ (capK : Int) := by omega
      have Hcs0 := Lib.hid cs0; have Hcs1 := Lib.hid cs1; have Hhla := Lib.hid hla; have Hhlb := Lib.hid hlb; clear cs0 cs1 hla hlb
      have hal := alloc_if; have hfal := allocF_if
      go_upto_region 11 with (first | ((with_reducible refine (Hcs0.out _).mono ?_); rintro e WA ⟨aa, ca, rfl, hA, hbA, hxA⟩; obtain ⟨NA, hNA, hcA, hfA, hsA⟩ := bcell hbA; (try simp only [World.size_alloc, World.size_setCell, World.size_drew] at hNA)) | ((with_reducible refine (Hcs1.out _).mono ?_); rintro e WB ⟨ab, cb, rfl, hSB, hbB, hxB⟩; obtain ⟨NB, hNB, hcB, hfB, hsB⟩ := bcell hbB; (try simp only [World.size_alloc, World.size_setCell, World.size_drew] at hNB)))
      have hA2 : ShAt WB ra aa la ca za := hA.later (by (repeat (first | (with_reducible exact Below.refl _ _) | (with_reducible refine Below.drew ?_) | (with_reducible refine below_drewN ?_ _) | (with_reducible refine Below.setCell ?_ (by first | (simp; done) | (simp; omega) | omega) _) | (with_reducible refine Below.alloc ?_ (by first | (simp; done) | (simp; omega) | omega) _) | (with_reducible refine Below.trans ?_ (Below.mono (by assumption) (by first | (simp; done) | (simp; omega) | omega))) | (with_reducible refine Below.trans ?_ (Below.mono (Later.below _) (by first | (simp; done) | (simp; omega) | omega))))))
      have c1 := rbounds_s hA2 0 0 (by decide) (by decide)
      have c2 := rbounds_s hSB 0 0 (by decide) (by decide)
      obtain ⟨⟨x0, x1, x2⟩, y0, y1, y2⟩ := box_bd hA2 0 0
      obtain ⟨⟨x3, x4, x5⟩, y3, y4, y5⟩ := box_bd hSB 0 0
      generalize bx0 ra la za 0 = A0 at *
      generalize by0 ra la za 0 = A1 at *
      generalize bx1 ra la za 0 = A2 at *
      generalize by1 ra la za 0 = A3 at *
      generalize bx0 rb lb zb 0 = B0 at *
      generalize by0 rb lb zb 0 = B1 at *
      generalize bx1 rb lb zb 0 = B2 at *
      generalize by1 rb lb zb 0 = B3 at *
      have Hc1 := Lib.hid c1; have Hc2 := Lib.hid c2; clear c1 c2
      go_upto_region 15 with (first | ((with_reducible refine (Hc1.out _ (by (repeat (first | (with_reducible exact Below.refl _ _) | (with_reducible refine Below.drew ?_) | (with_reducible refine below_drewN ?_ _) | (with_reducible refine Below.setCell ?_ (by first | (simp; done) | (simp; omega) | omega) _) | (with_reducible refine Below.alloc ?_ (by first | (simp; done) | (simp; omega) | omega) _) | (with_reducible refine Below.trans ?_ (Below.mono (by assumption) (by first | (simp; done) | (simp; omega) | omega))) | (with_reducible refine Below.trans ?_ (Below.mono (Later.below _) (by first | (simp; done) | (simp; omega) | omega))))))).mono ?_); rintro e wC ⟨rfl, hbC⟩; obtain ⟨NC, hNC, hcC, hfC, hsC⟩ := bcell hbC; (try simp only [World.size_alloc, World.size_setCell, World.size_drew] at hNC)) | ((with_reducible refine (Hc2.out _ (by (repeat (first | (with_reducible exact Below.refl _ _) | (with_reducible refine Below.drew ?_) | (with_reducible refine below_drewN ?_ _) | (with_reducible refine Below.setCell ?_ (by first | (simp; done) | (simp; omega) | omega) _) | (with_reducible refine Below.alloc ?_ (by first | (simp; done) | (simp; omega) | omega) _) | (with_reducible refine Below.trans ?_ (Below.mono (by assumption) (by first | (simp; done) | (simp; omega) | omega))) | (with_reducible refine Below.trans ?_ (Below.mono (Later.below _) (by first | (simp; done) | (simp; omega) | omega))))))).mono ?_); rintro e wD ⟨rfl, hbD⟩; obtain ⟨ND, hND, hcD, hfD, hsD⟩ := bcell hbD; (try simp only [World.size_alloc, World.size_setCell, World.size_drew] at hND)))
      -- GEN
      refine name_world3 fun W5 hW5 => ?_
      have hbr : Below wr.heap.size wr W5 := by rw [hW5]; (repeat (first | (with_reducible exact Below.refl _ _) | (with_reducible refine Below.drew ?_) | (with_reducible refine below_drewN ?_ _) | (with_reducible refine Below.setCell ?_ (by first | (simp; done) | (simp; omega) | omega) _) | (with_reducible refine Below.alloc ?_ (by first | (simp; done) | (simp; omega) | omega) _) | (with_reducible refine Below.trans ?_ (Below.mono (by assumption) (by first | (simp; done) | (simp; omega) | omega))) | (with_reducible refine Below.trans ?_ (Below.mono (Later.below _) (by first | (simp; done) | (simp; omega) | omega)))))
      have AW5_0 : W5.cell? ⟨WA.heap.size, 0, none⟩ = some (.int .i64 ra) := by rw [hW5]; simp [hcD, hcC, hcB, hal, ↓IntWalk.iteOmega]
      have AW5_1 : W5.cell? ⟨WA.heap.size, 1, none⟩ = some (.slice aa la ca) := by rw [hW5]; simp [hcD, hcC, hcB, hal, ↓IntWalk.iteOmega]
      have AW5_2 : W5.cell? ⟨WA.heap.size, 2, none⟩ = some (.int .i64 0) := by rw [hW5]; simp [hcD, hcC, hcB, hal, ↓IntWalk.iteOmega]
      have AW5_3 : W5.cell? ⟨WA.heap.size, 3, none⟩ = some (.int .i64 0) := by rw [hW5]; simp [hcD, hcC, hcB, hal, ↓IntWalk.iteOmega]
      have AW5_4 : W5.cell? ⟨WA.heap.size, 4, none⟩ = some (.int .i64 0) := by rw [hW5]; simp [hcD, hcC, hcB, hal, ↓IntWalk.iteOmega]
      have AW5_5 : W5.cell? ⟨WA.heap.size, 5, none⟩ = some (.int .i64 0) := by rw [hW5]; simp [hcD, hcC, hcB, hal, ↓IntWalk.iteOmega]
      have BW5_0 : W5.cell? ⟨WB.heap.size, 0, none⟩ = some (.int .i64 rb) := by rw [hW5]; simp [hcD, hcC, hal, ↓IntWalk.iteOmega]
      have BW5_1 : W5.cell? ⟨WB.heap.size, 1, none⟩ = some (.slice ab lb cb) := by rw [hW5]; simp [hcD, hcC, hal, ↓IntWalk.iteOmega]
      have BW5_2 : W5.cell? ⟨WB.heap.size, 2, none⟩ = some (.int .i64 0) := by rw [hW5]; simp [hcD, hcC, hal, ↓IntWalk.iteOmega]
      have BW5_3 : W5.cell? ⟨WB.heap.size, 3, none⟩ = some (.int .i64 0) := by rw [hW5]; simp [hcD, hcC, hal, ↓IntWalk.iteOmega]
      have BW5_4 : W5.cell? ⟨WB.heap.size, 4, none⟩ = some (.int .i64 0) := by rw [hW5]; simp [hcD, hcC, hal, ↓IntWalk.iteOmega]
      have BW5_5 : W5.cell? ⟨WB.heap.size, 5, none⟩ = some (.int .i64 0) := by rw [hW5]; simp [hcD, hcC, hal, ↓IntWalk.iteOmega]
      have fA : ∀ i, W5.frozen? ⟨WA.heap.size, i, none⟩ = false := fun i => by rw [hW5]; simp [hfD, hfC, hfB, hfal, ↓IntWalk.iteOmega]
      have fB : ∀ i, W5.frozen? ⟨WB.heap.size, i, none⟩ = false := fun i => by rw [hW5]; simp [hfD, hfC, hfal, ↓IntWalk.iteOmega]
      have hAx : ∀ x, aa = some x → wr.heap.size ≤ x.block ∧ x.block < WA.heap.size := fun x hx => ⟨hxA x hx, by
        rcases hA.poly with ⟨h, _⟩ | ⟨b9, o9, h, _, _, _, h5⟩
        · rw [hx] at h; cases h
        · have h3 : 0 < la ∨ la = 0 := by omega
          rcases hA.kind with ⟨h0, _, h1, _⟩ | ⟨_, h1, _⟩
          · rw [h1] at hx; cases hx
          · have := World.block_lt_of_cell? _ _ (h5 0 (by omega)).1
            rw [h] at hx; cases hx; exact this⟩
      have hBx : ∀ x, ab = some x → WA.heap.size + 1 ≤ x.block ∧ x.block < WB.heap.size := fun x hx => ⟨by have := hxB x hx; simpa using this, by
        rcases hSB.poly with ⟨h, _⟩ | ⟨b9, o9, h, _, _, _, h5⟩
        · rw [hx] at h; cases h
        · rcases hSB.kind with ⟨h0, _, h1, _⟩ | ⟨_, h1, _⟩
          · rw [h1] at hx; cases hx
          · have := World.block_lt_of_cell? _ _ (h5 0 (by omega)).1
            rw [h] at hx; cases hx; exact this⟩
      have hS5A : ShAt W5 ra aa la ca za := hA2.later (by rw [hW5]; (repeat (first | (with_reducible exact Below.refl _ _) | (with_reducible refine Below.drew ?_) | (with_reducible refine below_drewN ?_ _) | (with_reducible refine Below.setCell ?_ (by first | (simp; done) | (simp; omega) | omega) _) | (with_reducible refine Below.alloc ?_ (by first | (simp; done) | (simp; omega) | omega) _) | (with_reducible refine Below.trans ?_ (Below.mono (by assumption) (by first | (simp; done) | (simp; omega) | omega))) | (with_reducible refine Below.trans ?_ (Below.mono (Later.below _) (by first | (simp; done) | (simp; omega) | omega))))))
      have hS5B : ShAt W5 rb ab lb cb zb := hSB.later (by rw [hW5]; (repeat (first | (with_reducible exact Below.refl _ _) | (with_reducible refine Below.drew ?_) | (with_reducible refine below_drewN ?_ _) | (with_reducible refine Below.setCell ?_ (by first | (simp; done) | (simp; omega) | omega) _) | (with_reducible refine Below.alloc ?_ (by first | (simp; done) | (simp; omega) | omega) _) | (with_reducible refine Below.trans ?_ (Below.mono (by assumption) (by first | (simp; done) | (simp; omega) | omega))) | (with_reducible refine Below.trans ?_ (Below.mono (Later.below _) (by first | (simp; done) | (simp; omega) | omega))))))
      have zA : wr.heap.size ≤ WA.heap.size := hbA.size
      have zB : WA.heap.size < WB.heap.size := by omega
      have zC : WB.heap.size < W5.heap.size := World.block_lt_of_cell? _ _ BW5_0
      obtain ⟨bA, hbA9⟩ : ∃ b, b = WA.heap.size := ⟨_, rfl⟩
      obtain ⟨bB, hbB9⟩ : ∃ b, b = WB.heap.size := ⟨_, rfl⟩
      rw [← hbA9] at zA zB fA AW5_0 AW5_1 AW5_2 AW5_3 AW5_4 AW5_5 hAx hBx ⊢
      rw [← hbB9] at zB zC fB BW5_0 BW5_1 BW5_2 BW5_3 BW5_4 BW5_5 hBx ⊢
      have hB05 : Below W0.heap.size W0 W5 := hB.trans (hbr.mono hws)
      have hBw5 : Below w.heap.size w W5 := st0.trans (hB05.mono st0.size)
      have g2 := cell_below hbr e2
      have g3 := cell_below hbr e3
      have g4 := cell_below hbr e4
      have g5 := cell_below hbr e5
      have g6 := cell_below hbr e6
      have g7 := cell_below hbr e7
      have lb0 : b < wr.heap.size := hblk.2
      have lb1 : W0.heap.size ≤ b := hblk.1
      clear hW5 hbA hbB hbC hbD hcA hcB hcC hcD hfA hfB hfC hfD hsA hsB hsC hsD hNA hNB hNC hND NA NB NC ND hA hA2 hSB hxA hxB hbA9 hbB9 Hc1 Hc2 Hcs0 Hcs1 hal hfal e0 e1 e2 e3 e4 e5 e6 e7 hblk hbr hB
      clear WA WB
      generalize hWW : A2 - A0 + B2 - B0 = WW at *
      generalize hHH : A3 - A1 + B3 - B1 = HH at *
      have bWW : 0 ≤ WW ∧ WW ≤ 131072 := by omega
      have bHH : 0 ≤ HH ∧ HH ≤ 131072 := by omega
      obtain ⟨mW, hmW⟩ : ∃ m, m = WW + 5 := ⟨_, rfl⟩
      obtain ⟨mH, hmH⟩ : ∃ m, m = HH + 5 := ⟨_, rfl⟩
      have gw1 : IntKind.i64.wrap (WW + 5) = mW := by rw [hmW]; exact IntWalk.i64_in _ (by omega)
      have gw2 : IntKind.i64.wrap (HH + 5) = mH := by rw [hmH]; exact IntWalk.i64_in _ (by omega)
      have cd1 := gives_same (fun V => bound_any k2 mW V (by omega) (by omega) (by omega) (by omega))
      have bdx := bnd_bd k2 mW (by omega)
      generalize bnd k2 mW = dx at *
      have cd2 := gives_same (fun V => bound_any k3 mH V (by omega) (by omega) (by omega) (by omega))
      have bdy := bnd_bd k3 mH (by omega)
      generalize bnd k3 mH = dy at *
      have cd3 := gives_same (fun V => bound_any k4 500000 V (by omega) (by omega) (by decide) (by decide))
      have bpx := bnd_bd k4 500000 (by decide)
      generalize bnd k4 500000 = px at *
      have cd4 := gives_same (fun V => bound_any (k4 / 7) 500000 V (by omega) (by omega) (by decide) (by decide))
      have bpy := bnd_bd (k4 / 7) 500000 (by decide)
      generalize bnd (k4 / 7) 500000 = py at *
      have cd5 := gives_same (fun V => bound_any (k6 / 3) 16384 V (by omega) (by omega) (by decide) (by decide))
      have bvx1 := bnd_bd (k6 / 3) 16384 (by decide)
      generalize bnd (k6 / 3) 16384 = vx1 at *
      have cd6 := gives_same (fun V => bound_any k7 16384 V (by omega) (by omega) (by decide) (by decide))
      have bvy1 := bnd_bd k7 16384 (by decide)
      generalize bnd k7 16384 = vy1 at *
      have cad := radd_any px py dx dy (by omega) (by omega) (by omega) (by omega)
      have bd1 : -131077 ≤ dx ∧ dx ≤ 131077 := by omega
      have bd2 : -131077 ≤ dy ∧ dy ≤ 131077 := by omega
      have Hcd1 := Lib.hid cd1; have Hcd2 := Lib.hid cd2; have Hcd3 := Lib.hid cd3; have Hcd4 := Lib.hid cd4; have Hcd5 := Lib.hid cd5; have Hcd6 := Lib.hid cd6; have Hcad := Lib.hid cad; clear cd1 cd2 cd3 cd4 cd5 cd6 cad
      clear hWW hHH hmW hmH bWW bHH x0 x1 x2 x3 x4 x5 y0 y1 y2 y3 y4 y5 bdx bdy r0 r1 r2 r3 r7
      have hle : bA < W5.heap.size := by omega
      have hlb5 : b < W5.heap.size := by omega
      have hal := alloc_if; have hfal := allocF_if
      refine wp_region_calm1 13 13 #[.int .i64 0, .int .i64 0] 29 rfl (by kernel_rfl) (by kernel_rfl) (fun o ho ev w => by have ho' := Option.some.inj ho; rw [← ho']; exact rfl) fun NL hL => ?_; obtain ⟨hNL, hlc, hlf⟩ := hL; (try simp only [World.size_alloc, World.size_setCell, World.size_drew] at hNL); simp only [List.take_succ_cons, List.take_zero, List.drop_succ_cons, List.drop_zero]
      repeat ((refine wpCalm_go (fun K hK => ?_); go_simp; (repeat (simp only [↓IntWalk.iteOmega]; (try go_simp)))); first | (refine hK _ ?_; clear hK K) | (apply Exists.intro; refine ⟨fun x => ?_, hK _ ?_⟩; (first | (with_reducible exact calm_call (Hcd1.out _)) | (with_reducible exact calm_call (Hcd2.out _))); clear hK K))
      (refine wpCalm_nil ?_; intro b1 w1 hb1 hk1 hkf1 hkn1 hks1; (try simp only [World.size_alloc, World.size_setCell, World.size_drew] at hkn1); clear hlc hlf hNL NL; obtain ⟨N1, hN1, hc1, hf1, hs1⟩ := bcell hb1; (try simp only [World.size_alloc, World.size_setCell, World.size_drew] at hN1))
      have hst := setCell_if
      simp only [Act.put, List.setIfInBounds_toArray, List.set_cons_zero, List.set_cons_succ]
      go_upto_region 16 with (fail)
      refine name_world3 fun W6 hW6 => ?_
      have hb56 : Below W5.heap.size W5 W6 := by rw [hW6]; exact (hb1.setCell hkn1 _).setCell hkn1 _
      have D6_0 : W6.cell? ⟨b1, 0, none⟩ = some (.int .i64 dx) := by rw [hW6]; simp [hst, hk1]
      have D6_1 : W6.cell? ⟨b1, 1, none⟩ = some (.int .i64 dy) := by rw [hW6]; simp [hst, hk1]
      have AW6_0 := cell_below hb56 AW5_0
      have AW6_1 := cell_below hb56 AW5_1
      have AW6_2 := cell_below hb56 AW5_2
      have AW6_3 := cell_below hb56 AW5_3
      have AW6_4 := cell_below hb56 AW5_4
      have AW6_5 := cell_below hb56 AW5_5
      have BW6_0 := cell_below hb56 BW5_0
      have BW6_1 := cell_below hb56 BW5_1
      have BW6_2 := cell_below hb56 BW5_2
      have BW6_3 := cell_below hb56 BW5_3
      have BW6_4 := cell_below hb56 BW5_4
      have BW6_5 := cell_below hb56 BW5_5
      have fA6 : ∀ i, W6.frozen? ⟨bA, i, none⟩ = false := fun i => (hb56.frozen (p := ⟨bA, i, none⟩) hle).trans (fA i)
      have fB6 : ∀ i, W6.frozen? ⟨bB, i, none⟩ = false := fun i => (hb56.frozen (p := ⟨bB, i, none⟩) zC).trans (fB i)
      have h4 := cell_below hb56 g4
      have h5 := cell_below hb56 g5
      have h6 := cell_below hb56 g6
      have h7 := cell_below hb56 g7
      have s6 := hb56.size
      have l6A : bA < W6.heap.size := by omega
      have l6B : bB < W6.heap.size := by omega
      have l6b : b < W6.heap.size := by omega
      have l6D : b1 < W6.heap.size := World.block_lt_of_cell? _ _ D6_0
      have nAB : ¬ bA = bB := by omega
      have nBA : ¬ bB = bA := by omega
      have nDA : ¬ b1 = bA := by omega
      have nDB : ¬ b1 = bB := by omega
      have nbA : ¬ b = bA := by omega
      have nbB : ¬ b = bB := by omega
      clear hW6 hk1 hkf1 hc1 hf1 hb1 hs1 hN1 hks1 hkn1 N1 w1 hst gw1 gw2 Hcd1 Hcd2 AW5_0 BW5_0 AW5_1 BW5_1 AW5_2 BW5_2 AW5_3 BW5_3 AW5_4 BW5_4 AW5_5 BW5_5 g2 g3 g4 g5 g6 g7 fA fB
      refine wp_region_later_tail 11 (by kernel_rfl) (by kernel_rfl) fun NL hL => ?_; obtain ⟨hNL, hlc, hlf⟩ := hL; (try simp only [World.size_alloc, World.size_setCell, World.size_drew] at hNL); simp only [List.take_succ_cons, List.take_zero, List.drop_succ_cons, List.drop_zero]
      repeat (go_big_quiet_step (first | (with_reducible exact later_call (Hcd3.out _)) | (with_reducible exact later_call (Hcd4.out _))))
      (refine wpQuiet_nil ?_; intro w1 hw1; obtain ⟨⟨w1, hb1⟩, rfl⟩ := hw1; clear hlc hlf hNL NL; obtain ⟨N1, hN1, hc1, hf1, hs1⟩ := bcell hb1; (try simp only [World.size_alloc, World.size_setCell, World.size_drew] at hN1))
      have hst := setCell_if
      go_upto_region 17 with (fail)
      refine name_world3 fun W7 hW7 => ?_
      have B67 : Buts [bA, bB] W6 W7 := by rw [hW7]; exact (((Buts.refl _ W6).below (by (repeat (first | (with_reducible exact Below.refl _ _) | (with_reducible refine Below.drew ?_) | (with_reducible refine below_drewN ?_ _) | (with_reducible refine Below.setCell ?_ (by first | (simp; done) | (simp; omega) | omega) _) | (with_reducible refine Below.alloc ?_ (by first | (simp; done) | (simp; omega) | omega) _) | (with_reducible refine Below.trans ?_ (Below.mono (by assumption) (by first | (simp; done) | (simp; omega) | omega))) | (with_reducible refine Below.trans ?_ (Below.mono (Later.below _) (by first | (simp; done) | (simp; omega) | omega))))))).set (C := bA) (by simp) _ _).set (C := bA) (by simp) _ _
      have AW7_0 : W7.cell? ⟨bA, 0, none⟩ = some (.int .i64 ra) := by rw [hW7]; simp [hst, hc1, AW6_2, AW6_3, AW6_0, ↓IntWalk.iteOmega]
      have AW7_1 : W7.cell? ⟨bA, 1, none⟩ = some (.slice aa la ca) := by rw [hW7]; simp [hst, hc1, AW6_2, AW6_3, AW6_1, ↓IntWalk.iteOmega]
      have AW7_2 : W7.cell? ⟨bA, 2, none⟩ = some (.int .i64 px) := by rw [hW7]; simp [hst, hc1, AW6_2, AW6_3, AW6_2, ↓IntWalk.iteOmega]
      have AW7_3 : W7.cell? ⟨bA, 3, none⟩ = some (.int .i64 py) := by rw [hW7]; simp [hst, hc1, AW6_2, AW6_3, AW6_3, ↓IntWalk.iteOmega]
      have AW7_4 : W7.cell? ⟨bA, 4, none⟩ = some (.int .i64 0) := by rw [hW7]; simp [hst, hc1, AW6_2, AW6_3, AW6_4, ↓IntWalk.iteOmega]
      have AW7_5 : W7.cell? ⟨bA, 5, none⟩ = some (.int .i64 0) := by rw [hW7]; simp [hst, hc1, AW6_2, AW6_3, AW6_5, ↓IntWalk.iteOmega]
      have BW7_0 : W7.cell? ⟨bB, 0, none⟩ = some (.int .i64 rb) := by rw [hW7]; simp [hst, hc1, nBA, BW6_0, ↓IntWalk.iteOmega]
      have BW7_1 : W7.cell? ⟨bB, 1, none⟩ = some (.slice ab lb cb) := by rw [hW7]; simp [hst, hc1, nBA, BW6_1, ↓IntWalk.iteOmega]
      have BW7_2 : W7.cell? ⟨bB, 2, none⟩ = some (.int .i64 0) := by rw [hW7]; simp [hst, hc1, nBA, BW6_2, ↓IntWalk.iteOmega]
      have BW7_3 : W7.cell? ⟨bB, 3, none⟩ = some (.int .i64 0) := by rw [hW7]; simp [hst, hc1, nBA, BW6_3, ↓IntWalk.iteOmega]
      have BW7_4 : W7.cell? ⟨bB, 4, none⟩ = some (.int .i64 0) := by rw [hW7]; simp [hst, hc1, nBA, BW6_4, ↓IntWalk.iteOmega]
      have BW7_5 : W7.cell? ⟨bB, 5, none⟩ = some (.int .i64 0) := by rw [hW7]; simp [hst, hc1, nBA, BW6_5, ↓IntWalk.iteOmega]
      have D7_0 : W7.cell? ⟨b1, 0, none⟩ = some (.int .i64 dx) := by rw [hW7]; simp [hst, hc1, nDA, D6_0, ↓IntWalk.iteOmega]
      have D7_1 : W7.cell? ⟨b1, 1, none⟩ = some (.int .i64 dy) := by rw [hW7]; simp [hst, hc1, nDA, D6_1, ↓IntWalk.iteOmega]
      have fA7 : ∀ i, W7.frozen? ⟨bA, i, none⟩ = false := fun i => by rw [hW7]; simp [hf1, fA6, ↓IntWalk.iteOmega]
      have fB7 : ∀ i, W7.frozen? ⟨bB, i, none⟩ = false := fun i => by rw [hW7]; simp [hf1, fB6, ↓IntWalk.iteOmega]
      have i5 : W7.cell? ⟨b, o + 5, none⟩ = some (.int .i64 k5) := by rw [hW7]; simp [hst, hc1, nbA, h5, ↓IntWalk.iteOmega]
      have i6 : W7.cell? ⟨b, o + 6, none⟩ = some (.int .i64 k6) := by rw [hW7]; simp [hst, hc1, nbA, h6, ↓IntWalk.iteOmega]
      have i7 : W7.cell? ⟨b, o + 7, none⟩ = some (.int .i64 k7) := by rw [hW7]; simp [hst, hc1, nbA, h7, ↓IntWalk.iteOmega]
      have s7 := B67.size
      clear hW7 hc1 hf1 hb1 hs1 hN1 N1 w1 hst h4 h5 h6 h7 D6_0 D6_1 fA6 fB6 Hcd3 Hcd4 AW6_0 BW6_0 AW6_1 BW6_1 AW6_2 BW6_2 AW6_3 BW6_3 AW6_4 BW6_4 AW6_5 BW6_5
      have l7A : bA < W7.heap.size := by omega
      have l7B : bB < W7.heap.size := by omega
      have l7b : b < W7.heap.size := by omega
      have l7D : b1 < W7.heap.size := by omega
      obtain ⟨qx, hqx⟩ : ∃ q, q = px + dx := ⟨_, rfl⟩
      obtain ⟨qy, hqy⟩ : ∃ q, q = py + dy := ⟨_, rfl⟩
      have had := Hcad.out
      rw [← hqx, ← hqy] at had
      have hst := setCell_if
      have Hhad := Lib.hid had; have Hhqx := Lib.hid hqx; have Hhqy := Lib.hid hqy; clear had hqx hqy
      clear Hcad
      go_upto_region 18 with (((with_reducible refine (Hhad.out _).mono ?_); rintro e wE ⟨rfl, hbE⟩; obtain ⟨NE, hNE, hcE, hfE, hsE⟩ := bcell hbE; (try simp only [World.size_alloc, World.size_setCell, World.size_drew] at hNE)))
      refine name_world3 fun W8 hW8 => ?_
      have B78 : Buts [bA, bB] W7 W8 := by rw [hW8]; exact (((Buts.refl _ W7).below hbE).set (C := bB) (by simp) _ _).set (C := bB) (by simp) _ _
      have AW8_0 : W8.cell? ⟨bA, 0, none⟩ = some (.int .i64 ra) := by rw [hW8]; simp [hst, hcE, nAB, AW7_0, ↓IntWalk.iteOmega]
      have AW8_1 : W8.cell? ⟨bA, 1, none⟩ = some (.slice aa la ca) := by rw [hW8]; simp [hst, hcE, nAB, AW7_1, ↓IntWalk.iteOmega]
      have AW8_2 : W8.cell? ⟨bA, 2, none⟩ = some (.int .i64 px) := by rw [hW8]; simp [hst, hcE, nAB, AW7_2, ↓IntWalk.iteOmega]
      have AW8_3 : W8.cell? ⟨bA, 3, none⟩ = some (.int .i64 py) := by rw [hW8]; simp [hst, hcE, nAB, AW7_3, ↓IntWalk.iteOmega]
      have AW8_4 : W8.cell? ⟨bA, 4, none⟩ = some (.int .i64 0) := by rw [hW8]; simp [hst, hcE, nAB, AW7_4, ↓IntWalk.iteOmega]
      have AW8_5 : W8.cell? ⟨bA, 5, none⟩ = some (.int .i64 0) := by rw [hW8]; simp [hst, hcE, nAB, AW7_5, ↓IntWalk.iteOmega]
      have BW8_0 : W8.cell? ⟨bB, 0, none⟩ = some (.int .i64 rb) := by rw [hW8]; simp [hst, hcE, BW7_2, BW7_3, BW7_0, ↓IntWalk.iteOmega]
      have BW8_1 : W8.cell? ⟨bB, 1, none⟩ = some (.slice ab lb cb) := by rw [hW8]; simp [hst, hcE, BW7_2, BW7_3, BW7_1, ↓IntWalk.iteOmega]
      have BW8_2 : W8.cell? ⟨bB, 2, none⟩ = some (.int .i64 qx) := by rw [hW8]; simp [hst, hcE, BW7_2, BW7_3, BW7_2, ↓IntWalk.iteOmega]
      have BW8_3 : W8.cell? ⟨bB, 3, none⟩ = some (.int .i64 qy) := by rw [hW8]; simp [hst, hcE, BW7_2, BW7_3, BW7_3, ↓IntWalk.iteOmega]
      have BW8_4 : W8.cell? ⟨bB, 4, none⟩ = some (.int .i64 0) := by rw [hW8]; simp [hst, hcE, BW7_2, BW7_3, BW7_4, ↓IntWalk.iteOmega]
      have BW8_5 : W8.cell? ⟨bB, 5, none⟩ = some (.int .i64 0) := by rw [hW8]; simp [hst, hcE, BW7_2, BW7_3, BW7_5, ↓IntWalk.iteOmega]
      have D8_0 : W8.cell? ⟨b1, 0, none⟩ = some (.int .i64 dx) := by rw [hW8]; simp [hst, hcE, nDB, D7_0, ↓IntWalk.iteOmega]
      have D8_1 : W8.cell? ⟨b1, 1, none⟩ = some (.int .i64 dy) := by rw [hW8]; simp [hst, hcE, nDB, D7_1, ↓IntWalk.iteOmega]
      have fA8 : ∀ i, W8.frozen? ⟨bA, i, none⟩ = false := fun i => by rw [hW8]; simp [hfE, fA7, ↓IntWalk.iteOmega]
      have fB8 : ∀ i, W8.frozen? ⟨bB, i, none⟩ = false := fun i => by rw [hW8]; simp [hfE, fB7, ↓IntWalk.iteOmega]
      have j5 : W8.cell? ⟨b, o + 5, none⟩ = some (.int .i64 k5) := by rw [hW8]; simp [hst, hcE, nbB, i5, ↓IntWalk.iteOmega]
      have j6 : W8.cell? ⟨b, o + 6, none⟩ = some (.int .i64 k6) := by rw [hW8]; simp [hst, hcE, nbB, i6, ↓IntWalk.iteOmega]
      have j7 : W8.cell? ⟨b, o + 7, none⟩ = some (.int .i64 k7) := by rw [hW8]; simp [hst, hcE, nbB, i7, ↓IntWalk.iteOmega]
      have s8 := B78.size
      clear hW8 hcE hfE hbE hsE hNE NE wE hst i5 i6 i7 D7_0 D7_1 fA7 fB7 Hhad AW7_0 BW7_0 AW7_1 BW7_1 AW7_2 BW7_2 AW7_3 BW7_3 AW7_4 BW7_4 AW7_5 BW7_5
      have l8A : bA < W8.heap.size := by omega
      have l8B : bB < W8.heap.size := by omega
      have l8b : b < W8.heap.size := by omega
      have l8D : b1 < W8.heap.size := by omega
      have m1 := mul_bd (a := dx) (b := k5.tmod 5) (A := 131077) (B := 5) (by omega) (by omega) (by have := tmod_abs k5 5 (by decide); omega) (by have := tmod_abs k5 5 (by decide); omega)
      have m2 := mul_bd (a := dy) (b := (k5 / 5).tmod 5) (A := 131077) (B := 5) (by omega) (by omega) (by have := tmod_abs (k5 / 5) 5 (by decide); omega) (by have := tmod_abs (k5 / 5) 5 (by decide); omega)
      have m3 := mul_bd (a := dx) (b := k5 % 5) (A := 131077) (B := 5) (by omega) (by omega) (by omega) (by omega)
      have m4 := mul_bd (a := dy) (b := k5 / 5 % 5) (A := 131077) (B := 5) (by omega) (by omega) (by omega) (by omega)
      obtain ⟨t1, ht1⟩ : ∃ t, t = (dx * (k5 % 5)).tdiv 2 := ⟨_, rfl⟩
      obtain ⟨t2, ht2⟩ : ∃ t, t = (dy * (k5 / 5 % 5)).tdiv 2 := ⟨_, rfl⟩
      have ccl1 := gives_same (fun V => rclamp_any ((dx * (k5 % 5)).tdiv 2) (-16384) 16384 V)
      have ccl2 := gives_same (fun V => rclamp_any ((dy * (k5 / 5 % 5)).tdiv 2) (-16384) 16384 V)
      have bux := clm_bd ((dx * (k5 % 5)).tdiv 2) (-16384) 16384 (by decide)
      have buy := clm_bd ((dy * (k5 / 5 % 5)).tdiv 2) (-16384) 16384 (by decide)
      generalize clm ((dx * (k5 % 5)).tdiv 2) (-16384) 16384 = ux at *
      generalize clm ((dy * (k5 / 5 % 5)).tdiv 2) (-16384) 16384 = uy at *
      have Hccl1 := Lib.hid ccl1; have Hccl2 := Lib.hid ccl2; clear ccl1 ccl2
      clear ht1 ht2
      have hst := setCell_if
      refine wp_region_later_tail 21 (by kernel_rfl) (by kernel_rfl) fun NL hL => ?_; obtain ⟨hNL, hlc, hlf⟩ := hL; (try simp only [World.size_alloc, World.size_setCell, World.size_drew] at hNL); simp only [List.take_succ_cons, List.take_zero, List.drop_succ_cons, List.drop_zero]
      repeat (go_big_quiet_step (first | (with_reducible exact later_call (Hccl1.out _)) | (with_reducible exact later_call (Hccl2.out _))))
      (refine wpQuiet_nil ?_; intro w1 hw1; obtain ⟨⟨w1, hb1⟩, rfl⟩ := hw1; clear hlc hlf hNL NL; obtain ⟨N1, hN1, hc1, hf1, hs1⟩ := bcell hb1; (try simp only [World.size_alloc, World.size_setCell, World.size_drew] at hN1))
      go_upto_region 19 with (fail)
      refine name_world3 fun W9 hW9 => ?_
      have B89 : Buts [bA, bB] W8 W9 := by rw [hW9]; exact (((Buts.refl _ W8).below (by (repeat (first | (with_reducible exact Below.refl _ _) | (with_reducible refine Below.drew ?_) | (with_reducible refine below_drewN ?_ _) | (with_reducible refine Below.setCell ?_ (by first | (simp; done) | (simp; omega) | omega) _) | (with_reducible refine Below.alloc ?_ (by first | (simp; done) | (simp; omega) | omega) _) | (with_reducible refine Below.trans ?_ (Below.mono (by assumption) (by first | (simp; done) | (simp; omega) | omega))) | (with_reducible refine Below.trans ?_ (Below.mono (Later.below _) (by first | (simp; done) | (simp; omega) | omega))))))).set (C := bA) (by simp) _ _).set (C := bA) (by simp) _ _
      have AW9_0 : W9.cell? ⟨bA, 0, none⟩ = some (.int .i64 ra) := by rw [hW9]; simp [hst, hc1, AW8_4, AW8_5, AW8_0, ↓IntWalk.iteOmega]
      have AW9_1 : W9.cell? ⟨bA, 1, none⟩ = some (.slice aa la ca) := by rw [hW9]; simp [hst, hc1, AW8_4, AW8_5, AW8_1, ↓IntWalk.iteOmega]
      have AW9_2 : W9.cell? ⟨bA, 2, none⟩ = some (.int .i64 px) := by rw [hW9]; simp [hst, hc1, AW8_4, AW8_5, AW8_2, ↓IntWalk.iteOmega]
      have AW9_3 : W9.cell? ⟨bA, 3, none⟩ = some (.int .i64 py) := by rw [hW9]; simp [hst, hc1, AW8_4, AW8_5, AW8_3, ↓IntWalk.iteOmega]
      have AW9_4 : W9.cell? ⟨bA, 4, none⟩ = some (.int .i64 ux) := by rw [hW9]; simp [hst, hc1, AW8_4, AW8_5, AW8_4, ↓IntWalk.iteOmega]
      have AW9_5 : W9.cell? ⟨bA, 5, none⟩ = some (.int .i64 uy) := by rw [hW9]; simp [hst, hc1, AW8_4, AW8_5, AW8_5, ↓IntWalk.iteOmega]
      have BW9_0 : W9.cell? ⟨bB, 0, none⟩ = some (.int .i64 rb) := by rw [hW9]; simp [hst, hc1, nBA, BW8_0, ↓IntWalk.iteOmega]
      have BW9_1 : W9.cell? ⟨bB, 1, none⟩ = some (.slice ab lb cb) := by rw [hW9]; simp [hst, hc1, nBA, BW8_1, ↓IntWalk.iteOmega]
      have BW9_2 : W9.cell? ⟨bB, 2, none⟩ = some (.int .i64 qx) := by rw [hW9]; simp [hst, hc1, nBA, BW8_2, ↓IntWalk.iteOmega]
      have BW9_3 : W9.cell? ⟨bB, 3, none⟩ = some (.int .i64 qy) := by rw [hW9]; simp [hst, hc1, nBA, BW8_3, ↓IntWalk.iteOmega]
      have BW9_4 : W9.cell? ⟨bB, 4, none⟩ = some (.int .i64 0) := by rw [hW9]; simp [hst, hc1, nBA, BW8_4, ↓IntWalk.iteOmega]
      have BW9_5 : W9.cell? ⟨bB, 5, none⟩ = some (.int .i64 0) := by rw [hW9]; simp [hst, hc1, nBA, BW8_5, ↓IntWalk.iteOmega]
      have fA9 : ∀ i, W9.frozen? ⟨bA, i, none⟩ = false := fun i => by rw [hW9]; simp [hf1, fA8, ↓IntWalk.iteOmega]
      have fB9 : ∀ i, W9.frozen? ⟨bB, i, none⟩ = false := fun i => by rw [hW9]; simp [hf1, fB8, ↓IntWalk.iteOmega]
      have n6 : W9.cell? ⟨b, o + 6, none⟩ = some (.int .i64 k6) := by rw [hW9]; simp [hst, hc1, nbA, j6, ↓IntWalk.iteOmega]
      have n7 : W9.cell? ⟨b, o + 7, none⟩ = some (.int .i64 k7) := by rw [hW9]; simp [hst, hc1, nbA, j7, ↓IntWalk.iteOmega]
      have s9 := B89.size
      clear hW9 hc1 hf1 hb1 hs1 hN1 N1 w1 hst j5 j6 j7 D8_0 D8_1 fA8 fB8 Hccl1 Hccl2 AW8_0 BW8_0 AW8_1 BW8_1 AW8_2 BW8_2 AW8_3 BW8_3 AW8_4 BW8_4 AW8_5 BW8_5
      have l9A : bA < W9.heap.size := by omega
      have l9B : bB < W9.heap.size := by omega
      have l9b : b < W9.heap.size := by omega
      have hS9A : ShAt W9 ra aa la ca za := by
        refine (((Buts.refl [bA, bB] W5).below hb56).shape hS5A ?_ |> fun h => (B89.shape (B78.shape (B67.shape h ?_) ?_) ?_)) <;>
         (intro x hx; have := hAx x hx; simp; omega)
      have hS9B : ShAt W9 rb ab lb cb zb := by
        refine (((Buts.refl [bA, bB] W5).below hb56).shape hS5B ?_ |> fun h => (B89.shape (B78.shape (B67.shape h ?_) ?_) ?_)) <;>
         (intro x hx; have := hBx x hx; simp; omega)
      have hL9 : ∀ k ∈ [bA, bB], w.heap.size ≤ k := by simp; omega
      have sw5 := hBw5.size
      have hBw9 : Below w.heap.size w W9 := B89.to (B78.to (B67.to (hBw5.trans (hb56.mono sw5)) hL9 (by omega)) hL9 (by omega)) hL9 (by omega)
      have b05 := hB05.size
      have hws0 : w.heap.size + 1 < W0.heap.size := by omega
      have carry : ∀ c i v, c < W0.heap.size → W0.cell? ⟨c, i, none⟩ = some v → W9.cell? ⟨c, i, none⟩ = some v := fun c i v hc h => B89.cell (by omega) (by simp; omega) (B78.cell (by omega) (by simp; omega) (B67.cell (by omega) (by simp; omega) (cell_below hb56 (cell_below hB05 h))))
      obtain ⟨zv0, zc0⟩ := z2 0 (by omega)
      have zc0 := carry _ _ _ (by omega) zc0
      obtain ⟨yv0, yc0⟩ := z3 0 (by omega)
      have yc0 := carry _ _ _ (by omega) yc0
      obtain ⟨zv1, zc1⟩ := z2 1 (by omega)
      have zc1 := carry _ _ _ (by omega) zc1
      obtain ⟨yv1, yc1⟩ := z3 1 (by omega)
      have yc1 := carry _ _ _ (by omega) yc1
      obtain ⟨zv2, zc2⟩ := z2 2 (by omega)
      have zc2 := carry _ _ _ (by omega) zc2
      obtain ⟨yv2, yc2⟩ := z3 2 (by omega)
      have yc2 := carry _ _ _ (by omega) yc2
      obtain ⟨zv3, zc3⟩ := z2 3 (by omega)
      have zc3 := carry _ _ _ (by omega) zc3
      obtain ⟨yv3, yc3⟩ := z3 3 (by omega)
      have yc3 := carry _ _ _ (by omega) yc3
      obtain ⟨zv4, zc4⟩ := z2 4 (by omega)
      have zc4 := carry _ _ _ (by omega) zc4
      obtain ⟨yv4, yc4⟩ := z3 4 (by omega)
      have yc4 := carry _ _ _ (by omega) yc4
      obtain ⟨zv5, zc5⟩ := z2 5 (by omega)
      have zc5 := carry _ _ _ (by omega) zc5
      obtain ⟨yv5, yc5⟩ := z3 5 (by omega)
      have yc5 := carry _ _ _ (by omega) yc5
      have zf : ∀ i, W9.frozen? ⟨w.heap.size, i, none⟩ = false := fun i => (World.frozen?_of_block (a := ⟨w.heap.size, i, none⟩) (((B89.block (w.heap.size) (by omega) (by simp; omega)).trans (B78.block (w.heap.size) (by omega) (by simp; omega))).trans ((B67.block (w.heap.size) (by omega) (by simp; omega)).trans ((hb56.block (w.heap.size) (by omega)).trans (hB05.block (w.heap.size) (by omega)))))).trans (z4 i)
      have yf : ∀ i, W9.frozen? ⟨w.heap.size + 1, i, none⟩ = false := fun i => (World.frozen?_of_block (a := ⟨w.heap.size + 1, i, none⟩) (((B89.block (w.heap.size + 1) (by omega) (by simp; omega)).trans (B78.block (w.heap.size + 1) (by omega) (by simp; omega))).trans ((B67.block (w.heap.size + 1) (by omega) (by simp; omega)).trans ((hb56.block (w.heap.size + 1) (by omega)).trans (hB05.block (w.heap.size + 1) (by omega)))))).trans (z5 i)
      clear B67 B78 B89 hb56 hS5A hS5B z2 z3 z4 z5 carry
      have nA0 : ¬ bA = w.heap.size := by omega
      have nA1 : ¬ bA = w.heap.size + 1 := by omega
      have nB0 : ¬ bB = w.heap.size := by omega
      have nB1 : ¬ bB = w.heap.size + 1 := by omega
      by_cases h6 : k6 % 3 = 0
      · have h6b : (k6 % 3 == 0) = true := by rw [h6]; rfl
        go_upto_region 21 with (fail)
        have st : ∀ V, Buts [w.heap.size, w.heap.size + 1] W9 V → V.cell? ⟨bA, 0, none⟩ = some (.int .i64 ra) ∧ V.cell? ⟨bA, 1, none⟩ = some (.slice aa la ca) ∧ V.cell? ⟨bA, 2, none⟩ = some (.int .i64 px) ∧ V.cell? ⟨bA, 3, none⟩ = some (.int .i64 py) ∧ V.cell? ⟨bA, 4, none⟩ = some (.int .i64 ux) ∧ V.cell? ⟨bA, 5, none⟩ = some (.int .i64 uy) ∧ V.cell? ⟨bB, 0, none⟩ = some (.int .i64 rb) ∧ V.cell? ⟨bB, 1, none⟩ = some (.slice ab lb cb) ∧ V.cell? ⟨bB, 2, none⟩ = some (.int .i64 qx) ∧ V.cell? ⟨bB, 3, none⟩ = some (.int .i64 qy) ∧ V.cell? ⟨bB, 4, none⟩ = some (.int .i64 0) ∧ V.cell? ⟨bB, 5, none⟩ = some (.int .i64 0) :=
          fun V hV => ⟨hV.cell (by omega) (by simp; omega) AW9_0, hV.cell (by omega) (by simp; omega) AW9_1, hV.cell (by omega) (by simp; omega) AW9_2, hV.cell (by omega) (by simp; omega) AW9_3, hV.cell (by omega) (by simp; omega) AW9_4, hV.cell (by omega) (by simp; omega) AW9_5, hV.cell (by omega) (by simp; omega) BW9_0, hV.cell (by omega) (by simp; omega) BW9_1, hV.cell (by omega) (by simp; omega) BW9_2, hV.cell (by omega) (by simp; omega) BW9_3, hV.cell (by omega) (by simp; omega) BW9_4, hV.cell (by omega) (by simp; omega) BW9_5⟩
        have Hst := Lib.hid st
        clear st
        have hst := setCell_if
        refine wp_region_three (w.heap.size) (w.heap.size + 1) [] [0, 1] [2, 3] 2 (by kernel_rfl) (by kernel_rfl) fun NL hR1 hR3 => ?_
        simp only [List.map_cons, List.map_nil, List.getD_cons_zero, List.getD_cons_succ]
        refine wpQuiet_nil ?_
        clear hR1
        have hr3 := hR3.cell
        have hNL := hR3.eq
        repeat (go_big_quiet_step (fail))
        refine wpQuiet_nil ?_
        clear hr3 hR3
        obtain ⟨Wx, hWx⟩ : ∃ Wx, Wx = ((((((W9.drew.setCell ⟨w.heap.size, 0, none⟩ (.int .i64 ra)).setCell ⟨w.heap.size, 1, none⟩ (.slice aa la ca)).setCell ⟨w.heap.size, 2, none⟩ (.int .i64 px)).setCell ⟨w.heap.size, 3, none⟩ (.int .i64 py)).setCell ⟨w.heap.size, 4, none⟩ (.int .i64 ux)).setCell ⟨w.heap.size, 5, none⟩ (.int .i64 uy)) := ⟨_, rfl⟩
        have Hy1' : (∃ y : Later3 W9 (w.heap.size) (w.heap.size + 1), Wx = y.out) := (by rw [hWx]; exact later3_six (drew3 W9 (w.heap.size) (w.heap.size + 1)) (U := W9.drew) rfl (w.heap.size) (.inl rfl) (.int .i64 ra) (.slice aa la ca) (.int .i64 px) (.int .i64 py) (.int .i64 ux) (.int .i64 uy))
        have Hy1 := Lib.hid Hy1'
        clear Hy1'
        have Bx : Buts [w.heap.size, w.heap.size + 1] W9 Wx := by rw [hWx]; repeat (first | (with_reducible refine Buts.set ?_ (by simp) _ _) | (with_reducible exact Buts.below (Buts.refl _ _) (Below.drew (Below.refl _ _))))
        have xa0 : Wx.cell? ⟨w.heap.size, 0, none⟩ = some (.int .i64 ra) := by rw [hWx]; simp [hst, zc0]
        have xa1 : Wx.cell? ⟨w.heap.size, 1, none⟩ = some (.slice aa la ca) := by rw [hWx]; simp [hst, zc1]
        have xa2 : Wx.cell? ⟨w.heap.size, 2, none⟩ = some (.int .i64 px) := by rw [hWx]; simp [hst, zc2]
        have xa3 : Wx.cell? ⟨w.heap.size, 3, none⟩ = some (.int .i64 py) := by rw [hWx]; simp [hst, zc3]
        have xa4 : Wx.cell? ⟨w.heap.size, 4, none⟩ = some (.int .i64 ux) := by rw [hWx]; simp [hst, zc4]
        have xa5 : Wx.cell? ⟨w.heap.size, 5, none⟩ = some (.int .i64 uy) := by rw [hWx]; simp [hst, zc5]
        have xb0 : Wx.cell? ⟨w.heap.size + 1, 0, none⟩ = some yv0 := by rw [hWx]; simp [hst, yc0]
        have xb1 : Wx.cell? ⟨w.heap.size + 1, 1, none⟩ = some yv1 := by rw [hWx]; simp [hst, yc1]
        have xb2 : Wx.cell? ⟨w.heap.size + 1, 2, none⟩ = some yv2 := by rw [hWx]; simp [hst, yc2]
        have xb3 : Wx.cell? ⟨w.heap.size + 1, 3, none⟩ = some yv3 := by rw [hWx]; simp [hst, yc3]
        have xb4 : Wx.cell? ⟨w.heap.size + 1, 4, none⟩ = some yv4 := by rw [hWx]; simp [hst, yc4]
        have xb5 : Wx.cell? ⟨w.heap.size + 1, 5, none⟩ = some yv5 := by rw [hWx]; simp [hst, yc5]
        have xf : ∀ i, Wx.frozen? ⟨w.heap.size + 1, i, none⟩ = false := fun i => by rw [hWx]; simp [yf]
        have HWx := Lib.hid hWx
        clear hWx
        refine wpListS_skip (w1 := Wx) ?_ ?_ ?_ ?_
        · rfl
        · rw [HWx.out]; go_simp
        · exact Hy1.out
        simp only [Act.put, List.setIfInBounds_toArray, List.set_cons_zero, List.set_cons_succ]
        obtain ⟨Wf, hWf⟩ : ∃ Wf, Wf = ((((((Wx.setCell ⟨w.heap.size + 1, 0, none⟩ (.int .i64 rb)).setCell ⟨w.heap.size + 1, 1, none⟩ (.slice ab lb cb)).setCell ⟨w.heap.size + 1, 2, none⟩ (.int .i64 qx)).setCell ⟨w.heap.size + 1, 3, none⟩ (.int .i64 qy)).setCell ⟨w.heap.size + 1, 4, none⟩ (.int .i64 0)).setCell ⟨w.heap.size + 1, 5, none⟩ (.int .i64 0)) := ⟨_, rfl⟩
        have Hy2' : (∃ y : Later3 W9 (w.heap.size) (w.heap.size + 1), Wf = y.out) := (by rw [hWf]; exact Hy1.out.elim fun y1 h1 => later3_six y1 h1 (w.heap.size + 1) (.inr rfl) (.int .i64 rb) (.slice ab lb cb) (.int .i64 qx) (.int .i64 qy) (.int .i64 0) (.int .i64 0))
        have Hy2 := Lib.hid Hy2'
        clear Hy2'
        have Bf : Buts [w.heap.size, w.heap.size + 1] W9 Wf := by rw [hWf]; refine Buts.set (Buts.set (Buts.set (Buts.set (Buts.set (Buts.set Bx ?_ _ _) ?_ _ _) ?_ _ _) ?_ _ _) ?_ _ _) ?_ _ _ <;> simp
        have za0 : Wf.cell? ⟨w.heap.size, 0, none⟩ = some (.int .i64 ra) := by rw [hWf]; simp [hst, xa0]
        have za1 : Wf.cell? ⟨w.heap.size, 1, none⟩ = some (.slice aa la ca) := by rw [hWf]; simp [hst, xa1]
        have za2 : Wf.cell? ⟨w.heap.size, 2, none⟩ = some (.int .i64 px) := by rw [hWf]; simp [hst, xa2]
        have za3 : Wf.cell? ⟨w.heap.size, 3, none⟩ = some (.int .i64 py) := by rw [hWf]; simp [hst, xa3]
        have za4 : Wf.cell? ⟨w.heap.size, 4, none⟩ = some (.int .i64 ux) := by rw [hWf]; simp [hst, xa4]
        have za5 : Wf.cell? ⟨w.heap.size, 5, none⟩ = some (.int .i64 uy) := by rw [hWf]; simp [hst, xa5]
        have zb0 : Wf.cell? ⟨w.heap.size + 1, 0, none⟩ = some (.int .i64 rb) := by rw [hWf]; simp [hst, xb0]
        have zb1 : Wf.cell? ⟨w.heap.size + 1, 1, none⟩ = some (.slice ab lb cb) := by rw [hWf]; simp [hst, xb1]
        have zb2 : Wf.cell? ⟨w.heap.size + 1, 2, none⟩ = some (.int .i64 qx) := by rw [hWf]; simp [hst, xb2]
        have zb3 : Wf.cell? ⟨w.heap.size + 1, 3, none⟩ = some (.int .i64 qy) := by rw [hWf]; simp [hst, xb3]
        have zb4 : Wf.cell? ⟨w.heap.size + 1, 4, none⟩ = some (.int .i64 0) := by rw [hWf]; simp [hst, xb4]
        have zb5 : Wf.cell? ⟨w.heap.size + 1, 5, none⟩ = some (.int .i64 0) := by rw [hWf]; simp [hst, xb5]
        have HWf := Lib.hid hWf
        clear hWf Bx
        refine wpListS_skip (w1 := Wf) ?_ ?_ ?_ ?_
        · rfl
        · rw [HWf.out]; clear za0 za1 za2 za3 za4 za5 zb0 zb1 zb2 zb3 zb4 zb5; go_simp
        · exact Hy2.out
        simp only [Act.put, List.setIfInBounds_toArray, List.set_cons_zero, List.set_cons_succ]
        refine wpListS_nil ?_
        clear Hy1 Hy2 HWx HWf hst
        go_wp2
        refine bodyPost_ret (v := .tuple #[.agg #[.int .i64 ra, .slice aa la ca, .int .i64 px, .int .i64 py, .int .i64 ux, .int .i64 uy], .agg #[.int .i64 rb, .slice ab lb cb, .int .i64 qx, .int .i64 qy, .int .i64 0, .int .i64 0]]) (by simp [results, Try.results37, go_sem, za0, za1, za2, za3, za4, za5, zb0, zb1, zb2, zb3, zb4, zb5]) rfl ?_
        refine ⟨ra, aa, la, ca, za, px, py, ux, uy, rb, ab, lb, cb, zb, qx, qy, 0, 0, rfl, Bf.shape hS9A (fun x hx => by have := hAx x hx; simp; omega), Bf.shape hS9B (fun x hx => by have := hBx x hx; simp; omega), by omega, by omega, by have := Hhqx.out; have := Hhqy.out; omega, by omega, Bf.to hBw9 (by simp) (by omega)⟩
      · have h6b : 0 < k6 % 3 := by omega
        go_upto_region 20 with (fail)
        refine wp_region_later_tail 11 (by kernel_rfl) (by kernel_rfl) fun NL hL => ?_; obtain ⟨hNL, hlc, hlf⟩ := hL; (try simp only [World.size_alloc, World.size_setCell, World.size_drew] at hNL); simp only [List.take_succ_cons, List.take_zero, List.drop_succ_cons, List.drop_zero]
        repeat (go_big_quiet_step (first | (with_reducible exact later_call (Hcd5.out _)) | (with_reducible exact later_call (Hcd6.out _))))
        (refine wpQuiet_nil ?_; intro w1 hw1; obtain ⟨⟨w1, hb1⟩, rfl⟩ := hw1; clear hlc hlf hNL NL; obtain ⟨N1, hN1, hc1, hf1, hs1⟩ := bcell hb1; (try simp only [World.size_alloc, World.size_setCell, World.size_drew] at hN1))
        have hst := setCell_if
        go_upto_region 21 with (fail)
        refine name_world3 fun W10 hW10 => ?_
        have B9 : Buts [bA, bB] W9 W10 := by rw [hW10]; exact (((Buts.refl _ W9).below (by (repeat (first | (with_reducible exact Below.refl _ _) | (with_reducible refine Below.drew ?_) | (with_reducible refine below_drewN ?_ _) | (with_reducible refine Below.setCell ?_ (by first | (simp; done) | (simp; omega) | omega) _) | (with_reducible refine Below.alloc ?_ (by first | (simp; done) | (simp; omega) | omega) _) | (with_reducible refine Below.trans ?_ (Below.mono (by assumption) (by first | (simp; done) | (simp; omega) | omega))) | (with_reducible refine Below.trans ?_ (Below.mono (Later.below _) (by first | (simp; done) | (simp; omega) | omega))))))).set (C := bB) (by simp) _ _).set (C := bB) (by simp) _ _
        have AW10_0 : W10.cell? ⟨bA, 0, none⟩ = some (.int .i64 ra) := by rw [hW10]; simp [hst, hc1, nAB, AW9_0, ↓IntWalk.iteOmega]
        have AW10_1 : W10.cell? ⟨bA, 1, none⟩ = some (.slice aa la ca) := by rw [hW10]; simp [hst, hc1, nAB, AW9_1, ↓IntWalk.iteOmega]
        have AW10_2 : W10.cell? ⟨bA, 2, none⟩ = some (.int .i64 px) := by rw [hW10]; simp [hst, hc1, nAB, AW9_2, ↓IntWalk.iteOmega]
        have AW10_3 : W10.cell? ⟨bA, 3, none⟩ = some (.int .i64 py) := by rw [hW10]; simp [hst, hc1, nAB, AW9_3, ↓IntWalk.iteOmega]
        have AW10_4 : W10.cell? ⟨bA, 4, none⟩ = some (.int .i64 ux) := by rw [hW10]; simp [hst, hc1, nAB, AW9_4, ↓IntWalk.iteOmega]
        have AW10_5 : W10.cell? ⟨bA, 5, none⟩ = some (.int .i64 uy) := by rw [hW10]; simp [hst, hc1, nAB, AW9_5, ↓IntWalk.iteOmega]
        have BW10_0 : W10.cell? ⟨bB, 0, none⟩ = some (.int .i64 rb) := by rw [hW10]; simp [hst, hc1, BW9_4, BW9_5, BW9_0, ↓IntWalk.iteOmega]
        have BW10_1 : W10.cell? ⟨bB, 1, none⟩ = some (.slice ab lb cb) := by rw [hW10]; simp [hst, hc1, BW9_4, BW9_5, BW9_1, ↓IntWalk.iteOmega]
        have BW10_2 : W10.cell? ⟨bB, 2, none⟩ = some (.int .i64 qx) := by rw [hW10]; simp [hst, hc1, BW9_4, BW9_5, BW9_2, ↓IntWalk.iteOmega]
        have BW10_3 : W10.cell? ⟨bB, 3, none⟩ = some (.int .i64 qy) := by rw [hW10]; simp [hst, hc1, BW9_4, BW9_5, BW9_3, ↓IntWalk.iteOmega]
        have BW10_4 : W10.cell? ⟨bB, 4, none⟩ = some (.int .i64 vx1) := by rw [hW10]; simp [hst, hc1, BW9_4, BW9_5, BW9_4, ↓IntWalk.iteOmega]
        have BW10_5 : W10.cell? ⟨bB, 5, none⟩ = some (.int .i64 vy1) := by rw [hW10]; simp [hst, hc1, BW9_4, BW9_5, BW9_5, ↓IntWalk.iteOmega]
        have s10 := B9.size
        have z100 := B9.cell (by omega) (by simp; omega) zc0
        have y100 := B9.cell (by omega) (by simp; omega) yc0
        have z101 := B9.cell (by omega) (by simp; omega) zc1
        have y101 := B9.cell (by omega) (by simp; omega) yc1
        have z102 := B9.cell (by omega) (by simp; omega) zc2
        have y102 := B9.cell (by omega) (by simp; omega) yc2
        have z103 := B9.cell (by omega) (by simp; omega) zc3
        have y103 := B9.cell (by omega) (by simp; omega) yc3
        have z104 := B9.cell (by omega) (by simp; omega) zc4
        have y104 := B9.cell (by omega) (by simp; omega) yc4
        have z105 := B9.cell (by omega) (by simp; omega) zc5
        have y105 := B9.cell (by omega) (by simp; omega) yc5
        have zf10 : ∀ i, W10.frozen? ⟨w.heap.size, i, none⟩ = false := fun i => (World.frozen?_of_block (a := ⟨w.heap.size, i, none⟩) (B9.block (w.heap.size) (by omega) (by simp; omega))).trans (zf i)
        have yf10 : ∀ i, W10.frozen? ⟨w.heap.size + 1, i, none⟩ = false := fun i => (World.frozen?_of_block (a := ⟨w.heap.size + 1, i, none⟩) (B9.block (w.heap.size + 1) (by omega) (by simp; omega))).trans (yf i)
        have hS10A : ShAt W10 ra aa la ca za := B9.shape hS9A (fun x hx => by have := hAx x hx; simp; omega)
        have hS10B : ShAt W10 rb ab lb cb zb := B9.shape hS9B (fun x hx => by have := hBx x hx; simp; omega)
        have hBw10 : Below w.heap.size w W10 := B9.to hBw9 hL9 (by omega)
        clear hW10 hc1 hf1 hb1 hs1 hN1 N1 w1 hst Hcd5 Hcd6 zc0 zc1 zc2 zc3 zc4 zc5 yc0 yc1 yc2 yc3 yc4 yc5 zf yf B9 AW9_0 BW9_0 AW9_1 BW9_1 AW9_2 BW9_2 AW9_3 BW9_3 AW9_4 BW9_4 AW9_5 BW9_5
        have st : ∀ V, Buts [w.heap.size, w.heap.size + 1] W10 V → V.cell? ⟨bA, 0, none⟩ = some (.int .i64 ra) ∧ V.cell? ⟨bA, 1, none⟩ = some (.slice aa la ca) ∧ V.cell? ⟨bA, 2, none⟩ = some (.int .i64 px) ∧ V.cell? ⟨bA, 3, none⟩ = some (.int .i64 py) ∧ V.cell? ⟨bA, 4, none⟩ = some (.int .i64 ux) ∧ V.cell? ⟨bA, 5, none⟩ = some (.int .i64 uy) ∧ V.cell? ⟨bB, 0, none⟩ = some (.int .i64 rb) ∧ V.cell? ⟨bB, 1, none⟩ = some (.slice ab lb cb) ∧ V.cell? ⟨bB, 2, none⟩ = some (.int .i64 qx) ∧ V.cell? ⟨bB, 3, none⟩ = some (.int .i64 qy) ∧ V.cell? ⟨bB, 4, none⟩ = some (.int .i64 vx1) ∧ V.cell? ⟨bB, 5, none⟩ = some (.int .i64 vy1) :=
          fun V hV => ⟨hV.cell (by omega) (by simp; omega) AW10_0, hV.cell (by omega) (by simp; omega) AW10_1, hV.cell (by omega) (by simp; omega) AW10_2, hV.cell (by omega) (by simp; omega) AW10_3, hV.cell (by omega) (by simp; omega) AW10_4, hV.cell (by omega) (by simp; omega) AW10_5, hV.cell (by omega) (by simp; omega) BW10_0, hV.cell (by omega) (by simp; omega) BW10_1, hV.cell (by omega) (by simp; omega) BW10_2, hV.cell (by omega) (by simp; omega) BW10_3, hV.cell (by omega) (by simp; omega) BW10_4, hV.cell (by omega) (by simp; omega) BW10_5⟩
        have Hst := Lib.hid st
        clear st
        have hst := setCell_if
        refine wp_region_three (w.heap.size) (w.heap.size + 1) [] [0, 1] [2, 3] 2 (by kernel_rfl) (by kernel_rfl) fun NL hR1 hR3 => ?_
        simp only [List.map_cons, List.map_nil, List.getD_cons_zero, List.getD_cons_succ]
        refine wpQuiet_nil ?_
        clear hR1
        have hr3 := hR3.cell
        have hNL := hR3.eq
        repeat (go_big_quiet_step (fail))
        refine wpQuiet_nil ?_
        clear hr3 hR3
        obtain ⟨Wx, hWx⟩ : ∃ Wx, Wx = ((((((W10.drew.setCell ⟨w.heap.size, 0, none⟩ (.int .i64 ra)).setCell ⟨w.heap.size, 1, none⟩ (.slice aa la ca)).setCell ⟨w.heap.size, 2, none⟩ (.int .i64 px)).setCell ⟨w.heap.size, 3, none⟩ (.int .i64 py)).setCell ⟨w.heap.size, 4, none⟩ (.int .i64 ux)).setCell ⟨w.heap.size, 5, none⟩ (.int .i64 uy)) := ⟨_, rfl⟩
        have Hy1' : (∃ y : Later3 W10 (w.heap.size) (w.heap.size + 1), Wx = y.out) := (by rw [hWx]; exact later3_six (drew3 W10 (w.heap.size) (w.heap.size + 1)) (U := W10.drew) rfl (w.heap.size) (.inl rfl) (.int .i64 ra) (.slice aa la ca) (.int .i64 px) (.int .i64 py) (.int .i64 ux) (.int .i64 uy))
        have Hy1 := Lib.hid Hy1'
        clear Hy1'
        have Bx : Buts [w.heap.size, w.heap.size + 1] W10 Wx := by rw [hWx]; repeat (first | (with_reducible refine Buts.set ?_ (by simp) _ _) | (with_reducible exact Buts.below (Buts.refl _ _) (Below.drew (Below.refl _ _))))
        have xa0 : Wx.cell? ⟨w.heap.size, 0, none⟩ = some (.int .i64 ra) := by rw [hWx]; simp [hst, z100]
        have xa1 : Wx.cell? ⟨w.heap.size, 1, none⟩ = some (.slice aa la ca) := by rw [hWx]; simp [hst, z101]
        have xa2 : Wx.cell? ⟨w.heap.size, 2, none⟩ = some (.int .i64 px) := by rw [hWx]; simp [hst, z102]
        have xa3 : Wx.cell? ⟨w.heap.size, 3, none⟩ = some (.int .i64 py) := by rw [hWx]; simp [hst, z103]
        have xa4 : Wx.cell? ⟨w.heap.size, 4, none⟩ = some (.int .i64 ux) := by rw [hWx]; simp [hst, z104]
        have xa5 : Wx.cell? ⟨w.heap.size, 5, none⟩ = some (.int .i64 uy) := by rw [hWx]; simp [hst, z105]
        have xb0 : Wx.cell? ⟨w.heap.size + 1, 0, none⟩ = some yv0 := by rw [hWx]; simp [hst, y100]
        have xb1 : Wx.cell? ⟨w.heap.size + 1, 1, none⟩ = some yv1 := by rw [hWx]; simp [hst, y101]
        have xb2 : Wx.cell? ⟨w.heap.size + 1, 2, none⟩ = some yv2 := by rw [hWx]; simp [hst, y102]
        have xb3 : Wx.cell? ⟨w.heap.size + 1, 3, none⟩ = some yv3 := by rw [hWx]; simp [hst, y103]
        have xb4 : Wx.cell? ⟨w.heap.size + 1, 4, none⟩ = some yv4 := by rw [hWx]; simp [hst, y104]
        have xb5 : Wx.cell? ⟨w.heap.size + 1, 5, none⟩ = some yv5 := by rw [hWx]; simp [hst, y105]
        have xf : ∀ i, Wx.frozen? ⟨w.heap.size + 1, i, none⟩ = false := fun i => by rw [hWx]; simp [yf10]
        have HWx := Lib.hid hWx
        clear hWx
        refine wpListS_skip (w1 := Wx) ?_ ?_ ?_ ?_
        · rfl
        · rw [HWx.out]; go_simp
        · exact Hy1.out
        simp only [Act.put, List.setIfInBounds_toArray, List.set_cons_zero, List.set_cons_succ]
        obtain ⟨Wf, hWf⟩ : ∃ Wf, Wf = ((((((Wx.setCell ⟨w.heap.size + 1, 0, none⟩ (.int .i64 rb)).setCell ⟨w.heap.size + 1, 1, none⟩ (.slice ab lb cb)).setCell ⟨w.heap.size + 1, 2, none⟩ (.int .i64 qx)).setCell ⟨w.heap.size + 1, 3, none⟩ (.int .i64 qy)).setCell ⟨w.heap.size + 1, 4, none⟩ (.int .i64 vx1)).setCell ⟨w.heap.size + 1, 5, none⟩ (.int .i64 vy1)) := ⟨_, rfl⟩
        have Hy2' : (∃ y : Later3 W10 (w.heap.size) (w.heap.size + 1), Wf = y.out) := (by rw [hWf]; exact Hy1.out.elim fun y1 h1 => later3_six y1 h1 (w.heap.size + 1) (.inr rfl) (.int .i64 rb) (.slice ab lb cb) (.int .i64 qx) (.int .i64 qy) (.int .i64 vx1) (.int .i64 vy1))
        have Hy2 := Lib.hid Hy2'
        clear Hy2'
        have Bf : Buts [w.heap.size, w.heap.size + 1] W10 Wf := by rw [hWf]; refine Buts.set (Buts.set (Buts.set (Buts.set (Buts.set (Buts.set Bx ?_ _ _) ?_ _ _) ?_ _ _) ?_ _ _) ?_ _ _) ?_ _ _ <;> simp
        have za0 : Wf.cell? ⟨w.heap.size, 0, none⟩ = some (.int .i64 ra) := by rw [hWf]; simp [hst, xa0]
        have za1 : Wf.cell? ⟨w.heap.size, 1, none⟩ = some (.slice aa la ca) := by rw [hWf]; simp [hst, xa1]
        have za2 : Wf.cell? ⟨w.heap.size, 2, none⟩ = some (.int .i64 px) := by rw [hWf]; simp [hst, xa2]
        have za3 : Wf.cell? ⟨w.heap.size, 3, none⟩ = some (.int .i64 py) := by rw [hWf]; simp [hst, xa3]
        have za4 : Wf.cell? ⟨w.heap.size, 4, none⟩ = some (.int .i64 ux) := by rw [hWf]; simp [hst, xa4]
        have za5 : Wf.cell? ⟨w.heap.size, 5, none⟩ = some (.int .i64 uy) := by rw [hWf]; simp [hst, xa5]
        have zb0 : Wf.cell? ⟨w.heap.size + 1, 0, none⟩ = some (.int .i64 rb) := by rw [hWf]; simp [hst, xb0]
        have zb1 : Wf.cell? ⟨w.heap.size + 1, 1, none⟩ = some (.slice ab lb cb) := by rw [hWf]; simp [hst, xb1]
        have zb2 : Wf.cell? ⟨w.heap.size + 1, 2, none⟩ = some (.int .i64 qx) := by rw [hWf]; simp [hst, xb2]
        have zb3 : Wf.cell? ⟨w.heap.size + 1, 3, none⟩ = some (.int .i64 qy) := by rw [hWf]; simp [hst, xb3]
        have zb4 : Wf.cell? ⟨w.heap.size + 1, 4, none⟩ = some (.int .i64 vx1) := by rw [hWf]; simp [hst, xb4]
        have zb5 : Wf.cell? ⟨w.heap.size + 1, 5, none⟩ = some (.int .i64 vy1) := by rw [hWf]; simp [hst, xb5]
        have HWf := Lib.hid hWf
        clear hWf Bx
        refine wpListS_skip (w1 := Wf) ?_ ?_ ?_ ?_
        · rfl
        · rw [HWf.out]; clear za0 za1 za2 za3 za4 za5 zb0 zb1 zb2 zb3 zb4 zb5; go_simp
        · exact Hy2.out
        simp only [Act.put, List.setIfInBounds_toArray, List.set_cons_zero, List.set_cons_succ]
        refine wpListS_nil ?_
        clear Hy1 Hy2 HWx HWf hst
        go_wp2
        refine bodyPost_ret (v := .tuple #[.agg #[.int .i64 ra, .slice aa la ca, .int .i64 px, .int .i64 py, .int .i64 ux, .int .i64 uy], .agg #[.int .i64 rb, .slice ab lb cb, .int .i64 qx, .int .i64 qy, .int .i64 vx1, .int .i64 vy1]]) (by simp [results, Try.results37, go_sem, za0, za1, za2, za3, za4, za5, zb0, zb1, zb2, zb3, zb4, zb5]) rfl ?_
        refine ⟨ra, aa, la, ca, za, px, py, ux, uy, rb, ab, lb, cb, zb, qx, qy, vx1, vy1, rfl, Bf.shape hS10A (fun x hx => by have := hAx x hx; simp; omega), Bf.shape hS10B (fun x hx => by have := hBx x hx; simp; omega), by omega, by omega, by have := Hhqx.out; have := Hhqy.out; omega, by omega, Bf.to hBw10 (by simp) (by omega)⟩
end Go.Proofs.Ytcgcapfppceggaa.To
