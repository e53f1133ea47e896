/-
  Contracts of the small functions of package shape; slices of vectors as lists.
  Conditions: the exact numbers fit 64 bits.
-/
import Derived.Test.YtcgcapfppceggaaFxG
import Derived.Test.YtcgcapfppceggaaVeC
import Derived.Test.YtcgcapfppceggaaVeR
import Derived.Test.YtcgcapfppceggaaQh
import Derived.RangeFuncNested
import Derived.RangeFuncBound
import Derived.RangeFuncCalls
import Derived.RangeFuncLeaves
import Derived.Shelf.Abstract
import Derived.Shelf.RegionOpen
import Derived.OwnWalkIn
import Derived.TacticsInMore
import Derived.LoopNIn
import Derived.LoopIn
namespace Go.Proofs.Ytcgcapfppceggaa.Sh
open Go.RowKit Go.Proofs.Ytcgcapfppceggaa.FxMath Go.Proofs.Ytcgcapfppceggaa.FxA Go.Proofs.Ytcgcapfppceggaa.Qt Go.Proofs.Ytcgcapfppceggaa.Ve Go.Shelf
set_option linter.unusedVariables false
set_option linter.unusedSimpArgs false
attribute [local go_sem] Oper.semAt_some

/-- The components of vertex i. -/
def vx (zs : List (Int × Int)) (i : Nat) : Int := (zs.getD i (0, 0)).1
def vy (zs : List (Int × Int)) (i : Nat) : Int := (zs.getD i (0, 0)).2

/-- A slice of vectors reads as a list. -/
def IsPoly (w : World) (a : Option Addr) (len cap : Nat) (zs : List (Int × Int)) : Prop :=
  (a = none ∧ len = 0 ∧ cap = 0 ∧ zs = []) ∨
  ∃ b o, a = some ⟨b, o, none⟩ ∧ zs.length = len ∧ len ≤ cap ∧ cap ≤ maxLen ∧ ∀ i, i < len → w.cell? ⟨b, o + i * 2, none⟩ = some (.int .i64 (vx zs i)) ∧ w.cell? ⟨b, o + i * 2 + 1, none⟩ = some (.int .i64 (vy zs i))
theorem IsPoly.len {w : World} {a : Option Addr} {len cap : Nat} {zs : List (Int × Int)} (h : IsPoly w a len cap zs) : zs.length = len := by
  rcases h with ⟨_, h2, _, h4⟩ | ⟨b, o, _, h, _⟩
  · rw [h4, h2]; rfl
  · exact h
theorem IsPoly.later {w W : World} {a : Option Addr} {len cap : Nat} {zs : List (Int × Int)} (h : IsPoly w a len cap zs) (hb : Below w.heap.size w W) : IsPoly W a len cap zs := by
  rcases h with h | ⟨b, o, h1, h2, h3, h4, h5⟩
  · exact .inl h
  · exact .inr ⟨b, o, h1, h2, h3, h4, fun i hi => ⟨cell_below hb (h5 i hi).1, cell_below hb (h5 i hi).2⟩⟩
/-- The components' bound. -/
def Bd (zs : List (Int × Int)) (B : Int) : Prop := ∀ i, -B ≤ vx zs i ∧ vx zs i ≤ B ∧ -B ≤ vy zs i ∧ vy zs i ≤ B

/-- Which side of the edge from v to w a point is on. -/
def crs (vx vy wx wy px py : Int) : Int := (wx - vx) * (py - vy) - (wy - vy) * (px - vx)

theorem isCircle_yes (r : Int) (a : Option Addr) (cap : Nat) : Gives Try.prog 65 #[.agg #[.int .i64 r, .slice a 0 cap]] (.bool true) := by
  intro w
  go_enter Try.func65, Try.ntmps65
  go_wp2
  go_ret
  exact ⟨rfl, by (repeat (first | (with_reducible exact Below.refl _ _) | (with_reducible refine Below.drew ?_) | (with_reducible refine below_drewN ?_ _) | (with_reducible refine Below.setCell ?_ (by first | (simp; done) | (simp; omega) | omega) _) | (with_reducible refine Below.alloc ?_ (by first | (simp; done) | (simp; omega) | omega) _) | (with_reducible refine Below.trans ?_ (Below.mono (by assumption) (by first | (simp; done) | (simp; omega) | omega))) | (with_reducible refine Below.trans ?_ (Below.mono (Later.below _) (by first | (simp; done) | (simp; omega) | omega)))))⟩
theorem isCircle_no (r : Int) (a : Option Addr) (len cap : Nat) (h : 1 ≤ len) (h2 : len ≤ 1000) : Gives Try.prog 65 #[.agg #[.int .i64 r, .slice a len cap]] (.bool false) := by
  intro w
  have hb : ((len : Int) == 0) = false := beq_eq_false_iff_ne.2 (by omega)
  go_enter Try.func65, Try.ntmps65
  go_wp2
  go_ret
  exact ⟨rfl, by (repeat (first | (with_reducible exact Below.refl _ _) | (with_reducible refine Below.drew ?_) | (with_reducible refine below_drewN ?_ _) | (with_reducible refine Below.setCell ?_ (by first | (simp; done) | (simp; omega) | omega) _) | (with_reducible refine Below.alloc ?_ (by first | (simp; done) | (simp; omega) | omega) _) | (with_reducible refine Below.trans ?_ (Below.mono (by assumption) (by first | (simp; done) | (simp; omega) | omega))) | (with_reducible refine Below.trans ?_ (Below.mono (Later.below _) (by first | (simp; done) | (simp; omega) | omega)))))⟩
theorem edges_any (n : Int) (w : World) : Calls Try.prog 76 #[.int .i64 n] w fun e w' => e = .returned (.func (.func 88) #[] #[.pointer (some ⟨w.heap.size, 0, none⟩)]) ∧ w' = w.alloc (.cells #[.int .i64 n] 3) := by
  go_enter Try.func76, Try.ntmps76
  go_wp2
  go_ret
  exact ⟨rfl, rfl⟩
theorem side_any (x y a b : Int) (w : World) : Calls Try.prog 77 #[.agg #[.int .i64 x, .int .i64 y], .agg #[.int .i64 a, .int .i64 b]] w fun e w' => e = .returned (.func (.func 89) #[] #[.pointer (some ⟨w.heap.size + 1, 0, none⟩), .pointer (some ⟨w.heap.size, 0, none⟩)]) ∧ w' = (w.alloc (.cells #[.int .i64 x, .int .i64 y] 29)).alloc (.cells #[.int .i64 a, .int .i64 b] 29) := by
  go_enter Try.func77, Try.ntmps77
  go_wp2
  go_ret
  exact ⟨by simp, rfl⟩
theorem crs_bd {x y a b p q : Int} (hx : -100000000 ≤ x ∧ x ≤ 100000000) (hy : -100000000 ≤ y ∧ y ≤ 100000000) (ha : -100000000 ≤ a ∧ a ≤ 100000000) (hb : -100000000 ≤ b ∧ b ≤ 100000000) (hp : -100000000 ≤ p ∧ p ≤ 100000000) (hq : -100000000 ≤ q ∧ q ≤ 100000000) :
    (-40000000000000000 ≤ (a - x) * (q - y) ∧ (a - x) * (q - y) ≤ 40000000000000000) ∧ -40000000000000000 ≤ (b - y) * (p - x) ∧ (b - y) * (p - x) ≤ 40000000000000000 :=
  ⟨mul_bd (A := 200000000) (B := 200000000) (by omega) (by omega) (by omega) (by omega), mul_bd (A := 200000000) (B := 200000000) (by omega) (by omega) (by omega) (by omega)⟩
theorem side1_any (x y a b p q : Int) (B1 B2 : Nat) (w : World) (c0 : w.cell? ⟨B2, 0, none⟩ = some (.int .i64 x)) (c1 : w.cell? ⟨B2, 1, none⟩ = some (.int .i64 y)) (c2 : w.cell? ⟨B1, 0, none⟩ = some (.int .i64 a)) (c3 : w.cell? ⟨B1, 1, none⟩ = some (.int .i64 b))
    (hx : -100000000 ≤ x ∧ x ≤ 100000000) (hy : -100000000 ≤ y ∧ y ≤ 100000000) (ha : -100000000 ≤ a ∧ a ≤ 100000000) (hb : -100000000 ≤ b ∧ b ≤ 100000000) (hp : -100000000 ≤ p ∧ p ≤ 100000000) (hq : -100000000 ≤ q ∧ q ≤ 100000000) :
    Calls Try.prog 89 #[.agg #[.int .i64 p, .int .i64 q], .pointer (some ⟨B1, 0, none⟩), .pointer (some ⟨B2, 0, none⟩)] w fun e w' => e = .returned (.int .i64 (crs x y a b p q)) ∧ Below w.heap.size w w' := by
  obtain ⟨⟨m0, m1⟩, m2, m3⟩ := crs_bd hx hy ha hb hp hq
  obtain ⟨hx0, hx1⟩ := hx
  obtain ⟨hy0, hy1⟩ := hy
  obtain ⟨ha0, ha1⟩ := ha
  obtain ⟨hb0, hb1⟩ := hb
  obtain ⟨hp0, hp1⟩ := hp
  obtain ⟨hq0, hq1⟩ := hq
  have l0 := World.block_lt_of_cell? w _ c0
  have l2 := World.block_lt_of_cell? w _ c2
  simp only at l0 l2
  have hal := alloc_if; have hfal := allocF_if
  go_enter Try.func89, Try.ntmps89
  go_wp2
  go_ret
  exact ⟨by unfold crs; rfl, by (repeat (first | (with_reducible exact Below.refl _ _) | (with_reducible refine Below.drew ?_) | (with_reducible refine below_drewN ?_ _) | (with_reducible refine Below.setCell ?_ (by first | (simp; done) | (simp; omega) | omega) _) | (with_reducible refine Below.alloc ?_ (by first | (simp; done) | (simp; omega) | omega) _) | (with_reducible refine Below.trans ?_ (Below.mono (by assumption) (by first | (simp; done) | (simp; omega) | omega))) | (with_reducible refine Below.trans ?_ (Below.mono (Later.below _) (by first | (simp; done) | (simp; omega) | omega)))))⟩
/-- Two vertices of m. -/
abbrev Edg (m : Nat) := { x : Nat × Nat // x.1 < m ∧ x.2 < m }
/-- The edges: vertex i and the next one. -/
def edg (m : Nat) (hm : 1 ≤ m) (i : Nat) : Edg m := ⟨(i % m, (i + 1) % m), Nat.mod_lt _ hm, Nat.mod_lt _ hm⟩
def upto {α : Type} (f : Nat → α) (k : Nat) : List α := (List.range k).map f
theorem upto_succ {α : Type} (f : Nat → α) (k : Nat) : upto f (k + 1) = upto f k ++ [f k] := by simp [upto, List.range_succ]
theorem upto_length {α : Type} (f : Nat → α) (k : Nat) : (upto f k).length = k := by simp [upto]

set_option maxRecDepth 100000 in
set_option maxHeartbeats 2000000 in
theorem edges1_in (F : Fence) (n : Nat) (hF : F.fn 88) (hro : F.round = none) (hn : 1 ≤ n) (l Bs n₀ m : Nat) (hm1 : 1 ≤ m) (hm2 : m ≤ 1000) (hb : Bs < n₀) (J Jx : List (Edg m) → World → Prop)
    (hY : ∀ pre x W, J pre W → pre.length < m → YieldAt F (n - 1) Try.prog l #[.int .i64 (x.1.1 : Int), .int .i64 (x.1.2 : Int)] W fun e W' =>
      (e = .returned (.bool true) ∧ J (pre ++ [x]) W' ∧ Below n₀ W W') ∨ (e = .returned (.bool false) ∧ Jx (pre ++ [x]) W'))
    (W : World) (hBs : W.cell? ⟨Bs, 0, none⟩ = some (.int .i64 (m : Int))) (h0 : J [] W) :
    CallsIn F n Try.prog 88 #[.func (.yield l) #[] #[], .pointer (some ⟨Bs, 0, none⟩)] W fun e W' => (∃ v, e = .returned v) ∧
      ((∃ ys, ys = upto (edg m hm1) m ∧ J ys W') ∨ (∃ pre, (∃ k, k ≤ m ∧ pre = upto (edg m hm1) k) ∧ Jx pre W')) := by
  refine callsIn_of_wp Try.func88 rfl hF ?_ hro
  simp only [Try.ntmps88, List.size_toArray, List.length_cons, List.length_nil, Nat.reduceAdd, Nat.reduceSub, Array.replicate_succ, Array.replicate_zero, List.push_toArray, List.append_toArray, List.nil_append, List.cons_append]
  gi_wp2
  gi_loopw [5] (fun i wr => ∃ k : Nat, k ≤ m ∧ i = .int .i64 k ∧ J (upto (edg m hm1) k) wr ∧ Below n₀ W wr)
    (fun i _ => m - (intOf i).toNat)
  case atStart => exact ⟨0, Nat.zero_le _, rfl, h0, Below.refl _ _⟩
  case round =>
    obtain ⟨k, hk, rfl, hJs, hnx⟩ := hrel
    have hcx : wr.cell? ⟨Bs, 0, none⟩ = some (.int .i64 (m : Int)) := (hnx.cell (p := ⟨Bs, 0, none⟩) hb).trans hBs
    by_cases hlt : k < m
    · obtain ⟨fn, tmps, assign, body, hy, hR⟩ := hY _ (edg m hm1 k) wr hJs (by rw [upto_length]; exact hlt)
      have hmod : (((k + 1) % m : Nat) : Int) = ((k : Int) + 1) % (m : Int) := by simp
      dsimp only [edg] at hy
      rw [Nat.mod_eq_of_lt hlt, hmod] at hy
      clear hmod
      have hm1' : (1 : Int) ≤ (m : Int) := by omega
      have hlt' : (k : Int) < (m : Int) := by omega
      have hm0 : ((m : Int) == 0) = false := beq_eq_false_iff_ne.2 (by omega)
      gi_wp2
      refine hR.mono ?_
      rintro e W3 (⟨rfl, hJ3, hk3⟩ | ⟨rfl, hJx3⟩)
      · gi_wp2
        go_roundw
        case rel => exact ⟨k + 1, by omega, by simp, by rw [upto_succ]; exact hJ3, hnx.trans hk3⟩
        case measure => simp [intOf]; omega
      · gi_wp2
        refine bodyPost_ret (results_none rfl _ _ _) rfl ?_
        exact ⟨⟨_, rfl⟩, .inr ⟨_, ⟨k + 1, by omega, (upto_succ _ _).symm⟩, hJx3⟩⟩
    · obtain rfl : k = m := by omega
      gi_wp2
      go_end0
      exact ⟨⟨_, rfl⟩, .inl ⟨_, rfl, hJs⟩⟩

theorem edges_stops (F : Fence) (n : Nat) (hF : F.fn 88) (hro : F.round = none) (hn : 1 ≤ n) (Bs n₀ m : Nat) (hm1 : 1 ≤ m) (hm2 : m ≤ 1000) (w : World) (hBs : Bs < w.heap.size) (hb : Bs < n₀)
    (hc : w.cell? ⟨Bs, 0, none⟩ = some (.int .i64 (m : Int))) :
    SeqStopsK F n Try.prog 88 #[.pointer (some ⟨Bs, 0, none⟩)] (fun x : Edg m => #[Value.int .i64 (x.1.1 : Int), Value.int .i64 (x.1.2 : Int)]) (Below n₀) (fun ys => ys = upto (edg m hm1) m)
      (fun pre => ∃ k, k ≤ m ∧ pre = upto (edg m hm1) k) m w := fun l J Jx W hW _ _ hY h0 =>
  edges1_in F n hF hro hn l Bs n₀ m hm1 hm2 hb J Jx hY W ((hW.cell (p := ⟨Bs, 0, none⟩) hBs).trans hc) h0
end Go.Proofs.Ytcgcapfppceggaa.Sh
