/-
  Contracts of the axes of two shapes: the iterator.
  Conditions: stated in each contract.
-/
import Derived.Test.YtcgcapfppceggaaCoA
namespace Go.Proofs.Ytcgcapfppceggaa.Co
open Go.RowKit Go.Proofs.Ytcgcapfppceggaa.FxMath Go.Proofs.Ytcgcapfppceggaa.FxA Go.Proofs.Ytcgcapfppceggaa.Qt Go.Proofs.Ytcgcapfppceggaa.Ve Go.Proofs.Ytcgcapfppceggaa.Sh Go.Shelf
set_option linter.unusedVariables false
set_option linter.unusedSimpArgs false
attribute [local go_sem] Oper.semAt_some
/-- An axis with its bound. -/
abbrev Axs := { n : Int × Int // AxB n }
def encA (x : Axs) : Array Value := #[.agg #[.int .i64 (x.1.1), .int .i64 (x.1.2)]]
def ednS (zs : List (Int × Int)) (i : Nat) : Axs := ⟨edn zs i, un_axb _ _⟩
def unS (x y : Int) : Axs := ⟨(unx x y, uny x y), un_axb x y⟩
def eaxS (zs : List (Int × Int)) : List Axs := upto (ednS zs) zs.length
def caxS (za zb : List (Int × Int)) (dx dy : Int) : List Axs :=
  if za.length = 0 then (if zb.length = 0 then [unS dx dy] else [unS (tvx zb dx dy) (tvy zb dx dy)])
  else if zb.length = 0 then [unS (tvx za (-dx) (-dy)) (tvy za (-dx) (-dy))] else []
def axsS (za zb : List (Int × Int)) (dx dy : Int) : List Axs := eaxS za ++ (eaxS zb ++ caxS za zb dx dy)
theorem axsS_val (za zb : List (Int × Int)) (dx dy : Int) : (axsS za zb dx dy).map (·.1) = axs za zb dx dy := by
  have e : ∀ zs, (eaxS zs).map (·.1) = eax zs := fun zs => by
    unfold eaxS eax upto
    rw [List.map_map]
    rfl
  unfold axsS axs caxS cax
  rw [List.map_append, List.map_append, e, e]
  congr 2
  by_cases h1 : za.length = 0
  · by_cases h2 : zb.length = 0
    · simp [h1, h2, unS]
    · simp [h1, h2, unS]
  · by_cases h2 : zb.length = 0
    · simp [h1, h2, unS]
    · simp [h1, h2]
theorem upto_take {α : Type} (f : Nat → α) {k n : Nat} (h : k ≤ n) : upto f k <+: upto f n := by
  have : upto f k = (upto f n).take k := by simp [upto, ← List.map_take, List.take_range, Nat.min_eq_left h]
  rw [this]
  exact List.take_prefix _ _
theorem J_later {J : List Axs → World → Prop} {B : Nat} (h : AbidesFrom B J) {pre : List Axs} {W W' : World} (hj : J pre W) (hb : Below W.heap.size W W') : J pre W' :=
  h pre W W' none hj ⟨hb.os, hb.tape, hb.output, hb.size, fun k hk _ => hb.block k hk⟩ (fun r e => by cases e)
theorem axes_any (ra : Int) (aa : Option Addr) (la ca : Nat) (px py rb : Int) (ab : Option Addr) (lb cb : Nat) (qx qy : Int) (w : World) :
    Calls Try.prog 50 #[.agg #[.int .i64 ra, .slice aa la ca], .agg #[.int .i64 px, .int .i64 py], .agg #[.int .i64 rb, .slice ab lb cb], .agg #[.int .i64 qx, .int .i64 qy]] w fun e w' =>
      e = .returned (.func (.func 78) #[] #[.pointer (some ⟨w.heap.size, 0, none⟩), .pointer (some ⟨w.heap.size + 1 + 1, 0, none⟩), .pointer (some ⟨w.heap.size + 1 + 1 + 1, 0, none⟩), .pointer (some ⟨w.heap.size + 1, 0, none⟩)]) ∧
      w' = (((w.alloc (.cells #[.int .i64 ra, .slice aa la ca] 25)).alloc (.cells #[.int .i64 px, .int .i64 py] 29)).alloc (.cells #[.int .i64 rb, .slice ab lb cb] 25)).alloc (.cells #[.int .i64 qx, .int .i64 qy] 29) := by
  go_enter Try.func50, Try.ntmps50
  go_wp2
  go_ret
  exact ⟨by simp, rfl⟩
/-- The boxes of a closure of axes. -/
structure AxG (w : World) (ra : Int) (aa : Option Addr) (la ca : Nat) (za : List (Int × Int)) (rb : Int) (ab : Option Addr) (lb cb : Nat) (zb : List (Int × Int)) (px py qx qy : Int) (Ba Bb Bq Bp : Nat) : Prop where
  hA : ShAt w ra aa la ca za
  hB : ShAt w rb ab lb cb zb
  cA0 : w.cell? ⟨Ba, 0, none⟩ = some (.int .i64 ra)
  cA1 : w.cell? ⟨Ba, 1, none⟩ = some (.slice aa la ca)
  cB0 : w.cell? ⟨Bb, 0, none⟩ = some (.int .i64 rb)
  cB1 : w.cell? ⟨Bb, 1, none⟩ = some (.slice ab lb cb)
  cQ0 : w.cell? ⟨Bq, 0, none⟩ = some (.int .i64 qx)
  cQ1 : w.cell? ⟨Bq, 1, none⟩ = some (.int .i64 qy)
  cP0 : w.cell? ⟨Bp, 0, none⟩ = some (.int .i64 px)
  cP1 : w.cell? ⟨Bp, 1, none⟩ = some (.int .i64 py)
set_option maxRecDepth 100000 in
set_option maxHeartbeats 8000000 in
theorem axes1_in (n : Nat) (hn : 1 ≤ n) (ra : Int) (aa : Option Addr) (la ca : Nat) (za : List (Int × Int)) (rb : Int) (ab : Option Addr) (lb cb : Nat) (zb : List (Int × Int)) (px py qx qy dx dy : Int) (Ba Bb Bq Bp : Nat)
    (hp : -10000000 ≤ px ∧ px ≤ 10000000 ∧ -10000000 ≤ py ∧ py ≤ 10000000) (hq : -10000000 ≤ qx ∧ qx ≤ 10000000 ∧ -10000000 ≤ qy ∧ qy ≤ 10000000) (hdx : dx = qx - px) (hdy : dy = qy - py)
    (Gd : World → Prop) (Kp : World → World → Prop) (hG : ∀ V, Gd V → AxG V ra aa la ca za rb ab lb cb zb px py qx qy Ba Bb Bq Bp) (hL : ∀ V V', Gd V → Below V.heap.size V V' → Gd V') (hKp : ∀ V V', Gd V → Kp V V' → Gd V')
    (N : Nat) (hN : (axsS za zb dx dy).length ≤ N) (l : Nat) (J Jx : List Axs → World → Prop) (Bs : Nat) (hAb : AbidesFrom Bs J)
    (hY : ∀ pre x W1, J pre W1 → pre.length < N → YieldAt Fence.wide (n - 1) Try.prog l (encA x) W1 fun e W' =>
      (e = .returned (.bool true) ∧ J (pre ++ [x]) W' ∧ Kp W1 W') ∨ (e = .returned (.bool false) ∧ Jx (pre ++ [x]) W'))
    (W : World) (hW : Gd W) (h0 : J [] W) :
    CallsIn Fence.wide n Try.prog 78 #[.func (.yield l) #[] #[], .pointer (some ⟨Ba, 0, none⟩), .pointer (some ⟨Bb, 0, none⟩), .pointer (some ⟨Bq, 0, none⟩), .pointer (some ⟨Bp, 0, none⟩)] W fun e W' => (∃ v, e = .returned v) ∧
      ((∃ ys, ys = axsS za zb dx dy ∧ J ys W') ∨ (∃ pre, pre <+: axsS za zb dx dy ∧ Jx pre W')) := by
  have hla := (hG W hW).hA.poly.len
  have hlb := (hG W hW).hB.poly.len
  have hAl : (axsS za zb dx dy).length = la + (lb + (caxS za zb dx dy).length) := by
    unfold axsS eaxS
    rw [List.length_append, List.length_append, upto_length, upto_length, hla, hlb]
  have HAb := Lib.hid hAb
  refine callsIn_of_wp Try.func78 rfl trivial ?_ rfl
  have HG := Lib.hid hG
  have HL := Lib.hid hL
  have HKp := Lib.hid hKp
  have cA1W := (hG W hW).cA1
  have cB1W := (hG W hW).cB1
  clear hG hL hKp
  simp only [Try.ntmps78, List.size_toArray, List.length_cons, List.length_nil, Nat.reduceAdd, Nat.reduceSub, Array.replicate_succ, Array.replicate_zero, List.push_toArray, List.append_toArray, List.nil_append, List.cons_append]
  gi_wp2
  clear cA1W cB1W
  gi_loopw [16] (fun i wr => ∃ p : Nat, p ≤ 2 ∧ i = .int .i64 p ∧ J (if p = 0 then [] else if p = 1 then eaxS za else eaxS za ++ eaxS zb) wr ∧ Gd wr) (fun i _ => 2 - (intOf i).toNat)
  case atStart => exact ⟨0, by decide, rfl, h0, hW⟩
  case round =>
    obtain ⟨p, hp2, rfl, hJs, hB⟩ := hrel
    have hi0 : ∀ W : World, Sem.run Try.prog (Instr.index 91 (.agg #[.slice aa la ca, .slice ab lb cb]) (.int .i64 0)) W = .ok (.slice aa la ca) W := fun W => by kernel_rfl
    have hi1 : ∀ W : World, Sem.run Try.prog (Instr.index 91 (.agg #[.slice aa la ca, .slice ab lb cb]) (.int .i64 1)) W = .ok (.slice ab lb cb) W := fun W => by kernel_rfl
    rcases (show p = 0 ∨ p = 1 ∨ p = 2 by omega) with rfl | rfl | rfl
    · -- the edges of A
      gi_wp2
      gi_loopw [21] (fun i wi => ∃ k : Nat, k ≤ la ∧ i = .int .i64 k ∧ J ([] ++ upto (ednS za) k) wi ∧ Gd wi) (fun i _ => la - (intOf i).toNat)
      case atStart => exact ⟨0, Nat.zero_le _, rfl, by simpa [upto] using hJs, hB⟩
      case round =>
        obtain ⟨k, hk, rfl, hJk, hBk⟩ := hrel
        by_cases hlt : k < la
        · have hS := (HG.out _ hBk).hA
          have kind := hS.kind
          rcases kind with ⟨h0, -⟩ | ⟨-, h3, h6, hbd, -⟩
          · omega
          have hpoly := hS.poly
          have hzl : za.length = la := hpoly.len
          rcases hpoly with ⟨-, h0, -⟩ | ⟨b, o, rfl, -, hle, hcm, hcell⟩
          · omega
          unfold maxLen at hcm
          have hm : (k + 1) % la < la := Nat.mod_lt _ (by omega)
          have v0 := (hcell k hlt).1
          have v1 := (hcell k hlt).2
          have v2 := (hcell ((k + 1) % la) hm).1
          have v3 := (hcell ((k + 1) % la) hm).2
          have hblt := World.block_lt_of_cell? _ _ v0
          simp only at hblt
          have bk := hbd k
          have bm := hbd ((k + 1) % la)
          have hmod : ((k : Int) + 1) % (la : Int) = (((k + 1) % la : Nat) : Int) := by simp
          have ca := unit_any (vy za ((k + 1) % la) - vy za k) (vx za k - vx za ((k + 1) % la)) (by omega) (by omega)
          have hed : ednS za k = ⟨(unx (vy za ((k + 1) % la) - vy za k) (vx za k - vx za ((k + 1) % la)), uny (vy za ((k + 1) % la) - vy za k) (vx za k - vx za ((k + 1) % la))), un_axb _ _⟩ := by
            apply Subtype.ext
            simp only [ednS, edn, edx, edy, hzl]
          have hsuc := upto_succ (ednS za) k
          have hlen : ([] ++ upto (ednS za) k).length < N := by
            rw [List.length_append, upto_length]
            rw [List.length_nil]; omega
          have hY2 := fun W1 hJ1 => hY ([] ++ upto (ednS za) k) (ednS za k) W1 hJ1 hlen
          have hstop : ([] ++ upto (ednS za) (k + 1)) <+: axsS za zb dx dy := by rw [List.nil_append]; unfold axsS eaxS; exact ((upto_take (ednS za) (by omega)).trans (List.prefix_append _ _))
          generalize ((k + 1) % la : Nat) = m at *
          have hmI : (m : Int) < (la : Int) := by omega
          have hm0 : (0 : Int) ≤ (m : Int) := by omega
          generalize vx za k = x0 at *
          generalize vy za k = y0 at *
          generalize vx za m = x1 at *
          generalize vy za m = y1 at *
          obtain ⟨u, hu⟩ : ∃ u, u = unx (y1 - y0) (x0 - x1) := ⟨_, rfl⟩
          obtain ⟨v, hv⟩ : ∃ v, v = uny (y1 - y0) (x0 - x1) := ⟨_, rfl⟩
          rw [← hu, ← hv] at ca
          have henc : encA (ednS za k) = #[.agg #[.int .i64 u, .int .i64 v]] := by rw [hed, hu, hv]; rfl
          rw [henc] at hY2
          have hL0 : ((la : Int) == 0) = false := beq_eq_false_iff_ne.2 (by omega)
          have hlI : (k : Int) < (la : Int) := by omega
          have hk0 : (0 : Int) ≤ (k : Int) := by omega
          have HY2 := Lib.hid hY2
          have Hsuc := Lib.hid hsuc
          have Hstop := Lib.hid hstop
          have HJk := Lib.hid hJk
          have HBk := Lib.hid hBk
          have Hca := Lib.hid ca; clear ca
          clear hu hv hed henc hsuc hstop hY2 hJk hS hlen hbd hcell hJs hB
          obtain ⟨bk0, bk1, bk2, bk3⟩ := bk
          obtain ⟨bm0, bm1, bm2, bm3⟩ := bm
          have hal := alloc_if; have hfal := allocF_if
          gi_wp2_with (first | ((refine ⟨trivial, ?_⟩; with_reducible refine (callsIn_wide.2 (Hca.out _)).mono ?_); rintro e wA ⟨rfl, hbA⟩; obtain ⟨fn, tmps, assign, body, hy, hR⟩ := HY2.out wA (J_later HAb.out HJk.out (by (repeat (first | (with_reducible exact Below.refl _ _) | (with_reducible refine Below.drew ?_) | (with_reducible refine below_drewN ?_ _) | (with_reducible refine Below.setCell ?_ (by first | (simp; done) | (simp; omega) | omega) _) | (with_reducible refine Below.alloc ?_ (by first | (simp; done) | (simp; omega) | omega) _) | (with_reducible refine Below.trans ?_ (Below.mono (by assumption) (by first | (simp; done) | (simp; omega) | omega))) | (with_reducible refine Below.trans ?_ (Below.mono (Later.below _) (by first | (simp; done) | (simp; omega) | omega)))))))))
          have hAr : Below wr.heap.size wr wA := by (repeat (first | (with_reducible exact Below.refl _ _) | (with_reducible refine Below.drew ?_) | (with_reducible refine below_drewN ?_ _) | (with_reducible refine Below.setCell ?_ (by first | (simp; done) | (simp; omega) | omega) _) | (with_reducible refine Below.alloc ?_ (by first | (simp; done) | (simp; omega) | omega) _) | (with_reducible refine Below.trans ?_ (Below.mono (by assumption) (by first | (simp; done) | (simp; omega) | omega))) | (with_reducible refine Below.trans ?_ (Below.mono (Later.below _) (by first | (simp; done) | (simp; omega) | omega)))))
          refine hR.mono ?_
          rintro e W3 (⟨rfl, hJ3, hk3⟩ | ⟨rfl, hJx3⟩)
          · gi_wp2
            go_roundw
            case rel => exact ⟨k + 1, by omega, by go_num, by rw [Hsuc.out, ← List.append_assoc]; exact hJ3, HKp.out _ _ (HL.out _ _ HBk.out hAr) hk3⟩
            case measure => simp [intOf]; omega
          · gi_wp2
            refine bodyPost_ret (results_none rfl _ _ _) rfl ?_
            exact ⟨⟨_, rfl⟩, .inr ⟨_, Hstop.out, by rw [Hsuc.out, ← List.append_assoc]; exact hJx3⟩⟩
        · obtain rfl : k = la := by omega
          clear hJs hB
          gi_wp2
          go_roundw
          case rel => exact ⟨1, by decide, rfl, by rw [List.nil_append] at hJk; show J (eaxS za) wr; unfold eaxS; rw [hla]; exact hJk, hBk⟩
          case measure => simp [intOf]
    · -- the edges of B'
      gi_wp2
      gi_loopw [21] (fun i wi => ∃ k : Nat, k ≤ lb ∧ i = .int .i64 k ∧ J (eaxS za ++ upto (ednS zb) k) wi ∧ Gd wi) (fun i _ => lb - (intOf i).toNat)
      case atStart => exact ⟨0, Nat.zero_le _, rfl, by simpa [upto] using hJs, hB⟩
      case round =>
        obtain ⟨k, hk, rfl, hJk, hBk⟩ := hrel
        by_cases hlt : k < lb
        · have hS := (HG.out _ hBk).hB
          have kind := hS.kind
          rcases kind with ⟨h0, -⟩ | ⟨-, h3, h6, hbd, -⟩
          · omega
          have hpoly := hS.poly
          have hzl : zb.length = lb := hpoly.len
          rcases hpoly with ⟨-, h0, -⟩ | ⟨b, o, rfl, -, hle, hcm, hcell⟩
          · omega
          unfold maxLen at hcm
          have hm : (k + 1) % lb < lb := Nat.mod_lt _ (by omega)
          have v0 := (hcell k hlt).1
          have v1 := (hcell k hlt).2
          have v2 := (hcell ((k + 1) % lb) hm).1
          have v3 := (hcell ((k + 1) % lb) hm).2
          have hblt := World.block_lt_of_cell? _ _ v0
          simp only at hblt
          have bk := hbd k
          have bm := hbd ((k + 1) % lb)
          have hmod : ((k : Int) + 1) % (lb : Int) = (((k + 1) % lb : Nat) : Int) := by simp
          have ca := unit_any (vy zb ((k + 1) % lb) - vy zb k) (vx zb k - vx zb ((k + 1) % lb)) (by omega) (by omega)
          have hed : ednS zb k = ⟨(unx (vy zb ((k + 1) % lb) - vy zb k) (vx zb k - vx zb ((k + 1) % lb)), uny (vy zb ((k + 1) % lb) - vy zb k) (vx zb k - vx zb ((k + 1) % lb))), un_axb _ _⟩ := by
            apply Subtype.ext
            simp only [ednS, edn, edx, edy, hzl]
          have hsuc := upto_succ (ednS zb) k
          have hlen : (eaxS za ++ upto (ednS zb) k).length < N := by
            rw [List.length_append, upto_length]
            show (upto _ _).length + k < N; rw [upto_length]; omega
          have hY2 := fun W1 hJ1 => hY (eaxS za ++ upto (ednS zb) k) (ednS zb k) W1 hJ1 hlen
          have hstop : (eaxS za ++ upto (ednS zb) (k + 1)) <+: axsS za zb dx dy := by
            obtain ⟨t, ht⟩ := ((upto_take (ednS zb) (k := k + 1) (n := zb.length) (by omega)).trans (List.prefix_append _ (caxS za zb dx dy)))
            exact ⟨t, by unfold axsS; rw [List.append_assoc, ht]; rfl⟩
          generalize ((k + 1) % lb : Nat) = m at *
          have hmI : (m : Int) < (lb : Int) := by omega
          have hm0 : (0 : Int) ≤ (m : Int) := by omega
          generalize vx zb k = x0 at *
          generalize vy zb k = y0 at *
          generalize vx zb m = x1 at *
          generalize vy zb m = y1 at *
          obtain ⟨u, hu⟩ : ∃ u, u = unx (y1 - y0) (x0 - x1) := ⟨_, rfl⟩
          obtain ⟨v, hv⟩ : ∃ v, v = uny (y1 - y0) (x0 - x1) := ⟨_, rfl⟩
          rw [← hu, ← hv] at ca
          have henc : encA (ednS zb k) = #[.agg #[.int .i64 u, .int .i64 v]] := by rw [hed, hu, hv]; rfl
          rw [henc] at hY2
          have hL0 : ((lb : Int) == 0) = false := beq_eq_false_iff_ne.2 (by omega)
          have hlI : (k : Int) < (lb : Int) := by omega
          have hk0 : (0 : Int) ≤ (k : Int) := by omega
          have HY2 := Lib.hid hY2
          have Hsuc := Lib.hid hsuc
          have Hstop := Lib.hid hstop
          have HJk := Lib.hid hJk
          have HBk := Lib.hid hBk
          have Hca := Lib.hid ca; clear ca
          clear hu hv hed henc hsuc hstop hY2 hJk hS hlen hbd hcell hJs hB
          obtain ⟨bk0, bk1, bk2, bk3⟩ := bk
          obtain ⟨bm0, bm1, bm2, bm3⟩ := bm
          have hal := alloc_if; have hfal := allocF_if
          gi_wp2_with (first | ((refine ⟨trivial, ?_⟩; with_reducible refine (callsIn_wide.2 (Hca.out _)).mono ?_); rintro e wA ⟨rfl, hbA⟩; obtain ⟨fn, tmps, assign, body, hy, hR⟩ := HY2.out wA (J_later HAb.out HJk.out (by (repeat (first | (with_reducible exact Below.refl _ _) | (with_reducible refine Below.drew ?_) | (with_reducible refine below_drewN ?_ _) | (with_reducible refine Below.setCell ?_ (by first | (simp; done) | (simp; omega) | omega) _) | (with_reducible refine Below.alloc ?_ (by first | (simp; done) | (simp; omega) | omega) _) | (with_reducible refine Below.trans ?_ (Below.mono (by assumption) (by first | (simp; done) | (simp; omega) | omega))) | (with_reducible refine Below.trans ?_ (Below.mono (Later.below _) (by first | (simp; done) | (simp; omega) | omega)))))))))
          have hAr : Below wr.heap.size wr wA := by (repeat (first | (with_reducible exact Below.refl _ _) | (with_reducible refine Below.drew ?_) | (with_reducible refine below_drewN ?_ _) | (with_reducible refine Below.setCell ?_ (by first | (simp; done) | (simp; omega) | omega) _) | (with_reducible refine Below.alloc ?_ (by first | (simp; done) | (simp; omega) | omega) _) | (with_reducible refine Below.trans ?_ (Below.mono (by assumption) (by first | (simp; done) | (simp; omega) | omega))) | (with_reducible refine Below.trans ?_ (Below.mono (Later.below _) (by first | (simp; done) | (simp; omega) | omega)))))
          refine hR.mono ?_
          rintro e W3 (⟨rfl, hJ3, hk3⟩ | ⟨rfl, hJx3⟩)
          · gi_wp2
            go_roundw
            case rel => exact ⟨k + 1, by omega, by go_num, by rw [Hsuc.out, ← List.append_assoc]; exact hJ3, HKp.out _ _ (HL.out _ _ HBk.out hAr) hk3⟩
            case measure => simp [intOf]; omega
          · gi_wp2
            refine bodyPost_ret (results_none rfl _ _ _) rfl ?_
            exact ⟨⟨_, rfl⟩, .inr ⟨_, Hstop.out, by rw [Hsuc.out, ← List.append_assoc]; exact hJx3⟩⟩
        · obtain rfl : k = lb := by omega
          clear hJs hB
          gi_wp2
          go_roundw
          case rel => exact ⟨2, by decide, rfl, by show J (eaxS za ++ eaxS zb) wr; rw [show eaxS zb = upto (ednS zb) zb.length from rfl, hlb]; exact hJk, hBk⟩
          case measure => simp [intOf]
    · -- the axis of a circle
      have hJ2 : J (eaxS za ++ eaxS zb) wr := hJs
      have HJs := Lib.hid hJ2
      have e1 := (HG.out _ hB).cA0
      have e2 := (HG.out _ hB).cA1
      have e3 := (HG.out _ hB).cB0
      have e4 := (HG.out _ hB).cB1
      have e5 := (HG.out _ hB).cQ0
      have e6 := (HG.out _ hB).cQ1
      have e7 := (HG.out _ hB).cP0
      have e8 := (HG.out _ hB).cP1
      have g1 : Ba < wr.heap.size := World.block_lt_of_cell? _ _ e1
      have g2 : Bb < wr.heap.size := World.block_lt_of_cell? _ _ e3
      have g3 : Bq < wr.heap.size := World.block_lt_of_cell? _ _ e5
      have g4 : Bp < wr.heap.size := World.block_lt_of_cell? _ _ e7
      obtain ⟨hp1, hp2', hp3, hp4⟩ := hp
      obtain ⟨hq1, hq2, hq3, hq4⟩ := hq
      have hSA := (HG.out _ hB).hA
      have hSB := (HG.out _ hB).hB
      clear hJs hJ2 hB
      by_cases hza : la = 0
      · by_cases hzb : lb = 0
        · have k1 := cCircle_yes ra aa ca
          have k2 := cCircle_yes rb ab cb
          subst hza hzb
          have hcx : caxS za zb dx dy = [unS dx dy] := by unfold caxS; rw [if_pos hla, if_pos hlb]
          have hlen : (eaxS za ++ eaxS zb).length < N := by
            rw [hcx] at hAl
            rw [List.length_append]
            unfold eaxS
            rw [upto_length, upto_length]
            simp at hAl
            omega
          have hfull : axsS za zb dx dy = (eaxS za ++ eaxS zb) ++ [unS dx dy] := by unfold axsS; rw [hcx, List.append_assoc]
          have hY2 := fun W1 hJ1 => hY (eaxS za ++ eaxS zb) (unS dx dy) W1 hJ1 hlen
          rw [show encA (unS dx dy) = #[.agg #[.int .i64 (unx dx dy), .int .i64 (uny dx dy)]] from rfl] at hY2
          have cs := sub_any qx qy px py (by omega) (by omega) (by omega) (by omega)
          have cu := unit_any (qx - px) (qy - py) (by omega) (by omega)
          rw [← hdx, ← hdy] at cs cu
          have Hk1 := Lib.hid k1; have Hk2 := Lib.hid k2; have Hcs := Lib.hid cs; have Hcu := Lib.hid cu; clear k1 k2 cs cu
          clear hSA hSB
          have HY2 := Lib.hid hY2
          have Hfull := Lib.hid hfull
          clear hY2 hfull hcx hlen hAl hi0 hi1 hdx hdy
          have hal := alloc_if; have hfal := allocF_if
          gi_wp2_with (first | ((refine ⟨trivial, ?_⟩; with_reducible refine (callsIn_wide.2 (Hk1.out _)).mono ?_); rintro e wA ⟨rfl, hbA⟩; obtain ⟨NA, hNA, hcA, hfA, hsA⟩ := bcell hbA; (try simp only [World.size_alloc, World.size_setCell, World.size_drew] at hNA)) | ((refine ⟨trivial, ?_⟩; with_reducible refine (callsIn_wide.2 (Hk2.out _)).mono ?_); rintro e wB ⟨rfl, hbB⟩; obtain ⟨NB, hNB, hcB, hfB, hsB⟩ := bcell hbB; (try simp only [World.size_alloc, World.size_setCell, World.size_drew] at hNB)) | ((refine ⟨trivial, ?_⟩; with_reducible refine (callsIn_wide.2 (Hcs.out _)).mono ?_); rintro e wC ⟨rfl, hbC⟩; obtain ⟨NC, hNC, hcC, hfC, hsC⟩ := bcell hbC; (try simp only [World.size_alloc, World.size_setCell, World.size_drew] at hNC)) | ((refine ⟨trivial, ?_⟩; with_reducible refine (callsIn_wide.2 (Hcu.out _)).mono ?_); rintro e wU ⟨rfl, hbU⟩; obtain ⟨fn, tmps, assign, body, hy, hR⟩ := HY2.out wU (J_later HAb.out HJs.out (by (repeat (first | (with_reducible exact Below.refl _ _) | (with_reducible refine Below.drew ?_) | (with_reducible refine below_drewN ?_ _) | (with_reducible refine Below.setCell ?_ (by first | (simp; done) | (simp; omega) | omega) _) | (with_reducible refine Below.alloc ?_ (by first | (simp; done) | (simp; omega) | omega) _) | (with_reducible refine Below.trans ?_ (Below.mono (by assumption) (by first | (simp; done) | (simp; omega) | omega))) | (with_reducible refine Below.trans ?_ (Below.mono (Later.below _) (by first | (simp; done) | (simp; omega) | omega)))))))))
          refine hR.mono ?_
          rintro e W3 (⟨rfl, hJ3, hk3⟩ | ⟨rfl, hJx3⟩)
          · gi_wp2
            go_end0
            exact ⟨⟨_, rfl⟩, .inl ⟨_, rfl, by rw [Hfull.out]; exact hJ3⟩⟩
          · gi_wp2
            go_end0
            exact ⟨⟨_, rfl⟩, .inr ⟨_, List.prefix_refl _, by rw [Hfull.out]; exact hJx3⟩⟩
        · have k1 := cCircle_yes ra aa ca
          have k2 := cCircle_no rb ab lb cb (by omega) (by rcases hSB.kind with ⟨h, -⟩ | ⟨-, -, h, -⟩ <;> omega)
          subst hza
          have hcx : caxS za zb dx dy = [unS (tvx zb dx dy) (tvy zb dx dy)] := by unfold caxS; rw [if_pos hla, if_neg (by omega)]
          have hlen : (eaxS za ++ eaxS zb).length < N := by
            rw [hcx] at hAl
            rw [List.length_append]
            unfold eaxS
            rw [upto_length, upto_length]
            simp at hAl
            omega
          have hfull : axsS za zb dx dy = (eaxS za ++ eaxS zb) ++ [unS (tvx zb dx dy) (tvy zb dx dy)] := by unfold axsS; rw [hcx, List.append_assoc]
          have hY2 := fun W1 hJ1 => hY (eaxS za ++ eaxS zb) (unS (tvx zb dx dy) (tvy zb dx dy)) W1 hJ1 hlen
          rw [show encA (unS (tvx zb dx dy) (tvy zb dx dy)) = #[.agg #[.int .i64 (unx (tvx zb dx dy) (tvy zb dx dy)), .int .i64 (uny (tvx zb dx dy) (tvy zb dx dy))]] from rfl] at hY2
          have cs := toVertex_s hSB (by omega) px py qx qy (by omega) (by omega)
          have hbz : Bd zb 32768 := by
            rcases hSB.kind with ⟨h, -⟩ | ⟨-, -, -, h, -⟩
            · exact absurd h hzb
            · exact h
          have nb := near_bd hbz dx dy
          have cu := unit_any (tvx zb dx dy) (tvy zb dx dy) (by omega) (by omega)
          rw [← hdx, ← hdy] at cs
          generalize tvx zb dx dy = tx at *
          generalize tvy zb dx dy = ty at *
          have Hk1 := Lib.hid k1; have Hk2 := Lib.hid k2; have Hcs := Lib.hid cs; have Hcu := Lib.hid cu; clear k1 k2 cs cu
          clear hSA hSB nb hbz
          have HY2 := Lib.hid hY2
          have Hfull := Lib.hid hfull
          clear hY2 hfull hcx hlen hAl hi0 hi1 hdx hdy
          have hal := alloc_if; have hfal := allocF_if
          gi_wp2_with (first | ((refine ⟨trivial, ?_⟩; with_reducible refine (callsIn_wide.2 (Hk1.out _)).mono ?_); rintro e wA ⟨rfl, hbA⟩; obtain ⟨NA, hNA, hcA, hfA, hsA⟩ := bcell hbA; (try simp only [World.size_alloc, World.size_setCell, World.size_drew] at hNA)) | ((refine ⟨trivial, ?_⟩; with_reducible refine (callsIn_wide.2 (Hk2.out _)).mono ?_); rintro e wB ⟨rfl, hbB⟩; obtain ⟨NB, hNB, hcB, hfB, hsB⟩ := bcell hbB; (try simp only [World.size_alloc, World.size_setCell, World.size_drew] at hNB)) | ((refine ⟨trivial, ?_⟩; with_reducible refine (callsIn_wide.2 (Hcs.out _ (by (repeat (first | (with_reducible exact Below.refl _ _) | (with_reducible refine Below.drew ?_) | (with_reducible refine below_drewN ?_ _) | (with_reducible refine Below.setCell ?_ (by first | (simp; done) | (simp; omega) | omega) _) | (with_reducible refine Below.alloc ?_ (by first | (simp; done) | (simp; omega) | omega) _) | (with_reducible refine Below.trans ?_ (Below.mono (by assumption) (by first | (simp; done) | (simp; omega) | omega))) | (with_reducible refine Below.trans ?_ (Below.mono (Later.below _) (by first | (simp; done) | (simp; omega) | omega)))))))).mono ?_); rintro e wC ⟨rfl, hbC⟩; obtain ⟨NC, hNC, hcC, hfC, hsC⟩ := bcell hbC; (try simp only [World.size_alloc, World.size_setCell, World.size_drew] at hNC)) | ((refine ⟨trivial, ?_⟩; with_reducible refine (callsIn_wide.2 (Hcu.out _)).mono ?_); rintro e wU ⟨rfl, hbU⟩; obtain ⟨fn, tmps, assign, body, hy, hR⟩ := HY2.out wU (J_later HAb.out HJs.out (by (repeat (first | (with_reducible exact Below.refl _ _) | (with_reducible refine Below.drew ?_) | (with_reducible refine below_drewN ?_ _) | (with_reducible refine Below.setCell ?_ (by first | (simp; done) | (simp; omega) | omega) _) | (with_reducible refine Below.alloc ?_ (by first | (simp; done) | (simp; omega) | omega) _) | (with_reducible refine Below.trans ?_ (Below.mono (by assumption) (by first | (simp; done) | (simp; omega) | omega))) | (with_reducible refine Below.trans ?_ (Below.mono (Later.below _) (by first | (simp; done) | (simp; omega) | omega)))))))))
          refine hR.mono ?_
          rintro e W3 (⟨rfl, hJ3, hk3⟩ | ⟨rfl, hJx3⟩)
          · gi_wp2
            go_end0
            exact ⟨⟨_, rfl⟩, .inl ⟨_, rfl, by rw [Hfull.out]; exact hJ3⟩⟩
          · gi_wp2
            go_end0
            exact ⟨⟨_, rfl⟩, .inr ⟨_, List.prefix_refl _, by rw [Hfull.out]; exact hJx3⟩⟩
      · by_cases hzb : lb = 0
        · have k1 := cCircle_no ra aa la ca (by omega) (by rcases hSA.kind with ⟨h, -⟩ | ⟨-, -, h, -⟩ <;> omega)
          have k2 := cCircle_yes rb ab cb
          subst hzb
          have hcx : caxS za zb dx dy = [unS (tvx za (-dx) (-dy)) (tvy za (-dx) (-dy))] := by unfold caxS; rw [if_neg (by omega), if_pos hlb]
          have hlen : (eaxS za ++ eaxS zb).length < N := by
            rw [hcx] at hAl
            rw [List.length_append]
            unfold eaxS
            rw [upto_length, upto_length]
            simp at hAl
            omega
          have hfull : axsS za zb dx dy = (eaxS za ++ eaxS zb) ++ [unS (tvx za (-dx) (-dy)) (tvy za (-dx) (-dy))] := by unfold axsS; rw [hcx, List.append_assoc]
          have hY2 := fun W1 hJ1 => hY (eaxS za ++ eaxS zb) (unS (tvx za (-dx) (-dy)) (tvy za (-dx) (-dy))) W1 hJ1 hlen
          rw [show encA (unS (tvx za (-dx) (-dy)) (tvy za (-dx) (-dy))) = #[.agg #[.int .i64 (unx (tvx za (-dx) (-dy)) (tvy za (-dx) (-dy))), .int .i64 (uny (tvx za (-dx) (-dy)) (tvy za (-dx) (-dy)))]] from rfl] at hY2
          have cs := toVertex_s hSA (by omega) qx qy px py (by omega) (by omega)
          have hbz : Bd za 32768 := by
            rcases hSA.kind with ⟨h, -⟩ | ⟨-, -, -, h, -⟩
            · exact absurd h hza
            · exact h
          have nb := near_bd hbz (-dx) (-dy)
          have cu := unit_any (tvx za (-dx) (-dy)) (tvy za (-dx) (-dy)) (by omega) (by omega)
          rw [show px - qx = -dx by omega, show py - qy = -dy by omega] at cs
          generalize tvx za (-dx) (-dy) = tx at *
          generalize tvy za (-dx) (-dy) = ty at *
          have Hk1 := Lib.hid k1; have Hk2 := Lib.hid k2; have Hcs := Lib.hid cs; have Hcu := Lib.hid cu; clear k1 k2 cs cu
          clear hSA hSB nb hbz
          have HY2 := Lib.hid hY2
          have Hfull := Lib.hid hfull
          clear hY2 hfull hcx hlen hAl hi0 hi1 hdx hdy
          have hal := alloc_if; have hfal := allocF_if
          gi_wp2_with (first | ((refine ⟨trivial, ?_⟩; with_reducible refine (callsIn_wide.2 (Hk1.out _)).mono ?_); rintro e wA ⟨rfl, hbA⟩; obtain ⟨NA, hNA, hcA, hfA, hsA⟩ := bcell hbA; (try simp only [World.size_alloc, World.size_setCell, World.size_drew] at hNA)))
          refine ⟨trivial, ?_⟩
          gi_wp2_with (first | ((refine ⟨trivial, ?_⟩; with_reducible refine (callsIn_wide.2 (Hk1.out _)).mono ?_); rintro e wA ⟨rfl, hbA⟩; obtain ⟨NA, hNA, hcA, hfA, hsA⟩ := bcell hbA; (try simp only [World.size_alloc, World.size_setCell, World.size_drew] at hNA)) | ((refine ⟨trivial, ?_⟩; with_reducible refine (callsIn_wide.2 (Hk2.out _)).mono ?_); rintro e wB ⟨rfl, hbB⟩; obtain ⟨NB, hNB, hcB, hfB, hsB⟩ := bcell hbB; (try simp only [World.size_alloc, World.size_setCell, World.size_drew] at hNB)) | ((refine ⟨trivial, ?_⟩; with_reducible refine (callsIn_wide.2 (Hcs.out _ (by (repeat (first | (with_reducible exact Below.refl _ _) | (with_reducible refine Below.drew ?_) | (with_reducible refine below_drewN ?_ _) | (with_reducible refine Below.setCell ?_ (by first | (simp; done) | (simp; omega) | omega) _) | (with_reducible refine Below.alloc ?_ (by first | (simp; done) | (simp; omega) | omega) _) | (with_reducible refine Below.trans ?_ (Below.mono (by assumption) (by first | (simp; done) | (simp; omega) | omega))) | (with_reducible refine Below.trans ?_ (Below.mono (Later.below _) (by first | (simp; done) | (simp; omega) | omega)))))))).mono ?_); rintro e wC ⟨rfl, hbC⟩; obtain ⟨NC, hNC, hcC, hfC, hsC⟩ := bcell hbC; (try simp only [World.size_alloc, World.size_setCell, World.size_drew] at hNC)) | ((refine ⟨trivial, ?_⟩; with_reducible refine (callsIn_wide.2 (Hcu.out _)).mono ?_); rintro e wU ⟨rfl, hbU⟩; obtain ⟨fn, tmps, assign, body, hy, hR⟩ := HY2.out wU (J_later HAb.out HJs.out (by (repeat (first | (with_reducible exact Below.refl _ _) | (with_reducible refine Below.drew ?_) | (with_reducible refine below_drewN ?_ _) | (with_reducible refine Below.setCell ?_ (by first | (simp; done) | (simp; omega) | omega) _) | (with_reducible refine Below.alloc ?_ (by first | (simp; done) | (simp; omega) | omega) _) | (with_reducible refine Below.trans ?_ (Below.mono (by assumption) (by first | (simp; done) | (simp; omega) | omega))) | (with_reducible refine Below.trans ?_ (Below.mono (Later.below _) (by first | (simp; done) | (simp; omega) | omega)))))))))
          refine hR.mono ?_
          rintro e W3 (⟨rfl, hJ3, hk3⟩ | ⟨rfl, hJx3⟩)
          · gi_wp2
            go_end0
            exact ⟨⟨_, rfl⟩, .inl ⟨_, rfl, by rw [Hfull.out]; exact hJ3⟩⟩
          · gi_wp2
            go_end0
            exact ⟨⟨_, rfl⟩, .inr ⟨_, List.prefix_refl _, by rw [Hfull.out]; exact hJx3⟩⟩
        · have k1 := cCircle_no ra aa la ca (by omega) (by rcases hSA.kind with ⟨h, -⟩ | ⟨-, -, h, -⟩ <;> omega)
          have k2 := cCircle_no rb ab lb cb (by omega) (by rcases hSB.kind with ⟨h, -⟩ | ⟨-, -, h, -⟩ <;> omega)
          have hfull : axsS za zb dx dy = eaxS za ++ eaxS zb := by unfold axsS caxS; rw [if_neg (by omega), if_neg (by omega), List.append_nil]
          have Hfull := Lib.hid hfull
          have Hk1 := Lib.hid k1; have Hk2 := Lib.hid k2; clear k1 k2
          clear hSA hSB hfull hAl hi0 hi1 hdx hdy
          have hal := alloc_if; have hfal := allocF_if
          gi_wp2_with (first | ((refine ⟨trivial, ?_⟩; with_reducible refine (callsIn_wide.2 (Hk1.out _)).mono ?_); rintro e wA ⟨rfl, hbA⟩; obtain ⟨NA, hNA, hcA, hfA, hsA⟩ := bcell hbA; (try simp only [World.size_alloc, World.size_setCell, World.size_drew] at hNA)))
          refine ⟨trivial, ?_⟩
          gi_wp2_with (first | ((refine ⟨trivial, ?_⟩; with_reducible refine (callsIn_wide.2 (Hk1.out _)).mono ?_); rintro e wA ⟨rfl, hbA⟩; obtain ⟨NA, hNA, hcA, hfA, hsA⟩ := bcell hbA; (try simp only [World.size_alloc, World.size_setCell, World.size_drew] at hNA)) | ((refine ⟨trivial, ?_⟩; with_reducible refine (callsIn_wide.2 (Hk2.out _)).mono ?_); rintro e wB ⟨rfl, hbB⟩; obtain ⟨NB, hNB, hcB, hfB, hsB⟩ := bcell hbB; (try simp only [World.size_alloc, World.size_setCell, World.size_drew] at hNB)))
          go_end0
          exact ⟨⟨_, rfl⟩, .inl ⟨_, rfl, by rw [Hfull.out]; exact J_later HAb.out HJs.out (by (repeat (first | (with_reducible exact Below.refl _ _) | (with_reducible refine Below.drew ?_) | (with_reducible refine below_drewN ?_ _) | (with_reducible refine Below.setCell ?_ (by first | (simp; done) | (simp; omega) | omega) _) | (with_reducible refine Below.alloc ?_ (by first | (simp; done) | (simp; omega) | omega) _) | (with_reducible refine Below.trans ?_ (Below.mono (by assumption) (by first | (simp; done) | (simp; omega) | omega))) | (with_reducible refine Below.trans ?_ (Below.mono (Later.below _) (by first | (simp; done) | (simp; omega) | omega))))))⟩⟩
end Go.Proofs.Ytcgcapfppceggaa.Co
