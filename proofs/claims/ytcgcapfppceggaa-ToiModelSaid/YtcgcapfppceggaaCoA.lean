/-
  Contracts of the small functions of package collide: unit, Overlap, depth.
  Conditions: stated in each contract.
-/
import Derived.Test.YtcgcapfppceggaaCoL
import Derived.Test.YtcgcapfppceggaaQm
import Derived.Deep.Cut
import Derived.Deep.CutRange
import Derived.Deep.DeepCutAuto
namespace Go.Proofs.Ytcgcapfppceggaa.Co
open Go.RowKit Go.Proofs.Ytcgcapfppceggaa.FxMath Go.Proofs.Ytcgcapfppceggaa.FxA Go.Proofs.Ytcgcapfppceggaa.Qt Go.Proofs.Ytcgcapfppceggaa.Ve Go.Proofs.Ytcgcapfppceggaa.Sh Go.Shelf
set_option linter.unusedVariables false
set_option linter.unusedSimpArgs false
theorem sq_bd {x : Int} (h0 : -100000000 ≤ x) (h1 : x ≤ 100000000) : x * x ≤ 10000000000000000 := (mul_bd (A := 100000000) (B := 100000000) h0 h1 h0 h1).2
theorem unit_of (x y p q : Int) (c : Gives Try.prog 90 #[.agg #[.int .i64 x, .int .i64 y]] (.agg #[.int .i64 p, .int .i64 q])) : Gives Try.prog 79 #[.agg #[.int .i64 x, .int .i64 y]] (.agg #[.int .i64 (if p = 0 ∧ q = 0 then 1024 else p), .int .i64 (if p = 0 ∧ q = 0 then 0 else q)]) := by
  intro w
  have Hc := Lib.hid c; clear c
  have hal := alloc_if; have hfal := allocF_if
  have hst := setCell_if
  by_cases hp : p = 0
  · by_cases hq : q = 0
    · subst hp hq
      rw [if_pos ⟨rfl, rfl⟩, if_pos ⟨rfl, rfl⟩]
      go_enter Try.func79, Try.ntmps79
      go_wp2_with (first | ((with_reducible refine (Hc.out _).mono ?_); rintro e wA ⟨rfl, hbA⟩; obtain ⟨NA, hNA, hcA, hfA, hsA⟩ := bcell hbA; (try simp only [World.size_alloc, World.size_setCell, World.size_drew] at hNA)))
      refine bodyPost_ret (v := .agg #[.int .i64 1024, .int .i64 0]) (by simp [results, Try.results79, go_sem, hst, hcA, alloc_if, ↓IntWalk.iteOmega]) rfl ⟨rfl, ?_⟩
      (repeat (first | (with_reducible exact Below.refl _ _) | (with_reducible refine Below.drew ?_) | (with_reducible refine below_drewN ?_ _) | (with_reducible refine Below.setCell ?_ (by first | (simp; done) | (simp; omega) | omega) _) | (with_reducible refine Below.alloc ?_ (by first | (simp; done) | (simp; omega) | omega) _) | (with_reducible refine Below.trans ?_ (Below.mono (by assumption) (by first | (simp; done) | (simp; omega) | omega))) | (with_reducible refine Below.trans ?_ (Below.mono (Later.below _) (by first | (simp; done) | (simp; omega) | omega)))))
    · rw [if_neg (by omega), if_neg (by omega)]
      subst hp
      go_enter Try.func79, Try.ntmps79
      go_wp2_with (first | ((with_reducible refine (Hc.out _).mono ?_); rintro e wA ⟨rfl, hbA⟩; obtain ⟨NA, hNA, hcA, hfA, hsA⟩ := bcell hbA; (try simp only [World.size_alloc, World.size_setCell, World.size_drew] at hNA)))
      refine bodyPost_ret (v := .agg #[.int .i64 0, .int .i64 q]) (by simp [results, Try.results79, go_sem, hst, hcA, alloc_if, ↓IntWalk.iteOmega]) rfl ⟨rfl, ?_⟩
      (repeat (first | (with_reducible exact Below.refl _ _) | (with_reducible refine Below.drew ?_) | (with_reducible refine below_drewN ?_ _) | (with_reducible refine Below.setCell ?_ (by first | (simp; done) | (simp; omega) | omega) _) | (with_reducible refine Below.alloc ?_ (by first | (simp; done) | (simp; omega) | omega) _) | (with_reducible refine Below.trans ?_ (Below.mono (by assumption) (by first | (simp; done) | (simp; omega) | omega))) | (with_reducible refine Below.trans ?_ (Below.mono (Later.below _) (by first | (simp; done) | (simp; omega) | omega)))))
  · rw [if_neg (by omega), if_neg (by omega)]
    go_enter Try.func79, Try.ntmps79
    go_wp2_with (first | ((with_reducible refine (Hc.out _).mono ?_); rintro e wA ⟨rfl, hbA⟩; obtain ⟨NA, hNA, hcA, hfA, hsA⟩ := bcell hbA; (try simp only [World.size_alloc, World.size_setCell, World.size_drew] at hNA)))
    refine bodyPost_ret (v := .agg #[.int .i64 p, .int .i64 q]) (by simp [results, Try.results79, go_sem, hst, hcA, alloc_if, ↓IntWalk.iteOmega]) rfl ⟨rfl, ?_⟩
    (repeat (first | (with_reducible exact Below.refl _ _) | (with_reducible refine Below.drew ?_) | (with_reducible refine below_drewN ?_ _) | (with_reducible refine Below.setCell ?_ (by first | (simp; done) | (simp; omega) | omega) _) | (with_reducible refine Below.alloc ?_ (by first | (simp; done) | (simp; omega) | omega) _) | (with_reducible refine Below.trans ?_ (Below.mono (by assumption) (by first | (simp; done) | (simp; omega) | omega))) | (with_reducible refine Below.trans ?_ (Below.mono (Later.below _) (by first | (simp; done) | (simp; omega) | omega)))))
theorem unit_any (x y : Int) (hx : -100000000 ≤ x ∧ x ≤ 100000000) (hy : -100000000 ≤ y ∧ y ≤ 100000000) : Gives Try.prog 79 #[.agg #[.int .i64 x, .int .i64 y]] (.agg #[.int .i64 (unx x y), .int .i64 (uny x y)]) :=
  unit_of x y (nmx x y) (nmy x y) (normalize_any x y (by omega) (by omega) (by omega) (by omega) (by have := sq_bd hx.1 hx.2; omega) (by have := sq_bd hy.1 hy.2; omega))
theorem meet_any (a0 a1 b0 b1 : Int) : Gives Try.prog 64 #[.int .i64 a0, .int .i64 a1, .int .i64 b0, .int .i64 b1] (.bool (decide (a0 ≤ b1) && decide (b0 ≤ a1))) := by
  intro w
  have key : ∀ e, e = (decide (a0 ≤ b1) && decide (b0 ≤ a1)) → Calls Try.prog 64 #[.int .i64 a0, .int .i64 a1, .int .i64 b0, .int .i64 b1] w fun r w' => r = .returned (.bool e) ∧ Below w.heap.size w w' := by
    intro e he
    by_cases h1 : a0 ≤ b1
    · by_cases h2 : b0 ≤ a1
      · rw [decide_eq_true h1, decide_eq_true h2] at he
        subst he
        go_enter Try.func64, Try.ntmps64
        go_wp2
        go_ret
        exact ⟨rfl, by (repeat (first | (with_reducible exact Below.refl _ _) | (with_reducible refine Below.drew ?_) | (with_reducible refine below_drewN ?_ _) | (with_reducible refine Below.setCell ?_ (by first | (simp; done) | (simp; omega) | omega) _) | (with_reducible refine Below.alloc ?_ (by first | (simp; done) | (simp; omega) | omega) _) | (with_reducible refine Below.trans ?_ (Below.mono (by assumption) (by first | (simp; done) | (simp; omega) | omega))) | (with_reducible refine Below.trans ?_ (Below.mono (Later.below _) (by first | (simp; done) | (simp; omega) | omega)))))⟩
      · rw [decide_eq_true h1, decide_eq_false h2] at he
        subst he
        go_enter Try.func64, Try.ntmps64
        go_wp2
        go_ret
        exact ⟨rfl, by (repeat (first | (with_reducible exact Below.refl _ _) | (with_reducible refine Below.drew ?_) | (with_reducible refine below_drewN ?_ _) | (with_reducible refine Below.setCell ?_ (by first | (simp; done) | (simp; omega) | omega) _) | (with_reducible refine Below.alloc ?_ (by first | (simp; done) | (simp; omega) | omega) _) | (with_reducible refine Below.trans ?_ (Below.mono (by assumption) (by first | (simp; done) | (simp; omega) | omega))) | (with_reducible refine Below.trans ?_ (Below.mono (Later.below _) (by first | (simp; done) | (simp; omega) | omega)))))⟩
    · rw [decide_eq_false h1] at he
      subst he
      go_enter Try.func64, Try.ntmps64
      go_wp2
      go_ret
      exact ⟨rfl, by (repeat (first | (with_reducible exact Below.refl _ _) | (with_reducible refine Below.drew ?_) | (with_reducible refine below_drewN ?_ _) | (with_reducible refine Below.setCell ?_ (by first | (simp; done) | (simp; omega) | omega) _) | (with_reducible refine Below.alloc ?_ (by first | (simp; done) | (simp; omega) | omega) _) | (with_reducible refine Below.trans ?_ (Below.mono (by assumption) (by first | (simp; done) | (simp; omega) | omega))) | (with_reducible refine Below.trans ?_ (Below.mono (Later.below _) (by first | (simp; done) | (simp; omega) | omega)))))⟩
  exact key _ rfl
theorem overlap_any (a0 a1 a2 a3 b0 b1 b2 b3 : Int) : Gives Try.prog 30 #[.agg #[.int .i64 a0, .int .i64 a1, .int .i64 a2, .int .i64 a3], .agg #[.int .i64 b0, .int .i64 b1, .int .i64 b2, .int .i64 b3]] (.bool (decide (a0 ≤ b2) && decide (b0 ≤ a2) && (decide (a1 ≤ b3) && decide (b1 ≤ a3)))) := by
  intro w
  have c1 := meet_any a0 a2 b0 b2
  have c2 := meet_any a1 a3 b1 b3
  generalize (decide (a0 ≤ b2) && decide (b0 ≤ a2)) = e at *
  generalize (decide (a1 ≤ b3) && decide (b1 ≤ a3)) = f at *
  have Hc1 := Lib.hid c1; have Hc2 := Lib.hid c2; clear c1 c2
  have hal := alloc_if; have hfal := allocF_if
  cases e
  · go_enter Try.func30, Try.ntmps30
    go_wp2_with (first | ((with_reducible refine (Hc1.out _).mono ?_); rintro e wA ⟨rfl, hbA⟩; obtain ⟨NA, hNA, hcA, hfA, hsA⟩ := bcell hbA; (try simp only [World.size_alloc, World.size_setCell, World.size_drew] at hNA)) | ((with_reducible refine (Hc2.out _).mono ?_); rintro e wB ⟨rfl, hbB⟩; obtain ⟨NB, hNB, hcB, hfB, hsB⟩ := bcell hbB; (try simp only [World.size_alloc, World.size_setCell, World.size_drew] at hNB)))
    go_ret
    exact ⟨rfl, by (repeat (first | (with_reducible exact Below.refl _ _) | (with_reducible refine Below.drew ?_) | (with_reducible refine below_drewN ?_ _) | (with_reducible refine Below.setCell ?_ (by first | (simp; done) | (simp; omega) | omega) _) | (with_reducible refine Below.alloc ?_ (by first | (simp; done) | (simp; omega) | omega) _) | (with_reducible refine Below.trans ?_ (Below.mono (by assumption) (by first | (simp; done) | (simp; omega) | omega))) | (with_reducible refine Below.trans ?_ (Below.mono (Later.below _) (by first | (simp; done) | (simp; omega) | omega)))))⟩
  · go_enter Try.func30, Try.ntmps30
    go_wp2_with (first | ((with_reducible refine (Hc1.out _).mono ?_); rintro e wA ⟨rfl, hbA⟩; obtain ⟨NA, hNA, hcA, hfA, hsA⟩ := bcell hbA; (try simp only [World.size_alloc, World.size_setCell, World.size_drew] at hNA)) | ((with_reducible refine (Hc2.out _).mono ?_); rintro e wB ⟨rfl, hbB⟩; obtain ⟨NB, hNB, hcB, hfB, hsB⟩ := bcell hbB; (try simp only [World.size_alloc, World.size_setCell, World.size_drew] at hNB)))
    go_ret
    exact ⟨rfl, by (repeat (first | (with_reducible exact Below.refl _ _) | (with_reducible refine Below.drew ?_) | (with_reducible refine below_drewN ?_ _) | (with_reducible refine Below.setCell ?_ (by first | (simp; done) | (simp; omega) | omega) _) | (with_reducible refine Below.alloc ?_ (by first | (simp; done) | (simp; omega) | omega) _) | (with_reducible refine Below.trans ?_ (Below.mono (by assumption) (by first | (simp; done) | (simp; omega) | omega))) | (with_reducible refine Below.trans ?_ (Below.mono (Later.below _) (by first | (simp; done) | (simp; omega) | omega)))))⟩
theorem cCircle_yes (r : Int) (a : Option Addr) (cap : Nat) : Gives Try.prog 80 #[.agg #[.int .i64 r, .slice a 0 cap]] (.bool true) := by
  intro w
  go_enter Try.func80, Try.ntmps80
  go_wp2
  go_ret
  exact ⟨rfl, by (repeat (first | (with_reducible exact Below.refl _ _) | (with_reducible refine Below.drew ?_) | (with_reducible refine below_drewN ?_ _) | (with_reducible refine Below.setCell ?_ (by first | (simp; done) | (simp; omega) | omega) _) | (with_reducible refine Below.alloc ?_ (by first | (simp; done) | (simp; omega) | omega) _) | (with_reducible refine Below.trans ?_ (Below.mono (by assumption) (by first | (simp; done) | (simp; omega) | omega))) | (with_reducible refine Below.trans ?_ (Below.mono (Later.below _) (by first | (simp; done) | (simp; omega) | omega)))))⟩
theorem cCircle_no (r : Int) (a : Option Addr) (len cap : Nat) (h : 1 ≤ len) (h2 : len ≤ 1000) : Gives Try.prog 80 #[.agg #[.int .i64 r, .slice a len cap]] (.bool false) := by
  intro w
  have hb : ((len : Int) == 0) = false := beq_eq_false_iff_ne.2 (by omega)
  go_enter Try.func80, Try.ntmps80
  go_wp2
  go_ret
  exact ⟨rfl, by (repeat (first | (with_reducible exact Below.refl _ _) | (with_reducible refine Below.drew ?_) | (with_reducible refine below_drewN ?_ _) | (with_reducible refine Below.setCell ?_ (by first | (simp; done) | (simp; omega) | omega) _) | (with_reducible refine Below.alloc ?_ (by first | (simp; done) | (simp; omega) | omega) _) | (with_reducible refine Below.trans ?_ (Below.mono (by assumption) (by first | (simp; done) | (simp; omega) | omega))) | (with_reducible refine Below.trans ?_ (Below.mono (Later.below _) (by first | (simp; done) | (simp; omega) | omega)))))⟩
section
variable {w : World} {ra : Int} {aa : Option Addr} {la ca : Nat} {za : List (Int × Int)} {rb : Int} {ab : Option Addr} {lb cb : Nat} {zb : List (Int × Int)}
theorem ph_eq {r : Int} {len : Nat} {zs : List (Int × Int)} (h : zs.length = len) (x y a b : Int) : phi r len zs x y a b = ph r zs x y (a, b) ∧ plo r len zs x y a b = pl r zs x y (a, b) := by
  subst h; exact ⟨rfl, rfl⟩
set_option maxHeartbeats 1000000 in
theorem depth_s (hA : ShAt w ra aa la ca za) (hB : ShAt w rb ab lb cb zb) (px py qx qy a b : Int) (hp : -10000000 ≤ px ∧ px ≤ 10000000 ∧ -10000000 ≤ py ∧ py ≤ 10000000) (hq : -10000000 ≤ qx ∧ qx ≤ 10000000 ∧ -10000000 ≤ qy ∧ qy ≤ 10000000) (hn : AxB (a, b)) (W : World) (hW : Below w.heap.size w W) :
    Calls Try.prog 51 #[.agg #[.int .i64 ra, .slice aa la ca], .agg #[.int .i64 px, .int .i64 py], .agg #[.int .i64 rb, .slice ab lb cb], .agg #[.int .i64 qx, .int .i64 qy], .agg #[.int .i64 a, .int .i64 b]] W fun e w' => e = .returned (.int .i64 (dpt ra za px py rb zb qx qy (a, b))) ∧ Below W.heap.size W w' := by
  obtain ⟨n1, n2, n3, n4⟩ := hn
  simp only at n1 n2 n3 n4
  have c1 := project_s hA px py a b (by omega) (by omega) (by omega) (by omega)
  have c2 := project_s hB qx qy a b (by omega) (by omega) (by omega) (by omega)
  have b1 := prj_bd hA px py a b (by omega) (by omega) (by omega) (by omega)
  have b2 := prj_bd hB qx qy a b (by omega) (by omega) (by omega) (by omega)
  obtain ⟨e1, e2⟩ := ph_eq (r := ra) hA.poly.len px py a b
  obtain ⟨e3, e4⟩ := ph_eq (r := rb) hB.poly.len qx qy a b
  rw [e1, e2] at c1 b1
  rw [e3, e4] at c2 b2
  unfold dpt
  generalize ph ra za px py (a, b) = h1 at *
  generalize pl ra za px py (a, b) = l1 at *
  generalize ph rb zb qx qy (a, b) = h2 at *
  generalize pl rb zb qx qy (a, b) = l2 at *
  have d1 := fun V (hV : Below W.heap.size W V) => c1 V (hW.trans (hV.mono hW.size))
  have d2 := fun V (hV : Below W.heap.size W V) => c2 V (hW.trans (hV.mono hW.size))
  obtain ⟨⟨b10, b11⟩, b12, b13⟩ := b1
  obtain ⟨⟨b20, b21⟩, b22, b23⟩ := b2
  have Hd1 := Lib.hid d1; have Hd2 := Lib.hid d2; clear d1 d2
  clear c1 c2 hA hB e1 e2 e3 e4 hW
  have hal := alloc_if; have hfal := allocF_if
  go_enter Try.func51, Try.ntmps51
  go_wp2_with (first | ((with_reducible refine (Hd1.out _ (by (repeat (first | (with_reducible exact Below.refl _ _) | (with_reducible refine Below.drew ?_) | (with_reducible refine below_drewN ?_ _) | (with_reducible refine Below.setCell ?_ (by first | (simp; done) | (simp; omega) | omega) _) | (with_reducible refine Below.alloc ?_ (by first | (simp; done) | (simp; omega) | omega) _) | (with_reducible refine Below.trans ?_ (Below.mono (by assumption) (by first | (simp; done) | (simp; omega) | omega))) | (with_reducible refine Below.trans ?_ (Below.mono (Later.below _) (by first | (simp; done) | (simp; omega) | omega))))))).mono ?_); rintro e wA ⟨rfl, hbA⟩; obtain ⟨NA, hNA, hcA, hfA, hsA⟩ := bcell hbA; (try simp only [World.size_alloc, World.size_setCell, World.size_drew] at hNA)) | ((with_reducible refine (Hd2.out _ (by (repeat (first | (with_reducible exact Below.refl _ _) | (with_reducible refine Below.drew ?_) | (with_reducible refine below_drewN ?_ _) | (with_reducible refine Below.setCell ?_ (by first | (simp; done) | (simp; omega) | omega) _) | (with_reducible refine Below.alloc ?_ (by first | (simp; done) | (simp; omega) | omega) _) | (with_reducible refine Below.trans ?_ (Below.mono (by assumption) (by first | (simp; done) | (simp; omega) | omega))) | (with_reducible refine Below.trans ?_ (Below.mono (Later.below _) (by first | (simp; done) | (simp; omega) | omega))))))).mono ?_); rintro e wB ⟨rfl, hbB⟩; obtain ⟨NB, hNB, hcB, hfB, hsB⟩ := bcell hbB; (try simp only [World.size_alloc, World.size_setCell, World.size_drew] at hNB)))
  go_ret
  exact ⟨rfl, by (repeat (first | (with_reducible exact Below.refl _ _) | (with_reducible refine Below.drew ?_) | (with_reducible refine below_drewN ?_ _) | (with_reducible refine Below.setCell ?_ (by first | (simp; done) | (simp; omega) | omega) _) | (with_reducible refine Below.alloc ?_ (by first | (simp; done) | (simp; omega) | omega) _) | (with_reducible refine Below.trans ?_ (Below.mono (by assumption) (by first | (simp; done) | (simp; omega) | omega))) | (with_reducible refine Below.trans ?_ (Below.mono (Later.below _) (by first | (simp; done) | (simp; omega) | omega)))))⟩
end
theorem toVertex1_any (x y ox oy : Int) (B : Nat) (w : World) (c0 : w.cell? ⟨B, 0, none⟩ = some (.int .i64 ox)) (c1 : w.cell? ⟨B, 1, none⟩ = some (.int .i64 oy)) (hx : -50000000 ≤ x ∧ x ≤ 50000000) (hy : -50000000 ≤ y ∧ y ≤ 50000000) (hox : -50000000 ≤ ox ∧ ox ≤ 50000000) (hoy : -50000000 ≤ oy ∧ oy ≤ 50000000) :
    Calls Try.prog 92 #[.agg #[.int .i64 x, .int .i64 y], .pointer (some ⟨B, 0, none⟩)] w fun e w' => e = .returned (.int .i64 ((ox + x) * (ox + x) + (oy + y) * (oy + y))) ∧ Below w.heap.size w w' := by
  have ca := add_any ox oy x y (by omega) (by omega) (by omega) (by omega)
  have l0 := World.block_lt_of_cell? w _ c0
  simp only at l0
  obtain ⟨u, hu⟩ : ∃ u, u = ox + x := ⟨_, rfl⟩
  obtain ⟨v, hv⟩ : ∃ v, v = oy + y := ⟨_, rfl⟩
  rw [← hu, ← hv] at ca ⊢
  have m1 := sq_bd (x := u) (by omega) (by omega)
  have m2 := sq_bd (x := v) (by omega) (by omega)
  have m3 := sq0 u
  have m4 := sq0 v
  clear hu hv hx hy hox hoy
  have Hca := Lib.hid ca; clear ca
  have hal := alloc_if; have hfal := allocF_if
  go_enter Try.func92, Try.ntmps92
  go_wp2_with (first | ((with_reducible refine (Hca.out _).mono ?_); rintro e wA ⟨rfl, hbA⟩; obtain ⟨NA, hNA, hcA, hfA, hsA⟩ := bcell hbA; (try simp only [World.size_alloc, World.size_setCell, World.size_drew] at hNA)))
  go_ret
  exact ⟨rfl, by (repeat (first | (with_reducible exact Below.refl _ _) | (with_reducible refine Below.drew ?_) | (with_reducible refine below_drewN ?_ _) | (with_reducible refine Below.setCell ?_ (by first | (simp; done) | (simp; omega) | omega) _) | (with_reducible refine Below.alloc ?_ (by first | (simp; done) | (simp; omega) | omega) _) | (with_reducible refine Below.trans ?_ (Below.mono (by assumption) (by first | (simp; done) | (simp; omega) | omega))) | (with_reducible refine Below.trans ?_ (Below.mono (Later.below _) (by first | (simp; done) | (simp; omega) | omega)))))⟩
set_option maxRecDepth 100000 in
set_option maxHeartbeats 2000000 in
theorem least_any (a : Option Addr) (len cap : Nat) (zs : List (Int × Int)) (ox oy : Int) (B : Nat) (w : World) (h : IsPoly w a len cap zs) (h1 : 2 ≤ len) (h2 : len ≤ 1000) (hz : Bd zs 32768) (c0 : w.cell? ⟨B, 0, none⟩ = some (.int .i64 ox)) (c1 : w.cell? ⟨B, 1, none⟩ = some (.int .i64 oy)) (hox : -40000000 ≤ ox ∧ ox ≤ 40000000) (hoy : -40000000 ≤ oy ∧ oy ≤ 40000000) :
    Calls Try.prog 91 #[.slice a len cap, .func (.func 92) #[] #[.pointer (some ⟨B, 0, none⟩)]] w fun e w' => e = .returned (.agg #[.int .i64 (vx zs (nri zs ox oy)), .int .i64 (vy zs (nri zs ox oy))]) ∧ Below w.heap.size w w' := by
  have hl := h.len
  rcases h with ⟨_, h0, _⟩ | ⟨b, o, rfl, hzl, hle, hcm, hcell⟩
  · omega
  unfold maxLen at hcm
  have lb := World.block_lt_of_cell? w _ (hcell 0 (by omega)).1
  have lB := World.block_lt_of_cell? w _ c0
  simp only at lb lB
  have cm : ∀ i W, Below w.heap.size w W → Calls Try.prog 92 #[.agg #[.int .i64 (vx zs i), .int .i64 (vy zs i)], .pointer (some ⟨B, 0, none⟩)] W fun e w' => e = .returned (.int .i64 (sqd zs ox oy i)) ∧ Below W.heap.size W w' := fun i W hW => by
    have bi := hz i
    exact toVertex1_any _ _ ox oy B W (cell_below hW c0) (cell_below hW c1) (by omega) (by omega) (by omega) (by omega)
  have q0 : w.cell? ⟨b, o, none⟩ = some (.int .i64 (vx zs 0)) := by have := (hcell 0 (by omega)).1; rwa [Nat.zero_mul, Nat.add_zero] at this
  have q1 : w.cell? ⟨b, o + 1, none⟩ = some (.int .i64 (vy zs 0)) := by have := (hcell 0 (by omega)).2; rwa [Nat.zero_mul, Nat.add_zero] at this
  have hl0 : (0 : Int) < (len : Int) := by omega
  have hcb : ((cap : Int) == 1) = false := beq_eq_false_iff_ne.2 (by omega)
  have hc1' : ¬ cap = 1 := by omega
  have cm0 := cm 0
  generalize hs0 : sqd zs ox oy 0 = s0 at *
  have Hcm0 := Lib.hid cm0; clear cm0
  have hal := alloc_if; have hfal := allocF_if
  go_enter Try.func91, Try.ntmps91
  go_upto_region 1 with (fail)
  refine Go.Proofs.Ytcgcapfppceggaa.Qm.wp_region_calm1 8 5 #[.int .i64 0, .int .i64 0] 29 rfl (by kernel_rfl) (by kernel_rfl) (fun o ho ev w => by have ho' := Option.some.inj ho; rw [← ho']; exact rfl) fun NL hL => ?_; obtain ⟨hNL, hlc, hlf⟩ := hL; (try simp only [World.size_alloc, World.size_setCell, World.size_drew] at hNL); simp only [List.take_succ_cons, List.take_zero, List.drop_succ_cons, List.drop_zero]
  repeat ((refine wpCalm_go (fun K hK => ?_); go_simp; (repeat (simp only [↓IntWalk.iteOmega]; (try go_simp)))); first | (refine hK _ ?_; clear hK K) | (apply Exists.intro; refine ⟨fun x => ?_, hK _ ?_⟩; (first | (with_reducible exact calm_call (Hcm0.out _ (by (repeat (first | exact Below.refl _ _ | (with_reducible refine Below.drew ?_) | (with_reducible refine below_drewN ?_ _) | (with_reducible refine Below.setCell ?_ (by first | (simp; done) | (simp; omega) | omega) _) | (with_reducible refine Below.alloc ?_ (by first | (simp; done) | (simp; omega) | omega) _) | (with_reducible refine Below.trans ?_ (Below.mono (by assumption) (by first | (simp; done) | (simp; omega) | omega))) | (with_reducible refine Below.trans ?_ (Below.mono (Later.below _) (by first | (simp; done) | (simp; omega) | omega))))))))); clear hK K))
  (refine wpCalm_nil ?_; intro b1 w1 hb1 hk1 hkf1 hkn1 hks1; (try simp only [World.size_alloc, World.size_setCell, World.size_drew] at hkn1); clear hlc hlf hNL NL; obtain ⟨N1, hN1, hc1, hf1, hs1⟩ := bcell hb1; (try simp only [World.size_alloc, World.size_setCell, World.size_drew] at hN1))
  have hst := setCell_if
  simp only [Act.put, List.setIfInBounds_toArray, List.set_cons_zero, List.set_cons_succ]
  go_upto_region 3 with (fail)
  refine name_world fun W1 hW1 => ?_
  obtain ⟨WA, hWA⟩ : ∃ WA, WA = w.alloc (.cells #[.int .i64 0, .int .i64 0] 29) := ⟨_, rfl⟩
  have hsA : WA.heap.size = w.heap.size + 1 := by rw [hWA]; simp
  have hwA : Below w.heap.size w WA := by rw [hWA]; (repeat (first | (with_reducible exact Below.refl _ _) | (with_reducible refine Below.drew ?_) | (with_reducible refine below_drewN ?_ _) | (with_reducible refine Below.setCell ?_ (by first | (simp; done) | (simp; omega) | omega) _) | (with_reducible refine Below.alloc ?_ (by first | (simp; done) | (simp; omega) | omega) _) | (with_reducible refine Below.trans ?_ (Below.mono (by assumption) (by first | (simp; done) | (simp; omega) | omega))) | (with_reducible refine Below.trans ?_ (Below.mono (Later.below _) (by first | (simp; done) | (simp; omega) | omega)))))
  have a0 : WA.cell? ⟨w.heap.size, 0, none⟩ = some (.int .i64 0) := by rw [hWA]; simp [alloc_if]
  have a1 : WA.cell? ⟨w.heap.size, 1, none⟩ = some (.int .i64 0) := by rw [hWA]; simp [alloc_if]
  have af : ∀ i, WA.frozen? ⟨w.heap.size, i, none⟩ = false := fun i => by rw [hWA]; simp [allocF_if]
  have hb1' : Below WA.heap.size WA w1 := by rw [hWA]; exact hb1
  have hBase : Below WA.heap.size WA W1 := by rw [hW1]; exact (hb1'.setCell (p := ⟨b1, 0, none⟩) (by simp; omega) _).setCell (p := ⟨b1, 1, none⟩) (by simp; omega) _
  have k0 : W1.cell? ⟨b1, 0, none⟩ = some (.int .i64 (vx zs 0)) := by rw [hW1]; simp [setCell_if, hk1]
  have k1 : W1.cell? ⟨b1, 1, none⟩ = some (.int .i64 (vy zs 0)) := by rw [hW1]; simp [setCell_if, hk1]
  have kf : ∀ i, W1.frozen? ⟨b1, i, none⟩ = false := fun i => by rw [hW1]; simp [hkf1]
  have lb1 := World.block_lt_of_cell? _ _ k0
  simp only at lb1
  clear hW1 hWA hb1 hb1' hk1 hkf1 hc1 hf1 hN1 hs1 hst hal hfal Hcm0
  obtain ⟨g, hg⟩ : ∃ g, g = sqd zs ox oy := ⟨_, rfl⟩
  have cm2 : ∀ i W, Below w.heap.size w W → Calls Try.prog 92 #[.agg #[.int .i64 (vx zs i), .int .i64 (vy zs i)], .pointer (some ⟨B, 0, none⟩)] W fun e w' => e = .returned (.int .i64 (g i)) ∧ Below W.heap.size W w' := fun i W hW => by rw [hg]; exact cm i W hW
  have hs0' : s0 = g (argl g 0) := by rw [hg]; exact hs0.symm
  have Hg := Lib.hid hg
  have Hcm2 := Lib.hid cm2
  have HS0 := Lib.hid hs0'
  clear hg cm cm2 hs0 hs0'
  go_loopw [6, 21] (fun s i wr => ∃ k : Nat, k ≤ len - 1 ∧ i = .int .i64 k ∧ s = .int .i64 (g (argl g k)) ∧ Below WA.heap.size WA wr ∧ b1 < wr.heap.size ∧ wr.cell? ⟨b1, 0, none⟩ = some (.int .i64 (vx zs (argl g k))) ∧ wr.cell? ⟨b1, 1, none⟩ = some (.int .i64 (vy zs (argl g k))) ∧ ∀ i, wr.frozen? ⟨b1, i, none⟩ = false) (fun _ i _ => len - 1 - (intOf i).toNat)
  case atStart => exact ⟨0, Nat.zero_le _, rfl, by rw [HS0.out], hBase, lb1, k0, k1, kf⟩
  case round =>
    obtain ⟨k, hk, rfl, rfl, hB, lB1, r0, r1, rf⟩ := hrel
    have hws := hB.size
    by_cases hlt : k < len - 1
    · have hbw : Below w.heap.size w wr := hwA.trans (hB.mono (by omega))
      have v0 : wr.cell? ⟨b, o + 2 + k * 2, none⟩ = some (.int .i64 (vx zs (k + 1))) := by
        have := cell_below hbw (hcell (k + 1) (by omega)).1
        rwa [show o + (k + 1) * 2 = o + 2 + k * 2 by omega] at this
      have v1 : wr.cell? ⟨b, o + 2 + k * 2 + 1, none⟩ = some (.int .i64 (vy zs (k + 1))) := by
        have := cell_below hbw (hcell (k + 1) (by omega)).2
        rwa [show o + (k + 1) * 2 + 1 = o + 2 + k * 2 + 1 by omega] at this
      have cm3 := fun W (hW : Below wr.heap.size wr W) => Hcm2.out (k + 1) W (hbw.trans (hW.mono hbw.size))
      have hsuc : argl g (k + 1) = if g (k + 1) < g (argl g k) then k + 1 else argl g k := rfl
      have hlI : (k : Int) < ((len - 1 : Nat) : Int) := by omega
      have hk0 : (0 : Int) ≤ (k : Int) := by omega
      have hcl : len - 1 ≤ cap - 1 := by omega
      have Hr0 := Lib.hid r0
      have Hr1 := Lib.hid r1
      have Hrf := Lib.hid rf
      have HB := Lib.hid hB
      generalize hxn : vx zs (k + 1) = xn at *
      generalize hyn : vy zs (k + 1) = yn at *
      generalize hgn : g (k + 1) = gn at *
      generalize hgo : g (argl g k) = go at *
      have Hxn := Lib.hid hxn
      have Hyn := Lib.hid hyn
      have Hgn := Lib.hid hgn
      have Hgo := Lib.hid hgo
      have Hsuc := Lib.hid hsuc
      have Hcm3 := Lib.hid cm3; clear cm3
      clear hxn hyn hgn hgo hsuc hB hbw
      have hal := alloc_if; have hfal := allocF_if
      by_cases hc : gn < go
      · go_wp2_with (first | ((with_reducible refine (Hcm3.out _ (by (repeat (first | (with_reducible exact Below.refl _ _) | (with_reducible refine Below.drew ?_) | (with_reducible refine below_drewN ?_ _) | (with_reducible refine Below.setCell ?_ (by first | (simp; done) | (simp; omega) | omega) _) | (with_reducible refine Below.alloc ?_ (by first | (simp; done) | (simp; omega) | omega) _) | (with_reducible refine Below.trans ?_ (Below.mono (by assumption) (by first | (simp; done) | (simp; omega) | omega))) | (with_reducible refine Below.trans ?_ (Below.mono (Later.below _) (by first | (simp; done) | (simp; omega) | omega))))))).mono ?_); rintro e wA ⟨rfl, hbA⟩; obtain ⟨NA, hNA, hcA, hfA, hsA⟩ := bcell hbA; (try simp only [World.size_alloc, World.size_setCell, World.size_drew] at hNA)))
        have hAr : Below wr.heap.size wr wA := by (repeat (first | (with_reducible exact Below.refl _ _) | (with_reducible refine Below.drew ?_) | (with_reducible refine below_drewN ?_ _) | (with_reducible refine Below.setCell ?_ (by first | (simp; done) | (simp; omega) | omega) _) | (with_reducible refine Below.alloc ?_ (by first | (simp; done) | (simp; omega) | omega) _) | (with_reducible refine Below.trans ?_ (Below.mono (by assumption) (by first | (simp; done) | (simp; omega) | omega))) | (with_reducible refine Below.trans ?_ (Below.mono (Later.below _) (by first | (simp; done) | (simp; omega) | omega)))))
        have hBA : Below WA.heap.size WA wA := HB.out.trans (hAr.mono hws)
        have s0c : wA.cell? ⟨b1, 0, none⟩ = some (.int .i64 (vx zs (argl g k))) := cell_below hAr Hr0.out
        have s1c : wA.cell? ⟨b1, 1, none⟩ = some (.int .i64 (vy zs (argl g k))) := cell_below hAr Hr1.out
        have sfc : ∀ i, wA.frozen? ⟨b1, i, none⟩ = false := fun i => (hAr.frozen (p := ⟨b1, i, none⟩) lB1).trans (Hrf.out i)
        go_roundw
        case rel =>
          refine ⟨k + 1, by omega, by go_num, ?_, (hBA.setCell (p := ⟨b1, 0, none⟩) (by simp; omega) _).setCell (p := ⟨b1, 1, none⟩) (by simp; omega) _, ?_, ?_, ?_, fun i => ?_⟩
          · rw [Hsuc.out, if_pos hc, Hgn.out]
          · have := hAr.size; simp; omega
          · rw [Hsuc.out, if_pos hc, Hxn.out]; simp [setCell_if, s0c]
          · rw [Hsuc.out, if_pos hc, Hyn.out]; simp [setCell_if, s1c]
          · simp [sfc]
        case measure => simp [intOf]; omega
      · go_wp2_with (first | ((with_reducible refine (Hcm3.out _ (by (repeat (first | (with_reducible exact Below.refl _ _) | (with_reducible refine Below.drew ?_) | (with_reducible refine below_drewN ?_ _) | (with_reducible refine Below.setCell ?_ (by first | (simp; done) | (simp; omega) | omega) _) | (with_reducible refine Below.alloc ?_ (by first | (simp; done) | (simp; omega) | omega) _) | (with_reducible refine Below.trans ?_ (Below.mono (by assumption) (by first | (simp; done) | (simp; omega) | omega))) | (with_reducible refine Below.trans ?_ (Below.mono (Later.below _) (by first | (simp; done) | (simp; omega) | omega))))))).mono ?_); rintro e wA ⟨rfl, hbA⟩; obtain ⟨NA, hNA, hcA, hfA, hsA⟩ := bcell hbA; (try simp only [World.size_alloc, World.size_setCell, World.size_drew] at hNA)))
        have hAr : Below wr.heap.size wr wA := by (repeat (first | (with_reducible exact Below.refl _ _) | (with_reducible refine Below.drew ?_) | (with_reducible refine below_drewN ?_ _) | (with_reducible refine Below.setCell ?_ (by first | (simp; done) | (simp; omega) | omega) _) | (with_reducible refine Below.alloc ?_ (by first | (simp; done) | (simp; omega) | omega) _) | (with_reducible refine Below.trans ?_ (Below.mono (by assumption) (by first | (simp; done) | (simp; omega) | omega))) | (with_reducible refine Below.trans ?_ (Below.mono (Later.below _) (by first | (simp; done) | (simp; omega) | omega)))))
        have hcn : ¬ gn < go := by omega
        go_roundw
        case rel => exact ⟨k + 1, by omega, by go_num, by rw [Hsuc.out, if_neg hcn, Hgo.out], HB.out.trans (hAr.mono hws), by have := hAr.size; omega, by rw [Hsuc.out, if_neg hcn]; exact cell_below hAr Hr0.out, by rw [Hsuc.out, if_neg hcn]; exact cell_below hAr Hr1.out, fun i => (hAr.frozen (p := ⟨b1, i, none⟩) lB1).trans (Hrf.out i)⟩
        case measure => simp [intOf]; omega
    · obtain rfl : k = len - 1 := by omega
      have e0 := cell_below hB a0
      have e1 := cell_below hB a1
      have ef : ∀ i, wr.frozen? ⟨w.heap.size, i, none⟩ = false := fun i => (hB.frozen (p := ⟨w.heap.size, i, none⟩) (by simp; omega)).trans (af i)
      have hnr : nri zs ox oy = argl g (len - 1) := by unfold nri; rw [Hg.out, hl]
      rw [← hnr] at r0 r1 ⊢
      obtain ⟨X, hX⟩ : ∃ X, X = vx zs (nri zs ox oy) := ⟨_, rfl⟩
      obtain ⟨Y, hY⟩ : ∃ Y, Y = vy zs (nri zs ox oy) := ⟨_, rfl⟩
      rw [← hX] at r0
      rw [← hY] at r1
      have HX := Lib.hid hX
      have HY := Lib.hid hY
      have hst := setCell_if
      have hne : ¬ w.heap.size = b1 := by omega
      clear hnr hX hY
      go_wp2
      refine bodyPost_ret (v := .agg #[.int .i64 X, .int .i64 Y]) (by simp [results, Try.results91, go_sem, hst, r0, r1, e0, e1, hne]) rfl ⟨by rw [HX.out, HY.out], ?_⟩
      exact ((hwA.trans (hB.mono (by omega))).setCell (p := ⟨w.heap.size, 0, none⟩) (Nat.le_refl _) _).setCell (p := ⟨w.heap.size, 1, none⟩) (Nat.le_refl _) _
theorem near_bd {zs : List (Int × Int)} (hz : Bd zs 32768) (ox oy : Int) : (ox - 32768 ≤ tvx zs ox oy ∧ tvx zs ox oy ≤ ox + 32768) ∧ oy - 32768 ≤ tvy zs ox oy ∧ tvy zs ox oy ≤ oy + 32768 := by
  have := hz (nri zs ox oy)
  unfold tvx tvy
  omega
set_option maxHeartbeats 1000000 in
theorem toVertex_s {w : World} {r : Int} {a : Option Addr} {len cap : Nat} {zs : List (Int × Int)} (h : ShAt w r a len cap zs) (h1 : 1 ≤ len) (cx cy px py : Int) (hx : -30000000 ≤ px - cx ∧ px - cx ≤ 30000000) (hy : -30000000 ≤ py - cy ∧ py - cy ≤ 30000000) (W : World) (hW : Below w.heap.size w W) :
    Calls Try.prog 81 #[.agg #[.int .i64 cx, .int .i64 cy], .agg #[.int .i64 r, .slice a len cap], .agg #[.int .i64 px, .int .i64 py]] W fun e w' => e = .returned (.agg #[.int .i64 (tvx zs (px - cx) (py - cy)), .int .i64 (tvy zs (px - cx) (py - cy))]) ∧ Below W.heap.size W w' := by
  have g := h.later hW
  rcases g.kind with ⟨h0, _⟩ | ⟨_, h3, h6, hz, _⟩
  · omega
  have cs := sub_any px py cx cy (by omega) (by omega) (by omega) (by omega)
  have ca : ∀ x y, Gives Try.prog 36 #[.agg #[.int .i64 (px - cx), .int .i64 (py - cy)], .agg #[.int .i64 (vx zs x), .int .i64 (vy zs y)]] (.agg #[.int .i64 (px - cx + vx zs x), .int .i64 (py - cy + vy zs y)]) := fun x y => by
    have bx := hz x
    have by' := hz y
    exact add_any _ _ _ _ (by omega) (by omega) (by omega) (by omega)
  have cl : ∀ V B, Below W.heap.size W V → V.cell? ⟨B, 0, none⟩ = some (.int .i64 (px - cx)) → V.cell? ⟨B, 1, none⟩ = some (.int .i64 (py - cy)) → Calls Try.prog 91 #[.slice a len cap, .func (.func 92) #[] #[.pointer (some ⟨B, 0, none⟩)]] V fun e w' => e = .returned (.agg #[.int .i64 (vx zs (nri zs (px - cx) (py - cy))), .int .i64 (vy zs (nri zs (px - cx) (py - cy)))]) ∧ Below V.heap.size V w' :=
    fun V B hV c0 c1 => least_any a len cap zs (px - cx) (py - cy) B V (g.poly.later hV) (by omega) (by omega) hz c0 c1 (by omega) (by omega)
  have caN := ca (nri zs (px - cx) (py - cy)) (nri zs (px - cx) (py - cy))
  unfold tvx tvy
  generalize nri zs (px - cx) (py - cy) = j at *
  generalize vx zs j = X at *
  generalize vy zs j = Y at *
  generalize px - cx = ox at *
  generalize py - cy = oy at *
  have Hcs := Lib.hid cs; have HcaN := Lib.hid caN; have Hcl := Lib.hid cl; clear cs caN cl
  clear g h hz ca hW
  have hal := alloc_if; have hfal := allocF_if
  have hst := setCell_if
  go_enter Try.func81, Try.ntmps81
  go_wp2_with (first | ((with_reducible refine (Hcs.out _).mono ?_); rintro e wA ⟨rfl, hbA⟩; obtain ⟨NA, hNA, hcA, hfA, hsA⟩ := bcell hbA; (try simp only [World.size_alloc, World.size_setCell, World.size_drew] at hNA)) | ((with_reducible refine (Hcl.out _ _ (by (repeat (first | (with_reducible exact Below.refl _ _) | (with_reducible refine Below.drew ?_) | (with_reducible refine below_drewN ?_ _) | (with_reducible refine Below.setCell ?_ (by first | (simp; done) | (simp; omega) | omega) _) | (with_reducible refine Below.alloc ?_ (by first | (simp; done) | (simp; omega) | omega) _) | (with_reducible refine Below.trans ?_ (Below.mono (by assumption) (by first | (simp; done) | (simp; omega) | omega))) | (with_reducible refine Below.trans ?_ (Below.mono (Later.below _) (by first | (simp; done) | (simp; omega) | omega)))))) (by simp [hcA, alloc_if, ↓IntWalk.iteOmega]) (by simp [hcA, alloc_if, ↓IntWalk.iteOmega])).mono ?_); rintro e wB ⟨rfl, hbB⟩; obtain ⟨NB, hNB, hcB, hfB, hsB⟩ := bcell hbB; (try simp only [World.size_alloc, World.size_setCell, World.size_drew] at hNB)) | ((with_reducible refine (HcaN.out _).mono ?_); rintro e wC ⟨rfl, hbC⟩; obtain ⟨NC, hNC, hcC, hfC, hsC⟩ := bcell hbC; (try simp only [World.size_alloc, World.size_setCell, World.size_drew] at hNC)))
  refine bodyPost_ret (v := .agg #[.int .i64 (ox + X), .int .i64 (oy + Y)]) (by simp [results, Try.results81, go_sem, hst, hcA, hcB, hcC, alloc_if, ↓IntWalk.iteOmega]) rfl ⟨rfl, ?_⟩
  (repeat (first | (with_reducible exact Below.refl _ _) | (with_reducible refine Below.drew ?_) | (with_reducible refine below_drewN ?_ _) | (with_reducible refine Below.setCell ?_ (by first | (simp; done) | (simp; omega) | omega) _) | (with_reducible refine Below.alloc ?_ (by first | (simp; done) | (simp; omega) | omega) _) | (with_reducible refine Below.trans ?_ (Below.mono (by assumption) (by first | (simp; done) | (simp; omega) | omega))) | (with_reducible refine Below.trans ?_ (Below.mono (Later.below _) (by first | (simp; done) | (simp; omega) | omega)))))
end Go.Proofs.Ytcgcapfppceggaa.Co
