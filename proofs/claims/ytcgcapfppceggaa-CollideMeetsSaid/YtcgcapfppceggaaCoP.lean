/-
  Plain law: two shapes without short edges that both cover a point and the four points at a distance of 4096 from it collide.
  Conditions: stated in each law.
-/
import Derived.Test.YtcgcapfppceggaaCoN
import Derived.Test.YtcgcapfppceggaaCoL
namespace Go.Proofs.Ytcgcapfppceggaa.Co
open Go.RowKit Go.Proofs.Ytcgcapfppceggaa.FxMath Go.Proofs.Ytcgcapfppceggaa.FxA Go.Proofs.Ytcgcapfppceggaa.Ve Go.Proofs.Ytcgcapfppceggaa.Sh
set_option linter.unusedVariables false
set_option linter.unusedSimpArgs false
/-- No edge is short. -/
def lgE (zs : List (Int × Int)) (i : Nat) : Bool := decide (1024 ≤ max (max (vx zs ((i + 1) % zs.length) - vx zs i) (-(vx zs ((i + 1) % zs.length) - vx zs i))) (max (vy zs ((i + 1) % zs.length) - vy zs i) (-(vy zs ((i + 1) % zs.length) - vy zs i))))
def lng (zs : List (Int × Int)) : Bool := (List.range zs.length).all (lgE zs)
/-- A point and its four neighbours. -/
structure Cov5 (r : Int) (len : Nat) (zs : List (Int × Int)) (P Q : Int) : Prop where
  c0 : sct r len zs P Q = true
  c1 : sct r len zs (P + 4096) Q = true
  c2 : sct r len zs (P - 4096) Q = true
  c3 : sct r len zs P (Q + 4096) = true
  c4 : sct r len zs P (Q - 4096) = true
section
variable {w : World} {r : Int} {a : Option Addr} {len cap : Nat} {zs : List (Int × Int)}
theorem circle_far {r P Q u v : Int} (h1 : 0 ≤ r) (h2 : r ≤ 32768) (hp : (P + 4096) * (P + 4096) + Q * Q ≤ r * r) (hm : (P - 4096) * (P - 4096) + Q * Q ≤ r * r) (hn : u * u + v * v ≤ 1054728) :
    -(1024 * (r - 2)) ≤ P * u + Q * v ∧ P * u + Q * v ≤ 1024 * (r - 2) ∧ 4096 ≤ r := by
  have e1 : (P + 4096) * (P + 4096) = P * P + 8192 * P + 16777216 := by grind
  have e2 : (P - 4096) * (P - 4096) = P * P - 8192 * P + 16777216 := by grind
  rw [e1] at hp
  rw [e2] at hm
  have sp := sq0 P
  have sq := sq0 Q
  have su := sq0 u
  have sv := sq0 v
  have hR := (mul_bd (a := r) (b := r) (A := 32768) (B := 32768) (by omega) (by omega) (by omega) (by omega)).2
  have hr : 4096 ≤ r := by
    have : 4095 < r := lt_of_sq (by omega) (by omega)
    omega
  have hs : (P * P + Q * Q) * (u * u + v * v) ≤ (r * r - 16777216) * 1054728 := Int.mul_le_mul (by omega) hn (by omega) (by omega)
  have hd := sq0 (P * v - Q * u)
  have e3 : (P * u + Q * v) * (P * u + Q * v) + (P * v - Q * u) * (P * v - Q * u) = (P * P + Q * Q) * (u * u + v * v) := by grind
  have e4 : (1024 * (r - 2) + 1) * (1024 * (r - 2) + 1) = 1048576 * (r * r) - 4194304 * r + 4194304 + 2048 * r - 4096 + 1 := by grind
  have key : (P * u + Q * v) * (P * u + Q * v) < (1024 * (r - 2) + 1) * (1024 * (r - 2) + 1) := by
    rw [e4]
    omega
  have a1 : P * u + Q * v < 1024 * (r - 2) + 1 := lt_of_sq (by omega) key
  have a2 : -(P * u + Q * v) < 1024 * (r - 2) + 1 := lt_of_sq (by omega) (by rw [Int.neg_mul_neg]; exact key)
  omega
theorem margin (h : ShAt w r a len cap zs) (x y P Q u v : Int) (hn : ¬ (u = 0 ∧ v = 0)) (hax : len = 0 → u * u + v * v ≤ 1054728) (hc : Cov5 r len zs P Q) :
    plo r len zs x y u v + 1 ≤ ((x + P) * u + (y + Q) * v) / 1024 ∧ ((x + P) * u + (y + Q) * v) / 1024 + 1 ≤ phi r len zs x y u v := by
  obtain ⟨c0, c1, c2, c3, c4⟩ := hc
  by_cases h0 : len = 0
  · have hax2 := hax h0
    subst h0
    rcases h.kind with ⟨_, _, _, _, h1, h2⟩ | ⟨_, h1, _⟩
    · unfold sct at c1 c2
      simp only [if_true, decide_eq_true_eq] at c1 c2
      obtain ⟨f1, f2, f3⟩ := circle_far (by omega) h2 c1 c2 hax2
      unfold plo phi
      simp only [if_true]
      have e : (x + P) * u + (y + Q) * v = (x * u + y * v) + (P * u + Q * v) := by grind
      rw [e]
      generalize x * u + y * v = s at *
      generalize P * u + Q * v = t at *
      omega
    · omega
  · have s1 := sct_prj h x y _ _ u v (.inr (by omega)) c1
    have s2 := sct_prj h x y _ _ u v (.inr (by omega)) c2
    have s3 := sct_prj h x y _ _ u v (.inr (by omega)) c3
    have s4 := sct_prj h x y _ _ u v (.inr (by omega)) c4
    have e1 : (x + (P + 4096)) * u + (y + Q) * v = ((x + P) * u + (y + Q) * v) + 1024 * (4 * u) := by grind
    have e2 : (x + (P - 4096)) * u + (y + Q) * v = ((x + P) * u + (y + Q) * v) - 1024 * (4 * u) := by grind
    have e3 : (x + P) * u + (y + (Q + 4096)) * v = ((x + P) * u + (y + Q) * v) + 1024 * (4 * v) := by grind
    have e4 : (x + P) * u + (y + (Q - 4096)) * v = ((x + P) * u + (y + Q) * v) - 1024 * (4 * v) := by grind
    rw [e1] at s1
    rw [e2] at s2
    rw [e3] at s3
    rw [e4] at s4
    generalize (x + P) * u + (y + Q) * v = s at *
    clear e1 e2 e3 e4 h hax c0 c1 c2 c3 c4
    omega
/-- A vertex lies within the projection. -/
theorem vertex_in (h : ShAt w r a len cap zs) (i : Nat) (hi : i < len) (x y u v : Int) :
    plo r len zs x y u v ≤ ((x + vx zs i) * u + (y + vy zs i) * v) / 1024 ∧ ((x + vx zs i) * u + (y + vy zs i) * v) / 1024 ≤ phi r len zs x y u v := by
  unfold plo phi
  rw [if_neg (by omega), if_neg (by omega)]
  exact ⟨mnTo_le (prj zs x y u v) (len - 1) i (by omega), le_mxTo (prj zs x y u v) (len - 1) i (by omega)⟩
theorem near_dot {x y u v : Int} (hx : -1024 ≤ x ∧ x ≤ 1024) (hy : -1024 ≤ y ∧ y ≤ 1024) (hu : -1024 ≤ u ∧ u ≤ 1024) (hv : -1024 ≤ v ∧ v ≤ 1024) : -2097152 ≤ x * u + y * v ∧ x * u + y * v ≤ 2097152 := by
  have m1 := mul_bd (a := x) (b := u) (A := 1024) (B := 1024) hx.1 hx.2 hu.1 hu.2
  have m2 := mul_bd (a := y) (b := v) (A := 1024) (B := 1024) hy.1 hy.2 hv.1 hv.2
  omega
theorem circle_big (h : ShAt w r a len cap zs) (h0 : len = 0) {P Q : Int} (hc : Cov5 r len zs P Q) : 4096 ≤ r := by
  subst h0
  rcases h.kind with ⟨_, _, _, _, h1, h2⟩ | ⟨_, h1, _⟩
  · have c1 := hc.c1
    have c2 := hc.c2
    unfold sct at c1 c2
    simp only [if_true, decide_eq_true_eq] at c1 c2
    exact (circle_far (u := 0) (v := 0) (by omega) h2 c1 c2 (by omega)).2.2
  · omega
end
section
variable {w : World} {ra : Int} {aa : Option Addr} {la ca : Nat} {za : List (Int × Int)} {rb : Int} {ab : Option Addr} {lb cb : Nat} {zb : List (Int × Int)}
theorem dpt_margin (hA : ShAt w ra aa la ca za) (hB : ShAt w rb ab lb cb zb) (px py qx qy P Q u v : Int) (hn : ¬ (u = 0 ∧ v = 0)) (hax : u * u + v * v ≤ 1054728)
    (cA : Cov5 ra la za (P - px) (Q - py)) (cB : Cov5 rb lb zb (P - qx) (Q - qy)) : 0 < dpt ra za px py rb zb qx qy (u, v) := by
  have m1 := margin hA px py _ _ u v hn (fun _ => hax) cA
  have m2 := margin hB qx qy _ _ u v hn (fun _ => hax) cB
  rw [show px + (P - px) = P by omega, show py + (Q - py) = Q by omega] at m1
  rw [show qx + (P - qx) = P by omega, show qy + (Q - qy) = Q by omega] at m2
  unfold dpt pl ph
  have e1 := hA.poly.len
  have e2 := hB.poly.len
  rw [e1, e2]
  simp only
  omega
/-- An edge that is not short has an axis of good length. -/
theorem edge_good {zs : List (Int × Int)} (hl : lng zs = true) {i : Nat} (hi : i < zs.length) : edx zs i * edx zs i + edy zs i * edy zs i ≤ 1054728 ∧ ¬ (edx zs i = 0 ∧ edy zs i = 0) := by
  have h := List.all_eq_true.1 hl i (List.mem_range.2 hi)
  unfold lgE at h
  rw [decide_eq_true_eq] at h
  unfold edx edy
  refine ⟨?_, un_ne _ _⟩
  have b1 := abs_le_isq (vy zs ((i + 1) % zs.length) - vy zs i) (vx zs i - vx zs ((i + 1) % zs.length))
  have b2 := abs_le_isq (vx zs i - vx zs ((i + 1) % zs.length)) (vy zs ((i + 1) % zs.length) - vy zs i)
  rw [Int.add_comm ((vx zs i - vx zs ((i + 1) % zs.length)) * _)] at b2
  exact (axis_good rfl (by omega)).2.2
theorem poly_dpt (hA : ShAt w ra aa la ca za) (px py P Q u v : Int) (h0 : 0 < la) (hn : ¬ (u = 0 ∧ v = 0)) (cA : Cov5 ra la za (P - px) (Q - py)) : plo ra la za px py u v < phi ra la za px py u v := by
  have := margin hA px py _ _ u v hn (fun h => by omega) cA
  omega
/-- A circle and a point near its center that the other shape's projection covers. -/
theorem near_circle (hA : ShAt w ra aa la ca za) (h0 : la = 0) (px py x y u v : Int) (hr : 4096 ≤ ra) (hx : -1024 ≤ x ∧ x ≤ 1024) (hy : -1024 ≤ y ∧ y ≤ 1024) (hu : -1024 ≤ u ∧ u ≤ 1024) (hv : -1024 ≤ v ∧ v ≤ 1024) :
    ((px + x) * u + (py + y) * v) / 1024 < phi ra la za px py u v ∧ plo ra la za px py u v < ((px + x) * u + (py + y) * v) / 1024 ∧ plo ra la za px py u v < phi ra la za px py u v := by
  subst h0
  unfold plo phi
  simp only [if_true]
  have nd := near_dot hx hy hu hv
  have e : (px + x) * u + (py + y) * v = (px * u + py * v) + (x * u + y * v) := by grind
  rw [e]
  generalize px * u + py * v = s at *
  generalize x * u + y * v = t at *
  omega
/-- The axis from a circle's center to a vertex. -/
theorem vertex_axis (hA : ShAt w ra aa la ca za) (hB : ShAt w rb ab lb cb zb) (h0 : la = 0) (h1 : 0 < lb) (px py qx qy P Q : Int)
    (cA : Cov5 ra la za (P - px) (Q - py)) (cB : Cov5 rb lb zb (P - qx) (Q - qy)) (tx ty : Int) (htx : tx = tvx zb (qx - px) (qy - py)) (hty : ty = tvy zb (qx - px) (qy - py)) :
    0 < dpt ra za px py rb zb qx qy (unx tx ty, uny tx ty) := by
  by_cases hl : 1024 ≤ isq (tx * tx + ty * ty)
  · exact dpt_margin hA hB px py qx qy P Q _ _ (un_ne _ _) (axis_good rfl hl).2.2 cA cB
  · have b1 := abs_le_isq tx ty
    have b2 := abs_le_isq ty tx
    rw [Int.add_comm (ty * ty)] at b2
    have bu := un_bd tx ty
    have hz : zb.length = lb := hB.poly.len.symm ▸ rfl
    have hi : nri zb (qx - px) (qy - py) < lb := by
      have := argl_le (sqd zb (qx - px) (qy - py)) (zb.length - 1)
      unfold nri
      omega
    have vi := vertex_in hB _ hi qx qy (unx tx ty) (uny tx ty)
    have pd := poly_dpt hB qx qy P Q (unx tx ty) (uny tx ty) h1 (un_ne _ _) cB
    have nc := near_circle hA h0 px py tx ty (unx tx ty) (uny tx ty) (circle_big hA h0 cA) (by omega) (by omega) bu.1 bu.2
    unfold tvx at htx
    unfold tvy at hty
    rw [show qx + vx zb (nri zb (qx - px) (qy - py)) = px + tx by omega, show qy + vy zb (nri zb (qx - px) (qy - py)) = py + ty by omega] at vi
    unfold dpt pl ph
    have e1 := hA.poly.len
    have e2 := hB.poly.len
    rw [e1, e2]
    simp only
    omega
theorem circles_axis (hA : ShAt w ra aa la ca za) (hB : ShAt w rb ab lb cb zb) (h0 : la = 0) (h1 : lb = 0) (px py qx qy P Q : Int)
    (cA : Cov5 ra la za (P - px) (Q - py)) (cB : Cov5 rb lb zb (P - qx) (Q - qy)) :
    0 < dpt ra za px py rb zb qx qy (unx (qx - px) (qy - py), uny (qx - px) (qy - py)) := by
  by_cases hl : 1024 ≤ isq ((qx - px) * (qx - px) + (qy - py) * (qy - py))
  · exact dpt_margin hA hB px py qx qy P Q _ _ (un_ne _ _) (axis_good rfl hl).2.2 cA cB
  · have b1 := abs_le_isq (qx - px) (qy - py)
    have b2 := abs_le_isq (qy - py) (qx - px)
    rw [Int.add_comm ((qy - py) * (qy - py))] at b2
    have bu := un_bd (qx - px) (qy - py)
    have nc := near_circle hA h0 px py (qx - px) (qy - py) (unx (qx - px) (qy - py)) (uny (qx - px) (qy - py)) (circle_big hA h0 cA) (by omega) (by omega) bu.1 bu.2
    have hr := circle_big hB h1 cB
    rw [show px + (qx - px) = qx by omega, show py + (qy - py) = qy by omega] at nc
    have f : plo rb lb zb qx qy (unx (qx - px) (qy - py)) (uny (qx - px) (qy - py)) < (qx * unx (qx - px) (qy - py) + qy * uny (qx - px) (qy - py)) / 1024 ∧ (qx * unx (qx - px) (qy - py) + qy * uny (qx - px) (qy - py)) / 1024 < phi rb lb zb qx qy (unx (qx - px) (qy - py)) (uny (qx - px) (qy - py)) := by
      unfold plo phi
      simp only [h1, if_true]
      omega
    unfold dpt pl ph
    have e1 := hA.poly.len
    have e2 := hB.poly.len
    rw [e1, e2]
    simp only
    omega
theorem meets_law (hA : ShAt w ra aa la ca za) (hB : ShAt w rb ab lb cb zb) (lA : lng za = true) (lB : lng zb = true) (px py qx qy P Q : Int)
    (cA : Cov5 ra la za (P - px) (Q - py)) (cB : Cov5 rb lb zb (P - qx) (Q - qy)) : cis ra za px py rb zb qx qy = true := by
  have e1 := hA.poly.len
  have e2 := hB.poly.len
  unfold cis
  rw [Bool.and_eq_true]
  constructor
  · have bA := sct_box hA px py _ _ cA.c0
    have bB := sct_box hB qx qy _ _ cB.c0
    unfold ovl
    rw [e1, e2]
    simp only [Bool.and_eq_true, decide_eq_true_eq]
    omega
  · rw [List.all_eq_true]
    intro n hn
    rw [decide_eq_true_eq]
    unfold axs at hn
    rcases List.mem_append.1 hn with h | h
    · obtain ⟨i, hi, rfl⟩ := (mem_eax za n).1 h
      have g := edge_good lA hi
      exact dpt_margin hA hB px py qx qy P Q _ _ g.2 g.1 cA cB
    rcases List.mem_append.1 h with h | h
    · obtain ⟨i, hi, rfl⟩ := (mem_eax zb n).1 h
      have g := edge_good lB hi
      exact dpt_margin hA hB px py qx qy P Q _ _ g.2 g.1 cA cB
    · unfold cax at h
      rw [e1, e2] at h
      by_cases h0 : la = 0
      · rw [if_pos h0] at h
        by_cases h1 : lb = 0
        · rw [if_pos h1] at h
          simp only [List.mem_singleton] at h
          subst h
          exact circles_axis hA hB h0 h1 px py qx qy P Q cA cB
        · rw [if_neg h1] at h
          simp only [List.mem_singleton] at h
          subst h
          exact vertex_axis hA hB h0 (by omega) px py qx qy P Q cA cB _ _ rfl rfl
      · rw [if_neg h0] at h
        by_cases h1 : lb = 0
        · rw [if_pos h1] at h
          simp only [List.mem_singleton] at h
          subst h
          rw [dpt_comm]
          refine vertex_axis hB hA h1 (by omega) qx qy px py P Q cB cA _ _ ?_ ?_
          · rw [show -(qx - px) = px - qx by omega, show -(qy - py) = py - qy by omega]
          · rw [show -(qx - px) = px - qx by omega, show -(qy - py) = py - qy by omega]
        · rw [if_neg h1] at h
          cases h
end
end Go.Proofs.Ytcgcapfppceggaa.Co
