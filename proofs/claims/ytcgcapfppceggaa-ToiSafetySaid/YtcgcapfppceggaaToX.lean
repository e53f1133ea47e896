/-
  Plain laws of times of impact: rest, safety, translation, bounding boxes, half the speed.
  Conditions: stated in each law.
-/
import Derived.Test.YtcgcapfppceggaaToA
import Derived.Test.YtcgcapfppceggaaCoL
import Derived.Test.YtcgcapfppceggaaShM
namespace Go.Proofs.Ytcgcapfppceggaa.To
open Go.RowKit Go.Proofs.Ytcgcapfppceggaa.FxMath Go.Proofs.Ytcgcapfppceggaa.FxA Go.Proofs.Ytcgcapfppceggaa.Qt Go.Proofs.Ytcgcapfppceggaa.Ve Go.Proofs.Ytcgcapfppceggaa.Sh Go.Proofs.Ytcgcapfppceggaa.Co
set_option linter.unusedVariables false
set_option linter.unusedSimpArgs false
theorem run_max4 {P : Program} {w : World} (ts : Array TypeId) (t : TypeId) (x y z u : Int) : (Builtin.max_ ts t #[.int .i64 x, .int .i64 y, .int .i64 z, .int .i64 u]).run P w = .ok (.int .i64 (max (max (max x y) z) u)) w := by
  have e : ∀ x y : Int, (if y > x then y else x) = max x y := fun x y => by
    rw [Int.max_def]
    split <;> split <;> omega
  simp [Builtin.max_, Builtin.max2, e]
theorem tdiv16_bd (u : Int) (h : -16384 ≤ u ∧ u ≤ 16384) : -1024 ≤ u.tdiv 16 ∧ u.tdiv 16 ≤ 1024 := by
  by_cases h0 : 0 ≤ u
  · rw [Int.tdiv_eq_ediv_of_nonneg h0]; omega
  · have e : u = -(-u) := by omega
    rw [e, Int.neg_tdiv, Int.tdiv_eq_ediv_of_nonneg (by omega)]; omega
theorem at8_still (x k : Int) : at8 x 0 k = x := by unfold at8; rw [Int.zero_mul]; omega
theorem at8_zero (x u : Int) : at8 x u 0 = x := by unfold at8; rw [Int.mul_zero]; omega
theorem at8_add (x d u k : Int) : at8 (x + d) u k = at8 x u k + d := by unfold at8; omega
theorem at8_half (x m : Int) (j : Nat) : at8 x (m * 8) ((2 * j : Nat) : Int) = at8 x (m * 16) (j : Int) := by
  unfold at8
  have e : m * 8 * ((2 * j : Nat) : Int) = m * 16 * (j : Int) := by
    rw [Int.natCast_mul]
    grind
  rw [e]
section
variable (ra : Int) (za : List (Int × Int)) (px py ux uy rb : Int) (zb : List (Int × Int)) (qx qy vx' vy' : Int)
theorem tch_rest (k : Nat) : tch ra za px py 0 0 rb zb qx qy 0 0 k = tch ra za px py 0 0 rb zb qx qy 0 0 0 := by
  unfold tch
  simp only [at8_still]
theorem rest_law : erl (tch ra za px py 0 0 rb zb qx qy 0 0) = 1024 := by
  cases h : tch ra za px py 0 0 rb zb qx qy 0 0 0 with
  | true => exact erl_zero h
  | false => exact erl_miss fun j _ => by rw [tch_rest, h]
theorem tch_shift (i k : Int) : tch ra za (px + i * 1024) (py + k * 1024) ux uy rb zb (qx + i * 1024) (qy + k * 1024) vx' vy' = tch ra za px py ux uy rb zb qx qy vx' vy' := by
  funext j
  unfold tch
  rw [at8_add, at8_add, at8_add, at8_add, cis_shift]
end
theorem safety_law (t : Nat → Bool) : (t 0 = true ∧ erl t = 1024) ∨ (t 0 = false ∧ ∃ K : Nat, K ≤ 8 ∧ erl t = 128 * K ∧ (∀ j, j ≤ K → t j = false) ∧ (K < 8 → t (K + 1) = true)) := by
  rcases erl_spec t with h | ⟨k, hk, h1, h2, h3⟩ | ⟨h1, h2⟩
  · exact .inl h
  · exact .inr ⟨h1 0 (by omega), k, by omega, h3, h1, fun _ => h2⟩
  · exact .inr ⟨h1 0 (by omega), 8, by omega, h2, h1, fun h => by omega⟩
/-! The bounding box over some sub-steps. -/
def sx0 (r : Int) (zs : List (Int × Int)) (x u : Int) (k : Nat) : Int := mnTo (fun j => bx0 r zs.length zs (at8 x u (j : Int))) k
def sx1 (r : Int) (zs : List (Int × Int)) (x u : Int) (k : Nat) : Int := mxTo (fun j => bx1 r zs.length zs (at8 x u (j : Int))) k
def sy0 (r : Int) (zs : List (Int × Int)) (x u : Int) (k : Nat) : Int := mnTo (fun j => by0 r zs.length zs (at8 x u (j : Int))) k
def sy1 (r : Int) (zs : List (Int × Int)) (x u : Int) (k : Nat) : Int := mxTo (fun j => by1 r zs.length zs (at8 x u (j : Int))) k
theorem sx0_add (r : Int) (zs : List (Int × Int)) (x d u : Int) (k : Nat) : sx0 r zs (x + d) u k = sx0 r zs x u k + d := by
  unfold sx0
  have e : (fun j : Nat => bx0 r zs.length zs (at8 (x + d) u (j : Int))) = fun j : Nat => d + bx0 r zs.length zs (at8 x u (j : Int)) := by
    funext j
    rw [at8_add, bx0_add]; omega
  rw [e, mnTo_add (fun j : Nat => bx0 r zs.length zs (at8 x u (j : Int)))]; omega
theorem sx_bd {w : World} {r : Int} {a : Option Addr} {len cap : Nat} {zs : List (Int × Int)} (h : ShAt w r a len cap zs) (x u : Int) (hx : -700000 ≤ x ∧ x ≤ 700000) (hu : -100000 ≤ u ∧ u ≤ 100000) (k : Nat) (hk : k ≤ 8) :
    (-2000000 ≤ sx0 r zs x u k ∧ sx0 r zs x u k ≤ 2000000) ∧ -2000000 ≤ sx1 r zs x u k ∧ sx1 r zs x u k ≤ 2000000 := by
  unfold sx0 sx1
  obtain ⟨i, hi, hie⟩ := mnTo_at (fun j : Nat => bx0 r zs.length zs (at8 x u (j : Int))) k
  obtain ⟨j, hj, hje⟩ := mxTo_at (fun j : Nat => bx1 r zs.length zs (at8 x u (j : Int))) k
  rw [hie, hje, h.poly.len]
  have a1 := (at8_bd (x := x) (u := u) (k := (i : Int)) hu (by omega)).2
  have a2 := (at8_bd (x := x) (u := u) (k := (j : Int)) hu (by omega)).2
  have b1 := (box_bd h (at8 x u (i : Int)) 0).1
  have b2 := (box_bd h (at8 x u (j : Int)) 0).1
  omega
theorem swept_law (ra : Int) (za : List (Int × Int)) (px py ux uy rb : Int) (zb : List (Int × Int)) (qx qy vx' vy' : Int)
    (h : sx1 ra za px ux 8 < sx0 rb zb qx vx' 8 ∨ sx1 rb zb qx vx' 8 < sx0 ra za px ux 8 ∨ sy1 ra za py uy 8 < sy0 rb zb qy vy' 8 ∨ sy1 rb zb qy vy' 8 < sy0 ra za py uy 8) :
    erl (tch ra za px py ux uy rb zb qx qy vx' vy') = 1024 := by
  refine erl_miss fun j hj => ?_
  have a0 := mnTo_le (fun j : Nat => bx0 ra za.length za (at8 px ux (j : Int))) 8 j hj
  have a1 := le_mxTo (fun j : Nat => bx1 ra za.length za (at8 px ux (j : Int))) 8 j hj
  have a2 := mnTo_le (fun j : Nat => by0 ra za.length za (at8 py uy (j : Int))) 8 j hj
  have a3 := le_mxTo (fun j : Nat => by1 ra za.length za (at8 py uy (j : Int))) 8 j hj
  have b0 := mnTo_le (fun j : Nat => bx0 rb zb.length zb (at8 qx vx' (j : Int))) 8 j hj
  have b1 := le_mxTo (fun j : Nat => bx1 rb zb.length zb (at8 qx vx' (j : Int))) 8 j hj
  have b2 := mnTo_le (fun j : Nat => by0 rb zb.length zb (at8 qy vy' (j : Int))) 8 j hj
  have b3 := le_mxTo (fun j : Nat => by1 rb zb.length zb (at8 qy vy' (j : Int))) 8 j hj
  unfold sx0 sx1 sy0 sy1 at h
  unfold tch cis
  have ho : ovl ra za (at8 px ux (j : Int)) (at8 py uy (j : Int)) rb zb (at8 qx vx' (j : Int)) (at8 qy vy' (j : Int)) = false := by
    unfold ovl
    rw [Bool.eq_false_iff]
    intro hc
    simp only [Bool.and_eq_true, decide_eq_true_eq] at hc
    omega
  rw [ho]; rfl
/-- Half the speed: m * 8 in place of m * 16. -/
theorem slower_law (ra : Int) (za : List (Int × Int)) (px py m n rb : Int) (zb : List (Int × Int)) (qx qy : Int)
    (h0 : tch ra za px py (m * 16) (n * 16) rb zb qx qy 0 0 0 = false) (h1 : erl (tch ra za px py (m * 16) (n * 16) rb zb qx qy 0 0) ≠ 1024) :
    ∃ k : Nat, k < 8 ∧ erl (tch ra za px py (m * 16) (n * 16) rb zb qx qy 0 0) = 128 * k ∧
      ((erl (tch ra za px py (m * 8) (n * 8) rb zb qx qy 0 0) = 1024 ∧ 8 < 2 * (k + 1)) ∨
       ∃ j : Nat, j < 8 ∧ j + 1 ≤ 2 * (k + 1) ∧ erl (tch ra za px py (m * 8) (n * 8) rb zb qx qy 0 0) = 128 * j) := by
  have key : ∀ j : Nat, tch ra za px py (m * 8) (n * 8) rb zb qx qy 0 0 (2 * j) = tch ra za px py (m * 16) (n * 16) rb zb qx qy 0 0 j := by
    intro j
    unfold tch
    rw [at8_half, at8_half, at8_still, at8_still, at8_still, at8_still]
  generalize tch ra za px py (m * 8) (n * 8) rb zb qx qy 0 0 = h at *
  generalize tch ra za px py (m * 16) (n * 16) rb zb qx qy 0 0 = t at *
  rcases erl_spec t with ⟨h2, _⟩ | ⟨k, hk, hk1, hk2, hk3⟩ | ⟨_, h2⟩
  · rw [h0] at h2; cases h2
  · refine ⟨k, hk, hk3, ?_⟩
    have hh := key (k + 1)
    rw [hk2] at hh
    have hz := key 0
    rw [Nat.mul_zero, h0] at hz
    rcases erl_spec h with ⟨g, _⟩ | ⟨j, hj, hj1, hj2, hj3⟩ | ⟨g1, g2⟩
    · rw [hz] at g; cases g
    · refine .inr ⟨j, hj, ?_, hj3⟩
      by_cases hle : j + 1 ≤ 2 * (k + 1)
      · exact hle
      · have := hj1 (2 * (k + 1)) (by omega)
        rw [hh] at this; cases this
    · refine .inl ⟨g2, ?_⟩
      by_cases hle : 8 < 2 * (k + 1)
      · exact hle
      · have := g1 (2 * (k + 1)) (by omega)
        rw [hh] at this; cases this
  · exact absurd h2 h1
end Go.Proofs.Ytcgcapfppceggaa.To

/-
  Plain laws of times of impact: a circle and a wall; the law's example.
  Conditions: stated in each law.
-/
namespace Go.Proofs.Ytcgcapfppceggaa.To
open Go.RowKit Go.Proofs.Ytcgcapfppceggaa.FxMath Go.Proofs.Ytcgcapfppceggaa.FxA Go.Proofs.Ytcgcapfppceggaa.Qt Go.Proofs.Ytcgcapfppceggaa.Ve Go.Proofs.Ytcgcapfppceggaa.Sh Go.Proofs.Ytcgcapfppceggaa.Co
set_option linter.unusedVariables false
set_option linter.unusedSimpArgs false
theorem isq_sq (d : Int) (h : 0 ≤ d) : isq (d * d) = d := by
  have e : (d + 1) * (d + 1) = d * d + 2 * d + 1 := by grind
  exact isq_unique _ _ h (Int.le_refl _) (by omega)
theorem unit_px (d : Int) (h : 0 < d) : unx d 0 = 1024 ∧ uny d 0 = 0 := by
  have e : isq (d * d + 0 * 0) = d := by rw [Int.mul_zero, Int.add_zero]; exact isq_sq d (by omega)
  have h1 : nmx d 0 = 1024 := by unfold nmx; rw [e, fdv_pos _ _ h]; exact Int.mul_ediv_cancel_left _ (by omega)
  have h2 : nmy d 0 = 0 := by unfold nmy; rw [e, fdv_pos _ _ h]; simp
  unfold unx uny
  rw [h1, h2]
  decide
theorem unit_nx (d : Int) (h : 0 < d) : unx (-d) 0 = -1024 ∧ uny (-d) 0 = 0 := by
  have e : isq (-d * -d + 0 * 0) = d := by rw [Int.mul_zero, Int.add_zero, Int.neg_mul_neg]; exact isq_sq d (by omega)
  have h1 : nmx (-d) 0 = -1024 := by unfold nmx; rw [e, fdv_pos _ _ h, show -d * 1024 = d * -1024 by omega]; exact Int.mul_ediv_cancel_left _ (by omega)
  have h2 : nmy (-d) 0 = 0 := by unfold nmy; rw [e, fdv_pos _ _ h]; simp
  unfold unx uny
  rw [h1, h2]
  decide
theorem unit_py (d : Int) (h : 0 < d) : unx 0 d = 0 ∧ uny 0 d = 1024 := by
  have e : isq (0 * 0 + d * d) = d := by rw [Int.mul_zero, Int.zero_add]; exact isq_sq d (by omega)
  have h1 : nmy 0 d = 1024 := by unfold nmy; rw [e, fdv_pos _ _ h]; exact Int.mul_ediv_cancel_left _ (by omega)
  have h2 : nmx 0 d = 0 := by unfold nmx; rw [e, fdv_pos _ _ h]; simp
  unfold unx uny
  rw [h1, h2]
  decide
theorem unit_ny (d : Int) (h : 0 < d) : unx 0 (-d) = 0 ∧ uny 0 (-d) = -1024 := by
  have e : isq (0 * 0 + -d * -d) = d := by rw [Int.mul_zero, Int.zero_add, Int.neg_mul_neg]; exact isq_sq d (by omega)
  have h1 : nmy 0 (-d) = -1024 := by unfold nmy; rw [e, fdv_pos _ _ h, show -d * 1024 = d * -1024 by omega]; exact Int.mul_ediv_cancel_left _ (by omega)
  have h2 : nmx 0 (-d) = 0 := by unfold nmx; rw [e, fdv_pos _ _ h]; simp
  unfold unx uny
  rw [h1, h2]
  decide
/-! Two circles on a line. -/
theorem line_circles (R X : Int) (hR : 1 ≤ R) (hX : X ≤ 0) : cis R [] X 0 R [] 0 0 = decide (-(2 * R) < X) := by
  have hu : unx (0 - X) (0 - 0) = 1024 ∧ uny (0 - X) (0 - 0) = 0 := by
    by_cases h0 : X = 0
    · subst h0
      have e : isq (0 * 0 + 0 * 0) = 0 := isq_unique _ _ (by decide) (by decide) (by decide)
      show unx 0 0 = 1024 ∧ uny 0 0 = 0
      have h1 : nmx 0 0 = 0 := by unfold nmx; rw [e]; exact fdv_zero _
      have h2 : nmy 0 0 = 0 := by unfold nmy; rw [e]; exact fdv_zero _
      unfold unx uny
      rw [h1, h2]
      decide
    · exact unit_px (0 - X) (by omega)
  have hax : axs [] [] (0 - X) (0 - 0) = [(1024, 0)] := by
    show [] ++ ([] ++ [(unx (0 - X) (0 - 0), uny (0 - X) (0 - 0))]) = _
    rw [hu.1, hu.2]
    rfl
  unfold cis
  rw [hax, Bool.eq_iff_iff]
  unfold ovl bx0 bx1 by0 by1 dpt ph pl phi plo
  simp only [List.length_nil, if_true, List.all_cons, List.all_nil, Bool.and_true, Bool.and_eq_true, decide_eq_true_eq]
  omega
theorem lives_val1 : erl (tch 10 [] (-100) 0 160 0 10 [] 0 0 0 0) = 512 := by
  have key : ∀ k : Nat, k ≤ 5 → tch 10 [] (-100) 0 160 0 10 [] 0 0 0 0 k = decide (-(2 * 10) < -100 + 20 * (k : Int)) := fun k hk => by
    unfold tch
    have e1 : at8 (-100) 160 k = -100 + 20 * (k : Int) := by unfold at8; omega
    have e2 : at8 0 0 (k : Int) = 0 := by unfold at8; simp
    rw [e1, e2]
    exact line_circles 10 _ (by decide) (by omega)
  exact erl_hit (k := 4) (by decide) (fun j hj => by rw [key j (by omega), decide_eq_false_iff_not]; omega) (by rw [key 5 (by omega)]; decide)
theorem lives_val2 : erl (tch 10 [] (-100) 0 16 0 10 [] 0 0 0 0) = 1024 := by
  refine erl_miss fun k hk => ?_
  unfold tch
  have e1 : at8 (-100) 16 k = -100 + 2 * (k : Int) := by unfold at8; omega
  have e2 : at8 0 0 (k : Int) = 0 := by unfold at8; simp
  rw [e1, e2, line_circles 10 _ (by decide) (by omega), decide_eq_false_iff_not]
  omega
/-! A circle and a wall. -/
def wal (h : Int) : List (Int × Int) := [(-h, -4000), (h, -4000), (h, 4000), (-h, 4000)]
theorem wal_vx (h : Int) : vx (wal h) 0 = -h ∧ vx (wal h) 1 = h ∧ vx (wal h) 2 = h ∧ vx (wal h) 3 = -h := ⟨rfl, rfl, rfl, rfl⟩
theorem wal_vy (h : Int) : vy (wal h) 0 = -4000 ∧ vy (wal h) 1 = -4000 ∧ vy (wal h) 2 = 4000 ∧ vy (wal h) 3 = 4000 := ⟨rfl, rfl, rfl, rfl⟩
theorem wal_eax (h : Int) (h0 : 0 < h) : eax (wal h) = [(0, -1024), (1024, 0), (0, 1024), (-1024, 0)] := by
  have l : (wal h).length = 4 := rfl
  have e0 : edn (wal h) 0 = (0, -1024) := by
    have := unit_ny (2 * h) (by omega)
    show (unx (-4000 - -4000) (-h - h), uny (-4000 - -4000) (-h - h)) = _
    rw [show (-4000 : Int) - -4000 = 0 by omega, show -h - h = -(2 * h) by omega, this.1, this.2]
  have e1 : edn (wal h) 1 = (1024, 0) := by
    have := unit_px 8000 (by omega)
    show (unx (4000 - -4000) (h - h), uny (4000 - -4000) (h - h)) = _
    rw [show (4000 : Int) - -4000 = 8000 by omega, show h - h = 0 by omega, this.1, this.2]
  have e2 : edn (wal h) 2 = (0, 1024) := by
    have := unit_py (2 * h) (by omega)
    show (unx (4000 - 4000) (h - -h), uny (4000 - 4000) (h - -h)) = _
    rw [show (4000 : Int) - 4000 = 0 by omega, show h - -h = 2 * h by omega, this.1, this.2]
  have e3 : edn (wal h) 3 = (-1024, 0) := by
    have := unit_nx 8000 (by omega)
    have e4 : (3 + 1) % (wal h).length = 0 := by rw [l]
    unfold edn edx edy
    rw [e4, (wal_vy h).1, (wal_vy h).2.2.2, (wal_vx h).1, (wal_vx h).2.2.2, show (-4000 : Int) - 4000 = -8000 by omega, show -h - -h = 0 by omega, this.1, this.2]
  unfold eax
  rw [l]
  show [edn (wal h) 0, edn (wal h) 1, edn (wal h) 2, edn (wal h) 3] = _
  rw [e0, e1, e2, e3]
theorem wal_prj (h u v : Int) : pl 0 (wal h) 0 0 (u, v) = min (min (min ((-h * u + -4000 * v) / 1024) ((h * u + -4000 * v) / 1024)) ((h * u + 4000 * v) / 1024)) ((-h * u + 4000 * v) / 1024) ∧
    ph 0 (wal h) 0 0 (u, v) = max (max (max ((-h * u + -4000 * v) / 1024) ((h * u + -4000 * v) / 1024)) ((h * u + 4000 * v) / 1024)) ((-h * u + 4000 * v) / 1024) := by
  have e : ∀ i, prj (wal h) 0 0 u v i = (vx (wal h) i * u + vy (wal h) i * v) / 1024 := fun i => by unfold prj; rw [Int.zero_add, Int.zero_add]
  constructor
  · show mnTo (prj (wal h) 0 0 u v) 3 = _
    simp only [mnTo, e, (wal_vx h).1, (wal_vx h).2.1, (wal_vx h).2.2.1, (wal_vx h).2.2.2, (wal_vy h).1, (wal_vy h).2.1, (wal_vy h).2.2.1, (wal_vy h).2.2.2]
  · show mxTo (prj (wal h) 0 0 u v) 3 = _
    simp only [mxTo, e, (wal_vx h).1, (wal_vx h).2.1, (wal_vx h).2.2.1, (wal_vx h).2.2.2, (wal_vy h).1, (wal_vy h).2.1, (wal_vy h).2.2.1, (wal_vy h).2.2.2]
/-- The axis to a vertex never parts a circle and a wall that overlap. -/
theorem wal_vertex (r h X : Int) (hr : 10 ≤ r ∧ r ≤ 200) (hh : 1 ≤ h ∧ h ≤ 200) (hX : -(h + r) < X ∧ X < h + r) (tx ty : Int) (htx : -600 ≤ tx ∧ tx ≤ 600) (hty : ty = 4000 ∨ ty = -4000) :
    0 < dpt r [] X 0 0 (wal h) 0 0 (unx tx ty, uny tx ty) := by
  have hty2 : ty * ty = 16000000 := by rcases hty with rfl | rfl <;> decide
  have htx2 := mul_bd (a := tx) (b := tx) (A := 600) (B := 600) htx.1 htx.2 htx.1 htx.2
  have sx := sq0 tx
  have hs := isq_spec (tx * tx + ty * ty) (by omega)
  have hn := isq_nonneg (tx * tx + ty * ty)
  obtain ⟨l, hl⟩ : ∃ l, l = isq (tx * tx + ty * ty) := ⟨_, rfl⟩
  rw [← hl] at hs hn
  have l1 : 3999 < l := by
    have : 4000 < l + 1 := lt_of_sq (by omega) (by omega)
    omega
  have l2 : l < 4046 := lt_of_sq (by omega) (by omega)
  have eu : nmx tx ty = tx * 1024 / l := by unfold nmx; rw [← hl]; exact fdv_pos _ _ (by omega)
  have ev : nmy tx ty = ty * 1024 / l := by unfold nmy; rw [← hl]; exact fdv_pos _ _ (by omega)
  have u1 : -154 ≤ tx * 1024 / l := (Int.le_ediv_iff_mul_le (by omega)).2 (by omega)
  have u2 : tx * 1024 / l < 155 := (Int.ediv_lt_iff_lt_mul (by omega)).2 (by omega)
  have v1 : (ty = 4000 → 1012 ≤ ty * 1024 / l ∧ ty * 1024 / l < 1025) ∧ (ty = -4000 → -1025 ≤ ty * 1024 / l ∧ ty * 1024 / l < -1011) := by
    constructor
    · intro h
      exact ⟨(Int.le_ediv_iff_mul_le (by omega)).2 (by omega), (Int.ediv_lt_iff_lt_mul (by omega)).2 (by omega)⟩
    · intro h
      exact ⟨(Int.le_ediv_iff_mul_le (by omega)).2 (by omega), (Int.ediv_lt_iff_lt_mul (by omega)).2 (by omega)⟩
  have hne : ¬ (nmx tx ty = 0 ∧ nmy tx ty = 0) := by rw [eu, ev]; omega
  have e1 : unx tx ty = tx * 1024 / l := by unfold unx; rw [if_neg hne, eu]
  have e2 : uny tx ty = ty * 1024 / l := by unfold uny; rw [if_neg hne, ev]
  rw [e1, e2]
  generalize tx * 1024 / l = u at *
  generalize ty * 1024 / l = v at *
  have p1 := mul_bd (a := X) (b := u) (A := 400) (B := 155) (by omega) (by omega) (by omega) (by omega)
  have p2 := mul_bd (a := h) (b := u) (A := 200) (B := 155) (by omega) (by omega) (by omega) (by omega)
  obtain ⟨w1, w2⟩ := wal_prj h u v
  unfold dpt
  rw [w1, w2]
  have n1 : -h * u = -(h * u) := Int.neg_mul _ _
  rw [n1]
  unfold ph pl phi plo
  simp only [List.length_nil, if_true]
  rw [Int.zero_mul, Int.add_zero]
  generalize X * u = a at *
  generalize h * u = b at *
  clear w1 w2 n1 e1 e2 hne eu ev hs hl htx2 sx hty2
  rcases hty with h1 | h1
  · obtain ⟨v2, v3⟩ := v1.1 h1
    omega
  · obtain ⟨v2, v3⟩ := v1.2 h1
    omega
theorem wal_cis (r h X : Int) (hr : 10 ≤ r ∧ r ≤ 200) (hh : 1 ≤ h ∧ h ≤ 200) : cis r [] X 0 0 (wal h) 0 0 = decide (-(h + r) < X ∧ X < h + r) := by
  have hdx : ∀ u : Int, (u = 1024 ∨ u = -1024) → (0 < dpt r [] X 0 0 (wal h) 0 0 (u, 0) ↔ (-(h + r) < X ∧ X < h + r)) := by
    intro u hu
    obtain ⟨w1, w2⟩ := wal_prj h u 0
    unfold dpt
    rw [w1, w2]
    unfold ph pl phi plo
    simp only [List.length_nil, if_true]
    rcases hu with rfl | rfl <;> omega
  have hdy : ∀ v : Int, (v = 1024 ∨ v = -1024) → 0 < dpt r [] X 0 0 (wal h) 0 0 (0, v) := by
    intro v hv
    obtain ⟨w1, w2⟩ := wal_prj h 0 v
    unfold dpt
    rw [w1, w2]
    unfold ph pl phi plo
    simp only [List.length_nil, if_true]
    rcases hv with rfl | rfl <;> omega
  have hax : axs [] (wal h) (0 - X) (0 - 0) = [(0, -1024), (1024, 0), (0, 1024), (-1024, 0), (unx (tvx (wal h) (0 - X) (0 - 0)) (tvy (wal h) (0 - X) (0 - 0)), uny (tvx (wal h) (0 - X) (0 - 0)) (tvy (wal h) (0 - X) (0 - 0)))] := by
    unfold axs
    rw [wal_eax h (by omega)]
    rfl
  have hn := argl_le (sqd (wal h) (0 - X) (0 - 0)) 3
  have hni : nri (wal h) (0 - X) (0 - 0) = argl (sqd (wal h) (0 - X) (0 - 0)) 3 := rfl
  have hvx : (vx (wal h) (nri (wal h) (0 - X) (0 - 0)) = h ∨ vx (wal h) (nri (wal h) (0 - X) (0 - 0)) = -h) ∧ (vy (wal h) (nri (wal h) (0 - X) (0 - 0)) = 4000 ∨ vy (wal h) (nri (wal h) (0 - X) (0 - 0)) = -4000) := by
    rw [hni]
    obtain ⟨i, hi⟩ : ∃ i, i = argl (sqd (wal h) (0 - X) (0 - 0)) 3 := ⟨_, rfl⟩
    rw [← hi] at hn ⊢
    obtain rfl | rfl | rfl | rfl : i = 0 ∨ i = 1 ∨ i = 2 ∨ i = 3 := by omega
    · exact ⟨.inr rfl, .inr rfl⟩
    · exact ⟨.inl rfl, .inr rfl⟩
    · exact ⟨.inl rfl, .inl rfl⟩
    · exact ⟨.inr rfl, .inl rfl⟩
  unfold cis
  rw [hax, Bool.eq_iff_iff]
  simp only [Bool.and_eq_true, List.all_eq_true, decide_eq_true_eq]
  constructor
  · rintro ⟨_, hall⟩
    exact (hdx 1024 (.inl rfl)).1 (hall (1024, 0) (by simp))
  · intro hX
    refine ⟨?_, ?_⟩
    · have b0 : bx0 0 (wal h).length (wal h) 0 = min (min (min (0 + -h) (0 + h)) (0 + h)) (0 + -h) := rfl
      have b1 : bx1 0 (wal h).length (wal h) 0 = max (max (max (0 + -h) (0 + h)) (0 + h)) (0 + -h) := rfl
      have b2 : by0 0 (wal h).length (wal h) 0 = min (min (min (0 + -4000) (0 + -4000)) (0 + 4000)) (0 + 4000) := rfl
      have b3 : by1 0 (wal h).length (wal h) 0 = max (max (max (0 + -4000) (0 + -4000)) (0 + 4000)) (0 + 4000) := rfl
      unfold ovl
      rw [b0, b1, b2, b3]
      unfold bx0 bx1 by0 by1
      simp only [List.length_nil, if_true, Bool.and_eq_true, decide_eq_true_eq]
      omega
    · intro n hn'
      simp only [List.mem_cons, List.not_mem_nil, or_false] at hn'
      rcases hn' with rfl | rfl | rfl | rfl | rfl
      · exact hdy _ (.inr rfl)
      · exact (hdx _ (.inl rfl)).2 hX
      · exact hdy _ (.inl rfl)
      · exact (hdx _ (.inr rfl)).2 hX
      · refine wal_vertex r h X hr hh hX _ _ ?_ ?_
        · unfold tvx
          omega
        · unfold tvy
          omega
/-- A circle that would get past the wall's left side is stopped. -/
theorem tunnel_law (r h x v : Int) (hr : 10 ≤ r ∧ r ≤ 200) (hh : 1 ≤ h ∧ h ≤ 200) (hx : x ≤ -(h + r + 1)) (hv : 0 ≤ v ∧ v ≤ 8 * (2 * (h + r) - 2)) :
    (-(h + r) < x + v → erl (tch r [] x 0 v 0 0 (wal h) 0 0 0 0) < 1024) ∧ (¬ -(h + r) < x + v → erl (tch r [] x 0 v 0 0 (wal h) 0 0 0 0) = 1024) := by
  have key : ∀ k : Nat, tch r [] x 0 v 0 0 (wal h) 0 0 0 0 k = decide (-(h + r) < at8 x v k ∧ at8 x v k < h + r) := fun k => by
    unfold tch
    have e2 : at8 0 0 (k : Int) = 0 := by unfold at8; simp
    rw [e2]
    exact wal_cis r h _ hr hh
  have h0 : at8 x v (0 : Nat) = x := by unfold at8; simp
  have h8 : at8 x v (8 : Nat) = x + v := by unfold at8; omega
  have hstep : ∀ k : Nat, at8 x v k ≤ at8 x v (k + 1 : Nat) ∧ at8 x v (k + 1 : Nat) ≤ at8 x v k + (2 * (h + r) - 2) := fun k => by
    unfold at8
    have e : v * ((k + 1 : Nat) : Int) = v * (k : Int) + v := by rw [Int.natCast_add, Int.mul_add]; simp
    rw [e]
    generalize v * (k : Int) = m
    omega
  constructor
  · intro hp
    rcases erl_spec (tch r [] x 0 v 0 0 (wal h) 0 0 0 0) with ⟨ht, _⟩ | ⟨k, hk, _, _, he⟩ | ⟨hall, _⟩
    · rw [key 0, decide_eq_true_eq, h0] at ht
      omega
    · rw [he]; omega
    · exfalso
      have hbelow : ∀ k : Nat, k ≤ 8 → at8 x v k ≤ -(h + r) := by
        intro k
        induction k with
        | zero => intro _; rw [h0]; omega
        | succ k ih =>
          intro hk
          have i1 := ih (by omega)
          have i2 := hstep k
          have i3 := hall (k + 1) hk
          rw [key (k + 1), decide_eq_false_iff_not] at i3
          omega
      have := hbelow 8 (by omega)
      rw [h8] at this
      omega
  · intro hp
    refine erl_miss fun k hk => ?_
    rw [key k, decide_eq_false_iff_not]
    have hm : ∀ n : Nat, k + n ≤ 8 → at8 x v k ≤ at8 x v (k + n : Nat) := by
      intro n
      induction n with
      | zero => intro _; exact Int.le_refl _
      | succ n ih => intro hn; have := ih (by omega); have := (hstep (k + n)).1; rw [← Nat.add_assoc]; omega
    have := hm (8 - k) (by omega)
    rw [show k + (8 - k) = 8 by omega, h8] at this
    omega
end Go.Proofs.Ytcgcapfppceggaa.To

/-
  The contract of arenanetlaw06.lives.
  Conditions: none.
-/
namespace Go.Proofs.Ytcgcapfppceggaa.To
open Go.RowKit Go.Proofs.Ytcgcapfppceggaa.FxMath Go.Proofs.Ytcgcapfppceggaa.FxA Go.Proofs.Ytcgcapfppceggaa.Qt Go.Proofs.Ytcgcapfppceggaa.Ve Go.Proofs.Ytcgcapfppceggaa.Sh Go.Proofs.Ytcgcapfppceggaa.Co Go.Shelf
set_option linter.unusedVariables false
set_option linter.unusedSimpArgs false
attribute [local go_sem] Oper.semAt_some
set_option maxRecDepth 100000 in
set_option maxHeartbeats 2000000 in
theorem lives06 : Gives Try.prog 40 #[] (.bool true) := by
  intro w
  have c1 : Gives Try.prog 42 #[.agg #[.int .i64 10, .slice none 0 0], .agg #[.int .i64 (-100), .int .i64 0], .agg #[.int .i64 160, .int .i64 0], .agg #[.int .i64 10, .slice none 0 0], .agg #[.int .i64 0, .int .i64 0], .agg #[.int .i64 0, .int .i64 0]] (.int .i64 512) := fun V => by
    have h := earliest_s (shAt_circle V 10 (by decide)) (shAt_circle V 10 (by decide)) (px := -100) (py := 0) (ux := 160) (uy := 0) (qx := 0) (qy := 0) (vx' := 0) (vy' := 0) ⟨by decide, by decide, by decide, by decide⟩ V (Below.refl _ _)
    rw [lives_val1] at h
    exact h
  have c2 : Gives Try.prog 42 #[.agg #[.int .i64 10, .slice none 0 0], .agg #[.int .i64 (-100), .int .i64 0], .agg #[.int .i64 16, .int .i64 0], .agg #[.int .i64 10, .slice none 0 0], .agg #[.int .i64 0, .int .i64 0], .agg #[.int .i64 0, .int .i64 0]] (.int .i64 1024) := fun V => by
    have h := earliest_s (shAt_circle V 10 (by decide)) (shAt_circle V 10 (by decide)) (px := -100) (py := 0) (ux := 16) (uy := 0) (qx := 0) (qy := 0) (vx' := 0) (vy' := 0) ⟨by decide, by decide, by decide, by decide⟩ V (Below.refl _ _)
    rw [lives_val2] at h
    exact h
  have Hc1 := Lib.hid c1; have Hc2 := Lib.hid c2; clear c1 c2
  have hal := alloc_if; have hfal := allocF_if
  go_enter Try.func40, Try.ntmps40
  go_wp2_with (first | ((with_reducible refine (Hc1.out _).mono ?_); rintro e wA ⟨rfl, hbA⟩; obtain ⟨NA, hNA, hcA, hfA, hsA⟩ := bcell hbA; (try simp only [World.size_alloc, World.size_setCell, World.size_drew] at hNA)) | ((with_reducible refine (Hc2.out _).mono ?_); rintro e wB ⟨rfl, hbB⟩; obtain ⟨NB, hNB, hcB, hfB, hsB⟩ := bcell hbB; (try simp only [World.size_alloc, World.size_setCell, World.size_drew] at hNB)))
  go_ret
  exact ⟨rfl, by (repeat (first | (with_reducible exact Below.refl _ _) | (with_reducible refine Below.drew ?_) | (with_reducible refine below_drewN ?_ _) | (with_reducible refine Below.setCell ?_ (by first | (simp; done) | (simp; omega) | omega) _) | (with_reducible refine Below.alloc ?_ (by first | (simp; done) | (simp; omega) | omega) _) | (with_reducible refine Below.trans ?_ (Below.mono (by assumption) (by first | (simp; done) | (simp; omega) | omega))) | (with_reducible refine Below.trans ?_ (Below.mono (Later.below _) (by first | (simp; done) | (simp; omega) | omega)))))⟩
end Go.Proofs.Ytcgcapfppceggaa.To

/-
  The reference of package toi: At, Touch, Earliest; the law package's touch and earliest.
  Conditions: stated in each contract.
-/
namespace Go.Proofs.Ytcgcapfppceggaa.To
open Go.RowKit Go.Proofs.Ytcgcapfppceggaa.FxMath Go.Proofs.Ytcgcapfppceggaa.FxA Go.Proofs.Ytcgcapfppceggaa.Qt Go.Proofs.Ytcgcapfppceggaa.Ve Go.Proofs.Ytcgcapfppceggaa.Sh Go.Proofs.Ytcgcapfppceggaa.Co Go.Shelf
set_option linter.unusedVariables false
set_option linter.unusedSimpArgs false
attribute [local go_sem] Oper.semAt_some
theorem rat_any (x y u v k : Int) (hx : -100000000 ≤ x ∧ x ≤ 100000000) (hy : -100000000 ≤ y ∧ y ≤ 100000000) (hu : -100000 ≤ u ∧ u ≤ 100000) (hv : -100000 ≤ v ∧ v ≤ 100000) (hk : 0 ≤ k ∧ k ≤ 100) :
    Gives Try.prog 86 #[.agg #[.int .i64 x, .int .i64 y], .agg #[.int .i64 u, .int .i64 v], .int .i64 k] (.agg #[.int .i64 (at8 x u k), .int .i64 (at8 y v k)]) := by
  intro w
  have m1 := (at8_bd (x := x) hu hk).1
  have m2 := (at8_bd (x := y) hv hk).1
  have c1 := rvMulDiv_any u v k 8 (by omega) (by omega) (by omega) (by omega)
  rw [fdv8, fdv8] at c1
  have c2 := radd_any x y (u * k / 8) (v * k / 8) (by omega) (by omega) (by omega) (by omega)
  rw [show x + u * k / 8 = at8 x u k from rfl, show y + v * k / 8 = at8 y v k from rfl] at c2
  generalize at8 x u k = X at *
  generalize at8 y v k = Y at *
  generalize u * k / 8 = p at *
  generalize v * k / 8 = q at *
  have Hc1 := Lib.hid c1; have Hc2 := Lib.hid c2; clear c1 c2
  clear m1 m2
  have hal := alloc_if; have hfal := allocF_if
  have hst := setCell_if
  go_enter Try.func86, Try.ntmps86
  go_upto_region 1 with (fail)
  refine wp_region_later_tail 5 (by kernel_rfl) (by kernel_rfl) fun NL hL => ?_; obtain ⟨hNL, hlc, hlf⟩ := hL; (try simp only [World.size_alloc, World.size_setCell, World.size_drew] at hNL); simp only [List.take_succ_cons, List.take_zero, List.drop_succ_cons, List.drop_zero]
  repeat (go_big_quiet_step (first | (with_reducible exact later_call (Hc1.out _)) | (with_reducible exact later_call (Hc2.out _))))
  (refine wpQuiet_nil ?_; intro w1 hw1; obtain ⟨⟨w1, hb1⟩, rfl⟩ := hw1; clear hlc hlf hNL NL; obtain ⟨N1, hN1, hc1, hf1, hs1⟩ := bcell hb1; (try simp only [World.size_alloc, World.size_setCell, World.size_drew] at hN1))
  go_wp2
  refine bodyPost_ret (v := .agg #[.int .i64 X, .int .i64 Y]) (by simp [results, Try.results86, go_sem, hst, hc1, alloc_if, ↓IntWalk.iteOmega]) rfl ⟨rfl, ?_⟩
  (repeat (first | (with_reducible exact Below.refl _ _) | (with_reducible refine Below.drew ?_) | (with_reducible refine below_drewN ?_ _) | (with_reducible refine Below.setCell ?_ (by first | (simp; done) | (simp; omega) | omega) _) | (with_reducible refine Below.alloc ?_ (by first | (simp; done) | (simp; omega) | omega) _) | (with_reducible refine Below.trans ?_ (Below.mono (by assumption) (by first | (simp; done) | (simp; omega) | omega))) | (with_reducible refine Below.trans ?_ (Below.mono (Later.below _) (by first | (simp; done) | (simp; omega) | omega)))))
section
variable {w : World} {ra : Int} {aa : Option Addr} {la ca : Nat} {za : List (Int × Int)} {px py ux uy rb : Int} {ab : Option Addr} {lb cb : Nat} {zb : List (Int × Int)} {qx qy vx' vy' : Int}
set_option maxRecDepth 100000 in
set_option maxHeartbeats 4000000 in
theorem rtouch_s (hA : ShAt w ra aa la ca za) (hB : ShAt w rb ab lb cb zb) (hbd : TBd px py ux uy qx qy vx' vy') (k : Nat) (hk : k ≤ 8) (W : World) (hW : Below w.heap.size w W) :
    Calls Try.prog 70 #[.agg #[.int .i64 ra, .slice aa la ca], .agg #[.int .i64 px, .int .i64 py], .agg #[.int .i64 ux, .int .i64 uy], .agg #[.int .i64 rb, .slice ab lb cb], .agg #[.int .i64 qx, .int .i64 qy], .agg #[.int .i64 vx', .int .i64 vy'], .int .i64 k] W fun e w' =>
      e = .returned (.bool (tch ra za px py ux uy rb zb qx qy vx' vy' k)) ∧ Below W.heap.size W w' := by
  obtain ⟨⟨p1, p2, p3, p4⟩, ⟨u1, u2, u3, u4⟩, ⟨q1, q2, q3, q4⟩, ⟨v1, v2, v3, v4⟩⟩ := hbd
  have cga := rat_any px py ux uy k (by omega) (by omega) (by omega) (by omega) (by omega)
  have cgb := rat_any qx qy vx' vy' k (by omega) (by omega) (by omega) (by omega) (by omega)
  have m1 := (at8_bd (x := px) (u := ux) (k := k) (by omega) (by omega)).2
  have m2 := (at8_bd (x := py) (u := uy) (k := k) (by omega) (by omega)).2
  have m3 := (at8_bd (x := qx) (u := vx') (k := k) (by omega) (by omega)).2
  have m4 := (at8_bd (x := qy) (u := vy') (k := k) (by omega) (by omega)).2
  have cc := fun V (hV : Below W.heap.size W V) => rcollide_s (hA.later hW) (hB.later hW) (px := at8 px ux k) (py := at8 py uy k) (qx := at8 qx vx' k) (qy := at8 qy vy' k) (by omega) (by omega) V hV
  unfold tch
  clear m1 m2 m3 m4
  generalize at8 px ux k = X at *
  generalize at8 py uy k = Y at *
  generalize at8 qx vx' k = P at *
  generalize at8 qy vy' k = Q at *
  generalize cis ra za X Y rb zb P Q = i1 at *
  generalize cdp ra za X Y rb zb P Q = d1 at *
  generalize cnx ra za X Y rb zb P Q = x1 at *
  generalize cny ra za X Y rb zb P Q = y1 at *
  have Hcga := Lib.hid cga; have Hcgb := Lib.hid cgb; have Hcc := Lib.hid cc; clear cga cgb cc
  clear hW hA hB
  have hal := alloc_if; have hfal := allocF_if
  go_enter Try.func70, Try.ntmps70
  go_upto_region 1 with (fail)
  refine name_world3 fun W1 hW1 => ?_
  have st0 : Below W.heap.size W W1 := by rw [hW1]; (repeat (first | (with_reducible exact Below.refl _ _) | (with_reducible refine Below.drew ?_) | (with_reducible refine below_drewN ?_ _) | (with_reducible refine Below.setCell ?_ (by first | (simp; done) | (simp; omega) | omega) _) | (with_reducible refine Below.alloc ?_ (by first | (simp; done) | (simp; omega) | omega) _) | (with_reducible refine Below.trans ?_ (Below.mono (by assumption) (by first | (simp; done) | (simp; omega) | omega))) | (with_reducible refine Below.trans ?_ (Below.mono (Later.below _) (by first | (simp; done) | (simp; omega) | omega)))))
  have q10 : W1.cell? ⟨W.heap.size, 0, none⟩ = some (.int .i64 ra) := by rw [hW1]; simp [hal, ↓IntWalk.iteOmega]
  have q11 : W1.cell? ⟨W.heap.size, 1, none⟩ = some (.slice aa la ca) := by rw [hW1]; simp [hal, ↓IntWalk.iteOmega]
  have q12 : W1.cell? ⟨W.heap.size + 1, 0, none⟩ = some (.int .i64 px) := by rw [hW1]; simp [hal, ↓IntWalk.iteOmega]
  have q13 : W1.cell? ⟨W.heap.size + 1, 1, none⟩ = some (.int .i64 py) := by rw [hW1]; simp [hal, ↓IntWalk.iteOmega]
  have q14 : W1.cell? ⟨W.heap.size + 1 + 1, 0, none⟩ = some (.int .i64 ux) := by rw [hW1]; simp [hal, ↓IntWalk.iteOmega]
  have q15 : W1.cell? ⟨W.heap.size + 1 + 1, 1, none⟩ = some (.int .i64 uy) := by rw [hW1]; simp [hal, ↓IntWalk.iteOmega]
  have q16 : W1.cell? ⟨W.heap.size + 1 + 1 + 1, 0, none⟩ = some (.int .i64 rb) := by rw [hW1]; simp [hal, ↓IntWalk.iteOmega]
  have q17 : W1.cell? ⟨W.heap.size + 1 + 1 + 1, 1, none⟩ = some (.slice ab lb cb) := by rw [hW1]; simp [hal, ↓IntWalk.iteOmega]
  have q18 : W1.cell? ⟨W.heap.size + 1 + 1 + 1 + 1, 0, none⟩ = some (.int .i64 qx) := by rw [hW1]; simp [hal, ↓IntWalk.iteOmega]
  have q19 : W1.cell? ⟨W.heap.size + 1 + 1 + 1 + 1, 1, none⟩ = some (.int .i64 qy) := by rw [hW1]; simp [hal, ↓IntWalk.iteOmega]
  have q20 : W1.cell? ⟨W.heap.size + 1 + 1 + 1 + 1 + 1, 0, none⟩ = some (.int .i64 vx') := by rw [hW1]; simp [hal, ↓IntWalk.iteOmega]
  have q21 : W1.cell? ⟨W.heap.size + 1 + 1 + 1 + 1 + 1, 1, none⟩ = some (.int .i64 vy') := by rw [hW1]; simp [hal, ↓IntWalk.iteOmega]
  have sz0 := st0.size
  have sz1 : W.heap.size + 1 + 1 + 1 + 1 + 1 < W1.heap.size := World.block_lt_of_cell? _ _ q21
  have st : ∀ V, Below W1.heap.size W1 V → V.cell? ⟨W.heap.size, 0, none⟩ = some (.int .i64 ra) ∧ V.cell? ⟨W.heap.size, 1, none⟩ = some (.slice aa la ca) ∧ V.cell? ⟨W.heap.size + 1, 0, none⟩ = some (.int .i64 px) ∧ V.cell? ⟨W.heap.size + 1, 1, none⟩ = some (.int .i64 py) ∧ V.cell? ⟨W.heap.size + 1 + 1, 0, none⟩ = some (.int .i64 ux) ∧ V.cell? ⟨W.heap.size + 1 + 1, 1, none⟩ = some (.int .i64 uy) ∧ V.cell? ⟨W.heap.size + 1 + 1 + 1, 0, none⟩ = some (.int .i64 rb) ∧ V.cell? ⟨W.heap.size + 1 + 1 + 1, 1, none⟩ = some (.slice ab lb cb) ∧ V.cell? ⟨W.heap.size + 1 + 1 + 1 + 1, 0, none⟩ = some (.int .i64 qx) ∧ V.cell? ⟨W.heap.size + 1 + 1 + 1 + 1, 1, none⟩ = some (.int .i64 qy) ∧ V.cell? ⟨W.heap.size + 1 + 1 + 1 + 1 + 1, 0, none⟩ = some (.int .i64 vx') ∧ V.cell? ⟨W.heap.size + 1 + 1 + 1 + 1 + 1, 1, none⟩ = some (.int .i64 vy') :=
    fun V hV => ⟨cell_below hV q10, cell_below hV q11, cell_below hV q12, cell_below hV q13, cell_below hV q14, cell_below hV q15, cell_below hV q16, cell_below hV q17, cell_below hV q18, cell_below hV q19, cell_below hV q20, cell_below hV q21⟩
  have Hst := Lib.hid st
  clear st q10 q11 q12 q13 q14 q15 q16 q17 q18 q19 q20 q21 hW1
  go_region_held3 (fun V => V.cell? ⟨W.heap.size, 0, none⟩ = some (.int .i64 ra) ∧ V.cell? ⟨W.heap.size, 1, none⟩ = some (.slice aa la ca) ∧ V.cell? ⟨W.heap.size + 1, 0, none⟩ = some (.int .i64 px) ∧ V.cell? ⟨W.heap.size + 1, 1, none⟩ = some (.int .i64 py) ∧ V.cell? ⟨W.heap.size + 1 + 1, 0, none⟩ = some (.int .i64 ux) ∧ V.cell? ⟨W.heap.size + 1 + 1, 1, none⟩ = some (.int .i64 uy) ∧ V.cell? ⟨W.heap.size + 1 + 1 + 1, 0, none⟩ = some (.int .i64 rb) ∧ V.cell? ⟨W.heap.size + 1 + 1 + 1, 1, none⟩ = some (.slice ab lb cb) ∧ V.cell? ⟨W.heap.size + 1 + 1 + 1 + 1, 0, none⟩ = some (.int .i64 qx) ∧ V.cell? ⟨W.heap.size + 1 + 1 + 1 + 1, 1, none⟩ = some (.int .i64 qy) ∧ V.cell? ⟨W.heap.size + 1 + 1 + 1 + 1 + 1, 0, none⟩ = some (.int .i64 vx') ∧ V.cell? ⟨W.heap.size + 1 + 1 + 1 + 1 + 1, 1, none⟩ = some (.int .i64 vy')) (exact Hst.out _ (by (repeat (first | (with_reducible exact Below.refl _ _) | (with_reducible refine Below.drew ?_) | (with_reducible refine below_drewN ?_ _) | (with_reducible refine Below.setCell ?_ (by first | (simp; done) | (simp; omega) | omega) _) | (with_reducible refine Below.alloc ?_ (by first | (simp; done) | (simp; omega) | omega) _) | (with_reducible refine Below.trans ?_ (Below.mono (by assumption) (by first | (simp; done) | (simp; omega) | omega))) | (with_reducible refine Below.trans ?_ (Below.mono (Later.below _) (by first | (simp; done) | (simp; omega) | omega)))))))
    (first | ((with_reducible refine (Hcga.out _).mono ?_); rintro e wA ⟨rfl, hbA⟩; obtain ⟨NA, hNA, hcA, hfA, hsA⟩ := bcell hbA; (try simp only [World.size_alloc, World.size_setCell, World.size_drew] at hNA)) | ((with_reducible refine (Hcgb.out _).mono ?_); rintro e wB ⟨rfl, hbB⟩; obtain ⟨NB, hNB, hcB, hfB, hsB⟩ := bcell hbB; (try simp only [World.size_alloc, World.size_setCell, World.size_drew] at hNB)) | ((with_reducible refine (Hcc.out _ (st0.trans (Below.mono (by (repeat (first | (with_reducible exact Below.refl _ _) | (with_reducible refine Below.drew ?_) | (with_reducible refine below_drewN ?_ _) | (with_reducible refine Below.setCell ?_ (by first | (simp; done) | (simp; omega) | omega) _) | (with_reducible refine Below.alloc ?_ (by first | (simp; done) | (simp; omega) | omega) _) | (with_reducible refine Below.trans ?_ (Below.mono (by assumption) (by first | (simp; done) | (simp; omega) | omega))) | (with_reducible refine Below.trans ?_ (Below.mono (Later.below _) (by first | (simp; done) | (simp; omega) | omega))))) : Below W1.heap.size W1 _) sz0))).mono ?_); rintro e wC ⟨rfl, hbC⟩; obtain ⟨NC, hNC, hcC, hfC, hsC⟩ := bcell hbC; (try simp only [World.size_alloc, World.size_setCell, World.size_drew] at hNC)))
  all_goals
    go_wp2
    go_ret
    exact ⟨rfl, st0.trans (Below.mono (by (repeat (first | (with_reducible exact Below.refl _ _) | (with_reducible refine Below.drew ?_) | (with_reducible refine below_drewN ?_ _) | (with_reducible refine Below.setCell ?_ (by first | (simp; done) | (simp; omega) | omega) _) | (with_reducible refine Below.alloc ?_ (by first | (simp; done) | (simp; omega) | omega) _) | (with_reducible refine Below.trans ?_ (Below.mono (by assumption) (by first | (simp; done) | (simp; omega) | omega))) | (with_reducible refine Below.trans ?_ (Below.mono (Later.below _) (by first | (simp; done) | (simp; omega) | omega))))) : Below W1.heap.size W1 _) sz0)⟩
set_option maxRecDepth 100000 in
set_option maxHeartbeats 4000000 in
theorem rearliest_s (hA : ShAt w ra aa la ca za) (hB : ShAt w rb ab lb cb zb) (hbd : TBd px py ux uy qx qy vx' vy') (W : World) (hW : Below w.heap.size w W) :
    Calls Try.prog 39 #[.agg #[.int .i64 ra, .slice aa la ca], .agg #[.int .i64 px, .int .i64 py], .agg #[.int .i64 ux, .int .i64 uy], .agg #[.int .i64 rb, .slice ab lb cb], .agg #[.int .i64 qx, .int .i64 qy], .agg #[.int .i64 vx', .int .i64 vy']] W fun e w' =>
      e = .returned (.int .i64 (erl (tch ra za px py ux uy rb zb qx qy vx' vy'))) ∧ Below W.heap.size W w' := by
  have ct : ∀ k : Nat, k ≤ 8 → ∀ V, Below W.heap.size W V → Calls Try.prog 70 #[.agg #[.int .i64 ra, .slice aa la ca], .agg #[.int .i64 px, .int .i64 py], .agg #[.int .i64 ux, .int .i64 uy], .agg #[.int .i64 rb, .slice ab lb cb], .agg #[.int .i64 qx, .int .i64 qy], .agg #[.int .i64 vx', .int .i64 vy'], .int .i64 k] V fun e w' => e = .returned (.bool (tch ra za px py ux uy rb zb qx qy vx' vy' k)) ∧ Below V.heap.size V w' :=
    fun k hk V hV => rtouch_s hA hB hbd k hk V (hW.trans (hV.mono hW.size))
  obtain ⟨t, ht⟩ : ∃ t, t = tch ra za px py ux uy rb zb qx qy vx' vy' := ⟨_, rfl⟩
  rw [← ht] at ct ⊢
  have Hct := Lib.hid ct; clear ct
  clear hA hB hbd ht
  have hal := alloc_if; have hfal := allocF_if
  go_enter Try.func39, Try.ntmps39
  go_upto_region 1 with (fail)
  refine name_world3 fun W1 hW1 => ?_
  have st0 : Below W.heap.size W W1 := by rw [hW1]; (repeat (first | (with_reducible exact Below.refl _ _) | (with_reducible refine Below.drew ?_) | (with_reducible refine below_drewN ?_ _) | (with_reducible refine Below.setCell ?_ (by first | (simp; done) | (simp; omega) | omega) _) | (with_reducible refine Below.alloc ?_ (by first | (simp; done) | (simp; omega) | omega) _) | (with_reducible refine Below.trans ?_ (Below.mono (by assumption) (by first | (simp; done) | (simp; omega) | omega))) | (with_reducible refine Below.trans ?_ (Below.mono (Later.below _) (by first | (simp; done) | (simp; omega) | omega)))))
  have q10 : W1.cell? ⟨W.heap.size, 0, none⟩ = some (.int .i64 ra) := by rw [hW1]; simp [hal, ↓IntWalk.iteOmega]
  have q11 : W1.cell? ⟨W.heap.size, 1, none⟩ = some (.slice aa la ca) := by rw [hW1]; simp [hal, ↓IntWalk.iteOmega]
  have q12 : W1.cell? ⟨W.heap.size + 1, 0, none⟩ = some (.int .i64 px) := by rw [hW1]; simp [hal, ↓IntWalk.iteOmega]
  have q13 : W1.cell? ⟨W.heap.size + 1, 1, none⟩ = some (.int .i64 py) := by rw [hW1]; simp [hal, ↓IntWalk.iteOmega]
  have q14 : W1.cell? ⟨W.heap.size + 1 + 1, 0, none⟩ = some (.int .i64 ux) := by rw [hW1]; simp [hal, ↓IntWalk.iteOmega]
  have q15 : W1.cell? ⟨W.heap.size + 1 + 1, 1, none⟩ = some (.int .i64 uy) := by rw [hW1]; simp [hal, ↓IntWalk.iteOmega]
  have q16 : W1.cell? ⟨W.heap.size + 1 + 1 + 1, 0, none⟩ = some (.int .i64 rb) := by rw [hW1]; simp [hal, ↓IntWalk.iteOmega]
  have q17 : W1.cell? ⟨W.heap.size + 1 + 1 + 1, 1, none⟩ = some (.slice ab lb cb) := by rw [hW1]; simp [hal, ↓IntWalk.iteOmega]
  have q18 : W1.cell? ⟨W.heap.size + 1 + 1 + 1 + 1, 0, none⟩ = some (.int .i64 qx) := by rw [hW1]; simp [hal, ↓IntWalk.iteOmega]
  have q19 : W1.cell? ⟨W.heap.size + 1 + 1 + 1 + 1, 1, none⟩ = some (.int .i64 qy) := by rw [hW1]; simp [hal, ↓IntWalk.iteOmega]
  have q20 : W1.cell? ⟨W.heap.size + 1 + 1 + 1 + 1 + 1, 0, none⟩ = some (.int .i64 vx') := by rw [hW1]; simp [hal, ↓IntWalk.iteOmega]
  have q21 : W1.cell? ⟨W.heap.size + 1 + 1 + 1 + 1 + 1, 1, none⟩ = some (.int .i64 vy') := by rw [hW1]; simp [hal, ↓IntWalk.iteOmega]
  have sz0 := st0.size
  have sz1 : W.heap.size + 1 + 1 + 1 + 1 + 1 < W1.heap.size := World.block_lt_of_cell? _ _ q21
  have st : ∀ V, Below W1.heap.size W1 V → V.cell? ⟨W.heap.size, 0, none⟩ = some (.int .i64 ra) ∧ V.cell? ⟨W.heap.size, 1, none⟩ = some (.slice aa la ca) ∧ V.cell? ⟨W.heap.size + 1, 0, none⟩ = some (.int .i64 px) ∧ V.cell? ⟨W.heap.size + 1, 1, none⟩ = some (.int .i64 py) ∧ V.cell? ⟨W.heap.size + 1 + 1, 0, none⟩ = some (.int .i64 ux) ∧ V.cell? ⟨W.heap.size + 1 + 1, 1, none⟩ = some (.int .i64 uy) ∧ V.cell? ⟨W.heap.size + 1 + 1 + 1, 0, none⟩ = some (.int .i64 rb) ∧ V.cell? ⟨W.heap.size + 1 + 1 + 1, 1, none⟩ = some (.slice ab lb cb) ∧ V.cell? ⟨W.heap.size + 1 + 1 + 1 + 1, 0, none⟩ = some (.int .i64 qx) ∧ V.cell? ⟨W.heap.size + 1 + 1 + 1 + 1, 1, none⟩ = some (.int .i64 qy) ∧ V.cell? ⟨W.heap.size + 1 + 1 + 1 + 1 + 1, 0, none⟩ = some (.int .i64 vx') ∧ V.cell? ⟨W.heap.size + 1 + 1 + 1 + 1 + 1, 1, none⟩ = some (.int .i64 vy') :=
    fun V hV => ⟨cell_below hV q10, cell_below hV q11, cell_below hV q12, cell_below hV q13, cell_below hV q14, cell_below hV q15, cell_below hV q16, cell_below hV q17, cell_below hV q18, cell_below hV q19, cell_below hV q20, cell_below hV q21⟩
  have Hst := Lib.hid st
  clear st q10 q11 q12 q13 q14 q15 q16 q17 q18 q19 q20 q21 hW1
  clear hal hfal
  go_wp2
  go_loopw [13] (fun i wr => ∃ k : Nat, k ≤ 9 ∧ i = .int .i64 k ∧ (∀ j, j < k → t j = false) ∧ Below W1.heap.size W1 wr) (fun i _ => 9 - (intOf i).toNat)
  case atStart => exact ⟨0, by omega, rfl, fun j hj => by omega, Below.refl _ _⟩
  case round =>
    obtain ⟨k, hk, rfl, hno, hB⟩ := hrel
    have hsB := hB.size
    have hBW : Below W.heap.size W wr := st0.trans (hB.mono sz0)
    have Hno := Lib.hid hno
    clear hno
    obtain ⟨q10, q11, q12, q13, q14, q15, q16, q17, q18, q19, q20, q21⟩ := Hst.out _ hB
    by_cases hlt : k ≤ 8
    · have c := Hct.out k hlt
      obtain ⟨tk, htk⟩ : ∃ b, b = t k := ⟨_, rfl⟩
      obtain ⟨K, hK⟩ : ∃ K : Int, K = (k : Int) := ⟨_, rfl⟩
      rw [← htk, ← hK] at c
      rw [← hK]
      have Hc := Lib.hid c; have Hhtk := Lib.hid htk; clear c htk
      have hltI : K ≤ 8 ∧ 0 ≤ K := by omega
      obtain ⟨hlt1, hlt2⟩ := hltI
      have HK := Lib.hid hK
      clear hK
      have hal := alloc_if; have hfal := allocF_if
      cases tk
      · go_wp2_with (((with_reducible refine (Hc.out _ hBW).mono ?_); rintro e wC ⟨rfl, hbC⟩; obtain ⟨NC, hNC, hcC, hfC, hsC⟩ := bcell hbC; (try simp only [World.size_alloc, World.size_setCell, World.size_drew] at hNC)))
        go_roundw
        case rel =>
          refine ⟨k + 1, by omega, by rw [HK.out]; go_num, fun j hj => ?_, hB.trans (Below.mono (?_ : Below wr.heap.size wr _) hsB)⟩
          · by_cases e : j = k
            · rw [e]; exact Hhtk.out.symm
            · exact Hno.out j (by omega)
          · (repeat (first | (with_reducible exact Below.refl _ _) | (with_reducible refine Below.drew ?_) | (with_reducible refine below_drewN ?_ _) | (with_reducible refine Below.setCell ?_ (by first | (simp; done) | (simp; omega) | omega) _) | (with_reducible refine Below.alloc ?_ (by first | (simp; done) | (simp; omega) | omega) _) | (with_reducible refine Below.trans ?_ (Below.mono (by assumption) (by first | (simp; done) | (simp; omega) | omega))) | (with_reducible refine Below.trans ?_ (Below.mono (Later.below _) (by first | (simp; done) | (simp; omega) | omega)))))
        case measure => have := HK.out; simp [intOf]; omega
      · by_cases hK0 : K = 0
        · subst hK0
          have h9 := HK.out
          have h8 : k = 0 := by omega
          have h7 := Hhtk.out.symm
          rw [h8] at h7
          have hf := erl_zero (t := t) h7
          clear h9 h8 h7
          go_wp2_with (((with_reducible refine (Hc.out _ hBW).mono ?_); rintro e wC ⟨rfl, hbC⟩; obtain ⟨NC, hNC, hcC, hfC, hsC⟩ := bcell hbC; (try simp only [World.size_alloc, World.size_setCell, World.size_drew] at hNC)))
          go_ret
          exact ⟨by rw [hf]; rfl, hBW.trans (Below.mono (by (repeat (first | (with_reducible exact Below.refl _ _) | (with_reducible refine Below.drew ?_) | (with_reducible refine below_drewN ?_ _) | (with_reducible refine Below.setCell ?_ (by first | (simp; done) | (simp; omega) | omega) _) | (with_reducible refine Below.alloc ?_ (by first | (simp; done) | (simp; omega) | omega) _) | (with_reducible refine Below.trans ?_ (Below.mono (by assumption) (by first | (simp; done) | (simp; omega) | omega))) | (with_reducible refine Below.trans ?_ (Below.mono (Later.below _) (by first | (simp; done) | (simp; omega) | omega))))) : Below wr.heap.size wr _) hBW.size)⟩
        · have hK9 := HK.out
          have hf := erl_hit (t := t) (k := k - 1) (by omega) (fun j hj => Hno.out j (by omega)) (by rw [show k - 1 + 1 = k by omega]; exact Hhtk.out.symm)
          clear hK9
          have hkb : (K == 0) = false := beq_eq_false_iff_ne.2 hK0
          have hv : IntKind.i64.wrap (IntKind.i64.wrap (K - 1) * 128) = 128 * ((k - 1 : Nat) : Int) := by rw [IntWalk.i64_in (K - 1) (by omega), IntWalk.i64_in _ (by omega)]; have := HK.out; omega
          go_wp2_with (((with_reducible refine (Hc.out _ hBW).mono ?_); rintro e wC ⟨rfl, hbC⟩; obtain ⟨NC, hNC, hcC, hfC, hsC⟩ := bcell hbC; (try simp only [World.size_alloc, World.size_setCell, World.size_drew] at hNC)))
          go_ret
          refine ⟨?_, hBW.trans (Below.mono (by (repeat (first | (with_reducible exact Below.refl _ _) | (with_reducible refine Below.drew ?_) | (with_reducible refine below_drewN ?_ _) | (with_reducible refine Below.setCell ?_ (by first | (simp; done) | (simp; omega) | omega) _) | (with_reducible refine Below.alloc ?_ (by first | (simp; done) | (simp; omega) | omega) _) | (with_reducible refine Below.trans ?_ (Below.mono (by assumption) (by first | (simp; done) | (simp; omega) | omega))) | (with_reducible refine Below.trans ?_ (Below.mono (Later.below _) (by first | (simp; done) | (simp; omega) | omega))))) : Below wr.heap.size wr _) hBW.size)⟩
          rw [hf]
          have h9 := HK.out
          exact congrArg (fun x => Ending.returned (Value.int .i64 x)) (show ((K - 1) * 128 : Int) = 128 * ((k - 1 : Nat) : Int) by omega)
    · obtain rfl : k = 9 := by omega
      have hf := erl_miss (t := t) (fun j hj => Hno.out j (by omega))
      go_wp2
      go_ret
      exact ⟨by rw [hf]; rfl, hBW⟩
set_option maxRecDepth 100000 in
set_option maxHeartbeats 4000000 in
theorem touch_s (hA : ShAt w ra aa la ca za) (hB : ShAt w rb ab lb cb zb) (hbd : TBd px py ux uy qx qy vx' vy') (k : Nat) (hk : k ≤ 8) (W : World) (hW : Below w.heap.size w W) :
    Calls Try.prog 41 #[.agg #[.int .i64 ra, .slice aa la ca, .int .i64 px, .int .i64 py, .int .i64 ux, .int .i64 uy], .agg #[.int .i64 rb, .slice ab lb cb, .int .i64 qx, .int .i64 qy, .int .i64 vx', .int .i64 vy'], .int .i64 k] W fun e w' =>
      e = .returned (.bool (tch ra za px py ux uy rb zb qx qy vx' vy' k)) ∧ Below W.heap.size W w' := by
  obtain ⟨⟨p1, p2, p3, p4⟩, ⟨u1, u2, u3, u4⟩, ⟨q1, q2, q3, q4⟩, ⟨v1, v2, v3, v4⟩⟩ := hbd
  have a1 := (at8_bd (x := px) (u := ux) (k := k) (by omega) (by omega)).1
  have a2 := (at8_bd (x := py) (u := uy) (k := k) (by omega) (by omega)).1
  have a3 := (at8_bd (x := qx) (u := vx') (k := k) (by omega) (by omega)).1
  have a4 := (at8_bd (x := qy) (u := vy') (k := k) (by omega) (by omega)).1
  have cma := vMulDiv_any ux uy k 8 (by omega) (by omega) (by omega) (by omega)
  have cmb := vMulDiv_any vx' vy' k 8 (by omega) (by omega) (by omega) (by omega)
  rw [fdv8, fdv8] at cma cmb
  have cga := add_any px py (ux * k / 8) (uy * k / 8) (by omega) (by omega) (by omega) (by omega)
  have cgb := add_any qx qy (vx' * k / 8) (vy' * k / 8) (by omega) (by omega) (by omega) (by omega)
  rw [show px + ux * k / 8 = at8 px ux k from rfl, show py + uy * k / 8 = at8 py uy k from rfl] at cga
  rw [show qx + vx' * k / 8 = at8 qx vx' k from rfl, show qy + vy' * k / 8 = at8 qy vy' k from rfl] at cgb
  have m1 := (at8_bd (x := px) (u := ux) (k := k) (by omega) (by omega)).2
  have m2 := (at8_bd (x := py) (u := uy) (k := k) (by omega) (by omega)).2
  have m3 := (at8_bd (x := qx) (u := vx') (k := k) (by omega) (by omega)).2
  have m4 := (at8_bd (x := qy) (u := vy') (k := k) (by omega) (by omega)).2
  have cc := fun V (hV : Below W.heap.size W V) => collide_at ((hA.later hW).later hV) ((hB.later hW).later hV) (px := at8 px ux k) (py := at8 py uy k) (qx := at8 qx vx' k) (qy := at8 qy vy' k) (by omega) (by omega)
  unfold tch
  clear m1 m2 m3 m4
  generalize at8 px ux k = X at *
  generalize at8 py uy k = Y at *
  generalize at8 qx vx' k = P at *
  generalize at8 qy vy' k = Q at *
  generalize cis ra za X Y rb zb P Q = i1 at *
  generalize cdp ra za X Y rb zb P Q = d1 at *
  generalize cnx ra za X Y rb zb P Q = x1 at *
  generalize cny ra za X Y rb zb P Q = y1 at *
  generalize ux * k / 8 = mx1 at *
  generalize uy * k / 8 = my1 at *
  generalize vx' * k / 8 = mx2 at *
  generalize vy' * k / 8 = my2 at *
  have Hcga := Lib.hid cga; have Hcgb := Lib.hid cgb; have Hcma := Lib.hid cma; have Hcmb := Lib.hid cmb; have Hcc := Lib.hid cc; clear cga cgb cma cmb cc
  clear hW hA hB a1 a2 a3 a4
  have hal := alloc_if; have hfal := allocF_if
  go_enter Try.func41, Try.ntmps41
  go_upto_region 1 with (fail)
  refine name_world3 fun W1 hW1 => ?_
  have st0 : Below W.heap.size W W1 := by rw [hW1]; (repeat (first | (with_reducible exact Below.refl _ _) | (with_reducible refine Below.drew ?_) | (with_reducible refine below_drewN ?_ _) | (with_reducible refine Below.setCell ?_ (by first | (simp; done) | (simp; omega) | omega) _) | (with_reducible refine Below.alloc ?_ (by first | (simp; done) | (simp; omega) | omega) _) | (with_reducible refine Below.trans ?_ (Below.mono (by assumption) (by first | (simp; done) | (simp; omega) | omega))) | (with_reducible refine Below.trans ?_ (Below.mono (Later.below _) (by first | (simp; done) | (simp; omega) | omega)))))
  have q10 : W1.cell? ⟨W.heap.size, 0, none⟩ = some (.int .i64 ra) := by rw [hW1]; simp [hal, ↓IntWalk.iteOmega]
  have q11 : W1.cell? ⟨W.heap.size, 1, none⟩ = some (.slice aa la ca) := by rw [hW1]; simp [hal, ↓IntWalk.iteOmega]
  have q12 : W1.cell? ⟨W.heap.size, 2, none⟩ = some (.int .i64 px) := by rw [hW1]; simp [hal, ↓IntWalk.iteOmega]
  have q13 : W1.cell? ⟨W.heap.size, 3, none⟩ = some (.int .i64 py) := by rw [hW1]; simp [hal, ↓IntWalk.iteOmega]
  have q14 : W1.cell? ⟨W.heap.size, 4, none⟩ = some (.int .i64 ux) := by rw [hW1]; simp [hal, ↓IntWalk.iteOmega]
  have q15 : W1.cell? ⟨W.heap.size, 5, none⟩ = some (.int .i64 uy) := by rw [hW1]; simp [hal, ↓IntWalk.iteOmega]
  have q16 : W1.cell? ⟨W.heap.size + 1, 0, none⟩ = some (.int .i64 rb) := by rw [hW1]; simp [hal, ↓IntWalk.iteOmega]
  have q17 : W1.cell? ⟨W.heap.size + 1, 1, none⟩ = some (.slice ab lb cb) := by rw [hW1]; simp [hal, ↓IntWalk.iteOmega]
  have q18 : W1.cell? ⟨W.heap.size + 1, 2, none⟩ = some (.int .i64 qx) := by rw [hW1]; simp [hal, ↓IntWalk.iteOmega]
  have q19 : W1.cell? ⟨W.heap.size + 1, 3, none⟩ = some (.int .i64 qy) := by rw [hW1]; simp [hal, ↓IntWalk.iteOmega]
  have q20 : W1.cell? ⟨W.heap.size + 1, 4, none⟩ = some (.int .i64 vx') := by rw [hW1]; simp [hal, ↓IntWalk.iteOmega]
  have q21 : W1.cell? ⟨W.heap.size + 1, 5, none⟩ = some (.int .i64 vy') := by rw [hW1]; simp [hal, ↓IntWalk.iteOmega]
  have sz0 := st0.size
  have sz1 : W.heap.size + 1 < W1.heap.size := World.block_lt_of_cell? _ _ q21
  have st : ∀ V, Below W1.heap.size W1 V → V.cell? ⟨W.heap.size, 0, none⟩ = some (.int .i64 ra) ∧ V.cell? ⟨W.heap.size, 1, none⟩ = some (.slice aa la ca) ∧ V.cell? ⟨W.heap.size, 2, none⟩ = some (.int .i64 px) ∧ V.cell? ⟨W.heap.size, 3, none⟩ = some (.int .i64 py) ∧ V.cell? ⟨W.heap.size, 4, none⟩ = some (.int .i64 ux) ∧ V.cell? ⟨W.heap.size, 5, none⟩ = some (.int .i64 uy) ∧ V.cell? ⟨W.heap.size + 1, 0, none⟩ = some (.int .i64 rb) ∧ V.cell? ⟨W.heap.size + 1, 1, none⟩ = some (.slice ab lb cb) ∧ V.cell? ⟨W.heap.size + 1, 2, none⟩ = some (.int .i64 qx) ∧ V.cell? ⟨W.heap.size + 1, 3, none⟩ = some (.int .i64 qy) ∧ V.cell? ⟨W.heap.size + 1, 4, none⟩ = some (.int .i64 vx') ∧ V.cell? ⟨W.heap.size + 1, 5, none⟩ = some (.int .i64 vy') :=
    fun V hV => ⟨cell_below hV q10, cell_below hV q11, cell_below hV q12, cell_below hV q13, cell_below hV q14, cell_below hV q15, cell_below hV q16, cell_below hV q17, cell_below hV q18, cell_below hV q19, cell_below hV q20, cell_below hV q21⟩
  have Hst := Lib.hid st
  clear st q10 q11 q12 q13 q14 q15 q16 q17 q18 q19 q20 q21 hW1
  go_region_held3 (fun V => V.cell? ⟨W.heap.size, 0, none⟩ = some (.int .i64 ra) ∧ V.cell? ⟨W.heap.size, 1, none⟩ = some (.slice aa la ca) ∧ V.cell? ⟨W.heap.size, 2, none⟩ = some (.int .i64 px) ∧ V.cell? ⟨W.heap.size, 3, none⟩ = some (.int .i64 py) ∧ V.cell? ⟨W.heap.size, 4, none⟩ = some (.int .i64 ux) ∧ V.cell? ⟨W.heap.size, 5, none⟩ = some (.int .i64 uy) ∧ V.cell? ⟨W.heap.size + 1, 0, none⟩ = some (.int .i64 rb) ∧ V.cell? ⟨W.heap.size + 1, 1, none⟩ = some (.slice ab lb cb) ∧ V.cell? ⟨W.heap.size + 1, 2, none⟩ = some (.int .i64 qx) ∧ V.cell? ⟨W.heap.size + 1, 3, none⟩ = some (.int .i64 qy) ∧ V.cell? ⟨W.heap.size + 1, 4, none⟩ = some (.int .i64 vx') ∧ V.cell? ⟨W.heap.size + 1, 5, none⟩ = some (.int .i64 vy')) (exact Hst.out _ (by (repeat (first | (with_reducible exact Below.refl _ _) | (with_reducible refine Below.drew ?_) | (with_reducible refine below_drewN ?_ _) | (with_reducible refine Below.setCell ?_ (by first | (simp; done) | (simp; omega) | omega) _) | (with_reducible refine Below.alloc ?_ (by first | (simp; done) | (simp; omega) | omega) _) | (with_reducible refine Below.trans ?_ (Below.mono (by assumption) (by first | (simp; done) | (simp; omega) | omega))) | (with_reducible refine Below.trans ?_ (Below.mono (Later.below _) (by first | (simp; done) | (simp; omega) | omega)))))))
    (first | ((with_reducible refine (Hcma.out _).mono ?_); rintro e wD ⟨rfl, hbD⟩; obtain ⟨ND, hND, hcD, hfD, hsD⟩ := bcell hbD; (try simp only [World.size_alloc, World.size_setCell, World.size_drew] at hND)) | ((with_reducible refine (Hcmb.out _).mono ?_); rintro e wE ⟨rfl, hbE⟩; obtain ⟨NE, hNE, hcE, hfE, hsE⟩ := bcell hbE; (try simp only [World.size_alloc, World.size_setCell, World.size_drew] at hNE)) | ((with_reducible refine (Hcga.out _).mono ?_); rintro e wA ⟨rfl, hbA⟩; obtain ⟨NA, hNA, hcA, hfA, hsA⟩ := bcell hbA; (try simp only [World.size_alloc, World.size_setCell, World.size_drew] at hNA)) | ((with_reducible refine (Hcgb.out _).mono ?_); rintro e wB ⟨rfl, hbB⟩; obtain ⟨NB, hNB, hcB, hfB, hsB⟩ := bcell hbB; (try simp only [World.size_alloc, World.size_setCell, World.size_drew] at hNB)) | ((with_reducible refine (Hcc.out _ (st0.trans (Below.mono (by (repeat (first | (with_reducible exact Below.refl _ _) | (with_reducible refine Below.drew ?_) | (with_reducible refine below_drewN ?_ _) | (with_reducible refine Below.setCell ?_ (by first | (simp; done) | (simp; omega) | omega) _) | (with_reducible refine Below.alloc ?_ (by first | (simp; done) | (simp; omega) | omega) _) | (with_reducible refine Below.trans ?_ (Below.mono (by assumption) (by first | (simp; done) | (simp; omega) | omega))) | (with_reducible refine Below.trans ?_ (Below.mono (Later.below _) (by first | (simp; done) | (simp; omega) | omega))))) : Below W1.heap.size W1 _) sz0))).mono ?_); rintro e wC ⟨rfl, hbC⟩; obtain ⟨NC, hNC, hcC, hfC, hsC⟩ := bcell hbC; (try simp only [World.size_alloc, World.size_setCell, World.size_drew] at hNC)))
  all_goals
    go_wp2
    go_ret
    exact ⟨rfl, st0.trans (Below.mono (by (repeat (first | (with_reducible exact Below.refl _ _) | (with_reducible refine Below.drew ?_) | (with_reducible refine below_drewN ?_ _) | (with_reducible refine Below.setCell ?_ (by first | (simp; done) | (simp; omega) | omega) _) | (with_reducible refine Below.alloc ?_ (by first | (simp; done) | (simp; omega) | omega) _) | (with_reducible refine Below.trans ?_ (Below.mono (by assumption) (by first | (simp; done) | (simp; omega) | omega))) | (with_reducible refine Below.trans ?_ (Below.mono (Later.below _) (by first | (simp; done) | (simp; omega) | omega))))) : Below W1.heap.size W1 _) sz0)⟩
set_option maxRecDepth 100000 in
set_option maxHeartbeats 4000000 in
theorem earl_s (hA : ShAt w ra aa la ca za) (hB : ShAt w rb ab lb cb zb) (hbd : TBd px py ux uy qx qy vx' vy') (W : World) (hW : Below w.heap.size w W) :
    Calls Try.prog 38 #[.agg #[.int .i64 ra, .slice aa la ca, .int .i64 px, .int .i64 py, .int .i64 ux, .int .i64 uy], .agg #[.int .i64 rb, .slice ab lb cb, .int .i64 qx, .int .i64 qy, .int .i64 vx', .int .i64 vy']] W fun e w' =>
      e = .returned (.int .i64 (erl (tch ra za px py ux uy rb zb qx qy vx' vy'))) ∧ Below W.heap.size W w' := by
  have ct := fun V (hV : Below W.heap.size W V) => earliest_s hA hB hbd V (hW.trans (hV.mono hW.size))
  generalize erl (tch ra za px py ux uy rb zb qx qy vx' vy') = f at *
  have Hct := Lib.hid ct; clear ct
  clear hA hB hbd
  have hal := alloc_if; have hfal := allocF_if
  go_enter Try.func38, Try.ntmps38
  go_wp2_with (((with_reducible refine (Hct.out _ (by (repeat (first | (with_reducible exact Below.refl _ _) | (with_reducible refine Below.drew ?_) | (with_reducible refine below_drewN ?_ _) | (with_reducible refine Below.setCell ?_ (by first | (simp; done) | (simp; omega) | omega) _) | (with_reducible refine Below.alloc ?_ (by first | (simp; done) | (simp; omega) | omega) _) | (with_reducible refine Below.trans ?_ (Below.mono (by assumption) (by first | (simp; done) | (simp; omega) | omega))) | (with_reducible refine Below.trans ?_ (Below.mono (Later.below _) (by first | (simp; done) | (simp; omega) | omega))))))).mono ?_); rintro e wC ⟨rfl, hbC⟩; obtain ⟨NC, hNC, hcC, hfC, hsC⟩ := bcell hbC; (try simp only [World.size_alloc, World.size_setCell, World.size_drew] at hNC)))
  go_ret
  exact ⟨rfl, by (repeat (first | (with_reducible exact Below.refl _ _) | (with_reducible refine Below.drew ?_) | (with_reducible refine below_drewN ?_ _) | (with_reducible refine Below.setCell ?_ (by first | (simp; done) | (simp; omega) | omega) _) | (with_reducible refine Below.alloc ?_ (by first | (simp; done) | (simp; omega) | omega) _) | (with_reducible refine Below.trans ?_ (Below.mono (by assumption) (by first | (simp; done) | (simp; omega) | omega))) | (with_reducible refine Below.trans ?_ (Below.mono (Later.below _) (by first | (simp; done) | (simp; omega) | omega)))))⟩
end
end Go.Proofs.Ytcgcapfppceggaa.To
