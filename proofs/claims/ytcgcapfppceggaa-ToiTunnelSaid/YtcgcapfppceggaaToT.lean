/-
  Plain laws of times of impact: a circle and a wall; the law's example.
  Conditions: stated in each law.
-/
import Derived.Test.YtcgcapfppceggaaToA
import Derived.Test.YtcgcapfppceggaaCoL
namespace Go.Proofs.Ytcgcapfppceggaa.To
open Go.RowKit Go.Proofs.Ytcgcapfppceggaa.FxMath Go.Proofs.Ytcgcapfppceggaa.FxA Go.Proofs.Ytcgcapfppceggaa.Qt Go.Proofs.Ytcgcapfppceggaa.Ve Go.Proofs.Ytcgcapfppceggaa.Sh Go.Proofs.Ytcgcapfppceggaa.Co
set_option linter.unusedVariables false
set_option linter.unusedSimpArgs false
theorem isq_sq (d : Int) (h : 0 ≤ d) : isq (d * d) = d := by
  have e : (d + 1) * (d + 1) = d * d + 2 * d + 1 := by grind
  exact isq_unique _ _ h (Int.le_refl _) (by omega)
theorem unit_px (d : Int) (h : 0 < d) : unx d 0 = 1024 ∧ uny d 0 = 0 := by
  have e : isq (d * d + 0 * 0) = d := by rw [Int.mul_zero, Int.add_zero]; exact isq_sq d (by omega)
  have h1 : nmx d 0 = 1024 := by unfold nmx; rw [e, fdv_pos _ _ h]; exact Int.mul_ediv_cancel_left _ (by omega)
  have h2 : nmy d 0 = 0 := by unfold nmy; rw [e, fdv_pos _ _ h]; simp
  unfold unx uny
  rw [h1, h2]
  decide
theorem unit_nx (d : Int) (h : 0 < d) : unx (-d) 0 = -1024 ∧ uny (-d) 0 = 0 := by
  have e : isq (-d * -d + 0 * 0) = d := by rw [Int.mul_zero, Int.add_zero, Int.neg_mul_neg]; exact isq_sq d (by omega)
  have h1 : nmx (-d) 0 = -1024 := by unfold nmx; rw [e, fdv_pos _ _ h, show -d * 1024 = d * -1024 by omega]; exact Int.mul_ediv_cancel_left _ (by omega)
  have h2 : nmy (-d) 0 = 0 := by unfold nmy; rw [e, fdv_pos _ _ h]; simp
  unfold unx uny
  rw [h1, h2]
  decide
theorem unit_py (d : Int) (h : 0 < d) : unx 0 d = 0 ∧ uny 0 d = 1024 := by
  have e : isq (0 * 0 + d * d) = d := by rw [Int.mul_zero, Int.zero_add]; exact isq_sq d (by omega)
  have h1 : nmy 0 d = 1024 := by unfold nmy; rw [e, fdv_pos _ _ h]; exact Int.mul_ediv_cancel_left _ (by omega)
  have h2 : nmx 0 d = 0 := by unfold nmx; rw [e, fdv_pos _ _ h]; simp
  unfold unx uny
  rw [h1, h2]
  decide
theorem unit_ny (d : Int) (h : 0 < d) : unx 0 (-d) = 0 ∧ uny 0 (-d) = -1024 := by
  have e : isq (0 * 0 + -d * -d) = d := by rw [Int.mul_zero, Int.zero_add, Int.neg_mul_neg]; exact isq_sq d (by omega)
  have h1 : nmy 0 (-d) = -1024 := by unfold nmy; rw [e, fdv_pos _ _ h, show -d * 1024 = d * -1024 by omega]; exact Int.mul_ediv_cancel_left _ (by omega)
  have h2 : nmx 0 (-d) = 0 := by unfold nmx; rw [e, fdv_pos _ _ h]; simp
  unfold unx uny
  rw [h1, h2]
  decide
/-! Two circles on a line. -/
theorem line_circles (R X : Int) (hR : 1 ≤ R) (hX : X ≤ 0) : cis R [] X 0 R [] 0 0 = decide (-(2 * R) < X) := by
  have hu : unx (0 - X) (0 - 0) = 1024 ∧ uny (0 - X) (0 - 0) = 0 := by
    by_cases h0 : X = 0
    · subst h0
      have e : isq (0 * 0 + 0 * 0) = 0 := isq_unique _ _ (by decide) (by decide) (by decide)
      show unx 0 0 = 1024 ∧ uny 0 0 = 0
      have h1 : nmx 0 0 = 0 := by unfold nmx; rw [e]; exact fdv_zero _
      have h2 : nmy 0 0 = 0 := by unfold nmy; rw [e]; exact fdv_zero _
      unfold unx uny
      rw [h1, h2]
      decide
    · exact unit_px (0 - X) (by omega)
  have hax : axs [] [] (0 - X) (0 - 0) = [(1024, 0)] := by
    show [] ++ ([] ++ [(unx (0 - X) (0 - 0), uny (0 - X) (0 - 0))]) = _
    rw [hu.1, hu.2]
    rfl
  unfold cis
  rw [hax, Bool.eq_iff_iff]
  unfold ovl bx0 bx1 by0 by1 dpt ph pl phi plo
  simp only [List.length_nil, if_true, List.all_cons, List.all_nil, Bool.and_true, Bool.and_eq_true, decide_eq_true_eq]
  omega
theorem lives_val1 : erl (tch 10 [] (-100) 0 160 0 10 [] 0 0 0 0) = 512 := by
  have key : ∀ k : Nat, k ≤ 5 → tch 10 [] (-100) 0 160 0 10 [] 0 0 0 0 k = decide (-(2 * 10) < -100 + 20 * (k : Int)) := fun k hk => by
    unfold tch
    have e1 : at8 (-100) 160 k = -100 + 20 * (k : Int) := by unfold at8; omega
    have e2 : at8 0 0 (k : Int) = 0 := by unfold at8; simp
    rw [e1, e2]
    exact line_circles 10 _ (by decide) (by omega)
  exact erl_hit (k := 4) (by decide) (fun j hj => by rw [key j (by omega), decide_eq_false_iff_not]; omega) (by rw [key 5 (by omega)]; decide)
theorem lives_val2 : erl (tch 10 [] (-100) 0 16 0 10 [] 0 0 0 0) = 1024 := by
  refine erl_miss fun k hk => ?_
  unfold tch
  have e1 : at8 (-100) 16 k = -100 + 2 * (k : Int) := by unfold at8; omega
  have e2 : at8 0 0 (k : Int) = 0 := by unfold at8; simp
  rw [e1, e2, line_circles 10 _ (by decide) (by omega), decide_eq_false_iff_not]
  omega
/-! A circle and a wall. -/
def wal (h : Int) : List (Int × Int) := [(-h, -4000), (h, -4000), (h, 4000), (-h, 4000)]
theorem wal_vx (h : Int) : vx (wal h) 0 = -h ∧ vx (wal h) 1 = h ∧ vx (wal h) 2 = h ∧ vx (wal h) 3 = -h := ⟨rfl, rfl, rfl, rfl⟩
theorem wal_vy (h : Int) : vy (wal h) 0 = -4000 ∧ vy (wal h) 1 = -4000 ∧ vy (wal h) 2 = 4000 ∧ vy (wal h) 3 = 4000 := ⟨rfl, rfl, rfl, rfl⟩
theorem wal_eax (h : Int) (h0 : 0 < h) : eax (wal h) = [(0, -1024), (1024, 0), (0, 1024), (-1024, 0)] := by
  have l : (wal h).length = 4 := rfl
  have e0 : edn (wal h) 0 = (0, -1024) := by
    have := unit_ny (2 * h) (by omega)
    show (unx (-4000 - -4000) (-h - h), uny (-4000 - -4000) (-h - h)) = _
    rw [show (-4000 : Int) - -4000 = 0 by omega, show -h - h = -(2 * h) by omega, this.1, this.2]
  have e1 : edn (wal h) 1 = (1024, 0) := by
    have := unit_px 8000 (by omega)
    show (unx (4000 - -4000) (h - h), uny (4000 - -4000) (h - h)) = _
    rw [show (4000 : Int) - -4000 = 8000 by omega, show h - h = 0 by omega, this.1, this.2]
  have e2 : edn (wal h) 2 = (0, 1024) := by
    have := unit_py (2 * h) (by omega)
    show (unx (4000 - 4000) (h - -h), uny (4000 - 4000) (h - -h)) = _
    rw [show (4000 : Int) - 4000 = 0 by omega, show h - -h = 2 * h by omega, this.1, this.2]
  have e3 : edn (wal h) 3 = (-1024, 0) := by
    have := unit_nx 8000 (by omega)
    have e4 : (3 + 1) % (wal h).length = 0 := by rw [l]
    unfold edn edx edy
    rw [e4, (wal_vy h).1, (wal_vy h).2.2.2, (wal_vx h).1, (wal_vx h).2.2.2, show (-4000 : Int) - 4000 = -8000 by omega, show -h - -h = 0 by omega, this.1, this.2]
  unfold eax
  rw [l]
  show [edn (wal h) 0, edn (wal h) 1, edn (wal h) 2, edn (wal h) 3] = _
  rw [e0, e1, e2, e3]
theorem wal_prj (h u v : Int) : pl 0 (wal h) 0 0 (u, v) = min (min (min ((-h * u + -4000 * v) / 1024) ((h * u + -4000 * v) / 1024)) ((h * u + 4000 * v) / 1024)) ((-h * u + 4000 * v) / 1024) ∧
    ph 0 (wal h) 0 0 (u, v) = max (max (max ((-h * u + -4000 * v) / 1024) ((h * u + -4000 * v) / 1024)) ((h * u + 4000 * v) / 1024)) ((-h * u + 4000 * v) / 1024) := by
  have e : ∀ i, prj (wal h) 0 0 u v i = (vx (wal h) i * u + vy (wal h) i * v) / 1024 := fun i => by unfold prj; rw [Int.zero_add, Int.zero_add]
  constructor
  · show mnTo (prj (wal h) 0 0 u v) 3 = _
    simp only [mnTo, e, (wal_vx h).1, (wal_vx h).2.1, (wal_vx h).2.2.1, (wal_vx h).2.2.2, (wal_vy h).1, (wal_vy h).2.1, (wal_vy h).2.2.1, (wal_vy h).2.2.2]
  · show mxTo (prj (wal h) 0 0 u v) 3 = _
    simp only [mxTo, e, (wal_vx h).1, (wal_vx h).2.1, (wal_vx h).2.2.1, (wal_vx h).2.2.2, (wal_vy h).1, (wal_vy h).2.1, (wal_vy h).2.2.1, (wal_vy h).2.2.2]
/-- The axis to a vertex never parts a circle and a wall that overlap. -/
theorem wal_vertex (r h X : Int) (hr : 10 ≤ r ∧ r ≤ 200) (hh : 1 ≤ h ∧ h ≤ 200) (hX : -(h + r) < X ∧ X < h + r) (tx ty : Int) (htx : -600 ≤ tx ∧ tx ≤ 600) (hty : ty = 4000 ∨ ty = -4000) :
    0 < dpt r [] X 0 0 (wal h) 0 0 (unx tx ty, uny tx ty) := by
  have hty2 : ty * ty = 16000000 := by rcases hty with rfl | rfl <;> decide
  have htx2 := mul_bd (a := tx) (b := tx) (A := 600) (B := 600) htx.1 htx.2 htx.1 htx.2
  have sx := sq0 tx
  have hs := isq_spec (tx * tx + ty * ty) (by omega)
  have hn := isq_nonneg (tx * tx + ty * ty)
  obtain ⟨l, hl⟩ : ∃ l, l = isq (tx * tx + ty * ty) := ⟨_, rfl⟩
  rw [← hl] at hs hn
  have l1 : 3999 < l := by
    have : 4000 < l + 1 := lt_of_sq (by omega) (by omega)
    omega
  have l2 : l < 4046 := lt_of_sq (by omega) (by omega)
  have eu : nmx tx ty = tx * 1024 / l := by unfold nmx; rw [← hl]; exact fdv_pos _ _ (by omega)
  have ev : nmy tx ty = ty * 1024 / l := by unfold nmy; rw [← hl]; exact fdv_pos _ _ (by omega)
  have u1 : -154 ≤ tx * 1024 / l := (Int.le_ediv_iff_mul_le (by omega)).2 (by omega)
  have u2 : tx * 1024 / l < 155 := (Int.ediv_lt_iff_lt_mul (by omega)).2 (by omega)
  have v1 : (ty = 4000 → 1012 ≤ ty * 1024 / l ∧ ty * 1024 / l < 1025) ∧ (ty = -4000 → -1025 ≤ ty * 1024 / l ∧ ty * 1024 / l < -1011) := by
    constructor
    · intro h
      exact ⟨(Int.le_ediv_iff_mul_le (by omega)).2 (by omega), (Int.ediv_lt_iff_lt_mul (by omega)).2 (by omega)⟩
    · intro h
      exact ⟨(Int.le_ediv_iff_mul_le (by omega)).2 (by omega), (Int.ediv_lt_iff_lt_mul (by omega)).2 (by omega)⟩
  have hne : ¬ (nmx tx ty = 0 ∧ nmy tx ty = 0) := by rw [eu, ev]; omega
  have e1 : unx tx ty = tx * 1024 / l := by unfold unx; rw [if_neg hne, eu]
  have e2 : uny tx ty = ty * 1024 / l := by unfold uny; rw [if_neg hne, ev]
  rw [e1, e2]
  generalize tx * 1024 / l = u at *
  generalize ty * 1024 / l = v at *
  have p1 := mul_bd (a := X) (b := u) (A := 400) (B := 155) (by omega) (by omega) (by omega) (by omega)
  have p2 := mul_bd (a := h) (b := u) (A := 200) (B := 155) (by omega) (by omega) (by omega) (by omega)
  obtain ⟨w1, w2⟩ := wal_prj h u v
  unfold dpt
  rw [w1, w2]
  have n1 : -h * u = -(h * u) := Int.neg_mul _ _
  rw [n1]
  unfold ph pl phi plo
  simp only [List.length_nil, if_true]
  rw [Int.zero_mul, Int.add_zero]
  generalize X * u = a at *
  generalize h * u = b at *
  clear w1 w2 n1 e1 e2 hne eu ev hs hl htx2 sx hty2
  rcases hty with h1 | h1
  · obtain ⟨v2, v3⟩ := v1.1 h1
    omega
  · obtain ⟨v2, v3⟩ := v1.2 h1
    omega
theorem wal_cis (r h X : Int) (hr : 10 ≤ r ∧ r ≤ 200) (hh : 1 ≤ h ∧ h ≤ 200) : cis r [] X 0 0 (wal h) 0 0 = decide (-(h + r) < X ∧ X < h + r) := by
  have hdx : ∀ u : Int, (u = 1024 ∨ u = -1024) → (0 < dpt r [] X 0 0 (wal h) 0 0 (u, 0) ↔ (-(h + r) < X ∧ X < h + r)) := by
    intro u hu
    obtain ⟨w1, w2⟩ := wal_prj h u 0
    unfold dpt
    rw [w1, w2]
    unfold ph pl phi plo
    simp only [List.length_nil, if_true]
    rcases hu with rfl | rfl <;> omega
  have hdy : ∀ v : Int, (v = 1024 ∨ v = -1024) → 0 < dpt r [] X 0 0 (wal h) 0 0 (0, v) := by
    intro v hv
    obtain ⟨w1, w2⟩ := wal_prj h 0 v
    unfold dpt
    rw [w1, w2]
    unfold ph pl phi plo
    simp only [List.length_nil, if_true]
    rcases hv with rfl | rfl <;> omega
  have hax : axs [] (wal h) (0 - X) (0 - 0) = [(0, -1024), (1024, 0), (0, 1024), (-1024, 0), (unx (tvx (wal h) (0 - X) (0 - 0)) (tvy (wal h) (0 - X) (0 - 0)), uny (tvx (wal h) (0 - X) (0 - 0)) (tvy (wal h) (0 - X) (0 - 0)))] := by
    unfold axs
    rw [wal_eax h (by omega)]
    rfl
  have hn := argl_le (sqd (wal h) (0 - X) (0 - 0)) 3
  have hni : nri (wal h) (0 - X) (0 - 0) = argl (sqd (wal h) (0 - X) (0 - 0)) 3 := rfl
  have hvx : (vx (wal h) (nri (wal h) (0 - X) (0 - 0)) = h ∨ vx (wal h) (nri (wal h) (0 - X) (0 - 0)) = -h) ∧ (vy (wal h) (nri (wal h) (0 - X) (0 - 0)) = 4000 ∨ vy (wal h) (nri (wal h) (0 - X) (0 - 0)) = -4000) := by
    rw [hni]
    obtain ⟨i, hi⟩ : ∃ i, i = argl (sqd (wal h) (0 - X) (0 - 0)) 3 := ⟨_, rfl⟩
    rw [← hi] at hn ⊢
    obtain rfl | rfl | rfl | rfl : i = 0 ∨ i = 1 ∨ i = 2 ∨ i = 3 := by omega
    · exact ⟨.inr rfl, .inr rfl⟩
    · exact ⟨.inl rfl, .inr rfl⟩
    · exact ⟨.inl rfl, .inl rfl⟩
    · exact ⟨.inr rfl, .inl rfl⟩
  unfold cis
  rw [hax, Bool.eq_iff_iff]
  simp only [Bool.and_eq_true, List.all_eq_true, decide_eq_true_eq]
  constructor
  · rintro ⟨_, hall⟩
    exact (hdx 1024 (.inl rfl)).1 (hall (1024, 0) (by simp))
  · intro hX
    refine ⟨?_, ?_⟩
    · have b0 : bx0 0 (wal h).length (wal h) 0 = min (min (min (0 + -h) (0 + h)) (0 + h)) (0 + -h) := rfl
      have b1 : bx1 0 (wal h).length (wal h) 0 = max (max (max (0 + -h) (0 + h)) (0 + h)) (0 + -h) := rfl
      have b2 : by0 0 (wal h).length (wal h) 0 = min (min (min (0 + -4000) (0 + -4000)) (0 + 4000)) (0 + 4000) := rfl
      have b3 : by1 0 (wal h).length (wal h) 0 = max (max (max (0 + -4000) (0 + -4000)) (0 + 4000)) (0 + 4000) := rfl
      unfold ovl
      rw [b0, b1, b2, b3]
      unfold bx0 bx1 by0 by1
      simp only [List.length_nil, if_true, Bool.and_eq_true, decide_eq_true_eq]
      omega
    · intro n hn'
      simp only [List.mem_cons, List.not_mem_nil, or_false] at hn'
      rcases hn' with rfl | rfl | rfl | rfl | rfl
      · exact hdy _ (.inr rfl)
      · exact (hdx _ (.inl rfl)).2 hX
      · exact hdy _ (.inl rfl)
      · exact (hdx _ (.inr rfl)).2 hX
      · refine wal_vertex r h X hr hh hX _ _ ?_ ?_
        · unfold tvx
          omega
        · unfold tvy
          omega
/-- A circle that would get past the wall's left side is stopped. -/
theorem tunnel_law (r h x v : Int) (hr : 10 ≤ r ∧ r ≤ 200) (hh : 1 ≤ h ∧ h ≤ 200) (hx : x ≤ -(h + r + 1)) (hv : 0 ≤ v ∧ v ≤ 8 * (2 * (h + r) - 2)) :
    (-(h + r) < x + v → erl (tch r [] x 0 v 0 0 (wal h) 0 0 0 0) < 1024) ∧ (¬ -(h + r) < x + v → erl (tch r [] x 0 v 0 0 (wal h) 0 0 0 0) = 1024) := by
  have key : ∀ k : Nat, tch r [] x 0 v 0 0 (wal h) 0 0 0 0 k = decide (-(h + r) < at8 x v k ∧ at8 x v k < h + r) := fun k => by
    unfold tch
    have e2 : at8 0 0 (k : Int) = 0 := by unfold at8; simp
    rw [e2]
    exact wal_cis r h _ hr hh
  have h0 : at8 x v (0 : Nat) = x := by unfold at8; simp
  have h8 : at8 x v (8 : Nat) = x + v := by unfold at8; omega
  have hstep : ∀ k : Nat, at8 x v k ≤ at8 x v (k + 1 : Nat) ∧ at8 x v (k + 1 : Nat) ≤ at8 x v k + (2 * (h + r) - 2) := fun k => by
    unfold at8
    have e : v * ((k + 1 : Nat) : Int) = v * (k : Int) + v := by rw [Int.natCast_add, Int.mul_add]; simp
    rw [e]
    generalize v * (k : Int) = m
    omega
  constructor
  · intro hp
    rcases erl_spec (tch r [] x 0 v 0 0 (wal h) 0 0 0 0) with ⟨ht, _⟩ | ⟨k, hk, _, _, he⟩ | ⟨hall, _⟩
    · rw [key 0, decide_eq_true_eq, h0] at ht
      omega
    · rw [he]; omega
    · exfalso
      have hbelow : ∀ k : Nat, k ≤ 8 → at8 x v k ≤ -(h + r) := by
        intro k
        induction k with
        | zero => intro _; rw [h0]; omega
        | succ k ih =>
          intro hk
          have i1 := ih (by omega)
          have i2 := hstep k
          have i3 := hall (k + 1) hk
          rw [key (k + 1), decide_eq_false_iff_not] at i3
          omega
      have := hbelow 8 (by omega)
      rw [h8] at this
      omega
  · intro hp
    refine erl_miss fun k hk => ?_
    rw [key k, decide_eq_false_iff_not]
    have hm : ∀ n : Nat, k + n ≤ 8 → at8 x v k ≤ at8 x v (k + n : Nat) := by
      intro n
      induction n with
      | zero => intro _; exact Int.le_refl _
      | succ n ih => intro hn; have := ih (by omega); have := (hstep (k + n)).1; rw [← Nat.add_assoc]; omega
    have := hm (8 - k) (by omega)
    rw [show k + (8 - k) = 8 by omega, h8] at this
    omega
end Go.Proofs.Ytcgcapfppceggaa.To
