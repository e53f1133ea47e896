/-
  Plain laws of convex outlines: covered points and projections; scaling; another first vertex; the reversed order.
  Conditions: none.
-/
import Derived.Test.YtcgcapfppceggaaShE
import Derived.Test.YtcgcapfppceggaaShG
import Derived.Test.YtcgcapfppceggaaShI
namespace Go.Proofs.Ytcgcapfppceggaa.Sh
open Go.Proofs.Ytcgcapfppceggaa.FxMath Go.Proofs.Ytcgcapfppceggaa.FxA Go.Proofs.Ytcgcapfppceggaa.Ve
set_option linter.unusedVariables false
/-! The least and the greatest of a row of numbers. -/
theorem mnTo_le (f : Nat → Int) : ∀ (k i : Nat), i ≤ k → mnTo f k ≤ f i
  | 0, i, h => by obtain rfl : i = 0 := by omega
                  exact Int.le_refl _
  | k + 1, i, h => by
    rw [mnTo]
    by_cases hi : i = k + 1
    · subst hi; omega
    · have := mnTo_le f k i (by omega); omega
theorem le_mxTo (f : Nat → Int) : ∀ (k i : Nat), i ≤ k → f i ≤ mxTo f k
  | 0, i, h => by obtain rfl : i = 0 := by omega
                  exact Int.le_refl _
  | k + 1, i, h => by
    rw [mxTo]
    by_cases hi : i = k + 1
    · subst hi; omega
    · have := le_mxTo f k i (by omega); omega
theorem mnTo_at (f : Nat → Int) : ∀ k, ∃ i, i ≤ k ∧ mnTo f k = f i
  | 0 => ⟨0, Nat.le_refl _, rfl⟩
  | k + 1 => by
    obtain ⟨i, hi, he⟩ := mnTo_at f k
    rw [mnTo]
    by_cases h : mnTo f k ≤ f (k + 1)
    · exact ⟨i, by omega, by omega⟩
    · exact ⟨k + 1, Nat.le_refl _, by omega⟩
theorem mxTo_at (f : Nat → Int) : ∀ k, ∃ i, i ≤ k ∧ mxTo f k = f i
  | 0 => ⟨0, Nat.le_refl _, rfl⟩
  | k + 1 => by
    obtain ⟨i, hi, he⟩ := mxTo_at f k
    rw [mxTo]
    by_cases h : f (k + 1) ≤ mxTo f k
    · exact ⟨i, by omega, by omega⟩
    · exact ⟨k + 1, Nat.le_refl _, by omega⟩
theorem mnTo_add (f : Nat → Int) (c : Int) : ∀ k, mnTo (fun i => c + f i) k = c + mnTo f k
  | 0 => rfl
  | k + 1 => by rw [mnTo, mnTo, mnTo_add f c k]; omega
theorem mxTo_add (f : Nat → Int) (c : Int) : ∀ k, mxTo (fun i => c + f i) k = c + mxTo f k
  | 0 => rfl
  | k + 1 => by rw [mxTo, mxTo, mxTo_add f c k]; omega
/-- A row with the same numbers has the same least one. -/
theorem mnTo_same (f g : Nat → Int) (k : Nat) (h : ∀ i, i ≤ k → ∃ j, j ≤ k ∧ g j = f i) (h' : ∀ i, i ≤ k → ∃ j, j ≤ k ∧ f j = g i) : mnTo f k = mnTo g k := by
  obtain ⟨i, hi, he⟩ := mnTo_at f k
  obtain ⟨i', hi', he'⟩ := mnTo_at g k
  obtain ⟨j, hj, hf⟩ := h i hi
  obtain ⟨j', hj', hf'⟩ := h' i' hi'
  have := mnTo_le g k j hj
  have := mnTo_le f k j' hj'
  omega
theorem mxTo_same (f g : Nat → Int) (k : Nat) (h : ∀ i, i ≤ k → ∃ j, j ≤ k ∧ g j = f i) (h' : ∀ i, i ≤ k → ∃ j, j ≤ k ∧ f j = g i) : mxTo f k = mxTo g k := by
  obtain ⟨i, hi, he⟩ := mxTo_at f k
  obtain ⟨i', hi', he'⟩ := mxTo_at g k
  obtain ⟨j, hj, hf⟩ := h i hi
  obtain ⟨j', hj', hf'⟩ := h' i' hi'
  have := le_mxTo g k j hj
  have := le_mxTo f k j' hj'
  omega
/-- One of the first k numbers is B. -/
def tk (f : Nat → Int) (B : Int) (k : Nat) : Bool := (List.range k).any fun i => decide (f i = B)
theorem tk_succ (f : Nat → Int) (B : Int) (k : Nat) : tk f B (k + 1) = (tk f B k || decide (f k = B)) := by simp [tk, List.range_succ]
theorem tk_mn (f : Nat → Int) (k : Nat) (h : 1 ≤ k) : tk f (mnTo f (k - 1)) k = true := by
  obtain ⟨i, hi, he⟩ := mnTo_at f (k - 1)
  unfold tk
  rw [List.any_eq_true]
  exact ⟨i, List.mem_range.2 (by omega), by rw [he]; simp⟩
theorem tk_mx (f : Nat → Int) (k : Nat) (h : 1 ≤ k) : tk f (mxTo f (k - 1)) k = true := by
  obtain ⟨i, hi, he⟩ := mxTo_at f (k - 1)
  unfold tk
  rw [List.any_eq_true]
  exact ⟨i, List.mem_range.2 (by omega), by rw [he]; simp⟩
/-! What cov and cvx say. -/
theorem cov_iff (zs : List (Int × Int)) (P Q : Int) : cov zs P Q = true ↔ ∀ i, i < zs.length → 0 ≤ crs (vx zs i) (vy zs i) (vx zs ((i + 1) % zs.length)) (vy zs ((i + 1) % zs.length)) P Q := by
  unfold cov
  rw [List.all_eq_true]
  constructor
  · intro h i hi; simpa using h i (List.mem_range.2 hi)
  · intro h i hi; simpa using h i (List.mem_range.1 hi)
theorem edgB_iff (zs : List (Int × Int)) (i j : Nat) : edgB zs i j = true ↔ 0 < crs (vx zs i) (vy zs i) (vx zs j) (vy zs j) 0 0 ∧ ∀ k, k < zs.length → k ≠ i → k ≠ j → 0 < crs (vx zs i) (vy zs i) (vx zs j) (vy zs j) (vx zs k) (vy zs k) := by
  constructor
  · intro h
    unfold edgB at h
    rw [Bool.and_eq_true, List.all_eq_true] at h
    refine ⟨by simpa using h.1, fun k hk h1 h2 => ?_⟩
    have := h.2 k (List.mem_range.2 hk)
    simpa [h1, h2] using this
  · rintro ⟨h0, h⟩; exact edgB_true h0 h
theorem cvx_iff (zs : List (Int × Int)) : cvx zs = true ↔ ∀ i, i < zs.length → edgB zs i ((i + 1) % zs.length) = true := by
  unfold cvx
  rw [List.all_eq_true]
  constructor
  · intro h i hi; exact h i (List.mem_range.2 hi)
  · intro h i hi; exact h i (List.mem_range.1 hi)
/-! Scaling. -/
theorem crs_scale (s a b c d e f : Int) : crs (s * a) (s * b) (s * c) (s * d) (s * e) (s * f) = s * s * crs a b c d e f := by
  unfold crs; grind
theorem pos_scale {s c : Int} (hs : 1 ≤ s) (h : 0 < c) : 0 < s * s * c := Int.mul_pos (Int.mul_pos (by omega) (by omega)) h
theorem cvx_scl {s : Int} {zs : List (Int × Int)} (hs : 1 ≤ s) (h : cvx zs = true) : cvx (scl s zs) = true := by
  rw [cvx_iff] at h ⊢
  intro i hi
  rw [scl_length] at hi
  have hg := h i hi
  rw [edgB_iff] at hg ⊢
  simp only [vx_scl, vy_scl, scl_length]
  refine ⟨?_, fun k hk h1 h2 => ?_⟩
  · have := crs_scale s (vx zs i) (vy zs i) (vx zs ((i + 1) % zs.length)) (vy zs ((i + 1) % zs.length)) 0 0
    simp only [Int.mul_zero] at this
    rw [this]; exact pos_scale hs hg.1
  · rw [crs_scale]; exact pos_scale hs (hg.2 k hk h1 h2)
theorem bd_scl {s : Int} {zs : List (Int × Int)} (hs : 1 ≤ s) (hs2 : s ≤ 10000) (h : Bd zs 3) : Bd (scl s zs) 32768 := by
  intro i
  have b := h i
  have m1 := mul_bd (a := s) (b := vx zs i) (A := 10000) (B := 3) (by omega) hs2 (by omega) (by omega)
  have m2 := mul_bd (a := s) (b := vy zs i) (A := 10000) (B := 3) (by omega) hs2 (by omega) (by omega)
  rw [vx_scl, vy_scl]
  omega
/-! Another first vertex. -/
theorem mod2 (a n : Nat) (h : a < 2 * n) : a % n = if a < n then a else a - n := by
  split
  · exact Nat.mod_eq_of_lt ‹_›
  · rw [Nat.mod_eq_sub_mod (by omega)]; exact Nat.mod_eq_of_lt (by omega)
theorem vx_rot (zs : List (Int × Int)) (k i : Nat) (hk : k < zs.length) (hi : i < zs.length) : vx (rot zs k) i = vx zs ((i + k) % zs.length) := by
  rw [mod2 _ _ (by omega)]
  unfold vx rot
  rw [List.getD_eq_getElem?_getD, List.getD_eq_getElem?_getD, List.getElem?_append]
  simp only [List.length_drop, List.getElem?_drop, List.getElem?_take]
  split
  · rw [if_pos (by omega), Nat.add_comm k i]
  · rw [if_pos (by omega), if_neg (by omega), show i - (zs.length - k) = i + k - zs.length by omega]
theorem vy_rot (zs : List (Int × Int)) (k i : Nat) (hk : k < zs.length) (hi : i < zs.length) : vy (rot zs k) i = vy zs ((i + k) % zs.length) := by
  rw [mod2 _ _ (by omega)]
  unfold vy rot
  rw [List.getD_eq_getElem?_getD, List.getD_eq_getElem?_getD, List.getElem?_append]
  simp only [List.length_drop, List.getElem?_drop, List.getElem?_take]
  split
  · rw [if_pos (by omega), Nat.add_comm k i]
  · rw [if_pos (by omega), if_neg (by omega), show i - (zs.length - k) = i + k - zs.length by omega]
theorem bd_rot {zs : List (Int × Int)} {k : Nat} {B : Int} (hk : k < zs.length) (hB : 0 ≤ B) (h : Bd zs B) : Bd (rot zs k) B := by
  intro i
  by_cases hi : i < zs.length
  · rw [vx_rot zs k i hk hi, vy_rot zs k i hk hi]; exact h _
  · have e : (rot zs k).length = zs.length := rot_length zs k
    have : vx (rot zs k) i = 0 ∧ vy (rot zs k) i = 0 := by
      unfold vx vy
      rw [List.getD_eq_getElem?_getD, List.getElem?_eq_none (by omega)]
      exact ⟨rfl, rfl⟩
    omega
/-- The index behind the turned index. -/
theorem turn_next {n i k : Nat} (hi : i < n) (hk : k < n) : ((i + 1) % n + k) % n = ((i + k) % n + 1) % n := by
  rw [Nat.mod_add_mod, Nat.mod_add_mod]
  congr 1
  omega
theorem turn_inj {n i j k : Nat} (hi : i < n) (hj : j < n) (hk : k < n) (h : (i + k) % n = (j + k) % n) : i = j := by
  rw [mod2 _ _ (by omega), mod2 _ _ (by omega)] at h
  split at h <;> split at h <;> omega
theorem turn_back {n i k : Nat} (hi : i < n) (hk : k < n) : ∃ j, j < n ∧ (j + k) % n = i := by
  by_cases h : k ≤ i
  · exact ⟨i - k, by omega, by rw [show i - k + k = i by omega]; exact Nat.mod_eq_of_lt hi⟩
  · exact ⟨i + n - k, by omega, by rw [mod2 _ _ (by omega), if_neg (by omega)]; omega⟩
theorem cvx_rot {zs : List (Int × Int)} {k : Nat} (hk : k < zs.length) (h : cvx zs = true) : cvx (rot zs k) = true := by
  rw [cvx_iff] at h ⊢
  intro i hi
  rw [rot_length] at hi ⊢
  have hn : (i + 1) % zs.length < zs.length := Nat.mod_lt _ (by omega)
  have hg := h ((i + k) % zs.length) (Nat.mod_lt _ (by omega))
  rw [edgB_iff] at hg ⊢
  rw [vx_rot zs k i hk hi, vy_rot zs k i hk hi, vx_rot zs k _ hk hn, vy_rot zs k _ hk hn, turn_next hi hk]
  refine ⟨hg.1, fun j hj h1 h2 => ?_⟩
  rw [rot_length] at hj
  rw [vx_rot zs k j hk hj, vy_rot zs k j hk hj]
  refine hg.2 _ (Nat.mod_lt _ (by omega)) (fun he => h1 (turn_inj hj hi hk he)) (fun he => h2 ?_)
  rw [← turn_next hi hk] at he
  exact turn_inj hj hn hk he
theorem cov_rot (zs : List (Int × Int)) (k : Nat) (hk : k < zs.length) (P Q : Int) : cov (rot zs k) P Q = cov zs P Q := by
  rw [Bool.eq_iff_iff, cov_iff, cov_iff, rot_length]
  constructor
  · intro h i hi
    obtain ⟨j, hj, he⟩ := turn_back hi hk
    have hn : (j + 1) % zs.length < zs.length := Nat.mod_lt _ (by omega)
    have := h j hj
    rw [vx_rot zs k j hk hj, vy_rot zs k j hk hj, vx_rot zs k _ hk hn, vy_rot zs k _ hk hn, turn_next hj hk, he] at this
    exact this
  · intro h i hi
    have hn : (i + 1) % zs.length < zs.length := Nat.mod_lt _ (by omega)
    rw [vx_rot zs k i hk hi, vy_rot zs k i hk hi, vx_rot zs k _ hk hn, vy_rot zs k _ hk hn, turn_next hi hk]
    exact h _ (Nat.mod_lt _ (by omega))
/-- Least and greatest of a number that depends on the vertex do not depend on the first vertex. -/
theorem mn_rot (zs : List (Int × Int)) (k : Nat) (hk : k < zs.length) (g : Int → Int → Int) : mnTo (fun i => g (vx (rot zs k) i) (vy (rot zs k) i)) (zs.length - 1) = mnTo (fun i => g (vx zs i) (vy zs i)) (zs.length - 1) := by
  refine mnTo_same _ _ _ (fun i hi => ?_) (fun i hi => ?_)
  · refine ⟨(i + k) % zs.length, by have := Nat.mod_lt (i + k) (show 0 < zs.length by omega); omega, ?_⟩
    simp only [vx_rot zs k i hk (by omega), vy_rot zs k i hk (by omega)]
  · obtain ⟨j, hj, he⟩ := turn_back (show i < zs.length by omega) hk
    refine ⟨j, by omega, ?_⟩
    simp only [vx_rot zs k j hk hj, vy_rot zs k j hk hj, he]
theorem mx_rot (zs : List (Int × Int)) (k : Nat) (hk : k < zs.length) (g : Int → Int → Int) : mxTo (fun i => g (vx (rot zs k) i) (vy (rot zs k) i)) (zs.length - 1) = mxTo (fun i => g (vx zs i) (vy zs i)) (zs.length - 1) := by
  refine mxTo_same _ _ _ (fun i hi => ?_) (fun i hi => ?_)
  · refine ⟨(i + k) % zs.length, by have := Nat.mod_lt (i + k) (show 0 < zs.length by omega); omega, ?_⟩
    simp only [vx_rot zs k i hk (by omega), vy_rot zs k i hk (by omega)]
  · obtain ⟨j, hj, he⟩ := turn_back (show i < zs.length by omega) hk
    refine ⟨j, by omega, ?_⟩
    simp only [vx_rot zs k j hk hj, vy_rot zs k j hk hj, he]
/-! The generated polygons. -/
theorem cvx_outl (i : Nat) : cvx (outl i) = true := by unfold outl; split <;> decide
theorem shZ_good (n : Int) : (shZ n = [] ∧ 1 ≤ shR n ∧ shR n ≤ 32768) ∨ (shR n = 0 ∧ 3 ≤ (shZ n).length ∧ (shZ n).length ≤ 6 ∧ Bd (shZ n) 32768 ∧ cvx (shZ n) = true) := by
  rcases sh_cases n with h | ⟨hr, i, s, j, hi, h1, h2, hj, he⟩
  · exact .inl h
  · right
    have hl := outl_len i
    have hj' : j < (scl s (outl i)).length := by rw [scl_length]; exact hj
    rw [he, rot_length, scl_length]
    exact ⟨hr, hl.1, hl.2, bd_rot hj' (by decide) (bd_scl h1 h2 (outl_bd i)), cvx_rot hj' (cvx_scl h1 (cvx_outl i))⟩
/-! Covered points. -/
/-- A covered point is, in every direction, not beyond all vertices. -/
theorem sup_le {zs : List (Int × Int)} (h : cvx zs = true) (hn : 3 ≤ zs.length) {P Q : Int} (hc : cov zs P Q = true) (a b : Int) : ∃ i, i < zs.length ∧ P * a + Q * b ≤ vx zs i * a + vy zs i * b := by
  obtain ⟨i, hi, hm⟩ := mxTo_at (fun j => vx zs j * a + vy zs j * b) (zs.length - 1)
  have hi' : i < zs.length := by omega
  have top : ∀ j, j < zs.length → vx zs j * a + vy zs j * b ≤ vx zs i * a + vy zs i * b := fun j hj => hm ▸ le_mxTo (fun j => vx zs j * a + vy zs j * b) (zs.length - 1) j (by omega)
  refine ⟨i, hi', ?_⟩
  have hx : (i + 1) % zs.length < zs.length := Nat.mod_lt _ (by omega)
  obtain ⟨p, hp, hpi, hne⟩ : ∃ p, p < zs.length ∧ (p + 1) % zs.length = i ∧ (i + 1) % zs.length ≠ p := by
    by_cases h0 : i = 0
    · refine ⟨zs.length - 1, by omega, ?_, ?_⟩
      · rw [show zs.length - 1 + 1 = zs.length by omega, Nat.mod_self, h0]
      · rw [h0, Nat.mod_eq_of_lt (by omega)]; omega
    · refine ⟨i - 1, by omega, ?_, ?_⟩
      · rw [show i - 1 + 1 = i by omega]; exact Nat.mod_eq_of_lt hi'
      · rw [mod2 _ _ (by omega)]; split <;> omega
  have hne2 : (i + 1) % zs.length ≠ i := by rw [mod2 _ _ (by omega)]; split <;> omega
  rw [cov_iff] at hc
  rw [cvx_iff] at h
  have c1 := hc i hi'
  have c0 := hc p hp
  have D := ((edgB_iff _ _ _).1 (h p hp)).2 _ hx hne (by rw [hpi]; exact hne2)
  rw [hpi] at c0 D
  have t1 := top _ hx
  have t0 := top p hp
  generalize (i + 1) % zs.length = x at *
  generalize vx zs i = ix at *
  generalize vy zs i = iy at *
  generalize vx zs x = xx at *
  generalize vy zs x = xy at *
  generalize vx zs p = px at *
  generalize vy zs p = py at *
  have e : crs px py ix iy xx xy * (P * a + Q * b - (ix * a + iy * b)) = crs px py ix iy P Q * ((xx * a + xy * b) - (ix * a + iy * b)) - crs ix iy xx xy P Q * ((ix * a + iy * b) - (px * a + py * b)) := by unfold crs; grind
  have n1 : crs px py ix iy P Q * ((xx * a + xy * b) - (ix * a + iy * b)) ≤ 0 := Int.mul_nonpos_of_nonneg_of_nonpos c0 (by omega)
  have n2 : 0 ≤ crs ix iy xx xy P Q * ((ix * a + iy * b) - (px * a + py * b)) := Int.mul_nonneg c1 (by omega)
  have n3 : crs px py ix iy xx xy * (P * a + Q * b - (ix * a + iy * b)) ≤ 0 := by omega
  by_cases hgt : P * a + Q * b ≤ ix * a + iy * b
  · exact hgt
  · have := Int.mul_pos D (show 0 < P * a + Q * b - (ix * a + iy * b) by omega)
    omega
theorem cov_prj {zs : List (Int × Int)} (h : cvx zs = true) (hn : 3 ≤ zs.length) {P Q : Int} (hc : cov zs P Q = true) (a b : Int) : (∃ i, i < zs.length ∧ P * a + Q * b ≤ vx zs i * a + vy zs i * b) ∧ ∃ i, i < zs.length ∧ vx zs i * a + vy zs i * b ≤ P * a + Q * b := by
  refine ⟨sup_le h hn hc a b, ?_⟩
  obtain ⟨i, hi, he⟩ := sup_le h hn hc (-a) (-b)
  refine ⟨i, hi, ?_⟩
  simp only [Int.mul_neg] at he
  omega
theorem cov_box {zs : List (Int × Int)} (h : cvx zs = true) (hn : 3 ≤ zs.length) {P Q : Int} (hc : cov zs P Q = true) : mnTo (vx zs) (zs.length - 1) ≤ P ∧ P ≤ mxTo (vx zs) (zs.length - 1) ∧ mnTo (vy zs) (zs.length - 1) ≤ Q ∧ Q ≤ mxTo (vy zs) (zs.length - 1) := by
  obtain ⟨⟨i, hi, hi'⟩, j, hj, hj'⟩ := cov_prj h hn hc 1 0
  obtain ⟨⟨k, hk, hk'⟩, l, hl, hl'⟩ := cov_prj h hn hc 0 1
  simp only [Int.mul_one, Int.mul_zero, Int.add_zero, Int.zero_add] at hi' hj' hk' hl'
  have := le_mxTo (vx zs) (zs.length - 1) i (by omega)
  have := mnTo_le (vx zs) (zs.length - 1) j (by omega)
  have := le_mxTo (vy zs) (zs.length - 1) k (by omega)
  have := mnTo_le (vy zs) (zs.length - 1) l (by omega)
  omega
/-- The polygon covers the origin, its vertices, and the midpoint of two covered points. -/
theorem cov_zero {zs : List (Int × Int)} (h : cvx zs = true) : cov zs 0 0 = true := by
  rw [cov_iff]
  rw [cvx_iff] at h
  intro i hi
  have := ((edgB_iff _ _ _).1 (h i hi)).1
  omega
theorem cov_vertex {zs : List (Int × Int)} (h : cvx zs = true) (k : Nat) (hk : k < zs.length) : cov zs (vx zs k) (vy zs k) = true := by
  rw [cov_iff]
  rw [cvx_iff] at h
  intro i hi
  by_cases h1 : k = i
  · subst h1; unfold crs; simp
  · by_cases h2 : k = (i + 1) % zs.length
    · rw [← h2]; unfold crs; rw [Int.mul_comm (vx zs k - vx zs i)]; omega
    · have := ((edgB_iff _ _ _).1 (h i hi)).2 k hk h1 h2
      omega
theorem cov_mid {zs : List (Int × Int)} {P Q R S M N : Int} (h1 : cov zs P Q = true) (h2 : cov zs R S = true) (hm : 2 * M = P + R) (hn : 2 * N = Q + S) : cov zs M N = true := by
  rw [cov_iff] at h1 h2 ⊢
  intro i hi
  have a := h1 i hi
  have b := h2 i hi
  generalize (i + 1) % zs.length = x at *
  have e : 2 * crs (vx zs i) (vy zs i) (vx zs x) (vy zs x) M N = crs (vx zs i) (vy zs i) (vx zs x) (vy zs x) P Q + crs (vx zs i) (vy zs i) (vx zs x) (vy zs x) R S := by unfold crs; grind
  omega
/-- The polygon with its vertices in the reversed order is not convex. -/
theorem cvx_reverse {zs bs : List (Int × Int)} (h : cvx zs = true) (hn : 3 ≤ zs.length) (hl : bs.length = zs.length) (hv : ∀ i, i < zs.length → vx bs i = vx zs (zs.length - 1 - i) ∧ vy bs i = vy zs (zs.length - 1 - i)) : cvx bs = false := by
  rw [Bool.eq_false_iff]
  intro hb
  rw [cvx_iff] at h hb
  have b := ((edgB_iff _ _ _).1 (hb 0 (by omega))).1
  have a := ((edgB_iff _ _ _).1 (h (zs.length - 2) (by omega))).1
  rw [hl, Nat.mod_eq_of_lt (by omega), (hv 0 (by omega)).1, (hv 0 (by omega)).2, (hv (0 + 1) (by omega)).1, (hv (0 + 1) (by omega)).2, show zs.length - 1 - (0 + 1) = zs.length - 2 by omega, show zs.length - 1 - 0 = zs.length - 1 by omega] at b
  rw [Nat.mod_eq_of_lt (by omega), show zs.length - 2 + 1 = zs.length - 1 by omega] at a
  generalize vx zs (zs.length - 1) = p at *
  generalize vy zs (zs.length - 1) = q at *
  generalize vx zs (zs.length - 2) = r at *
  generalize vy zs (zs.length - 2) = s at *
  have : crs p q r s 0 0 = - crs r s p q 0 0 := by unfold crs; grind
  omega
/-! Circles. -/
theorem sq_le_abs {P r : Int} (hr : 0 ≤ r) (h : P * P ≤ r * r) : -r ≤ P ∧ P ≤ r := by
  constructor
  · refine Int.not_lt.1 fun hc => ?_
    have := sq_lt (a := r) (b := -P) hr (by omega)
    rw [Int.neg_mul_neg] at this
    omega
  · refine Int.not_lt.1 fun hc => ?_
    have := sq_lt (a := r) (b := P) hr (by omega)
    omega
theorem sq0 (x : Int) : 0 ≤ x * x := by
  rcases Int.le_total 0 x with h | h
  · exact Int.mul_nonneg h h
  · exact Int.mul_nonneg_of_nonpos_of_nonpos h h
theorem disc_box {P Q r : Int} (hr : 0 ≤ r) (h : P * P + Q * Q ≤ r * r) : -r ≤ P ∧ P ≤ r ∧ -r ≤ Q ∧ Q ≤ r := by
  have hp := sq0 P
  have hq := sq0 Q
  have a := sq_le_abs (P := P) hr (by omega)
  have b := sq_le_abs (P := Q) hr (by omega)
  omega
theorem disc_mid {P Q R S M N r : Int} (h1 : P * P + Q * Q ≤ r * r) (h2 : R * R + S * S ≤ r * r) (hm : 2 * M = P + R) (hn : 2 * N = Q + S) : M * M + N * N ≤ r * r := by
  have a := sq0 (P - R)
  have b := sq0 (Q - S)
  have e : 4 * (M * M + N * N) + ((P - R) * (P - R) + (Q - S) * (Q - S)) = 2 * (P * P + Q * Q) + 2 * (R * R + S * S) := by
    have e1 : 4 * (M * M) = (P + R) * (P + R) := by rw [← hm]; grind
    have e2 : 4 * (N * N) = (Q + S) * (Q + S) := by rw [← hn]; grind
    have e3 : (P + R) * (P + R) + (P - R) * (P - R) = 2 * (P * P) + 2 * (R * R) := by grind
    have e4 : (Q + S) * (Q + S) + (Q - S) * (Q - S) = 2 * (Q * Q) + 2 * (S * S) := by grind
    omega
  omega
theorem disc_prj {P Q r a b : Int} (hr : 0 ≤ r) (h : P * P + Q * Q ≤ r * r) (ha : -720 ≤ a ∧ a ≤ 720) (hb : -720 ≤ b ∧ b ≤ 720) : -(1024 * r) ≤ P * a + Q * b ∧ P * a + Q * b ≤ 1024 * r := by
  have e : (P * P + Q * Q) * (a * a + b * b) = (P * a + Q * b) * (P * a + Q * b) + (P * b - Q * a) * (P * b - Q * a) := by grind
  have s := sq0 (P * b - Q * a)
  have m1 := mul_bd (a := a) (b := a) (A := 720) (B := 720) ha.1 ha.2 ha.1 ha.2
  have m2 := mul_bd (a := b) (b := b) (A := 720) (B := 720) hb.1 hb.2 hb.1 hb.2
  have n1 := sq0 a
  have n2 := sq0 b
  have n3 := sq0 P
  have n4 := sq0 Q
  have u : (P * P + Q * Q) * (a * a + b * b) ≤ (r * r) * 1048576 := Int.mul_le_mul h (by omega) (by omega) (by have := sq0 r; omega)
  refine sq_le_abs (r := 1024 * r) (by omega) ?_
  have : 1024 * r * (1024 * r) = (r * r) * 1048576 := by grind
  omega
end Go.Proofs.Ytcgcapfppceggaa.Sh
