/-
  Plain laws of quantiles: the sorted samples, how many are at most v, the ring of the last 16 samples.
  Conditions: stated in each law.
-/
import Derived.Test.YtcgcapfppceggaaFxA
namespace Go.Proofs.Ytcgcapfppceggaa.Ji
open Go.Proofs.Ytcgcapfppceggaa.FxA
set_option linter.unusedVariables false
set_option linter.unusedSimpArgs false
def srt (K : List Int) : List Int := K.mergeSort fun x y => decide (x ≤ y)
/-- How many samples are at most v. -/
def atm (K : List Int) (v : Int) : Nat := K.countP fun x => decide (x ≤ v)
/-- A permille value in its range. -/
def cl (p : Int) : Int := max 0 (min p 1000)
/-- The index of the quantile among n sorted samples. -/
def rk (n : Nat) (p : Int) : Nat := (max ((cl p * (n : Int) + 999) / 1000) 1 - 1).toNat
def qnt (K : List Int) (p : Int) : Int := if K.length = 0 then 0 else (srt K).getD (rk K.length p) 0
theorem cl_bd (p : Int) : 0 ≤ cl p ∧ cl p ≤ 1000 := by unfold cl; omega
theorem cl_mul (n : Nat) (p : Int) : 0 ≤ cl p * (n : Int) ∧ cl p * (n : Int) ≤ 1000 * (n : Int) := by
  have := cl_bd p
  exact ⟨Int.mul_nonneg this.1 (by omega), Int.mul_le_mul_of_nonneg_right this.2 (by omega)⟩
theorem rk_lt {n : Nat} (h : 1 ≤ n) (p : Int) : rk n p < n := by
  have := cl_mul n p
  unfold rk
  generalize cl p * (n : Int) = c at *
  omega
theorem rk_le_iff {n : Nat} (p : Int) (c : Nat) (hc : 1 ≤ c) : rk n p < c ↔ cl p * (n : Int) ≤ 1000 * (c : Int) := by
  have := cl_mul n p
  unfold rk
  generalize cl p * (n : Int) = q at *
  omega
theorem rk_mono {n : Nat} {p q : Int} (h : p ≤ q) : rk n p ≤ rk n q := by
  have hc : cl p ≤ cl q := by unfold cl; omega
  have := Int.mul_le_mul_of_nonneg_right hc (show (0 : Int) ≤ (n : Int) by omega)
  have := cl_mul n p
  unfold rk
  generalize cl p * (n : Int) = a at *
  generalize cl q * (n : Int) = b at *
  omega
theorem srt_perm (K : List Int) : (srt K).Perm K := List.mergeSort_perm _ _
theorem srt_len (K : List Int) : (srt K).length = K.length := (srt_perm K).length_eq
theorem srt_le (K : List Int) : (srt K).Pairwise fun x y => x ≤ y := by
  have h := List.pairwise_mergeSort (le := fun x y : Int => decide (x ≤ y)) (by intro a b c h1 h2; simp only [decide_eq_true_eq] at *; omega) (by intro a b; simp only [Bool.or_eq_true, decide_eq_true_eq]; omega) K
  exact h.imp fun h => by simpa using h
theorem sorted_count : ∀ (S : List Int), S.Pairwise (fun x y => x ≤ y) → ∀ (i : Nat) (v : Int), i < S.length → (S.getD i 0 ≤ v ↔ i < S.countP fun x => decide (x ≤ v))
  | [], _, i, v, hi => by simp at hi
  | x :: t, h, i, v, hi => by
    rw [List.pairwise_cons] at h
    by_cases hx : x ≤ v
    · rw [List.countP_cons_of_pos (by simpa using hx)]
      cases i with
      | zero => simp only [List.getD_cons_zero]; omega
      | succ i =>
        rw [List.getD_cons_succ]
        have := sorted_count t h.2 i v (by simpa using hi)
        rw [this]; omega
    · have h0 : (x :: t).countP (fun x => decide (x ≤ v)) = 0 := by
        rw [List.countP_eq_zero]
        intro y hy
        rcases List.mem_cons.1 hy with rfl | hy
        · simpa using hx
        · have := h.1 y hy
          simp only [decide_eq_true_eq]; omega
      rw [h0]
      constructor
      · intro hle
        cases i with
        | zero => simp only [List.getD_cons_zero] at hle; omega
        | succ i =>
          rw [List.getD_cons_succ] at hle
          have hi' : i < t.length := by simpa using hi
          have := h.1 (t.getD i 0) (by rw [List.getD_eq_getElem?_getD, List.getElem?_eq_getElem hi']; exact List.getElem_mem hi')
          omega
      · intro h; omega
/-- The one law that all others follow from: a quantile is at most v just where enough samples are. -/
theorem qnt_le_iff {K : List Int} (h : K ≠ []) (p v : Int) : qnt K p ≤ v ↔ rk K.length p < atm K v := by
  have hl : K.length ≠ 0 := fun e => h (List.eq_nil_of_length_eq_zero e)
  unfold qnt atm
  rw [if_neg hl, sorted_count _ (srt_le K) _ v (by rw [srt_len]; exact rk_lt (by omega) p)]
  rw [(srt_perm K).countP_eq]
theorem qnt_mem {K : List Int} (h : K ≠ []) (p : Int) : qnt K p ∈ K := by
  have hl : K.length ≠ 0 := fun e => h (List.eq_nil_of_length_eq_zero e)
  have hi := rk_lt (n := K.length) (by omega) p
  unfold qnt
  rw [if_neg hl]
  refine (srt_perm K).mem_iff.1 ?_
  rw [List.getD_eq_getElem?_getD, List.getElem?_eq_getElem (by rw [srt_len]; exact hi)]
  exact List.getElem_mem _
theorem le_of_all {a b : Int} (h : ∀ v, b ≤ v → a ≤ v) : a ≤ b := h b (Int.le_refl b)
theorem qnt_mono {K : List Int} {p q : Int} (h : p ≤ q) : qnt K p ≤ qnt K q := by
  by_cases hK : K = []
  · subst hK; simp [qnt]
  · rw [qnt_le_iff hK]
    have := (qnt_le_iff hK q (qnt K q)).1 (Int.le_refl _)
    have := rk_mono (n := K.length) h
    omega
theorem atm_mono_v (K : List Int) {u v : Int} (h : u ≤ v) : atm K u ≤ atm K v := by
  unfold atm
  refine List.countP_mono_left fun x _ hx => ?_
  simp only [decide_eq_true_eq] at *; omega
theorem atm_le (K : List Int) (v : Int) : atm K v ≤ K.length := List.countP_le_length
theorem atm_pos {K : List Int} {x : Int} (h : x ∈ K) : 1 ≤ atm K x := by
  unfold atm
  have := (List.countP_pos_iff (p := fun y => decide (y ≤ x))).2 ⟨x, h, by simp⟩
  omega
/-- Samples that are pointwise at most others: their quantiles are at most the others'. -/
theorem atm_pointwise : ∀ (K M : List Int), K.length = M.length → (∀ i, i < K.length → K.getD i 0 ≤ M.getD i 0) → ∀ v, atm M v ≤ atm K v
  | [], [], _, _, v => Nat.le_refl _
  | [], _ :: _, h, _, v => by cases h
  | _ :: _, [], h, _, v => by cases h
  | x :: K, y :: M, h, hp, v => by
    have h0 := hp 0 (by simp)
    simp only [List.getD_cons_zero] at h0
    have ih := atm_pointwise K M (by simpa using h) (fun i hi => by have := hp (i + 1) (by simpa using hi); simpa only [List.getD_cons_succ] using this) v
    unfold atm at *
    rw [List.countP_cons, List.countP_cons]
    simp only [decide_eq_true_eq]
    split <;> split <;> omega
theorem qnt_pointwise {K M : List Int} (hl : K.length = M.length) (hp : ∀ i, i < K.length → K.getD i 0 ≤ M.getD i 0) (p : Int) : qnt K p ≤ qnt M p := by
  by_cases hK : K = []
  · subst hK
    have : M = [] := List.eq_nil_of_length_eq_zero hl.symm
    subst this; exact Int.le_refl _
  · have hM : M ≠ [] := fun e => hK (List.eq_nil_of_length_eq_zero (by rw [hl, e]; rfl))
    rw [qnt_le_iff hK]
    have := (qnt_le_iff hM p (qnt M p)).1 (Int.le_refl _)
    have := atm_pointwise K M hl hp (qnt M p)
    rw [hl]; omega
theorem qnt_perm {K M : List Int} (h : K.Perm M) (p : Int) : qnt K p = qnt M p := by
  by_cases hK : K = []
  · subst hK
    have : M = [] := h.symm.eq_nil
    subst this; rfl
  · have hM : M ≠ [] := fun e => hK (by subst e; exact h.eq_nil)
    have ha : ∀ v, atm K v = atm M v := fun v => h.countP_eq _
    have e : ∀ v, qnt K p ≤ v ↔ qnt M p ≤ v := fun v => by rw [qnt_le_iff hK, qnt_le_iff hM, ha, h.length_eq]
    have a := (e (qnt M p)).2 (Int.le_refl _)
    have b := (e (qnt K p)).1 (Int.le_refl _)
    omega
/-- The samples' bounds. -/
theorem qnt_bd {K : List Int} (h : ∀ x ∈ K, 0 ≤ x ∧ x ≤ 60) (p : Int) : 0 ≤ qnt K p ∧ qnt K p ≤ 60 := by
  by_cases hK : K = []
  · subst hK; simp [qnt]
  · exact h _ (qnt_mem hK p)
/-- The largest sample. -/
theorem qnt_top {K : List Int} (x : Int) (h : x ∈ K) : x ≤ qnt K 1000 := by
  have hK : K ≠ [] := fun e => by subst e; cases h
  have h1 := (qnt_le_iff hK 1000 (qnt K 1000)).1 (Int.le_refl _)
  have hr : rk K.length 1000 = K.length - 1 := by
    have : 1 ≤ K.length := by have := List.length_pos_of_mem h; omega
    have hc : cl 1000 = 1000 := by unfold cl; omega
    unfold rk
    rw [hc]; omega
  have hl := List.length_pos_of_mem h
  have ha := atm_le K (qnt K 1000)
  have : atm K (qnt K 1000) = K.length := by omega
  unfold atm at this
  rw [List.countP_eq_length] at this
  simpa using this x h
theorem qnt_top_mem {K : List Int} (h : K ≠ []) : qnt K 1000 ∈ K := qnt_mem h _
/-- One sample alone. -/
theorem qnt_one (x p : Int) : qnt [x] p = x := by
  have := qnt_mem (K := [x]) (by simp) p
  simpa using this
/-- Of each share at least that many are at most the quantile, and fewer are less than it. -/
theorem qnt_cover {K : List Int} (hK : K ≠ []) {p : Int} (h0 : 1 ≤ p) (h1 : p ≤ 1000) : p * (K.length : Int) ≤ 1000 * (atm K (qnt K p) : Int) ∧ 1000 * (atm K (qnt K p - 1) : Int) < p * (K.length : Int) := by
  have hp : cl p = p := by unfold cl; omega
  have a := (qnt_le_iff hK p (qnt K p)).1 (Int.le_refl _)
  have b : ¬ rk K.length p < atm K (qnt K p - 1) := fun h => by have := (qnt_le_iff hK p (qnt K p - 1)).2 h; omega
  have hl : 1 ≤ K.length := by
    have : K.length ≠ 0 := fun e => hK (List.eq_nil_of_length_eq_zero e)
    omega
  constructor
  · have := (rk_le_iff (n := K.length) p (atm K (qnt K p)) (by omega)).1 a
    rwa [hp] at this
  · by_cases hc : atm K (qnt K p - 1) = 0
    · rw [hc]
      have := Int.mul_le_mul_of_nonneg_right h0 (show (0 : Int) ≤ (K.length : Int) by omega)
      omega
    · refine Int.not_le.1 fun hge => b ((rk_le_iff (n := K.length) p (atm K (qnt K p - 1)) (by omega)).2 ?_)
      rw [hp]; exact hge
/-! What the reference says of a quantile. -/
theorem qnt_ref {K : List Int} (p best : Int) (hz : ∀ x ∈ K, 0 ≤ x)
    (h1 : ∀ x ∈ K, cl p * (K.length : Int) ≤ 1000 * (atm K x : Int) → 0 ≤ best ∧ best ≤ x) (h2 : best = -1 ∨ best ∈ K ∧ cl p * (K.length : Int) ≤ 1000 * (atm K best : Int)) : max best 0 = qnt K p := by
  by_cases hK : K = []
  · subst hK
    rcases h2 with rfl | ⟨h, _⟩
    · show max (-1) 0 = (0 : Int)
      decide
    · cases h
  · have hm := qnt_mem hK p
    have hq := hz _ hm
    have ha := (qnt_le_iff hK p (qnt K p)).1 (Int.le_refl _)
    obtain ⟨g0, g1⟩ := h1 _ hm ((rk_le_iff (n := K.length) p _ (atm_pos hm)).1 ha)
    rcases h2 with rfl | ⟨hb, hc⟩
    · omega
    · have := (qnt_le_iff hK p best).2 ((rk_le_iff (n := K.length) p _ (atm_pos hb)).2 hc)
      omega
/-! The ring. -/
def c60 (d : Int) : Int := min 60 (max 0 d)
/-- The last 16 samples of a ring. -/
def push (K : List Int) (x : Int) : List Int := if K.length < 16 then K ++ [x] else K.drop 1 ++ [x]
def Ring (R : List Int) (nx : Nat) (K : List Int) : Prop := R.length = 16 ∧ ((K.length < 16 ∧ nx = K.length ∧ R.take K.length = K) ∨ (K.length = 16 ∧ nx < 16 ∧ K = R.drop nx ++ R.take nx))
theorem push_len (K : List Int) (x : Int) (h : K.length ≤ 16) : (push K x).length = min (K.length + 1) 16 := by
  unfold push
  split <;> simp <;> omega
theorem take_set_self (R : List Int) (n : Nat) (x : Int) (h : n < R.length) : (R.set n x).take (n + 1) = R.take n ++ [x] := by
  rw [List.set_eq_take_append_cons_drop, if_pos h, List.take_append, List.length_take, Nat.min_eq_left (by omega), show n + 1 - n = 1 by omega, List.take_of_length_le (by simp; omega)]
  rfl
theorem Ring.step {R K : List Int} {nx : Nat} (h : Ring R nx K) (x : Int) : Ring (R.set nx x) ((nx + 1) % 16) (push K x) := by
  obtain ⟨hR, h⟩ := h
  refine ⟨by simpa using hR, ?_⟩
  rcases h with ⟨hl, rfl, ht⟩ | ⟨hl, hn, hk⟩
  · have hp : push K x = K ++ [x] := by unfold push; rw [if_pos hl]
    have hs : (R.set K.length x).take (K.length + 1) = K ++ [x] := by rw [take_set_self R _ x (by omega), ht]
    by_cases h15 : K.length = 15
    · right
      refine ⟨by rw [hp]; simp [h15], by omega, ?_⟩
      rw [show (K.length + 1) % 16 = 0 by omega, hp, List.drop_zero, List.take_zero, List.append_nil, ← hs, List.take_of_length_le (by simp; omega)]
    · left
      refine ⟨by rw [hp, List.length_append, List.length_singleton]; omega, by rw [hp, List.length_append, List.length_singleton]; omega, ?_⟩
      rw [hp, List.length_append, List.length_singleton]
      exact hs
  · right
    have hp : push K x = K.drop 1 ++ [x] := by unfold push; rw [if_neg (by omega)]
    refine ⟨by rw [push_len K x (by omega)]; omega, by omega, ?_⟩
    rw [hp]
    have hd : (R.drop nx) = R[nx]'(by omega) :: R.drop (nx + 1) := List.drop_eq_getElem_cons (by omega)
    have hK1 : K.drop 1 = R.drop (nx + 1) ++ R.take nx := by rw [hk, hd]; rfl
    rw [hK1]
    by_cases h15 : nx = 15
    · subst h15
      simp only [show (15 + 1) % 16 = 0 by decide, List.drop_zero, List.take_zero, List.append_nil]
      have e := take_set_self R 15 x (by omega)
      rw [List.take_of_length_le (by simp; omega)] at e
      rw [e, List.drop_eq_nil_of_le (by omega), List.nil_append]
    · rw [Nat.mod_eq_of_lt (by omega), take_set_self R nx x (by omega), List.drop_set_of_lt (by omega), List.append_assoc]
theorem Ring.perm {R K : List Int} {nx : Nat} (h : Ring R nx K) : (R.take K.length).Perm K := by
  obtain ⟨hR, ⟨_, _, ht⟩ | ⟨hl, hn, hk⟩⟩ := h
  · rw [ht]
  · rw [hl, List.take_of_length_le (by omega)]
    conv => lhs; rw [← List.take_append_drop nx R]
    rw [hk]
    exact List.perm_append_comm
theorem Ring.start (R : List Int) (h : R.length = 16) : Ring R 0 [] := ⟨h, .inl ⟨by simp, rfl, rfl⟩⟩
/-- The samples that are kept of a list of delays. -/
def kept (D : List Int) : List Int := (D.drop (D.length - 16)).map c60
theorem kept_snoc (D : List Int) (x : Int) : kept (D ++ [x]) = push (kept D) (c60 x) := by
  unfold kept push
  rw [List.length_map, List.length_drop, List.length_append, List.length_singleton]
  by_cases h : D.length < 16
  · rw [if_pos (by omega), show D.length + 1 - 16 = 0 by omega, show D.length - 16 = 0 by omega]
    simp
  · rw [if_neg (by omega), ← List.map_drop, List.drop_drop, List.drop_append, show D.length + 1 - 16 - D.length = 0 by omega, show D.length - 16 + 1 = D.length + 1 - 16 by omega]
    simp
theorem kept_len (D : List Int) : (kept D).length = min D.length 16 := by unfold kept; simp; omega
theorem kept_bd (D : List Int) : ∀ x ∈ kept D, 0 ≤ x ∧ x ≤ 60 := by
  intro x hx
  unfold kept at hx
  obtain ⟨d, _, rfl⟩ := List.mem_map.1 hx
  unfold c60; omega
end Go.Proofs.Ytcgcapfppceggaa.Ji
