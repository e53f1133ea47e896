/-
  Plain laws of contacts: exchange, another first vertex, shifts, a larger circle, the least depth.
  Conditions: stated in each law.
-/
import Derived.Test.YtcgcapfppceggaaCoM
namespace Go.Proofs.Ytcgcapfppceggaa.Co
open Go.RowKit Go.Proofs.Ytcgcapfppceggaa.FxMath Go.Proofs.Ytcgcapfppceggaa.FxA Go.Proofs.Ytcgcapfppceggaa.Ve Go.Proofs.Ytcgcapfppceggaa.Sh
set_option linter.unusedVariables false
set_option linter.unusedSimpArgs false
theorem least_same {α : Type} {f g : α → Int} {l l' : List α} {d : α} (h : ∀ x ∈ l, ∃ y ∈ l', g y = f x) (h' : ∀ y ∈ l', ∃ x ∈ l, f x = g y) (hl : l ≠ []) :
    (l.all fun n => decide (0 < f n)) = (l'.all fun n => decide (0 < g n)) ∧ f ((bst f l).getD d) = g ((bst g l').getD d) := by
  constructor
  · rw [Bool.eq_iff_iff, List.all_eq_true, List.all_eq_true]
    constructor
    · intro H y hy
      obtain ⟨x, hx, he⟩ := h' y hy
      have := H x hx
      rw [he] at this; exact this
    · intro H x hx
      obtain ⟨y, hy, he⟩ := h x hx
      have := H y hy
      rw [he] at this; exact this
  · rcases bst_spec f l with ⟨h0, _⟩ | ⟨y, hy, hm, hle⟩
    · exact absurd h0 hl
    rcases bst_spec g l' with ⟨h0, _⟩ | ⟨z, hz, hm', hle'⟩
    · obtain ⟨u, hu, _⟩ := h y hm
      rw [h0] at hu; cases hu
    rw [hy, hz]
    simp only [Option.getD_some]
    obtain ⟨u, hu, he⟩ := h y hm
    obtain ⟨v, hv, he'⟩ := h' z hm'
    have := hle v hv
    have := hle' u hu
    omega
theorem mem_axs_poly {za zb : List (Int × Int)} (ha : za.length ≠ 0) (hb : zb.length ≠ 0) (dx dy : Int) (n : Int × Int) : n ∈ axs za zb dx dy ↔ n ∈ eax za ∨ n ∈ eax zb := by
  unfold axs cax
  rw [if_neg ha, if_neg hb]
  simp
section
variable (ra : Int) (za : List (Int × Int)) (px py rb : Int) (zb : List (Int × Int)) (qx qy : Int)
theorem dpt_comm (n : Int × Int) : dpt ra za px py rb zb qx qy n = dpt rb zb qx qy ra za px py n := by unfold dpt; omega
theorem ovl_comm : ovl ra za px py rb zb qx qy = ovl rb zb qx qy ra za px py := by
  unfold ovl
  rw [Bool.and_comm (decide (bx0 ra za.length za px ≤ bx1 rb zb.length zb qx)), Bool.and_comm (decide (by0 ra za.length za py ≤ by1 rb zb.length zb qy))]
theorem cis_of {ra' : Int} {za' : List (Int × Int)} {px' py' rb' : Int} {zb' : List (Int × Int)} {qx' qy' : Int} (ho : ovl ra za px py rb zb qx qy = ovl ra' za' px' py' rb' zb' qx' qy')
    (h : ∀ x ∈ axs za zb (qx - px) (qy - py), ∃ y ∈ axs za' zb' (qx' - px') (qy' - py'), dpt ra' za' px' py' rb' zb' qx' qy' y = dpt ra za px py rb zb qx qy x)
    (h' : ∀ y ∈ axs za' zb' (qx' - px') (qy' - py'), ∃ x ∈ axs za zb (qx - px) (qy - py), dpt ra za px py rb zb qx qy x = dpt ra' za' px' py' rb' zb' qx' qy' y) :
    cis ra za px py rb zb qx qy = cis ra' za' px' py' rb' zb' qx' qy' ∧ cdp ra za px py rb zb qx qy = cdp ra' za' px' py' rb' zb' qx' qy' := by
  have key := least_same (d := (0, 0)) h h' (axs_ne _ _ _ _)
  have e : cis ra za px py rb zb qx qy = cis ra' za' px' py' rb' zb' qx' qy' := by unfold cis; rw [ho, key.1]
  refine ⟨e, ?_⟩
  unfold cdp cbn
  rw [e, key.2]
/-- Exchanging two polygons. -/
theorem col_swap (ha : za.length ≠ 0) (hb : zb.length ≠ 0) : cis ra za px py rb zb qx qy = cis rb zb qx qy ra za px py ∧ cdp ra za px py rb zb qx qy = cdp rb zb qx qy ra za px py := by
  refine cis_of _ _ _ _ _ _ _ _ (ovl_comm _ _ _ _ _ _ _ _) (fun x hx => ⟨x, ?_, dpt_comm _ _ _ _ _ _ _ _ _⟩) (fun x hx => ⟨x, ?_, dpt_comm _ _ _ _ _ _ _ _ _⟩)
  · rw [mem_axs_poly ha hb] at hx
    rw [mem_axs_poly hb ha]
    exact hx.symm
  · rw [mem_axs_poly hb ha] at hx
    rw [mem_axs_poly ha hb]
    exact hx.symm
/-- A shift by multiples of One. -/
theorem dpt_shift (i k : Int) (n : Int × Int) : dpt ra za (px + i * 1024) (py + k * 1024) rb zb (qx + i * 1024) (qy + k * 1024) n = dpt ra za px py rb zb qx qy n := by
  unfold dpt pl ph
  rw [plo_add, plo_add, phi_add, phi_add]
  omega
theorem ovl_shift (u v : Int) : ovl ra za (px + u) (py + v) rb zb (qx + u) (qy + v) = ovl ra za px py rb zb qx qy := by
  unfold ovl
  rw [bx0_add, bx0_add, bx1_add, bx1_add, by0_add, by0_add, by1_add, by1_add]
  simp only [Int.add_le_add_iff_right]
theorem axs_shift (u v : Int) : axs za zb (qx + u - (px + u)) (qy + v - (py + v)) = axs za zb (qx - px) (qy - py) := by
  rw [show qx + u - (px + u) = qx - px by omega, show qy + v - (py + v) = qy - py by omega]
theorem cis_shift (i k : Int) : cis ra za (px + i * 1024) (py + k * 1024) rb zb (qx + i * 1024) (qy + k * 1024) = cis ra za px py rb zb qx qy := by
  unfold cis
  rw [ovl_shift, axs_shift]
  simp only [dpt_shift]
theorem cbn_shift (i k : Int) : cbn ra za (px + i * 1024) (py + k * 1024) rb zb (qx + i * 1024) (qy + k * 1024) = cbn ra za px py rb zb qx qy := by
  unfold cbn
  rw [axs_shift, show dpt ra za (px + i * 1024) (py + k * 1024) rb zb (qx + i * 1024) (qy + k * 1024) = dpt ra za px py rb zb qx qy from funext fun n => dpt_shift ra za px py rb zb qx qy i k n]
theorem col_shift (i k : Int) : cnx ra za (px + i * 1024) (py + k * 1024) rb zb (qx + i * 1024) (qy + k * 1024) = cnx ra za px py rb zb qx qy ∧ cny ra za (px + i * 1024) (py + k * 1024) rb zb (qx + i * 1024) (qy + k * 1024) = cny ra za px py rb zb qx qy ∧ cdp ra za (px + i * 1024) (py + k * 1024) rb zb (qx + i * 1024) (qy + k * 1024) = cdp ra za px py rb zb qx qy := by
  unfold cnx cny cdp
  rw [cis_shift, cbn_shift, dpt_shift, show qx + i * 1024 - (px + i * 1024) = qx - px by omega, show qy + k * 1024 - (py + k * 1024) = qy - py by omega]
  exact ⟨rfl, rfl, rfl⟩
end
/-- Another first vertex. -/
theorem edn_rot (zs : List (Int × Int)) (k i : Nat) (hk : k < zs.length) (hi : i < zs.length) : edn (rot zs k) i = edn zs ((i + k) % zs.length) := by
  have hn : (i + 1) % zs.length < zs.length := Nat.mod_lt _ (by omega)
  unfold edn edx edy
  rw [rot_length, vx_rot zs k i hk hi, vy_rot zs k i hk hi, vx_rot zs k _ hk hn, vy_rot zs k _ hk hn, turn_next hi hk]
theorem mem_eax (zs : List (Int × Int)) (n : Int × Int) : n ∈ eax zs ↔ ∃ i, i < zs.length ∧ edn zs i = n := by
  unfold eax
  rw [List.mem_map]
  constructor
  · rintro ⟨i, hi, h⟩; exact ⟨i, List.mem_range.1 hi, h⟩
  · rintro ⟨i, hi, h⟩; exact ⟨i, List.mem_range.2 hi, h⟩
theorem eax_rot (zs : List (Int × Int)) (k : Nat) (hk : k < zs.length) (n : Int × Int) : n ∈ eax (rot zs k) ↔ n ∈ eax zs := by
  rw [mem_eax, mem_eax, rot_length]
  constructor
  · rintro ⟨i, hi, h⟩
    rw [edn_rot zs k i hk hi] at h
    exact ⟨_, Nat.mod_lt _ (by omega), h⟩
  · rintro ⟨i, hi, h⟩
    obtain ⟨j, hj, he⟩ := turn_back hi hk
    exact ⟨j, hj, by rw [edn_rot zs k j hk hj, he]; exact h⟩
theorem pl_rot (r : Int) (zs : List (Int × Int)) (k : Nat) (hk : k < zs.length) (x y : Int) (n : Int × Int) : pl r (rot zs k) x y n = pl r zs x y n := by
  unfold pl plo
  rw [rot_length, if_neg (by omega), if_neg (by omega)]
  exact mn_rot zs k hk fun a b => ((x + a) * n.1 + (y + b) * n.2) / 1024
theorem ph_rot (r : Int) (zs : List (Int × Int)) (k : Nat) (hk : k < zs.length) (x y : Int) (n : Int × Int) : ph r (rot zs k) x y n = ph r zs x y n := by
  unfold ph phi
  rw [rot_length, if_neg (by omega), if_neg (by omega)]
  exact mx_rot zs k hk fun a b => ((x + a) * n.1 + (y + b) * n.2) / 1024
theorem box_rot (r : Int) (zs : List (Int × Int)) (k : Nat) (hk : k < zs.length) (x y : Int) :
    bx0 r (rot zs k).length (rot zs k) x = bx0 r zs.length zs x ∧ bx1 r (rot zs k).length (rot zs k) x = bx1 r zs.length zs x ∧ by0 r (rot zs k).length (rot zs k) y = by0 r zs.length zs y ∧ by1 r (rot zs k).length (rot zs k) y = by1 r zs.length zs y := by
  unfold bx0 bx1 by0 by1
  rw [rot_length, if_neg (by omega), if_neg (by omega), if_neg (by omega), if_neg (by omega), if_neg (by omega), if_neg (by omega), if_neg (by omega), if_neg (by omega)]
  exact ⟨mn_rot zs k hk fun a b => x + a, mx_rot zs k hk fun a b => x + a, mn_rot zs k hk fun a b => y + b, mx_rot zs k hk fun a b => y + b⟩
theorem col_rot (ra : Int) (za : List (Int × Int)) (px py rb : Int) (zb : List (Int × Int)) (qx qy : Int) (hb : zb.length ≠ 0) (k : Nat) (hk : k < za.length) :
    cis ra za px py rb zb qx qy = cis ra (rot za k) px py rb zb qx qy ∧ cdp ra za px py rb zb qx qy = cdp ra (rot za k) px py rb zb qx qy := by
  have ha : za.length ≠ 0 := by omega
  have hr : (rot za k).length ≠ 0 := by rw [rot_length]; exact ha
  have hd : ∀ n, dpt ra (rot za k) px py rb zb qx qy n = dpt ra za px py rb zb qx qy n := fun n => by unfold dpt; rw [pl_rot _ _ _ hk, ph_rot _ _ _ hk]
  refine cis_of _ _ _ _ _ _ _ _ ?_ (fun x hx => ⟨x, ?_, hd x⟩) (fun x hx => ⟨x, ?_, (hd x).symm⟩)
  · unfold ovl
    obtain ⟨b1, b2, b3, b4⟩ := box_rot ra za k hk px py
    rw [b1, b2, b3, b4]
  · rw [mem_axs_poly ha hb] at hx
    rw [mem_axs_poly hr hb, eax_rot za k hk]
    exact hx
  · rw [mem_axs_poly hr hb, eax_rot za k hk] at hx
    rw [mem_axs_poly ha hb]
    exact hx
/-- A larger circle. -/
theorem least_le {α : Type} {f g : α → Int} {l : List α} {d : α} (h : ∀ x, f x ≤ g x) (hl : l ≠ []) : f ((bst f l).getD d) ≤ g ((bst g l).getD d) := by
  rcases bst_spec f l with ⟨h0, _⟩ | ⟨y, hy, hm, hle⟩
  · exact absurd h0 hl
  rcases bst_spec g l with ⟨h0, _⟩ | ⟨z, hz, hm', hle'⟩
  · exact absurd h0 hl
  rw [hy, hz]
  simp only [Option.getD_some]
  have := hle z hm'
  have := h z
  omega
theorem col_grow (r m : Int) (hm : 0 ≤ m) (px py rb : Int) (zb : List (Int × Int)) (qx qy : Int) (h : cis r [] px py rb zb qx qy = true) :
    cis (r + m) [] px py rb zb qx qy = true ∧ cdp r [] px py rb zb qx qy ≤ cdp (r + m) [] px py rb zb qx qy := by
  have hd : ∀ n, dpt r [] px py rb zb qx qy n ≤ dpt (r + m) [] px py rb zb qx qy n := fun n => by
    unfold dpt pl ph plo phi
    simp only [List.length_nil, if_true]
    omega
  have h2 : cis (r + m) [] px py rb zb qx qy = true := by
    unfold cis at h ⊢
    rw [Bool.and_eq_true, List.all_eq_true] at h ⊢
    constructor
    · have ho := h.1
      unfold ovl bx0 bx1 by0 by1 at ho ⊢
      simp only [List.length_nil, if_true, Bool.and_eq_true, decide_eq_true_eq] at ho ⊢
      omega
    · intro n hn
      have := h.2 n hn
      have := hd n
      simp only [decide_eq_true_eq] at *
      omega
  refine ⟨h2, ?_⟩
  unfold cdp
  rw [h, h2, if_pos rfl, if_pos rfl]
  exact least_le hd (axs_ne _ _ _ _)
/-- The least depth. -/
theorem cbn_mem (ra : Int) (za : List (Int × Int)) (px py rb : Int) (zb : List (Int × Int)) (qx qy : Int) :
    cbn ra za px py rb zb qx qy ∈ axs za zb (qx - px) (qy - py) ∧ ∀ n ∈ axs za zb (qx - px) (qy - py), dpt ra za px py rb zb qx qy (cbn ra za px py rb zb qx qy) ≤ dpt ra za px py rb zb qx qy n := by
  unfold cbn
  rcases bst_spec (dpt ra za px py rb zb qx qy) (axs za zb (qx - px) (qy - py)) with ⟨h0, _⟩ | ⟨y, hy, hm, hle⟩
  · exact absurd h0 (axs_ne _ _ _ _)
  · rw [hy]; exact ⟨hm, hle⟩
theorem cis_iff (ra : Int) (za : List (Int × Int)) (px py rb : Int) (zb : List (Int × Int)) (qx qy : Int) :
    cis ra za px py rb zb qx qy = (ovl ra za px py rb zb qx qy && decide (0 < dpt ra za px py rb zb qx qy (cbn ra za px py rb zb qx qy))) := by
  obtain ⟨h1, h2⟩ := cbn_mem ra za px py rb zb qx qy
  have e : ((axs za zb (qx - px) (qy - py)).all fun n => decide (0 < dpt ra za px py rb zb qx qy n)) = decide (0 < dpt ra za px py rb zb qx qy (cbn ra za px py rb zb qx qy)) := by
    rw [Bool.eq_iff_iff, List.all_eq_true, decide_eq_true_eq]
    constructor
    · intro h; simpa using h _ h1
    · intro h n hn
      have := h2 n hn
      simp only [decide_eq_true_eq]
      omega
  unfold cis
  rw [e]
/-- The normal does not point back. -/
theorem cneg_turn {a b dx dy : Int} (h : (dx * a + dy * b) / 1024 < 0) : 0 ≤ (dx * -a + dy * -b) / 1024 := by
  have e : dx * -a + dy * -b = -(dx * a + dy * b) := by grind
  rw [e]
  omega
end Go.Proofs.Ytcgcapfppceggaa.Co
