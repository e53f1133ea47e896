/-
  Contracts of the reference's Delays, Largest, Quantile.
  Conditions: stated in each contract.
-/
import Derived.Test.YtbepnjlgneialaaJiA
namespace Go.Proofs.Ytbepnjlgneialaa.Ji
open Go Go.RowKit Go.Proofs.Ytbepnjlgneialaa.FxA Go.Proofs.Ytbepnjlgneialaa.Qt
set_option linter.unusedVariables false
set_option linter.unusedSimpArgs false
/-- The reduced delays. -/
def dly (K : List Int) : List Int := (K.take 40).map fun x => aro x 80 - 5
theorem dly_len (K : List Int) : (dly K).length = min 40 K.length := by simp [dly]
theorem dly_bd (K : List Int) : ∀ x ∈ dly K, -5 ≤ x ∧ x ≤ 74 := by
  intro x hx
  unfold dly at hx
  obtain ⟨y, _, rfl⟩ := List.mem_map.1 hx
  have := aro_bd y 80 (by decide)
  omega
theorem wf_small {x : Int} (h0 : -1000000 ≤ x) (h1 : x ≤ 1000000) : (Lit.int .i64 x).wf = true := by
  simp [Lit.wf, IntKind.min, IntKind.max, IntKind.bits, IntKind.signed]
  omega
theorem dly_wf (K : List Int) : ∀ x ∈ dly K, (Lit.int .i64 x).wf = true := fun x hx => by
  have := dly_bd K x hx
  exact wf_small (by omega) (by omega)
theorem dly_take (K : List Int) (j : Nat) (h : j < K.length) (h40 : j < 40) : (((dly K).take (j + 1)).map (Value.int .i64)) = (((dly K).take j).map (Value.int .i64)) ++ [.int .i64 (aro (K.getD j 0) 80 - 5)] := by
  have hl : j < (dly K).length := by rw [dly_len]; omega
  rw [List.take_succ_eq_append_getElem hl, List.map_append, List.getD_eq_getElem?_getD, List.getElem?_eq_getElem h]
  simp [dly]
set_option maxHeartbeats 2000000 in
theorem delays_any (a : Option Addr) (len cap : Nat) (K : List Int) (w : World) (h : IsL w a len cap K) :
    Calls Try.prog 10 #[.slice a len cap] w fun e w' => ∃ v, e = .returned v ∧ w'.ownsRow w.heap.size 3 1 v (dly K).length ((dly K).map (Value.int .i64)) ∧ Below w.heap.size w w' := by
  have hK := h.1
  have hlc := h.2.1
  have hcm := h.2.2.1
  unfold maxLen at hcm
  obtain ⟨i0, hii, hz0, hz1, hz2⟩ := info_parts Try.infoI
  go_enter Try.func10, Try.ntmps10
  go_wp2
  go_loopw [3, 4] (fun l i wr => ∃ j : Nat, j ≤ len ∧ j ≤ 40 ∧ i = .int .i64 j ∧ wr.ownsRow w.heap.size 3 1 l j (((dly K).take j).map (Value.int .i64)) ∧ Below w.heap.size w wr) (fun _ i _ => 40 - (intOf i).toNat)
  case atStart => exact ⟨0, by omega, by omega, rfl, World.ownsRow_nil _ _ _ _, Below.refl _ _⟩
  case round =>
    obtain ⟨j, hj, hj40, rfl, hown, hB⟩ := hrel
    have hws := hB.size
    have hj0 : (0 : Int) ≤ (j : Int) := by omega
    by_cases hlt : j < len
    · by_cases h40 : j < 40
      · obtain ⟨b, o, rfl, hc, hw⟩ := (h.later hB).cell (k := j) hlt
        have hsn := dly_take K j (by omega) h40
        generalize K.getD j 0 = x at *
        have hx := i64_bd hw
        have ca := gives_same (fun w => around_any x 80 w hx.1 hx.2 (by omega) (by omega))
        have hb := aro_bd x 80 (by decide)
        obtain ⟨hb0, hb1⟩ := hb
        generalize aro x 80 = y at *
        have hlI : (j : Int) < (len : Int) := by omega
        have h40I : (j : Int) < 40 := by omega
        have Hsn := Lib.hid hsn
        have Hh := Lib.hid h
        clear hsn h hx
        have Hca := Lib.hid ca; clear ca
        go_wp2_with (first | ((with_reducible refine (Hca.out _).mono ?_); rintro e wA ⟨rfl, hbA⟩; obtain ⟨NA, hNA, hcA, hfA, hsA⟩ := bcell hbA; (try simp only [World.size_alloc, World.size_setCell, World.size_drew] at hNA)) | (at_builtin; refine wpList_append_own _ rfl _ _ 22 rfl w.heap.size 3 i0 (.int .i64 0) 1 8 Try.underlying22 hii hz0 hz1 hz2 (by simp [Value.cells]) (by decide) _ j (((dly K).take j).map (Value.int .i64)) rfl ((ownsRow_kept hown (by (repeat (first | (with_reducible exact Below.refl _ _) | (with_reducible refine Below.drew ?_) | (with_reducible refine below_drewN ?_ _) | (with_reducible refine Below.setCell ?_ (by first | (simp; done) | (simp; omega) | omega) _) | (with_reducible refine Below.alloc ?_ (by first | (simp; done) | (simp; omega) | omega) _) | (with_reducible refine Below.trans ?_ (Below.mono (by assumption) (by first | (simp; done) | (simp; omega) | omega))) | (with_reducible refine Below.trans ?_ (Below.mono (Later.below _) (by first | (simp; done) | (simp; omega) | omega))))))).alloc _) ⟨wA.heap.size, 0, none⟩ 1 1 [.int .i64 (y - 5)] rfl rfl (new1 _ _ _) (by simp [Value.oneCell']) (by unfold maxLen; omega) (by omega) (by simp; omega) ?_; intro v' w2 hown2 hgrow2 _))
        have hown3 : w2.ownsRow w.heap.size 3 1 v' (j + 1) (((dly K).take (j + 1)).map (Value.int .i64)) := by rw [Hsn.out]; exact hown2
        have hB2 : Below w.heap.size w w2 := ((hB.trans (hbA.mono hws)).alloc (by omega) _).grown hgrow2 (by simp; omega) (fun k e => (hown.lt k e).1)
        clear hown hown2 hgrow2
        go_wp2
        go_roundw
        case rel => exact ⟨j + 1, by omega, by omega, by go_num, hown3, hB2⟩
        case measure => simp [intOf]; omega
      · obtain rfl : j = 40 := by omega
        have e : (dly K).take 40 = dly K := List.take_of_length_le (by rw [dly_len]; omega)
        have hl : (dly K).length = 40 := by rw [dly_len]; omega
        rw [e] at hown
        have hlI : (40 : Int) < (len : Int) := by omega
        have Hh := Lib.hid h
        clear h e
        go_wp2
        go_ret
        rw [hl]
        exact ⟨_, rfl, hown, hB⟩
    · obtain rfl : j = len := by omega
      have e : (dly K).take j = dly K := List.take_of_length_le (by rw [dly_len]; omega)
      have hl : (dly K).length = j := by rw [dly_len]; omega
      rw [e] at hown
      have Hh := Lib.hid h
      clear h e
      go_wp2
      go_ret
      rw [hl]
      exact ⟨_, rfl, hown, hB⟩
theorem take_mem_snoc {K : List Int} {k : Nat} (h : k < K.length) {x : Int} : x ∈ K.take (k + 1) ↔ x ∈ K.take k ∨ x = K.getD k 0 := by
  rw [List.take_succ_eq_append_getElem h, List.mem_append, List.mem_singleton, List.getD_eq_getElem?_getD, List.getElem?_eq_getElem h]
  rfl
theorem getD_mem {K : List Int} {k : Nat} (h : k < K.length) : K.getD k 0 ∈ K := by
  rw [List.getD_eq_getElem?_getD, List.getElem?_eq_getElem h]
  exact List.getElem_mem h
theorem largest_any (a : Option Addr) (len cap : Nat) (K : List Int) (w : World) (h : IsL w a len cap K) (hl : len ≤ 1000) (h0 : 1 ≤ len) (hb : ∀ x ∈ K, 0 ≤ x ∧ x ≤ 60) :
    Calls Try.prog 19 #[.slice a len cap] w fun e w' => e = .returned (.int .i64 (qnt K 1000)) ∧ Below w.heap.size w w' := by
  have hK := h.1
  have hlc := h.2.1
  go_enter Try.func19, Try.ntmps19
  go_wp2
  go_loopw [3, 4] (fun n i wr => ∃ (k : Nat) (m : Int), k ≤ len ∧ i = .int .i64 k ∧ n = .int .i64 m ∧ (∀ x ∈ K.take k, x ≤ m) ∧ (m = -1 ∨ m ∈ K) ∧ wr = w) (fun _ i _ => len - (intOf i).toNat)
  case atStart => exact ⟨0, -1, Nat.zero_le _, rfl, rfl, by simp, .inl rfl, rfl⟩
  case round =>
    obtain ⟨k, m, hk, rfl, rfl, hm, hmK, rfl⟩ := hrel
    by_cases hlt : k < len
    · obtain ⟨b, o, rfl, hc, hw⟩ := h.cell hlt
      have hx := getD_mem (K := K) (k := k) (by omega)
      have hsn := fun x => take_mem_snoc (K := K) (k := k) (by omega) (x := x)
      generalize K.getD k 0 = y at *
      have hlI : (k : Int) < (len : Int) := by omega
      have hk0 : (0 : Int) ≤ (k : Int) := by omega
      have Hsn := Lib.hid hsn
      have Hm := Lib.hid hm
      have HmK := Lib.hid hmK
      have Hb := Lib.hid hb
      have Hx := Lib.hid hx
      clear hsn hm hmK hb hx
      go_wp2
      go_roundw
      case rel =>
        refine ⟨k + 1, max m y, by omega, by go_num, by rfl, fun x hx => ?_, ?_, by trivial⟩
        · rcases (Hsn.out x).1 hx with h | rfl
          · have := Hm.out x h; omega
          · omega
        · right
          have hy := Hb.out y Hx.out
          rcases HmK.out with rfl | h
          · rw [show max (-1) y = y by omega]; exact Hx.out
          · rcases Int.le_total m y with h' | h'
            · rw [show max m y = y by omega]; exact Hx.out
            · rw [show max m y = m by omega]; exact h
      case measure => simp [intOf]; omega
    · obtain rfl : k = len := by omega
      rw [List.take_of_length_le (by omega)] at hm
      have e : m = qnt K 1000 := by
        have hne : K ≠ [] := fun e => by rw [e] at hK; simp at hK; omega
        have t := qnt_mem hne 1000
        have t1 := hm _ t
        rcases hmK with rfl | h
        · have := (hb _ t).1; omega
        · have := qnt_top m h; omega
      have He := Lib.hid e
      clear hm hmK hb e
      go_wp2
      go_ret
      exact ⟨by show Ending.returned (.int .i64 m) = _; rw [He.out], Below.refl _ _⟩
set_option maxHeartbeats 2000000 in
theorem rquantile_any (a : Option Addr) (len cap : Nat) (K : List Int) (p : Int) (w : World) (h : IsL w a len cap K) (hl : len ≤ 1000) (hb : ∀ x ∈ K, 0 ≤ x ∧ x ≤ 60) :
    Calls Try.prog 18 #[.slice a len cap, .int .i64 p] w fun e w' => e = .returned (.int .i64 (qnt K p)) ∧ Below w.heap.size w w' := by
  have hK := h.1
  have hlc := h.2.1
  obtain ⟨P, hP⟩ : ∃ P, P = cl p := ⟨_, rfl⟩
  have hP' : min 1000 (max 0 p) = P := by rw [hP]; unfold cl; omega
  have hPb := cl_bd p
  have hm := cl_mul len p
  have fin : ∀ best : Int, (∀ x ∈ K, P * (len : Int) ≤ 1000 * (atm K x : Int) → 0 ≤ best ∧ best ≤ x) → (best = -1 ∨ best ∈ K ∧ P * (len : Int) ≤ 1000 * (atm K best : Int)) → max best 0 = qnt K p := by
    intro best h1 h2
    rw [hP, ← hK] at h1 h2
    exact qnt_ref p best (fun x hx => (hb x hx).1) h1 h2
  rw [← hP] at hPb hm
  obtain ⟨hPb0, hPb1⟩ := hPb
  obtain ⟨hm0, hm1⟩ := hm
  have Hfin := Lib.hid fin
  clear hP fin
  go_enter Try.func18, Try.ntmps18
  go_wp2
  clear hP'
  go_loopw [6, 7] (fun n i wr => ∃ (k : Nat) (m : Int), k ≤ len ∧ i = .int .i64 k ∧ n = .int .i64 m ∧ (∀ x ∈ K.take k, P * (len : Int) ≤ 1000 * (atm K x : Int) → 0 ≤ m ∧ m ≤ x) ∧ (m = -1 ∨ m ∈ K ∧ P * (len : Int) ≤ 1000 * (atm K m : Int)) ∧ Below w.heap.size w wr) (fun _ i _ => len - (intOf i).toNat)
  case atStart => exact ⟨0, -1, Nat.zero_le _, rfl, rfl, by simp, .inl rfl, Below.refl _ _⟩
  case round =>
    obtain ⟨k, m, hk, rfl, rfl, hmn, hmK, hB⟩ := hrel
    have hr := h.later hB
    by_cases hlt : k < len
    · have hmb : -1 ≤ m ∧ m ≤ 60 := by
        rcases hmK with rfl | ⟨h, _⟩
        · omega
        · have := hb m h; omega
      obtain ⟨hmb0, hmb1⟩ := hmb
      obtain ⟨b, o, rfl, hc, hw⟩ := hr.cell hlt
      have hx := getD_mem (K := K) (k := k) (by omega)
      have hsn := fun x => take_mem_snoc (K := K) (k := k) (by omega) (x := x)
      generalize K.getD k 0 = y at *
      have hat := fun W hW => atMost_any _ len cap K y W (hr.later (W := W) hW) hl
      have hy := hb y hx
      obtain ⟨hy0, hy1⟩ := hy
      have ha := atm_le K y
      rw [hK] at ha
      have next : ∀ m' : Int, (P * (len : Int) ≤ 1000 * (atm K y : Int) → 0 ≤ m' ∧ m' ≤ y ∧ (0 ≤ m → m' ≤ m)) → (m' = m ∨ (m' = y ∧ P * (len : Int) ≤ 1000 * (atm K y : Int))) → (m' = m ∨ m < 0 ∨ m' ≤ m) →
          (∀ x ∈ K.take (k + 1), P * (len : Int) ≤ 1000 * (atm K x : Int) → 0 ≤ m' ∧ m' ≤ x) ∧ (m' = -1 ∨ m' ∈ K ∧ P * (len : Int) ≤ 1000 * (atm K m' : Int)) := by
        intro m' h1 h2 h3
        constructor
        · intro x hx' hc'
          rcases (hsn x).1 hx' with h | rfl
          · have := hmn x h hc'
            rcases h2 with rfl | ⟨rfl, hcy⟩
            · exact this
            · omega
          · have := h1 hc'; omega
        · rcases h2 with rfl | ⟨rfl, hcy⟩
          · exact hmK
          · exact .inr ⟨hx, hcy⟩
      have Hnext := Lib.hid next
      have Hr := Lib.hid hr
      have Hh := Lib.hid h
      clear next hsn hmn hmK hb hx h hr
      generalize atm K y = c at *
      have hlI : (k : Int) < (len : Int) := by omega
      have hk0 : (0 : Int) ≤ (k : Int) := by omega
      have hws := hB.size
      have lb := World.block_lt_of_cell? _ _ hc
      simp only at lb
      have Hhat := Lib.hid hat; clear hat
      by_cases hc1 : P * (len : Int) ≤ 1000 * (c : Int)
      · by_cases hneg : m < 0
        · go_wp2_with (first | ((with_reducible refine (Hhat.out _ (by (repeat (first | (with_reducible exact Below.refl _ _) | (with_reducible refine Below.drew ?_) | (with_reducible refine below_drewN ?_ _) | (with_reducible refine Below.setCell ?_ (by first | (simp; done) | (simp; omega) | omega) _) | (with_reducible refine Below.alloc ?_ (by first | (simp; done) | (simp; omega) | omega) _) | (with_reducible refine Below.trans ?_ (Below.mono (by assumption) (by first | (simp; done) | (simp; omega) | omega))) | (with_reducible refine Below.trans ?_ (Below.mono (Later.below _) (by first | (simp; done) | (simp; omega) | omega))))))).mono ?_); rintro e wA ⟨rfl, hbA⟩; obtain ⟨NA, hNA, hcA, hfA, hsA⟩ := bcell hbA; (try simp only [World.size_alloc, World.size_setCell, World.size_drew] at hNA)))
          go_roundw
          case rel =>
            obtain ⟨g1, g2⟩ := Hnext.out y (fun _ => ⟨hy0, Int.le_refl _, by omega⟩) (.inr ⟨rfl, hc1⟩) (.inr (.inl hneg))
            exact ⟨k + 1, y, by omega, by go_num, by rfl, g1, g2, hB.trans (hbA.mono hws)⟩
          case measure => simp [intOf]; omega
        · by_cases hlt2 : y < m
          · go_wp2_with (first | ((with_reducible refine (Hhat.out _ (by (repeat (first | (with_reducible exact Below.refl _ _) | (with_reducible refine Below.drew ?_) | (with_reducible refine below_drewN ?_ _) | (with_reducible refine Below.setCell ?_ (by first | (simp; done) | (simp; omega) | omega) _) | (with_reducible refine Below.alloc ?_ (by first | (simp; done) | (simp; omega) | omega) _) | (with_reducible refine Below.trans ?_ (Below.mono (by assumption) (by first | (simp; done) | (simp; omega) | omega))) | (with_reducible refine Below.trans ?_ (Below.mono (Later.below _) (by first | (simp; done) | (simp; omega) | omega))))))).mono ?_); rintro e wA ⟨rfl, hbA⟩; obtain ⟨NA, hNA, hcA, hfA, hsA⟩ := bcell hbA; (try simp only [World.size_alloc, World.size_setCell, World.size_drew] at hNA)))
            go_roundw
            case rel =>
              obtain ⟨g1, g2⟩ := Hnext.out y (fun _ => ⟨hy0, Int.le_refl _, by omega⟩) (.inr ⟨rfl, hc1⟩) (.inr (.inr (by omega)))
              exact ⟨k + 1, y, by omega, by go_num, by rfl, g1, g2, hB.trans (hbA.mono hws)⟩
            case measure => simp [intOf]; omega
          · go_wp2_with (first | ((with_reducible refine (Hhat.out _ (by (repeat (first | (with_reducible exact Below.refl _ _) | (with_reducible refine Below.drew ?_) | (with_reducible refine below_drewN ?_ _) | (with_reducible refine Below.setCell ?_ (by first | (simp; done) | (simp; omega) | omega) _) | (with_reducible refine Below.alloc ?_ (by first | (simp; done) | (simp; omega) | omega) _) | (with_reducible refine Below.trans ?_ (Below.mono (by assumption) (by first | (simp; done) | (simp; omega) | omega))) | (with_reducible refine Below.trans ?_ (Below.mono (Later.below _) (by first | (simp; done) | (simp; omega) | omega))))))).mono ?_); rintro e wA ⟨rfl, hbA⟩; obtain ⟨NA, hNA, hcA, hfA, hsA⟩ := bcell hbA; (try simp only [World.size_alloc, World.size_setCell, World.size_drew] at hNA)))
            go_roundw
            case rel =>
              obtain ⟨g1, g2⟩ := Hnext.out m (fun _ => ⟨by omega, by omega, by omega⟩) (.inl rfl) (.inl rfl)
              exact ⟨k + 1, m, by omega, by go_num, by rfl, g1, g2, hB.trans (hbA.mono hws)⟩
            case measure => simp [intOf]; omega
      · go_wp2_with (first | ((with_reducible refine (Hhat.out _ (by (repeat (first | (with_reducible exact Below.refl _ _) | (with_reducible refine Below.drew ?_) | (with_reducible refine below_drewN ?_ _) | (with_reducible refine Below.setCell ?_ (by first | (simp; done) | (simp; omega) | omega) _) | (with_reducible refine Below.alloc ?_ (by first | (simp; done) | (simp; omega) | omega) _) | (with_reducible refine Below.trans ?_ (Below.mono (by assumption) (by first | (simp; done) | (simp; omega) | omega))) | (with_reducible refine Below.trans ?_ (Below.mono (Later.below _) (by first | (simp; done) | (simp; omega) | omega))))))).mono ?_); rintro e wA ⟨rfl, hbA⟩; obtain ⟨NA, hNA, hcA, hfA, hsA⟩ := bcell hbA; (try simp only [World.size_alloc, World.size_setCell, World.size_drew] at hNA)))
        go_roundw
        case rel =>
          obtain ⟨g1, g2⟩ := Hnext.out m (fun hh => by omega) (.inl rfl) (.inl rfl)
          exact ⟨k + 1, m, by omega, by go_num, by rfl, g1, g2, hB.trans (hbA.mono hws)⟩
        case measure => simp [intOf]; omega
    · obtain rfl : k = len := by omega
      rw [List.take_of_length_le (by omega)] at hmn
      have e := Hfin.out m hmn hmK
      have He := Lib.hid e
      clear hmn hmK hb e hr h
      go_wp2
      go_ret
      exact ⟨by show Ending.returned (.int .i64 (max m 0)) = _; rw [← He.out], hB⟩
end Go.Proofs.Ytbepnjlgneialaa.Ji
