/-
  Contracts of package jitter.
  Conditions: stated in each contract.
-/
import Derived.Test.YtbepnjlgneialaaJiB
import Derived.Test.YtbepnjlgneialaaJiS
import Derived.Laws.CopyOwn
namespace Go.Proofs.Ytbepnjlgneialaa.Ji
open Go Go.RowKit Go.Proofs.Ytbepnjlgneialaa.FxA Go.Proofs.Ytbepnjlgneialaa.Qt
set_option linter.unusedVariables false
set_option linter.unusedSimpArgs false
/-- An estimator with its samples. -/
structure Est (w : World) (b : Nat) (K : List Int) : Prop where
  ring : ∃ (R : List Int) (nx : Nat), Ring R nx K ∧ (∀ i, i < 16 → w.cell? ⟨b, i, none⟩ = some (.int .i64 (R.getD i 0))) ∧ w.cell? ⟨b, 16, none⟩ = some (.int .i64 nx) ∧ w.cell? ⟨b, 17, none⟩ = some (.int .i64 (K.length : Nat))
  free : ∀ i, w.frozen? ⟨b, i, none⟩ = false
theorem Est.lt {w : World} {b : Nat} {K : List Int} (h : Est w b K) : b < w.heap.size := by
  obtain ⟨R, nx, _, _, h, _⟩ := h.ring
  exact World.block_lt_of_cell? _ _ h
theorem Est.later {w W : World} {b : Nat} {K : List Int} (h : Est w b K) (hb : Below w.heap.size w W) : Est W b K := by
  have hl := h.lt
  obtain ⟨R, nx, h1, h2, h3, h4⟩ := h.ring
  exact ⟨⟨R, nx, h1, fun i hi => cell_below hb (h2 i hi), cell_below hb h3, cell_below hb h4⟩, fun i => (hb.frozen (p := ⟨b, i, none⟩) hl).trans (h.free i)⟩
theorem Ring.nx_lt {R K : List Int} {nx : Nat} (h : Ring R nx K) : nx < 16 := by
  obtain ⟨_, ⟨h, h', _⟩ | ⟨_, h, _⟩⟩ := h <;> omega
theorem Ring.len {R K : List Int} {nx : Nat} (h : Ring R nx K) : K.length ≤ 16 := by
  obtain ⟨_, ⟨h, _⟩ | ⟨h, _⟩⟩ := h <;> omega
def zero18 : Array Value := #[.int .i64 0, .int .i64 0, .int .i64 0, .int .i64 0, .int .i64 0, .int .i64 0, .int .i64 0, .int .i64 0, .int .i64 0, .int .i64 0, .int .i64 0, .int .i64 0, .int .i64 0, .int .i64 0, .int .i64 0, .int .i64 0, .int .i64 0, .int .i64 0]
theorem new_any (w : World) : Calls Try.prog 11 #[] w fun e w' => e = .returned (.pointer (some ⟨w.heap.size, 0, none⟩)) ∧ Est w' w.heap.size [] ∧ Below w.heap.size w w' := by
  go_enter Try.func11, Try.ntmps11
  go_wp2
  go_ret
  refine ⟨rfl, ⟨⟨List.replicate 16 0, 0, Ring.start _ (by simp), fun i hi => ?_, ?_, ?_⟩, fun i => ?_⟩, by (repeat (first | (with_reducible exact Below.refl _ _) | (with_reducible refine Below.drew ?_) | (with_reducible refine below_drewN ?_ _) | (with_reducible refine Below.setCell ?_ (by first | (simp; done) | (simp; omega) | omega) _) | (with_reducible refine Below.alloc ?_ (by first | (simp; done) | (simp; omega) | omega) _) | (with_reducible refine Below.trans ?_ (Below.mono (by assumption) (by first | (simp; done) | (simp; omega) | omega))) | (with_reducible refine Below.trans ?_ (Below.mono (Later.below _) (by first | (simp; done) | (simp; omega) | omega)))))⟩
  · rw [World.cell?_alloc_new]
    match i, hi with
    | 0, _ | 1, _ | 2, _ | 3, _ | 4, _ | 5, _ | 6, _ | 7, _ | 8, _ | 9, _ | 10, _ | 11, _ | 12, _ | 13, _ | 14, _ | 15, _ => rfl
    | n + 16, h => exact absurd h (by omega)
  · rw [World.cell?_alloc_new]; rfl
  · rw [World.cell?_alloc_new]; rfl
  · exact World.frozen?_alloc_new _ _ _ _
set_option maxHeartbeats 2000000 in
theorem add_est (w : World) (b : Nat) (K : List Int) (h : Est w b K) (d : Int) (hd : (Lit.int .i64 d).wf = true) :
    Calls Try.prog 16 #[.pointer (some ⟨b, 0, none⟩), .int .i64 d] w fun e w' => e = .returned (.tuple #[]) ∧ Est w' b (push K (c60 d)) ∧ w.grownBy w' (some b) := by
  obtain ⟨R, nx, hR, c0, c1, c2⟩ := h.ring
  have hl := h.lt
  have hf := h.free
  have hn := hR.nx_lt
  have hk := hR.len
  have hnI : (nx : Int) < 16 := by omega
  have hn0 : (0 : Int) ≤ (nx : Int) := by omega
  have cx := c0 nx hn
  obtain ⟨x, hx⟩ : ∃ x, x = R.getD nx 0 := ⟨_, rfl⟩
  rw [← hx] at cx
  have Hc0 := Lib.hid c0
  clear hx c0
  go_enter Try.func16, Try.ntmps16
  go_wp2
  refine wp_region_later_tail 11 (by kernel_rfl) (by kernel_rfl) fun NL hL => ?_; obtain ⟨hNL, hlc, hlf⟩ := hL; (try simp only [World.size_alloc, World.size_setCell, World.size_drew] at hNL); simp only [List.take_succ_cons, List.take_zero, List.drop_succ_cons, List.drop_zero]
  repeat (go_big_quiet_step (fail))
  (refine wpQuiet_nil ?_; intro w1 hw1; obtain ⟨⟨w1, hb1⟩, rfl⟩ := hw1; clear hlc hlf hNL NL; obtain ⟨N1, hN1, hc1, hf1, hs1⟩ := bcell hb1; (try simp only [World.size_alloc, World.size_setCell, World.size_drew] at hN1))
  have hst := setCell_if
  go_wp2
  go_end0
  have e60 : max 0 (min d 60) = c60 d := by unfold c60; omega
  have e16 : ((nx : Int) + 1) % 16 = (((nx + 1) % 16 : Nat) : Int) := by omega
  have eln : min ((K.length : Int) + 1) 16 = ((push K (c60 d)).length : Int) := by rw [push_len _ _ hk]; omega
  rw [e60, e16, eln]
  have d1 : w1.cell? ⟨b, 16, none⟩ = some (.int .i64 nx) := cell_below hb1 c1
  have d2 : w1.cell? ⟨b, 17, none⟩ = some (.int .i64 (K.length : Nat)) := cell_below hb1 c2
  have dx := cell_below hb1 cx
  refine ⟨rfl, ⟨⟨R.set nx (c60 d), (nx + 1) % 16, hR.step _, fun i hi => ?_, ?_, ?_⟩, fun i => ?_⟩, ?_⟩
  · have di := cell_below hb1 (Hc0.out i hi)
    have hRl := hR.1
    simp only [setCell_if, if_true, if_neg (show i ≠ 17 by omega), if_neg (show i ≠ 16 by omega)]
    by_cases hin : i = nx
    · subst hin
      rw [if_pos rfl, dx]
      simp [List.getD_eq_getElem?_getD, List.getElem?_set, hRl, hi]
    · rw [if_neg hin, di]
      simp [List.getD_eq_getElem?_getD, List.getElem?_set, Ne.symm hin]
  · simp only [setCell_if, if_true, if_neg (show 16 ≠ 17 by decide), if_neg (show 16 ≠ nx by omega), d1]
    rfl
  · simp only [setCell_if, if_true, if_neg (show 17 ≠ 16 by decide), if_neg (show 17 ≠ nx by omega), d2]
    rfl
  · rw [World.frozen?_setCell, World.frozen?_setCell, World.frozen?_setCell]
    exact (hb1.frozen (p := ⟨b, i, none⟩) hl).trans (hf i)
  · exact only_set (only_set (only_set (only_of_below hb1 b) rfl _) rfl _) rfl _
theorem quantile_nil (w : World) (b : Nat) (h : Est w b []) (p : Int) :
    Calls Try.prog 12 #[.pointer (some ⟨b, 0, none⟩), .int .i64 p] w fun e w' => e = .returned (.int .i64 (qnt [] p)) ∧ Below w.heap.size w w' := by
  obtain ⟨R, nx, hR, c0, c1, c2⟩ := h.ring
  have c2' : w.cell? ⟨b, 17, none⟩ = some (.int .i64 0) := c2
  clear c0 c1 c2 h
  go_enter Try.func12, Try.ntmps12
  go_wp2
  go_ret
  exact ⟨rfl, by (repeat (first | (with_reducible exact Below.refl _ _) | (with_reducible refine Below.drew ?_) | (with_reducible refine below_drewN ?_ _) | (with_reducible refine Below.setCell ?_ (by first | (simp; done) | (simp; omega) | omega) _) | (with_reducible refine Below.alloc ?_ (by first | (simp; done) | (simp; omega) | omega) _) | (with_reducible refine Below.trans ?_ (Below.mono (by assumption) (by first | (simp; done) | (simp; omega) | omega))) | (with_reducible refine Below.trans ?_ (Below.mono (Later.below _) (by first | (simp; done) | (simp; omega) | omega)))))⟩
set_option maxHeartbeats 2000000 in
theorem quantile_some (w : World) (b : Nat) (K : List Int) (h : Est w b K) (p : Int) (hne : K ≠ []) :
    Calls Try.prog 12 #[.pointer (some ⟨b, 0, none⟩), .int .i64 p] w fun e w' => e = .returned (.int .i64 (qnt K p)) ∧ Below w.heap.size w w' := by
  obtain ⟨R, nx, hR, c0, c1, c2⟩ := h.ring
  have hl := h.lt
  have hk := hR.len
  have hk1 : 1 ≤ K.length := by
    have : K.length ≠ 0 := fun e => hne (List.eq_nil_of_length_eq_zero e)
    omega
  obtain ⟨n, hn⟩ : ∃ n, n = K.length := ⟨_, rfl⟩
  rw [← hn] at c2 hk hk1
  have Hc0 := Lib.hid c0
  have HR := Lib.hid hR
  have Hn := Lib.hid hn
  obtain ⟨P, hP⟩ : ∃ P, P = cl p := ⟨_, rfl⟩
  have hP' : max 0 (min p 1000) = P := by rw [hP]; rfl
  have hm := cl_mul n p
  have hPb := cl_bd p
  rw [← hP] at hm hPb
  obtain ⟨hm0, hm1⟩ := hm
  obtain ⟨hPb0, hPb1⟩ := hPb
  have HP := Lib.hid hP
  have hnb : ((n : Int) == 0) = false := beq_eq_false_iff_ne.2 (by omega)
  obtain ⟨i0, hii, hz0, hz1, hz2⟩ := info_parts Try.infoI
  clear c0 c1 hR hn hP h hne
  go_enter Try.func12, Try.ntmps12
  go_upto_region 5 with (first | (at_make; refine wpList_make_full _ rfl (.tmp 18) (.tmp 18) 22 rfl w.heap.size 3 i0 (.int .i64 0) 1 Try.underlying22 hii hz0 hz1 .i64 .i64 (n : Int) (n : Int) n rfl rfl rfl rfl (by rw [hz2]; omega) (by unfold maxLen; omega) (Nat.le_refl _) ?_; intro wM hrow hgM))
  obtain ⟨g, cap, cur, hv, hbg, hh, hnc, hcm, hcs, ht, hbM⟩ : ∃ (g cap : Nat) (cur : Array Value), Value.slice (some ⟨w.heap.size, 0, none⟩) n n = .slice (some ⟨g, 0, none⟩) n cap ∧ w.heap.size ≤ g ∧ wM.heap[g]? = some (.cells cur 3 (0, 0)) ∧ n ≤ cap ∧ cap ≤ maxLen ∧ cur.size = cap * 1 ∧ True ∧ Below w.heap.size w wM := by
    have hbM : Below w.heap.size w wM := (Below.refl _ _).grown hgM (Nat.le_refl _) (fun k e => by cases e)
    obtain ⟨_, ⟨hv, hn⟩ | ⟨g, cap, cur, hv, hb, hh, hnc, hcm, hcs, ht⟩⟩ := hrow
    · cases hv
    · exact ⟨g, cap, cur, hv, hb, hh, hnc, hcm, hcs, trivial, hbM⟩
  injection hv with e1 _ e3
  injection e1 with e1
  injection e1 with e1 _
  subst e1 e3
  have hgl : w.heap.size < wM.heap.size := (Array.getElem?_eq_some_iff.1 hh).1
  have c2M := cell_below hbM c2
  have hnI : (n : Int) ≤ 16 := by omega
  have hn0 : (0 : Int) ≤ (n : Int) := by omega
  have hRn : (R.take n).length = n := by have := HR.out.1; rw [List.length_take]; omega
  have hcsn : cur.toList.length = n := by rw [Array.length_toList, hcs]; omega
  clear hrow hgM
  refine wp_region_later_tail 9 (by kernel_rfl) (by kernel_rfl) fun NL hL => ?_; obtain ⟨hNL, hlc, hlf⟩ := hL; (try simp only [World.size_alloc, World.size_setCell, World.size_drew] at hNL); simp only [List.take_succ_cons, List.take_zero, List.drop_succ_cons, List.drop_zero]
  repeat (go_big_quiet_step (fail))
  (refine wpQuiet_nil ?_; intro w1 hw1; obtain ⟨⟨w1, hb1⟩, rfl⟩ := hw1; clear hlc hlf hNL NL; obtain ⟨N1, hN1, hc1, hf1, hs1⟩ := bcell hb1; (try simp only [World.size_alloc, World.size_setCell, World.size_drew] at hN1))
  have hb1w : Below w.heap.size w w1 := hbM.trans (hb1.mono hbM.size)
  have hh1 : w1.heap[w.heap.size]? = some (.cells cur 3 (0, 0)) := (hb1.block _ hgl).trans hh
  clear hb1 hc1 hf1 hN1 hs1 c2M
  have hsrc : ∀ (j : Nat) (v : Value), ((R.take n).map (Value.int .i64))[j]? = some v → w1.cell? ((⟨b, 0, none⟩ : Addr).add j) = some v := by
    intro j v hj
    have hjn : j < n := by
      have := (List.getElem?_eq_some_iff.1 hj).1
      rw [List.length_map, hRn] at this; exact this
    rw [add_at', Nat.zero_add, cell_below hb1w (Hc0.out j (by omega)), ← hj, List.getElem?_map, List.getElem?_take, if_pos hjn, List.getD_eq_getElem?_getD]
    have : j < R.length := by have := HR.out.1; omega
    rw [List.getElem?_eq_getElem this]
    rfl
  refine wpList_copy_splice rfl (.tmp 20) (.tmp 28) 22 22 rfl 3 Try.underlying22 (by rw [hii]; simp [hz1]) (some ⟨w.heap.size, 0, none⟩) (some ⟨b, 0, none⟩) n n n 16 rfl rfl w.heap.size 0 cur.toList 3 (by simpa using hh1) ((R.take n).map (Value.int .i64)) (by rw [List.length_map, hRn]; exact (Nat.min_self n).symm) (fun _ => ⟨rfl, _, rfl, hsrc⟩) (by rw [List.length_map, hRn, hcsn]; omega) (fun v hv => by obtain ⟨x, _, rfl⟩ := List.mem_map.1 hv; rfl) w.heap.size w hb1w (Nat.le_refl _) ?_
  intro w2 hg2 hb2
  have hH : Go.Sort.Holds (Value.int .i64) w2 w.heap.size 0 (R.take n).toArray := by
    intro j hj
    have hjn : j < n := by simpa [hRn] using hj
    have hg := hg2.out
    constructor
    · rw [Nat.zero_add]
      simp only [World.cell?, hg]
      have hjR : j < R.length := by have := HR.out.1; omega
      rw [List.getElem?_toArray]
      unfold splice
      rw [List.take_zero, List.nil_append, List.getElem?_append_left (by rw [List.length_map, hRn]; exact hjn), List.getElem?_map, List.getElem?_take, if_pos hjn, List.getElem?_eq_getElem hjR]
      simp [hjn, hjR]
    · simp [World.frozen?, hg]
  have cS := sort_own w.heap.size n (R.take n) w2 hH (Array.getElem?_eq_some_iff.1 hg2.out).1 (by omega)
  rw [hRn] at cS
  have c22 := cell_below hb2 c2
  have lw2 := hb2.size
  have Hb2 := Lib.hid hb2
  have HcS := Lib.hid cS
  clear hH hg2 hb2 hh1 hb1w hh hgl hbM hcsn cS
  have hval : (srt (R.take n)).getD (rk n p) 0 = qnt K p := by
    have hp := HR.out.perm
    rw [← Hn.out] at hp
    rw [← qnt_perm hp p]
    unfold qnt
    rw [hRn, if_neg (by omega)]
  have hidx : (max ((P * (n : Int) + 999) / 1000) 1).toNat - 1 = rk n p := by
    unfold rk
    rw [← HP.out]
    generalize (P * (n : Int) + 999) / 1000 = z
    omega
  have hrl := rk_lt (n := n) (by omega) p
  have Hval := Lib.hid hval
  have Hidx := Lib.hid hidx
  have hq1 : (P * (n : Int) + 999) / 1000 ≤ (n : Int) := by
    generalize P * (n : Int) = z at *
    omega
  have hq0 : 0 ≤ (P * (n : Int) + 999) / 1000 := by
    generalize P * (n : Int) = z at *
    omega
  clear hval hidx
  go_wp2_with (first | (go_at_call 25; refine HcS.out.mono ?_; rintro e w3 ⟨rfl, hs3, hB3⟩; have hB3w := hB3 _ _ Hb2.out (Nat.le_refl _); have c33 := cell_below hB3w c2; have cq : w3.cell? ⟨w.heap.size, (max ((P * (n : Int) + 999) / 1000) 1).toNat - 1, none⟩ = some (.int .i64 (qnt K p)) := (by rw [Hidx.out, hs3 _ hrl, Hval.out]); have HB3 := Lib.hid hB3w; clear hs3 hB3 hB3w))
  go_ret
  exact ⟨rfl, HB3.out⟩
theorem quantile_est (w : World) (b : Nat) (K : List Int) (h : Est w b K) (p : Int) :
    Calls Try.prog 12 #[.pointer (some ⟨b, 0, none⟩), .int .i64 p] w fun e w' => e = .returned (.int .i64 (qnt K p)) ∧ Below w.heap.size w w' := by
  by_cases hK : K = []
  · subst hK; exact quantile_nil w b h p
  · exact quantile_some w b K h p hK
theorem inputDelay_est (w : World) (b : Nat) (K : List Int) (h : Est w b K) :
    Calls Try.prog 13 #[.pointer (some ⟨b, 0, none⟩)] w fun e w' => e = .returned (.int .i64 (min 8 (qnt K 900))) ∧ Below w.heap.size w w' := by
  have c := quantile_est w b K h 900
  generalize qnt K 900 = q at *
  have Hc := Lib.hid c; clear c
  go_enter Try.func13, Try.ntmps13
  go_wp2_with (first | ((with_reducible refine (Hc.out).mono ?_); rintro e wA ⟨rfl, hbA⟩; obtain ⟨NA, hNA, hcA, hfA, hsA⟩ := bcell hbA; (try simp only [World.size_alloc, World.size_setCell, World.size_drew] at hNA)))
  go_ret
  exact ⟨rfl, by (repeat (first | (with_reducible exact Below.refl _ _) | (with_reducible refine Below.drew ?_) | (with_reducible refine below_drewN ?_ _) | (with_reducible refine Below.setCell ?_ (by first | (simp; done) | (simp; omega) | omega) _) | (with_reducible refine Below.alloc ?_ (by first | (simp; done) | (simp; omega) | omega) _) | (with_reducible refine Below.trans ?_ (Below.mono (by assumption) (by first | (simp; done) | (simp; omega) | omega))) | (with_reducible refine Below.trans ?_ (Below.mono (Later.below _) (by first | (simp; done) | (simp; omega) | omega)))))⟩
theorem window_est (w : World) (b : Nat) (K : List Int) (h : Est w b K) (hb : ∀ x ∈ K, 0 ≤ x ∧ x ≤ 60) :
    Calls Try.prog 14 #[.pointer (some ⟨b, 0, none⟩)] w fun e w' => e = .returned (.int .i64 (min (qnt K 1000 + 1) 12)) ∧ Below w.heap.size w w' := by
  have c := quantile_est w b K h 1000
  have hq := qnt_bd hb 1000
  generalize qnt K 1000 = q at *
  obtain ⟨hq0, hq1⟩ := hq
  have Hc := Lib.hid c; clear c
  go_enter Try.func14, Try.ntmps14
  go_wp2_with (first | ((with_reducible refine (Hc.out).mono ?_); rintro e wA ⟨rfl, hbA⟩; obtain ⟨NA, hNA, hcA, hfA, hsA⟩ := bcell hbA; (try simp only [World.size_alloc, World.size_setCell, World.size_drew] at hNA)))
  go_ret
  exact ⟨rfl, by (repeat (first | (with_reducible exact Below.refl _ _) | (with_reducible refine Below.drew ?_) | (with_reducible refine below_drewN ?_ _) | (with_reducible refine Below.setCell ?_ (by first | (simp; done) | (simp; omega) | omega) _) | (with_reducible refine Below.alloc ?_ (by first | (simp; done) | (simp; omega) | omega) _) | (with_reducible refine Below.trans ?_ (Below.mono (by assumption) (by first | (simp; done) | (simp; omega) | omega))) | (with_reducible refine Below.trans ?_ (Below.mono (Later.below _) (by first | (simp; done) | (simp; omega) | omega)))))⟩
set_option maxHeartbeats 2000000 in
theorem filled_any (a : Option Addr) (len cap : Nat) (D : List Int) (w : World) (h : IsL w a len cap D) (hl : len ≤ 1000) :
    Calls Try.prog 21 #[.slice a len cap] w fun e w' => ∃ b, e = .returned (.pointer (some ⟨b, 0, none⟩)) ∧ Est w' b (kept D) ∧ Below w.heap.size w w' := by
  have hK := h.1
  have hlc := h.2.1
  go_enter Try.func21, Try.ntmps21
  go_wp2_with (first | (go_at_call 11; refine (new_any _).mono ?_; rintro e wN ⟨rfl, hE, hbN⟩; have HE := Lib.hid hE; clear hE))
  go_loopw [4] (fun i wr => ∃ k : Nat, k ≤ len ∧ i = .int .i64 k ∧ Est wr w.heap.size (kept (D.take k)) ∧ Below w.heap.size w wr) (fun i _ => len - (intOf i).toNat)
  case atStart => exact ⟨0, Nat.zero_le _, rfl, HE.out, hbN⟩
  case round =>
    obtain ⟨k, hk, rfl, hE, hB⟩ := hrel
    by_cases hlt : k < len
    · obtain ⟨b, o, rfl, hc, hw⟩ := (h.later hB).cell hlt
      have hs : kept (D.take (k + 1)) = push (kept (D.take k)) (c60 (D.getD k 0)) := by
        rw [List.take_succ_eq_append_getElem (by omega), kept_snoc, List.getD_eq_getElem?_getD, List.getElem?_eq_getElem (by omega)]
        rfl
      generalize D.getD k 0 = x at *
      have hlI : (k : Int) < (len : Int) := by omega
      have hk0 : (0 : Int) ≤ (k : Int) := by omega
      have ca := add_est wr w.heap.size _ hE x hw
      rw [← hs] at ca
      have Hh := Lib.hid h
      clear hs h hE
      have Hca := Lib.hid ca; clear ca
      go_wp2_with (first | (go_at_call 16; refine Hca.out.mono ?_; rintro e wA ⟨rfl, hE2, hgA⟩; have HE2 := Lib.hid hE2; clear hE2))
      go_roundw
      case rel => exact ⟨k + 1, by omega, by go_num, HE2.out, hB.grown hgA hB.size (fun k e => by cases e; exact Nat.le_refl _)⟩
      case measure => simp [intOf]; omega
    · obtain rfl : k = len := by omega
      rw [List.take_of_length_le (by omega)] at hE
      have Hh := Lib.hid h
      have HE3 := Lib.hid hE
      clear h hE
      go_wp2
      go_ret
      exact ⟨w.heap.size, rfl, HE3.out, hB⟩
end Go.Proofs.Ytbepnjlgneialaa.Ji
