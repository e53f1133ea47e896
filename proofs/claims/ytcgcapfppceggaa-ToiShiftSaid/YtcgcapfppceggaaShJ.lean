/-
  Contract of the generator Shape where it makes a polygon.
  Conditions: none.
-/
import Derived.Test.YtcgcapfppceggaaShI
namespace Go.Proofs.Ytcgcapfppceggaa.Sh
open Go.RowKit Go.Proofs.Ytcgcapfppceggaa.FxMath Go.Proofs.Ytcgcapfppceggaa.FxA Go.Proofs.Ytcgcapfppceggaa.Qt Go.Proofs.Ytcgcapfppceggaa.Ve Go.Shelf
set_option linter.unusedVariables false
set_option linter.unusedSimpArgs false
theorem only_trans {a w w' : World} {G : Nat} {row : Option Nat} (h : a.grownBy w (some G)) (h' : w.grownBy w' row) (hr : ∀ k, row = some k → k = G) : a.grownBy w' (some G) :=
  ⟨h'.os.trans h.os, h'.tape.trans h.tape, h'.output.trans h.output, Nat.le_trans h.size h'.size, fun k hk hne => (h'.block k (Nat.lt_of_lt_of_le hk h.size) (fun e => hne (by rw [hr k e.symm]))).trans (h.block k hk hne)⟩
theorem new2 (w : World) (x y : Value) (t : TypeId) : ∀ (j : Nat) (u : Value), [x, y][j]? = some u → (w.alloc (.cells #[x, y] t)).cell? ((⟨w.heap.size, 0, none⟩ : Addr).add j) = some u := by
  intro j u h
  rw [add_at, World.cell?_alloc_new w _ _ _, Nat.zero_add]
  simpa using h
theorem take_snoc' {α : Type} (l : List α) (j : Nat) (h : j < l.length) : l.take (j + 1) = l.take j ++ [l[j]] := by
  rw [List.take_succ_eq_append_getElem h]
theorem flat_snoc (s : Int) (o : List (Int × Int)) (j : Nat) (h : j < o.length) : flat (scl s (o.take (j + 1))) = flat (scl s (o.take j)) ++ [.int .i64 (s * vx o j), .int .i64 (s * vy o j)] := by
  rw [take_snoc' o j h]
  have e1 : vx o j = o[j].1 := by unfold vx; rw [List.getD_eq_getElem?_getD, List.getElem?_eq_getElem h]; rfl
  have e2 : vy o j = o[j].2 := by unfold vy; rw [List.getD_eq_getElem?_getD, List.getElem?_eq_getElem h]; rfl
  unfold scl
  rw [List.map_append, flat_append, e1, e2]
  rfl
set_option maxRecDepth 100000 in
set_option maxHeartbeats 4000000 in
theorem shape_poly (n : Int) (w : World) (b0 : -9223372036854775808 ≤ n) (b1 : n ≤ 9223372036854775807) (h3 : ¬ aro n 1000000000 % 3 = 0) : Calls Try.prog 18 #[.int .i64 n] w (ShapeP w n) := by
  have ca := gives_same (fun w => around_any n 1000000000 w b0 b1 (by omega) (by omega))
  have hk := aro_bd n 1000000000 (by decide)
  obtain ⟨k, hkk⟩ : ∃ k, k = aro n 1000000000 := ⟨_, rfl⟩
  obtain ⟨i, hi⟩ : ∃ i : Nat, i = (k / 3 % 6).toNat := ⟨_, rfl⟩
  obtain ⟨o, ho⟩ : ∃ o, o = outl i := ⟨_, rfl⟩
  obtain ⟨m, hm⟩ : ∃ m, m = o.length := ⟨_, rfl⟩
  obtain ⟨s, hs⟩ : ∃ s, s = shS k := ⟨_, rfl⟩
  have hml : 3 ≤ m ∧ m ≤ 6 := by rw [hm, ho]; exact outl_len i
  have hs1 : 1 ≤ s ∧ s ≤ 10000 := by rw [hs]; unfold shS; split <;> omega
  have hob : ∀ j, -3 ≤ vx o j ∧ vx o j ≤ 3 ∧ -3 ≤ vy o j ∧ vy o j ≤ 3 := by rw [ho]; exact outl_bd i
  have hz : shZ n = rot (scl s o) (aro (k / 180000) m).toNat := by unfold shZ shO; rw [if_neg h3, ← hkk, ← hs, ← hi, ← ho, hm]
  have hr : shR n = 0 := by unfold shR; rw [if_neg h3]
  have hzl : (shZ n).length = m := by rw [hz, rot_length, scl_length, hm]
  have fin : ∀ W a cap, Below w.heap.size w W → (∀ x, a = some x → w.heap.size ≤ x.block) → IsPoly W a m cap (rot (scl s o) (aro (k / 180000) m).toNat) → ShapeP w n (.returned (.agg #[.int .i64 0, .slice a m cap])) W := by
    intro W a cap hb hx hp
    unfold ShapeP
    have hne : shZ n = [] → a = none ∧ cap = 0 := by intro h; rw [h] at hzl; simp at hzl; omega
    rw [hz] at hne
    rw [hzl, hr, hz]
    exact ⟨a, cap, rfl, hp, hb, hx, hne⟩
  rw [← hkk] at h3 hk ca
  have hiI : k / 3 % 6 = (i : Int) := by omega
  have hi6 : i < 6 := by omega
  have hOut : ∀ W B, (∀ i, i < 6 → ∃ Bi, W.cell? ⟨B, i, none⟩ = some (.slice (some ⟨Bi, 0, none⟩) (outl i).length (outl i).length) ∧ IsPoly W (some ⟨Bi, 0, none⟩) (outl i).length (outl i).length (outl i)) →
      ∃ Bi, W.cell? ⟨B, i, none⟩ = some (.slice (some ⟨Bi, 0, none⟩) m m) ∧ ∀ j, j < m → W.cell? ⟨Bi, j * 2, none⟩ = some (.int .i64 (vx o j)) ∧ W.cell? ⟨Bi, j * 2 + 1, none⟩ = some (.int .i64 (vy o j)) := by
    intro W B h
    obtain ⟨Bi, g1, g2⟩ := h i hi6
    rw [← ho, ← hm] at g1 g2
    refine ⟨Bi, g1, fun j hj => ?_⟩
    rcases g2 with ⟨h, _⟩ | ⟨b, o', he, _, _, _, hc⟩
    · cases h
    · injection he with he
      injection he with e1 e2
      subst e1 e2
      have := hc j hj
      rw [Nat.zero_add] at this
      exact this
  have hturn : ∀ (a : Option Addr) (cap : Nat) (W : World), IsPoly W a m cap (scl s o) → Calls Try.prog 22 #[.agg #[.int .i64 0, .slice a m cap], .int .i64 (k / 180000)] W fun e W' => ∃ a' cap', e = .returned (.agg #[.int .i64 0, .slice a' m cap']) ∧ IsPoly W' a' m cap' (rot (scl s o) (aro (k / 180000) m).toNat) ∧ Below W.heap.size W W' ∧ ∀ x, a' = some x → W.heap.size ≤ x.block := by
    intro a cap W hp
    have hl : (scl s o).length = m := by rw [scl_length, hm]
    refine (turned_any 0 (k / 180000) a m cap (scl s o) W hp (by omega) (by omega) (by omega) (by omega)).mono ?_
    rintro e W' ⟨a', cap', he, hp', hb', hx'⟩
    rw [hl] at he hp'
    exact ⟨a', cap', he, hp', hb', hx'⟩
  have t3 : (k % 3 == 0) = false := by simpa using h3
  have Hsnoc : Hid (∀ j, j < m → flat (scl s (o.take (j + 1))) = flat (scl s (o.take j)) ++ [.int .i64 (s * vx o j), .int .i64 (s * vy o j)]) := Lib.hid (fun j hj => flat_snoc s o j (by omega))
  have Hall : Hid (flat (scl s (o.take m)) = flat (scl s o)) := Lib.hid (by rw [hm, List.take_length])
  have Hs := Lib.hid hs
  have Hca := Lib.hid ca; have Hfin := Lib.hid fin; have HhOut := Lib.hid hOut; have Hhturn := Lib.hid hturn; have Hhob := Lib.hid hob; clear ca fin hOut hturn hob
  clear hkk hi ho hm hz hr hzl h3 hs
  obtain ⟨i0, hii, hz0, hz1, hz2⟩ := info_parts Try.infoV
  have hi6I : (i : Int) < 6 := by omega
  have hi0I : (0 : Int) ≤ (i : Int) := by omega
  have key : (∃ t1 : (k % 3 == 1) = true, 1 + k / 18 % 12 = s) ∨ (∃ t1 : (k % 3 == 1) = false, 1 + k / 18 % 10000 = s) := by
    rw [Hs.out]
    unfold shS
    by_cases h1 : k % 3 = 1
    · exact .inl ⟨by simpa using h1, by rw [if_pos h1]⟩
    · exact .inr ⟨by simpa using h1, by rw [if_neg h1]⟩
  clear Hs
  rcases key with ⟨t1, hs'⟩ | ⟨t1, hs'⟩
  all_goals
    have hal := alloc_if; have hfal := allocF_if
    go_enter Try.func18, Try.ntmps18
    go_wp2_with (first | ((with_reducible refine (Hca.out _).mono ?_); rintro e wA ⟨rfl, hbA⟩; obtain ⟨NA, hNA, hcA, hfA, hsA⟩ := bcell hbA; (try simp only [World.size_alloc, World.size_setCell, World.size_drew] at hNA)) | (go_at_call 48; refine (outlines_any _).mono ?_; rintro e wB ⟨B, rfl, hbB, hOutB⟩; obtain ⟨Bi, hg1, hgc⟩ := HhOut.out wB B hOutB; clear hOutB; obtain ⟨NB, hNB, hcB, hfB, hsB⟩ := bcell hbB; (try simp only [World.size_alloc, World.size_setCell, World.size_drew] at hNB)))
    have hr0 : wB.cell? ⟨w.heap.size, 0, none⟩ = some (.int .i64 0) := by simp [hcA, hcB, alloc_if, ↓IntWalk.iteOmega]
    have hr1 : wB.cell? ⟨w.heap.size, 1, none⟩ = some (.slice none 0 0) := by simp [hcA, hcB, alloc_if, ↓IntWalk.iteOmega]
    have hrf : ∀ i, wB.frozen? ⟨w.heap.size, i, none⟩ = false := by intro i; simp [hfA, hfB, allocF_if, ↓IntWalk.iteOmega]
    have hbw : Below w.heap.size w wB := by (repeat (first | (with_reducible exact Below.refl _ _) | (with_reducible refine Below.drew ?_) | (with_reducible refine below_drewN ?_ _) | (with_reducible refine Below.setCell ?_ (by first | (simp; done) | (simp; omega) | omega) _) | (with_reducible refine Below.alloc ?_ (by first | (simp; done) | (simp; omega) | omega) _) | (with_reducible refine Below.trans ?_ (Below.mono (by assumption) (by first | (simp; done) | (simp; omega) | omega))) | (with_reducible refine Below.trans ?_ (Below.mono (Later.below _) (by first | (simp; done) | (simp; omega) | omega)))))
    clear hcA hfA hNA hsA hbA hcB hfB hNB hsB hbB hal hfal t1 hs' Hca hg1
    go_loopw [6, 7] (fun l i wr => ∃ j : Nat, j ≤ m ∧ i = .int .i64 j ∧ wr.ownsRow wB.heap.size 29 2 l j (flat (scl s (o.take j))) ∧ Below wB.heap.size wB wr)
      (fun _ i _ => m - (intOf i).toNat)
    case atStart => exact ⟨0, Nat.zero_le _, rfl, World.ownsRow_nil _ _ _ _, Below.refl _ _⟩
    case round =>
      obtain ⟨j, hj, rfl, hown, hB⟩ := hrel
      by_cases hlt : j < m
      · have v0 := cell_below hB (hgc j hlt).1
        have v1 := cell_below hB (hgc j hlt).2
        have lb := World.block_lt_of_cell? _ _ v0
        simp only at lb
        have hltI : (j : Int) < (m : Int) := by omega
        have hj0I : (0 : Int) ≤ (j : Int) := by omega
        have bo := Hhob.out j
        have m1 := mul_bd (a := s) (b := vx o j) (A := 10000) (B := 3) (by omega) (by omega) (by omega) (by omega)
        have m2 := mul_bd (a := s) (b := vy o j) (A := 10000) (B := 3) (by omega) (by omega) (by omega) (by omega)
        obtain ⟨X, hX⟩ : ∃ X, X = s * vx o j := ⟨_, rfl⟩
        obtain ⟨Y, hY⟩ : ∃ Y, Y = s * vy o j := ⟨_, rfl⟩
        have g0 : IntKind.i64.wrap (s * vx o j) = X := by rw [hX]; exact IntWalk.i64_in _ (by omega)
        have g1 : IntKind.i64.wrap (s * vy o j) = Y := by rw [hY]; exact IntWalk.i64_in _ (by omega)
        have hsn := Hsnoc.out j hlt
        rw [← hX, ← hY] at hsn
        have Hhsn := Lib.hid hsn; have HhX := Lib.hid hX; have HhY := Lib.hid hY; clear hsn hX hY
        have hws := hB.size
        obtain ⟨G, hG1, hG2, hG3⟩ : ∃ G, wB.heap.size ≤ G ∧ (∀ k, u6.ownBlock = some k → k = G) ∧ Bi ≠ G := by
          have hlt1 := hown.lt
          have hbi := World.block_lt_of_cell? wB _ (hgc j hlt).1
          simp only at hbi
          cases ho : u6.ownBlock with
          | none => exact ⟨wB.heap.size, Nat.le_refl _, (fun k hk => by cases hk), by omega⟩
          | some g => exact ⟨g, (hlt1 g ho).1, (fun k hk => by cases hk; rfl), by have := (hlt1 g ho).1; omega⟩
        have Hown := Lib.hid hown
        have HG2 := Lib.hid hG2
        clear hown m1 m2 bo hG2
        have hal := alloc_if; have hfal := allocF_if
        go_wp2
        refine wp_region_two G [] [0, 1, 2, 3, 4, 5, 6, 7, 8, 9, 10, 11, 12, 13, 14, 15] [16, 17, 18] 16 (by kernel_rfl) (by kernel_rfl) fun NL hL hL2 => ?_
        obtain ⟨hNL, hlc, hlf⟩ := hL
        obtain ⟨_, hl2⟩ := hL2
        simp only [List.map_cons, List.map_nil, List.getD_cons_zero, List.getD_cons_succ]
        refine wpQuiet_nil ?_
        repeat (go_big_quiet_step (fail))
        refine wpQuiet_nil ?_
        clear hlc hlf hl2 hNL g0 g1 v0 v1
        have hO0 : wr.grownBy (wr.drew.alloc (.cells #[.int .i64 X, .int .i64 Y] 29)) (some G) := only_of_below ((Below.refl _ wr).drew.alloc (Nat.le_refl _) _) G
        refine wpListS_value (v := .slice (some ⟨wr.drew.heap.size, 0, none⟩) 1 1) (w1 := wr.drew.alloc (.cells #[.int .i64 X, .int .i64 Y] 29)) rfl (by go_simp) ⟨⟨_, hO0⟩, rfl⟩ ?_
        simp only [Act.put, List.setIfInBounds_toArray, List.set_cons_zero, List.set_cons_succ]
        refine wpListS_wp rfl ?_
        refine wp_append_own _ (.tmp 50) (.tmp 66) 23 rfl wB.heap.size 29 i0 (.agg #[.int .i64 0, .int .i64 0]) 2 16 Try.underlying23 hii hz0 hz1 hz2 (by simp [Value.cells]) (by decide) u6 j (flat (scl s (o.take j))) rfl ((ownsRow_later Hown.out (Below.refl _ _).drew).alloc _) ⟨wr.drew.heap.size, 0, none⟩ 1 1 [.int .i64 X, .int .i64 Y] rfl rfl (new2 _ _ _ _) (by simp [Value.oneCell']) (by unfold maxLen; omega) (by omega) (by simp; omega) fun v' w2 hown2 hgrow2 _ => ?_
        have hO1 : wr.grownBy w2 (some G) := only_trans hO0 hgrow2 HG2.out
        refine ⟨⟨⟨_, hO1⟩, rfl⟩, ?_⟩
        simp only [Act.put, List.setIfInBounds_toArray, List.set_cons_zero, List.set_cons_succ]
        refine wpListS_value (v := v') (w1 := w2) rfl (by go_simp) ⟨⟨_, hO1⟩, rfl⟩ ?_
        simp only [Act.put, List.setIfInBounds_toArray, List.set_cons_zero, List.set_cons_succ]
        refine wpListS_nil ?_
        have hown3 : w2.ownsRow wB.heap.size 29 2 v' (j + 1) (flat (scl s (o.take (j + 1)))) := by rw [Hhsn.out]; exact hown2
        have hB2 : Below wB.heap.size wB w2 := hB.grown hO1 hws (fun k e => by cases e; exact hG1)
        have Hown3 := Lib.hid hown3
        clear hO0 hO1 hgrow2 hown2 hown3 hal hfal
        go_wp2
        go_roundw
        case rel => exact ⟨j + 1, by omega, by go_num, Hown3.out, hB2⟩
        case measure => simp [intOf]; omega
      · obtain rfl : m = j := by omega
        obtain ⟨hl, a, cap, rfl, hp⟩ := poly_of_row (by rw [Hall.out] at hown; exact hown)
        have Hp := Lib.hid hp
        have Hown := Lib.hid hown
        clear hp hl hown
        have hws := hB.size
        have hww := hbw.size
        have r0 := cell_below hB hr0
        have r1 := cell_below hB hr1
        have l0 := World.block_lt_of_cell? _ _ r0
        simp only at l0
        have rf : ∀ i, wr.frozen? ⟨w.heap.size, i, none⟩ = false := fun i => (hB.frozen (p := ⟨w.heap.size, i, none⟩) (World.block_lt_of_cell? wB ⟨w.heap.size, 0, none⟩ hr0)).trans (hrf i)
        clear hr0 hr1 hrf
        have hst := setCell_if
        go_wp2_with (go_at_call 22; refine (Hhturn.out a cap _ Hp.out).mono ?_; rintro e wC ⟨a', cap', rfl, hp', hbC, hxC⟩; have q0 := cell_below hbC r0; have q1 := cell_below hbC r1; have qf : ∀ i, wC.frozen? ⟨w.heap.size, i, none⟩ = false := (fun i => (hbC.frozen (p := ⟨w.heap.size, i, none⟩) l0).trans (rf i)))
        have hlC := hbC.size
        refine bodyPost_ret (v := .agg #[.int .i64 0, .slice a' m cap']) (by simp [results, Try.results18, go_sem, setCell_if, q0, q1]) rfl (Hfin.out _ _ _ (((hbw.trans (hB.mono hww)).trans (hbC.mono (by omega))).setCell (p := ⟨w.heap.size, 0, none⟩) (by simp) _ |>.setCell (p := ⟨w.heap.size, 1, none⟩) (by simp) _) (fun x hx => by have := hxC x hx; omega) ?_)
        exact poly_set (poly_set hp' (B := w.heap.size) (fun x hx => by have := hxC x hx; omega) _ _) (fun x hx => by have := hxC x hx; omega) _ _
end Go.Proofs.Ytcgcapfppceggaa.Sh
