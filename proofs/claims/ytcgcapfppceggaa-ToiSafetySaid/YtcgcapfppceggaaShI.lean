/-
  Contract of the generator Shape.
  Conditions: none.
-/
import Derived.Test.YtcgcapfppceggaaShH
namespace Go.Proofs.Ytcgcapfppceggaa.Sh
open Go.RowKit Go.Proofs.Ytcgcapfppceggaa.FxMath Go.Proofs.Ytcgcapfppceggaa.FxA Go.Proofs.Ytcgcapfppceggaa.Qt Go.Proofs.Ytcgcapfppceggaa.Ve Go.Shelf
set_option linter.unusedVariables false
set_option linter.unusedSimpArgs false
/-- The scaled outline. -/
def scl (s : Int) (zs : List (Int × Int)) : List (Int × Int) := zs.map fun z => (s * z.1, s * z.2)
theorem scl_length (s : Int) (zs : List (Int × Int)) : (scl s zs).length = zs.length := by unfold scl; simp
theorem vx_scl (s : Int) (zs : List (Int × Int)) (i : Nat) : vx (scl s zs) i = s * vx zs i := by
  unfold vx scl
  rw [List.getD_eq_getElem?_getD, List.getD_eq_getElem?_getD, List.getElem?_map]
  cases zs[i]? <;> simp
theorem vy_scl (s : Int) (zs : List (Int × Int)) (i : Nat) : vy (scl s zs) i = s * vy zs i := by
  unfold vy scl
  rw [List.getD_eq_getElem?_getD, List.getD_eq_getElem?_getD, List.getElem?_map]
  cases zs[i]? <;> simp
theorem outl_len (i : Nat) : 3 ≤ (outl i).length ∧ (outl i).length ≤ 6 := by unfold outl; split <;> decide
theorem outl_bd (i j : Nat) : -3 ≤ vx (outl i) j ∧ vx (outl i) j ≤ 3 ∧ -3 ≤ vy (outl i) j ∧ vy (outl i) j ≤ 3 := by
  have key : ∀ zs : List (Int × Int), (∀ z ∈ zs, -3 ≤ z.1 ∧ z.1 ≤ 3 ∧ -3 ≤ z.2 ∧ z.2 ≤ 3) → -3 ≤ vx zs j ∧ vx zs j ≤ 3 ∧ -3 ≤ vy zs j ∧ vy zs j ≤ 3 := by
    intro zs h
    unfold vx vy
    rw [List.getD_eq_getElem?_getD]
    cases hz : zs[j]? with
    | none => simp
    | some z => exact h z (List.mem_of_getElem? hz)
  apply key
  unfold outl
  split <;> decide

/-- The shape that is built from a number: its radius and its vertices. -/
def shS (k : Int) : Int := if k % 3 = 1 then 1 + k / 18 % 12 else 1 + k / 18 % 10000
def shR (n : Int) : Int := if aro n 1000000000 % 3 = 0 then (if aro n 1000000000 / 3 % 2 = 0 then 1 + aro n 1000000000 / 6 % 40 else 1 + aro n 1000000000 / 6 % 32768) else 0
def shO (k : Int) : List (Int × Int) := outl (k / 3 % 6).toNat
def shZ (n : Int) : List (Int × Int) := if aro n 1000000000 % 3 = 0 then [] else rot (scl (shS (aro n 1000000000)) (shO (aro n 1000000000))) (aro (aro n 1000000000 / 180000) (shO (aro n 1000000000)).length).toNat
theorem rot_length (zs : List (Int × Int)) (k : Nat) : (rot zs k).length = zs.length := by unfold rot; simp; omega
theorem sh_cases (n : Int) : (shZ n = [] ∧ 1 ≤ shR n ∧ shR n ≤ 32768) ∨ (shR n = 0 ∧ ∃ (i : Nat) (s : Int) (j : Nat), i < 6 ∧ 1 ≤ s ∧ s ≤ 10000 ∧ j < (outl i).length ∧ shZ n = rot (scl s (outl i)) j) := by
  have hk := aro_bd n 1000000000 (by decide)
  unfold shR shZ shO shS
  by_cases h3 : aro n 1000000000 % 3 = 0
  · left
    rw [if_pos h3, if_pos h3]
    refine ⟨rfl, ?_⟩
    split <;> omega
  · right
    rw [if_neg h3, if_neg h3]
    have hl := outl_len (aro n 1000000000 / 3 % 6).toNat
    have ha := aro_bd (aro n 1000000000 / 180000) (outl (aro n 1000000000 / 3 % 6).toNat).length (by omega)
    refine ⟨rfl, _, _, _, ?_, ?_, ?_, ?_, rfl⟩
    · omega
    · split <;> omega
    · split <;> omega
    · omega
theorem shZ_len (n : Int) : (shZ n).length ≤ 6 := by
  rcases sh_cases n with ⟨h, _⟩ | ⟨_, i, s, j, _, _, _, _, h⟩
  · rw [h]; decide
  · rw [h, rot_length, scl_length]; exact (outl_len i).2

def ShapeP (w : World) (n : Int) (e : Ending) (W : World) : Prop := ∃ a cap, e = .returned (.agg #[.int .i64 (shR n), .slice a (shZ n).length cap]) ∧ IsPoly W a (shZ n).length cap (shZ n) ∧ Below w.heap.size w W ∧ (∀ x, a = some x → w.heap.size ≤ x.block) ∧ (shZ n = [] → a = none ∧ cap = 0)
set_option maxHeartbeats 2000000 in
theorem shape_circle (n : Int) (w : World) (b0 : -9223372036854775808 ≤ n) (b1 : n ≤ 9223372036854775807) (h3 : aro n 1000000000 % 3 = 0) : Calls Try.prog 18 #[.int .i64 n] w (ShapeP w n) := by
  have ca := gives_same (fun w => around_any n 1000000000 w b0 b1 (by omega) (by omega))
  have hk := aro_bd n 1000000000 (by decide)
  have hz : shZ n = [] := by unfold shZ; rw [if_pos h3]
  have hr : shR n = (if aro n 1000000000 / 3 % 2 = 0 then 1 + aro n 1000000000 / 6 % 40 else 1 + aro n 1000000000 / 6 % 32768) := by unfold shR; rw [if_pos h3]
  have fin : ∀ W r, Below w.heap.size w W → r = shR n → ShapeP w n (.returned (.agg #[.int .i64 r, .slice none 0 0])) W := by
    intro W r hb he
    unfold ShapeP
    rw [hz, he]
    exact ⟨none, 0, rfl, .inl ⟨rfl, rfl, rfl, rfl⟩, hb, by simp, fun _ => ⟨rfl, rfl⟩⟩
  generalize aro n 1000000000 = k at *
  have t3 : (k % 3 == 0) = true := by simpa using h3
  have HR := Lib.hid hr
  have HF := Lib.hid fin
  have Hca := Lib.hid ca; clear ca
  clear hz hr h3 fin
  have hal := alloc_if; have hfal := allocF_if
  have hst := setCell_if
  by_cases h2 : k / 3 % 2 = 0
  · have t2 : (k / 3 % 2 == 0) = true := by simpa using h2
    have HR2 := Lib.hid (HR.out.trans (if_pos h2))
    clear HR h2
    go_enter Try.func18, Try.ntmps18
    go_wp2_with (first | ((with_reducible refine (Hca.out _).mono ?_); rintro e wA ⟨rfl, hbA⟩; obtain ⟨NA, hNA, hcA, hfA, hsA⟩ := bcell hbA; (try simp only [World.size_alloc, World.size_setCell, World.size_drew] at hNA)))
    exact bodyPost_ret (v := .agg #[.int .i64 (1 + k / 6 % 40), .slice none 0 0]) (by simp [results, Try.results18, go_sem, setCell_if, hcA, alloc_if, ↓IntWalk.iteOmega]) rfl (HF.out _ _ (by (repeat (first | (with_reducible exact Below.refl _ _) | (with_reducible refine Below.drew ?_) | (with_reducible refine below_drewN ?_ _) | (with_reducible refine Below.setCell ?_ (by first | (simp; done) | (simp; omega) | omega) _) | (with_reducible refine Below.alloc ?_ (by first | (simp; done) | (simp; omega) | omega) _) | (with_reducible refine Below.trans ?_ (Below.mono (by assumption) (by first | (simp; done) | (simp; omega) | omega))) | (with_reducible refine Below.trans ?_ (Below.mono (Later.below _) (by first | (simp; done) | (simp; omega) | omega)))))) HR2.out.symm)
  · have t2 : (k / 3 % 2 == 0) = false := by simpa using h2
    have HR2 := Lib.hid (HR.out.trans (if_neg h2))
    clear HR h2
    go_enter Try.func18, Try.ntmps18
    go_wp2_with (first | ((with_reducible refine (Hca.out _).mono ?_); rintro e wA ⟨rfl, hbA⟩; obtain ⟨NA, hNA, hcA, hfA, hsA⟩ := bcell hbA; (try simp only [World.size_alloc, World.size_setCell, World.size_drew] at hNA)))
    exact bodyPost_ret (v := .agg #[.int .i64 (1 + k / 6 % 32768), .slice none 0 0]) (by simp [results, Try.results18, go_sem, setCell_if, hcA, alloc_if, ↓IntWalk.iteOmega]) rfl (HF.out _ _ (by (repeat (first | (with_reducible exact Below.refl _ _) | (with_reducible refine Below.drew ?_) | (with_reducible refine below_drewN ?_ _) | (with_reducible refine Below.setCell ?_ (by first | (simp; done) | (simp; omega) | omega) _) | (with_reducible refine Below.alloc ?_ (by first | (simp; done) | (simp; omega) | omega) _) | (with_reducible refine Below.trans ?_ (Below.mono (by assumption) (by first | (simp; done) | (simp; omega) | omega))) | (with_reducible refine Below.trans ?_ (Below.mono (Later.below _) (by first | (simp; done) | (simp; omega) | omega)))))) HR2.out.symm)
end Go.Proofs.Ytcgcapfppceggaa.Sh
