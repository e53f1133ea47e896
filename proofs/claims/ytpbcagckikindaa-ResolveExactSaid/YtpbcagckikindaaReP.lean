/-
  Contracts of the generators of motions, contacts and axes out of numbers: Pick, bounded, mass, Motion.
  Conditions: none.
-/
import Derived.Test.YtpbcagckikindaaFxG
import Derived.Test.YtpbcagckikindaaQt
import Derived.Test.YtpbcagckikindaaFr
namespace Go.Proofs.Ytpbcagckikindaa.Re
open Go.RowKit Go.Proofs.Ytpbcagckikindaa.FxMath Go.Proofs.Ytpbcagckikindaa.FxA Go.Proofs.Ytpbcagckikindaa.Qt
set_option linter.unusedVariables false
set_option linter.unusedSimpArgs false

/-- A slice of integers that came in stays readable in every later world. -/
theorem row_later {w W : World} {a : Option Addr} {len cap : Nat} {zs : List Int} (h : Fr.IsRow .i64 w a len cap zs) (hb : Below w.heap.size w W) : Fr.IsRow .i64 W a len cap zs := by
  rcases h with ⟨h1, h2, h3, h4⟩ | ⟨x, h1, h2, h3, h4, h5, h6⟩
  · exact .inl ⟨h1, h2, h3, h4⟩
  · exact .inr ⟨x, h1, h2, h3, h4, fun i hi => by
      have := h5 i hi
      exact (hb.cell (World.block_lt_of_cell? w _ this)).trans this, h6⟩

/-- What Pick is. -/
def pck (len : Nat) (zs : List Int) (i : Nat) (m : Int) : Int := if i < len then aro (zs.getD i 0) m else 0
theorem pck_bd (len : Nat) (zs : List Int) (i : Nat) (m : Int) (hm : 1 ≤ m) : 0 ≤ pck len zs i m ∧ pck len zs i m < m := by
  unfold pck
  split
  · exact aro_bd _ _ hm
  · omega

theorem pick_any (a : Option Addr) (len cap : Nat) (zs : List Int) (i : Nat) (k : Int) (hk : (i : Int) = k) (m : Int) (w : World) (h : Fr.IsRow .i64 w a len cap zs) (hm : 1 ≤ m) (hm2 : m ≤ 9223372036854775807) (hi : i ≤ 100000) :
    Calls Try.prog 46 #[.slice a len cap, .int .i64 k, .int .i64 m] w fun e w' => e = .returned (.int .i64 (pck len zs i m)) ∧ w = w' := by
  subst hk
  have hi0 : (0 : Int) ≤ i := by omega
  by_cases hl : i < len
  · have e : pck len zs i m = aro (zs.getD i 0) m := by unfold pck; rw [if_pos hl]
    rcases h with ⟨h1, h2, h3, h4⟩ | ⟨x, rfl, h2, h3, h4, h5, h6⟩
    · omega
    · have hz : i < zs.length := by omega
      have hc := h5 i hz
      have hw := i64_bd (h6 (zs.getD i 0) (by rw [List.getD_eq_getElem?_getD, List.getElem?_eq_getElem hz]; simp))
      rw [e]
      obtain ⟨z, hz⟩ : ∃ z, z = zs.getD i 0 := ⟨_, rfl⟩
      rw [← hz] at hc hw ⊢
      have hlI : (i : Int) < (len : Int) := by omega
      have hl2 : ¬ (len : Int) ≤ (i : Int) := by omega
      unfold maxLen at h3
      clear h5 h6 e
      have HZ := Lib.hid hz
      clear hz h4
      obtain ⟨bx, ox, sx⟩ := x
      go_enter Try.func46, Try.ntmps46
      go_wp2_with (go_at_call 18; refine (around_any _ _ _ (by omega) (by omega) (by omega) (by omega)).mono ?_; rintro e w' ⟨rfl, rfl⟩)
      go_ret
      exact ⟨rfl, rfl⟩
  · have e : pck len zs i m = 0 := by unfold pck; rw [if_neg hl]
    rw [e]
    have hl2 : (len : Int) ≤ (i : Int) := by omega
    clear h e
    go_enter Try.func46, Try.ntmps46
    go_wp2
    go_ret
    exact ⟨rfl, rfl⟩

/-- What bounded makes of a number. -/
def bdv (n m : Int) : Int := if 0 < n % 3 then n / 3 % (2 * min m 300 + 1) - min m 300 else n / 3 % (2 * m + 1) - m
theorem bdv_bd (n m : Int) (hm : 0 ≤ m) : -m ≤ bdv n m ∧ bdv n m ≤ m := by
  unfold bdv
  split
  · have h1 := Int.emod_nonneg (n / 3) (show 2 * min m 300 + 1 ≠ 0 by omega)
    have h2 := Int.emod_lt_of_pos (n / 3) (show 0 < 2 * min m 300 + 1 by omega)
    omega
  · have h1 := Int.emod_nonneg (n / 3) (show 2 * m + 1 ≠ 0 by omega)
    have h2 := Int.emod_lt_of_pos (n / 3) (show 0 < 2 * m + 1 by omega)
    omega

set_option maxHeartbeats 1000000 in
theorem bounded_any (a : Option Addr) (len cap : Nat) (zs : List Int) (i : Nat) (k : Int) (hk : (i : Int) = k) (m : Int) (w : World) (h : Fr.IsRow .i64 w a len cap zs) (hm : 300 ≤ m) (hm2 : m ≤ 1048576) (hi : i ≤ 100000) :
    Calls Try.prog 44 #[.slice a len cap, .int .i64 k, .int .i64 m] w fun e w' => e = .returned (.int .i64 (bdv (pck len zs i 1000000007) m)) ∧ w = w' := by
  have P := Lib.hid (pick_any a len cap zs i k hk 1000000007 w h (by omega) (by omega) hi)
  have b := pck_bd len zs i 1000000007 (by omega)
  generalize pck len zs i 1000000007 = n at *
  obtain ⟨b0, b1⟩ := b
  clear h
  by_cases h3 : 0 < n % 3
  · have e : bdv n m = n / 3 % 601 - 300 := by unfold bdv; rw [if_pos h3, show min m 300 = 300 by omega]; rfl
    have hmin : min m 300 = 300 := by omega
    rw [e]
    clear e
    have r0 := Int.emod_nonneg (n / 3) (show (601 : Int) ≠ 0 by decide)
    have r1 := Int.emod_lt_of_pos (n / 3) (show (0 : Int) < 601 by decide)
    go_enter Try.func44, Try.ntmps44
    go_wp2_with ((with_reducible refine (P.out).mono ?_); rintro e w' ⟨rfl, rfl⟩)
    go_ret
    exact ⟨rfl, rfl⟩
  · have e : bdv n m = n / 3 % (2 * m + 1) - m := by unfold bdv; rw [if_neg h3]
    rw [e]
    clear e
    have r0 := Int.emod_nonneg (n / 3) (show (2 * m + 1 : Int) ≠ 0 by omega)
    have r1 := Int.emod_lt_of_pos (n / 3) (show (0 : Int) < 2 * m + 1 by omega)
    have hz : ((2 * m + 1 : Int) == 0) = false := by simp; omega
    go_enter Try.func44, Try.ntmps44
    go_wp2_with ((with_reducible refine (P.out).mono ?_); rintro e w' ⟨rfl, rfl⟩)
    go_ret
    exact ⟨rfl, rfl⟩

/-- What mass makes of a number. -/
def mas (n : Int) : Int := if n % 7 = 0 then 0 else if n % 7 = 1 then 1024 else if n % 7 = 2 then 1024 else if n % 7 = 3 then 512 else if n % 7 = 4 then n % 4097 else if n % 7 = 5 then 4096 else 1
theorem mas_bd (n : Int) : 0 ≤ mas n ∧ mas n ≤ 4096 := by
  unfold mas
  repeat (split <;> first | omega | skip)
set_option maxHeartbeats 2000000 in
theorem mass_any (n : Int) (h0 : 0 ≤ n) (h1 : n ≤ 1000000) : Gives Try.prog 45 #[.int .i64 n] (.int .i64 (mas n)) := by
  intro w
  have hal := alloc_if; have hfal := allocF_if
  have hk : n % 7 = 0 ∨ n % 7 = 1 ∨ n % 7 = 2 ∨ n % 7 = 3 ∨ n % 7 = 4 ∨ n % 7 = 5 ∨ n % 7 = 6 := by omega
  obtain ⟨v, hv⟩ : ∃ v, mas n = v := ⟨_, rfl⟩
  rcases hk with hk | hk | hk | hk | hk | hk | hk
  all_goals
    have e := hv
    simp [mas, hk] at e
    rw [hv]
    clear hv
    subst e
    go_enter Try.func45, Try.ntmps45
    go_wp2
    go_ret
    exact ⟨rfl, by (repeat (first | exact Below.refl _ _ | (with_reducible refine Below.drew ?_) | (with_reducible refine below_drewN ?_ _) | (with_reducible refine Below.setCell ?_ (by first | (simp; done) | (simp; omega) | omega) _) | (with_reducible refine Below.alloc ?_ (by first | (simp; done) | (simp; omega) | omega) _) | (with_reducible refine Below.trans ?_ (Below.mono (by assumption) (by first | (simp; done) | (simp; omega) | omega)))))⟩
end Go.Proofs.Ytpbcagckikindaa.Re
