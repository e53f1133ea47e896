/-
  The contract of fixed.Isqrt: it returns the integer square root, rounded down, and leaves the world as it was.
  Conditions: none (every 64-bit integer; 0 for negative ones).
-/
import Derived.Test.YtbepnjlgneialaaFxC
import Derived.Test.YtbepnjlgneialaaFxLen
import Derived.Lib.ItoaNum
namespace Go.Proofs.Ytbepnjlgneialaa.FxA
open Go.RowKit Go.Proofs.Ytbepnjlgneialaa.FxMath
set_option linter.unusedVariables false
theorem bits_LenB (n : Int) (w : World) (h0 : 0 < n) (h1 : n ≤ 9223372036854775807) :
    Calls Try.prog 27 #[.int .u64 n] w fun e w' => ∃ L : Nat, 1 ≤ L ∧ L ≤ 63 ∧ Hid (n < 2 ^ L) ∧ e = .returned (.int .i64 L) ∧ w = w' := by
  refine (bits_Len n w (by omega) (by omega)).mono ?_
  rintro e w' ⟨rfl, rfl⟩
  have hb := Lib.bitLenAux_bounds 64 n.toNat (by omega) (by omega)
  have hl := Lib.bitLen_le n.toNat 63 (by omega) (by omega)
  refine ⟨Lib.bitLen n.toNat, hb.1, hl, ?_, rfl, rfl⟩
  have h2 : (n.toNat : Int) < ((2 ^ Lib.bitLen n.toNat : Nat) : Int) := by exact_mod_cast hb.2.2
  rw [Int.natCast_pow, Int.toNat_of_nonneg (show 0 ≤ n by omega)] at h2
  exact h2
/-- What holds at the head of a round: k digits are still to come. -/
def Rt (n r : Int) (k : Nat) : Prop := ∃ q : Int, 0 ≤ q ∧ r = q * 2 ^ k ∧ r * r ≤ n ∧ n < (r + 2 ^ k) * (r + 2 ^ k)

theorem rt_start (n : Int) (L : Nat) (h : 0 < n) (hL : n < 2 ^ L) : Rt n 0 ((L + 1) / 2) := by
  refine ⟨0, by omega, by omega, by omega, ?_⟩
  have h1 : (2 : Int) ^ L ≤ 2 ^ ((L + 1) / 2 + (L + 1) / 2) := by
    have : (2 : Nat) ^ L ≤ 2 ^ ((L + 1) / 2 + (L + 1) / 2) := Nat.pow_le_pow_right (by decide) (by omega)
    exact_mod_cast this
  rw [Int.pow_add] at h1
  simp only [Int.zero_add]
  omega

theorem two_pow_pos (j : Nat) : (0 : Int) < 2 ^ j := by
  have := Nat.two_pow_pos j
  exact_mod_cast this

theorem rt_end (n r : Int) (h : Rt n r 0) : r = isq n := by
  obtain ⟨q, hq, hr, h1, h2⟩ := h
  simp only [Int.pow_zero, Int.mul_one] at hr h2
  exact (isq_unique n r (by omega) h1 h2).symm

/-- What a round needs to know of the next candidate. -/
theorem rt_cand (n r : Int) (j : Nat) (hj : j ≤ 31) (h0 : 0 ≤ r) (hn : n ≤ 9223372036854775807) (h : Rt n r (j + 1)) :
    ∃ x : Int, x = r + 2 ^ j ∧ 1 ≤ x ∧ x ≤ 8589934592 ∧ bits BinOp.or IntKind.i64 r (wrap64 (2 ^ j)) = x := by
  obtain ⟨q, hq, hr, h1, h2⟩ := h
  have hp := two_pow_pos j
  have hp2 : (2 : Int) ^ j ≤ 2147483648 := by
    have h3 : (2 : Nat) ^ j ≤ 2147483648 := Nat.le_trans (Nat.pow_le_pow_right (by decide) hj) (by decide)
    have h4 : ((2 ^ j : Nat) : Int) ≤ ((2147483648 : Nat) : Int) := Int.ofNat_le.mpr h3
    rw [Int.natCast_pow] at h4
    exact h4
  have hr2 : r ≤ 4294967296 := by
    refine Int.not_lt.mp fun hc => ?_
    have := sq_lt (a := 4294967296) (b := r) (by omega) hc
    omega
  refine ⟨r + 2 ^ j, rfl, by omega, by omega, ?_⟩
  rw [IntWalk.wrap64_in _ (by omega)]
  refine bits_join .i64 63 (by decide) (fun m a b => IntWalk.i64_in m (by omega)) (j + 1) r (2 ^ j) h0 ?_ (by omega) (by omega) ?_ (by omega)
  · rw [hr]; exact Int.mul_emod_left _ _
  · rw [Int.pow_succ]; omega

theorem rt_low (n r x : Int) (j : Nat) (h : Rt n r (j + 1)) (hx : x = r + 2 ^ j) (hx1 : 1 ≤ x) (ht : n / x < x) : Rt n r j := by
  obtain ⟨q, hq, hr, h1, h2⟩ := h
  refine ⟨2 * q, by omega, ?_, h1, ?_⟩
  · rw [hr, Int.pow_succ, Int.mul_comm 2 q, Int.mul_assoc, Int.mul_comm 2]
  · rw [← hx]
    exact Int.lt_mul_of_ediv_lt (by omega) ht

theorem rt_high (n r x : Int) (j : Nat) (h : Rt n r (j + 1)) (hx : x = r + 2 ^ j) (hx1 : 1 ≤ x) (ht : x ≤ n / x) : Rt n x j := by
  obtain ⟨q, hq, hr, h1, h2⟩ := h
  refine ⟨2 * q + 1, by omega, ?_, ?_, ?_⟩
  · rw [hx, hr, Int.pow_succ, Int.add_mul, Int.one_mul, Int.mul_comm 2 q, Int.mul_assoc, Int.mul_comm 2]
  · exact Int.mul_le_of_le_ediv (by omega) ht
  · have e : r + 2 ^ (j + 1) = x + 2 ^ j := by rw [hx, Int.pow_succ]; omega
    rw [← e]; exact h2

theorem rt_bd (n r : Int) (k : Nat) (h : Rt n r k) (hn : n ≤ 9223372036854775807) : r ≤ 4294967296 := by
  obtain ⟨q, hq, hr, h1, h2⟩ := h
  refine Int.not_lt.mp fun hc => ?_
  have := sq_lt (a := 4294967296) (b := r) (by omega) hc
  omega

end Go.Proofs.Ytbepnjlgneialaa.FxA
