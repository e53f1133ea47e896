/-
  The contract of fixed.Isqrt: it returns the integer square root, rounded down, and leaves the world as it was.
  Conditions: none (every 64-bit integer; 0 for negative ones).
-/
import Derived.Test.YtcgcapfppceggaaFxC
import Derived.Test.YtcgcapfppceggaaFxLen
import Derived.Lib.ItoaNum
namespace Go.Proofs.Ytcgcapfppceggaa.FxA
open Go.RowKit Go.Proofs.Ytcgcapfppceggaa.FxMath
set_option linter.unusedVariables false
theorem bits_LenB (n : Int) (w : World) (h0 : 0 < n) (h1 : n ≤ 9223372036854775807) :
    Calls Try.prog 82 #[.int .u64 n] w fun e w' => ∃ L : Nat, 1 ≤ L ∧ L ≤ 63 ∧ Hid (n < 2 ^ L) ∧ e = .returned (.int .i64 L) ∧ w = w' := by
  refine (bits_Len n w (by omega) (by omega)).mono ?_
  rintro e w' ⟨rfl, rfl⟩
  have hb := Lib.bitLenAux_bounds 64 n.toNat (by omega) (by omega)
  have hl := Lib.bitLen_le n.toNat 63 (by omega) (by omega)
  refine ⟨Lib.bitLen n.toNat, hb.1, hl, ?_, rfl, rfl⟩
  have h2 : (n.toNat : Int) < ((2 ^ Lib.bitLen n.toNat : Nat) : Int) := by exact_mod_cast hb.2.2
  rw [Int.natCast_pow, Int.toNat_of_nonneg (show 0 ≤ n by omega)] at h2
  exact h2
/-- What holds at the head of a round: k digits are still to come. -/
def Rt (n r : Int) (k : Nat) : Prop := ∃ q : Int, 0 ≤ q ∧ r = q * 2 ^ k ∧ r * r ≤ n ∧ n < (r + 2 ^ k) * (r + 2 ^ k)

theorem rt_start (n : Int) (L : Nat) (h : 0 < n) (hL : n < 2 ^ L) : Rt n 0 ((L + 1) / 2) := by
  refine ⟨0, by omega, by omega, by omega, ?_⟩
  have h1 : (2 : Int) ^ L ≤ 2 ^ ((L + 1) / 2 + (L + 1) / 2) := by
    have : (2 : Nat) ^ L ≤ 2 ^ ((L + 1) / 2 + (L + 1) / 2) := Nat.pow_le_pow_right (by decide) (by omega)
    exact_mod_cast this
  rw [Int.pow_add] at h1
  simp only [Int.zero_add]
  omega

theorem two_pow_pos (j : Nat) : (0 : Int) < 2 ^ j := by
  have := Nat.two_pow_pos j
  exact_mod_cast this

theorem rt_end (n r : Int) (h : Rt n r 0) : r = isq n := by
  obtain ⟨q, hq, hr, h1, h2⟩ := h
  simp only [Int.pow_zero, Int.mul_one] at hr h2
  exact (isq_unique n r (by omega) h1 h2).symm

/-- What a round needs to know of the next candidate. -/
theorem rt_cand (n r : Int) (j : Nat) (hj : j ≤ 31) (h0 : 0 ≤ r) (hn : n ≤ 9223372036854775807) (h : Rt n r (j + 1)) :
    ∃ x : Int, x = r + 2 ^ j ∧ 1 ≤ x ∧ x ≤ 8589934592 ∧ bits BinOp.or IntKind.i64 r (wrap64 (2 ^ j)) = x := by
  obtain ⟨q, hq, hr, h1, h2⟩ := h
  have hp := two_pow_pos j
  have hp2 : (2 : Int) ^ j ≤ 2147483648 := by
    have h3 : (2 : Nat) ^ j ≤ 2147483648 := Nat.le_trans (Nat.pow_le_pow_right (by decide) hj) (by decide)
    have h4 : ((2 ^ j : Nat) : Int) ≤ ((2147483648 : Nat) : Int) := Int.ofNat_le.mpr h3
    rw [Int.natCast_pow] at h4
    exact h4
  have hr2 : r ≤ 4294967296 := by
    refine Int.not_lt.mp fun hc => ?_
    have := sq_lt (a := 4294967296) (b := r) (by omega) hc
    omega
  refine ⟨r + 2 ^ j, rfl, by omega, by omega, ?_⟩
  rw [IntWalk.wrap64_in _ (by omega)]
  refine bits_join .i64 63 (by decide) (fun m a b => IntWalk.i64_in m (by omega)) (j + 1) r (2 ^ j) h0 ?_ (by omega) (by omega) ?_ (by omega)
  · rw [hr]; exact Int.mul_emod_left _ _
  · rw [Int.pow_succ]; omega

theorem rt_low (n r x : Int) (j : Nat) (h : Rt n r (j + 1)) (hx : x = r + 2 ^ j) (hx1 : 1 ≤ x) (ht : n / x < x) : Rt n r j := by
  obtain ⟨q, hq, hr, h1, h2⟩ := h
  refine ⟨2 * q, by omega, ?_, h1, ?_⟩
  · rw [hr, Int.pow_succ, Int.mul_comm 2 q, Int.mul_assoc, Int.mul_comm 2]
  · rw [← hx]
    exact Int.lt_mul_of_ediv_lt (by omega) ht

theorem rt_high (n r x : Int) (j : Nat) (h : Rt n r (j + 1)) (hx : x = r + 2 ^ j) (hx1 : 1 ≤ x) (ht : x ≤ n / x) : Rt n x j := by
  obtain ⟨q, hq, hr, h1, h2⟩ := h
  refine ⟨2 * q + 1, by omega, ?_, ?_, ?_⟩
  · rw [hx, hr, Int.pow_succ, Int.add_mul, Int.one_mul, Int.mul_comm 2 q, Int.mul_assoc, Int.mul_comm 2]
  · exact Int.mul_le_of_le_ediv (by omega) ht
  · have e : r + 2 ^ (j + 1) = x + 2 ^ j := by rw [hx, Int.pow_succ]; omega
    rw [← e]; exact h2

theorem rt_bd (n r : Int) (k : Nat) (h : Rt n r k) (hn : n ≤ 9223372036854775807) : r ≤ 4294967296 := by
  obtain ⟨q, hq, hr, h1, h2⟩ := h
  refine Int.not_lt.mp fun hc => ?_
  have := sq_lt (a := 4294967296) (b := r) (by omega) hc
  omega

theorem isqrt_pos (n : Int) (w : World) (h0 : 0 < n) (h1 : n ≤ 9223372036854775807) :
    Calls Try.prog 52 #[.int .i64 n] w fun e w' => e = .returned (.int .i64 (isq n)) ∧ w = w' := by
  go_enter Try.func52, Try.ntmps52
  go_wp2
  go_step3
  go_wp2
  go_step3
  go_wp2_with (go_at_call 82; refine (bits_LenB n _ (by omega) (by omega)).mono ?_; rintro e w' ⟨L, hL1, hL2, hL, rfl, rfl⟩)
  go_loop [3, 4] (fun r s => ∃ (k : Nat) (r' : Int), k ≤ 32 ∧ 0 ≤ r' ∧ r' ≤ 4294967296 ∧ Hid (Rt n r' k) ∧ s = .int .i64 (k - 1) ∧ r = .int .i64 r') (fun _ s => (intOf s + 1).toNat)
  case atStart => exact ⟨(L + 1) / 2, 0, by omega, by omega, by omega, Lib.hid (rt_start n L h0 hL.out), by go_num, rfl⟩
  case round =>
    obtain ⟨k, r', hk, hr0, hr1, hR, rfl, rfl⟩ := hrel
    by_cases hk0 : k = 0
    · subst hk0
      go_wp2
      go_ret
      exact ⟨ret_int (rt_end n r' hR.out), rfl⟩
    · obtain ⟨j, rfl⟩ : ∃ j, k = j + 1 := ⟨k - 1, by omega⟩
      rw [show ((j + 1 : Nat) : Int) - 1 = (j : Int) by omega]
      obtain ⟨x, hx, hx1, hx2, ho⟩ := rt_cand n r' j (by omega) hr0 h1 hR.out
      have HX := Lib.hid hx
      clear hx
      go_wp2
      · go_round
        case rel => exact ⟨j, r', by omega, hr0, hr1, Lib.hid (rt_low n r' x j hR.out HX.out hx1 (by assumption)), rfl, rfl⟩
        case measure => simp [intOf]
      · go_round
        case rel =>
          have hh := rt_high n r' x j hR.out HX.out hx1 (by assumption)
          exact ⟨j, x, by omega, by omega, rt_bd n x j hh h1, Lib.hid hh, rfl, rfl⟩
        case measure => simp [intOf]
end Go.Proofs.Ytcgcapfppceggaa.FxA
