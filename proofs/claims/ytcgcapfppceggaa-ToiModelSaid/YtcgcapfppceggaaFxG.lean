/-
  Small helpers of the laws: a world that has only drawn is a grown world; the values of Around, Bound and small by their bounds alone; bounds on products.
-/
import Derived.Test.YtcgcapfppceggaaFxR
import Derived.Lib.MinMax
namespace Go.Proofs.Ytcgcapfppceggaa.FxA
open Go.RowKit Go.Proofs.Ytcgcapfppceggaa.FxMath
theorem grown_drewN {W w : World} (h : Grown W w) (n : Nat) : Grown W (w.drewN n) := by
  induction n generalizing w with
  | zero => exact h
  | succ n ih => exact ih h.drew
theorem i64_bd {a : Int} (h : (Lit.int .i64 a).wf = true) : -9223372036854775808 ≤ a ∧ a ≤ 9223372036854775807 := by
  simpa [Lit.wf, IntKind.min, IntKind.max, IntKind.bits, IntKind.signed] using h

/-- A product of two numbers of limited size. -/
theorem mul_bd {a b A B : Int} (ha0 : -A ≤ a) (ha : a ≤ A) (hb0 : -B ≤ b) (hb : b ≤ B) : -(A * B) ≤ a * b ∧ a * b ≤ A * B := by
  have hA : (a.natAbs : Int) ≤ A := by omega
  have hB : (b.natAbs : Int) ≤ B := by omega
  have h : (a.natAbs : Int) * b.natAbs ≤ A * B := Int.mul_le_mul hA hB (by omega) (by omega)
  have e : ((a * b).natAbs : Int) = (a.natAbs : Int) * b.natAbs := by rw [Int.natAbs_mul, Int.natCast_mul]
  omega

theorem aroundE (a m : Int) (ha : (Lit.int .i64 a).wf = true) (hm : 1 ≤ m) (hm2 : m ≤ 9223372036854775807) :
    ∃ x : Int, 0 ≤ x ∧ x < m ∧ ∀ w : World, Calls Try.prog 23 #[.int .i64 a, .int .i64 m] w fun e w' => e = .returned (.int .i64 x) ∧ w = w' :=
  ⟨aro a m, (aro_bd a m hm).1, (aro_bd a m hm).2, fun w => around_any a m w (i64_bd ha).1 (i64_bd ha).2 hm hm2⟩
theorem boundE (a m : Int) (ha : (Lit.int .i64 a).wf = true) (hm : 0 ≤ m) (hm2 : m ≤ 2305843009213693952) :
    ∃ x : Int, -m ≤ x ∧ x ≤ m ∧ ∀ w : World, Calls Try.prog 35 #[.int .i64 a, .int .i64 m] w fun e w' => e = .returned (.int .i64 x) ∧ w = w' :=
  ⟨bnd a m, (bnd_bd a m hm).1, (bnd_bd a m hm).2, fun w => bound_any a m w (i64_bd ha).1 (i64_bd ha).2 hm hm2⟩
end Go.Proofs.Ytcgcapfppceggaa.FxA
