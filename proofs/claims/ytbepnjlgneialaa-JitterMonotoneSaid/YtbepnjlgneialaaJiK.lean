/-
  Contracts of filled, Kept and AtMost in later worlds.
  Conditions: stated in each contract.
-/
import Derived.Test.YtbepnjlgneialaaJiL
namespace Go.Proofs.Ytbepnjlgneialaa.Ji
open Go Go.RowKit Go.Proofs.Ytbepnjlgneialaa.FxA Go.Proofs.Ytbepnjlgneialaa.Qt
set_option linter.unusedVariables false
set_option linter.unusedSimpArgs false
section
variable {w : World} {a : Option Addr} {len cap : Nat} {D : List Int}
theorem IsL.fill (h : IsL w a len cap D) (hl : len ≤ 1000) (W : World) (hW : Below w.heap.size w W) : Calls Try.prog 21 #[.slice a len cap] W fun e w' => ∃ b, e = .returned (.pointer (some ⟨b, 0, none⟩)) ∧ Est w' b (kept D) ∧ Below W.heap.size W w' := filled_any a len cap D W (h.later hW) hl
theorem IsL.keep (h : IsL w a len cap D) (hl : len ≤ 1000) (W : World) (hW : Below w.heap.size w W) : Calls Try.prog 17 #[.slice a len cap] W fun e w' => ∃ a' cap', e = .returned (.slice a' (kept D).length cap') ∧ IsL w' a' (kept D).length cap' (kept D) ∧ Below W.heap.size W w' := kept_any a len cap D W (h.later hW) hl
theorem IsL.atm (h : IsL w a len cap D) (hl : len ≤ 1000) (v : Int) (W : World) (hW : Below w.heap.size w W) : Calls Try.prog 22 #[.slice a len cap, .int .i64 v] W fun e w' => e = .returned (.int .i64 (atm D v : Nat)) ∧ Below W.heap.size W w' := atMost_any a len cap D v W (h.later hW) hl
theorem IsL.rq (h : IsL w a len cap D) (hl : len ≤ 1000) (hb : ∀ x ∈ D, 0 ≤ x ∧ x ≤ 60) (p : Int) (W : World) (hW : Below w.heap.size w W) : Calls Try.prog 18 #[.slice a len cap, .int .i64 p] W fun e w' => e = .returned (.int .i64 (qnt D p)) ∧ Below W.heap.size W w' := rquantile_any a len cap D p W (h.later hW) hl hb
theorem IsL.top (h : IsL w a len cap D) (hl : len ≤ 1000) (h0 : 1 ≤ len) (hb : ∀ x ∈ D, 0 ≤ x ∧ x ≤ 60) (W : World) (hW : Below w.heap.size w W) : Calls Try.prog 19 #[.slice a len cap] W fun e w' => e = .returned (.int .i64 (qnt D 1000)) ∧ Below W.heap.size W w' := largest_any a len cap D W (h.later hW) hl h0 hb
theorem IsL.dly (h : IsL w a len cap D) (W : World) (hW : Below w.heap.size w W) : Calls Try.prog 10 #[.slice a len cap] W fun e w' => ∃ v, e = .returned v ∧ w'.ownsRow W.heap.size 3 1 v (dly D).length ((dly D).map (Value.int .i64)) ∧ Below W.heap.size W w' := delays_any a len cap D W (h.later hW)
end
end Go.Proofs.Ytbepnjlgneialaa.Ji
