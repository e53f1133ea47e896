/-
  Contracts of the generators Motion, Axis, Slow.
  Conditions: none.
-/
import Derived.Test.YtpbcagckikindaaReP
namespace Go.Proofs.Ytpbcagckikindaa.Re
open Go.RowKit Go.Proofs.Ytpbcagckikindaa.FxMath Go.Proofs.Ytpbcagckikindaa.FxA Go.Proofs.Ytpbcagckikindaa.Qt
set_option linter.unusedVariables false
set_option linter.unusedSimpArgs false

set_option maxHeartbeats 2000000 in
theorem motion_any (a : Option Addr) (len cap : Nat) (zs : List Int) (w : World) (h : Fr.IsRow .i64 w a len cap zs) (px py vx vy m : Int)
    (e0 : bdv (pck len zs 0 1000000007) 1048576 = px) (e1 : bdv (pck len zs 1 1000000007) 1048576 = py) (e2 : bdv (pck len zs 2 1000000007) 16384 = vx) (e3 : bdv (pck len zs 3 1000000007) 16384 = vy) (e4 : mas (pck len zs 4 1000000) = m) :
    Calls Try.prog 16 #[.slice a len cap] w fun e w' => e = .returned (.agg #[.int .i64 px, .int .i64 py, .int .i64 vx, .int .i64 vy, .int .i64 m]) ∧ Below w.heap.size w w' := by
  have B0 := fun (W : World) (hb : Below w.heap.size w W) => by have := bounded_any a len cap zs 0 0 rfl 1048576 W (row_later h hb) (by omega) (by omega) (by omega); rw [e0] at this; exact Lib.hid this
  have B1 := fun (W : World) (hb : Below w.heap.size w W) => by have := bounded_any a len cap zs 1 1 rfl 1048576 W (row_later h hb) (by omega) (by omega) (by omega); rw [e1] at this; exact Lib.hid this
  have B2 := fun (W : World) (hb : Below w.heap.size w W) => by have := bounded_any a len cap zs 2 2 rfl 16384 W (row_later h hb) (by omega) (by omega) (by omega); rw [e2] at this; exact Lib.hid this
  have B3 := fun (W : World) (hb : Below w.heap.size w W) => by have := bounded_any a len cap zs 3 3 rfl 16384 W (row_later h hb) (by omega) (by omega) (by omega); rw [e3] at this; exact Lib.hid this
  have pb := pck_bd len zs 4 1000000 (by omega)
  have B4 := fun (W : World) (hb : Below w.heap.size w W) => Lib.hid (pick_any a len cap zs 4 4 rfl 1000000 W (row_later h hb) (by omega) (by omega) (by omega))
  have M4 := mass_any (pck len zs 4 1000000) pb.1 (by omega)
  rw [e4] at M4
  have M := Lib.hid M4
  clear M4 pb
  generalize pck len zs 4 1000000 = k at *
  have H0 := Lib.hid B0
  have H1 := Lib.hid B1
  have H2 := Lib.hid B2
  have H3 := Lib.hid B3
  have H4 := Lib.hid B4
  clear B0 B1 B2 B3 B4 h e0 e1 e2 e3 e4
  have hal := alloc_if; have hfal := allocF_if
  go_enter Try.func16, Try.ntmps16
  go_wp2_with (first | ((with_reducible refine ((H0.out _ (by (repeat (first | exact Below.refl _ _ | (with_reducible refine Below.drew ?_) | (with_reducible refine below_drewN ?_ _) | (with_reducible refine Below.setCell ?_ (by first | (simp; done) | (simp; omega) | omega) _) | (with_reducible refine Below.alloc ?_ (by first | (simp; done) | (simp; omega) | omega) _) | (with_reducible refine Below.trans ?_ (Below.mono (by assumption) (by first | (simp; done) | (simp; omega) | omega))))))).out).mono ?_); rintro e w' ⟨rfl, rfl⟩) | ((with_reducible refine ((H1.out _ (by (repeat (first | exact Below.refl _ _ | (with_reducible refine Below.drew ?_) | (with_reducible refine below_drewN ?_ _) | (with_reducible refine Below.setCell ?_ (by first | (simp; done) | (simp; omega) | omega) _) | (with_reducible refine Below.alloc ?_ (by first | (simp; done) | (simp; omega) | omega) _) | (with_reducible refine Below.trans ?_ (Below.mono (by assumption) (by first | (simp; done) | (simp; omega) | omega))))))).out).mono ?_); rintro e w' ⟨rfl, rfl⟩) | ((with_reducible refine ((H2.out _ (by (repeat (first | exact Below.refl _ _ | (with_reducible refine Below.drew ?_) | (with_reducible refine below_drewN ?_ _) | (with_reducible refine Below.setCell ?_ (by first | (simp; done) | (simp; omega) | omega) _) | (with_reducible refine Below.alloc ?_ (by first | (simp; done) | (simp; omega) | omega) _) | (with_reducible refine Below.trans ?_ (Below.mono (by assumption) (by first | (simp; done) | (simp; omega) | omega))))))).out).mono ?_); rintro e w' ⟨rfl, rfl⟩) | ((with_reducible refine ((H3.out _ (by (repeat (first | exact Below.refl _ _ | (with_reducible refine Below.drew ?_) | (with_reducible refine below_drewN ?_ _) | (with_reducible refine Below.setCell ?_ (by first | (simp; done) | (simp; omega) | omega) _) | (with_reducible refine Below.alloc ?_ (by first | (simp; done) | (simp; omega) | omega) _) | (with_reducible refine Below.trans ?_ (Below.mono (by assumption) (by first | (simp; done) | (simp; omega) | omega))))))).out).mono ?_); rintro e w' ⟨rfl, rfl⟩) | ((with_reducible refine ((H4.out _ (by (repeat (first | exact Below.refl _ _ | (with_reducible refine Below.drew ?_) | (with_reducible refine below_drewN ?_ _) | (with_reducible refine Below.setCell ?_ (by first | (simp; done) | (simp; omega) | omega) _) | (with_reducible refine Below.alloc ?_ (by first | (simp; done) | (simp; omega) | omega) _) | (with_reducible refine Below.trans ?_ (Below.mono (by assumption) (by first | (simp; done) | (simp; omega) | omega))))))).out).mono ?_); rintro e w' ⟨rfl, rfl⟩) | ((with_reducible refine (M.out _).mono ?_); rintro e w1 ⟨rfl, hb1⟩; obtain ⟨N1, hN1, hc1, hf1, hs1⟩ := bcell hb1; (try simp only [World.size_alloc, World.size_setCell, World.size_drew] at hN1)))
  refine bodyPost_ret (v := .agg #[.int .i64 px, .int .i64 py, .int .i64 vx, .int .i64 vy, .int .i64 m]) (by simp [results, Try.results16, go_sem, hc1, alloc_if, ↓IntWalk.iteOmega]) rfl ⟨rfl, ?_⟩
  (repeat (first | exact Below.refl _ _ | (with_reducible refine Below.drew ?_) | (with_reducible refine below_drewN ?_ _) | (with_reducible refine Below.setCell ?_ (by first | (simp; done) | (simp; omega) | omega) _) | (with_reducible refine Below.alloc ?_ (by first | (simp; done) | (simp; omega) | omega) _) | (with_reducible refine Below.trans ?_ (Below.mono (by assumption) (by first | (simp; done) | (simp; omega) | omega)))))
/-- The four axes. -/
def axX (n : Int) : Int := if aro n 4 = 0 then 1024 else if aro n 4 = 2 then -1024 else 0
def axY (n : Int) : Int := if aro n 4 = 1 then 1024 else if aro n 4 = 3 then -1024 else 0
theorem ax_cases (n : Int) : (axX n = 1024 ∧ axY n = 0) ∨ (axX n = 0 ∧ axY n = 1024) ∨ (axX n = -1024 ∧ axY n = 0) ∨ (axX n = 0 ∧ axY n = -1024) := by
  have := aro_bd n 4 (by decide)
  have hk : aro n 4 = 0 ∨ aro n 4 = 1 ∨ aro n 4 = 2 ∨ aro n 4 = 3 := by omega
  unfold axX axY
  rcases hk with hk | hk | hk | hk <;> simp [hk]
set_option maxHeartbeats 2000000 in
theorem axis_any (n : Int) (h0 : -9223372036854775808 ≤ n) (h1 : n ≤ 9223372036854775807) : Gives Try.prog 26 #[.int .i64 n] (.agg #[.int .i64 (axX n), .int .i64 (axY n)]) := by
  intro w
  have hal := alloc_if; have hfal := allocF_if
  have A := fun w => around_any n 4 w h0 h1 (by omega) (by omega)
  have hb := aro_bd n 4 (by decide)
  obtain ⟨u, hu⟩ : ∃ u, axX n = u := ⟨_, rfl⟩
  obtain ⟨v, hv⟩ : ∃ v, axY n = v := ⟨_, rfl⟩
  have hk : aro n 4 = 0 ∨ aro n 4 = 1 ∨ aro n 4 = 2 ∨ aro n 4 = 3 := by omega
  rcases hk with hk | hk | hk | hk
  all_goals
    have eu := hu
    have ev := hv
    simp [axX, hk] at eu
    simp [axY, hk] at ev
    simp only [hk] at A
    rw [hu, hv]
    subst eu ev
    have A' := Lib.hid A
    clear A hu hv hb hk
    go_enter Try.func26, Try.ntmps26
    go_wp2_with ((with_reducible refine (A'.out _).mono ?_); rintro e w' ⟨rfl, rfl⟩)
  · exact bodyPost_ret (v := .agg #[.int .i64 1024, .int .i64 0]) (by simp [results, Try.results26, go_sem, alloc_if, ↓IntWalk.iteOmega]) rfl ⟨rfl, by (repeat (first | exact Below.refl _ _ | (with_reducible refine Below.drew ?_) | (with_reducible refine below_drewN ?_ _) | (with_reducible refine Below.setCell ?_ (by first | (simp; done) | (simp; omega) | omega) _) | (with_reducible refine Below.alloc ?_ (by first | (simp; done) | (simp; omega) | omega) _) | (with_reducible refine Below.trans ?_ (Below.mono (by assumption) (by first | (simp; done) | (simp; omega) | omega)))))⟩
  · exact bodyPost_ret (v := .agg #[.int .i64 0, .int .i64 1024]) (by simp [results, Try.results26, go_sem, alloc_if, ↓IntWalk.iteOmega]) rfl ⟨rfl, by (repeat (first | exact Below.refl _ _ | (with_reducible refine Below.drew ?_) | (with_reducible refine below_drewN ?_ _) | (with_reducible refine Below.setCell ?_ (by first | (simp; done) | (simp; omega) | omega) _) | (with_reducible refine Below.alloc ?_ (by first | (simp; done) | (simp; omega) | omega) _) | (with_reducible refine Below.trans ?_ (Below.mono (by assumption) (by first | (simp; done) | (simp; omega) | omega)))))⟩
  · exact bodyPost_ret (v := .agg #[.int .i64 (-1024), .int .i64 0]) (by simp [results, Try.results26, go_sem, alloc_if, ↓IntWalk.iteOmega]) rfl ⟨rfl, by (repeat (first | exact Below.refl _ _ | (with_reducible refine Below.drew ?_) | (with_reducible refine below_drewN ?_ _) | (with_reducible refine Below.setCell ?_ (by first | (simp; done) | (simp; omega) | omega) _) | (with_reducible refine Below.alloc ?_ (by first | (simp; done) | (simp; omega) | omega) _) | (with_reducible refine Below.trans ?_ (Below.mono (by assumption) (by first | (simp; done) | (simp; omega) | omega)))))⟩
  · exact bodyPost_ret (v := .agg #[.int .i64 0, .int .i64 (-1024)]) (by simp [results, Try.results26, go_sem, alloc_if, ↓IntWalk.iteOmega]) rfl ⟨rfl, by (repeat (first | exact Below.refl _ _ | (with_reducible refine Below.drew ?_) | (with_reducible refine below_drewN ?_ _) | (with_reducible refine Below.setCell ?_ (by first | (simp; done) | (simp; omega) | omega) _) | (with_reducible refine Below.alloc ?_ (by first | (simp; done) | (simp; omega) | omega) _) | (with_reducible refine Below.trans ?_ (Below.mono (by assumption) (by first | (simp; done) | (simp; omega) | omega)))))⟩
end Go.Proofs.Ytpbcagckikindaa.Re
