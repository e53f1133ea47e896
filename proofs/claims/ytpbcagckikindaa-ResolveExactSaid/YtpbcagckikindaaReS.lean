/-
  Contracts of the generators Contact and Slow.
  Conditions: none.
-/
import Derived.Test.YtpbcagckikindaaReQ
import Derived.Test.YtpbcagckikindaaReR
namespace Go.Proofs.Ytpbcagckikindaa.Re
open Go.RowKit Go.Proofs.Ytpbcagckikindaa.FxMath Go.Proofs.Ytpbcagckikindaa.FxA Go.Proofs.Ytpbcagckikindaa.Qt
set_option linter.unusedVariables false
set_option linter.unusedSimpArgs false

/-- The contact's normal and depth. -/
def ctX (len : Nat) (zs : List Int) : Int := if pck len zs 0 1000000 % 3 = 0 then pck len zs 0 1000000 / 3 % 2049 - 1024 else axX (pck len zs 0 1000000 / 3)
def ctY (len : Nat) (zs : List Int) : Int := if pck len zs 0 1000000 % 3 = 0 then pck len zs 2 2049 - 1024 else axY (pck len zs 0 1000000 / 3)
def ctD (len : Nat) (zs : List Int) : Int := if pck len zs 1 11 = 10 then pck len zs 1 1048577 else pck len zs 1 5000

set_option maxHeartbeats 4000000 in
theorem contact_any (a : Option Addr) (len cap : Nat) (zs : List Int) (w : World) (h : Fr.IsRow .i64 w a len cap zs) (nx ny d : Int) (ex : ctX len zs = nx) (ey : ctY len zs = ny) (ed : ctD len zs = d) :
    Calls Try.prog 17 #[.slice a len cap] w fun e w' => e = .returned (.agg #[.int .i64 nx, .int .i64 ny, .int .i64 d]) ∧ Below w.heap.size w w' := by
  have B0 := fun (W : World) (hb : Below w.heap.size w W) => Lib.hid (pick_any a len cap zs 0 0 rfl 1000000 W (row_later h hb) (by omega) (by omega) (by omega))
  have B1 := fun (W : World) (hb : Below w.heap.size w W) => Lib.hid (pick_any a len cap zs 1 1 rfl 5000 W (row_later h hb) (by omega) (by omega) (by omega))
  have B2 := fun (W : World) (hb : Below w.heap.size w W) => Lib.hid (pick_any a len cap zs 2 2 rfl 2049 W (row_later h hb) (by omega) (by omega) (by omega))
  have B3 := fun (W : World) (hb : Below w.heap.size w W) => Lib.hid (pick_any a len cap zs 1 1 rfl 11 W (row_later h hb) (by omega) (by omega) (by omega))
  have B4 := fun (W : World) (hb : Below w.heap.size w W) => Lib.hid (pick_any a len cap zs 1 1 rfl 1048577 W (row_later h hb) (by omega) (by omega) (by omega))
  have b0 := pck_bd len zs 0 1000000 (by omega)
  have b2 := pck_bd len zs 2 2049 (by omega)
  unfold ctX at ex
  unfold ctY at ey
  unfold ctD at ed
  generalize pck len zs 0 1000000 = n at *
  generalize pck len zs 1 5000 = d1 at *
  generalize pck len zs 2 2049 = y1 at *
  generalize pck len zs 1 11 = k at *
  generalize pck len zs 1 1048577 = d2 at *
  obtain ⟨b00, b01⟩ := b0
  obtain ⟨b20, b21⟩ := b2
  have M := Lib.hid (axis_any (n / 3) (by omega) (by omega))
  have r0 := Int.emod_nonneg (n / 3) (show (2049 : Int) ≠ 0 by decide)
  have r1 := Int.emod_lt_of_pos (n / 3) (show (0 : Int) < 2049 by decide)
  have H0 := Lib.hid B0
  have H1 := Lib.hid B1
  have H2 := Lib.hid B2
  have H3 := Lib.hid B3
  have H4 := Lib.hid B4
  clear B0 B1 B2 B3 B4 h
  by_cases c1 : n % 3 = 0
  · rw [if_pos c1] at ex ey
    by_cases c2 : k = 10
    · rw [if_pos c2] at ed
      have E1 := Lib.hid ex
      have E2 := Lib.hid ey
      have E3 := Lib.hid ed
      rw [← ex, ← ey, ← ed]
      clear ex ey ed E1 E2 E3 M
      have hal := alloc_if; have hfal := allocF_if
      go_enter Try.func17, Try.ntmps17
      go_wp2_with (first | ((with_reducible refine ((H0.out _ (by (repeat (first | exact Below.refl _ _ | (with_reducible refine Below.drew ?_) | (with_reducible refine below_drewN ?_ _) | (with_reducible refine Below.setCell ?_ (by first | (simp; done) | (simp; omega) | omega) _) | (with_reducible refine Below.alloc ?_ (by first | (simp; done) | (simp; omega) | omega) _) | (with_reducible refine Below.trans ?_ (Below.mono (by assumption) (by first | (simp; done) | (simp; omega) | omega))))))).out).mono ?_); rintro e w' ⟨rfl, rfl⟩) | ((with_reducible refine ((H1.out _ (by (repeat (first | exact Below.refl _ _ | (with_reducible refine Below.drew ?_) | (with_reducible refine below_drewN ?_ _) | (with_reducible refine Below.setCell ?_ (by first | (simp; done) | (simp; omega) | omega) _) | (with_reducible refine Below.alloc ?_ (by first | (simp; done) | (simp; omega) | omega) _) | (with_reducible refine Below.trans ?_ (Below.mono (by assumption) (by first | (simp; done) | (simp; omega) | omega))))))).out).mono ?_); rintro e w' ⟨rfl, rfl⟩) | ((with_reducible refine ((H2.out _ (by (repeat (first | exact Below.refl _ _ | (with_reducible refine Below.drew ?_) | (with_reducible refine below_drewN ?_ _) | (with_reducible refine Below.setCell ?_ (by first | (simp; done) | (simp; omega) | omega) _) | (with_reducible refine Below.alloc ?_ (by first | (simp; done) | (simp; omega) | omega) _) | (with_reducible refine Below.trans ?_ (Below.mono (by assumption) (by first | (simp; done) | (simp; omega) | omega))))))).out).mono ?_); rintro e w' ⟨rfl, rfl⟩) | ((with_reducible refine ((H3.out _ (by (repeat (first | exact Below.refl _ _ | (with_reducible refine Below.drew ?_) | (with_reducible refine below_drewN ?_ _) | (with_reducible refine Below.setCell ?_ (by first | (simp; done) | (simp; omega) | omega) _) | (with_reducible refine Below.alloc ?_ (by first | (simp; done) | (simp; omega) | omega) _) | (with_reducible refine Below.trans ?_ (Below.mono (by assumption) (by first | (simp; done) | (simp; omega) | omega))))))).out).mono ?_); rintro e w' ⟨rfl, rfl⟩) | ((with_reducible refine ((H4.out _ (by (repeat (first | exact Below.refl _ _ | (with_reducible refine Below.drew ?_) | (with_reducible refine below_drewN ?_ _) | (with_reducible refine Below.setCell ?_ (by first | (simp; done) | (simp; omega) | omega) _) | (with_reducible refine Below.alloc ?_ (by first | (simp; done) | (simp; omega) | omega) _) | (with_reducible refine Below.trans ?_ (Below.mono (by assumption) (by first | (simp; done) | (simp; omega) | omega))))))).out).mono ?_); rintro e w' ⟨rfl, rfl⟩) | ((with_reducible refine (M.out _).mono ?_); rintro e w1 ⟨rfl, hb1⟩; obtain ⟨N1, hN1, hc1, hf1, hs1⟩ := bcell hb1; (try simp only [World.size_alloc, World.size_setCell, World.size_drew] at hN1)))
      refine bodyPost_ret (v := .agg #[.int .i64 (n / 3 % 2049 - 1024), .int .i64 (y1 - 1024), .int .i64 d2]) (by simp [results, Try.results17, go_sem, alloc_if, ↓IntWalk.iteOmega]) rfl ⟨rfl, ?_⟩
      (repeat (first | exact Below.refl _ _ | (with_reducible refine Below.drew ?_) | (with_reducible refine below_drewN ?_ _) | (with_reducible refine Below.setCell ?_ (by first | (simp; done) | (simp; omega) | omega) _) | (with_reducible refine Below.alloc ?_ (by first | (simp; done) | (simp; omega) | omega) _) | (with_reducible refine Below.trans ?_ (Below.mono (by assumption) (by first | (simp; done) | (simp; omega) | omega)))))
    · rw [if_neg c2] at ed
      rw [← ex, ← ey, ← ed]
      clear ex ey ed M
      have hal := alloc_if; have hfal := allocF_if
      go_enter Try.func17, Try.ntmps17
      go_wp2_with (first | ((with_reducible refine ((H0.out _ (by (repeat (first | exact Below.refl _ _ | (with_reducible refine Below.drew ?_) | (with_reducible refine below_drewN ?_ _) | (with_reducible refine Below.setCell ?_ (by first | (simp; done) | (simp; omega) | omega) _) | (with_reducible refine Below.alloc ?_ (by first | (simp; done) | (simp; omega) | omega) _) | (with_reducible refine Below.trans ?_ (Below.mono (by assumption) (by first | (simp; done) | (simp; omega) | omega))))))).out).mono ?_); rintro e w' ⟨rfl, rfl⟩) | ((with_reducible refine ((H1.out _ (by (repeat (first | exact Below.refl _ _ | (with_reducible refine Below.drew ?_) | (with_reducible refine below_drewN ?_ _) | (with_reducible refine Below.setCell ?_ (by first | (simp; done) | (simp; omega) | omega) _) | (with_reducible refine Below.alloc ?_ (by first | (simp; done) | (simp; omega) | omega) _) | (with_reducible refine Below.trans ?_ (Below.mono (by assumption) (by first | (simp; done) | (simp; omega) | omega))))))).out).mono ?_); rintro e w' ⟨rfl, rfl⟩) | ((with_reducible refine ((H2.out _ (by (repeat (first | exact Below.refl _ _ | (with_reducible refine Below.drew ?_) | (with_reducible refine below_drewN ?_ _) | (with_reducible refine Below.setCell ?_ (by first | (simp; done) | (simp; omega) | omega) _) | (with_reducible refine Below.alloc ?_ (by first | (simp; done) | (simp; omega) | omega) _) | (with_reducible refine Below.trans ?_ (Below.mono (by assumption) (by first | (simp; done) | (simp; omega) | omega))))))).out).mono ?_); rintro e w' ⟨rfl, rfl⟩) | ((with_reducible refine ((H3.out _ (by (repeat (first | exact Below.refl _ _ | (with_reducible refine Below.drew ?_) | (with_reducible refine below_drewN ?_ _) | (with_reducible refine Below.setCell ?_ (by first | (simp; done) | (simp; omega) | omega) _) | (with_reducible refine Below.alloc ?_ (by first | (simp; done) | (simp; omega) | omega) _) | (with_reducible refine Below.trans ?_ (Below.mono (by assumption) (by first | (simp; done) | (simp; omega) | omega))))))).out).mono ?_); rintro e w' ⟨rfl, rfl⟩) | ((with_reducible refine ((H4.out _ (by (repeat (first | exact Below.refl _ _ | (with_reducible refine Below.drew ?_) | (with_reducible refine below_drewN ?_ _) | (with_reducible refine Below.setCell ?_ (by first | (simp; done) | (simp; omega) | omega) _) | (with_reducible refine Below.alloc ?_ (by first | (simp; done) | (simp; omega) | omega) _) | (with_reducible refine Below.trans ?_ (Below.mono (by assumption) (by first | (simp; done) | (simp; omega) | omega))))))).out).mono ?_); rintro e w' ⟨rfl, rfl⟩) | ((with_reducible refine (M.out _).mono ?_); rintro e w1 ⟨rfl, hb1⟩; obtain ⟨N1, hN1, hc1, hf1, hs1⟩ := bcell hb1; (try simp only [World.size_alloc, World.size_setCell, World.size_drew] at hN1)))
      refine bodyPost_ret (v := .agg #[.int .i64 (n / 3 % 2049 - 1024), .int .i64 (y1 - 1024), .int .i64 d1]) (by simp [results, Try.results17, go_sem, alloc_if, ↓IntWalk.iteOmega]) rfl ⟨rfl, ?_⟩
      (repeat (first | exact Below.refl _ _ | (with_reducible refine Below.drew ?_) | (with_reducible refine below_drewN ?_ _) | (with_reducible refine Below.setCell ?_ (by first | (simp; done) | (simp; omega) | omega) _) | (with_reducible refine Below.alloc ?_ (by first | (simp; done) | (simp; omega) | omega) _) | (with_reducible refine Below.trans ?_ (Below.mono (by assumption) (by first | (simp; done) | (simp; omega) | omega)))))
  · rw [if_neg c1] at ex ey
    rw [ex, ey] at M
    clear ex ey
    by_cases c2 : k = 10
    · rw [if_pos c2] at ed
      rw [← ed]
      clear ed
      have hal := alloc_if; have hfal := allocF_if
      go_enter Try.func17, Try.ntmps17
      go_wp2_with (first | ((with_reducible refine ((H0.out _ (by (repeat (first | exact Below.refl _ _ | (with_reducible refine Below.drew ?_) | (with_reducible refine below_drewN ?_ _) | (with_reducible refine Below.setCell ?_ (by first | (simp; done) | (simp; omega) | omega) _) | (with_reducible refine Below.alloc ?_ (by first | (simp; done) | (simp; omega) | omega) _) | (with_reducible refine Below.trans ?_ (Below.mono (by assumption) (by first | (simp; done) | (simp; omega) | omega))))))).out).mono ?_); rintro e w' ⟨rfl, rfl⟩) | ((with_reducible refine ((H1.out _ (by (repeat (first | exact Below.refl _ _ | (with_reducible refine Below.drew ?_) | (with_reducible refine below_drewN ?_ _) | (with_reducible refine Below.setCell ?_ (by first | (simp; done) | (simp; omega) | omega) _) | (with_reducible refine Below.alloc ?_ (by first | (simp; done) | (simp; omega) | omega) _) | (with_reducible refine Below.trans ?_ (Below.mono (by assumption) (by first | (simp; done) | (simp; omega) | omega))))))).out).mono ?_); rintro e w' ⟨rfl, rfl⟩) | ((with_reducible refine ((H2.out _ (by (repeat (first | exact Below.refl _ _ | (with_reducible refine Below.drew ?_) | (with_reducible refine below_drewN ?_ _) | (with_reducible refine Below.setCell ?_ (by first | (simp; done) | (simp; omega) | omega) _) | (with_reducible refine Below.alloc ?_ (by first | (simp; done) | (simp; omega) | omega) _) | (with_reducible refine Below.trans ?_ (Below.mono (by assumption) (by first | (simp; done) | (simp; omega) | omega))))))).out).mono ?_); rintro e w' ⟨rfl, rfl⟩) | ((with_reducible refine ((H3.out _ (by (repeat (first | exact Below.refl _ _ | (with_reducible refine Below.drew ?_) | (with_reducible refine below_drewN ?_ _) | (with_reducible refine Below.setCell ?_ (by first | (simp; done) | (simp; omega) | omega) _) | (with_reducible refine Below.alloc ?_ (by first | (simp; done) | (simp; omega) | omega) _) | (with_reducible refine Below.trans ?_ (Below.mono (by assumption) (by first | (simp; done) | (simp; omega) | omega))))))).out).mono ?_); rintro e w' ⟨rfl, rfl⟩) | ((with_reducible refine ((H4.out _ (by (repeat (first | exact Below.refl _ _ | (with_reducible refine Below.drew ?_) | (with_reducible refine below_drewN ?_ _) | (with_reducible refine Below.setCell ?_ (by first | (simp; done) | (simp; omega) | omega) _) | (with_reducible refine Below.alloc ?_ (by first | (simp; done) | (simp; omega) | omega) _) | (with_reducible refine Below.trans ?_ (Below.mono (by assumption) (by first | (simp; done) | (simp; omega) | omega))))))).out).mono ?_); rintro e w' ⟨rfl, rfl⟩) | ((with_reducible refine (M.out _).mono ?_); rintro e w1 ⟨rfl, hb1⟩; obtain ⟨N1, hN1, hc1, hf1, hs1⟩ := bcell hb1; (try simp only [World.size_alloc, World.size_setCell, World.size_drew] at hN1)))
      refine bodyPost_ret (v := .agg #[.int .i64 nx, .int .i64 ny, .int .i64 d2]) (by simp [results, Try.results17, go_sem, hc1, alloc_if, ↓IntWalk.iteOmega]) rfl ⟨rfl, ?_⟩
      (repeat (first | exact Below.refl _ _ | (with_reducible refine Below.drew ?_) | (with_reducible refine below_drewN ?_ _) | (with_reducible refine Below.setCell ?_ (by first | (simp; done) | (simp; omega) | omega) _) | (with_reducible refine Below.alloc ?_ (by first | (simp; done) | (simp; omega) | omega) _) | (with_reducible refine Below.trans ?_ (Below.mono (by assumption) (by first | (simp; done) | (simp; omega) | omega)))))
    · rw [if_neg c2] at ed
      rw [← ed]
      clear ed
      have hal := alloc_if; have hfal := allocF_if
      go_enter Try.func17, Try.ntmps17
      go_wp2_with (first | ((with_reducible refine ((H0.out _ (by (repeat (first | exact Below.refl _ _ | (with_reducible refine Below.drew ?_) | (with_reducible refine below_drewN ?_ _) | (with_reducible refine Below.setCell ?_ (by first | (simp; done) | (simp; omega) | omega) _) | (with_reducible refine Below.alloc ?_ (by first | (simp; done) | (simp; omega) | omega) _) | (with_reducible refine Below.trans ?_ (Below.mono (by assumption) (by first | (simp; done) | (simp; omega) | omega))))))).out).mono ?_); rintro e w' ⟨rfl, rfl⟩) | ((with_reducible refine ((H1.out _ (by (repeat (first | exact Below.refl _ _ | (with_reducible refine Below.drew ?_) | (with_reducible refine below_drewN ?_ _) | (with_reducible refine Below.setCell ?_ (by first | (simp; done) | (simp; omega) | omega) _) | (with_reducible refine Below.alloc ?_ (by first | (simp; done) | (simp; omega) | omega) _) | (with_reducible refine Below.trans ?_ (Below.mono (by assumption) (by first | (simp; done) | (simp; omega) | omega))))))).out).mono ?_); rintro e w' ⟨rfl, rfl⟩) | ((with_reducible refine ((H2.out _ (by (repeat (first | exact Below.refl _ _ | (with_reducible refine Below.drew ?_) | (with_reducible refine below_drewN ?_ _) | (with_reducible refine Below.setCell ?_ (by first | (simp; done) | (simp; omega) | omega) _) | (with_reducible refine Below.alloc ?_ (by first | (simp; done) | (simp; omega) | omega) _) | (with_reducible refine Below.trans ?_ (Below.mono (by assumption) (by first | (simp; done) | (simp; omega) | omega))))))).out).mono ?_); rintro e w' ⟨rfl, rfl⟩) | ((with_reducible refine ((H3.out _ (by (repeat (first | exact Below.refl _ _ | (with_reducible refine Below.drew ?_) | (with_reducible refine below_drewN ?_ _) | (with_reducible refine Below.setCell ?_ (by first | (simp; done) | (simp; omega) | omega) _) | (with_reducible refine Below.alloc ?_ (by first | (simp; done) | (simp; omega) | omega) _) | (with_reducible refine Below.trans ?_ (Below.mono (by assumption) (by first | (simp; done) | (simp; omega) | omega))))))).out).mono ?_); rintro e w' ⟨rfl, rfl⟩) | ((with_reducible refine ((H4.out _ (by (repeat (first | exact Below.refl _ _ | (with_reducible refine Below.drew ?_) | (with_reducible refine below_drewN ?_ _) | (with_reducible refine Below.setCell ?_ (by first | (simp; done) | (simp; omega) | omega) _) | (with_reducible refine Below.alloc ?_ (by first | (simp; done) | (simp; omega) | omega) _) | (with_reducible refine Below.trans ?_ (Below.mono (by assumption) (by first | (simp; done) | (simp; omega) | omega))))))).out).mono ?_); rintro e w' ⟨rfl, rfl⟩) | ((with_reducible refine (M.out _).mono ?_); rintro e w1 ⟨rfl, hb1⟩; obtain ⟨N1, hN1, hc1, hf1, hs1⟩ := bcell hb1; (try simp only [World.size_alloc, World.size_setCell, World.size_drew] at hN1)))
      refine bodyPost_ret (v := .agg #[.int .i64 nx, .int .i64 ny, .int .i64 d1]) (by simp [results, Try.results17, go_sem, hc1, alloc_if, ↓IntWalk.iteOmega]) rfl ⟨rfl, ?_⟩
      (repeat (first | exact Below.refl _ _ | (with_reducible refine Below.drew ?_) | (with_reducible refine below_drewN ?_ _) | (with_reducible refine Below.setCell ?_ (by first | (simp; done) | (simp; omega) | omega) _) | (with_reducible refine Below.alloc ?_ (by first | (simp; done) | (simp; omega) | omega) _) | (with_reducible refine Below.trans ?_ (Below.mono (by assumption) (by first | (simp; done) | (simp; omega) | omega)))))
set_option maxHeartbeats 2000000 in
theorem slow_any (a : Option Addr) (len cap : Nat) (zs : List Int) (w : World) (h : Fr.IsRow .i64 w a len cap zs) (px py vx vy m : Int)
    (e0 : (bdv (pck len zs 0 1000000007) 1048576).tmod 262145 = px) (e1 : (bdv (pck len zs 1 1000000007) 1048576).tmod 262145 = py) (e2 : (bdv (pck len zs 2 1000000007) 16384).tmod 2001 = vx) (e3 : (bdv (pck len zs 3 1000000007) 16384).tmod 2001 = vy) (e4 : mas (pck len zs 4 1000000) = m) :
    Calls Try.prog 24 #[.slice a len cap] w fun e w' => e = .returned (.agg #[.int .i64 px, .int .i64 py, .int .i64 vx, .int .i64 vy, .int .i64 m]) ∧ Below w.heap.size w w' := by
  have M := fun (W : World) (hb : Below w.heap.size w W) => motion_any a len cap zs W (row_later h hb) _ _ _ _ _ rfl rfl rfl rfl rfl
  rw [e4] at M
  have b0 := bdv_bd (pck len zs 0 1000000007) 1048576 (by omega)
  have b1 := bdv_bd (pck len zs 1 1000000007) 1048576 (by omega)
  have b2 := bdv_bd (pck len zs 2 1000000007) 16384 (by omega)
  have b3 := bdv_bd (pck len zs 3 1000000007) 16384 (by omega)
  generalize bdv (pck len zs 0 1000000007) 1048576 = x0 at *
  generalize bdv (pck len zs 1 1000000007) 1048576 = x1 at *
  generalize bdv (pck len zs 2 1000000007) 16384 = x2 at *
  generalize bdv (pck len zs 3 1000000007) 16384 = x3 at *
  subst e0 e1 e2 e3
  have MH := Lib.hid M
  clear M h
  have hal := alloc_if; have hfal := allocF_if
  go_enter Try.func24, Try.ntmps24
  go_wp2_with (first | ((with_reducible refine (MH.out _ (by (repeat (first | exact Below.refl _ _ | (with_reducible refine Below.drew ?_) | (with_reducible refine below_drewN ?_ _) | (with_reducible refine Below.setCell ?_ (by first | (simp; done) | (simp; omega) | omega) _) | (with_reducible refine Below.alloc ?_ (by first | (simp; done) | (simp; omega) | omega) _) | (with_reducible refine Below.trans ?_ (Below.mono (by assumption) (by first | (simp; done) | (simp; omega) | omega))))))).mono ?_); rintro e w1 ⟨rfl, hb1⟩; obtain ⟨N1, hN1, hc1, hf1, hs1⟩ := bcell hb1; (try simp only [World.size_alloc, World.size_setCell, World.size_drew] at hN1)))
  refine bodyPost_ret (v := .agg #[.int .i64 (x0.tmod 262145), .int .i64 (x1.tmod 262145), .int .i64 (x2.tmod 2001), .int .i64 (x3.tmod 2001), .int .i64 m]) (by simp [results, Try.results24, go_sem, hc1, alloc_if, ↓IntWalk.iteOmega]) rfl ⟨rfl, ?_⟩
  (repeat (first | exact Below.refl _ _ | (with_reducible refine Below.drew ?_) | (with_reducible refine below_drewN ?_ _) | (with_reducible refine Below.setCell ?_ (by first | (simp; done) | (simp; omega) | omega) _) | (with_reducible refine Below.alloc ?_ (by first | (simp; done) | (simp; omega) | omega) _) | (with_reducible refine Below.trans ?_ (Below.mono (by assumption) (by first | (simp; done) | (simp; omega) | omega)))))
end Go.Proofs.Ytpbcagckikindaa.Re
