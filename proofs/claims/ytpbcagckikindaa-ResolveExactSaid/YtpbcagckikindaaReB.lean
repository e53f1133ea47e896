/-
  Contracts of the closure of Resolve at the four method values.
  Conditions: the exact numbers fit 64 bits.
-/
import Derived.Test.YtpbcagckikindaaReA
namespace Go.Proofs.Ytpbcagckikindaa.Re
open Go.RowKit Go.Proofs.Ytpbcagckikindaa.FxMath Go.Proofs.Ytpbcagckikindaa.FxA Go.Proofs.Ytpbcagckikindaa.Qt Go.Proofs.Ytpbcagckikindaa.Ve
set_option linter.unusedVariables false
set_option linter.unusedSimpArgs false

theorem upd_after {w w1 w' : World} {b : Nat} {px py vx vy m : Int} (hb : Below w.heap.size w w1) (hs : b < w.heap.size) (h : Upd w1 w' b px py vx vy m) : Upd w w' b px py vx vy m := by
  refine ⟨⟨h.only.os.trans hb.os, h.only.tape.trans hb.tape, h.only.output.trans hb.output, Nat.le_trans hb.size h.only.size, fun k hk hne => (h.only.block k (Nat.lt_of_lt_of_le hk hb.size) hne).trans (hb.block k hk)⟩, h.c0, h.c1, h.c2, h.c3, h.c4, h.free⟩
set_option maxHeartbeats 1000000 in
theorem change_slowDown (b c : Nat) (px py vx vy m nx ny k : Int) (w : World) (q0 : w.cell? ⟨b, 0, none⟩ = some (.int .i64 px)) (q1 : w.cell? ⟨b, 1, none⟩ = some (.int .i64 py)) (q2 : w.cell? ⟨b, 2, none⟩ = some (.int .i64 vx)) (q3 : w.cell? ⟨b, 3, none⟩ = some (.int .i64 vy)) (q4 : w.cell? ⟨b, 4, none⟩ = some (.int .i64 m)) (hf : ∀ i, w.frozen? ⟨b, i, none⟩ = false) (n0 : w.cell? ⟨c, 0, none⟩ = some (.int .i64 nx)) (n1 : w.cell? ⟨c, 1, none⟩ = some (.int .i64 ny))
    (p0 : -9223372036854775806 ≤ nx * k) (p1 : nx * k ≤ 9223372036854775806) (p2 : -9223372036854775806 ≤ ny * k) (p3 : ny * k ≤ 9223372036854775806)
    (h0 : -9223372036854775808 ≤ vx - fdv (nx * k) 1024) (h1 : vx - fdv (nx * k) 1024 ≤ 9223372036854775807) (h2 : -9223372036854775808 ≤ vy - fdv (ny * k) 1024) (h3 : vy - fdv (ny * k) 1024 ≤ 9223372036854775807) :
    Calls Try.prog 47 #[.func (.func 49) #[.pointer (some ⟨b, 0, none⟩)] #[], .int .i64 k, .pointer (some ⟨c, 0, none⟩)] w fun e w' => e = .returned (.tuple #[]) ∧ Upd w w' b px py (vx - fdv (nx * k) 1024) (vy - fdv (ny * k) 1024) m := by
  have hb := World.block_lt_of_cell? w _ q0
  have S := Lib.hid (scale_any nx ny k p0 p1 p2 p3)
  have U := fun (w1 : World) (hb1 : Below w.heap.size w w1) => Lib.hid (slowDown_any b px py vx vy m _ _ w1 (cell_below hb1 q0) (cell_below hb1 q1) (cell_below hb1 q2) (cell_below hb1 q3) (cell_below hb1 q4) (fun i => (hb1.frozen (p := ⟨b, i, none⟩) hb).trans (hf i)) h0 h1 h2 h3)
  have UH := Lib.hid U
  clear U
  go_enter Try.func47, Try.ntmps47
  go_wp2_with (first | ((with_reducible refine (S.out _).mono ?_); rintro e w1 ⟨rfl, hb1⟩) | ((with_reducible refine ((UH.out _ (by assumption)).out).mono ?_); rintro e w2 ⟨rfl, hu⟩))
  go_end0
  exact ⟨rfl, upd_after hb1 hb hu⟩
set_option maxHeartbeats 1000000 in
theorem change_speedUp (b c : Nat) (px py vx vy m nx ny k : Int) (w : World) (q0 : w.cell? ⟨b, 0, none⟩ = some (.int .i64 px)) (q1 : w.cell? ⟨b, 1, none⟩ = some (.int .i64 py)) (q2 : w.cell? ⟨b, 2, none⟩ = some (.int .i64 vx)) (q3 : w.cell? ⟨b, 3, none⟩ = some (.int .i64 vy)) (q4 : w.cell? ⟨b, 4, none⟩ = some (.int .i64 m)) (hf : ∀ i, w.frozen? ⟨b, i, none⟩ = false) (n0 : w.cell? ⟨c, 0, none⟩ = some (.int .i64 nx)) (n1 : w.cell? ⟨c, 1, none⟩ = some (.int .i64 ny))
    (p0 : -9223372036854775806 ≤ nx * k) (p1 : nx * k ≤ 9223372036854775806) (p2 : -9223372036854775806 ≤ ny * k) (p3 : ny * k ≤ 9223372036854775806)
    (h0 : -9223372036854775808 ≤ vx + fdv (nx * k) 1024) (h1 : vx + fdv (nx * k) 1024 ≤ 9223372036854775807) (h2 : -9223372036854775808 ≤ vy + fdv (ny * k) 1024) (h3 : vy + fdv (ny * k) 1024 ≤ 9223372036854775807) :
    Calls Try.prog 47 #[.func (.func 50) #[.pointer (some ⟨b, 0, none⟩)] #[], .int .i64 k, .pointer (some ⟨c, 0, none⟩)] w fun e w' => e = .returned (.tuple #[]) ∧ Upd w w' b px py (vx + fdv (nx * k) 1024) (vy + fdv (ny * k) 1024) m := by
  have hb := World.block_lt_of_cell? w _ q0
  have S := Lib.hid (scale_any nx ny k p0 p1 p2 p3)
  have U := fun (w1 : World) (hb1 : Below w.heap.size w w1) => Lib.hid (speedUp_any b px py vx vy m _ _ w1 (cell_below hb1 q0) (cell_below hb1 q1) (cell_below hb1 q2) (cell_below hb1 q3) (cell_below hb1 q4) (fun i => (hb1.frozen (p := ⟨b, i, none⟩) hb).trans (hf i)) h0 h1 h2 h3)
  have UH := Lib.hid U
  clear U
  go_enter Try.func47, Try.ntmps47
  go_wp2_with (first | ((with_reducible refine (S.out _).mono ?_); rintro e w1 ⟨rfl, hb1⟩) | ((with_reducible refine ((UH.out _ (by assumption)).out).mono ?_); rintro e w2 ⟨rfl, hu⟩))
  go_end0
  exact ⟨rfl, upd_after hb1 hb hu⟩
set_option maxHeartbeats 1000000 in
theorem change_retreat (b c : Nat) (px py vx vy m nx ny k : Int) (w : World) (q0 : w.cell? ⟨b, 0, none⟩ = some (.int .i64 px)) (q1 : w.cell? ⟨b, 1, none⟩ = some (.int .i64 py)) (q2 : w.cell? ⟨b, 2, none⟩ = some (.int .i64 vx)) (q3 : w.cell? ⟨b, 3, none⟩ = some (.int .i64 vy)) (q4 : w.cell? ⟨b, 4, none⟩ = some (.int .i64 m)) (hf : ∀ i, w.frozen? ⟨b, i, none⟩ = false) (n0 : w.cell? ⟨c, 0, none⟩ = some (.int .i64 nx)) (n1 : w.cell? ⟨c, 1, none⟩ = some (.int .i64 ny))
    (p0 : -9223372036854775806 ≤ nx * k) (p1 : nx * k ≤ 9223372036854775806) (p2 : -9223372036854775806 ≤ ny * k) (p3 : ny * k ≤ 9223372036854775806)
    (h0 : -9223372036854775808 ≤ px - fdv (nx * k) 1024) (h1 : px - fdv (nx * k) 1024 ≤ 9223372036854775807) (h2 : -9223372036854775808 ≤ py - fdv (ny * k) 1024) (h3 : py - fdv (ny * k) 1024 ≤ 9223372036854775807) :
    Calls Try.prog 47 #[.func (.func 51) #[.pointer (some ⟨b, 0, none⟩)] #[], .int .i64 k, .pointer (some ⟨c, 0, none⟩)] w fun e w' => e = .returned (.tuple #[]) ∧ Upd w w' b (px - fdv (nx * k) 1024) (py - fdv (ny * k) 1024) vx vy m := by
  have hb := World.block_lt_of_cell? w _ q0
  have S := Lib.hid (scale_any nx ny k p0 p1 p2 p3)
  have U := fun (w1 : World) (hb1 : Below w.heap.size w w1) => Lib.hid (retreat_any b px py vx vy m _ _ w1 (cell_below hb1 q0) (cell_below hb1 q1) (cell_below hb1 q2) (cell_below hb1 q3) (cell_below hb1 q4) (fun i => (hb1.frozen (p := ⟨b, i, none⟩) hb).trans (hf i)) h0 h1 h2 h3)
  have UH := Lib.hid U
  clear U
  go_enter Try.func47, Try.ntmps47
  go_wp2_with (first | ((with_reducible refine (S.out _).mono ?_); rintro e w1 ⟨rfl, hb1⟩) | ((with_reducible refine ((UH.out _ (by assumption)).out).mono ?_); rintro e w2 ⟨rfl, hu⟩))
  go_end0
  exact ⟨rfl, upd_after hb1 hb hu⟩
set_option maxHeartbeats 1000000 in
theorem change_advance (b c : Nat) (px py vx vy m nx ny k : Int) (w : World) (q0 : w.cell? ⟨b, 0, none⟩ = some (.int .i64 px)) (q1 : w.cell? ⟨b, 1, none⟩ = some (.int .i64 py)) (q2 : w.cell? ⟨b, 2, none⟩ = some (.int .i64 vx)) (q3 : w.cell? ⟨b, 3, none⟩ = some (.int .i64 vy)) (q4 : w.cell? ⟨b, 4, none⟩ = some (.int .i64 m)) (hf : ∀ i, w.frozen? ⟨b, i, none⟩ = false) (n0 : w.cell? ⟨c, 0, none⟩ = some (.int .i64 nx)) (n1 : w.cell? ⟨c, 1, none⟩ = some (.int .i64 ny))
    (p0 : -9223372036854775806 ≤ nx * k) (p1 : nx * k ≤ 9223372036854775806) (p2 : -9223372036854775806 ≤ ny * k) (p3 : ny * k ≤ 9223372036854775806)
    (h0 : -9223372036854775808 ≤ px + fdv (nx * k) 1024) (h1 : px + fdv (nx * k) 1024 ≤ 9223372036854775807) (h2 : -9223372036854775808 ≤ py + fdv (ny * k) 1024) (h3 : py + fdv (ny * k) 1024 ≤ 9223372036854775807) :
    Calls Try.prog 47 #[.func (.func 52) #[.pointer (some ⟨b, 0, none⟩)] #[], .int .i64 k, .pointer (some ⟨c, 0, none⟩)] w fun e w' => e = .returned (.tuple #[]) ∧ Upd w w' b (px + fdv (nx * k) 1024) (py + fdv (ny * k) 1024) vx vy m := by
  have hb := World.block_lt_of_cell? w _ q0
  have S := Lib.hid (scale_any nx ny k p0 p1 p2 p3)
  have U := fun (w1 : World) (hb1 : Below w.heap.size w w1) => Lib.hid (advance_any b px py vx vy m _ _ w1 (cell_below hb1 q0) (cell_below hb1 q1) (cell_below hb1 q2) (cell_below hb1 q3) (cell_below hb1 q4) (fun i => (hb1.frozen (p := ⟨b, i, none⟩) hb).trans (hf i)) h0 h1 h2 h3)
  have UH := Lib.hid U
  clear U
  go_enter Try.func47, Try.ntmps47
  go_wp2_with (first | ((with_reducible refine (S.out _).mono ?_); rintro e w1 ⟨rfl, hb1⟩) | ((with_reducible refine ((UH.out _ (by assumption)).out).mono ?_); rintro e w2 ⟨rfl, hu⟩))
  go_end0
  exact ⟨rfl, upd_after hb1 hb hu⟩
end Go.Proofs.Ytpbcagckikindaa.Re
