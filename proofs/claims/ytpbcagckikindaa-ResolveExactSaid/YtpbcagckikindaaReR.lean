/-
  The contract of Resolve on its domain, as one function of the numbers.
  Conditions: the domain's bounds (Mo, Co).
-/
import Derived.Test.YtpbcagckikindaaReD
import Derived.Test.YtpbcagckikindaaReE
namespace Go.Proofs.Ytpbcagckikindaa.Re
open Go.RowKit Go.Proofs.Ytpbcagckikindaa.FxMath Go.Proofs.Ytpbcagckikindaa.FxA Go.Proofs.Ytpbcagckikindaa.Qt Go.Proofs.Ytpbcagckikindaa.Ve
set_option linter.unusedVariables false

/-- The bounds of a motion of the domain. -/
structure Mo (p q u v m : Int) : Prop where
  p0 : -1048576 ≤ p
  p1 : p ≤ 1048576
  q0 : -1048576 ≤ q
  q1 : q ≤ 1048576
  u0 : -16384 ≤ u
  u1 : u ≤ 16384
  v0 : -16384 ≤ v
  v1 : v ≤ 16384
  m0 : 0 ≤ m
  m1 : m ≤ 4096
/-- The bounds of a contact and a restitution of the domain. -/
structure Co (nx ny d e : Int) : Prop where
  x0 : -1024 ≤ nx
  x1 : nx ≤ 1024
  y0 : -1024 ≤ ny
  y1 : ny ≤ 1024
  d0 : 0 ≤ d
  d1 : d ≤ 1048576
  e0 : 0 ≤ e
  e1 : e ≤ 1024

/-- The relative normal velocity. -/
def vnr (vx vy ux uy nx ny : Int) : Int := ((ux - vx) * nx + (uy - vy) * ny) / 1024
/-- The impulse on one body. -/
def imp (vn e t m : Int) : Int := if vn < 0 then fdv (fdv (-vn * (1024 + e)) t * m) 1024 else 0
/-- How far one body is moved. -/
def dis (d t m : Int) : Int := fdv (d * m) t

theorem vnr_bd {p q vx vy m p' q' ux uy m' nx ny d e : Int} (A : Mo p q vx vy m) (B : Mo p' q' ux uy m') (C : Co nx ny d e) : -65536 ≤ vnr vx vy ux uy nx ny ∧ vnr vx vy ux uy nx ny ≤ 65536 := by
  have h1 := mul_bd (a := ux - vx) (b := nx) (A := 32768) (B := 1024) (by have := A.u1; have := B.u0; omega) (by have := A.u0; have := B.u1; omega) C.x0 C.x1
  have h2 := mul_bd (a := uy - vy) (b := ny) (A := 32768) (B := 1024) (by have := A.v1; have := B.v0; omega) (by have := A.v0; have := B.v1; omega) C.y0 C.y1
  unfold vnr
  omega
theorem fdv0 : fdv 0 1024 = 0 := by decide +kernel
theorem clmP {a : Int} (h0 : -1048576 ≤ a) (h1 : a ≤ 1048576) : clm a (-1048576) 1048576 = a := by unfold clm; rw [if_neg (by omega), if_neg (by omega)]
theorem clmV {a : Int} (h0 : -16384 ≤ a) (h1 : a ≤ 16384) : clm a (-16384) 16384 = a := by unfold clm; rw [if_neg (by omega), if_neg (by omega)]

theorem fdv_bdd {a c A : Int} (h0 : -A ≤ a) (h1 : a ≤ A) : -A - 1 ≤ fdv a c ∧ fdv a c ≤ A + 1 := by
  have := fdv_le a c
  omega

set_option maxHeartbeats 4000000 in
theorem resolve_any (px py vx vy am qx qy ux uy bm nx ny d e : Int) (A : Mo px py vx vy am) (B : Mo qx qy ux uy bm) (C : Co nx ny d e) (vn ja jb da db : Int)
    (hvn : vn = vnr vx vy ux uy nx ny) (hja : ja = imp vn e (am + bm) am) (hjb : jb = imp vn e (am + bm) bm) (hda : da = dis d (am + bm) am) (hdb : db = dis d (am + bm) bm) :
    Gives Try.prog 19 #[.agg #[.int .i64 px, .int .i64 py, .int .i64 vx, .int .i64 vy, .int .i64 am], .agg #[.int .i64 qx, .int .i64 qy, .int .i64 ux, .int .i64 uy, .int .i64 bm], .agg #[.int .i64 nx, .int .i64 ny, .int .i64 d], .int .i64 e] (.tuple #[.agg #[.int .i64 (clm (px - fdv (nx * da) 1024) (-1048576) 1048576), .int .i64 (clm (py - fdv (ny * da) 1024) (-1048576) 1048576), .int .i64 (clm (vx - fdv (nx * ja) 1024) (-16384) 16384), .int .i64 (clm (vy - fdv (ny * ja) 1024) (-16384) 16384), .int .i64 am], .agg #[.int .i64 (clm (qx + fdv (nx * db) 1024) (-1048576) 1048576), .int .i64 (clm (qy + fdv (ny * db) 1024) (-1048576) 1048576), .int .i64 (clm (ux + fdv (nx * jb) 1024) (-16384) 16384), .int .i64 (clm (uy + fdv (ny * jb) 1024) (-16384) 16384), .int .i64 bm]]) := by
  intro w
  obtain ⟨p0, p1, q0, q1, u0, u1, v0, v1, m0, m1⟩ := A
  obtain ⟨p0', p1', q0', q1', u0', u1', v0', v1', m0', m1'⟩ := B
  obtain ⟨x0, x1, y0, y1, d0, d1, e0, e1⟩ := C
  have vb := vnr_bd ⟨p0, p1, q0, q1, u0, u1, v0, v1, m0, m1⟩ ⟨p0', p1', q0', q1', u0', u1', v0', v1', m0', m1'⟩ ⟨x0, x1, y0, y1, d0, d1, e0, e1⟩
  rw [← hvn] at vb
  by_cases ht : am + bm = 0
  · have ea : ja = 0 := by rw [hja]; unfold imp; split <;> simp [ht, fdv_zero, fdv0]
    have eb : jb = 0 := by rw [hjb]; unfold imp; split <;> simp [ht, fdv_zero, fdv0]
    have ec : da = 0 := by rw [hda]; unfold dis; rw [ht, fdv_zero]
    have ed : db = 0 := by rw [hdb]; unfold dis; rw [ht, fdv_zero]
    rw [ea, eb, ec, ed]
    simp only [Int.mul_zero, fdv0, Int.sub_zero, Int.add_zero]
    rw [clmP p0 p1, clmP q0 q1, clmV u0 u1, clmV v0 v1, clmP p0' p1', clmP q0' q1', clmV u0' u1', clmV v0' v1']
    exact resolve_zero px py vx vy am qx qy ux uy bm nx ny d e w (by simp [ht]) (by omega) (by omega)
  · have hs : ((am + bm) == 0) = false := by simp [ht]
    have sx := mul_bd (a := ux - vx) (b := nx) (A := 32768) (B := 1024) (by omega) (by omega) x0 x1
    have sy := mul_bd (a := uy - vy) (b := ny) (A := 32768) (B := 1024) (by omega) (by omega) y0 y1
    have bj := mul_bd (a := -vn) (b := 1024 + e) (A := 65536) (B := 2048) (by omega) (by omega) (by omega) (by omega)
    obtain ⟨j, hj⟩ : ∃ j, j = fdv (-vn * (1024 + e)) (am + bm) := ⟨_, rfl⟩
    have bj' := fdv_bdd (c := am + bm) bj.1 bj.2
    rw [← hj] at bj'
    have ba := mul_bd (a := j) (b := am) (A := 134217729) (B := 4096) (by omega) (by omega) (by omega) (by omega)
    have bb := mul_bd (a := j) (b := bm) (A := 134217729) (B := 4096) (by omega) (by omega) (by omega) (by omega)
    have bda := mul_bd (a := d) (b := am) (A := 1048576) (B := 4096) (by omega) (by omega) (by omega) (by omega)
    have bdb := mul_bd (a := d) (b := bm) (A := 1048576) (B := 4096) (by omega) (by omega) (by omega) (by omega)
    have bda' := fdv_bdd (c := am + bm) bda.1 bda.2
    have bdb' := fdv_bdd (c := am + bm) bdb.1 bdb.2
    have ba' := fdv_bdd (c := 1024) ba.1 ba.2
    have bb' := fdv_bdd (c := 1024) bb.1 bb.2
    have HS := Lib.hid (sub_any ux uy vx vy (by omega) (by omega) (by omega) (by omega))
    have HD := Lib.hid (dot_any (ux - vx) (uy - vy) nx ny (by omega) (by omega) (by omega) (by omega))
    rw [show ((ux - vx) * nx + (uy - vy) * ny) / 1024 = vn from hvn.symm] at HD
    have HJ := Lib.hid (gives_drewN fun w => mulDiv_any (-vn) (1024 + e) (am + bm) w (by omega) (by omega))
    rw [← hj] at HJ
    have HA := Lib.hid (gives_drewN fun w => mul_any j am w (by omega) (by omega))
    have HB := Lib.hid (gives_drewN fun w => mul_any j bm w (by omega) (by omega))
    have HDa := Lib.hid (gives_drewN fun w => mulDiv_any d am (am + bm) w (by omega) (by omega))
    have HDb := Lib.hid (gives_drewN fun w => mulDiv_any d bm (am + bm) w (by omega) (by omega))
    have da' : da = fdv (d * am) (am + bm) := hda
    have db' : db = fdv (d * bm) (am + bm) := hdb
    by_cases hv : vn < 0
    · have ja' : ja = fdv (j * am) 1024 := by rw [hja]; unfold imp; rw [if_pos hv, ← hj]
      have jb' : jb = fdv (j * bm) 1024 := by rw [hjb]; unfold imp; rw [if_pos hv, ← hj]
      rw [← ja'] at HA
      rw [← jb'] at HB
      rw [← da'] at HDa
      rw [← db'] at HDb
      rw [← ja'] at ba'
      rw [← jb'] at bb'
      rw [← da'] at bda'
      rw [← db'] at bdb'
      clear hvn hja hjb hda hdb da' db' ja' jb' hj ba bb bda bdb sx sy bj
      exact resolve_neg px py vx vy am qx qy ux uy bm nx ny d e vn j ja jb da db w hs (by omega) (by omega) hv (by omega) (by omega) e0 (by omega) x0 x1 y0 y1 (by omega) (by omega) (by omega) (by omega) (by omega) (by omega) (by omega) (by omega) (by omega) (by omega) (by omega) (by omega) (by omega) (by omega) (by omega) (by omega) (by omega) (by omega) (by omega) (by omega) (by omega) (by omega) (by omega) (by omega) HS HD HJ HA HB HDa HDb
    · have ja' : ja = 0 := by rw [hja]; unfold imp; rw [if_neg hv]
      have jb' : jb = 0 := by rw [hjb]; unfold imp; rw [if_neg hv]
      rw [ja', jb']
      simp only [Int.mul_zero, fdv0, Int.sub_zero, Int.add_zero]
      rw [← da'] at HDa
      rw [← db'] at HDb
      rw [← da'] at bda'
      rw [← db'] at bdb'
      clear hvn hja hjb hda hdb da' db' ja' jb' hj ba bb bda bdb sx sy bj
      obtain ⟨ja, hja⟩ : ∃ ja, ja = fdv (j * am) 1024 := ⟨_, rfl⟩
      obtain ⟨jb, hjb⟩ : ∃ jb, jb = fdv (j * bm) 1024 := ⟨_, rfl⟩
      rw [← hja] at HA ba'
      rw [← hjb] at HB bb'
      clear hja hjb
      exact resolve_pos px py vx vy am qx qy ux uy bm nx ny d e vn j ja jb da db w hs (by omega) (by omega) (by omega) (by omega) (by omega) e0 (by omega) x0 x1 y0 y1 (by omega) (by omega) (by omega) (by omega) (by omega) (by omega) (by omega) (by omega) (by omega) (by omega) (by omega) (by omega) (by omega) (by omega) (by omega) (by omega) (by omega) (by omega) (by omega) (by omega) (by omega) (by omega) (by omega) (by omega) HS HD HJ HA HB HDa HDb
end Go.Proofs.Ytpbcagckikindaa.Re
