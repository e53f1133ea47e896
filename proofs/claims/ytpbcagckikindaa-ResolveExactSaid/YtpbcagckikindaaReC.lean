/-
  The state of the walk of Resolve: the two bodies, the contact, the results' places.
  Conditions: none.
-/
import Derived.Test.YtpbcagckikindaaReB
namespace Go.Proofs.Ytpbcagckikindaa.Re
open Go.RowKit Go.Proofs.Ytpbcagckikindaa.FxMath Go.Proofs.Ytpbcagckikindaa.FxA Go.Proofs.Ytpbcagckikindaa.Qt Go.Proofs.Ytpbcagckikindaa.Ve
set_option linter.unusedVariables false
set_option linter.unusedSimpArgs false

structure St (w W : World) (b1 b2 r1 r2 c ka kb : Nat) (px py vx vy am qx qy ux uy bm nx ny d v1 v2 v3 v4 : Int) : Prop where
  below : Below w.heap.size w W
  w1 : w.heap.size ≤ b1
  w2 : w.heap.size ≤ b2
  b1_0 : W.cell? ⟨b1, 0, none⟩ = some (.int .i64 px)
  b1_1 : W.cell? ⟨b1, 1, none⟩ = some (.int .i64 py)
  b1_2 : W.cell? ⟨b1, 2, none⟩ = some (.int .i64 vx)
  b1_3 : W.cell? ⟨b1, 3, none⟩ = some (.int .i64 vy)
  b1_4 : W.cell? ⟨b1, 4, none⟩ = some (.int .i64 am)
  b2_0 : W.cell? ⟨b2, 0, none⟩ = some (.int .i64 qx)
  b2_1 : W.cell? ⟨b2, 1, none⟩ = some (.int .i64 qy)
  b2_2 : W.cell? ⟨b2, 2, none⟩ = some (.int .i64 ux)
  b2_3 : W.cell? ⟨b2, 3, none⟩ = some (.int .i64 uy)
  b2_4 : W.cell? ⟨b2, 4, none⟩ = some (.int .i64 bm)
  r1_0 : W.cell? ⟨r1, 0, none⟩ = some (.int .i64 0)
  r1_1 : W.cell? ⟨r1, 1, none⟩ = some (.int .i64 0)
  r1_2 : W.cell? ⟨r1, 2, none⟩ = some (.int .i64 0)
  r1_3 : W.cell? ⟨r1, 3, none⟩ = some (.int .i64 0)
  r1_4 : W.cell? ⟨r1, 4, none⟩ = some (.int .i64 0)
  r2_0 : W.cell? ⟨r2, 0, none⟩ = some (.int .i64 0)
  r2_1 : W.cell? ⟨r2, 1, none⟩ = some (.int .i64 0)
  r2_2 : W.cell? ⟨r2, 2, none⟩ = some (.int .i64 0)
  r2_3 : W.cell? ⟨r2, 3, none⟩ = some (.int .i64 0)
  r2_4 : W.cell? ⟨r2, 4, none⟩ = some (.int .i64 0)
  c_0 : W.cell? ⟨c, 0, none⟩ = some (.int .i64 nx)
  c_1 : W.cell? ⟨c, 1, none⟩ = some (.int .i64 ny)
  c_2 : W.cell? ⟨c, 2, none⟩ = some (.int .i64 d)
  ka_2 : W.cell? ⟨ka, 2, none⟩ = some (.int .i64 v1)
  ka_3 : W.cell? ⟨ka, 3, none⟩ = some (.int .i64 v2)
  kb_2 : W.cell? ⟨kb, 2, none⟩ = some (.int .i64 v3)
  kb_3 : W.cell? ⟨kb, 3, none⟩ = some (.int .i64 v4)
  ka_4 : W.cell? ⟨ka, 4, none⟩ = some (.int .i64 am)
  kb_4 : W.cell? ⟨kb, 4, none⟩ = some (.int .i64 bm)
  b1_f : ∀ i, W.frozen? ⟨b1, i, none⟩ = false
  b2_f : ∀ i, W.frozen? ⟨b2, i, none⟩ = false
  r1_f : ∀ i, W.frozen? ⟨r1, i, none⟩ = false
  r2_f : ∀ i, W.frozen? ⟨r2, i, none⟩ = false
  n12 : b1 ≠ b2
  n1r1 : b1 ≠ r1
  n1r2 : b1 ≠ r2
  n1c : b1 ≠ c
  n1ka : b1 ≠ ka
  n1kb : b1 ≠ kb
  n2r1 : b2 ≠ r1
  n2r2 : b2 ≠ r2
  n2c : b2 ≠ c
  n2ka : b2 ≠ ka
  n2kb : b2 ≠ kb

theorem frozen_below {W W' : World} (hb : Below W.heap.size W W') {b o i : Nat} {v : Value} (hc : W.cell? ⟨b, o, none⟩ = some v) (hf : W.frozen? ⟨b, i, none⟩ = false) : W'.frozen? ⟨b, i, none⟩ = false :=
  (hb.frozen (p := ⟨b, i, none⟩) (World.block_lt_of_cell? W ⟨b, o, none⟩ hc)).trans hf
theorem St.later {w W W' : World} {b1 b2 r1 r2 c ka kb : Nat} {px py vx vy am qx qy ux uy bm nx ny d v1 v2 v3 v4 : Int} (st : St w W b1 b2 r1 r2 c ka kb px py vx vy am qx qy ux uy bm nx ny d v1 v2 v3 v4) (hb : Below W.heap.size W W') : St w W' b1 b2 r1 r2 c ka kb px py vx vy am qx qy ux uy bm nx ny d v1 v2 v3 v4 :=
  ⟨st.below.trans (hb.mono st.below.size), st.w1, st.w2, cell_below hb st.b1_0, cell_below hb st.b1_1, cell_below hb st.b1_2, cell_below hb st.b1_3, cell_below hb st.b1_4, cell_below hb st.b2_0, cell_below hb st.b2_1, cell_below hb st.b2_2, cell_below hb st.b2_3, cell_below hb st.b2_4, cell_below hb st.r1_0, cell_below hb st.r1_1, cell_below hb st.r1_2, cell_below hb st.r1_3, cell_below hb st.r1_4, cell_below hb st.r2_0, cell_below hb st.r2_1, cell_below hb st.r2_2, cell_below hb st.r2_3, cell_below hb st.r2_4, cell_below hb st.c_0, cell_below hb st.c_1, cell_below hb st.c_2, cell_below hb st.ka_2, cell_below hb st.ka_3, cell_below hb st.kb_2, cell_below hb st.kb_3, cell_below hb st.ka_4, cell_below hb st.kb_4,
    fun i => frozen_below hb st.b1_0 (st.b1_f i), fun i => frozen_below hb st.b2_0 (st.b2_f i), fun i => frozen_below hb st.r1_0 (st.r1_f i), fun i => frozen_below hb st.r2_0 (st.r2_f i),
    st.n12, st.n1r1, st.n1r2, st.n1c, st.n1ka, st.n1kb, st.n2r1, st.n2r2, st.n2c, st.n2ka, st.n2kb⟩

theorem cell_only {W W' : World} {g : Nat} (h : W.grownBy W' (some g)) {b o : Nat} {v : Value} (hne : b ≠ g) (hc : W.cell? ⟨b, o, none⟩ = some v) : W'.cell? ⟨b, o, none⟩ = some v :=
  (World.cell?_of_block (a := ⟨b, o, none⟩) (h.block b (World.block_lt_of_cell? W _ hc) (fun e => hne (Option.some.inj e)))).trans hc
theorem frozen_only {W W' : World} {g : Nat} (h : W.grownBy W' (some g)) {b o : Nat} {v : Value} (hne : b ≠ g) (hc : W.cell? ⟨b, o, none⟩ = some v) {i : Nat} (hf : W.frozen? ⟨b, i, none⟩ = false) : W'.frozen? ⟨b, i, none⟩ = false :=
  (World.frozen?_of_block (a := ⟨b, i, none⟩) (h.block b (World.block_lt_of_cell? W _ hc) (fun e => hne (Option.some.inj e)))).trans hf
theorem below_only {w W W' : World} {g : Nat} (hb : Below w.heap.size w W) (h : W.grownBy W' (some g)) (hg : w.heap.size ≤ g) : Below w.heap.size w W' :=
  hb.grown h hb.size (fun k e => by cases e; exact hg)
theorem St.upd1 {w W W' : World} {b1 b2 r1 r2 c ka kb : Nat} {px py vx vy am qx qy ux uy bm nx ny d v1 v2 v3 v4 px' py' vx' vy' : Int} (st : St w W b1 b2 r1 r2 c ka kb px py vx vy am qx qy ux uy bm nx ny d v1 v2 v3 v4) (hu : Upd W W' b1 px' py' vx' vy' am) : St w W' b1 b2 r1 r2 c ka kb px' py' vx' vy' am qx qy ux uy bm nx ny d v1 v2 v3 v4 :=
  ⟨below_only st.below hu.only st.w1, st.w1, st.w2, hu.c0, hu.c1, hu.c2, hu.c3, hu.c4, cell_only hu.only (Ne.symm st.n12) st.b2_0, cell_only hu.only (Ne.symm st.n12) st.b2_1, cell_only hu.only (Ne.symm st.n12) st.b2_2, cell_only hu.only (Ne.symm st.n12) st.b2_3, cell_only hu.only (Ne.symm st.n12) st.b2_4, cell_only hu.only (Ne.symm st.n1r1) st.r1_0, cell_only hu.only (Ne.symm st.n1r1) st.r1_1, cell_only hu.only (Ne.symm st.n1r1) st.r1_2, cell_only hu.only (Ne.symm st.n1r1) st.r1_3, cell_only hu.only (Ne.symm st.n1r1) st.r1_4, cell_only hu.only (Ne.symm st.n1r2) st.r2_0, cell_only hu.only (Ne.symm st.n1r2) st.r2_1, cell_only hu.only (Ne.symm st.n1r2) st.r2_2, cell_only hu.only (Ne.symm st.n1r2) st.r2_3, cell_only hu.only (Ne.symm st.n1r2) st.r2_4, cell_only hu.only (Ne.symm st.n1c) st.c_0, cell_only hu.only (Ne.symm st.n1c) st.c_1, cell_only hu.only (Ne.symm st.n1c) st.c_2, cell_only hu.only (Ne.symm st.n1ka) st.ka_2, cell_only hu.only (Ne.symm st.n1ka) st.ka_3, cell_only hu.only (Ne.symm st.n1kb) st.kb_2, cell_only hu.only (Ne.symm st.n1kb) st.kb_3, cell_only hu.only (Ne.symm st.n1ka) st.ka_4, cell_only hu.only (Ne.symm st.n1kb) st.kb_4,
    hu.free, fun i => frozen_only hu.only (Ne.symm st.n12) st.b2_0 (st.b2_f i), fun i => frozen_only hu.only (Ne.symm st.n1r1) st.r1_0 (st.r1_f i), fun i => frozen_only hu.only (Ne.symm st.n1r2) st.r2_0 (st.r2_f i),
    st.n12, st.n1r1, st.n1r2, st.n1c, st.n1ka, st.n1kb, st.n2r1, st.n2r2, st.n2c, st.n2ka, st.n2kb⟩
theorem St.upd2 {w W W' : World} {b1 b2 r1 r2 c ka kb : Nat} {px py vx vy am qx qy ux uy bm nx ny d v1 v2 v3 v4 qx' qy' ux' uy' : Int} (st : St w W b1 b2 r1 r2 c ka kb px py vx vy am qx qy ux uy bm nx ny d v1 v2 v3 v4) (hu : Upd W W' b2 qx' qy' ux' uy' bm) : St w W' b1 b2 r1 r2 c ka kb px py vx vy am qx' qy' ux' uy' bm nx ny d v1 v2 v3 v4 :=
  ⟨below_only st.below hu.only st.w2, st.w1, st.w2, cell_only hu.only st.n12 st.b1_0, cell_only hu.only st.n12 st.b1_1, cell_only hu.only st.n12 st.b1_2, cell_only hu.only st.n12 st.b1_3, cell_only hu.only st.n12 st.b1_4, hu.c0, hu.c1, hu.c2, hu.c3, hu.c4, cell_only hu.only (Ne.symm st.n2r1) st.r1_0, cell_only hu.only (Ne.symm st.n2r1) st.r1_1, cell_only hu.only (Ne.symm st.n2r1) st.r1_2, cell_only hu.only (Ne.symm st.n2r1) st.r1_3, cell_only hu.only (Ne.symm st.n2r1) st.r1_4, cell_only hu.only (Ne.symm st.n2r2) st.r2_0, cell_only hu.only (Ne.symm st.n2r2) st.r2_1, cell_only hu.only (Ne.symm st.n2r2) st.r2_2, cell_only hu.only (Ne.symm st.n2r2) st.r2_3, cell_only hu.only (Ne.symm st.n2r2) st.r2_4, cell_only hu.only (Ne.symm st.n2c) st.c_0, cell_only hu.only (Ne.symm st.n2c) st.c_1, cell_only hu.only (Ne.symm st.n2c) st.c_2, cell_only hu.only (Ne.symm st.n2ka) st.ka_2, cell_only hu.only (Ne.symm st.n2ka) st.ka_3, cell_only hu.only (Ne.symm st.n2kb) st.kb_2, cell_only hu.only (Ne.symm st.n2kb) st.kb_3, cell_only hu.only (Ne.symm st.n2ka) st.ka_4, cell_only hu.only (Ne.symm st.n2kb) st.kb_4,
    fun i => frozen_only hu.only st.n12 st.b1_0 (st.b1_f i), hu.free, fun i => frozen_only hu.only (Ne.symm st.n2r1) st.r1_0 (st.r1_f i), fun i => frozen_only hu.only (Ne.symm st.n2r2) st.r2_0 (st.r2_f i),
    st.n12, st.n1r1, st.n1r2, st.n1c, st.n1ka, st.n1kb, st.n2r1, st.n2r2, st.n2c, st.n2ka, st.n2kb⟩
end Go.Proofs.Ytpbcagckikindaa.Re
