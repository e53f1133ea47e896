/-
  Valid shapes (circles and polygons alike): one contract for each query.
  Conditions: stated in each contract.
-/
import Derived.Test.YtcgcapfppceggaaShM
import Derived.Test.YtcgcapfppceggaaShK
import Derived.Test.YtcgcapfppceggaaShJ
namespace Go.Proofs.Ytcgcapfppceggaa.Sh
open Go.RowKit Go.Proofs.Ytcgcapfppceggaa.FxMath Go.Proofs.Ytcgcapfppceggaa.FxA Go.Proofs.Ytcgcapfppceggaa.Qt Go.Proofs.Ytcgcapfppceggaa.Ve Go.Shelf
set_option linter.unusedVariables false
set_option linter.unusedSimpArgs false
/-- A valid shape in a world. -/
structure ShAt (w : World) (r : Int) (a : Option Addr) (len cap : Nat) (zs : List (Int × Int)) : Prop where
  kind : (len = 0 ∧ zs = [] ∧ a = none ∧ cap = 0 ∧ 1 ≤ r ∧ r ≤ 32768) ∨ (r = 0 ∧ 3 ≤ len ∧ len ≤ 6 ∧ Bd zs 32768 ∧ cvx zs = true)
  poly : IsPoly w a len cap zs
theorem ShAt.later {w W : World} {r : Int} {a : Option Addr} {len cap : Nat} {zs : List (Int × Int)} (h : ShAt w r a len cap zs) (hb : Below w.heap.size w W) : ShAt W r a len cap zs := ⟨h.kind, h.poly.later hb⟩
theorem wf_div8 {a : Int} (h : (Lit.int .i64 a).wf = true) : (Lit.int .i64 (a.tdiv 8)).wf = true := by
  have := i64_bd h
  have t1 := Int.mul_tdiv_add_tmod a 8
  have t2 := tmod_abs a 8 (by decide)
  simp [Lit.wf, IntKind.min, IntKind.max, IntKind.bits, IntKind.signed]
  omega
theorem name_world {P : Program} {c : Code} {Q : Exit → Act → World → Prop} {a : Act} {w : World} (h : ∀ W, W = w → Code.wp P c Q a W) : Code.wp P c Q a w := h w rfl
def sct (r : Int) (len : Nat) (zs : List (Int × Int)) (P Q : Int) : Bool := if len = 0 then decide (P * P + Q * Q ≤ r * r) else cov zs P Q
def bx0 (r : Int) (len : Nat) (zs : List (Int × Int)) (x : Int) : Int := if len = 0 then x - r else mnTo (fun i => x + vx zs i) (len - 1)
def bx1 (r : Int) (len : Nat) (zs : List (Int × Int)) (x : Int) : Int := if len = 0 then x + r else mxTo (fun i => x + vx zs i) (len - 1)
def by0 (r : Int) (len : Nat) (zs : List (Int × Int)) (y : Int) : Int := if len = 0 then y - r else mnTo (fun i => y + vy zs i) (len - 1)
def by1 (r : Int) (len : Nat) (zs : List (Int × Int)) (y : Int) : Int := if len = 0 then y + r else mxTo (fun i => y + vy zs i) (len - 1)
def plo (r : Int) (len : Nat) (zs : List (Int × Int)) (x y a b : Int) : Int := if len = 0 then (x * a + y * b) / 1024 - r else mnTo (prj zs x y a b) (len - 1)
def phi (r : Int) (len : Nat) (zs : List (Int × Int)) (x y a b : Int) : Int := if len = 0 then (x * a + y * b) / 1024 + r else mxTo (prj zs x y a b) (len - 1)
theorem box_bd {w : World} {r : Int} {a : Option Addr} {len cap : Nat} {zs : List (Int × Int)} (h : ShAt w r a len cap zs) (x y : Int) :
    (x - 32768 ≤ bx0 r len zs x ∧ bx0 r len zs x ≤ bx1 r len zs x ∧ bx1 r len zs x ≤ x + 32768) ∧ y - 32768 ≤ by0 r len zs y ∧ by0 r len zs y ≤ by1 r len zs y ∧ by1 r len zs y ≤ y + 32768 := by
  unfold bx0 bx1 by0 by1
  rcases h.kind with ⟨h0, _, _, _, h1, h2⟩ | ⟨_, h1, h2, hb, _⟩
  · simp only [h0, if_true]; omega
  · rw [if_neg (by omega), if_neg (by omega), if_neg (by omega), if_neg (by omega)]
    obtain ⟨i, hi, ei⟩ := mnTo_at (fun i => x + vx zs i) (len - 1)
    obtain ⟨j, hj, ej⟩ := mxTo_at (fun i => x + vx zs i) (len - 1)
    obtain ⟨k, hk, ek⟩ := mnTo_at (fun i => y + vy zs i) (len - 1)
    obtain ⟨l, hl, el⟩ := mxTo_at (fun i => y + vy zs i) (len - 1)
    have t1 := le_mxTo (fun i => x + vx zs i) (len - 1) i hi
    have t2 := le_mxTo (fun i => y + vy zs i) (len - 1) k hk
    have bi := hb i
    have bj := hb j
    have bk := hb k
    have bl := hb l
    omega
theorem shape_any (n : Int) (w : World) (hn : (Lit.int .i64 n).wf = true) : Calls Try.prog 18 #[.int .i64 n] w fun e W => ∃ a cap, e = .returned (.agg #[.int .i64 (shR n), .slice a (shZ n).length cap]) ∧ ShAt W (shR n) a (shZ n).length cap (shZ n) ∧ Below w.heap.size w W ∧ ∀ x, a = some x → w.heap.size ≤ x.block := by
  have key : Calls Try.prog 18 #[.int .i64 n] w (ShapeP w n) := by
    by_cases h3 : aro n 1000000000 % 3 = 0
    · exact shape_circle n w (i64_bd hn).1 (i64_bd hn).2 h3
    · exact shape_poly n w (i64_bd hn).1 (i64_bd hn).2 h3
  refine key.mono ?_
  rintro e W ⟨a, cap, rfl, hp, hb, hx, hc⟩
  refine ⟨a, cap, rfl, ⟨?_, hp⟩, hb, hx⟩
  rcases shZ_good n with ⟨h1, h2, h3⟩ | h
  · obtain ⟨ha, hcap⟩ := hc h1
    exact .inl ⟨by rw [h1]; rfl, h1, ha, hcap, h2, h3⟩
  · exact .inr h
section
variable {w : World} {r : Int} {a : Option Addr} {len cap : Nat} {zs : List (Int × Int)}
theorem contains_s (h : ShAt w r a len cap zs) (x y p q : Int) (hx : -50000000 ≤ p - x ∧ p - x ≤ 50000000) (hy : -50000000 ≤ q - y ∧ q - y ≤ 50000000) (W : World) (hW : Below w.heap.size w W) :
    Calls Try.prog 47 #[.agg #[.int .i64 r, .slice a len cap], .agg #[.int .i64 x, .int .i64 y], .agg #[.int .i64 p, .int .i64 q]] W fun e w' => e = .returned (.bool (sct r len zs (p - x) (q - y))) ∧ Below W.heap.size W w' := by
  have g := h.later hW
  unfold sct
  rcases h.kind with ⟨rfl, _, rfl, rfl, h1, h2⟩ | ⟨_, h1, h2, hb, _⟩
  · rw [if_pos rfl]
    exact contains_circle r x y p q none 0 (by omega) (by omega) (by omega) W
  · rw [if_neg (by omega)]
    exact contains_poly r a len cap zs x y p q W g.poly (by omega) (by omega) (fun i => by have := hb i; omega) hx hy
theorem bounds_s (h : ShAt w r a len cap zs) (x y : Int) (hx : -100000000 ≤ x ∧ x ≤ 100000000) (hy : -100000000 ≤ y ∧ y ≤ 100000000) (W : World) (hW : Below w.heap.size w W) :
    Calls Try.prog 31 #[.agg #[.int .i64 r, .slice a len cap], .agg #[.int .i64 x, .int .i64 y]] W fun e w' => e = .returned (.agg #[.int .i64 (bx0 r len zs x), .int .i64 (by0 r len zs y), .int .i64 (bx1 r len zs x), .int .i64 (by1 r len zs y)]) ∧ Below W.heap.size W w' := by
  have g := h.later hW
  unfold bx0 bx1 by0 by1
  rcases h.kind with ⟨rfl, _, rfl, rfl, h1, h2⟩ | ⟨_, h1, h2, hb, _⟩
  · simp only [if_true]
    exact bounds_circle r x y none 0 (by omega) hx hy W
  · rw [if_neg (by omega), if_neg (by omega), if_neg (by omega), if_neg (by omega)]
    exact bounds_poly r a len cap zs x y W g.poly (by omega) (by omega) (fun i => by have := hb i; omega) hx hy
theorem rbounds_s (h : ShAt w r a len cap zs) (x y : Int) (hx : -100000000 ≤ x ∧ x ≤ 100000000) (hy : -100000000 ≤ y ∧ y ≤ 100000000) (W : World) (hW : Below w.heap.size w W) :
    Calls Try.prog 49 #[.agg #[.int .i64 r, .slice a len cap], .agg #[.int .i64 x, .int .i64 y]] W fun e w' => e = .returned (.agg #[.int .i64 (bx0 r len zs x), .int .i64 (by0 r len zs y), .int .i64 (bx1 r len zs x), .int .i64 (by1 r len zs y)]) ∧ Below W.heap.size W w' := by
  have g := h.later hW
  unfold bx0 bx1 by0 by1
  rcases h.kind with ⟨rfl, _, rfl, rfl, h1, h2⟩ | ⟨_, h1, h2, hb, _⟩
  · simp only [if_true]
    exact rbounds_circle r x y none 0 (by omega) hx hy W
  · rw [if_neg (by omega), if_neg (by omega), if_neg (by omega), if_neg (by omega)]
    exact rbounds_poly r a len cap zs x y W g.poly (by omega) (by omega) (fun i => by have := hb i; omega) hx hy
theorem project_s (h : ShAt w r a len cap zs) (x y ax ay : Int) (hx : -100000000 ≤ x ∧ x ≤ 100000000) (hy : -100000000 ≤ y ∧ y ≤ 100000000) (hax : -100000000 ≤ ax ∧ ax ≤ 100000000) (hay : -100000000 ≤ ay ∧ ay ≤ 100000000) (W : World) (hW : Below w.heap.size w W) :
    Calls Try.prog 32 #[.agg #[.int .i64 r, .slice a len cap], .agg #[.int .i64 x, .int .i64 y], .agg #[.int .i64 ax, .int .i64 ay]] W fun e w' => e = .returned (.tuple #[.int .i64 (plo r len zs x y ax ay), .int .i64 (phi r len zs x y ax ay)]) ∧ Below W.heap.size W w' := by
  have g := h.later hW
  unfold plo phi
  rcases h.kind with ⟨rfl, _, rfl, rfl, h1, h2⟩ | ⟨_, h1, h2, hb, _⟩
  · simp only [if_true]
    exact project_circle r x y ax ay none 0 (by omega) hx hy hax hay W
  · rw [if_neg (by omega), if_neg (by omega)]
    exact project_poly r a len cap zs x y ax ay W g.poly (by omega) (by omega) (fun i => by have := hb i; omega) hx hy hax hay
theorem rproject_s (h : ShAt w r a len cap zs) (x y ax ay : Int) (hx : -100000000 ≤ x ∧ x ≤ 100000000) (hy : -100000000 ≤ y ∧ y ≤ 100000000) (hax : -100000000 ≤ ax ∧ ax ≤ 100000000) (hay : -100000000 ≤ ay ∧ ay ≤ 100000000) (W : World) (hW : Below w.heap.size w W) :
    Calls Try.prog 61 #[.agg #[.int .i64 r, .slice a len cap], .agg #[.int .i64 x, .int .i64 y], .agg #[.int .i64 ax, .int .i64 ay]] W fun e w' => e = .returned (.tuple #[.int .i64 (plo r len zs x y ax ay), .int .i64 (phi r len zs x y ax ay)]) ∧ Below W.heap.size W w' := by
  have g := h.later hW
  unfold plo phi
  rcases h.kind with ⟨rfl, _, rfl, rfl, h1, h2⟩ | ⟨h0, h1, h2, hb, _⟩
  · simp only [if_true]
    exact rproject_circle r x y ax ay 0 (by omega) hx hy hax hay W
  · rw [if_neg (by omega), if_neg (by omega)]
    exact rproject_poly r a len cap zs x y ax ay W g.poly (by omega) (by omega) (fun i => by have := hb i; omega) (by omega) hx hy hax hay
theorem sct_box (h : ShAt w r a len cap zs) (x y P Q : Int) (hc : sct r len zs P Q = true) : bx0 r len zs x ≤ x + P ∧ x + P ≤ bx1 r len zs x ∧ by0 r len zs y ≤ y + Q ∧ y + Q ≤ by1 r len zs y := by
  unfold bx0 bx1 by0 by1
  unfold sct at hc
  have hl := h.poly.len
  rcases h.kind with ⟨rfl, _, _, _, h1, h2⟩ | ⟨_, h1, h2, _, hv⟩
  · simp only [if_true] at hc ⊢
    have := disc_box (by omega) (of_decide_eq_true hc)
    omega
  · rw [if_neg (by omega)] at hc
    rw [if_neg (by omega), if_neg (by omega), if_neg (by omega), if_neg (by omega), mnTo_add, mxTo_add, mnTo_add, mxTo_add, ← hl]
    have := cov_box hv (by omega) hc
    omega
theorem sct_prj (h : ShAt w r a len cap zs) (x y P Q ax ay : Int) (hab : (-720 ≤ ax ∧ ax ≤ 720 ∧ -720 ≤ ay ∧ ay ≤ 720) ∨ 0 < len) (hc : sct r len zs P Q = true) :
    plo r len zs x y ax ay ≤ ((x + P) * ax + (y + Q) * ay) / 1024 ∧ ((x + P) * ax + (y + Q) * ay) / 1024 ≤ phi r len zs x y ax ay := by
  unfold plo phi
  unfold sct at hc
  have hl := h.poly.len
  have e0 : (x + P) * ax + (y + Q) * ay = (x * ax + y * ay) + (P * ax + Q * ay) := by grind
  rcases h.kind with ⟨rfl, _, _, _, h1, h2⟩ | ⟨_, h1, h2, _, hv⟩
  · simp only [if_true] at hc ⊢
    have hb : -720 ≤ ax ∧ ax ≤ 720 ∧ -720 ≤ ay ∧ ay ≤ 720 := by omega
    have := disc_prj (by omega) (of_decide_eq_true hc) ⟨hb.1, hb.2.1⟩ hb.2.2
    rw [e0]
    generalize x * ax + y * ay = c at *
    generalize P * ax + Q * ay = e at *
    omega
  · rw [if_neg (by omega)] at hc
    rw [if_neg (by omega), if_neg (by omega), ← hl]
    obtain ⟨⟨i, hi, hi'⟩, j, hj, hj'⟩ := cov_prj hv (by omega) hc ax ay
    have g1 := le_mxTo (prj zs x y ax ay) (zs.length - 1) i (by omega)
    have g2 := mnTo_le (prj zs x y ax ay) (zs.length - 1) j (by omega)
    have ei : (x + vx zs i) * ax + (y + vy zs i) * ay = (x * ax + y * ay) + (vx zs i * ax + vy zs i * ay) := by grind
    have ej : (x + vx zs j) * ax + (y + vy zs j) * ay = (x * ax + y * ay) + (vx zs j * ax + vy zs j * ay) := by grind
    have t1 : ((x + P) * ax + (y + Q) * ay) / 1024 ≤ prj zs x y ax ay i := Int.ediv_le_ediv (by decide) (by omega)
    have t2 : prj zs x y ax ay j ≤ ((x + P) * ax + (y + Q) * ay) / 1024 := Int.ediv_le_ediv (by decide) (by omega)
    omega
theorem prj_bd (h : ShAt w r a len cap zs) (x y ax ay : Int) (hx : -100000000 ≤ x ∧ x ≤ 100000000) (hy : -100000000 ≤ y ∧ y ≤ 100000000) (hax : -100000000 ≤ ax ∧ ax ≤ 100000000) (hay : -100000000 ≤ ay ∧ ay ≤ 100000000) :
    (-40000000000000 ≤ plo r len zs x y ax ay ∧ plo r len zs x y ax ay ≤ 40000000000000) ∧ -40000000000000 ≤ phi r len zs x y ax ay ∧ phi r len zs x y ax ay ≤ 40000000000000 := by
  have one : ∀ j, Bd zs 32768 → -40000000000000 ≤ prj zs x y ax ay j ∧ prj zs x y ax ay j ≤ 40000000000000 := by
    intro j hb
    have b := hb j
    have m1 := mul_bd (a := x + vx zs j) (b := ax) (A := 100050000) (B := 100000000) (by omega) (by omega) hax.1 hax.2
    have m2 := mul_bd (a := y + vy zs j) (b := ay) (A := 100050000) (B := 100000000) (by omega) (by omega) hay.1 hay.2
    unfold prj
    omega
  unfold plo phi
  rcases h.kind with ⟨rfl, _, _, _, h1, h2⟩ | ⟨_, h1, h2, hb, hv⟩
  · simp only [if_true]
    have m1 := mul_bd hx.1 hx.2 hax.1 hax.2
    have m2 := mul_bd hy.1 hy.2 hay.1 hay.2
    omega
  · rw [if_neg (by omega), if_neg (by omega)]
    obtain ⟨i, hi, ei⟩ := mnTo_at (prj zs x y ax ay) (len - 1)
    obtain ⟨j, hj, ej⟩ := mxTo_at (prj zs x y ax ay) (len - 1)
    rw [ei, ej]
    exact ⟨one i hb, one j hb⟩
end
theorem bx0_add (r : Int) (len : Nat) (zs : List (Int × Int)) (x d : Int) : bx0 r len zs (x + d) = bx0 r len zs x + d := by
  unfold bx0; split
  · omega
  · rw [mnTo_add, mnTo_add]; omega
theorem bx1_add (r : Int) (len : Nat) (zs : List (Int × Int)) (x d : Int) : bx1 r len zs (x + d) = bx1 r len zs x + d := by
  unfold bx1; split
  · omega
  · rw [mxTo_add, mxTo_add]; omega
theorem by0_add (r : Int) (len : Nat) (zs : List (Int × Int)) (x d : Int) : by0 r len zs (x + d) = by0 r len zs x + d := by
  unfold by0; split
  · omega
  · rw [mnTo_add, mnTo_add]; omega
theorem by1_add (r : Int) (len : Nat) (zs : List (Int × Int)) (x d : Int) : by1 r len zs (x + d) = by1 r len zs x + d := by
  unfold by1; split
  · omega
  · rw [mxTo_add, mxTo_add]; omega
theorem prj_add (zs : List (Int × Int)) (x y i k a b : Int) (j : Nat) : prj zs (x + i * 1024) (y + k * 1024) a b j = (i * a + k * b) + prj zs x y a b j := by
  unfold prj
  have e : (x + i * 1024 + vx zs j) * a + (y + k * 1024 + vy zs j) * b = ((x + vx zs j) * a + (y + vy zs j) * b) + 1024 * (i * a + k * b) := by grind
  rw [e]
  generalize (x + vx zs j) * a + (y + vy zs j) * b = m
  generalize i * a + k * b = n
  omega
theorem plo_add (r : Int) (len : Nat) (zs : List (Int × Int)) (x y i k a b : Int) : plo r len zs (x + i * 1024) (y + k * 1024) a b = plo r len zs x y a b + (i * a + k * b) := by
  unfold plo; split
  · have e : (x + i * 1024) * a + (y + k * 1024) * b = (x * a + y * b) + 1024 * (i * a + k * b) := by grind
    rw [e]
    generalize x * a + y * b = m
    generalize i * a + k * b = n
    omega
  · rw [show prj zs (x + i * 1024) (y + k * 1024) a b = fun j => (i * a + k * b) + prj zs x y a b j from funext fun j => prj_add zs x y i k a b j, mnTo_add]; omega
theorem phi_add (r : Int) (len : Nat) (zs : List (Int × Int)) (x y i k a b : Int) : phi r len zs (x + i * 1024) (y + k * 1024) a b = phi r len zs x y a b + (i * a + k * b) := by
  unfold phi; split
  · have e : (x + i * 1024) * a + (y + k * 1024) * b = (x * a + y * b) + 1024 * (i * a + k * b) := by grind
    rw [e]
    generalize x * a + y * b = m
    generalize i * a + k * b = n
    omega
  · rw [show prj zs (x + i * 1024) (y + k * 1024) a b = fun j => (i * a + k * b) + prj zs x y a b j from funext fun j => prj_add zs x y i k a b j, mxTo_add]; omega
end Go.Proofs.Ytcgcapfppceggaa.Sh
