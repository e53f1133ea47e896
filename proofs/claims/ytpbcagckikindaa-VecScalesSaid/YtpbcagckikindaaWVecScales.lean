/-
  The walk of the law VecScales: it returns true at every input.
  Conditions: none.
-/
import Derived.Test.YtpbcagckikindaaVeL
import Derived.Test.YtpbcagckikindaaVeM
import Derived.Test.YtpbcagckikindaaQe
import Derived.Test.YtpbcagckikindaaFxG
namespace Go.Proofs.Ytpbcagckikindaa.W
open Go.RowKit Go.Proofs.Ytpbcagckikindaa.FxMath Go.Proofs.Ytpbcagckikindaa.FxA Go.Proofs.Ytpbcagckikindaa.Qt Go.Proofs.Ytpbcagckikindaa.Ve
set_option linter.unusedVariables false
set_option linter.unusedSimpArgs false
theorem self_one (x : Int) : fdv (x * 1024) 1024 = x := fdv_unique _ _ _ (by omega) (by omega)
theorem self_pos (x z : Int) (hz : 1 ≤ z) : fdv (x * z) z = x := fdv_unique _ _ _ (by omega) (by rw [Int.mul_comm z x]; omega)
theorem dist_ok (x a k : Int) : fdv (x * k) 1024 + fdv (a * k) 1024 ≤ fdv ((x + a) * k) 1024 ∧ fdv ((x + a) * k) 1024 ≤ fdv (x * k) 1024 + fdv (a * k) 1024 + 1 := by
  have e : (x + a) * k = x * k + a * k := Int.add_mul x a k
  rw [e, fdv_pos _ _ (by omega), fdv_pos _ _ (by omega), fdv_pos _ _ (by omega)]
  omega
set_option maxHeartbeats 4000000 in
theorem VecScales_walk (a0a a0b a0c a0d : Int) (a1 : Int) (a2 : Int) (w : World) (w0a : (Lit.int .i64 a0a).wf = true) (w0b : (Lit.int .i64 a0b).wf = true) (w0c : (Lit.int .i64 a0c).wf = true) (w0d : (Lit.int .i64 a0d).wf = true) (w1 : (Lit.int .i64 a1).wf = true) (w2 : (Lit.int .i64 a2).wf = true) :
    Calls Try.prog 10 #[.agg #[.int .i64 a0a, .int .i64 a0b, .int .i64 a0c, .int .i64 a0d], .int .i64 a1, .int .i64 a2] w fun e w' => e = .returned (.bool true) ∧ Below w.heap.size w w' := by
  obtain ⟨x, y, hx0, hx1, hy0, hy1, c0⟩ := ofM a0a a0b w0a w0b
  obtain ⟨a, b, ha0, ha1, hb0, hb1, c1⟩ := ofM a0c a0d w0c w0d
  obtain ⟨k, hk0, hk1, ck'⟩ := boundE a1 1024 w1 (by omega) (by omega)
  obtain ⟨z, hz0, hz1, cm'⟩ := aroundE a2 1048576 w2 (by omega) (by omega)
  have ck := gives_same ck'
  have cm := gives_same cm'
  clear ck' cm'
  have p1 := mul_bd (a := x + a) (b := k) (A := 16777216) (B := 1024) (by omega) (by omega) (by omega) (by omega)
  have p2 := mul_bd (a := y + b) (b := k) (A := 16777216) (B := 1024) (by omega) (by omega) (by omega) (by omega)
  have p3 := mul_bd hx0 hx1 hk0 hk1
  have p4 := mul_bd hy0 hy1 hk0 hk1
  have p5 := mul_bd ha0 ha1 hk0 hk1
  have p6 := mul_bd hb0 hb1 hk0 hk1
  have p7 := mul_bd (a := x) (b := 1 + z) (A := 8388608) (B := 1048576) (by omega) (by omega) (by omega) (by omega)
  have p8 := mul_bd (a := y) (b := 1 + z) (A := 8388608) (B := 1048576) (by omega) (by omega) (by omega) (by omega)
  have d1 := dist_ok x a k
  have d2 := dist_ok y b k
  have f1 := fdv_le (x * k) 1024
  have f2 := fdv_le (y * k) 1024
  have f3 := fdv_le (a * k) 1024
  have f4 := fdv_le (b * k) 1024
  have h1 := add_any x y a b (by omega) (by omega) (by omega) (by omega)
  have h2 := scale_any (x + a) (y + b) k (by omega) (by omega) (by omega) (by omega)
  have h3 := scale_any x y k (by omega) (by omega) (by omega) (by omega)
  have h4 := scale_any a b k (by omega) (by omega) (by omega) (by omega)
  have h6 := scale_any x y 1024 (by omega) (by omega) (by omega) (by omega)
  rw [self_one, self_one] at h6
  have h7 := vMulDiv_any x y (1 + z) (1 + z) (by omega) (by omega) (by omega) (by omega)
  rw [self_pos x (1 + z) (by omega), self_pos y (1 + z) (by omega)] at h7
  have h8 := vMulDiv_any x y k 1024 (by omega) (by omega) (by omega) (by omega)
  have h9 := scale_any x y 0 (by omega) (by omega) (by omega) (by omega)
  rw [Int.mul_zero, Int.mul_zero, show fdv 0 1024 = 0 from rfl] at h9
  have h10 := lives_any
  have h11 : Gives Try.prog 41 #[.int .i64 x, .int .i64 k] (.int .i64 (fdv (x * k) 1024)) := gives_drewN (fun w => mul_any x k w (by omega) (by omega))
  generalize fdv ((x + a) * k) 1024 = r at *
  generalize fdv ((y + b) * k) 1024 = s at *
  generalize fdv (x * k) 1024 = u at *
  generalize fdv (y * k) 1024 = v at *
  generalize fdv (a * k) 1024 = c at *
  generalize fdv (b * k) 1024 = d at *
  have h5 := add_any u v c d (by omega) (by omega) (by omega) (by omega)
  have g1 : -17179869184 ≤ r - (u + c) := by omega
  have g2 : r - (u + c) ≤ 17179869184 := by omega
  have g3 : -17179869184 ≤ s - (v + d) := by omega
  have g4 : s - (v + d) ≤ 17179869184 := by omega
  obtain ⟨e1, e2⟩ := d1
  obtain ⟨e3, e4⟩ := d2
  have e5 : 0 ≤ r - (u + c) := by omega
  have e6 : r - (u + c) ≤ 1 := by omega
  have e7 : 0 ≤ s - (v + d) := by omega
  have e8 : s - (v + d) ≤ 1 := by omega
  have C0 := Lib.hid c0
  have C1 := Lib.hid c1
  have CK := Lib.hid ck
  have CM := Lib.hid cm
  have H1 := Lib.hid h1
  have H2 := Lib.hid h2
  have H3 := Lib.hid h3
  have H4 := Lib.hid h4
  have H5 := Lib.hid h5
  have H6 := Lib.hid h6
  have H7 := Lib.hid h7
  have H8 := Lib.hid h8
  have H9 := Lib.hid h9
  have H10 := Lib.hid h10
  have H11 := Lib.hid h11
  clear c0 c1 ck cm h1 h2 h3 h4 h5 h6 h7 h8 h9 h10 h11
  clear p1 p2 p3 p4 p5 p6 p7 p8 f1 f2 f3 f4
  have hal := alloc_if; have hfal := allocF_if
  have hfld : ∀ (p q : Int) (w : World), (Instr.field 24 (.agg #[.int .i64 p, .int .i64 q]) 0).run Try.prog w = .ok (.int .i64 p) w := fun _ _ _ => by kernel_rfl
  go_enter Try.func10, Try.ntmps10
  go_wp2_with (first | ((with_reducible refine (C0.out _).mono ?_); rintro e w1 ⟨rfl, hb1⟩; obtain ⟨N1, hN1, hc1, hf1, hs1⟩ := bcell hb1; (try simp only [World.size_alloc, World.size_setCell, World.size_drew] at hN1)) | ((with_reducible refine (C1.out _).mono ?_); rintro e w1 ⟨rfl, hb1⟩; obtain ⟨N1, hN1, hc1, hf1, hs1⟩ := bcell hb1; (try simp only [World.size_alloc, World.size_setCell, World.size_drew] at hN1)) | ((with_reducible refine (CK.out _).mono ?_); rintro e w1 ⟨rfl, hb1⟩; obtain ⟨N1, hN1, hc1, hf1, hs1⟩ := bcell hb1; (try simp only [World.size_alloc, World.size_setCell, World.size_drew] at hN1)) | ((with_reducible refine (CM.out _).mono ?_); rintro e w1 ⟨rfl, hb1⟩; obtain ⟨N1, hN1, hc1, hf1, hs1⟩ := bcell hb1; (try simp only [World.size_alloc, World.size_setCell, World.size_drew] at hN1)) | ((with_reducible refine (H1.out _).mono ?_); rintro e w1 ⟨rfl, hb1⟩; obtain ⟨N1, hN1, hc1, hf1, hs1⟩ := bcell hb1; (try simp only [World.size_alloc, World.size_setCell, World.size_drew] at hN1)) | ((with_reducible refine (H2.out _).mono ?_); rintro e w1 ⟨rfl, hb1⟩; obtain ⟨N1, hN1, hc1, hf1, hs1⟩ := bcell hb1; (try simp only [World.size_alloc, World.size_setCell, World.size_drew] at hN1)))
  refine wp_region_calm1 7 12 #[.int .i64 0, .int .i64 0] 24 rfl (by kernel_rfl) (by kernel_rfl) (fun o ho ev w => by have ho' := Option.some.inj ho; rw [← ho']; exact rfl) fun NL hL => ?_; obtain ⟨hNL, hlc, hlf⟩ := hL; (try simp only [World.size_alloc, World.size_setCell, World.size_drew] at hNL); simp only [List.take_succ_cons, List.take_zero, List.drop_succ_cons, List.drop_zero]
  repeat ((refine wpCalm_go (fun K hK => ?_); go_simp; (repeat (simp only [↓IntWalk.iteOmega]; (try go_simp)))); first | (refine hK _ ?_; clear hK K) | (apply Exists.intro; refine ⟨fun x => ?_, hK _ ?_⟩; (first | (with_reducible exact calm_call (H3.out _)) | (with_reducible exact calm_call (H4.out _)) | (with_reducible exact calm_call (H5.out _))); clear hK K))
  refine wpCalm_nil ?_
  intro b1 w1 hb1 hk1 hkf1 hkn1 hks1
  (try simp only [World.size_alloc, World.size_setCell, World.size_drew] at hkn1)
  have hst := setCell_if
  simp only [Act.put, List.setIfInBounds_toArray, List.set_cons_zero, List.set_cons_succ]
  clear hlc hlf hNL NL; obtain ⟨N1, hN1, hc1, hf1, hs1⟩ := bcell hb1; (try simp only [World.size_alloc, World.size_setCell, World.size_drew] at hN1)
  go_wp2
  refine wp_region_later (by kernel_rfl) (by kernel_rfl) fun NL hL => ?_; obtain ⟨hNL, hlc, hlf⟩ := hL; (try simp only [World.size_alloc, World.size_setCell, World.size_drew] at hNL)
  repeat (go_big_quiet_step (first | (with_reducible exact later_call (H6.out _)) | (with_reducible exact later_call (H7.out _)) | (with_reducible exact later_call (H3.out _)) | (with_reducible exact later_call (H8.out _)) | (with_reducible exact later_call (H9.out _)) | (with_reducible exact later_call (H10.out _)) | (with_reducible exact later_call (H11.out _))))
  (refine wpQuiet_nil ?_; intro w1 hw1; obtain ⟨⟨w1, hb1⟩, rfl⟩ := hw1; clear hlc hlf hNL NL; obtain ⟨N1, hN1, hc1, hf1, hs1⟩ := bcell hb1; (try simp only [World.size_alloc, World.size_setCell, World.size_drew] at hN1))
  go_wp2
  go_ret
  exact ⟨rfl, by (repeat (first | exact Below.refl _ _ | (with_reducible refine Below.drew ?_) | (with_reducible refine below_drewN ?_ _) | (with_reducible refine Below.setCell ?_ (by first | (simp; done) | (simp; omega) | omega) _) | (with_reducible refine Below.alloc ?_ (by first | (simp; done) | (simp; omega) | omega) _) | (with_reducible refine Below.trans ?_ (Below.mono (by assumption) (by first | (simp; done) | (simp; omega) | omega)))))⟩
end Go.Proofs.Ytpbcagckikindaa.W
