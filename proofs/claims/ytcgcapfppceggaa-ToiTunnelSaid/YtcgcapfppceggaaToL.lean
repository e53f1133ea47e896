/-
  The contract of arenanetlaw06.lives.
  Conditions: none.
-/
import Derived.Test.YtcgcapfppceggaaToT
namespace Go.Proofs.Ytcgcapfppceggaa.To
open Go.RowKit Go.Proofs.Ytcgcapfppceggaa.FxMath Go.Proofs.Ytcgcapfppceggaa.FxA Go.Proofs.Ytcgcapfppceggaa.Qt Go.Proofs.Ytcgcapfppceggaa.Ve Go.Proofs.Ytcgcapfppceggaa.Sh Go.Proofs.Ytcgcapfppceggaa.Co Go.Shelf
set_option linter.unusedVariables false
set_option linter.unusedSimpArgs false
attribute [local go_sem] Oper.semAt_some
set_option maxRecDepth 100000 in
set_option maxHeartbeats 2000000 in
theorem lives06 : Gives Try.prog 40 #[] (.bool true) := by
  intro w
  have c1 : Gives Try.prog 42 #[.agg #[.int .i64 10, .slice none 0 0], .agg #[.int .i64 (-100), .int .i64 0], .agg #[.int .i64 160, .int .i64 0], .agg #[.int .i64 10, .slice none 0 0], .agg #[.int .i64 0, .int .i64 0], .agg #[.int .i64 0, .int .i64 0]] (.int .i64 512) := fun V => by
    have h := earliest_s (shAt_circle V 10 (by decide)) (shAt_circle V 10 (by decide)) (px := -100) (py := 0) (ux := 160) (uy := 0) (qx := 0) (qy := 0) (vx' := 0) (vy' := 0) ⟨by decide, by decide, by decide, by decide⟩ V (Below.refl _ _)
    rw [lives_val1] at h
    exact h
  have c2 : Gives Try.prog 42 #[.agg #[.int .i64 10, .slice none 0 0], .agg #[.int .i64 (-100), .int .i64 0], .agg #[.int .i64 16, .int .i64 0], .agg #[.int .i64 10, .slice none 0 0], .agg #[.int .i64 0, .int .i64 0], .agg #[.int .i64 0, .int .i64 0]] (.int .i64 1024) := fun V => by
    have h := earliest_s (shAt_circle V 10 (by decide)) (shAt_circle V 10 (by decide)) (px := -100) (py := 0) (ux := 16) (uy := 0) (qx := 0) (qy := 0) (vx' := 0) (vy' := 0) ⟨by decide, by decide, by decide, by decide⟩ V (Below.refl _ _)
    rw [lives_val2] at h
    exact h
  have Hc1 := Lib.hid c1; have Hc2 := Lib.hid c2; clear c1 c2
  have hal := alloc_if; have hfal := allocF_if
  go_enter Try.func40, Try.ntmps40
  go_wp2_with (first | ((with_reducible refine (Hc1.out _).mono ?_); rintro e wA ⟨rfl, hbA⟩; obtain ⟨NA, hNA, hcA, hfA, hsA⟩ := bcell hbA; (try simp only [World.size_alloc, World.size_setCell, World.size_drew] at hNA)) | ((with_reducible refine (Hc2.out _).mono ?_); rintro e wB ⟨rfl, hbB⟩; obtain ⟨NB, hNB, hcB, hfB, hsB⟩ := bcell hbB; (try simp only [World.size_alloc, World.size_setCell, World.size_drew] at hNB)))
  go_ret
  exact ⟨rfl, by (repeat (first | (with_reducible exact Below.refl _ _) | (with_reducible refine Below.drew ?_) | (with_reducible refine below_drewN ?_ _) | (with_reducible refine Below.setCell ?_ (by first | (simp; done) | (simp; omega) | omega) _) | (with_reducible refine Below.alloc ?_ (by first | (simp; done) | (simp; omega) | omega) _) | (with_reducible refine Below.trans ?_ (Below.mono (by assumption) (by first | (simp; done) | (simp; omega) | omega))) | (with_reducible refine Below.trans ?_ (Below.mono (Later.below _) (by first | (simp; done) | (simp; omega) | omega)))))⟩
end Go.Proofs.Ytcgcapfppceggaa.To
