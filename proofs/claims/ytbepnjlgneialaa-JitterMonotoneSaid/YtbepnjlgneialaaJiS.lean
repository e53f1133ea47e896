/-
  The contract of slices.Sort at a slice of ints, laid at this program (written by a program from the kit's own laying), and what a sorted row holds.
  Conditions: stated in each contract.
-/
import Derived.Shelf.SortM.Plain
import Derived.Test.YtbepnjlgneialaaQt
import Derived.Test.YtbepnjlgneialaaJiM
namespace Go.Proofs.Ytbepnjlgneialaa.Ji
open Go Go.RowKit Go.Shelf Go.Sort Go.Proofs Go.Proofs.Ytbepnjlgneialaa.Qt
set_option linter.unusedVariables false
def sortL_ren : Go.Shelf.Ren := ⟨fun | 5 => 25 | 8 => 27 | 7 => 26 | 19 => 37 | 20 => 38 | 10 => 28 | 11 => 29 | 12 => 30 | 13 => 31 | 14 => 32 | 15 => 33 | 16 => 34 | 17 => 35 | 18 => 36 | 30 => 39 | 31 => 40 | 32 => 41 | 33 => 42 | 34 => 43 | 35 => 44 | 40 => 45 | n => n, fun | 23 => 22 | 25 => 3 | 3 => 3 | 32 => 48 | 22 => 22 | 0 => 0 | 44 => 58 | 46 => 60 | 4 => 4 | 36 => 51 | 35 => 50 | 41 => 55 | 5 => 5 | 9 => 9 | 53 => 61 | 57 => 65 | 63 => 68 | 64 => 69 | n => n, fun | n => n⟩
theorem sortL : Go.Proofs.SlLaysM.n5 Try.prog sortL_ren := {
  mixed := by kernel_rfl,
  f5 := ⟨Try.f25.name, by decide, Try.func25.trans (congrArg some (by kernel_rfl))⟩,
  f7 := ⟨Try.f26.name, by decide, Try.func26.trans (congrArg some (by kernel_rfl))⟩,
  f8 := Try.func27.trans (congrArg some (by kernel_rfl)),
  f10 := ⟨Try.f28.name, by decide, Try.func28.trans (congrArg some (by kernel_rfl))⟩,
  f11 := ⟨Try.f29.name, by decide, Try.func29.trans (congrArg some (by kernel_rfl))⟩,
  f12 := ⟨Try.f30.name, by decide, Try.func30.trans (congrArg some (by kernel_rfl))⟩,
  f13 := ⟨Try.f31.name, by decide, Try.func31.trans (congrArg some (by kernel_rfl))⟩,
  f14 := ⟨Try.f32.name, by decide, Try.func32.trans (congrArg some (by kernel_rfl))⟩,
  f15 := ⟨Try.f33.name, by decide, Try.func33.trans (congrArg some (by kernel_rfl))⟩,
  f16 := ⟨Try.f34.name, by decide, Try.func34.trans (congrArg some (by kernel_rfl))⟩,
  f17 := ⟨Try.f35.name, by decide, Try.func35.trans (congrArg some (by kernel_rfl))⟩,
  f18 := ⟨Try.f36.name, by decide, Try.func36.trans (congrArg some (by kernel_rfl))⟩,
  f19 := Try.func37.trans (congrArg some (by kernel_rfl)),
  f20 := Try.func38.trans (congrArg some (by kernel_rfl)),
  f30 := ⟨Try.f39.name, by decide, Try.func39.trans (congrArg some (by kernel_rfl))⟩,
  f31 := Try.func40.trans (congrArg some (by kernel_rfl)),
  f32 := Try.func41.trans (congrArg some (by kernel_rfl)),
  f33 := ⟨Try.f42.name, by decide, Try.func42.trans (congrArg some (by kernel_rfl))⟩,
  f34 := ⟨Try.f43.name, by decide, Try.func43.trans (congrArg some (by kernel_rfl))⟩,
  f35 := ⟨Try.f44.name, by decide, Try.func44.trans (congrArg some (by kernel_rfl))⟩,
  f40 := ⟨Try.f45.name, by decide, Try.func45.trans (congrArg some (by kernel_rfl))⟩,
  t0 := Try.underlying0,
  a0 := Try.isAgg0,
  z0 := Try.sizeOf0,
  v0 := Try.zeroValue0,
  t3 := Try.underlying3,
  a3 := Try.isAgg3,
  z3 := Try.sizeOf3,
  v3 := Try.zeroValue3,
  t4 := Try.underlying4,
  a4 := Try.isAgg4,
  z4 := Try.sizeOf4,
  v4 := Try.zeroValue4,
  t5 := Try.underlying5,
  a5 := Try.isAgg5,
  z5 := Try.sizeOf5,
  v5 := Try.zeroValue5,
  t9 := Try.underlying9,
  a9 := Try.isAgg9,
  z9 := Try.sizeOf9,
  v9 := Try.zeroValue9,
  t22 := Try.underlying22,
  a22 := Try.isAgg22,
  z22 := Try.sizeOf22,
  v22 := Try.zeroValue22,
  t23 := Try.underlying22,
  a23 := Try.isAgg22,
  z23 := Try.sizeOf22,
  v23 := Try.zeroValue22,
  t25 := Try.underlying3,
  a25 := Try.isAgg3,
  z25 := Try.sizeOf3,
  v25 := Try.zeroValue3,
  t32 := Try.underlying48,
  a32 := Try.isAgg48,
  z32 := Try.sizeOf48,
  v32 := Try.zeroValue48,
  t35 := Try.underlying50,
  a35 := Try.isAgg50,
  z35 := Try.sizeOf50,
  v35 := Try.zeroValue50,
  t36 := Try.underlying51,
  a36 := Try.isAgg51,
  z36 := Try.sizeOf51,
  v36 := Try.zeroValue51,
  t41 := Try.underlying55,
  a41 := Try.isAgg55,
  z41 := Try.sizeOf55,
  v41 := Try.zeroValue55,
  t44 := Try.underlying58,
  a44 := Try.isAgg58,
  z44 := Try.sizeOf58,
  v44 := Try.zeroValue58,
  t46 := Try.underlying60,
  a46 := Try.isAgg60,
  z46 := Try.sizeOf60,
  v46 := Try.zeroValue60,
  t53 := Try.underlying61,
  a53 := Try.isAgg61,
  z53 := Try.sizeOf61,
  v53 := Try.zeroValue61,
  t57 := Try.underlying65,
  a57 := Try.isAgg65,
  z57 := Try.sizeOf65,
  v57 := Try.zeroValue65,
  t63 := Try.underlying68,
  a63 := Try.isAgg68,
  z63 := Try.sizeOf68,
  v63 := Try.zeroValue68,
  t64 := Try.underlying69,
  a64 := Try.isAgg69,
  z64 := Try.sizeOf69,
  v64 := Try.zeroValue69 }
/-- slices.Sort of a row of the call's own. -/
theorem below_sorted {B : Nat} {a w : World} {n blk : Nat} {d : Array Int} {os : Array Obj} (h : Below B a w) (hb : B ≤ blk) (hbl : blk < w.heap.size) : Below B a (grow (putRow (Value.int .i64) (Sort.ahead w n) blk 0 d) os) := by
  have hs : (putRow (Value.int .i64) (Sort.ahead w n) blk 0 d).heap.size = w.heap.size := by simp [putRow, Sort.mapBlock, Sort.ahead]
  refine ⟨h.os, h.tape, h.output, ?_, fun k hk => ?_⟩
  · have := h.size
    simp only [grow, Array.size_append]
    omega
  · have := h.block k hk
    rw [heap_grow_old _ _ (by omega), ← this]
    simp only [putRow, Sort.mapBlock, Sort.ahead, Array.getElem?_modify]
    rw [if_neg (by omega)]
theorem sort_own (b : Nat) (cap : Nat) (K : List Int) (w : World) (hH : Holds (Value.int .i64) w b 0 K.toArray) (hb : b < w.heap.size) (hl : K.length < 1000) :
    Calls Try.prog 25 #[.slice (some ⟨b, 0, none⟩) K.length cap] w fun e w' => e = .returned (.tuple #[]) ∧ (∀ i, i < K.length → w'.cell? ⟨b, i, none⟩ = some (.int .i64 ((srt K).getD i 0))) ∧ ∀ B a, Below B a w → B ≤ b → Below B a w' := by
  have h := AnyM.slices_Sort_int sortL b 0 cap K w hH hb (by omega)
  refine h.mono ?_
  rintro e w' ⟨rfl, n, os, rfl⟩
  refine ⟨rfl, fun i hi => ?_, fun B a hB hBb => below_sorted hB hBb hb⟩
  have hl2 : (K.mergeSort fun x y => decide (x ≤ y)).length = K.length := srt_len K
  have hh := cell?_putRow (Value.int .i64) (Sort.ahead w n) b 0 K.toArray (K.mergeSort fun x y => decide (x ≤ y)).toArray (holds_ahead _ _ _ _ _ _ hH) (by simp [hl2]) i (by simp [hl2]; exact hi)
  rw [Nat.zero_add] at hh
  rw [cell?_grow]
  · rw [hh]
    unfold srt
    rw [List.getD_eq_getElem?_getD, List.getElem?_eq_getElem (by rw [hl2]; exact hi)]
    simp [hl2, hi]
  · simp [putRow, Sort.mapBlock, Sort.ahead]; exact hb
end Go.Proofs.Ytbepnjlgneialaa.Ji
