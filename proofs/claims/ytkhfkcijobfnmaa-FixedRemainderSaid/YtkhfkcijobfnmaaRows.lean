/-
  No cell of these rows narrows 'for every input' (looked for: loops, veiled, ifaces, maps, wideKeys, modest, calm, conditions, laid).
  DERIVED. THE GIVEN ROWS OF THIS SEAT. 7 by the template 'for every input the law returns true; each argument reads behind the call as it read before'; 0 by the template 'total and deterministic' (their statements: YtkhfkcijobfnmaaTotals.lean).
  GIVEN WITH THE SEED: the statements are not yours to turn. If you find one false, say at which input.
  Laid BY PROGRAM, IN A SANDBOX (cutbox-rows.mjs): the forced cells as the released guide's own fill.sh prints them over the translation 28aeb65fb94f3e91… (all of the seat's roots in one cut). By AI agents, Wed Nov 11 2026. No macro, syntax, notation, axiom, sorry.
-/
import Derived.Test.YtkhfkcijobfnmaaChecked
import GoSem.Claim
import GoSem.ClaimJoined
import GoSem.ClaimMapViews
import Derived.JoinedTies
import Derived.KernelRfl
namespace Go.Proofs.Ytkhfkcijobfnmaa
/- THE CELL 'sum', in the pinned program and in every row, IS THE sha256 OF THE DUMP (.gsa) THAT YtkhfkcijobfnmaaProg.lean LOADS. Nothing in Lean hashes anything: it is a label: what it is worth is what the hold of that sum in a sandbox is worth. -/
noncomputable def Try.pinned : Pinned := { name := "ytkhfkcijobfnmaa", sum := "28aeb65fb94f3e91e84759ed9b73f4360cfad492bd2867919d20287a95730c64", checked := Try.checked }
namespace Rows
def none {H : Type} : Left H := { results := [], args := [] }

/-- 'arenanetlaw01.FixedMonotone': WHATEVER THE INPUT: true; the input reads as it did. -/
def fixedMonotoneSpec : ChangeSpec := { name := "fixedMonotone", fn := fun _ => fun
  | [d1, d2, d3] => { results := [.lit (.bool true)], args := [d1, d2, d3] }
  | _ => none }
def fixedMonotoneRow : OpenClaim := { program := "ytkhfkcijobfnmaa", sum := "28aeb65fb94f3e91e84759ed9b73f4360cfad492bd2867919d20287a95730c64", func := "arenanet/arenanetlaw01.FixedMonotone", spec := "fixedMonotone", apart := false }
def FixedMonotoneSaid : Prop := fixedMonotoneRow.holds Try.pinned (OpenSpec.ofChange fixedMonotoneSpec)

/-- ITS FALSE NEIGHBOUR: 'it returns false'. Refute it at one input. -/
def fixedMonotoneWrong : ChangeSpec := { name := "fixedMonotone", fn := fun _ => fun
  | [d1, d2, d3] => { results := [.lit (.bool false)], args := [d1, d2, d3] }
  | _ => none }
def FixedMonotoneWrongFalsely : Prop := fixedMonotoneRow.holds Try.pinned (OpenSpec.ofChange fixedMonotoneWrong)

/-- 'arenanetlaw01.FixedNegation': WHATEVER THE INPUT: true; the input reads as it did. -/
def fixedNegationSpec : ChangeSpec := { name := "fixedNegation", fn := fun _ => fun
  | [d1, d2] => { results := [.lit (.bool true)], args := [d1, d2] }
  | _ => none }
def fixedNegationRow : OpenClaim := { program := "ytkhfkcijobfnmaa", sum := "28aeb65fb94f3e91e84759ed9b73f4360cfad492bd2867919d20287a95730c64", func := "arenanet/arenanetlaw01.FixedNegation", spec := "fixedNegation", apart := false }
def FixedNegationSaid : Prop := fixedNegationRow.holds Try.pinned (OpenSpec.ofChange fixedNegationSpec)

/-- ITS FALSE NEIGHBOUR: 'it returns false'. Refute it at one input. -/
def fixedNegationWrong : ChangeSpec := { name := "fixedNegation", fn := fun _ => fun
  | [d1, d2] => { results := [.lit (.bool false)], args := [d1, d2] }
  | _ => none }
def FixedNegationWrongFalsely : Prop := fixedNegationRow.holds Try.pinned (OpenSpec.ofChange fixedNegationWrong)

/-- 'arenanetlaw01.FixedSquares': WHATEVER THE INPUT: true; the input reads as it did. -/
def fixedSquaresSpec : ChangeSpec := { name := "fixedSquares", fn := fun _ => fun
  | [d1, d2, d3] => { results := [.lit (.bool true)], args := [d1, d2, d3] }
  | _ => none }
def fixedSquaresRow : OpenClaim := { program := "ytkhfkcijobfnmaa", sum := "28aeb65fb94f3e91e84759ed9b73f4360cfad492bd2867919d20287a95730c64", func := "arenanet/arenanetlaw01.FixedSquares", spec := "fixedSquares", apart := false }
def FixedSquaresSaid : Prop := fixedSquaresRow.holds Try.pinned (OpenSpec.ofChange fixedSquaresSpec)

/-- ITS FALSE NEIGHBOUR: 'it returns false'. Refute it at one input. -/
def fixedSquaresWrong : ChangeSpec := { name := "fixedSquares", fn := fun _ => fun
  | [d1, d2, d3] => { results := [.lit (.bool false)], args := [d1, d2, d3] }
  | _ => none }
def FixedSquaresWrongFalsely : Prop := fixedSquaresRow.holds Try.pinned (OpenSpec.ofChange fixedSquaresWrong)

/-- 'arenanetlaw01.FixedProducts': WHATEVER THE INPUT: true; the input reads as it did. -/
def fixedProductsSpec : ChangeSpec := { name := "fixedProducts", fn := fun _ => fun
  | [d1, d2, d3] => { results := [.lit (.bool true)], args := [d1, d2, d3] }
  | _ => none }
def fixedProductsRow : OpenClaim := { program := "ytkhfkcijobfnmaa", sum := "28aeb65fb94f3e91e84759ed9b73f4360cfad492bd2867919d20287a95730c64", func := "arenanet/arenanetlaw01.FixedProducts", spec := "fixedProducts", apart := false }
def FixedProductsSaid : Prop := fixedProductsRow.holds Try.pinned (OpenSpec.ofChange fixedProductsSpec)

/-- ITS FALSE NEIGHBOUR: 'it returns false'. Refute it at one input. -/
def fixedProductsWrong : ChangeSpec := { name := "fixedProducts", fn := fun _ => fun
  | [d1, d2, d3] => { results := [.lit (.bool false)], args := [d1, d2, d3] }
  | _ => none }
def FixedProductsWrongFalsely : Prop := fixedProductsRow.holds Try.pinned (OpenSpec.ofChange fixedProductsWrong)

/-- 'arenanetlaw01.FixedRoots': WHATEVER THE INPUT: true; the input reads as it did. -/
def fixedRootsSpec : ChangeSpec := { name := "fixedRoots", fn := fun _ => fun
  | [d1, d2] => { results := [.lit (.bool true)], args := [d1, d2] }
  | _ => none }
def fixedRootsRow : OpenClaim := { program := "ytkhfkcijobfnmaa", sum := "28aeb65fb94f3e91e84759ed9b73f4360cfad492bd2867919d20287a95730c64", func := "arenanet/arenanetlaw01.FixedRoots", spec := "fixedRoots", apart := false }
def FixedRootsSaid : Prop := fixedRootsRow.holds Try.pinned (OpenSpec.ofChange fixedRootsSpec)

/-- ITS FALSE NEIGHBOUR: 'it returns false'. Refute it at one input. -/
def fixedRootsWrong : ChangeSpec := { name := "fixedRoots", fn := fun _ => fun
  | [d1, d2] => { results := [.lit (.bool false)], args := [d1, d2] }
  | _ => none }
def FixedRootsWrongFalsely : Prop := fixedRootsRow.holds Try.pinned (OpenSpec.ofChange fixedRootsWrong)

/-- 'arenanetlaw01.FixedRemainder': WHATEVER THE INPUT: true; the input reads as it did. -/
def fixedRemainderSpec : ChangeSpec := { name := "fixedRemainder", fn := fun _ => fun
  | [d1, d2, d3] => { results := [.lit (.bool true)], args := [d1, d2, d3] }
  | _ => none }
def fixedRemainderRow : OpenClaim := { program := "ytkhfkcijobfnmaa", sum := "28aeb65fb94f3e91e84759ed9b73f4360cfad492bd2867919d20287a95730c64", func := "arenanet/arenanetlaw01.FixedRemainder", spec := "fixedRemainder", apart := false }
def FixedRemainderSaid : Prop := fixedRemainderRow.holds Try.pinned (OpenSpec.ofChange fixedRemainderSpec)

/-- ITS FALSE NEIGHBOUR: 'it returns false'. Refute it at one input. -/
def fixedRemainderWrong : ChangeSpec := { name := "fixedRemainder", fn := fun _ => fun
  | [d1, d2, d3] => { results := [.lit (.bool false)], args := [d1, d2, d3] }
  | _ => none }
def FixedRemainderWrongFalsely : Prop := fixedRemainderRow.holds Try.pinned (OpenSpec.ofChange fixedRemainderWrong)

/-- 'arenanetlaw01.FixedClamps': WHATEVER THE INPUT: true; the input reads as it did. -/
def fixedClampsSpec : ChangeSpec := { name := "fixedClamps", fn := fun _ => fun
  | [d1, d2, d3] => { results := [.lit (.bool true)], args := [d1, d2, d3] }
  | _ => none }
def fixedClampsRow : OpenClaim := { program := "ytkhfkcijobfnmaa", sum := "28aeb65fb94f3e91e84759ed9b73f4360cfad492bd2867919d20287a95730c64", func := "arenanet/arenanetlaw01.FixedClamps", spec := "fixedClamps", apart := false }
def FixedClampsSaid : Prop := fixedClampsRow.holds Try.pinned (OpenSpec.ofChange fixedClampsSpec)

/-- ITS FALSE NEIGHBOUR: 'it returns false'. Refute it at one input. -/
def fixedClampsWrong : ChangeSpec := { name := "fixedClamps", fn := fun _ => fun
  | [d1, d2, d3] => { results := [.lit (.bool false)], args := [d1, d2, d3] }
  | _ => none }
def FixedClampsWrongFalsely : Prop := fixedClampsRow.holds Try.pinned (OpenSpec.ofChange fixedClampsWrong)

/- THE SECOND FORM. 'bulk': how many values and letters a reading holds, each counted each time it is reached (what is shared counts as often as it is met; a slice's spare places count too). A statement '..UptoSaid' is the law's where the arguments, and the package variables that the reading takes, are together of bulk at most 1048576: NARROWER than '..Said'. Prove '..Said' where nothing that the law and all that it calls make is longer than what came in: it says more and counts as full. Else prove '..UptoSaid'. A law counts once. -/
mutual
def uptoBulk {H : Type} : DataW H → Nat
  | .lit (.string bytes) => bytes.length + 1
  | .lit _ => 1
  | .nil => 1
  | .ptr d => uptoBulk d + 1
  | .slice elems spare => uptoBulkAll elems + uptoBulkAll spare + 1
  | .agg parts => uptoBulkAll parts + 1
  | .iface _ d => uptoBulk d + 1
  | .map entries => uptoBulkEntries entries + 1
  | .held _ => 1
def uptoBulkAll {H : Type} : List (DataW H) → Nat
  | [] => 0
  | d :: r => uptoBulk d + uptoBulkAll r
def uptoBulkEntries {H : Type} : List (Lit × DataW H) → Nat
  | [] => 0
  | x :: r => uptoBulkEntry x + uptoBulkEntries r
def uptoBulkEntry {H : Type} : Lit × DataW H → Nat
  | (.string bytes, d) => bytes.length + uptoBulk d + 1
  | (_, d) => uptoBulk d + 1
 end
def uptoSmall : (H : Type) → List (DataW H) → Bool := fun _ ds => decide (uptoBulkAll ds ≤ 1048576)
def OpenSpec.upto (s : _root_.Go.ChangeSpec) : _root_.Go.OpenSpec := { _root_.Go.OpenSpec.ofChange s with cond := some uptoSmall }

/-- 'arenanetlaw01.FixedMonotone', WHERE WHAT IT READS IS OF BULK AT MOST 1048576: true; the input reads as it did. -/
def fixedMonotoneUptoRow : OpenClaim := { program := "ytkhfkcijobfnmaa", sum := "28aeb65fb94f3e91e84759ed9b73f4360cfad492bd2867919d20287a95730c64", func := "arenanet/arenanetlaw01.FixedMonotone", spec := "fixedMonotone", apart := false, narrowed := true }
def FixedMonotoneUptoSaid : Prop := fixedMonotoneUptoRow.holds Try.pinned (OpenSpec.upto fixedMonotoneSpec)

/-- 'arenanetlaw01.FixedNegation', WHERE WHAT IT READS IS OF BULK AT MOST 1048576: true; the input reads as it did. -/
def fixedNegationUptoRow : OpenClaim := { program := "ytkhfkcijobfnmaa", sum := "28aeb65fb94f3e91e84759ed9b73f4360cfad492bd2867919d20287a95730c64", func := "arenanet/arenanetlaw01.FixedNegation", spec := "fixedNegation", apart := false, narrowed := true }
def FixedNegationUptoSaid : Prop := fixedNegationUptoRow.holds Try.pinned (OpenSpec.upto fixedNegationSpec)

/-- 'arenanetlaw01.FixedSquares', WHERE WHAT IT READS IS OF BULK AT MOST 1048576: true; the input reads as it did. -/
def fixedSquaresUptoRow : OpenClaim := { program := "ytkhfkcijobfnmaa", sum := "28aeb65fb94f3e91e84759ed9b73f4360cfad492bd2867919d20287a95730c64", func := "arenanet/arenanetlaw01.FixedSquares", spec := "fixedSquares", apart := false, narrowed := true }
def FixedSquaresUptoSaid : Prop := fixedSquaresUptoRow.holds Try.pinned (OpenSpec.upto fixedSquaresSpec)

/-- 'arenanetlaw01.FixedProducts', WHERE WHAT IT READS IS OF BULK AT MOST 1048576: true; the input reads as it did. -/
def fixedProductsUptoRow : OpenClaim := { program := "ytkhfkcijobfnmaa", sum := "28aeb65fb94f3e91e84759ed9b73f4360cfad492bd2867919d20287a95730c64", func := "arenanet/arenanetlaw01.FixedProducts", spec := "fixedProducts", apart := false, narrowed := true }
def FixedProductsUptoSaid : Prop := fixedProductsUptoRow.holds Try.pinned (OpenSpec.upto fixedProductsSpec)

/-- 'arenanetlaw01.FixedRoots', WHERE WHAT IT READS IS OF BULK AT MOST 1048576: true; the input reads as it did. -/
def fixedRootsUptoRow : OpenClaim := { program := "ytkhfkcijobfnmaa", sum := "28aeb65fb94f3e91e84759ed9b73f4360cfad492bd2867919d20287a95730c64", func := "arenanet/arenanetlaw01.FixedRoots", spec := "fixedRoots", apart := false, narrowed := true }
def FixedRootsUptoSaid : Prop := fixedRootsUptoRow.holds Try.pinned (OpenSpec.upto fixedRootsSpec)

/-- 'arenanetlaw01.FixedRemainder', WHERE WHAT IT READS IS OF BULK AT MOST 1048576: true; the input reads as it did. -/
def fixedRemainderUptoRow : OpenClaim := { program := "ytkhfkcijobfnmaa", sum := "28aeb65fb94f3e91e84759ed9b73f4360cfad492bd2867919d20287a95730c64", func := "arenanet/arenanetlaw01.FixedRemainder", spec := "fixedRemainder", apart := false, narrowed := true }
def FixedRemainderUptoSaid : Prop := fixedRemainderUptoRow.holds Try.pinned (OpenSpec.upto fixedRemainderSpec)

/-- 'arenanetlaw01.FixedClamps', WHERE WHAT IT READS IS OF BULK AT MOST 1048576: true; the input reads as it did. -/
def fixedClampsUptoRow : OpenClaim := { program := "ytkhfkcijobfnmaa", sum := "28aeb65fb94f3e91e84759ed9b73f4360cfad492bd2867919d20287a95730c64", func := "arenanet/arenanetlaw01.FixedClamps", spec := "fixedClamps", apart := false, narrowed := true }
def FixedClampsUptoSaid : Prop := fixedClampsUptoRow.holds Try.pinned (OpenSpec.upto fixedClampsSpec)

end Rows
end Go.Proofs.Ytkhfkcijobfnmaa
