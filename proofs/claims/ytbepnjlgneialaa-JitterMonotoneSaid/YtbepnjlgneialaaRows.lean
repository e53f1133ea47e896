/-
  No cell of these rows narrows 'for every input' (looked for: loops, veiled, ifaces, maps, wideKeys, modest, calm, conditions, laid).
  DERIVED. THE GIVEN ROWS OF THIS SEAT. 7 by the template 'for every input the law returns true; each argument reads behind the call as it read before'; 0 by the template 'total and deterministic' (their statements: YtbepnjlgneialaaTotals.lean).
  GIVEN WITH THE SEED: the statements are not yours to turn. If you find one false, say at which input.
  Laid BY PROGRAM, IN A SANDBOX (cutbox-rows.mjs): the forced cells as the released guide's own fill.sh prints them over the translation 4adbb8d7ce108728… (all of the seat's roots in one cut). By AI agents, Wed Nov 11 2026. No macro, syntax, notation, axiom, sorry.
-/
import Derived.Test.YtbepnjlgneialaaChecked
import GoSem.Claim
import GoSem.ClaimJoined
import GoSem.ClaimMapViews
import Derived.JoinedTies
import Derived.KernelRfl
namespace Go.Proofs.Ytbepnjlgneialaa
/- THE CELL 'sum', in the pinned program and in every row, IS THE sha256 OF THE DUMP (.gsa) THAT YtbepnjlgneialaaProg.lean LOADS. Nothing in Lean hashes anything: it is a label: what it is worth is what the hold of that sum in a sandbox is worth. -/
noncomputable def Try.pinned : Pinned := { name := "ytbepnjlgneialaa", sum := "4adbb8d7ce1087288f3093288b1d02f07cab0b70fb8ceaa7b53da16107895638", checked := Try.checked }
namespace Rows
def none {H : Type} : Left H := { results := [], args := [] }

/-- 'arenanetlaw23.JitterModel': WHATEVER THE INPUT: true; the input reads as it did. -/
def jitterModelSpec : ChangeSpec := { name := "jitterModel", fn := fun _ => fun
  | [d1, d2] => { results := [.lit (.bool true)], args := [d1, d2] }
  | _ => none }
def jitterModelRow : OpenClaim := { program := "ytbepnjlgneialaa", sum := "4adbb8d7ce1087288f3093288b1d02f07cab0b70fb8ceaa7b53da16107895638", func := "arenanet/arenanetlaw23.JitterModel", spec := "jitterModel", recurses := true, apart := false }
def JitterModelSaid : Prop := jitterModelRow.holds Try.pinned (OpenSpec.ofChange jitterModelSpec)

/-- ITS FALSE NEIGHBOUR: 'it returns false'. Refute it at one input. -/
def jitterModelWrong : ChangeSpec := { name := "jitterModel", fn := fun _ => fun
  | [d1, d2] => { results := [.lit (.bool false)], args := [d1, d2] }
  | _ => none }
def JitterModelWrongFalsely : Prop := jitterModelRow.holds Try.pinned (OpenSpec.ofChange jitterModelWrong)

/-- 'arenanetlaw23.JitterClamp': WHATEVER THE INPUT: true; the input reads as it did. -/
def jitterClampSpec : ChangeSpec := { name := "jitterClamp", fn := fun _ => fun
  | [d1, d2] => { results := [.lit (.bool true)], args := [d1, d2] }
  | _ => none }
def jitterClampRow : OpenClaim := { program := "ytbepnjlgneialaa", sum := "4adbb8d7ce1087288f3093288b1d02f07cab0b70fb8ceaa7b53da16107895638", func := "arenanet/arenanetlaw23.JitterClamp", spec := "jitterClamp", recurses := true, apart := false }
def JitterClampSaid : Prop := jitterClampRow.holds Try.pinned (OpenSpec.ofChange jitterClampSpec)

/-- ITS FALSE NEIGHBOUR: 'it returns false'. Refute it at one input. -/
def jitterClampWrong : ChangeSpec := { name := "jitterClamp", fn := fun _ => fun
  | [d1, d2] => { results := [.lit (.bool false)], args := [d1, d2] }
  | _ => none }
def JitterClampWrongFalsely : Prop := jitterClampRow.holds Try.pinned (OpenSpec.ofChange jitterClampWrong)

/-- 'arenanetlaw23.JitterSliding': WHATEVER THE INPUT: true; the input reads as it did. -/
def jitterSlidingSpec : ChangeSpec := { name := "jitterSliding", fn := fun _ => fun
  | [d1, d2, d3, d4] => { results := [.lit (.bool true)], args := [d1, d2, d3, d4] }
  | _ => none }
def jitterSlidingRow : OpenClaim := { program := "ytbepnjlgneialaa", sum := "4adbb8d7ce1087288f3093288b1d02f07cab0b70fb8ceaa7b53da16107895638", func := "arenanet/arenanetlaw23.JitterSliding", spec := "jitterSliding", recurses := true, apart := false }
def JitterSlidingSaid : Prop := jitterSlidingRow.holds Try.pinned (OpenSpec.ofChange jitterSlidingSpec)

/-- ITS FALSE NEIGHBOUR: 'it returns false'. Refute it at one input. -/
def jitterSlidingWrong : ChangeSpec := { name := "jitterSliding", fn := fun _ => fun
  | [d1, d2, d3, d4] => { results := [.lit (.bool false)], args := [d1, d2, d3, d4] }
  | _ => none }
def JitterSlidingWrongFalsely : Prop := jitterSlidingRow.holds Try.pinned (OpenSpec.ofChange jitterSlidingWrong)

/-- 'arenanetlaw23.JitterCoverage': WHATEVER THE INPUT: true; the input reads as it did. -/
def jitterCoverageSpec : ChangeSpec := { name := "jitterCoverage", fn := fun _ => fun
  | [d1, d2] => { results := [.lit (.bool true)], args := [d1, d2] }
  | _ => none }
def jitterCoverageRow : OpenClaim := { program := "ytbepnjlgneialaa", sum := "4adbb8d7ce1087288f3093288b1d02f07cab0b70fb8ceaa7b53da16107895638", func := "arenanet/arenanetlaw23.JitterCoverage", spec := "jitterCoverage", recurses := true, apart := false }
def JitterCoverageSaid : Prop := jitterCoverageRow.holds Try.pinned (OpenSpec.ofChange jitterCoverageSpec)

/-- ITS FALSE NEIGHBOUR: 'it returns false'. Refute it at one input. -/
def jitterCoverageWrong : ChangeSpec := { name := "jitterCoverage", fn := fun _ => fun
  | [d1, d2] => { results := [.lit (.bool false)], args := [d1, d2] }
  | _ => none }
def JitterCoverageWrongFalsely : Prop := jitterCoverageRow.holds Try.pinned (OpenSpec.ofChange jitterCoverageWrong)

/-- 'arenanetlaw23.JitterSpike': WHATEVER THE INPUT: true; the input reads as it did. -/
def jitterSpikeSpec : ChangeSpec := { name := "jitterSpike", fn := fun _ => fun
  | [d1, d2, d3, d4] => { results := [.lit (.bool true)], args := [d1, d2, d3, d4] }
  | _ => none }
def jitterSpikeRow : OpenClaim := { program := "ytbepnjlgneialaa", sum := "4adbb8d7ce1087288f3093288b1d02f07cab0b70fb8ceaa7b53da16107895638", func := "arenanet/arenanetlaw23.JitterSpike", spec := "jitterSpike", recurses := true, apart := false }
def JitterSpikeSaid : Prop := jitterSpikeRow.holds Try.pinned (OpenSpec.ofChange jitterSpikeSpec)

/-- ITS FALSE NEIGHBOUR: 'it returns false'. Refute it at one input. -/
def jitterSpikeWrong : ChangeSpec := { name := "jitterSpike", fn := fun _ => fun
  | [d1, d2, d3, d4] => { results := [.lit (.bool false)], args := [d1, d2, d3, d4] }
  | _ => none }
def JitterSpikeWrongFalsely : Prop := jitterSpikeRow.holds Try.pinned (OpenSpec.ofChange jitterSpikeWrong)

/-- 'arenanetlaw23.JitterMonotone': WHATEVER THE INPUT: true; the input reads as it did. -/
def jitterMonotoneSpec : ChangeSpec := { name := "jitterMonotone", fn := fun _ => fun
  | [d1, d2, d3, d4, d5] => { results := [.lit (.bool true)], args := [d1, d2, d3, d4, d5] }
  | _ => none }
def jitterMonotoneRow : OpenClaim := { program := "ytbepnjlgneialaa", sum := "4adbb8d7ce1087288f3093288b1d02f07cab0b70fb8ceaa7b53da16107895638", func := "arenanet/arenanetlaw23.JitterMonotone", spec := "jitterMonotone", recurses := true, apart := false }
def JitterMonotoneSaid : Prop := jitterMonotoneRow.holds Try.pinned (OpenSpec.ofChange jitterMonotoneSpec)

/-- ITS FALSE NEIGHBOUR: 'it returns false'. Refute it at one input. -/
def jitterMonotoneWrong : ChangeSpec := { name := "jitterMonotone", fn := fun _ => fun
  | [d1, d2, d3, d4, d5] => { results := [.lit (.bool false)], args := [d1, d2, d3, d4, d5] }
  | _ => none }
def JitterMonotoneWrongFalsely : Prop := jitterMonotoneRow.holds Try.pinned (OpenSpec.ofChange jitterMonotoneWrong)

/-- 'arenanetlaw23.JitterBounds': WHATEVER THE INPUT: true; the input reads as it did. -/
def jitterBoundsSpec : ChangeSpec := { name := "jitterBounds", fn := fun _ => fun
  | [d] => { results := [.lit (.bool true)], args := [d] }
  | _ => none }
def jitterBoundsRow : OpenClaim := { program := "ytbepnjlgneialaa", sum := "4adbb8d7ce1087288f3093288b1d02f07cab0b70fb8ceaa7b53da16107895638", func := "arenanet/arenanetlaw23.JitterBounds", spec := "jitterBounds", recurses := true, apart := false }
def JitterBoundsSaid : Prop := jitterBoundsRow.holds Try.pinned (OpenSpec.ofChange jitterBoundsSpec)

/-- ITS FALSE NEIGHBOUR: 'it returns false'. Refute it at one input. -/
def jitterBoundsWrong : ChangeSpec := { name := "jitterBounds", fn := fun _ => fun
  | [d] => { results := [.lit (.bool false)], args := [d] }
  | _ => none }
def JitterBoundsWrongFalsely : Prop := jitterBoundsRow.holds Try.pinned (OpenSpec.ofChange jitterBoundsWrong)

/- THE SECOND FORM. 'bulk': how many values and letters a reading holds, each counted each time it is reached (what is shared counts as often as it is met; a slice's spare places count too). A statement '..UptoSaid' is the law's where the arguments, and the package variables that the reading takes, are together of bulk at most 1048576: NARROWER than '..Said'. Prove '..Said' where nothing that the law and all that it calls make is longer than what came in: it says more and counts as full. Else prove '..UptoSaid'. A law counts once. -/
mutual
def uptoBulk {H : Type} : DataW H → Nat
  | .lit (.string bytes) => bytes.length + 1
  | .lit _ => 1
  | .nil => 1
  | .ptr d => uptoBulk d + 1
  | .slice elems spare => uptoBulkAll elems + uptoBulkAll spare + 1
  | .agg parts => uptoBulkAll parts + 1
  | .iface _ d => uptoBulk d + 1
  | .map entries => uptoBulkEntries entries + 1
  | .held _ => 1
def uptoBulkAll {H : Type} : List (DataW H) → Nat
  | [] => 0
  | d :: r => uptoBulk d + uptoBulkAll r
def uptoBulkEntries {H : Type} : List (Lit × DataW H) → Nat
  | [] => 0
  | x :: r => uptoBulkEntry x + uptoBulkEntries r
def uptoBulkEntry {H : Type} : Lit × DataW H → Nat
  | (.string bytes, d) => bytes.length + uptoBulk d + 1
  | (_, d) => uptoBulk d + 1
 end
def uptoSmall : (H : Type) → List (DataW H) → Bool := fun _ ds => decide (uptoBulkAll ds ≤ 1048576)
def OpenSpec.upto (s : _root_.Go.ChangeSpec) : _root_.Go.OpenSpec := { _root_.Go.OpenSpec.ofChange s with cond := some uptoSmall }

/-- 'arenanetlaw23.JitterModel', WHERE WHAT IT READS IS OF BULK AT MOST 1048576: true; the input reads as it did. -/
def jitterModelUptoRow : OpenClaim := { program := "ytbepnjlgneialaa", sum := "4adbb8d7ce1087288f3093288b1d02f07cab0b70fb8ceaa7b53da16107895638", func := "arenanet/arenanetlaw23.JitterModel", spec := "jitterModel", recurses := true, apart := false, narrowed := true }
def JitterModelUptoSaid : Prop := jitterModelUptoRow.holds Try.pinned (OpenSpec.upto jitterModelSpec)

/-- 'arenanetlaw23.JitterClamp', WHERE WHAT IT READS IS OF BULK AT MOST 1048576: true; the input reads as it did. -/
def jitterClampUptoRow : OpenClaim := { program := "ytbepnjlgneialaa", sum := "4adbb8d7ce1087288f3093288b1d02f07cab0b70fb8ceaa7b53da16107895638", func := "arenanet/arenanetlaw23.JitterClamp", spec := "jitterClamp", recurses := true, apart := false, narrowed := true }
def JitterClampUptoSaid : Prop := jitterClampUptoRow.holds Try.pinned (OpenSpec.upto jitterClampSpec)

/-- 'arenanetlaw23.JitterSliding', WHERE WHAT IT READS IS OF BULK AT MOST 1048576: true; the input reads as it did. -/
def jitterSlidingUptoRow : OpenClaim := { program := "ytbepnjlgneialaa", sum := "4adbb8d7ce1087288f3093288b1d02f07cab0b70fb8ceaa7b53da16107895638", func := "arenanet/arenanetlaw23.JitterSliding", spec := "jitterSliding", recurses := true, apart := false, narrowed := true }
def JitterSlidingUptoSaid : Prop := jitterSlidingUptoRow.holds Try.pinned (OpenSpec.upto jitterSlidingSpec)

/-- 'arenanetlaw23.JitterCoverage', WHERE WHAT IT READS IS OF BULK AT MOST 1048576: true; the input reads as it did. -/
def jitterCoverageUptoRow : OpenClaim := { program := "ytbepnjlgneialaa", sum := "4adbb8d7ce1087288f3093288b1d02f07cab0b70fb8ceaa7b53da16107895638", func := "arenanet/arenanetlaw23.JitterCoverage", spec := "jitterCoverage", recurses := true, apart := false, narrowed := true }
def JitterCoverageUptoSaid : Prop := jitterCoverageUptoRow.holds Try.pinned (OpenSpec.upto jitterCoverageSpec)

/-- 'arenanetlaw23.JitterSpike', WHERE WHAT IT READS IS OF BULK AT MOST 1048576: true; the input reads as it did. -/
def jitterSpikeUptoRow : OpenClaim := { program := "ytbepnjlgneialaa", sum := "4adbb8d7ce1087288f3093288b1d02f07cab0b70fb8ceaa7b53da16107895638", func := "arenanet/arenanetlaw23.JitterSpike", spec := "jitterSpike", recurses := true, apart := false, narrowed := true }
def JitterSpikeUptoSaid : Prop := jitterSpikeUptoRow.holds Try.pinned (OpenSpec.upto jitterSpikeSpec)

/-- 'arenanetlaw23.JitterMonotone', WHERE WHAT IT READS IS OF BULK AT MOST 1048576: true; the input reads as it did. -/
def jitterMonotoneUptoRow : OpenClaim := { program := "ytbepnjlgneialaa", sum := "4adbb8d7ce1087288f3093288b1d02f07cab0b70fb8ceaa7b53da16107895638", func := "arenanet/arenanetlaw23.JitterMonotone", spec := "jitterMonotone", recurses := true, apart := false, narrowed := true }
def JitterMonotoneUptoSaid : Prop := jitterMonotoneUptoRow.holds Try.pinned (OpenSpec.upto jitterMonotoneSpec)

/-- 'arenanetlaw23.JitterBounds', WHERE WHAT IT READS IS OF BULK AT MOST 1048576: true; the input reads as it did. -/
def jitterBoundsUptoRow : OpenClaim := { program := "ytbepnjlgneialaa", sum := "4adbb8d7ce1087288f3093288b1d02f07cab0b70fb8ceaa7b53da16107895638", func := "arenanet/arenanetlaw23.JitterBounds", spec := "jitterBounds", recurses := true, apart := false, narrowed := true }
def JitterBoundsUptoSaid : Prop := jitterBoundsUptoRow.holds Try.pinned (OpenSpec.upto jitterBoundsSpec)

end Rows
end Go.Proofs.Ytbepnjlgneialaa
