/-
  No cell of these rows narrows 'for every input' (looked for: loops, veiled, ifaces, maps, wideKeys, modest, calm, conditions, laid).
  DERIVED. THE GIVEN ROWS OF THIS SEAT. 7 by the template 'for every input the law returns true; each argument reads behind the call as it read before'; 0 by the template 'total and deterministic' (their statements: YtiihnicmkenemaaTotals.lean).
  GIVEN WITH THE SEED: the statements are not yours to turn. If you find one false, say at which input.
  Laid BY PROGRAM, IN A SANDBOX (cutbox-rows.mjs): the forced cells as the released guide's own fill.sh prints them over the translation 78f39d1d5e9048a6… (all of the seat's roots in one cut). By AI agents, Wed Nov 11 2026. No macro, syntax, notation, axiom, sorry.
-/
import Derived.Test.YtiihnicmkenemaaChecked
import GoSem.Claim
import GoSem.ClaimJoined
import GoSem.ClaimMapViews
import Derived.JoinedTies
import Derived.KernelRfl
namespace Go.Proofs.Ytiihnicmkenemaa
/- THE CELL 'sum', in the pinned program and in every row, IS THE sha256 OF THE DUMP (.gsa) THAT YtiihnicmkenemaaProg.lean LOADS. Nothing in Lean hashes anything: it is a label: what it is worth is what the hold of that sum in a sandbox is worth. -/
noncomputable def Try.pinned : Pinned := { name := "ytiihnicmkenemaa", sum := "78f39d1d5e9048a67c535ee9cc77c42eb9039dae999d5bea9b01fafe0749ec6d", checked := Try.checked }
namespace Rows
def none {H : Type} : Left H := { results := [], args := [] }

/-- 'arenanetlaw03.ShapeBounds': WHATEVER THE INPUT: true; the input reads as it did. -/
def shapeBoundsSpec : ChangeSpec := { name := "shapeBounds", fn := fun _ => fun
  | [d1, d2, d3, d4, d5] => { results := [.lit (.bool true)], args := [d1, d2, d3, d4, d5] }
  | _ => none }
def shapeBoundsRow : OpenClaim := { program := "ytiihnicmkenemaa", sum := "78f39d1d5e9048a67c535ee9cc77c42eb9039dae999d5bea9b01fafe0749ec6d", func := "arenanet/arenanetlaw03.ShapeBounds", spec := "shapeBounds", unfollowed := true, recurses := true, apart := false }
def ShapeBoundsSaid : Prop := shapeBoundsRow.holds Try.pinned (OpenSpec.ofChange shapeBoundsSpec)

/-- ITS FALSE NEIGHBOUR: 'it returns false'. Refute it at one input. -/
def shapeBoundsWrong : ChangeSpec := { name := "shapeBounds", fn := fun _ => fun
  | [d1, d2, d3, d4, d5] => { results := [.lit (.bool false)], args := [d1, d2, d3, d4, d5] }
  | _ => none }
def ShapeBoundsWrongFalsely : Prop := shapeBoundsRow.holds Try.pinned (OpenSpec.ofChange shapeBoundsWrong)

/-- 'arenanetlaw03.ShapeConvex': WHATEVER THE INPUT: true; the input reads as it did. -/
def shapeConvexSpec : ChangeSpec := { name := "shapeConvex", fn := fun _ => fun
  | [d1, d2, d3, d4, d5] => { results := [.lit (.bool true)], args := [d1, d2, d3, d4, d5] }
  | _ => none }
def shapeConvexRow : OpenClaim := { program := "ytiihnicmkenemaa", sum := "78f39d1d5e9048a67c535ee9cc77c42eb9039dae999d5bea9b01fafe0749ec6d", func := "arenanet/arenanetlaw03.ShapeConvex", spec := "shapeConvex", unfollowed := true, recurses := true, apart := false }
def ShapeConvexSaid : Prop := shapeConvexRow.holds Try.pinned (OpenSpec.ofChange shapeConvexSpec)

/-- ITS FALSE NEIGHBOUR: 'it returns false'. Refute it at one input. -/
def shapeConvexWrong : ChangeSpec := { name := "shapeConvex", fn := fun _ => fun
  | [d1, d2, d3, d4, d5] => { results := [.lit (.bool false)], args := [d1, d2, d3, d4, d5] }
  | _ => none }
def ShapeConvexWrongFalsely : Prop := shapeConvexRow.holds Try.pinned (OpenSpec.ofChange shapeConvexWrong)

/-- 'arenanetlaw03.ShapeStar': WHATEVER THE INPUT: true; the input reads as it did. -/
def shapeStarSpec : ChangeSpec := { name := "shapeStar", fn := fun _ => fun
  | [d] => { results := [.lit (.bool true)], args := [d] }
  | _ => none }
def shapeStarRow : OpenClaim := { program := "ytiihnicmkenemaa", sum := "78f39d1d5e9048a67c535ee9cc77c42eb9039dae999d5bea9b01fafe0749ec6d", func := "arenanet/arenanetlaw03.ShapeStar", spec := "shapeStar", unfollowed := true, recurses := true, apart := false }
def ShapeStarSaid : Prop := shapeStarRow.holds Try.pinned (OpenSpec.ofChange shapeStarSpec)

/-- ITS FALSE NEIGHBOUR: 'it returns false'. Refute it at one input. -/
def shapeStarWrong : ChangeSpec := { name := "shapeStar", fn := fun _ => fun
  | [d] => { results := [.lit (.bool false)], args := [d] }
  | _ => none }
def ShapeStarWrongFalsely : Prop := shapeStarRow.holds Try.pinned (OpenSpec.ofChange shapeStarWrong)

/-- 'arenanetlaw03.ShapeQueries': WHATEVER THE INPUT: true; the input reads as it did. -/
def shapeQueriesSpec : ChangeSpec := { name := "shapeQueries", fn := fun _ => fun
  | [d1, d2, d3, d4, d5, d6, d7] => { results := [.lit (.bool true)], args := [d1, d2, d3, d4, d5, d6, d7] }
  | _ => none }
def shapeQueriesRow : OpenClaim := { program := "ytiihnicmkenemaa", sum := "78f39d1d5e9048a67c535ee9cc77c42eb9039dae999d5bea9b01fafe0749ec6d", func := "arenanet/arenanetlaw03.ShapeQueries", spec := "shapeQueries", unfollowed := true, recurses := true, apart := false }
def ShapeQueriesSaid : Prop := shapeQueriesRow.holds Try.pinned (OpenSpec.ofChange shapeQueriesSpec)

/-- ITS FALSE NEIGHBOUR: 'it returns false'. Refute it at one input. -/
def shapeQueriesWrong : ChangeSpec := { name := "shapeQueries", fn := fun _ => fun
  | [d1, d2, d3, d4, d5, d6, d7] => { results := [.lit (.bool false)], args := [d1, d2, d3, d4, d5, d6, d7] }
  | _ => none }
def ShapeQueriesWrongFalsely : Prop := shapeQueriesRow.holds Try.pinned (OpenSpec.ofChange shapeQueriesWrong)

/-- 'arenanetlaw03.ShapeProjection': WHATEVER THE INPUT: true; the input reads as it did. -/
def shapeProjectionSpec : ChangeSpec := { name := "shapeProjection", fn := fun _ => fun
  | [d1, d2, d3, d4, d5, d6, d7] => { results := [.lit (.bool true)], args := [d1, d2, d3, d4, d5, d6, d7] }
  | _ => none }
def shapeProjectionRow : OpenClaim := { program := "ytiihnicmkenemaa", sum := "78f39d1d5e9048a67c535ee9cc77c42eb9039dae999d5bea9b01fafe0749ec6d", func := "arenanet/arenanetlaw03.ShapeProjection", spec := "shapeProjection", unfollowed := true, recurses := true, apart := false }
def ShapeProjectionSaid : Prop := shapeProjectionRow.holds Try.pinned (OpenSpec.ofChange shapeProjectionSpec)

/-- ITS FALSE NEIGHBOUR: 'it returns false'. Refute it at one input. -/
def shapeProjectionWrong : ChangeSpec := { name := "shapeProjection", fn := fun _ => fun
  | [d1, d2, d3, d4, d5, d6, d7] => { results := [.lit (.bool false)], args := [d1, d2, d3, d4, d5, d6, d7] }
  | _ => none }
def ShapeProjectionWrongFalsely : Prop := shapeProjectionRow.holds Try.pinned (OpenSpec.ofChange shapeProjectionWrong)

/-- 'arenanetlaw03.ShapeTranslation': WHATEVER THE INPUT: true; the input reads as it did. -/
def shapeTranslationSpec : ChangeSpec := { name := "shapeTranslation", fn := fun _ => fun
  | [d1, d2, d3, d4, d5, d6, d7] => { results := [.lit (.bool true)], args := [d1, d2, d3, d4, d5, d6, d7] }
  | _ => none }
def shapeTranslationRow : OpenClaim := { program := "ytiihnicmkenemaa", sum := "78f39d1d5e9048a67c535ee9cc77c42eb9039dae999d5bea9b01fafe0749ec6d", func := "arenanet/arenanetlaw03.ShapeTranslation", spec := "shapeTranslation", unfollowed := true, recurses := true, apart := false }
def ShapeTranslationSaid : Prop := shapeTranslationRow.holds Try.pinned (OpenSpec.ofChange shapeTranslationSpec)

/-- ITS FALSE NEIGHBOUR: 'it returns false'. Refute it at one input. -/
def shapeTranslationWrong : ChangeSpec := { name := "shapeTranslation", fn := fun _ => fun
  | [d1, d2, d3, d4, d5, d6, d7] => { results := [.lit (.bool false)], args := [d1, d2, d3, d4, d5, d6, d7] }
  | _ => none }
def ShapeTranslationWrongFalsely : Prop := shapeTranslationRow.holds Try.pinned (OpenSpec.ofChange shapeTranslationWrong)

/-- 'arenanetlaw03.ShapeFirstVertex': WHATEVER THE INPUT: true; the input reads as it did. -/
def shapeFirstVertexSpec : ChangeSpec := { name := "shapeFirstVertex", fn := fun _ => fun
  | [d1, d2, d3, d4, d5, d6] => { results := [.lit (.bool true)], args := [d1, d2, d3, d4, d5, d6] }
  | _ => none }
def shapeFirstVertexRow : OpenClaim := { program := "ytiihnicmkenemaa", sum := "78f39d1d5e9048a67c535ee9cc77c42eb9039dae999d5bea9b01fafe0749ec6d", func := "arenanet/arenanetlaw03.ShapeFirstVertex", spec := "shapeFirstVertex", unfollowed := true, recurses := true, apart := false }
def ShapeFirstVertexSaid : Prop := shapeFirstVertexRow.holds Try.pinned (OpenSpec.ofChange shapeFirstVertexSpec)

/-- ITS FALSE NEIGHBOUR: 'it returns false'. Refute it at one input. -/
def shapeFirstVertexWrong : ChangeSpec := { name := "shapeFirstVertex", fn := fun _ => fun
  | [d1, d2, d3, d4, d5, d6] => { results := [.lit (.bool false)], args := [d1, d2, d3, d4, d5, d6] }
  | _ => none }
def ShapeFirstVertexWrongFalsely : Prop := shapeFirstVertexRow.holds Try.pinned (OpenSpec.ofChange shapeFirstVertexWrong)

/- THE SECOND FORM. 'bulk': how many values and letters a reading holds, each counted each time it is reached (what is shared counts as often as it is met; a slice's spare places count too). A statement '..UptoSaid' is the law's where the arguments, and the package variables that the reading takes, are together of bulk at most 1048576: NARROWER than '..Said'. Prove '..Said' where nothing that the law and all that it calls make is longer than what came in: it says more and counts as full. Else prove '..UptoSaid'. A law counts once. -/
mutual
def uptoBulk {H : Type} : DataW H → Nat
  | .lit (.string bytes) => bytes.length + 1
  | .lit _ => 1
  | .nil => 1
  | .ptr d => uptoBulk d + 1
  | .slice elems spare => uptoBulkAll elems + uptoBulkAll spare + 1
  | .agg parts => uptoBulkAll parts + 1
  | .iface _ d => uptoBulk d + 1
  | .map entries => uptoBulkEntries entries + 1
  | .held _ => 1
def uptoBulkAll {H : Type} : List (DataW H) → Nat
  | [] => 0
  | d :: r => uptoBulk d + uptoBulkAll r
def uptoBulkEntries {H : Type} : List (Lit × DataW H) → Nat
  | [] => 0
  | x :: r => uptoBulkEntry x + uptoBulkEntries r
def uptoBulkEntry {H : Type} : Lit × DataW H → Nat
  | (.string bytes, d) => bytes.length + uptoBulk d + 1
  | (_, d) => uptoBulk d + 1
 end
def uptoSmall : (H : Type) → List (DataW H) → Bool := fun _ ds => decide (uptoBulkAll ds ≤ 1048576)
def OpenSpec.upto (s : _root_.Go.ChangeSpec) : _root_.Go.OpenSpec := { _root_.Go.OpenSpec.ofChange s with cond := some uptoSmall }

/-- 'arenanetlaw03.ShapeBounds', WHERE WHAT IT READS IS OF BULK AT MOST 1048576: true; the input reads as it did. -/
def shapeBoundsUptoRow : OpenClaim := { program := "ytiihnicmkenemaa", sum := "78f39d1d5e9048a67c535ee9cc77c42eb9039dae999d5bea9b01fafe0749ec6d", func := "arenanet/arenanetlaw03.ShapeBounds", spec := "shapeBounds", unfollowed := true, recurses := true, apart := false, narrowed := true }
def ShapeBoundsUptoSaid : Prop := shapeBoundsUptoRow.holds Try.pinned (OpenSpec.upto shapeBoundsSpec)

/-- 'arenanetlaw03.ShapeConvex', WHERE WHAT IT READS IS OF BULK AT MOST 1048576: true; the input reads as it did. -/
def shapeConvexUptoRow : OpenClaim := { program := "ytiihnicmkenemaa", sum := "78f39d1d5e9048a67c535ee9cc77c42eb9039dae999d5bea9b01fafe0749ec6d", func := "arenanet/arenanetlaw03.ShapeConvex", spec := "shapeConvex", unfollowed := true, recurses := true, apart := false, narrowed := true }
def ShapeConvexUptoSaid : Prop := shapeConvexUptoRow.holds Try.pinned (OpenSpec.upto shapeConvexSpec)

/-- 'arenanetlaw03.ShapeStar', WHERE WHAT IT READS IS OF BULK AT MOST 1048576: true; the input reads as it did. -/
def shapeStarUptoRow : OpenClaim := { program := "ytiihnicmkenemaa", sum := "78f39d1d5e9048a67c535ee9cc77c42eb9039dae999d5bea9b01fafe0749ec6d", func := "arenanet/arenanetlaw03.ShapeStar", spec := "shapeStar", unfollowed := true, recurses := true, apart := false, narrowed := true }
def ShapeStarUptoSaid : Prop := shapeStarUptoRow.holds Try.pinned (OpenSpec.upto shapeStarSpec)

/-- 'arenanetlaw03.ShapeQueries', WHERE WHAT IT READS IS OF BULK AT MOST 1048576: true; the input reads as it did. -/
def shapeQueriesUptoRow : OpenClaim := { program := "ytiihnicmkenemaa", sum := "78f39d1d5e9048a67c535ee9cc77c42eb9039dae999d5bea9b01fafe0749ec6d", func := "arenanet/arenanetlaw03.ShapeQueries", spec := "shapeQueries", unfollowed := true, recurses := true, apart := false, narrowed := true }
def ShapeQueriesUptoSaid : Prop := shapeQueriesUptoRow.holds Try.pinned (OpenSpec.upto shapeQueriesSpec)

/-- 'arenanetlaw03.ShapeProjection', WHERE WHAT IT READS IS OF BULK AT MOST 1048576: true; the input reads as it did. -/
def shapeProjectionUptoRow : OpenClaim := { program := "ytiihnicmkenemaa", sum := "78f39d1d5e9048a67c535ee9cc77c42eb9039dae999d5bea9b01fafe0749ec6d", func := "arenanet/arenanetlaw03.ShapeProjection", spec := "shapeProjection", unfollowed := true, recurses := true, apart := false, narrowed := true }
def ShapeProjectionUptoSaid : Prop := shapeProjectionUptoRow.holds Try.pinned (OpenSpec.upto shapeProjectionSpec)

/-- 'arenanetlaw03.ShapeTranslation', WHERE WHAT IT READS IS OF BULK AT MOST 1048576: true; the input reads as it did. -/
def shapeTranslationUptoRow : OpenClaim := { program := "ytiihnicmkenemaa", sum := "78f39d1d5e9048a67c535ee9cc77c42eb9039dae999d5bea9b01fafe0749ec6d", func := "arenanet/arenanetlaw03.ShapeTranslation", spec := "shapeTranslation", unfollowed := true, recurses := true, apart := false, narrowed := true }
def ShapeTranslationUptoSaid : Prop := shapeTranslationUptoRow.holds Try.pinned (OpenSpec.upto shapeTranslationSpec)

/-- 'arenanetlaw03.ShapeFirstVertex', WHERE WHAT IT READS IS OF BULK AT MOST 1048576: true; the input reads as it did. -/
def shapeFirstVertexUptoRow : OpenClaim := { program := "ytiihnicmkenemaa", sum := "78f39d1d5e9048a67c535ee9cc77c42eb9039dae999d5bea9b01fafe0749ec6d", func := "arenanet/arenanetlaw03.ShapeFirstVertex", spec := "shapeFirstVertex", unfollowed := true, recurses := true, apart := false, narrowed := true }
def ShapeFirstVertexUptoSaid : Prop := shapeFirstVertexUptoRow.holds Try.pinned (OpenSpec.upto shapeFirstVertexSpec)

end Rows
end Go.Proofs.Ytiihnicmkenemaa
