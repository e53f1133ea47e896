/- What is shown: slices. Conditions: as each theorem states. -/
import Derived.ChangeOld
import Derived.OpenShut
import Derived.ProofKit
import Derived.ShutString
import Derived.Test.YtohpdonnpbjfdaaGreatDoorY1
set_option maxHeartbeats 40000000
set_option maxRecDepth 100000
set_option linter.unusedVariables false
set_option linter.unusedSimpArgs false
namespace Go.Proofs.YtohpdonnpbjfdaaGreatDoor
namespace Fr
open Go Go.ChangeShapes Go.WideShapes Go.ChangeAt Go.RowKit
def tK (k:IntKind) (w:World) (a:Option Addr) (len cap:Nat) (zs:List Int):Prop:=
 (a=none∧len=0∧cap=0∧zs=[])∨
 ∃x,a=some x∧len≤cap∧cap≤maxLen∧zs.length=cap∧(∀i,i<zs.length→w.cell? (x.add i)=some (.int k (zs.getD i 0)))∧∀n∈zs,(Lit.int k n).wf=true
section
variable {P:Program} {w:World} {H:Type} {enc:TypeId×Value→H} {base:Nat} {spare:Nat→Bool} {held:Bool}
end
end Fr
end Go.Proofs.YtohpdonnpbjfdaaGreatDoor
