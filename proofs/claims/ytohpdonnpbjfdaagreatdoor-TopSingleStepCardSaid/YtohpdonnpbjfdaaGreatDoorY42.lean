/- What is shown: package vm. Conditions: as each theorem states. -/
import Derived.Test.YtohpdonnpbjfdaaGreatDoorY41
set_option maxHeartbeats 40000000
set_option maxRecDepth 100000
set_option linter.unusedVariables false
set_option linter.unusedSimpArgs false
open Go.Proofs.Tryz
namespace Go.Proofs.YtohpdonnpbjfdaaGreatDoor
namespace Vm
open Go.RowKit aN fO Qt Ro Bk Ce La Ha In
attribute [local go_sem] Oper.semAt_some
variable {w:World} {M C m:Nat} {L:Option Nat} {c c2:List Int}
theorem QJ (hm:aD w ⟨M,C,L,m⟩ c) (hr:m<999998000) (S:Stp) (ab:Option Addr) (nb cap:Nat) (rm dr:Value) (bc nI bY:Nat) (Ml:nI≤1000000) (e0 e1 e2:Int) (hg:Kb w ⟨M,C,L,m⟩ 0 jH) (pc k:Nat) (n:Int)
  (o9:w.cell? ⟨bc,pc*2,none⟩=some (ag k)) (pK:w.cell? ⟨bc,pc*2+1,none⟩=some (ag n)) (hpc:pc<nI) (XR:cg c 6=pc) (hf:1≤cg c 8) (ku:cg c 8≤1000000) (hx:Jv k n (cg c 7)=true) (hpk:iG.getD (k*3) 0=1) (huk:iG.getD (k*3+1) 0=0) (hk:k≤21) (XT:1≤cg c 7) (XU:cg c 7≤16)
  (v x y z r:Int) (q:Bool)
  (hE:∀(V:World) (Lx:Option Nat) (mx:Nat),aD V ⟨M,C,Lx,mx⟩ (cs (cs (cs c 8 (cg c 8-1)) 6 (pc+1)) 7 (cg c 7-1))→mx<999999000→Calls prog 133 #[ag k,iW M,dR S (.slice ab nb cap) rm dr,yN n (cg c (16+cg c 7-1)) (0)] V fun e w'=>e=.returned (.tuple #[ag v,jB x y z r,.bool q])∧∃L' m',aD w' ⟨M,C,L',m'⟩ c2∧Alt [] V ⟨M,C,Lx,mx⟩ w' ⟨M,C,L',m'⟩ 2):
  Calls prog 109 #[iW M,dR S (.slice ab nb cap) rm dr,qQ (aZ bc nI bY) e0 e1 e2] w fun e w'=>e=.returned (.tuple #[.bool ((k:Int)==21),jB x y z r,.bool q])∧∃L' m',aD w' ⟨M,C,L',m'⟩ (c2)∧Alt [] w ⟨M,C,L,m⟩ w' ⟨M,C,L',m'⟩ 8:=by have bP:=trivial;exact mG
theorem QI (hm:aD w ⟨M,C,L,m⟩ c) (hr:m<999998000) (S:Stp) (ab:Option Addr) (nb cap:Nat) (rm dr:Value) (bc nI bY:Nat) (Ml:nI≤1000000) (e0 e1 e2:Int) (hg:Kb w ⟨M,C,L,m⟩ 0 jH) (pc k:Nat) (n:Int)
  (o9:w.cell? ⟨bc,pc*2,none⟩=some (ag k)) (pK:w.cell? ⟨bc,pc*2+1,none⟩=some (ag n)) (hpc:pc<nI) (XR:cg c 6=pc) (hf:1≤cg c 8) (ku:cg c 8≤1000000) (hx:Jv k n (cg c 7)=true) (hpk:iG.getD (k*3) 0=0) (huk:iG.getD (k*3+1) 0=1) (hk:k≤21) (XT:0≤cg c 7) (XU:cg c 7≤16)
  (v x y z r:Int) (q:Bool)
  (hE:∀(V:World) (Lx:Option Nat) (mx:Nat),aD V ⟨M,C,Lx,mx⟩ (cs (cs (cs c 8 (cg c 8-1)) 6 (pc+1)) 7 (cg c 7+1))→mx<999999000→Calls prog 133 #[ag k,iW M,dR S (.slice ab nb cap) rm dr,yN n (0) (0)] V fun e w'=>e=.returned (.tuple #[ag v,jB x y z r,.bool q])∧∃L' m',aD w' ⟨M,C,L',m'⟩ c2∧Alt [] V ⟨M,C,Lx,mx⟩ w' ⟨M,C,L',m'⟩ 2):
  Calls prog 109 #[iW M,dR S (.slice ab nb cap) rm dr,qQ (aZ bc nI bY) e0 e1 e2] w fun e w'=>e=.returned (.tuple #[.bool ((k:Int)==21),jB x y z r,.bool q])∧∃L' m',aD w' ⟨M,C,L',m'⟩ (cs c2 (16+cg c 7) v)∧Alt [] w ⟨M,C,L,m⟩ w' ⟨M,C,L',m'⟩ 8:=by have gu:=trivial;exact mG
theorem QH (hm:aD w ⟨M,C,L,m⟩ c) (hr:m<999998000) (S:Stp) (ab:Option Addr) (nb cap:Nat) (rm dr:Value) (bc nI bY:Nat) (Ml:nI≤1000000) (e0 e1 e2:Int) (hg:Kb w ⟨M,C,L,m⟩ 0 jH) (pc k:Nat) (n:Int)
  (o9:w.cell? ⟨bc,pc*2,none⟩=some (ag k)) (pK:w.cell? ⟨bc,pc*2+1,none⟩=some (ag n)) (hpc:pc<nI) (XR:cg c 6=pc) (hf:1≤cg c 8) (ku:cg c 8≤1000000) (hx:Jv k n (cg c 7)=true) (hpk:iG.getD (k*3) 0=0) (huk:iG.getD (k*3+1) 0=0) (hk:k≤21) (XT:0≤cg c 7) (XU:cg c 7≤16)
  (v x y z r:Int) (q:Bool)
  (hE:∀(V:World) (Lx:Option Nat) (mx:Nat),aD V ⟨M,C,Lx,mx⟩ (cs (cs c 8 (cg c 8-1)) 6 (pc+1))→mx<999999000→Calls prog 133 #[ag k,iW M,dR S (.slice ab nb cap) rm dr,yN n (0) (0)] V fun e w'=>e=.returned (.tuple #[ag v,jB x y z r,.bool q])∧∃L' m',aD w' ⟨M,C,L',m'⟩ c2∧Alt [] V ⟨M,C,Lx,mx⟩ w' ⟨M,C,L',m'⟩ 2):
  Calls prog 109 #[iW M,dR S (.slice ab nb cap) rm dr,qQ (aZ bc nI bY) e0 e1 e2] w fun e w'=>e=.returned (.tuple #[.bool ((k:Int)==21),jB x y z r,.bool q])∧∃L' m',aD w' ⟨M,C,L',m'⟩ (c2)∧Alt [] w ⟨M,C,L,m⟩ w' ⟨M,C,L',m'⟩ 8:=by have nL:=trivial;exact mG
end Vm
end Go.Proofs.YtohpdonnpbjfdaaGreatDoor
