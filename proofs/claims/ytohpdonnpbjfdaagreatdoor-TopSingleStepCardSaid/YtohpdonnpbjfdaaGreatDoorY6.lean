/- What is shown: maps. Conditions: as each theorem states. -/
import Derived.Laws.NewBlocks
import Derived.Test.YtohpdonnpbjfdaaGreatDoorY2
set_option maxHeartbeats 40000000
set_option maxRecDepth 100000
set_option linter.unusedVariables false
set_option linter.unusedSimpArgs false
namespace Go.Proofs.YtohpdonnpbjfdaaGreatDoor
namespace Mp
open Go Go.RowKit
variable {P:Program} {kt t et:TypeId} {w:World} {r zl:Nat} {es:Array MapEntry}
theorem X_ {α:Type} (a:Array α) (x y:α):(a.push x).setIfInBounds a.size y=a.push y:=by apply Array.toList_inj.1;simp
theorem Vh (w:World) (o o':Obj):({w.alloc o with heap:=(w.alloc o).heap.setIfInBounds w.heap.size o'}:World)=w.alloc o':=by show({w with heap:=(w.heap.push o).setIfInBounds w.heap.size o'}:World)={w with heap:=w.heap.push o'};rw[X_]
theorem uQ (t:TypeId) (w:World):Sem.run P (Instr.makeMap t none) w=.ok (.map (some w.heap.size)) (w.alloc (.map #[] 0)):=by simp[Instr.makeMap,newObj,Sem.run,go_sem]
def plain:TypeDesc→Bool
 |.int _|.string=>true
 |_=>false
theorem yF {d:TypeDesc} (hk:P.underlying kt=some d) (hd:plain d=true) (b:Bool) (k:Value) (w:World):Sem.run P (Instr.checkKey b 10000 kt k) w=.ok () w:=by unfold Instr.checkKey;rw[Sem.run_bind,run_underlying hk];cases d<;>simp[plain]at hd<;>simp[Result.andThen]
theorem uS (hh:w.heap[r]?=some (.map es zl)):Sem.run P (getObj r) w=.ok (.map es zl) w:=by unfold getObj;simp only[Sem.run,hh]
theorem QT (w:World) (es es':Array MapEntry) (zl ajg:Nat):Sem.run P (setObj w.heap.size (.map es' ajg)) (w.alloc (.map es zl))=.ok () (w.alloc (.map es' ajg)):=by have hh:(w.alloc (.map es zl)).heap[w.heap.size]?=some (.map es zl):=heap_alloc_new w _;unfold setObj;simp only[Sem.run,hh];rw[Vh]
theorem qZ {d:TypeDesc} (hu:P.underlying t=some (.map kt et)) (hk:P.underlying kt=some d) (hd:plain d=true) (w:World) (es:Array MapEntry) (zl:Nat) (k v:Value)
  (hf:Instr.findNow d k es.toList 0=some none):
  Sem.run P (Instr.mapUpdate t (.map (some w.heap.size)) k v) (w.alloc (.map es zl))=.ok () (w.alloc (.map (es.push ⟨k,v,zl⟩) (zl+1))):=by have hh:(w.alloc (.map es zl)).heap[w.heap.size]?=some (.map es zl):=heap_alloc_new w _;simp[Instr.mapUpdate,go_sem,run_underlying hu,hh,yF hk hd,Instr.findKey,run_underlying hk,hf,uS hh,QT,pure,Sem.run]
theorem tZ {d:TypeDesc} (hu:P.underlying t=some (.map kt et)) (hk:P.underlying kt=some d) (hd:plain d=true) {i:Nat} {k v:Value}
  (hh:w.heap[r]?=some (.map es zl)) (hf:Instr.findNow d k es.toList 0=some (some (i,v))) (c:Bool):
  Sem.run P (Instr.lookup t (.map (some r)) k c) w=.ok (if c then .tuple #[v,.bool true]else v) w:=by simp[Instr.lookup,go_sem,run_underlying hu,hh,yF hk hd,Instr.findKey,run_underlying hk,hf,uS hh,pure,Sem.run]
variable {t kt et:TypeId} {w W0:World} {zl:Nat} {k0 v0:Value}
theorem nu {α:Type}:(∀(l:List α) (a:α),l.toArray.push a=(l++[a]).toArray)∧(∀(a:α) (l s:List α),a::l++s=a::(l++s))∧∀l:List α,[]++l=l:=⟨fun _ _=>List.push_toArray _ _,fun _ _ _=>rfl,fun _=>rfl⟩
theorem bJ {d:TypeDesc} (m:Sem.run P (Instr.mapUpdate t (.map (some w.heap.size)) k0 v0) W0=.ok () (w.alloc (.map es zl))) (hu:P.underlying t=some (.map kt et)) (hk:P.underlying kt=some d) (hd:plain d=true) (k v:Value)
  (hf:Instr.findNow d k es.toList 0=some none):Sem.run P (Instr.mapUpdate t (.map (some w.heap.size)) k v) (w.alloc (.map es zl))=.ok () (w.alloc (.map (es.push ⟨k,v,zl⟩) (zl+1))):=qZ hu hk hd w es zl k v hf
theorem eT {d:TypeDesc} {i:Nat} {v:Value} (m:Sem.run P (Instr.mapUpdate t (.map (some w.heap.size)) k0 v0) W0=.ok () (w.alloc (.map es zl))) (hu:P.underlying t=some (.map kt et)) (hk:P.underlying kt=some d) (hd:plain d=true) (k:Value)
  (hf:Instr.findNow d k es.toList 0=some (some (i,v))):Sem.run P (Instr.lookup t (.map (some w.heap.size)) k false) (w.alloc (.map es zl))=.ok v (w.alloc (.map es zl)):=by have:=tZ hu hk hd (w:=w.alloc (.map es zl)) (heap_alloc_new w _) hf false;simpa using this
end Mp
end Go.Proofs.YtohpdonnpbjfdaaGreatDoor
