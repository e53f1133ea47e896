/- What is shown: laws of regions. Conditions: as each theorem states. -/
import Derived.RangeFuncNested
import Derived.Test.YtohpdonnpbjfdaaGreatDoorY2
set_option maxHeartbeats 40000000
set_option maxRecDepth 100000
set_option linter.unusedVariables false
set_option linter.unusedSimpArgs false
namespace Go.Proofs.YtohpdonnpbjfdaaGreatDoor
namespace Qt
open Go Go.RowKit
variable {F:Fence} {n:Nat} {P:Program}
def ag_ {α:Type} (B:Nat) (Kb:World→World→Prop) (I:List α→World→Prop) (xs:List α) (W:World):Exit→Act→World→Prop
 |.normal,_,W'=>KeepsFrom B W W'∧Kb W W'∧I xs W'
 |.ret,_,_=>False
 |.exit _,_,_=>False
 |.goto _,_,_=>False
 |.panic _,_,_=>False
 |.outgrown,_,_=>False
theorem yg {α:Type} {g:Operand} {ps:Array Tmp} {assign body:Code} {Q:Exit→Act→World→Prop} {a:Act} {w:World}
  (hro:F.round=none) (h1:1≤n) {gf:Nat} {lb:Array Value} (hg:a.eval g=.func (.func gf) #[] lb) (hFg:F.fn gf) (eg:∀args w,(callFunc gf args).run P w=.ok (.enter gf args) w)
  {encs:α→Array Value} (hps:∀x,(encs x).size=ps.size) (N:Nat)
  (I:List α→World→Prop) (hI:OwnFrom w.heap.size I) (h0:I [] w)
  (Kb:World→World→Prop) (hKt:∀{A B C:World},Kb A B→Kb B C→Kb A C) (hKb:∀(W:World) (l:Nat) (o o':Obj),w.heap.size≤l→W.heap[l]?=some o→o.isCells=false→Kb W (W.putObj l o'))
  (S:List α→World→Prop) (hS:OwnFrom w.heap.size S)
  (hit:∀(l:Nat) (J:List α→World→Prop),(∀s W,J s W→I s W)→(∀s W W',J s W→I s W'→KeepsFrom w.heap.size W W'→J s W')→
   (∀pre x W,J pre W→pre.length<N→YieldAt F (n-1-1) P l (encs x) W fun e W'=>e=.returned (.bool true)∧J (pre++[x]) W'∧Kb W W')→
   ∀W,J [] W→aJ w W→CallsIn F (n-1) P gf (#[.func (.yield l) #[] #[]]++lb) W fun e W'=>(∃v,e=.returned v)∧∃xs,S xs W'∧J xs W')
  (Ax:α→Act→World→Prop) (hAx:∀x a',OwnFrom w.heap.size (fun(_:Unit) W=>Ax x a' W))
  (hassign:∀(l:Nat) (pre:List α) (x:α) (W:World) (K:Act→World→Prop),I pre W→(∀a' W',KeepsFrom w.heap.size W W'→Kb W W'→I pre W'→Ax x a' W'→K a' W')→
   assign.wpIn (F.inRound l) (n-1-1) P (Exit.then K (fun _ _ _=>False)) {tmps:=(ps.zip (encs x)).foldl (fun t (p,v)=>t.setIfInBounds p v) a.tmps,defers:=[]} W)
  (hbody:∀(l:Nat) (pre:List α) (x:α) (a':Act) (W:World),I pre W→Ax x a' W→pre.length<N→body.wpIn (F.inRound l) (n-1-1) P (ag_ w.heap.size Kb I (pre++[x]) W) a' W)
  (hdone:∀(D:Nat) (xs:List α) (W:World),w.heap.size≤D→S xs W→I xs W→W.heap[D]?=some (.deferred (some []))→Q .normal {a with defers:={target:=.collected D,args:=#[]}::a.defers} W):
  (Code.rangeFunc g ps assign body).wpIn F n P Q a w:=by
 refine wpIn_rangeFunc ?_;intro fn hfn;rw[hro];obtain⟨mk,hmk⟩:∃mk:LoopState→Loop,mk=fun st=>{state:=st,pending:=none,fn,tmps:=a.tmps,params:=ps,assign,body,defers:=w.heap.size}:=⟨_,rfl⟩
 obtain⟨z,hz⟩:∃z,z=w.heap.size:=⟨_,rfl⟩
 have asf:mk .ready={state:=.ready,pending:=none,fn,tmps:=a.tmps,params:=ps,assign,body,defers:=z}:=by rw[hmk,hz]
 obtain⟨U,hU⟩:∃U,U=(w.alloc (.deferred (some []))).alloc (.loop (mk .ready)):=⟨_,rfl⟩
 have uL:U.heap[z+1]?=some (.loop (mk .ready)):=by have:=World.alloc_heap_new (w.alloc (.deferred (some []))) (.loop (mk .ready));rw[hU,hz];rwa[World.size_alloc]at this
 have uD:U.heap[z]?=some (.deferred (some [])):=by rw[hU,hz];exact(gV _ _ _ av).trans (World.alloc_heap_new w _)
 have uB:aJ w U:=by rw[hU];exact((aK _ w).alloc (aH _) _).alloc av _
 have uI:I [] U:=by rw[hU];exact hI.alloc _ (hI.alloc _ h0)
 refine⟨z+1,[{target:=.collected z,args:=#[]}],U,{target:=.fn (.func gf) lb,args:=#[.func (.yield (z+1)) #[] #[]]},U,gf,#[.func (.yield (z+1)) #[] #[]]++lb,U,?_,?_,?_,?_,fun _=>h1,?_⟩
 ·rw[hU,hz,asf,hz];exact run_enterLoop_outer _ _ _ _ _
 ·simp only[resolve,hg];simp[go_sem]
 ·intro f' hf';simp[Target.leads]at hf';subst hf';exact hFg
 ·simp[invoke,go_sem,eg]
 have yields:∀pre x W,(I pre W∧W.heap[z+1]?=some (.loop (mk .ready))∧W.heap[z]?=some (.deferred (some [])))→pre.length<N→
   YieldAt F (n-1-1) P (z+1) (encs x) W fun e W'=>e=.returned (.bool true)∧(I (pre++[x]) W'∧W'.heap[z+1]?=some (.loop (mk .ready))∧W'.heap[z]?=some (.deferred (some [])))∧Kb W W':=by
  rintro pre x W ⟨hi,hl,hd⟩ hlen
  have hy:=run_yield (P:=P) (args:=encs x) hl (by rw[hmk];exact hps x)
  rw[hmk]at hy
  refine⟨fn,_,assign,body,hy,roundIn_of_wpIn hfn (hassign _ pre x W _ hi fun a' W2 k1 q1 i1 ax1=>?_)⟩
  have Uk:=k1.same _ _ ae hl rfl
  have hd1:=k1.same _ _ ae hd rfl
  have lt1:=(Array.getElem?_eq_some_iff.1 Uk).1
  refine⟨_,run_beginRound Uk (by rw[hmk]),?_⟩
  have e2:({mk .ready with state:=LoopState.busy}:Loop)=mk .busy:=by rw[hmk]
  rw[e2]
  have P6:(W2.putObj (z+1) (.loop (mk .busy))).heap[z+1]?=some (.loop (mk .busy)):=World.putObj_heap_same lt1
  have Te:(W2.putObj (z+1) (.loop (mk .busy))).heap[z]?=some (.deferred (some [])):=(World.putObj_heap_other ae).trans hd1
  have q2:Kb W2 (W2.putObj (z+1) (.loop (mk .busy))):=hKb _ _ _ _ ae Uk rfl
  refine wpIn_mono (hbody _ pre x a' _ (hI.putObj _ i1 ae Uk rfl) ((hAx x a').putObj (s:=()) _ ax1 ae Uk rfl) hlen) ?_
  rintro e a3 W3 hp
  obtain⟨rfl,k3,q3,i3⟩:e=.normal∧KeepsFrom w.heap.size (W2.putObj (z+1) (.loop (mk .busy))) W3∧Kb (W2.putObj (z+1) (.loop (mk .busy))) W3∧I (pre++[x]) W3:=by
   cases e with
   |normal=>exact⟨rfl,hp⟩
   |ret=>exact hp.elim
   |exit _=>exact hp.elim
   |goto _=>exact hp.elim
   |panic _=>exact hp.elim
   |outgrown=>exact hp.elim
  have hl3:=k3.same _ _ ae P6 rfl
  have hd3:=k3.same _ _ ae Te rfl
  have hr:=run_endRound (P:=P) none hl3
  have e4:({mk .busy with state:=LoopState.ready,pending:=none}:Loop)=mk .ready:=by rw[hmk]
  refine⟨_,_,hr,rfl,⟨hI.putObj _ i3 ae hl3 rfl,?_,(World.putObj_heap_other ae).trans hd3⟩,hKt q1 (hKt (hKt q2 q3) (hKb _ _ _ _ ae hl3 rfl))⟩
  rw[World.putObj_heap_same (Array.getElem?_eq_some_iff.1 hl3).1,hmk]
  rfl
 have hend:=hit (z+1) (fun s W=>I s W∧W.heap[z+1]?=some (.loop (mk .ready))∧W.heap[z]?=some (.deferred (some [])))
  (fun s W h=>h.1) (fun s W W' h hi k=>⟨hi,k.same _ _ ae h.2.1 rfl,k.same _ _ ae h.2.2 rfl⟩) yields U ⟨uI,uL,uD⟩ uB
 refine hend.mono ?_;rintro e W2 ⟨⟨v,rfl⟩,xs,hs,hi,hl,hd⟩;have hr:=run_endLoop (P:=P) hl (by rw[hmk];simp);rw[hmk]at hr;exact⟨none,_,hr,hdone _ xs _ ae (hS.putObj _ hs ae hl rfl) (hI.putObj _ hi ae hl rfl) ((World.putObj_heap_other ae).trans hd)⟩
end Qt
end Go.Proofs.YtohpdonnpbjfdaaGreatDoor
