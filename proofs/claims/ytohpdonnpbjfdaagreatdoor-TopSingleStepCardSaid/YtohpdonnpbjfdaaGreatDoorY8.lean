/- What is shown: laws of regions. Conditions: as each theorem states. -/
import Derived.OrdersHeld
import Derived.OrdersIn
import Derived.RangeFuncCalls
import Derived.Test.YtohpdonnpbjfdaaGreatDoorY2
set_option maxHeartbeats 40000000
set_option maxRecDepth 100000
set_option linter.unusedVariables false
set_option linter.unusedSimpArgs false
namespace Go.Proofs.YtohpdonnpbjfdaaGreatDoor
theorem wY {P:Prop} (h:P:=by have:=(Array.getElem?_eq_some_iff.1 ho).1;omega):P:=h
theorem jc {P:Prop} (h:P:=by simpa using hsz):P:=h
theorem qK {P Q:Prop} (q:Q) (h:Q→P:=by
 have h1:∃x:dh w,w.drew=x.out:=⟨⟨w.drew,(aK _ _).drew⟩,rfl⟩
 intro kk;revert h1;exact kk):P:=h q
theorem BH {P:Prop} (h:P:=by
 intro aj a w hv _ hr hy hS H;refine⟨fun h=>gz,fun j hj=>?_⟩;by_cases hji:j=i
 ·subst hji;exact hy.wpOp hi (hD aj w hv (mem_ready.1 hr).1 hS) ⟨(SS.set hit _ _).2 hS,H⟩
 ·have:=ready_mono hj hji;rw[H.1]at this;cases this):P:=h
theorem vW {P:Prop} (h:P:=by
 cases hx:L.getD t0 false with
 |false=>rfl
 |true=>have:=zQ hv hx 12 i hl;rw[getD_both hun]at this;cases this):P:=h
theorem aM {P:Prop} (h:P:=by rw[hW];exact aG):P:=h
theorem dm {P:Prop} (h:P:=by rw[hW];exact aV.new _ _ _ _ rfl):P:=h
theorem aX {P:Prop} (h:P:=by simp only;omega):P:=h
theorem gQ {P:Prop} (h:P:=by rw[←Hn.out];exact hlt):P:=h
theorem fV {P:Prop} (h:P:=by rw[hW];exact(aV.new _ _ _ _ av).alloc _):P:=h
theorem eX {P:Prop} (h:P:=by rw[hW];exact aV.new _ _ _ _ av):P:=h
theorem iK {P:Prop} (h:P:=by rw[mi];exact aG):P:=h
theorem CE {P:Prop} (h:P:=by
 simp only[Bool.or_eq_true,decide_eq_true_eq]at h1;rcases h1 with h1|h1
 ·omega
 ·obtain⟨k,hk,h1⟩:=List.any_eq_true.1 h1;simp only[Bool.and_eq_true,decide_eq_true_eq]at h1;have hkt:=List.mem_range.1 hk;obtain⟨o',ho',e,he,hb,hon⟩:=Region.waitsFor_spec h1.2;have:o'=ot:=bD (ho'.symm.trans hot);subst this;have h2:=hall e he hb;rw[hon,getD_both (inv.tail k h1.1 ae)]at h2;cases h2):P:=h
theorem rV {P:Prop} (h:P:=by rw[hW];exact(aV.new _ _ _ _ rfl).alloc _):P:=h
theorem rR {P:Prop} (h:P:=by have:=Hnl.out;omega):P:=h
theorem xR {P:Prop} (h:P:=by rw[hW];simp):P:=h
namespace Qt
open Go Go.RowKit
section
variable {P:Program} {ops:Array Oper} {md:Region.Mode} {S:World→Prop}
def bz (Q:Exit→Act→World→Prop):Exit→Act→World→Prop
 |.panic _,_,_=>False
 |.outgrown,_,_=>False
 |e,a,w=>Q e a w
theorem bz.imp {Q:Exit→Act→World→Prop}:∀(e:Exit) (a:Act) (w:World),bz Q e a w→Q e a w:=fun e a w h=>by cases e<;>first|exact h|exact(h:False).elim
theorem bz.put {Q:Exit→Act→World→Prop} (d:Option Tmp) (v:Value):∀c a w,bz Q (.panic c) (Act.put a d v) w→bz Q (.panic c) a w:=fun _ _ _ h=>h
theorem bz.stays {Q:Exit→Act→World→Prop}:¬LetsOut (bz Q):=fun⟨_,_,h⟩=>h
def Op.reads:Op→Bool
 |.slice ..|.move _|.assign _|.load ..|.fieldAddr ..|.field ..|.indexAddr ..|.index ..|.binOp ..|.unOp ..|.extract ..|.build ..|.nilCheck ..|.convert ..=>true
 |.call c=>match c.callee with|.builtin .min|.builtin .max|.builtin .len=>true|_=>false
 |_=>false
theorem bind_ok {P:Program} {α β:Type} {s:Sem α} {f:α→Sem β} {w w':World} {n:β} (hr:(s>>=f).run P w=.ok n w'):∃v w1,s.run P w=.ok v w1∧(f v).run P w1=.ok n w':=by
 rw[Sem.run_bind]at hr;cases hx:s.run P w with
 |ok v w1=>rw[hx]at hr;exact⟨v,w1,rfl,hr⟩
 |halt x w1=>rw[hx]at hr;cases hr
theorem pW {o:Oper} (h:Op.reads o.op=true) {ev:Operand→Value} {w w':World} {n:Next} (hr:(execOp ev o).run P w=.ok n w'):∃v,n=.value v:=by
 have key:∀(s:Sem Value),(s>>=fun v=>(pure (.value v):Sem Next)).run P w=.ok n w'→∃v,n=.value v:=by
  intro s hs;rw[Sem.run_bind]at hs;cases hx:s.run P w with
  |ok v w1=>
   rw[hx]at hs;cases hs
   exact⟨v,rfl⟩
  |halt x w1=>rw[hx]at hs;cases hs
 obtain⟨dst,op,type,pos,after,guard⟩:=o;cases op<;>simp only[Op.reads,Bool.false_eq_true]at h<;>simp only[execOp]at hr
 case call c=>
  obtain⟨callee,args,argTypes⟩:=c;cases callee with
  |builtin b=>cases b<;>simp only[Bool.false_eq_true]at h<;>exact key _ hr
  |_=>simp only[Bool.false_eq_true]at h
 all_goals first
  |exact key _ hr
  |(cases hr;exact⟨_,rfl⟩)
  |(split at hr<;>first
    |(cases hr;done)
    |(cases hr;exact⟨_,rfl⟩)
    |(split at hr<;>first
      |(cases hr;done)
      |(cases hr;exact⟨_,rfl⟩)
      |(obtain⟨_,_,_,hr⟩:=bind_ok hr
        obtain⟨_,_,_,hr⟩:=bind_ok hr
        split at hr
        ·obtain⟨_,_,_,hr⟩:=bind_ok hr
         cases hr;exact⟨_,rfl⟩
        ·cases hr;exact⟨_,rfl⟩)))
def fH (P:Program) (ops:Array Oper) (S:World→Prop) (Q:Exit→Act→World→Prop):List Oper→Act→World→Prop
 |[],a,w=>Q .normal a w
 |o::rest,a,w=>if Region.wanted o (yielded ops a.tmps)then o.wp P a w (fun a' w'=>S w'∧fH P ops S Q rest a' w') Q else fH P ops S Q rest (a.put o.dst undef) w
theorem yM {Q:Exit→Act→World→Prop} {o:Oper} {rest:List Oper} {a:Act} {w w1:World} {f:FuncId} {args:Array Value} {R:Ending→World→Prop} (hw:Region.wanted o (yielded ops a.tmps)=true) (hr:(execOp a.eval o).run P w=.ok (.enter f args) w1)
  (hc:Calls P f args w1 R) (hn:∀e w',R e w'→∃v,e=.returned v∧S w'∧fH P ops S Q rest (a.put o.dst v) w'):fH P ops S Q (o::rest) a w:=by unfold fH;rw[if_pos hw];unfold Oper.wp;rw[hr];refine Calls.mono hc fun e w' he=>?_;obtain⟨v,rfl,h1,h2⟩:=hn e w' he;exact⟨h1,h2⟩
theorem di {Q:Exit→Act→World→Prop} {o:Oper} {rest:List Oper} {a:Act} {w w1:World} {v:Value} (hw:Region.wanted o (yielded ops a.tmps)=true) (hr:(execOp a.eval o).run P w=.ok (.value v) w1)
  (h1:S w1) (h2:fH P ops S Q rest (a.put o.dst v) w1):fH P ops S Q (o::rest) a w:=by unfold fH;rw[if_pos hw];unfold Oper.wp;rw[hr];exact⟨h1,h2⟩
theorem fT {Q:Exit→Act→World→Prop} {a:Act} {w:World} (h:Q .normal a w):fH P ops S (bz Q) [] a w:=h
def kW (md:Region.Mode) (ops:Array Oper):List Nat→Array Bool→Bool
 |[],aj=>(Region.ready md ops aj).isEmpty
 |i::rest,aj=>decide (Region.ready md ops aj=[i])&&kW md ops rest (aj.setIfInBounds i true)
def headB (md:Region.Mode) (ops:Array Oper) (tail:List Nat):List Nat→Array Bool→Bool
 |[],aj=>kW md ops tail aj
 |i::rest,aj=>(Region.ready md ops aj).contains i&&Region.free md ops aj i&&(match ops[i]? with|some o=>Op.reads o.op|none=>false)&&headB md ops tail rest (aj.setIfInBounds i true)
def aeS (md:Region.Mode) (ops:Array Oper) (head tail:List Nat):Bool:=
 Region.noSelect ops&&headB md ops tail head (Array.replicate ops.size false)&&decide (head.length+tail.length=ops.size)
theorem vX {Q:Exit→Act→World→Prop}:∀(tail:List Nat) (aj:Array Bool) (a:Act) (w:World),kW md ops tail aj=true→S w→
  fH P ops S Q (tail.map fun i=>ops.getD i default) a w→wpAnyH P md ops Q S tail.length aj a w
 |[],aj,a,w,hB,_,h=>⟨by simpa[kW]using hB,h⟩
 |i::rest,aj,a,w,hB,hS,h=>by
  simp only[kW,Bool.and_eq_true,decide_eq_true_eq]at hB
  have hi:i∈Region.ready md ops aj:=by rw[hB.1];simp
  obtain⟨_,o,ho,_⟩:=mem_ready.1 hi
  have hg:ops.getD i default=o:=by simp[ho]
  refine wpAnyH_all hB.1 av fun j hj=>?_
  obtain rfl:j=i:=by simpa using hj
  simp only[List.map_cons,hg]at h
  unfold fH at h
  unfold wpOp
  simp only[ho]
  split
  ·rename_i hw
   rw[if_pos hw]at h
   exact .inl (Oper.wp_mono (fun a' w' h'=>⟨h'.1,vX rest _ a' w' hB.2 h'.1 h'.2⟩) h)
  ·rename_i hw
   rw[if_neg hw]at h
   exact⟨hS,vX rest _ _ w hB.2 hS h⟩
theorem vY {Q:Exit→Act→World→Prop} {C:World→Prop} {tail:List Nat} (hsel:Region.noSelect ops=true) (hQ:∀d v c a w,Q (.panic c) (Act.put a d v) w→Q (.panic c) a w) (w:World) (hw:C w):
  ∀(head:List Nat) (aj:Array Bool) (a:Act),headB md ops tail head aj=true→
   wpQuiet P ops C (fun a'=>fH P ops C Q (tail.map fun i=>ops.getD i default) a' w) (head.map fun i=>ops.getD i default) a→wpAnyH P md ops Q C (head.length+tail.length) aj a w
 |[],aj,a,hB,h=>by rw[List.length_nil,Nat.zero_add];exact vX tail aj a w hB hw h
 |i::rest,aj,a,hB,h=>by
  simp only[headB,Bool.and_eq_true]at hB
  obtain⟨⟨⟨hr,hf⟩,hrd⟩,hB'⟩:=hB
  have hi:i∈Region.ready md ops aj:=fQ
  obtain⟨_,o,ho,_⟩:=mem_ready.1 hi
  have hg:ops.getD i default=o:=by simp[ho]
  rw[ho]at hrd
  simp only[List.map_cons,hg]at h
  rw[show(i::rest).length+tail.length=(rest.length+tail.length)+1 from bU]
  unfold wpQuiet at h
  split at h
  ·rename_i hwant
   obtain⟨v,h1,h2⟩:=h
   refine wpAnyH_take ho hsel hf hr (hQ o.dst v) (.inl ⟨hwant,fun w1 iI=>?_⟩) hw (vY hsel hQ w hw rest _ _ hB' h2)
   have h3:=h1 w1 iI
   unfold Oper.quietAt at h3
   cases hx:(execOp a.eval o).run P w1 with
   |ok n w2=>
    obtain⟨u,rfl⟩:=pW hrd hx
    rw[hx]at h3
    simp only[Oper.quietUpon]at h3
    rw[h3.1,h3.2]
   |halt x w2=>
    rw[hx]at h3
    simp only[Oper.quietUpon]at h3
  ·rename_i hwant
   exact wpAnyH_take ho hsel hf hr (hQ o.dst undef) (.inr ⟨by simpa using hwant,rfl⟩) hw (vY hsel hQ w hw rest _ _ hB' h)
theorem iT (l:List Oper):(fun i=>l.toArray.getD i default)=(fun i=>l.getD i default):=by funext i;simp[Array.getD_eq_getD_getElem?,List.getD_eq_getElem?_getD]
theorem UN {Q:Exit→Act→World→Prop} {l:List Oper} {a:Act} {w:World} (head tail:List Nat) (hB:aeS .any l.toArray head tail=true)
  (h:∀N,qd w N→wpQuiet P l.toArray (fun w'=>∃x:dh w,w'=x.out) (fun a'=>fH P l.toArray (fun w'=>∃x:dh w,w'=x.out) (bz Q) (tail.map fun i=>l.getD i default) a' w.drew) (head.map fun i=>l.getD i default) a):
  wpAny P .any l.toArray (bz Q) l.toArray.size (Array.replicate l.toArray.size false) a w.drew:=by simp only[aeS,Bool.and_eq_true,decide_eq_true_eq]at hB;obtain⟨⟨hsel,hB⟩,hsz⟩:=hB;rw[←iT]at h;have:=vY (P:=P) (Q:=bz Q) (C:=fun w'=>∃x:dh w,w'=x.out) hsel (fun d v=>bz.put d v) w.drew ⟨⟨w.drew,(aK _ _).drew⟩,rfl⟩ head _ a hB (h _ (rules w _ rfl));rw[hsz]at this;exact wpAny_of_held _ _ _ _ this
def qM (ops:Array Oper):Bool:=ops.all fun o=>match o.op with|.defer _=>false|_=>true
theorem zR (h:qM ops=true) {j:Nat} {o:Oper} (ho:ops[j]?=some o) (c:Call):o.op≠.defer c:=by intro e;have:=Array.all_eq_true_iff_forall_mem.1 h o (Array.mem_of_getElem? ho);rw[e]at this;cases this
theorem Jo {Q:Exit→Act→World→Prop} {n lp:Nat} {o:Oper} {a:Act} {w:World} {K K':Act→World→Prop} (hd:∀c,o.op≠.defer c) (hQ:¬LetsOut Q) (hK:∀a w,K a w→K' a w)
  (h:o.wp P a w K Q∨(o.asks P a w∧LetsOut Q)):o.wpIn (Fence.wide.inRound lp) n P a w K' Q:=by
 rcases h with h|h
 ·refine⟨fun _ _=>trivial,?_⟩;rw[Oper.semAt_eq _ _ _ hd];unfold Oper.wp at h;generalize (execOp a.eval o).run P w=r at*;cases r with
  |ok m w'=>
   cases m<;>simp only[Oper.upon]at h<;>simp only[Oper.uponIn]
   case value v=>exact hK _ _ h
   case skip=>exact hK _ _ h
   case defer d=>exact hK _ _ h
   case enter f args=>
    refine⟨(fun hh=>by cases hh),(CallsIn.inRound lp (callsIn_wide.2 h)).mono fun e w'' he=>?_⟩;cases e with
    |returned v=>exact hK _ _ he
    |panicked c=>exact he
    |outgrown=>exact he
   case row row args=>refine⟨(fun hh=>by cases hh),fun c cs _=>?_⟩;obtain⟨v,w'',hv,hs⟩:=h c cs;exact⟨v,w'',hK _ _ hv,stepsIn_wide.2 hs⟩
  |halt x w'=>
   cases x<;>simp only[Oper.upon]at h<;>simp only[Oper.uponIn]
   case panic v=>exact h
 ·exact absurd h.2 hQ
theorem UO {Q:Exit→Act→World→Prop} {n lp i:Nat} {a:Act} {w:World} {K K':Act→World→Prop} (hd:qM ops=true) (hQ:¬LetsOut Q) (hK:∀a w,K a w→K' a w)
  (h:wpOp P ops Q i K a w):wpOpIn (Fence.wide.inRound lp) n P ops Q i K' a w:=by
 unfold wpOp at h;unfold wpOpIn;cases ho:ops[i]? with
 |none=>simp only[ho]at h;exact hK _ _ h
 |some o=>
  simp only[ho]at h;simp only;split
  ·rename_i hw;rw[if_pos hw]at h;exact Jo (zR hd ho) hQ hK h
  ·rename_i hw;rw[if_neg hw]at h;exact⟨fun _ _=>trivial,hK _ _ h⟩
theorem ze {Q:Exit→Act→World→Prop} {n lp:Nat} (hd:qM ops=true) (hQ:¬LetsOut Q):
  ∀(f:Nat) (aj:Array Bool) (a:Act) (w:World),wpAny P md ops Q f aj a w→wpAnyIn (Fence.wide.inRound lp) n P md ops Q f aj a w
 |0,_,_,_,h=>h
 |f+1,aj,a,w,h=>⟨h.1,fun i hi=>UO hd hQ (fun a' w' h'=>ze hd hQ f _ a' w' h') (h.2 i hi)⟩
theorem EW {id n lp:Nat} {Q:Exit→Act→World→Prop} {a:Act} {w:World} {l:List Oper} (head tail:List Nat) (hm:P.follows .mixedOrders=true) (hB:aeS .any l.toArray head tail=true) (hd:qM l.toArray=true)
  (h:∀N,qd w N→wpQuiet P l.toArray (fun w'=>∃x:dh w,w'=x.out) (fun a'=>fH P l.toArray (fun w'=>∃x:dh w,w'=x.out) (bz Q) (tail.map fun i=>l.getD i default) a' w.drew) (head.map fun i=>l.getD i default) a):
  (Code.region id l.toArray true).wpIn (Fence.wide.inRound lp) n P Q a w:=
 wpIn_mono (wpIn_region_any hm (ze hd bz.stays _ _ _ _ (UN head tail hB h))) bz.imp
end
section
variable {P:Program} {ops:Array Oper} {md:Region.Mode} {C1 C2:World→Prop}
def SS (C1 C2:World→Prop) (t0:Nat) (aj:Array Bool) (w:World):Prop:=if aj.getD t0 false=true then C2 w else C1 w
theorem SS.set {t0 i:Nat} (h:i≠t0) (aj:Array Bool) (w:World):SS C1 C2 t0 (aj.setIfInBounds i true) w↔SS C1 C2 t0 aj w:=by unfold SS;rw[getD_set_ne false h]
def wpAnyS (P:Program) (md:Region.Mode) (ops:Array Oper) (Q:Exit→Act→World→Prop) (C1 C2:World→Prop) (t0:Nat):Nat→Array Bool→Act→World→Prop
 |0,aj,a,w=>Region.ready md ops aj=[]∧Q .normal a w
 |f+1,aj,a,w=>(Region.ready md ops aj=[]→Q .normal a w)∧∀i∈Region.ready md ops aj,wpOp P ops Q i (fun a' w'=>SS C1 C2 t0 (aj.setIfInBounds i true) w'∧wpAnyS P md ops Q C1 C2 t0 f (aj.setIfInBounds i true) a' w') a w
theorem l_ {Q:Exit→Act→World→Prop} {t0:Nat}:∀(f:Nat) (aj:Array Bool) (a:Act) (w:World),wpAnyS P md ops Q C1 C2 t0 f aj a w→wpAny P md ops Q f aj a w
 |0,_,_,_,h=>h
 |f+1,aj,a,w,h=>⟨h.1,fun i hi=>wpOp_mono (fun a' w' h'=>l_ f _ a' w' h'.2) (h.2 i hi)⟩
theorem wpAnyS_first {Q:Exit→Act→World→Prop} {t0 i:Nat} {oi:Oper} {v:Value} {D:World→Prop} {inv:Array Bool→Prop} (hi:ops[i]?=some oi) (hsel:∀(j:Nat) (o:Oper) cs b,ops[j]?=some o→o.op≠.select cs b)
  (hQ:∀c a w,Q (.panic c) (a.put oi.dst v) w→Q (.panic c) a w) (hit:i≠t0) (hinv:∀aj j,inv aj→j∈Region.ready md ops aj→j≠i→aj.getD i true=false→inv (aj.setIfInBounds j true))
  (hD:∀aj w,inv aj→aj.getD i true=false→SS C1 C2 t0 aj w→D w):
  ∀(fuel:Nat) (aj:Array Bool) (a:Act) (w:World),inv aj→
   (∀j oj,ops[j]?=some oj→j≠i→aj.getD j true=false→(∀e∈oj.after,Region.binds md e=true→e.on≠i)→oi.apart ops oj=true)→
   i∈Region.ready md ops aj→YieldsIf P ops D oi v a→SS C1 C2 t0 aj w→
   wpAnyS P md ops Q C1 C2 t0 fuel (aj.setIfInBounds i true) (a.put oi.dst v) w→wpAnyS P md ops Q C1 C2 t0 (fuel+1) aj a w:=by
 intro fuel;induction fuel with
 |zero=>exact BH
 |succ fuel ih=>
  intro aj a w hv hfree hr hy hS H;refine⟨fun h=>gz,fun j hj=>?_⟩;by_cases hji:j=i
  ·subst hji;exact hy.wpOp hi (hD aj w hv (mem_ready.1 hr).1 hS) ⟨(SS.set hit _ _).2 hS,H⟩
  ·have h1:=H.2 j (ready_mono hj hji);obtain⟨hjun,oj,hoj,hall⟩:=mem_ready.1 hj;have hnot:∀e∈oj.after,Region.binds md e=true→e.on≠i:=fun e he hb heq=>by have h1:=hall e he hb;rw[heq,getD_both (mem_ready.1 hr).1]at h1;cases h1
   have h2:=wpOp_putIf hoj (hfree j oj hoj hji hjun hnot) (fun cs b=>hsel i oi cs b hi) (fun cs b=>hsel j oj cs b hoj) hQ hy h1;have hfree':∀k ok,ops[k]?=some ok→k≠i→(aj.setIfInBounds j true).getD k true=false→
     (∀e∈ok.after,Region.binds md e=true→e.on≠i)→oi.apart ops ok=true:=fun k ok hk hki hun hno=>by
    exact qL
   refine wpOp_mono (fun a' w' h3=>?_) h2;have h4:SS C1 C2 t0 (aj.setIfInBounds j true) w':=by have:=h3.2.1;rw[Array.setIfInBounds_comm _ _ (Ne.symm hji)]at this;exact(SS.set hit _ _).1 this
   refine⟨h4,ih (aj.setIfInBounds j true) a' w' (hinv aj j hv hj hji (mem_ready.1 hr).1) hfree' (ready_mono hr (Ne.symm hji)) h3.1 h4 ?_⟩;rw[Array.setIfInBounds_comm _ _ hji];exact h3.2.2
theorem oC {Q:Exit→Act→World→Prop} {t0:Nat}:∀(tail:List Nat) (aj:Array Bool) (a:Act) (w:World),kW md ops tail aj=true→(aj.getD t0 false=true∨tail.head?=some t0)→C2 w→t0<aj.size→
  fH P ops C2 Q (tail.map fun i=>ops.getD i default) a w→wpAnyS P md ops Q C1 C2 t0 tail.length aj a w
 |[],aj,a,w,hB,_,_,_,h=>⟨by simpa[kW]using hB,h⟩
 |i::rest,aj,a,w,hB,ht,hS,hlt,h=>by
  simp only[kW,Bool.and_eq_true,decide_eq_true_eq]at hB
  have hi:i∈Region.ready md ops aj:=by rw[hB.1];simp
  obtain⟨_,o,ho,_⟩:=mem_ready.1 hi
  have hg:ops.getD i default=o:=by simp[ho]
  have hl:(aj.setIfInBounds i true).getD t0 false=true:=by
   rcases ht with ht|ht
   ·exact getD_set_true ht
   ·obtain rfl:i=t0:=by simpa using ht
    simp[hlt]
  have hSS:∀w',C2 w'→SS C1 C2 t0 (aj.setIfInBounds i true) w':=fun w' h'=>by unfold SS;rw[if_pos hl];exact h'
  refine⟨fun h0=>(by rw[hB.1]at h0;cases h0),fun j hj=>?_⟩
  rw[hB.1]at hj
  obtain rfl:j=i:=by simpa using hj
  simp only[List.map_cons,hg]at h
  unfold fH at h
  unfold wpOp
  simp only[ho]
  split
  ·rename_i hw
   rw[if_pos hw]at h
   exact .inl (Oper.wp_mono (fun a' w' h'=>⟨hSS _ h'.1,oC rest _ a' w' hB.2 (.inl hl) h'.1 (by simpa using hlt) h'.2⟩) h)
  ·rename_i hw
   rw[if_neg hw]at h
   exact⟨hSS _ hS,oC rest _ _ w hB.2 (.inl hl) hS (by simpa using hlt) h⟩
def nS (md:Region.Mode) (ops:Array Oper) (t0:Nat) (early:Bool) (next:Array Bool→Bool):List Nat→Array Bool→Bool
 |[],aj=>next aj
 |i::rest,aj=>(Region.ready md ops aj).contains i&&Region.free md ops aj i&&(match ops[i]? with|some o=>Op.reads o.op|none=>false)&&i !=t0&&(!early||Region.waitsFor md ops t0 i)&& !aj.getD t0 false&&nS md ops t0 early next rest (aj.setIfInBounds i true)
theorem jR {Q:Exit→Act→World→Prop} {t0 g:Nat} {D:World→Prop} {K:Act→Prop} {next:Array Bool→Bool} (early:Bool) (hE:early=true→∀w,C1 w→D w) (hL:early=false→∀w,(C1 w∨C2 w)→D w) (hsel:Region.noSelect ops=true) (hQ:∀d v c a w,Q (.panic c) (Act.put a d v) w→Q (.panic c) a w) (w:World) (h1:C1 w) (h2:C2 w)
  (hn:∀aj a,next aj=true→aj.size=ops.size→K a→wpAnyS P md ops Q C1 C2 t0 g aj a w):
  ∀(head:List Nat) (aj:Array Bool) (a:Act),nS md ops t0 early next head aj=true→aj.size=ops.size→
   wpQuiet P ops D K (head.map fun i=>ops.getD i default) a→wpAnyS P md ops Q C1 C2 t0 (head.length+g) aj a w
 |[],aj,a,hB,hsz,h=>by rw[List.length_nil,Nat.zero_add];exact hn aj a hB hsz h
 |i::rest,aj,a,hB,hsz,h=>by
  simp only[nS,Bool.and_eq_true,bne_iff_ne,ne_eq]at hB
  obtain⟨⟨⟨⟨⟨⟨hr,hf⟩,hrd⟩,hit⟩,hew⟩,ht⟩,hB'⟩:=hB
  have hi:i∈Region.ready md ops aj:=fQ
  have ht':aj.getD t0 false=false:=by simpa using ht
  obtain⟨_,o,ho,_⟩:=mem_ready.1 hi
  have hg:ops.getD i default=o:=by simp[ho]
  rw[ho]at hrd
  simp only[List.map_cons,hg]at h
  have hSS:SS C1 C2 t0 aj w:=by unfold SS;split<;>assumption
  have hgo:=jR early hE hL hsel hQ w h1 h2 hn rest (aj.setIfInBounds i true)
  rw[show(i::rest).length+g=(rest.length+g)+1 from bU]
  have fin:∀v,YieldsIf P ops D o v a→wpAnyS P md ops Q C1 C2 t0 (rest.length+g) (aj.setIfInBounds i true) (a.put o.dst v) w→wpAnyS P md ops Q C1 C2 t0 (rest.length+g+1) aj a w:=fun v hy H=>by
   cases early with
   |true=>
    have hwt:Region.waitsFor md ops t0 i=true:=by simpa using hew
    obtain⟨ot,hot,e,he,hb,hon⟩:=Region.waitsFor_spec hwt
    exact wpAnyS_first (inv:=fun aj=>aj.getD i true=false→aj.getD t0 false=false) ho (Region.noSelect_spec hsel) (hQ o.dst v) hit
     (fun L j hv hj hji hun _=>by
      have h0:=hv hun
      by_cases hjt:j=t0
      ·subst hjt
       exfalso
       obtain⟨_,o',ho',hall⟩:=mem_ready.1 hj
       have:o'=ot:=bD (ho'.symm.trans hot)
       subst this
       have h5:=hall e he hb
       rw[hon,getD_both hun]at h5
       cases h5
      ·rw[getD_set_ne false hjt];exact h0)
     (fun L w1 hv hun hS=>hE rfl w1 (by unfold SS at hS;rw[hv hun]at hS;simpa using hS)) _ aj a w (fun _=>ht') (Region.free_spec ho hf) hi hy hSS H
   |false=>
    exact wpAnyS_first (inv:=fun _=>True) ho (Region.noSelect_spec hsel) (hQ o.dst v) hit (fun _ _ _ _ _ _=>trivial)
     (fun L w1 _ _ hS=>hL rfl w1 (by unfold SS at hS;split at hS<;>simp[hS])) _ aj a w trivial (Region.free_spec ho hf) hi hy hSS H
  unfold wpQuiet at h
  split at h
  ·rename_i hwant
   obtain⟨v,g1,g2⟩:=h
   refine fin v (.inl ⟨hwant,fun w1 iI=>?_⟩) (hgo _ hB' jc g2)
   have h3:=g1 w1 iI
   unfold Oper.quietAt at h3
   cases hx:(execOp a.eval o).run P w1 with
   |ok n w2=>
    obtain⟨u,rfl⟩:=pW hrd hx
    rw[hx]at h3
    simp only[Oper.quietUpon]at h3
    rw[h3.1,h3.2]
   |halt x w2=>
    rw[hx]at h3
    simp only[Oper.quietUpon]at h3
  ·rename_i hwant
   exact fin undef (.inr ⟨by simpa using hwant,rfl⟩) (hgo _ hB' jc h)
end
structure nU (w:World) (B:Nat) where
 out:World
 only:w.grownBy out (some B)
instance (w:World) (B:Nat):Inhabited (nU w B):=⟨⟨w,⟨rfl,rfl,rfl,aH _,fun _ _ _=>rfl⟩⟩⟩
theorem gm {w W:World} (h:aJ w W) (B:Nat):w.grownBy W (some B):=⟨h.os,h.tape,h.output,h.size,fun k hk _=>h.block k hk⟩
theorem Xy {w:World} {B:Nat} (x:nU w B) (N:Nat) (hN:N=w.heap.size) (b o:Nat):x.out.cell? ⟨b,o,none⟩=if b<N then(if b=B then Ti x.out b o else w.cell? ⟨b,o,none⟩)else Ti x.out b o:=by
 subst hN;split
 ·split
  ·rfl
  ·exact bg (a:=⟨b,o,none⟩) (x.only.block b ‹_› (fun e=>absurd (bD e) ‹_›))
 ·rfl
theorem eQ {a w:World} {g:Nat} (h:a.grownBy w (some g)) {p:Addr} (hp:p.block=g) (u:Value):a.grownBy (w.setCell p u) (some g):=
 ⟨h.os,h.tape,h.output,by simpa[World.setCell]using h.size,fun k hk hne=>(dI _ _ _ _ (by rw[hp];exact fun e=>hne (by rw[e]))).trans (h.block k hk hne)⟩
theorem dY {P:Program} {ops:Array Oper} {S:World→Prop} {Q:Exit→Act→World→Prop} {o:Oper} {rest:List Oper} {a:Act} {w w1:World} (hw:Region.wanted o (yielded ops a.tmps)=true) (hr:(execOp a.eval o).run P w=.ok .skip w1)
  (h1:S w1) (h2:fH P ops S Q rest (a.put o.dst undef) w1):fH P ops S Q (o::rest) a w:=by unfold fH;rw[if_pos hw];unfold Oper.wp;rw[hr];exact⟨h1,h2⟩
structure aeR (w:World) (B N:Nat):Prop where
 eq:N=w.heap.size
 cell:∀(x:nU w B) (b o:Nat),x.out.cell? ⟨b,o,none⟩=if b<N then(if b=B then Ti x.out b o else w.cell? ⟨b,o,none⟩)else Ti x.out b o
def aiN (ops:Array Oper) (early late tail:List Nat) (t0:Nat):Bool:=
 Region.noSelect ops&&nS .any ops t0 true (nS .any ops t0 false (kW .any ops tail) late) early (Array.replicate ops.size false)&&decide (early.length+(late.length+tail.length)=ops.size)&&decide (tail.head?=some t0)&&decide (t0<ops.size)
theorem jF {P:Program} {id:Nat} {Q:Exit→Act→World→Prop} {a:Act} {w:World} {l:List Oper} (B:Nat) (early late tail:List Nat) (t0:Nat) (hm:P.follows .mixedOrders=true) (hB:aiN l.toArray early late tail t0=true)
  (h:∀N,qd w N→aeR w B N→wpQuiet P l.toArray (fun w'=>∃x:dh w,w'=x.out) (fun a1=>wpQuiet P l.toArray (fun w'=>∃x:nU w B,w'=x.out) (fun a2=>fH P l.toArray (fun w'=>∃x:nU w B,w'=x.out) (bz Q) (tail.map fun i=>l.getD i default) a2 w.drew)
   (late.map fun i=>l.getD i default) a1) (early.map fun i=>l.getD i default) a):
  (Code.region id l.toArray true).wp P Q a w:=by
 refine Code.wp_mono bz.imp (wp_region_any hm (l_ (C1:=fun w'=>∃x:dh w,w'=x.out) (C2:=fun w'=>∃x:nU w B,w'=x.out) (t0:=t0) _ _ _ _ ?_));simp only[aiN,Bool.and_eq_true,decide_eq_true_eq]at hB;obtain⟨⟨⟨⟨hsel,hB⟩,hsz⟩,hh⟩,ht⟩:=hB;refine qK ?_;intro h1;have h2:∃x:nU w B,w.drew=x.out:=⟨⟨w.drew,gm (aK _ _).drew B⟩,rfl⟩
 have h':=h _ (rules w _ rfl) ⟨rfl,fun x=>Xy x _ rfl⟩;rw[←iT]at h';have:=jR (P:=P) (md:=.any) (Q:=bz Q) (g:=late.length+tail.length) (D:=fun w'=>∃x:dh w,w'=x.out) (t0:=t0) (C1:=fun w'=>∃x:dh w,w'=x.out) (C2:=fun w'=>∃x:nU w B,w'=x.out) true (fun _ w hw=>hw) av hsel (fun d v=>bz.put d v) w.drew h1 h2
  (next:=nS .any l.toArray t0 false (kW .any l.toArray tail) late)
  (fun aj a1 hnx hls hq=>jR (P:=P) (Q:=bz Q) (g:=tail.length) (D:=fun w'=>∃x:nU w B,w'=x.out) (next:=kW .any l.toArray tail) false av
   (fun _ w1 iI=>by
    rcases iI with⟨x,rfl⟩|iI
    ·exact⟨⟨x.out,gm x.below B⟩,rfl⟩
    ·exact iI) hsel (fun d v=>bz.put d v) w.drew h1 h2 (fun aj a2 hnx hls hq=>oC tail aj a2 w.drew hnx (.inr hh) h2 (by rw[hls];exact ht) hq) late aj a1 hnx hls hq) early _ a hB av h'
 rw[hsz]at this;exact this
section
variable {P:Program} {ops:Array Oper} {md:Region.Mode} {C1 C2:World→Prop}
def Same (P:Program) (v:Value) (s:Sem Next) (w:World):Prop:=
 s.run P w=.ok (.value v) w∨(s.run P w=.ok .skip w∧v=undef)∨∃f args,s.run P w=.ok (.enter f args) w∧Calls P f args w (fun e w'=>e=.returned v∧w'=w)
def YSm (P:Program) (ops:Array Oper) (S:World→Prop) (o:Oper) (v:Value) (a:Act):Prop:=
 (Region.wanted o (yielded ops a.tmps)=true∧∀w,S w→Same P v (execOp a.eval o) w)∨(Region.wanted o (yielded ops a.tmps)=false∧v=undef)
theorem YSm.of_same {S:World→Prop} {o:Oper} {v:Value} {a a':Act} (hy:YSm P ops S o v a) (he:execOp a'.eval o=execOp a.eval o) (hw:Region.wanted o (yielded ops a'.tmps)=Region.wanted o (yielded ops a.tmps)):YSm P ops S o v a':=by
 rcases hy with⟨h1,h2⟩|⟨h1,h2⟩
 ·exact .inl ⟨by rw[hw];exact h1,fun w hS=>by rw[he];exact h2 w hS⟩
 ·exact .inr ⟨by rw[hw];exact h1,h2⟩
theorem YSm.wpOp {S:World→Prop} {Q:Exit→Act→World→Prop} {i:Nat} {o:Oper} {v:Value} {a:Act} (hi:ops[i]?=some o) (hy:YSm P ops S o v a) {K:Act→World→Prop} {w:World} (hS:S w) (h:K (a.put o.dst v) w):wpOp P ops Q i K a w:=by
 unfold Go.wpOp;simp only[hi];rcases hy with⟨hw,hv⟩|⟨hw,rfl⟩
 ·rw[if_pos hw];refine .inl ?_;unfold Oper.wp;rcases hv w hS with hr|⟨hr,rfl⟩|⟨f,args,hr,hc⟩
  ·rw[hr];exact h
  ·rw[hr];exact h
  ·rw[hr];refine hc.mono ?_;rintro e w' ⟨rfl,rfl⟩;exact h
 ·rw[if_neg (by rw[hw];decide)];exact h
theorem Qu {Q:Exit→Act→World→Prop} {j:Nat} {oj:Oper} (hj:ops[j]?=some oj) {K:Act→World→Prop} {a:Act} {w:World} (h:wpOp P ops Q j K a w):
  wpOp P ops Q j (fun a' w'=>((∃u,a'=a.put oj.dst u)∨∃d,a'=({a with defers:=d::a.defers}:Act).put oj.dst undef)∧K a' w') a w:=by
 unfold wpOp at*;simp only[hj]at*;split
 ·rename_i hw;rw[if_pos hw]at h;rcases h with h|h
  ·refine .inl ?_;unfold Oper.wp at*;generalize (execOp a.eval oj).run P w=r at*;cases r with
   |ok n w'=>
    cases n<;>simp only[Oper.upon]at h⊢
    case value u=>exact⟨.inl ⟨u,rfl⟩,h⟩
    case skip=>exact⟨.inl ⟨_,rfl⟩,h⟩
    case defer d=>exact⟨.inr ⟨d,rfl⟩,h⟩
    case enter f args=>
     refine h.mono fun e w'' he=>?_;cases e with
     |returned v=>exact⟨.inl ⟨v,rfl⟩,he⟩
     |panicked c=>exact he
     |outgrown=>exact he
    case row row args=>intro c cs;obtain⟨v,w'',hv,hs⟩:=h c cs;exact⟨v,w'',⟨.inl ⟨v,rfl⟩,hv⟩,hs⟩
   |halt x w'=>
    cases x<;>simp only[Oper.upon]at h⊢
    case panic v=>exact h
  ·exact .inr h
 ·rename_i hw;rw[if_neg hw]at h;exact⟨.inl ⟨_,rfl⟩,h⟩
theorem Qv {S:World→Prop} {Q:Exit→Act→World→Prop} {j:Nat} {oi oj:Oper} {v:Value} (hj:ops[j]?=some oj) (hap:oi.apart ops oj=true) (hsi:∀cs b,oi.op≠.select cs b) (hsj:∀cs b,oj.op≠.select cs b)
  (hQ:∀c a w,Q (.panic c) (a.put oi.dst v) w→Q (.panic c) a w) {K:Act→World→Prop} {a:Act} {w:World} (hy:YSm P ops S oi v a) (h:wpOp P ops Q j K (a.put oi.dst v) w):
  wpOp P ops Q j (fun a' w'=>YSm P ops S oi v a'∧K (a'.put oi.dst v) w') a w:=by
 obtain⟨h1,h2,h3⟩:=Oper.apart_spec hap;have hyF:YieldsIf P ops (fun _=>False) oi v a:=hy.imp (fun h=>⟨h.1,fun _ hf=>hf.elim⟩) id;refine wpOp_mono (fun a' w' h'=>?_) (Qu hj (wpOp_putIf hj hap hsi hsj hQ hyF h));refine⟨?_,h'.2.2⟩;rcases h'.1 with⟨u,rfl⟩|⟨d,rfl⟩
 ·exact hy.of_same (execOp_put oi hsi a oj.dst u h3) (wanted_put oi a oj.dst u h3)
 ·exact(hy.of_same (a':={a with defers:=d::a.defers}) rfl rfl).of_same (execOp_put oi hsi _ oj.dst _ h3) (wanted_put oi _ oj.dst _ h3)
theorem UM {Q:Exit→Act→World→Prop} {t0 i:Nat} {oi:Oper} {v:Value} {D:World→Prop} {inv:Array Bool→Prop} (hi:ops[i]?=some oi) (hsel:∀(j:Nat) (o:Oper) cs b,ops[j]?=some o→o.op≠.select cs b)
  (hQ:∀c a w,Q (.panic c) (a.put oi.dst v) w→Q (.panic c) a w) (hit:i≠t0) (hinv:∀aj j,inv aj→j∈Region.ready md ops aj→inv (aj.setIfInBounds j true))
  (hD:∀aj w,inv aj→aj.getD i true=false→SS C1 C2 t0 aj w→D w):
  ∀(fuel:Nat) (aj:Array Bool) (a:Act) (w:World),inv aj→
   (∀j oj,ops[j]?=some oj→j≠i→aj.getD j true=false→(∀e∈oj.after,Region.binds md e=true→e.on≠i)→oi.apart ops oj=true)→
   i∈Region.ready md ops aj→YSm P ops D oi v a→SS C1 C2 t0 aj w→
   wpAnyS P md ops Q C1 C2 t0 fuel (aj.setIfInBounds i true) (a.put oi.dst v) w→wpAnyS P md ops Q C1 C2 t0 (fuel+1) aj a w:=by
 intro fuel;induction fuel with
 |zero=>exact BH
 |succ fuel ih=>
  intro aj a w hv hfree hr hy hS H;refine⟨fun h=>gz,fun j hj=>?_⟩;by_cases hji:j=i
  ·subst hji;exact hy.wpOp hi (hD aj w hv (mem_ready.1 hr).1 hS) ⟨(SS.set hit _ _).2 hS,H⟩
  ·have h1:=H.2 j (ready_mono hj hji);obtain⟨hjun,oj,hoj,hall⟩:=mem_ready.1 hj;have hnot:∀e∈oj.after,Region.binds md e=true→e.on≠i:=fun e he hb heq=>by have h1:=hall e he hb;rw[heq,getD_both (mem_ready.1 hr).1]at h1;cases h1
   have h2:=Qv hoj (hfree j oj hoj hji hjun hnot) (fun cs b=>hsel i oi cs b hi) (fun cs b=>hsel j oj cs b hoj) hQ hy h1;have hfree':∀k ok,ops[k]?=some ok→k≠i→(aj.setIfInBounds j true).getD k true=false→
     (∀e∈ok.after,Region.binds md e=true→e.on≠i)→oi.apart ops ok=true:=fun k ok hk hki hun hno=>by
    exact qL
   refine wpOp_mono (fun a' w' h3=>?_) h2;have h4:SS C1 C2 t0 (aj.setIfInBounds j true) w':=by have:=h3.2.1;rw[Array.setIfInBounds_comm _ _ (Ne.symm hji)]at this;exact(SS.set hit _ _).1 this
   refine⟨h4,ih (aj.setIfInBounds j true) a' w' (hinv aj j hv hj) hfree' (ready_mono hr (Ne.symm hji)) h3.1 h4 ?_⟩;rw[Array.setIfInBounds_comm _ _ hji];exact h3.2.2
def Closed (md:Region.Mode) (ops:Array Oper) (aj:Array Bool):Prop:=∀j k,Region.waitsFor md ops j k=true→aj.getD j false=true→aj.getD k false=true
theorem Closed.set {aj:Array Bool} (h:Closed md ops aj) {j:Nat} (hj:j∈Region.ready md ops aj):Closed md ops (aj.setIfInBounds j true):=by
 intro m k hw hm;by_cases hjm:j=m
 ·subst hjm;obtain⟨o,ho,e,he,hb,hon⟩:=Region.waitsFor_spec hw;obtain⟨_,o',ho',hall⟩:=mem_ready.1 hj;have:o=o':=bD (ho.symm.trans ho');subst this;have:=hall e he hb;rw[hon]at this;exact getD_set_true this
 ·rw[getD_set_ne false hjm]at hm;exact getD_set_true (h m k hw hm)
def yZ (md:Region.Mode) (ops:Array Oper) (t0:Nat):Nat→Nat→Bool
 |0,i=>Region.waitsFor md ops t0 i
 |f+1,i=>Region.waitsFor md ops t0 i||(List.range ops.size).any fun j=>Region.waitsFor md ops j i&&yZ md ops t0 f j
theorem zQ {t0:Nat} {aj:Array Bool} (h:Closed md ops aj) (ht:aj.getD t0 false=true):∀(f i:Nat),yZ md ops t0 f i=true→aj.getD i false=true
 |0,i,hl=>h t0 i hl ht
 |f+1,i,hl=>by
  unfold yZ at hl
  simp only[Bool.or_eq_true,List.any_eq_true,Bool.and_eq_true]at hl
  rcases hl with hl|⟨j,_,hw,hl⟩
  ·exact h t0 i hl ht
  ·exact h j i hw (zQ h ht f j hl)
def AV (md:Region.Mode) (ops:Array Oper) (t0:Nat) (early:Bool) (next:Array Bool→Bool):List Nat→Array Bool→Bool
 |[],aj=>next aj
 |i::rest,aj=>(Region.ready md ops aj).contains i&&Region.free md ops aj i&&(early||match ops[i]? with|some o=>Op.reads o.op|none=>false)&&i !=t0&&(!early||yZ md ops t0 12 i)&&AV md ops t0 early next rest (aj.setIfInBounds i true)
theorem uA {Q:Exit→Act→World→Prop} {t0 g:Nat} {D:World→Prop} {K:Act→Prop} {next:Array Bool→Bool} (early:Bool) (w:World) (hE:early=true→∀w1,D w1↔w1=w) (hE1:early=true→∀w1,C1 w1→w1=w) (hL:early=false→∀w,(C1 w∨C2 w)→D w) (hsel:Region.noSelect ops=true)
  (hQ:∀d v c a w,Q (.panic c) (Act.put a d v) w→Q (.panic c) a w) (h1:C1 w) (h2:C2 w)
  (hn:∀aj a,next aj=true→aj.size=ops.size→Closed md ops aj→K a→wpAnyS P md ops Q C1 C2 t0 g aj a w):
  ∀(head:List Nat) (aj:Array Bool) (a:Act),AV md ops t0 early next head aj=true→aj.size=ops.size→Closed md ops aj→
   wpQuiet P ops D K (head.map fun i=>ops.getD i default) a→wpAnyS P md ops Q C1 C2 t0 (head.length+g) aj a w
 |[],aj,a,hB,hsz,hcl,h=>by rw[List.length_nil,Nat.zero_add];exact hn aj a hB hsz hcl h
 |i::rest,aj,a,hB,hsz,hcl,h=>by
  simp only[AV,Bool.and_eq_true,bne_iff_ne,ne_eq]at hB
  obtain⟨⟨⟨⟨⟨hr,hf⟩,hrd⟩,hit⟩,hew⟩,hB'⟩:=hB
  have hi:i∈Region.ready md ops aj:=fQ
  obtain⟨_,o,ho,_⟩:=mem_ready.1 hi
  have hg:ops.getD i default=o:=by simp[ho]
  rw[ho]at hrd
  simp only[List.map_cons,hg]at h
  have hSS:SS C1 C2 t0 aj w:=by unfold SS;split<;>assumption
  have hgo:=uA early w hE hE1 hL hsel hQ h1 h2 hn rest (aj.setIfInBounds i true)
  rw[show(i::rest).length+g=(rest.length+g)+1 from bU]
  have fin:∀v,YSm P ops D o v a→wpAnyS P md ops Q C1 C2 t0 (rest.length+g) (aj.setIfInBounds i true) (a.put o.dst v) w→wpAnyS P md ops Q C1 C2 t0 (rest.length+g+1) aj a w:=fun v hy H=>
   UM (inv:=Closed md ops) ho (Region.noSelect_spec hsel) (hQ o.dst v) hit (fun L j hv hj=>hv.set hj)
    (fun L w1 hv hun hS=>by
     cases he:early with
     |true=>
      have hl:yZ md ops t0 12 i=true:=by simpa[he]using hew
      have ht:L.getD t0 false=false:=by
       exact vW
      unfold SS at hS
      rw[ht]at hS
      exact(hE he w1).2 (hE1 he w1 (by simpa using hS))
     |false=>exact hL he w1 (by unfold SS at hS;split at hS<;>simp[hS])) _ aj a w hcl (Region.free_spec ho hf) hi hy hSS H
  unfold wpQuiet at h
  split at h
  ·rename_i hwant
   obtain⟨v,g1,g2⟩:=h
   refine fin v (.inl ⟨hwant,fun w1 iI=>?_⟩) (hgo _ hB' jc (hcl.set hi) g2)
   have h3:=g1 w1 iI
   unfold Oper.quietAt at h3
   unfold Same
   cases hx:(execOp a.eval o).run P w1 with
   |ok n w2=>
    rw[hx]at h3
    cases he:early with
    |true=>
     cases n<;>simp only[Oper.quietUpon]at h3
     case value u=>exact .inl (by rw[h3.1,h3.2])
     case skip=>exact .inr (.inl ⟨by rw[h3.1],h3.2⟩)
     case enter f args=>
      refine .inr (.inr ⟨f,args,by rw[h3.1],h3.2.mono fun e w'' ⟨h4,h5⟩=>⟨h4,?_⟩⟩)
      rw[(hE he w'').1 h5,(hE he w1).1 iI]
    |false=>
     obtain⟨u,rfl⟩:=pW (by simpa[he]using hrd) hx
     simp only[Oper.quietUpon]at h3
     exact .inl (by rw[h3.1,h3.2])
   |halt x w2=>
    rw[hx]at h3
    simp only[Oper.quietUpon]at h3
  ·rename_i hwant
   exact fin undef (.inr ⟨by simpa using hwant,rfl⟩) (hgo _ hB' jc (hcl.set hi) h)
end
structure One (w:World) where
 out:World
 eq:out=w
instance (w:World):Inhabited (One w):=⟨⟨w,rfl⟩⟩
structure lq (w:World) (B C:Nat) where
 out:World
 os:out.os=w.os
 tape:out.tape=w.tape
 output:out.output=w.output
 size:w.heap.size≤out.heap.size
 block:∀k,k<w.heap.size→k≠B→k≠C→out.heap[k]?=w.heap[k]?
def aeP (w:World) (B C:Nat):lq w B C:=⟨w,rfl,rfl,rfl,aH _,fun _ _ _ _=>rfl⟩
instance (w:World) (B C:Nat):Inhabited (lq w B C):=⟨aeP w B C⟩
def adD (w:World) (B C:Nat):lq w B C:=⟨w.drew,(aK w.heap.size w).drew.os,(aK w.heap.size w).drew.tape,(aK w.heap.size w).drew.output,(aK w.heap.size w).drew.size,fun k hk _ _=>(aK w.heap.size w).drew.block k hk⟩
def lq.set {w:World} {B C:Nat} (x:lq w B C) (p:Addr) (hp:p.block=B∨p.block=C) (u:Value):lq w B C:=
 ⟨x.out.setCell p u,x.os,x.tape,x.output,by simpa[World.setCell]using x.size,fun k hk h1 h2=>(dI _ _ _ _ (by rcases hp with hp|hp<;>rw[hp]<;>assumption)).trans (x.block k hk h1 h2)⟩
theorem Xx {w:World} {B C:Nat} (x:lq w B C) (N:Nat) (hN:N=w.heap.size) (b o:Nat):x.out.cell? ⟨b,o,none⟩=if b<N then(if b=B then Ti x.out b o else if b=C then Ti x.out b o else w.cell? ⟨b,o,none⟩)else Ti x.out b o:=by
 subst hN;split
 ·split
  ·rfl
  ·split
   ·rfl
   ·exact bg (a:=⟨b,o,none⟩) (x.block b ‹_› ‹_› ‹_›)
 ·rfl
structure aeQ (w:World) (B C N:Nat):Prop where
 eq:N=w.heap.size
 cell:∀(x:lq w B C) (b o:Nat),x.out.cell? ⟨b,o,none⟩=if b<N then(if b=B then Ti x.out b o else if b=C then Ti x.out b o else w.cell? ⟨b,o,none⟩)else Ti x.out b o
structure Qs (w:World):Prop where
 cell:∀(x:One w.drew) (b o:Nat),x.out.cell? ⟨b,o,none⟩=w.cell? ⟨b,o,none⟩
def adE (ops:Array Oper) (early late tail:List Nat) (t0:Nat):Bool:=
 Region.noSelect ops&&AV .any ops t0 true (AV .any ops t0 false (kW .any ops tail) late) early (Array.replicate ops.size false)&&decide (early.length+(late.length+tail.length)=ops.size)&&decide (tail.head?=some t0)&&decide (t0<ops.size)
theorem EU {P:Program} {id:Nat} {Q:Exit→Act→World→Prop} {a:Act} {w:World} {l:List Oper} (B C:Nat) (early late tail:List Nat) (t0:Nat) (hm:P.follows .mixedOrders=true) (hB:adE l.toArray early late tail t0=true)
  (h:∀N,Qs w→aeQ w B C N→wpQuiet P l.toArray (fun w'=>∃x:One w.drew,w'=x.out) (fun a1=>wpQuiet P l.toArray (fun w'=>∃x:lq w B C,w'=x.out) (fun a2=>fH P l.toArray (fun w'=>∃x:lq w B C,w'=x.out) (bz Q) (tail.map fun i=>l.getD i default) a2 w.drew)
   (late.map fun i=>l.getD i default) a1) (early.map fun i=>l.getD i default) a):
  (Code.region id l.toArray true).wp P Q a w:=by
 refine Code.wp_mono bz.imp (wp_region_any hm (l_ (C1:=fun w'=>w'=w.drew) (C2:=fun w'=>∃x:lq w B C,w'=x.out) (t0:=t0) _ _ _ _ ?_));simp only[adE,Bool.and_eq_true,decide_eq_true_eq]at hB;obtain⟨⟨⟨⟨hsel,hB⟩,hsz⟩,hh⟩,ht⟩:=hB;have h2:∃x:lq w B C,w.drew=x.out:=⟨adD w B C,rfl⟩
 have h':=h _ ⟨fun x b o=>by rw[x.eq];exact bg (a:=⟨b,o,none⟩) rfl⟩ ⟨rfl,fun x=>Xx x _ rfl⟩;rw[←iT]at h';have:=uA (P:=P) (md:=.any) (Q:=bz Q) (g:=late.length+tail.length) (D:=fun w'=>∃x:One w.drew,w'=x.out) (t0:=t0) (C1:=fun w'=>w'=w.drew) (C2:=fun w'=>∃x:lq w B C,w'=x.out) true w.drew
  (fun _ w1=>⟨fun⟨x,hx⟩=>hx.trans x.eq,fun hx=>⟨⟨w1,hx⟩,rfl⟩⟩) (fun _ _ h=>h) av hsel (fun d v=>bz.put d v) rfl h2
  (next:=AV .any l.toArray t0 false (kW .any l.toArray tail) late)
  (fun aj a1 hnx hls hcl hq=>uA (P:=P) (md:=.any) (C1:=fun w'=>w'=w.drew) (C2:=fun w'=>∃x:lq w B C,w'=x.out) (t0:=t0) (Q:=bz Q) (g:=tail.length) (D:=fun w'=>∃x:lq w B C,w'=x.out) (next:=kW .any l.toArray tail) false w.drew av av
   (fun _ w1 iI=>by
    rcases iI with rfl|iI
    ·exact⟨adD w B C,rfl⟩
    ·exact iI) hsel (fun d v=>bz.put d v) rfl h2 (fun aj a2 hnx hls hcl hq=>oC tail aj a2 w.drew hnx (.inr hh) h2 (by rw[hls];exact ht) hq) late aj a1 hnx hls hcl hq) early _ a hB av
   (fun j k _ hj=>by exfalso;simp[Array.getElem?_replicate]at hj;split at hj<;>simp at hj) h'
 rw[hsz]at this;exact this
section
variable {P:Program} {ops:Array Oper} {md:Region.Mode} {C1:World→Prop}
def FR (md:Region.Mode) (ops:Array Oper) (t0:Nat) (next:Array Bool→Bool):List Nat→Array Bool→Bool
 |[],aj=>next aj
 |i::rest,aj=>(Region.ready md ops aj).contains i&&Region.free md ops aj i&&(match ops[i]? with|some o=>Op.reads o.op|none=>false)&&i !=t0&&yZ md ops t0 12 i&&FR md ops t0 next rest (aj.setIfInBounds i true)
theorem pE {Q:Exit→Act→World→Prop} {t0 g:Nat} {D:World→Prop} {K:Act→Prop} {next:Array Bool→Bool} (hD:∀w,C1 w→D w) (hsel:Region.noSelect ops=true) (hQ:∀d v c a w,Q (.panic c) (Act.put a d v) w→Q (.panic c) a w) (w:World) (h1:C1 w)
  (hn:∀aj a,next aj=true→aj.size=ops.size→K a→wpAnyS P md ops Q C1 (fun _=>True) t0 g aj a w):
  ∀(head:List Nat) (aj:Array Bool) (a:Act),FR md ops t0 next head aj=true→aj.size=ops.size→Closed md ops aj→
   wpQuiet P ops D K (head.map fun i=>ops.getD i default) a→wpAnyS P md ops Q C1 (fun _=>True) t0 (head.length+g) aj a w
 |[],aj,a,hB,hsz,hcl,h=>by rw[List.length_nil,Nat.zero_add];exact hn aj a hB hsz h
 |i::rest,aj,a,hB,hsz,hcl,h=>by
  simp only[FR,Bool.and_eq_true,bne_iff_ne,ne_eq]at hB
  obtain⟨⟨⟨⟨⟨hr,hf⟩,hrd⟩,hit⟩,hl⟩,hB'⟩:=hB
  have hi:i∈Region.ready md ops aj:=fQ
  obtain⟨_,o,ho,_⟩:=mem_ready.1 hi
  have hg:ops.getD i default=o:=by simp[ho]
  rw[ho]at hrd
  simp only[List.map_cons,hg]at h
  have hSS:SS C1 (fun _=>True) t0 aj w:=by unfold SS;split<;>trivial
  have hgo:=pE hD hsel hQ w h1 hn rest (aj.setIfInBounds i true)
  rw[show(i::rest).length+g=(rest.length+g)+1 from bU]
  have fin:∀v,YieldsIf P ops D o v a→wpAnyS P md ops Q C1 (fun _=>True) t0 (rest.length+g) (aj.setIfInBounds i true) (a.put o.dst v) w→wpAnyS P md ops Q C1 (fun _=>True) t0 (rest.length+g+1) aj a w:=fun v hy H=>
   wpAnyS_first (inv:=Closed md ops) ho (Region.noSelect_spec hsel) (hQ o.dst v) hit (fun L j hv hj _ _=>hv.set hj)
    (fun L w1 hv hun hS=>by
     have ht:L.getD t0 false=false:=by
      exact vW
     unfold SS at hS
     rw[ht]at hS
     exact hD w1 (by simpa using hS)) _ aj a w hcl (Region.free_spec ho hf) hi hy hSS H
  unfold wpQuiet at h
  split at h
  ·rename_i hwant
   obtain⟨v,g1,g2⟩:=h
   refine fin v (.inl ⟨hwant,fun w1 iI=>?_⟩) (hgo _ hB' jc (hcl.set hi) g2)
   have h3:=g1 w1 iI
   unfold Oper.quietAt at h3
   cases hx:(execOp a.eval o).run P w1 with
   |ok n w2=>
    obtain⟨u,rfl⟩:=pW hrd hx
    rw[hx]at h3
    simp only[Oper.quietUpon]at h3
    rw[h3.1,h3.2]
   |halt x w2=>
    rw[hx]at h3
    simp only[Oper.quietUpon]at h3
  ·rename_i hwant
   exact fin undef (.inr ⟨by simpa using hwant,rfl⟩) (hgo _ hB' jc (hcl.set hi) h)
def gZ (P:Program) (ops:Array Oper) (S:World→Prop) (Q:Exit→Act→World→Prop) (t0:Nat):List Nat→Act→World→Prop
 |[],a,w=>Q .normal a w
 |i::rest,a,w=>if Region.wanted (ops.getD i default) (yielded ops a.tmps)then(ops.getD i default).wp P a w (fun a' w'=>(i≠t0→S w')∧(if i=t0 then fH P ops (fun _=>True) Q (rest.map fun j=>ops.getD j default) a' w' else gZ P ops S Q t0 rest a' w')) Q
   else(i≠t0→S w)∧(if i=t0 then fH P ops (fun _=>True) Q (rest.map fun j=>ops.getD j default) (a.put (ops.getD i default).dst undef) w else gZ P ops S Q t0 rest (a.put (ops.getD i default).dst undef) w)
theorem y_ {S:World→Prop} {Q:Exit→Act→World→Prop} {t0 i:Nat} {rest:List Nat} {a:Act} {w:World} (hi:i≠t0) {o:Oper} (ho:ops.getD i default=o) (hw:Region.wanted o (yielded ops a.tmps)=true)
  (h:o.wp P a w (fun a' w'=>S w'∧gZ P ops S Q t0 rest a' w') Q):gZ P ops S Q t0 (i::rest) a w:=by unfold gZ;rw[ho,if_pos hw];exact Oper.wp_mono (fun a' w' h'=>⟨fun _=>h'.1,by rw[if_neg hi];exact h'.2⟩) h
theorem gN {S:World→Prop} {Q:Exit→Act→World→Prop} {t0 i:Nat} {rest:List Nat} {a:Act} {w w1:World} {v:Value} (hi:i≠t0) {o:Oper} (ho:ops.getD i default=o) (hw:Region.wanted o (yielded ops a.tmps)=true) (hr:(execOp a.eval o).run P w=.ok (.value v) w1)
  (h1:S w1) (h2:gZ P ops S Q t0 rest (a.put o.dst v) w1):gZ P ops S Q t0 (i::rest) a w:=by refine y_ hi ho hw ?_;unfold Oper.wp;rw[hr];exact⟨h1,h2⟩
theorem kH {S:World→Prop} {Q:Exit→Act→World→Prop} {t0:Nat} {rest:List Nat} {a:Act} {w:World} {o:Oper} (ho:ops.getD t0 default=o) (hw:Region.wanted o (yielded ops a.tmps)=true)
  (h:o.wp P a w (fun a' w'=>fH P ops (fun _=>True) Q (rest.map fun j=>ops.getD j default) a' w') Q):gZ P ops S Q t0 (t0::rest) a w:=by unfold gZ;rw[ho,if_pos hw];exact Oper.wp_mono (fun a' w' h'=>⟨fun hne=>absurd rfl hne,by rw[if_pos rfl];exact h'⟩) h
theorem uz {Q:Exit→Act→World→Prop} {t0:Nat}:∀(tail:List Nat) (aj:Array Bool) (a:Act) (w:World),kW md ops tail aj=true→aj.getD t0 false=false→t0<aj.size→
  gZ P ops C1 Q t0 tail a w→wpAnyS P md ops Q C1 (fun _=>True) t0 tail.length aj a w
 |[],aj,a,w,hB,_,_,h=>⟨by simpa[kW]using hB,h⟩
 |i::rest,aj,a,w,hB,ht,hlt,h=>by
  simp only[kW,Bool.and_eq_true,decide_eq_true_eq]at hB
  have hi:i∈Region.ready md ops aj:=by rw[hB.1];simp
  obtain⟨_,o,ho,_⟩:=mem_ready.1 hi
  have hg:ops.getD i default=o:=by simp[ho]
  refine⟨fun h0=>(by rw[hB.1]at h0;cases h0),fun j hj=>?_⟩
  rw[hB.1]at hj
  obtain rfl:j=i:=by simpa using hj
  unfold gZ at h
  rw[hg]at h
  have next:∀a' w',((j≠t0→C1 w')∧(if j=t0 then fH P ops (fun _=>True) Q (rest.map fun j=>ops.getD j default) a' w' else gZ P ops C1 Q t0 rest a' w'))→
    SS C1 (fun _=>True) t0 (aj.setIfInBounds j true) w'∧wpAnyS P md ops Q C1 (fun _=>True) t0 rest.length (aj.setIfInBounds j true) a' w':=by
   intro a' w' ⟨g1,g2⟩
   by_cases hjt:j=t0
   ·subst hjt
    rw[if_pos rfl]at g2
    have hl:(aj.setIfInBounds j true).getD j false=true:=by simp[hlt]
    exact⟨by unfold SS;rw[if_pos hl];trivial,oC rest _ a' w' hB.2 (.inl hl) trivial (by simpa using hlt) g2⟩
   ·rw[if_neg hjt]at g2
    have hl:(aj.setIfInBounds j true).getD t0 false=false:=by rw[getD_set_ne false hjt];exact ht
    exact⟨by unfold SS;rw[hl];simpa using g1 hjt,uz rest _ a' w' hB.2 hl (by simpa using hlt) g2⟩
  unfold wpOp
  simp only[ho]
  split
  ·rename_i hw
   rw[if_pos hw]at h
   exact .inl (Oper.wp_mono (fun a' w' h'=>next a' w' h') h)
  ·rename_i hw
   rw[if_neg hw]at h
   exact next _ _ h
end
def Jn (ops:Array Oper) (head late tail:List Nat) (t0:Nat):Bool:=
 Region.noSelect ops&&FR .any ops t0 (nS .any ops t0 false (fun aj=>kW .any ops tail aj&& !aj.getD t0 false) late) head (Array.replicate ops.size false)&&decide (head.length+(late.length+tail.length)=ops.size)&&decide (t0<ops.size)
theorem iR {P:Program} {id:Nat} {Q:Exit→Act→World→Prop} {a:Act} {w:World} {l:List Oper} (head late tail:List Nat) (t0:Nat) (hm:P.follows .mixedOrders=true) (hB:Jn l.toArray head late tail t0=true)
  (h:∀N,qd w N→wpQuiet P l.toArray (fun w'=>∃x:dh w,w'=x.out) (fun a1=>wpQuiet P l.toArray (fun _=>True) (fun a2=>gZ P l.toArray (fun w'=>∃x:dh w,w'=x.out) (bz Q) t0 tail a2 w.drew)
   (late.map fun i=>l.getD i default) a1) (head.map fun i=>l.getD i default) a):
  (Code.region id l.toArray true).wp P Q a w:=by
 refine Code.wp_mono bz.imp (wp_region_any hm (l_ (C1:=fun w'=>∃x:dh w,w'=x.out) (C2:=fun _=>True) (t0:=t0) _ _ _ _ ?_));simp only[Jn,Bool.and_eq_true,decide_eq_true_eq]at hB;obtain⟨⟨⟨hsel,hB⟩,hsz⟩,ht⟩:=hB;refine qK ?_;intro h1;have h':=h _ (rules w _ rfl);rw[←iT]at h';have:=pE (P:=P) (md:=.any) (Q:=bz Q) (g:=late.length+tail.length) (C1:=fun w'=>∃x:dh w,w'=x.out) (D:=fun w'=>∃x:dh w,w'=x.out) (t0:=t0) (fun _ hw=>hw) hsel (fun d v=>bz.put d v) w.drew h1
  (next:=nS .any l.toArray t0 false (fun aj=>kW .any l.toArray tail aj&& !aj.getD t0 false) late)
  (fun aj a1 hnx hls hq=>jR (P:=P) (md:=.any) (Q:=bz Q) (g:=tail.length) (C1:=fun w'=>∃x:dh w,w'=x.out) (C2:=fun _=>True) (D:=fun _=>True) (t0:=t0)
   (next:=fun aj=>kW .any l.toArray tail aj&& !aj.getD t0 false) false av (fun _ _ _=>trivial) hsel (fun d v=>bz.put d v) w.drew h1 trivial
   (fun aj a2 hnx hls hq=>by
    simp only[Bool.and_eq_true,Bool.not_eq_true']at hnx
    exact uz tail aj a2 w.drew hnx.1 hnx.2 (by rw[hls];exact ht) hq) late aj a1 hnx hls hq) head _ a hB av
  (fun j k _ hj=>by exfalso;simp[Array.getElem?_replicate]at hj;split at hj<;>simp at hj) h'
 rw[hsz]at this;exact this
end Qt
namespace Qn
open Go Go.RowKit Qt
section
variable {P:Program} {ops:Array Oper} {md:Region.Mode}
theorem Ym {Q:Exit→Act→World→Prop} {n:Nat} {o:Oper} {a:Act} {w:World} {K K':Act→World→Prop} (hd:∀c,o.op≠.defer c) (hQ:¬LetsOut Q) (hK:∀a w,K a w→K' a w)
  (h:o.wp P a w K Q∨(o.asks P a w∧LetsOut Q)):o.wpIn Fence.wide n P a w K' Q:=by
 rcases h with h|h
 ·refine⟨fun _ _=>trivial,?_⟩;rw[Oper.semAt_eq _ _ _ hd];unfold Oper.wp at h;generalize (execOp a.eval o).run P w=r at*;cases r with
  |ok m w'=>
   cases m<;>simp only[Oper.upon]at h<;>simp only[Oper.uponIn]
   case value v=>exact hK _ _ h
   case skip=>exact hK _ _ h
   case defer d=>exact hK _ _ h
   case enter f args=>
    refine⟨(fun hh=>by cases hh),(callsIn_wide.2 h).mono fun e w'' he=>?_⟩;cases e with
    |returned v=>exact hK _ _ he
    |panicked c=>exact he
    |outgrown=>exact he
   case row row args=>refine⟨(fun hh=>by cases hh),fun c cs _=>?_⟩;obtain⟨v,w'',hv,hs⟩:=h c cs;exact⟨v,w'',hK _ _ hv,stepsIn_wide.2 hs⟩
  |halt x w'=>
   cases x<;>simp only[Oper.upon]at h<;>simp only[Oper.uponIn]
   case panic v=>exact h
 ·exact absurd h.2 hQ
theorem Yn {Q:Exit→Act→World→Prop} {n i:Nat} {a:Act} {w:World} {K K':Act→World→Prop} (hd:qM ops=true) (hQ:¬LetsOut Q) (hK:∀a w,K a w→K' a w)
  (h:wpOp P ops Q i K a w):wpOpIn Fence.wide n P ops Q i K' a w:=by
 unfold wpOp at h;unfold wpOpIn;cases ho:ops[i]? with
 |none=>simp only[ho]at h;exact hK _ _ h
 |some o=>
  simp only[ho]at h;simp only;split
  ·rename_i hw;rw[if_pos hw]at h;exact Ym (zR hd ho) hQ hK h
  ·rename_i hw;rw[if_neg hw]at h;exact⟨fun _ _=>trivial,hK _ _ h⟩
theorem Jz {Q:Exit→Act→World→Prop} {n:Nat} (hd:qM ops=true) (hQ:¬LetsOut Q):
  ∀(f:Nat) (aj:Array Bool) (a:Act) (w:World),wpAny P md ops Q f aj a w→wpAnyIn Fence.wide n P md ops Q f aj a w
 |0,_,_,_,h=>h
 |f+1,aj,a,w,h=>⟨h.1,fun i hi=>Yn hd hQ (fun a' w' h'=>Jz hd hQ f _ a' w' h') (h.2 i hi)⟩
theorem nA {id n:Nat} {Q:Exit→Act→World→Prop} {a:Act} {w:World} {l:List Oper} (k:Nat) (hm:P.follows .mixedOrders=true) (hB:Region.lexTailB .any l.toArray k=true) (hd:qM l.toArray=true)
  (h:∀N,qd w N→wpQuiet P l.toArray (fun w'=>∃x:dh w,w'=x.out) (fun a'=>∀w',(∃x:dh w,w'=x.out)→wpList P l.toArray (bz Q) (l.drop k) a' w') (l.take k) a):
  (Code.region id l.toArray true).wpIn Fence.wide n P Q a w:=
 wpIn_mono (wpIn_region_any hm (Jz hd bz.stays _ _ _ _ (AX (C:=fun w'=>∃x:dh w,w'=x.out) k hB ⟨⟨w.drew,(aK _ _).drew⟩,rfl⟩ (h _ (rules w _ rfl))))) bz.imp
theorem sU {Q:Exit→Act→World→Prop} {a:Act} {w:World} (h:Q .normal a w):bz Q .normal a w:=h
end
end Qn
namespace Qt
open Go Go.RowKit
variable {P:Program} {id:Nat} {Q:Exit→Act→World→Prop} {a:Act} {w:World} {l:List Oper}
theorem bK (n:Nat) (hm:P.follows .mixedOrders=true) (hB:Region.lexTailB .any l.toArray n=true)
  (h:Qs w→wpQuiet P l.toArray (fun w'=>∃x:One w.drew,w'=x.out) (fun a'=>wpList P l.toArray Q (l.drop n) a' w.drew) (l.take n) a):(Code.region id l.toArray true).wp P Q a w:=by
 refine oz (C:=fun w'=>∃x:One w.drew,w'=x.out) n hm hB ⟨⟨w.drew,rfl⟩,rfl⟩ ?_;have e:(fun a'=>∀w',(∃x:One w.drew,w'=x.out)→wpList P l.toArray Q (l.drop n) a' w')=(fun a'=>wpList P l.toArray Q (l.drop n) a' w.drew):=by
  funext a';apply propext;constructor
  ·intro h;exact h _ ⟨⟨w.drew,rfl⟩,rfl⟩
  ·rintro h w' ⟨x,rfl⟩;rw[x.eq];exact h
 rw[e];exact h ⟨fun x b o=>by rw[x.eq];exact bg (a:=⟨b,o,none⟩) rfl⟩
theorem ll (hm:P.follows .mixedOrders=true) (hB:Region.lexB .any l.toArray=true)
  (h:Qs w→wpQuiet P l.toArray (fun w'=>∃x:One w.drew,w'=x.out) (fun a'=>Q .normal a' w.drew) l a):(Code.region id l.toArray true).wp P Q a w:=by
 refine wp_region_quiet (C:=fun w'=>∃x:One w.drew,w'=x.out) hm hB ⟨⟨w.drew,rfl⟩,rfl⟩ ?_;have e:(fun a'=>∀w',(∃x:One w.drew,w'=x.out)→Q .normal a' w')=(fun a'=>Q .normal a' w.drew):=by
  funext a';apply propext;constructor
  ·intro h;exact h _ ⟨⟨w.drew,rfl⟩,rfl⟩
  ·rintro h w' ⟨x,rfl⟩;rw[x.eq];exact h
 rw[e];exact h ⟨fun x b o=>by rw[x.eq];exact bg (a:=⟨b,o,none⟩) rfl⟩
variable {ops:Array Oper}
theorem Ci:¬LetsOut (bz Q):=fun⟨_,_,h⟩=>h
theorem jL:∀(l:List Oper) (a:Act) (w:World),wpList P ops (bz Q) l a w→fH P ops (fun _=>True) (bz Q) l a w
 |[],a,w,h=>h
 |o::rest,a,w,h=>by
  unfold fH
  unfold wpList at h
  split
  ·rename_i hw
   rw[if_pos hw]at h
   rcases h with h|h
   ·exact Oper.wp_mono (fun a' w' h'=>⟨trivial,jL rest a' w' h'⟩) h
   ·exact absurd h.2 Ci
  ·rename_i hw
   rw[if_neg hw]at h
   exact jL rest _ w h
theorem zT {S:World→Prop} {t0:Nat} {rest:List Nat} (hS:S w)
  (h:wpList P l.toArray (bz Q) ((t0::rest).map fun i=>l.getD i default) a w):gZ P l.toArray S (bz Q) t0 (t0::rest) a w:=by
 have e:l.toArray.getD t0 default=l.getD t0 default:=congrFun (iT l) t0;unfold gZ;rw[e,iT];simp only[List.map_cons]at h;unfold wpList at h;split
 ·rename_i hw;rw[if_pos hw]at h;rcases h with h|h
  ·exact Oper.wp_mono (fun a' w' h'=>⟨fun hne=>absurd rfl hne,by rw[if_pos rfl];exact jL _ _ _ h'⟩) h
  ·exact absurd h.2 Ci
 ·rename_i hw;rw[if_neg hw]at h;exact⟨fun hne=>absurd rfl hne,by rw[if_pos rfl];exact jL _ _ _ h⟩
theorem pF {C:World→Prop} {L L':Act→Prop} (h:∀a,L a→L' a):∀(l:List Oper) (a:Act),wpQuiet P ops C L l a→wpQuiet P ops C L' l a
 |[],a,hh=>h a hh
 |o::l,a,hh=>by
  unfold wpQuiet at hh⊢
  split
  ·rename_i hw
   rw[if_pos hw]at hh
   obtain⟨v,h1,h2⟩:=hh
   exact⟨v,h1,pF h l _ h2⟩
  ·rename_i hw
   rw[if_neg hw]at hh
   exact pF h l _ hh
theorem wK {id:Nat} (head late rest:List Nat) (t0:Nat) (hm:P.follows .mixedOrders=true) (hB:Jn l.toArray head late (t0::rest) t0=true)
  (h:∀N,qd w N→wpQuiet P l.toArray (fun w'=>∃x:dh w,w'=x.out) (fun a1=>wpQuiet P l.toArray (fun _=>True) (fun a2=>wpList P l.toArray (bz Q) ((t0::rest).map fun i=>l.getD i default) a2 w.drew)
   (late.map fun i=>l.getD i default) a1) (head.map fun i=>l.getD i default) a):
  (Code.region id l.toArray true).wp P Q a w:=by refine iR head late (t0::rest) t0 hm hB fun N hN=>?_;have:=h N hN;exact pF (fun a1 h1=>pF (fun a2 h2=>zT ⟨⟨w.drew,(aK _ _).drew⟩,rfl⟩ h2) _ _ h1) _ _ this
section
variable {P:Program} {ops:Array Oper} {md:Region.Mode} {C:World→Prop}
def qW (md:Region.Mode) (ops:Array Oper) (n:Nat):Bool:=
 (List.range ops.size).all fun t=>decide (t≤n)||(List.range t).any fun k=>decide (n≤k)&&Region.waitsFor md ops t k
theorem CB {n:Nat} {aj:Array Bool} (hs:Region.sinkB md ops n=true) (hc:qW md ops n=true) (hn:n<ops.size) (inv:HeadInv md ops n aj):
  ∀(d i:Nat),n-i=d→i<n→aj.getD i true=false→∀t,n≤t→t∉Region.ready md ops aj:=by
 intro d;induction d using Nat.strongRecOn with
 |_ d ih=>
  intro i hd hi hun t ht hr;obtain⟨_,ot,hot,hall⟩:=mem_ready.1 hr;have htlt:t<ops.size:=(Array.getElem?_eq_some_iff.1 hot).1;by_cases htn:t=n
  ·subst htn;have h1:=List.all_eq_true.1 hs i (List.mem_range.2 hi);obtain⟨j,hj,hj2⟩:=List.any_eq_true.1 h1;simp only[Bool.and_eq_true,decide_eq_true_eq]at hj2;obtain⟨oj,hoj,e,he,hb,hon⟩:=Region.waitsFor_spec hj2.2;have hjle:j≤t:=by have:=List.mem_range.1 hj;omega
   by_cases hjt:j=t
   ·subst hjt;have:oj=ot:=bD (hoj.symm.trans hot);subst this;have h2:=hall e he hb;rw[hon,getD_both hun]at h2;cases h2
   ·cases hl:aj.getD j false with
    |true=>have h2:=inv.closed j oj hoj hl e he hb;rw[hon,getD_both hun]at h2;cases h2
    |false=>
     have hjs:j<aj.size:=by rw[inv.size];omega
     exact ih (t-j) ae j rfl ae (getD_in hjs hl) t (aH _) hr
  ·have h1:=List.all_eq_true.1 hc t (List.mem_range.2 htlt);exact CE
theorem IV {n i:Nat} {oi:Oper} {v:Value} {L:Array Bool→Act→Prop} (hi:ops[i]?=some oi) (hsel:∀(j:Nat) (o:Oper) cs b,ops[j]?=some o→o.op≠.select cs b)
  (hs:Region.sinkB md ops n=true) (hc:qW md ops n=true) (hn:n<ops.size) (hin:i<n)
  (hdone:∀aj a,L aj a→∀j∈Region.ready md ops aj,n≤j):
  ∀(f:Nat) (aj:Array Bool) (a:Act),HeadInv md ops n aj→
   (∀j oj,ops[j]?=some oj→j≠i→aj.getD j true=false→(∀e∈oj.after,Region.binds md e=true→e.on≠i)→oi.apart ops oj=true)→
   i∈Region.ready md ops aj→YieldsIn P ops C oi v a→
   qj P md ops C n L f (aj.setIfInBounds i true) (a.put oi.dst v)→qj P md ops C n L (f+1) aj a:=by
 intro f;induction f with
 |zero=>
  intro aj a inv _ hr hy H;have hun:=(mem_ready.1 hr).1;refine⟨fun h=>gz,fun j hj=>?_⟩;have hjn:j<n:=by
   rcases Nat.lt_or_ge j n with h|h
   ·exact h
   ·exact absurd hj (CB hs hc hn inv _ i rfl hin hun j h)
  exact wI
 |succ f ih=>
  intro aj a inv hfree hr hy H;have hun:=(mem_ready.1 hr).1;refine⟨fun h=>gz,fun j hj=>?_⟩;have hjn:j<n:=by
   rcases Nat.lt_or_ge j n with h|h
   ·exact h
   ·exact absurd hj (CB hs hc hn inv _ i rfl hin hun j h)
  exact wJ
def M9 (md:Region.Mode) (ops:Array Oper):Nat→Nat→Array Bool→Bool
 |0,_,aj=>(Region.ready md ops aj).isEmpty
 |g+1,k,aj=>(decide (Region.ready md ops aj=[k])||((Region.ready md ops aj).contains k&&Region.free md ops aj k&&match ops[k]? with|some o=>Op.vZ o.op|none=>false))&&M9 md ops g (k+1) (aj.setIfInBounds k true)
theorem pM {Q':Exit→Act→World→Prop} (hsel:Region.noSelect ops=true) (hQ:∀d v c a w,Q' (.panic c) (Act.put a d v) w→Q' (.panic c) a w):∀(l:List Oper) (k:Nat) (aj:Array Bool) (a:Act) (w:World),(∀j,l[j]?=ops[k+j]?)→
  M9 md ops l.length k aj=true→wpList P ops Q' l a w→wpAny P md ops Q' l.length aj a w
 |[],_,_,_,_,_,hB,h=>⟨by simpa[M9]using hB,h⟩
 |o::l,k,aj,a,w,hl,hB,h=>by
  have h0:ops[k]?=some o:=by simpa using(hl 0).symm
  have hl':∀j,l[j]?=ops[k+1+j]?:=fun j=>by have:=hl (j+1);simpa[Nat.add_assoc,Nat.add_comm 1 j]using this
  simp only[List.length_cons,M9,Bool.and_eq_true,Bool.or_eq_true,decide_eq_true_eq]at hB
  have hw:wpOp P ops Q' k (wpList P ops Q' l) a w:=by unfold wpOp;simp only[h0];exact h
  rcases hB.1 with h1|⟨⟨hr,hf⟩,hx⟩
  ·refine⟨fun h2=>(by rw[h1]at h2;cases h2),fun i hi=>?_⟩
   rw[h1]at hi
   obtain rfl:i=k:=by simpa using hi
   exact wpOp_mono (fun a' w' h'=>pM hsel hQ l (i+1) _ a' w' hl' hB.2 h') hw
  ·rw[h0]at hx
   obtain⟨v,hy,h2⟩:=v_ hx h0 hw
   exact wpAny_first h0 (Region.noSelect_spec hsel) (hQ o.dst v) l.length aj a w (Region.free_spec h0 hf) fQ hy (pM hsel hQ l (k+1) _ _ w hl' hB.2 h2)
def z_ (md:Region.Mode) (ops:Array Oper) (g:Nat):Nat→Nat→Array Bool→Bool
 |0,k,aj=>decide (Region.ready md ops aj=[k])&&M9 md ops g k aj
 |f+1,k,aj=>(Region.ready md ops aj).contains k&&Region.free md ops aj k&&z_ md ops g f (k+1) (aj.setIfInBounds k true)
def M_ (md:Region.Mode) (ops:Array Oper) (n:Nat):Bool:=
 Region.noSelect ops&&decide (n<ops.size)&&Region.sinkB md ops n&&qW md ops n&&z_ md ops (ops.size-n) n 0 (Array.replicate ops.size false)
theorem Gi {n g:Nat} {Lq:Act→Prop} (hsel:Region.noSelect ops=true) (hs:Region.sinkB md ops n=true) (hc:qW md ops n=true) (hn:n<ops.size):
  ∀(l:List Oper) (k:Nat) (aj:Array Bool) (a:Act),(∀j,j<l.length→l[j]?=ops[k+j]?)→k+l.length=n→HeadInv md ops n aj→
  z_ md ops g l.length k aj=true→wpQuiet P ops C Lq l a→
  qj P md ops C n (fun listed' a'=>(Region.ready md ops listed'=[n]∧M9 md ops g n listed'=true)∧Lq a') l.length aj a
 |[],k,aj,a,_,hk,_,hB,h=>by
  have:k=n:=by simpa using hk
  subst this
  exact⟨by simpa[z_]using hB,h⟩
 |o::l,k,aj,a,hl,hk,inv,hB,h=>by
  have h0:ops[k]?=some o:=by simpa using(hl 0 av).symm
  simp only[List.length_cons,z_,Bool.and_eq_true]at hB
  obtain⟨⟨hr,hf⟩,hB'⟩:=hB
  have hkn:k<n:=jd
  have hr':k∈Region.ready md ops aj:=fQ
  have cZ:qOp P ops C k (wpQuiet P ops C Lq l) a:=by unfold qOp;simp only[h0];exact h
  obtain⟨v,hy,hK⟩:=yieldsIn_of_qOp h0 cZ
  exact IV h0 (Region.noSelect_spec hsel) hs hc hn hkn (fun listed' a' hL j hj=>by rw[hL.1.1]at hj;simp at hj;omega) l.length aj a inv (Region.free_spec h0 hf) hr' hy
   (Gi hsel hs hc hn l (k+1) _ _ (fun j hj=>by have:=hl (j+1) bU;simpa[Nat.add_assoc,Nat.add_comm 1 j]using this) jd (inv.set hr' hkn) hB' hK)
end
theorem jG {P:Program} {id:Nat} {Q:Exit→Act→World→Prop} {a:Act} {w:World} {l:List Oper} (n:Nat) (hm:P.follows .mixedOrders=true) (hB:M_ .any l.toArray n=true)
  (h:∀N,qd w N→wpQuiet P l.toArray (fun w'=>∃x:dh w,w'=x.out) (fun a'=>∀w',(∃x:dh w,w'=x.out)→wpList P l.toArray (bz Q) (l.drop n) a' w') (l.take n) a):(Code.region id l.toArray true).wp P Q a w:=by
 have h:=h _ (rules w _ rfl);simp only[M_,Bool.and_eq_true,decide_eq_true_eq]at hB;obtain⟨⟨⟨⟨hsel,hn⟩,hs⟩,hc⟩,hlex⟩:=hB;have hn':n<l.length:=by simpa using hn
 have htl:(l.take n).length=n:=bU;have hdl:(l.drop n).length=l.toArray.size-n:=av;have inv0:HeadInv .any l.toArray n (Array.replicate l.toArray.size false):=
  ⟨av,fun j oj _ hl=>qN,fun t _ ht=>getD_in (by simpa using ht) (getD_replicate_false _ _)⟩
 have H:=Gi (md:=.any) (g:=l.toArray.size-n) hsel hs hc hn (l.take n) 0 _ a (fun j hj=>by have hj':j<n:=qO;simp[hj']) (by simpa using htl) inv0 (by rw[htl];exact hlex) h;refine Code.wp_mono bz.imp (wp_region_any hm ?_);have:=nz (Q':=bz Q) (g:=l.toArray.size-n) (fun aj a' w' hw' hL=>by have:=pM (md:=.any) (Q':=bz Q) hsel (fun d v=>bz.put d v) (l.drop n) n aj a' w' (fun j=>by simp[List.getElem?_drop]) (by rw[hdl];exact hL.1.2) (hL.2 w' hw');rwa[hdl]at this) _ _ _ _ ⟨⟨w.drew,(aK _ _).drew⟩,rfl⟩ H;rw[htl,show n+(l.toArray.size-n)=l.toArray.size from ae]at this;exact this
section
variable {P:Program} {ops:Array Oper} {md:Region.Mode} {C:World→Prop}
def X8 (md:Region.Mode) (ops:Array Oper) (n:Nat) (head:List Nat):Bool:=head.all fun i=>decide (i<n)&&Region.waitsFor md ops n i
theorem CG {n:Nat} {head:List Nat} {aj:Array Bool} (hs:X8 md ops n head=true) (hc:qW md ops n=true) (hn:n<ops.size) (inv:HeadInv md ops n aj) {i:Nat} (hi:i∈head) (hun:aj.getD i true=false):∀t,n≤t→t∉Region.ready md ops aj:=by
 intro t ht hr;obtain⟨_,ot,hot,hall⟩:=mem_ready.1 hr;have htlt:t<ops.size:=(Array.getElem?_eq_some_iff.1 hot).1;by_cases htn:t=n
 ·subst htn;have h1:=List.all_eq_true.1 hs i hi;simp only[Bool.and_eq_true,decide_eq_true_eq]at h1;obtain⟨oj,hoj,e,he,hb,hon⟩:=Region.waitsFor_spec h1.2;have:oj=ot:=bD (hoj.symm.trans hot);subst this;have h2:=hall e he hb;rw[hon,getD_both hun]at h2;cases h2
 ·have h1:=List.all_eq_true.1 hc t (List.mem_range.2 htlt);exact CE
theorem abr {n:Nat} {head:List Nat} (hs:X8 md ops n head=true) {i:Nat} (hi:i∈head):i<n:=by have h1:=List.all_eq_true.1 hs i hi;simp only[Bool.and_eq_true,decide_eq_true_eq]at h1;exact h1.1
theorem IW {n i:Nat} {head:List Nat} {oi:Oper} {v:Value} {L:Array Bool→Act→Prop} (hi:ops[i]?=some oi) (hsel:∀(j:Nat) (o:Oper) cs b,ops[j]?=some o→o.op≠.select cs b)
  (hs:X8 md ops n head=true) (hc:qW md ops n=true) (hn:n<ops.size) (hin:i∈head)
  (hdone:∀aj a,L aj a→∀j∈Region.ready md ops aj,n≤j):
  ∀(f:Nat) (aj:Array Bool) (a:Act),HeadInv md ops n aj→
   (∀j oj,ops[j]?=some oj→j≠i→aj.getD j true=false→(∀e∈oj.after,Region.binds md e=true→e.on≠i)→oi.apart ops oj=true)→
   i∈Region.ready md ops aj→YieldsIn P ops C oi v a→
   qj P md ops C n L f (aj.setIfInBounds i true) (a.put oi.dst v)→qj P md ops C n L (f+1) aj a:=by
 intro f;induction f with
 |zero=>
  intro aj a inv _ hr hy H;have hun:=(mem_ready.1 hr).1;refine⟨fun h=>gz,fun j hj=>?_⟩;have hjn:j<n:=by
   rcases Nat.lt_or_ge j n with h|h
   ·exact h
   ·exact absurd hj (CG hs hc hn inv hin hun j h)
  exact wI
 |succ f ih=>
  intro aj a inv hfree hr hy H;have hun:=(mem_ready.1 hr).1;refine⟨fun h=>gz,fun j hj=>?_⟩;have hjn:j<n:=by
   rcases Nat.lt_or_ge j n with h|h
   ·exact h
   ·exact absurd hj (CG hs hc hn inv hin hun j h)
  exact wJ
def wX (md:Region.Mode) (ops:Array Oper) (g n:Nat):List Nat→Array Bool→Bool
 |[],aj=>decide (Region.ready md ops aj=[n])&&M9 md ops g n aj
 |k::rest,aj=>(Region.ready md ops aj).contains k&&Region.free md ops aj k&&wX md ops g n rest (aj.setIfInBounds k true)
theorem CJ {n g:Nat} {hd:List Nat} {Lq:Act→Prop} (hsel:Region.noSelect ops=true) (hs:X8 md ops n hd=true) (hc:qW md ops n=true) (hn:n<ops.size):
  ∀(head:List Nat) (aj:Array Bool) (a:Act),(∀i∈head,i∈hd)→HeadInv md ops n aj→
  wX md ops g n head aj=true→wpQuiet P ops C Lq (head.map fun i=>ops.getD i default) a→
  qj P md ops C n (fun listed' a'=>(Region.ready md ops listed'=[n]∧M9 md ops g n listed'=true)∧Lq a') head.length aj a
 |[],aj,a,_,_,hB,h=>⟨by simpa[wX]using hB,h⟩
 |k::rest,aj,a,hh,inv,hB,h=>by
  simp only[wX,Bool.and_eq_true]at hB
  obtain⟨⟨hr,hf⟩,hB'⟩:=hB
  have hr':k∈Region.ready md ops aj:=fQ
  obtain⟨_,o,h0,_⟩:=mem_ready.1 hr'
  have hg:ops.getD k default=o:=by simp[h0]
  simp only[List.map_cons,hg]at h
  have hkh:=hh k av
  have cZ:qOp P ops C k (wpQuiet P ops C Lq (rest.map fun i=>ops.getD i default)) a:=by unfold qOp;simp only[h0];exact h
  obtain⟨v,hy,hK⟩:=yieldsIn_of_qOp h0 cZ
  exact IW h0 (Region.noSelect_spec hsel) hs hc hn hkh (fun listed' a' hL j hj=>by rw[hL.1.1]at hj;simp at hj;omega) rest.length aj a inv (Region.free_spec h0 hf) hr' hy
   (CJ hsel hs hc hn rest _ _ (fun i hi=>hh i (by simp[hi])) (inv.set hr' (abr hs hkh)) hB' hK)
def preB (md:Region.Mode) (ops:Array Oper) (n:Nat) (next:Array Bool→Bool):List Nat→Array Bool→Bool
 |[],aj=>next aj
 |i::rest,aj=>(Region.ready md ops aj).contains i&&Region.free md ops aj i&&decide (i<n)&&(match ops[i]? with|some o=>Op.reads o.op|none=>false)&&preB md ops n next rest (aj.setIfInBounds i true)
theorem Jw {Q:Exit→Act→World→Prop} {n g:Nat} {K:Act→Prop} {next:Array Bool→Bool} (hsel:Region.noSelect ops=true) (hQ:∀d v c a w,Q (.panic c) (Act.put a d v) w→Q (.panic c) a w) (w:World)
  (hn:∀aj a,next aj=true→HeadInv md ops n aj→K a→wpAny P md ops Q g aj a w):
  ∀(late:List Nat) (aj:Array Bool) (a:Act),preB md ops n next late aj=true→HeadInv md ops n aj→
   wpQuiet P ops (fun _=>True) K (late.map fun i=>ops.getD i default) a→wpAny P md ops Q (late.length+g) aj a w
 |[],aj,a,hB,inv,h=>by rw[List.length_nil,Nat.zero_add];exact hn aj a hB inv h
 |i::rest,aj,a,hB,inv,h=>by
  simp only[preB,Bool.and_eq_true,decide_eq_true_eq]at hB
  obtain⟨⟨⟨⟨hr,hf⟩,hin⟩,hrd⟩,hB'⟩:=hB
  have hi:i∈Region.ready md ops aj:=fQ
  obtain⟨_,o,ho,_⟩:=mem_ready.1 hi
  have hg:ops.getD i default=o:=by simp[ho]
  rw[ho]at hrd
  simp only[List.map_cons,hg]at h
  have hgo:=Jw hsel hQ w hn rest (aj.setIfInBounds i true)
  rw[show(i::rest).length+g=(rest.length+g)+1 from bU]
  have fin:∀v,Yields P ops o v a→wpAny P md ops Q (rest.length+g) (aj.setIfInBounds i true) (a.put o.dst v) w→wpAny P md ops Q (rest.length+g+1) aj a w:=fun v hy H=>
   wpAny_first ho (Region.noSelect_spec hsel) (hQ o.dst v) _ aj a w (Region.free_spec ho hf) hi hy H
  unfold wpQuiet at h
  split at h
  ·rename_i hwant
   obtain⟨v,g1,g2⟩:=h
   refine fin v (.inl ⟨hwant,fun w1=>?_⟩) (hgo _ hB' (inv.set hi hin) g2)
   have h3:=g1 w1 trivial
   unfold Oper.quietAt at h3
   cases hx:(execOp a.eval o).run P w1 with
   |ok n w2=>
    obtain⟨u,rfl⟩:=pW hrd hx
    rw[hx]at h3
    simp only[Oper.quietUpon]at h3
    rw[h3.1,h3.2]
   |halt x w2=>
    rw[hx]at h3
    simp only[Oper.quietUpon]at h3
  ·rename_i hwant
   exact fin undef (.inr ⟨by simpa using hwant,rfl⟩) (hgo _ hB' (inv.set hi hin) h)
end
def TG (ops:Array Oper) (late head:List Nat) (n:Nat):Bool:=
 Region.noSelect ops&&decide (n<ops.size)&&X8 .any ops n head&&qW .any ops n&&decide (late.length+(head.length+(ops.size-n))=ops.size)&&preB .any ops n (wX .any ops (ops.size-n) n head) late (Array.replicate ops.size false)
theorem n_ {P:Program} {id:Nat} {Q:Exit→Act→World→Prop} {a:Act} {w:World} {l:List Oper} (late head:List Nat) (n:Nat) (hm:P.follows .mixedOrders=true) (hB:TG l.toArray late head n=true)
  (h:∀N,qd w N→wpQuiet P l.toArray (fun _=>True) (fun a1=>wpQuiet P l.toArray (fun w'=>∃x:dh w,w'=x.out) (fun a'=>∀w',(∃x:dh w,w'=x.out)→wpList P l.toArray (bz Q) (l.drop n) a' w') (head.map fun i=>l.getD i default) a1) (late.map fun i=>l.getD i default) a):(Code.region id l.toArray true).wp P Q a w:=by
 have h:=h _ (rules w _ rfl);rw[←iT]at h;simp only[TG,Bool.and_eq_true,decide_eq_true_eq]at hB;obtain⟨⟨⟨⟨⟨hsel,hn⟩,hs⟩,hc⟩,hsz⟩,hlex⟩:=hB;have hdl:(l.drop n).length=l.toArray.size-n:=av;have inv0:HeadInv .any l.toArray n (Array.replicate l.toArray.size false):=
  ⟨av,fun j oj _ hl=>qN,fun t _ ht=>getD_in (by simpa using ht) (getD_replicate_false _ _)⟩
 refine Code.wp_mono bz.imp (wp_region_any hm ?_);have:=Jw (P:=P) (md:=.any) (Q:=bz Q) (g:=head.length+(l.toArray.size-n)) hsel (fun d v=>bz.put d v) {w with drawn:=w.drawn+1} (fun aj a1 hnx inv hq=>by have H:=CJ (md:=.any) (g:=l.toArray.size-n) hsel hs hc hn head aj a1 (fun _ h=>h) inv hnx hq;exact nz (Q':=bz Q) (g:=l.toArray.size-n) (fun aj a' w' hw' hL=>by have:=pM (md:=.any) (Q':=bz Q) hsel (fun d v=>bz.put d v) (l.drop n) n aj a' w' (fun j=>by simp[List.getElem?_drop]) (by rw[hdl];exact hL.1.2) (hL.2 w' hw');rwa[hdl]at this) _ _ _ _ ⟨⟨w.drew,(aK _ _).drew⟩,rfl⟩ H) late _ a hlex inv0 h;rw[hsz]at this;exact this
theorem uP {P:Program} {f:FuncId} {args:Array Value} {v:Value} {w:World} {x:dh w} (h:Calls P f args x.out fun e w'=>e=.returned v∧w'=x.out):
  Calls P f args x.out fun e w''=>e=.returned v∧∃y:dh w,w''=y.out:=
 h.mono fun _ w' ⟨he,hw⟩=>⟨he,x,hw⟩
theorem fq {Q:Exit→Act→World→Prop} {a:Act} {w:World} (h:Q .normal a w):bz Q .normal a w:=h
section
variable {P:Program} {ops:Array Oper} {md:Region.Mode} {C1:World→Prop}
def Op.exm:Op→Bool
 |.extract ..=>true
 |.move ..=>true
 |_=>false
theorem Rb {Q:Exit→Act→World→Prop} {o:Oper} (he:Op.exm o.op=true) {i:Nat} (hi:ops[i]?=some o) {K:Act→World→Prop} {a:Act} {w:World} (h:wpOp P ops Q i K a w):
  ∃v,Yields P ops o v a∧K (a.put o.dst v) w:=by
 by_cases hx:Op.vZ o.op=true
 ·exact v_ hx hi h
 have hi':=hi;unfold wpOp at h;simp only[hi]at h;by_cases hw:Region.wanted o (yielded ops a.tmps)=true
 ·rw[if_pos hw]at h;obtain⟨dst,op,type,pos,after,guard⟩:=o;cases op<;>simp only[Op.exm,Op.vZ,Bool.false_eq_true,not_true_eq_false]at he hx
  rename_i x;have hrun:∀w,(execOp a.eval ⟨dst,.move x,type,pos,after,guard⟩).run P w=.ok (.value (a.eval x)) w:=fun w=>rfl;refine⟨a.eval x,.inl ⟨hw,hrun⟩,?_⟩;rcases h with h|⟨h,_⟩
  ·unfold Oper.wp at h;rw[hrun]at h;exact h
  ·exfalso;have h1:=h.1;exact absurd (show noRoomEvent∈(#[]:Array Event)from h1) av
 ·rw[if_neg hw]at h;exact⟨undef,.inr ⟨by simpa using hw,rfl⟩,h⟩
def JD (md:Region.Mode) (ops:Array Oper):List Nat→Array Bool→Bool
 |[],aj=>(Region.ready md ops aj).isEmpty
 |i::rest,aj=>(decide (Region.ready md ops aj=[i])||((Region.ready md ops aj).contains i&&Region.free md ops aj i&&match ops[i]? with|some o=>Op.exm o.op|none=>false))&&JD md ops rest (aj.setIfInBounds i true)
theorem om {Q':Exit→Act→World→Prop} (hsel:Region.noSelect ops=true) (hQ:∀d v c a w,Q' (.panic c) (Act.put a d v) w→Q' (.panic c) a w):∀(l:List Nat) (aj:Array Bool) (a:Act) (w:World),
  JD md ops l aj=true→wpList P ops Q' (l.map fun i=>ops.getD i default) a w→wpAny P md ops Q' l.length aj a w
 |[],_,_,_,hB,h=>⟨by simpa[JD]using hB,h⟩
 |i::l,aj,a,w,hB,h=>by
  simp only[JD,Bool.and_eq_true,Bool.or_eq_true,decide_eq_true_eq]at hB
  have hi:i∈Region.ready md ops aj:=by
   rcases hB.1 with h1|⟨⟨hr,_⟩,_⟩
   ·rw[h1];simp
   ·simpa using hr
  obtain⟨_,o,h0,_⟩:=mem_ready.1 hi
  have hg:ops.getD i default=o:=by simp[h0]
  simp only[List.map_cons,hg]at h
  have hw:wpOp P ops Q' i (wpList P ops Q' (l.map fun i=>ops.getD i default)) a w:=by unfold wpOp;simp only[h0];exact h
  rcases hB.1 with h1|⟨⟨hr,hf⟩,hx⟩
  ·refine⟨fun h2=>(by rw[h1]at h2;cases h2),fun j hj=>?_⟩
   rw[h1]at hj
   obtain rfl:j=i:=by simpa using hj
   exact wpOp_mono (fun a' w' h'=>om hsel hQ l _ a' w' hB.2 h') hw
  ·rw[h0]at hx
   obtain⟨v,hy,h2⟩:=Rb hx h0 hw
   exact wpAny_first h0 (Region.noSelect_spec hsel) (hQ o.dst v) l.length aj a w (Region.free_spec h0 hf) fQ hy (om hsel hQ l _ _ w hB.2 h2)
theorem sZ {Q:Exit→Act→World→Prop} {t0:Nat}:∀(f:Nat) (aj:Array Bool) (a:Act) (w:World),aj.getD t0 false=true→wpAny P md ops Q f aj a w→wpAnyS P md ops Q C1 (fun _=>True) t0 f aj a w
 |0,_,_,_,_,h=>h
 |f+1,aj,a,w,hl,h=>⟨h.1,fun i hi=>wpOp_mono (fun a' w' h'=>⟨by unfold SS;rw[if_pos (getD_set_true hl)];trivial,sZ f _ a' w' (getD_set_true hl) h'⟩) (h.2 i hi)⟩
def xy (md:Region.Mode) (ops:Array Oper) (t0 k:Nat) (r1 r2:List Nat) (aj:Array Bool):Bool:=
 (Region.ready md ops aj).all (fun i=>i==t0||i==k)&& !(Region.ready md ops aj).isEmpty&& !aj.getD t0 false&&JD md ops r2 (aj.setIfInBounds t0 true)&&
 decide (Region.ready md ops (aj.setIfInBounds k true)=[t0])&&JD md ops r1 ((aj.setIfInBounds k true).setIfInBounds t0 true)&&(match ops[k]? with|some o=>o.guard.isNone|none=>false)
theorem Dh {Q:Exit→Act→World→Prop} {t0 k:Nat} {r1 r2:List Nat} (hlen:r2.length=r1.length+1) (ht:t0<ops.size) (htk:k≠t0) (hsel:Region.noSelect ops=true) (hQ:∀d v c a w,Q (.panic c) (Act.put a d v) w→Q (.panic c) a w) (aj:Array Bool) (hls:aj.size=ops.size)
  (hB:xy md ops t0 k r1 r2 aj=true) {a:Act} {w w1:World} {v:Value} (hk:∀o,ops[k]?=some o→∀ev,(execOp ev o).run P w=.ok (.value v) w1) (h1:C1 w1)
  (g2:wpList P ops Q ((t0::r2).map fun i=>ops.getD i default) a w) (g1:wpList P ops Q ((t0::r1).map fun i=>ops.getD i default) (a.put (ops.getD k default).dst v) w1):
  wpAnyS P md ops Q C1 (fun _=>True) t0 (r2.length+1) aj a w:=by
 simp only[xy,Bool.and_eq_true,List.all_eq_true,Bool.or_eq_true,beq_iff_eq,Bool.not_eq_true',decide_eq_true_eq]at hB;obtain⟨⟨⟨⟨⟨⟨hall,hne⟩,hlt⟩,tF⟩,hrk⟩,gp⟩,hgd⟩:=hB;refine⟨fun h0=>(by rw[h0]at hne;cases hne),fun i hi=>?_⟩;obtain⟨_,o,ho,_⟩:=mem_ready.1 hi;have hg:ops.getD i default=o:=by simp[ho]
 rcases hall i hi with rfl|rfl
 ·have hl:(aj.setIfInBounds i true).getD i false=true:=by simp[hls,ht]
  have hw:wpOp P ops Q i (wpList P ops Q (r2.map fun i=>ops.getD i default)) a w:=by simp only[List.map_cons,hg]at g2;unfold wpOp;simp only[ho];exact g2
  exact wpOp_mono (fun a' w' h'=>⟨by unfold SS;rw[if_pos hl];trivial,sZ _ _ a' w' hl (om hsel hQ r2 _ a' w' tF h')⟩) hw
 ·rw[ho]at hgd;have hgd':o.guard=none:=by simpa using hgd
  have hwt:Region.wanted o (yielded ops a.tmps)=true:=by unfold Region.wanted;rw[hgd']
  unfold wpOp;simp only[ho,hwt,if_true];left;unfold Oper.wp;rw[hk o ho];have hl0:(aj.setIfInBounds i true).getD t0 false=false:=by rw[getD_set_ne false htk];exact hlt
  refine⟨by unfold SS;rw[hl0];simpa using h1,?_⟩;rw[hlen];refine⟨fun h0=>(by rw[hrk]at h0;cases h0),fun j hj=>?_⟩;rw[hrk]at hj;obtain rfl:j=t0:=by simpa using hj
  have hj':j∈Region.ready md ops (aj.setIfInBounds i true):=by rw[hrk];simp
  obtain⟨_,o2,ho2,_⟩:=mem_ready.1 hj';have hg2:ops.getD j default=o2:=by simp[ho2]
  rw[hg]at g1;have hl:((aj.setIfInBounds i true).setIfInBounds j true).getD j false=true:=by simp[hls,ht]
  have hw:wpOp P ops Q j (wpList P ops Q (r1.map fun i=>ops.getD i default)) (a.put o.dst v) w1:=by simp only[List.map_cons,hg2]at g1;unfold wpOp;simp only[ho2];exact g1
  exact wpOp_mono (fun a' w' h'=>⟨by unfold SS;rw[if_pos hl];trivial,sZ _ _ a' w' hl (om hsel hQ r1 _ a' w' gp h')⟩) hw
end
def ad8 (ops:Array Oper) (head late:List Nat) (t0 k:Nat) (r1 r2:List Nat):Bool:=
 Region.noSelect ops&&FR .any ops t0 (nS .any ops t0 false (xy .any ops t0 k r1 r2) late) head (Array.replicate ops.size false)&&decide (head.length+(late.length+(r2.length+1))=ops.size)&&decide (t0<ops.size)&&decide (r2.length=r1.length+1)&&decide (k≠t0)
theorem xz {P:Program} {id:Nat} {Q:Exit→Act→World→Prop} {a:Act} {w:World} {l:List Oper} (head late:List Nat) (t0 k:Nat) (r1 r2:List Nat) (cells:Array Value) (type:TypeId) (hm:P.follows .mixedOrders=true) (hB:ad8 l.toArray head late t0 k r1 r2=true)
  (hk:∀o,l.toArray[k]?=some o→∀ev w,(execOp ev o).run P w=.ok (.value (aR w.heap.size)) (w.alloc (.cells cells type)))
  (h:∀N,qd w N→wpQuiet P l.toArray (fun w'=>∃x:dh w,w'=x.out) (fun a1=>wpQuiet P l.toArray (fun _=>True) (fun a2=>
   wpList P l.toArray (bz Q) ((t0::r2).map fun i=>l.getD i default) a2 w.drew∧
   wpList P l.toArray (bz Q) ((t0::r1).map fun i=>l.getD i default) (a2.put (l.getD k default).dst (aR w.heap.size)) (w.drew.alloc (.cells cells type)))
   (late.map fun i=>l.getD i default) a1) (head.map fun i=>l.getD i default) a):
  (Code.region id l.toArray true).wp P Q a w:=by
 refine Code.wp_mono bz.imp (wp_region_any hm (l_ (C1:=fun w'=>∃x:dh w,w'=x.out) (C2:=fun _=>True) (t0:=t0) _ _ _ _ ?_));simp only[ad8,Bool.and_eq_true,decide_eq_true_eq]at hB;obtain⟨⟨⟨⟨⟨hsel,hB⟩,hsz⟩,ht⟩,hlen⟩,htk⟩:=hB;refine qK ?_;intro h1;have h':=h _ (rules w _ rfl);rw[←iT]at h';have:=pE (P:=P) (md:=.any) (Q:=bz Q) (g:=late.length+(r2.length+1)) (C1:=fun w'=>∃x:dh w,w'=x.out) (D:=fun w'=>∃x:dh w,w'=x.out) (t0:=t0) (fun _ hw=>hw) hsel (fun d v=>bz.put d v) w.drew h1
  (next:=nS .any l.toArray t0 false (xy .any l.toArray t0 k r1 r2) late)
  (fun aj a1 hnx hls hq=>jR (P:=P) (md:=.any) (Q:=bz Q) (g:=r2.length+1) (C1:=fun w'=>∃x:dh w,w'=x.out) (C2:=fun _=>True) (D:=fun _=>True) (t0:=t0)
   (next:=xy .any l.toArray t0 k r1 r2) false av (fun _ _ _=>trivial) hsel (fun d v=>bz.put d v) w.drew h1 trivial
   (fun aj a2 hnx hls hq=>by
    rw[←show l.toArray.getD k default=l.getD k default from congrFun (iT l) k]at hq
    exact Dh hlen ht htk hsel (fun d v=>bz.put d v) aj hls hnx (fun o ho ev=>hk o ho ev w.drew) ⟨⟨_,(aK _ _).drew.alloc (aH _) _⟩,rfl⟩ hq.1 hq.2) late aj a1 hnx hls hq) head _ a hB av
  (fun j k _ hj=>by exfalso;simp[Array.getElem?_replicate]at hj;split at hj<;>simp at hj) h'
 rw[hsz]at this;exact this
structure vg (S:World→Prop) where
 out:World
 ok:S out
theorem RD (S:World→Prop) (head tail:List Nat) (t0:Nat) (hB:Jn l.toArray head [] tail t0=true) (hS:S w.drew)
  (h:wpQuiet P l.toArray (fun w'=>∃x:vg S,w'=x.out) (fun a2=>gZ P l.toArray (fun w'=>∃x:vg S,w'=x.out) (bz Q) t0 tail a2 w.drew) (head.map fun i=>l.getD i default) a):
  wpAny P .any l.toArray (bz Q) l.toArray.size (Array.replicate l.toArray.size false) a w.drew:=by
 refine l_ (C1:=fun w'=>∃x:vg S,w'=x.out) (C2:=fun _=>True) (t0:=t0) _ _ _ _ ?_;simp only[Jn,Bool.and_eq_true,decide_eq_true_eq]at hB;obtain⟨⟨⟨hsel,hB⟩,hsz⟩,ht⟩:=hB;have h1:∃x:vg S,w.drew=x.out:=⟨⟨w.drew,hS⟩,rfl⟩
 have h':wpQuiet P l.toArray (fun w'=>∃x:vg S,w'=x.out) (fun a1=>wpQuiet P l.toArray (fun _=>True) (fun a2=>gZ P l.toArray (fun w'=>∃x:vg S,w'=x.out) (bz Q) t0 tail a2 w.drew) (([]:List Nat).map fun i=>l.getD i default) a1) (head.map fun i=>l.getD i default) a:=h;rw[←iT]at h';have:=pE (P:=P) (md:=.any) (Q:=bz Q) (g:=([]:List Nat).length+tail.length) (C1:=fun w'=>∃x:vg S,w'=x.out) (D:=fun w'=>∃x:vg S,w'=x.out) (t0:=t0) (fun _ hw=>hw) hsel (fun d v=>bz.put d v) w.drew h1
  (next:=nS .any l.toArray t0 false (fun aj=>kW .any l.toArray tail aj&& !aj.getD t0 false) [])
  (fun aj a1 hnx hls hq=>jR (P:=P) (md:=.any) (Q:=bz Q) (g:=tail.length) (C1:=fun w'=>∃x:vg S,w'=x.out) (C2:=fun _=>True) (D:=fun _=>True) (t0:=t0)
   (next:=fun aj=>kW .any l.toArray tail aj&& !aj.getD t0 false) false av (fun _ _ _=>trivial) hsel (fun d v=>bz.put d v) w.drew h1 trivial
   (fun aj a2 hnx hls hq=>by
    simp only[Bool.and_eq_true,Bool.not_eq_true']at hnx
    exact uz tail aj a2 w.drew hnx.1 hnx.2 (by rw[hls];exact ht) hq) [] aj a1 hnx hls hq) head _ a hB av
  (fun j k _ hj=>by exfalso;simp[Array.getElem?_replicate]at hj;split at hj<;>simp at hj) h'
 rw[hsz]at this;exact this
theorem Bf {id n lp:Nat} (S:World→Prop) (head tail:List Nat) (t0:Nat) (hm:P.follows .mixedOrders=true) (hd:qM l.toArray=true) (hB:Jn l.toArray head [] tail t0=true) (hS:S w.drew)
  (h:wpQuiet P l.toArray (fun w'=>∃x:vg S,w'=x.out) (fun a2=>gZ P l.toArray (fun w'=>∃x:vg S,w'=x.out) (bz Q) t0 tail a2 w.drew) (head.map fun i=>l.getD i default) a):
  (Code.region id l.toArray true).wpIn (Fence.wide.inRound lp) n P Q a w:=wpIn_mono (wpIn_region_any hm (ze hd bz.stays _ _ _ _ (RD S head tail t0 hB hS h))) bz.imp
section
variable {P:Program} {ops:Array Oper} {md:Region.Mode} {C1:World→Prop}
def Op.aac:Op→Bool
 |.makeInterface ..=>true
 |o=>Op.reads o
theorem SK {o:Oper} (h:Op.aac o.op=true) {ev:Operand→Value} {w w':World} {n:Next} (hr:(execOp ev o).run P w=.ok n w'):∃v,n=.value v:=by
 obtain⟨dst,op,type,pos,after,guard⟩:=o;by_cases hm:∃t x,op=.makeInterface t x
 ·obtain⟨t,x,rfl⟩:=hm;simp only[execOp]at hr;obtain⟨v,w1,_,h2⟩:=bind_ok hr;simp only[Sem.run_pure,Result.ok.injEq]at h2;exact⟨_,h2.1.symm⟩
 ·refine pW (o:=⟨dst,op,type,pos,after,guard⟩) ?_ hr;cases op<;>first|exact h|exact absurd ⟨_,_,rfl⟩ hm
def LC (md:Region.Mode) (ops:Array Oper) (t0:Nat) (next:Array Bool→Bool):List Nat→Array Bool→Bool
 |[],aj=>next aj
 |i::rest,aj=>(Region.ready md ops aj).contains i&&Region.free md ops aj i&&(match ops[i]? with|some o=>Op.aac o.op|none=>false)&&i !=t0&&yZ md ops t0 12 i&&LC md ops t0 next rest (aj.setIfInBounds i true)
theorem AA {Q:Exit→Act→World→Prop} {t0 g:Nat} {D:World→Prop} {K:Act→Prop} {next:Array Bool→Bool} (hD:∀w,C1 w→D w) (hsel:Region.noSelect ops=true) (hQ:∀d v c a w,Q (.panic c) (Act.put a d v) w→Q (.panic c) a w) (w:World) (h1:C1 w)
  (hn:∀aj a,next aj=true→aj.size=ops.size→K a→wpAnyS P md ops Q C1 (fun _=>True) t0 g aj a w):
  ∀(head:List Nat) (aj:Array Bool) (a:Act),LC md ops t0 next head aj=true→aj.size=ops.size→Closed md ops aj→
   wpQuiet P ops D K (head.map fun i=>ops.getD i default) a→wpAnyS P md ops Q C1 (fun _=>True) t0 (head.length+g) aj a w
 |[],aj,a,hB,hsz,hcl,h=>by rw[List.length_nil,Nat.zero_add];exact hn aj a hB hsz h
 |i::rest,aj,a,hB,hsz,hcl,h=>by
  simp only[LC,Bool.and_eq_true,bne_iff_ne,ne_eq]at hB
  obtain⟨⟨⟨⟨⟨hr,hf⟩,hrd⟩,hit⟩,hl⟩,hB'⟩:=hB
  have hi:i∈Region.ready md ops aj:=fQ
  obtain⟨_,o,ho,_⟩:=mem_ready.1 hi
  have hg:ops.getD i default=o:=by simp[ho]
  rw[ho]at hrd
  simp only[List.map_cons,hg]at h
  have hSS:SS C1 (fun _=>True) t0 aj w:=by unfold SS;split<;>trivial
  have hgo:=AA hD hsel hQ w h1 hn rest (aj.setIfInBounds i true)
  rw[show(i::rest).length+g=(rest.length+g)+1 from bU]
  have fin:∀v,YieldsIf P ops D o v a→wpAnyS P md ops Q C1 (fun _=>True) t0 (rest.length+g) (aj.setIfInBounds i true) (a.put o.dst v) w→wpAnyS P md ops Q C1 (fun _=>True) t0 (rest.length+g+1) aj a w:=fun v hy H=>
   wpAnyS_first (inv:=Closed md ops) ho (Region.noSelect_spec hsel) (hQ o.dst v) hit (fun L j hv hj _ _=>hv.set hj)
    (fun L w1 hv hun hS=>by
     have ht:L.getD t0 false=false:=by
      exact vW
     unfold SS at hS
     rw[ht]at hS
     exact hD w1 (by simpa using hS)) _ aj a w hcl (Region.free_spec ho hf) hi hy hSS H
  unfold wpQuiet at h
  split at h
  ·rename_i hwant
   obtain⟨v,g1,g2⟩:=h
   refine fin v (.inl ⟨hwant,fun w1 iI=>?_⟩) (hgo _ hB' jc (hcl.set hi) g2)
   have h3:=g1 w1 iI
   unfold Oper.quietAt at h3
   cases hx:(execOp a.eval o).run P w1 with
   |ok n w2=>
    obtain⟨u,rfl⟩:=SK hrd hx
    rw[hx]at h3
    simp only[Oper.quietUpon]at h3
    rw[h3.1,h3.2]
   |halt x w2=>
    rw[hx]at h3
    simp only[Oper.quietUpon]at h3
  ·rename_i hwant
   exact fin undef (.inr ⟨by simpa using hwant,rfl⟩) (hgo _ hB' jc (hcl.set hi) h)
end
def aad (ops:Array Oper) (head late:List Nat) (t0 k:Nat) (r1 r2:List Nat):Bool:=
 Region.noSelect ops&&LC .any ops t0 (nS .any ops t0 false (xy .any ops t0 k r1 r2) late) head (Array.replicate ops.size false)&&decide (head.length+(late.length+(r2.length+1))=ops.size)&&decide (t0<ops.size)&&decide (r2.length=r1.length+1)&&decide (k≠t0)
theorem vK {P:Program} {id:Nat} {Q:Exit→Act→World→Prop} {a:Act} {w:World} {l:List Oper} (head late:List Nat) (t0 k:Nat) (r1 r2:List Nat) (cells:Array Value) (type:TypeId) (hm:P.follows .mixedOrders=true) (hB:aad l.toArray head late t0 k r1 r2=true)
  (hk:∀o,l.toArray[k]?=some o→∀ev w,(execOp ev o).run P w=.ok (.value (aR w.heap.size)) (w.alloc (.cells cells type)))
  (h:∀N,qd w N→wpQuiet P l.toArray (fun w'=>∃x:dh w,w'=x.out) (fun a1=>wpQuiet P l.toArray (fun _=>True) (fun a2=>
   wpList P l.toArray (bz Q) ((t0::r2).map fun i=>l.getD i default) a2 w.drew∧
   wpList P l.toArray (bz Q) ((t0::r1).map fun i=>l.getD i default) (a2.put (l.getD k default).dst (aR w.heap.size)) (w.drew.alloc (.cells cells type)))
   (late.map fun i=>l.getD i default) a1) (head.map fun i=>l.getD i default) a):
  (Code.region id l.toArray true).wp P Q a w:=by
 refine Code.wp_mono bz.imp (wp_region_any hm (l_ (C1:=fun w'=>∃x:dh w,w'=x.out) (C2:=fun _=>True) (t0:=t0) _ _ _ _ ?_));simp only[aad,Bool.and_eq_true,decide_eq_true_eq]at hB;obtain⟨⟨⟨⟨⟨hsel,hB⟩,hsz⟩,ht⟩,hlen⟩,htk⟩:=hB;refine qK ?_;intro h1;have h':=h _ (rules w _ rfl);rw[←iT]at h';have:=AA (P:=P) (md:=.any) (Q:=bz Q) (g:=late.length+(r2.length+1)) (C1:=fun w'=>∃x:dh w,w'=x.out) (D:=fun w'=>∃x:dh w,w'=x.out) (t0:=t0) (fun _ hw=>hw) hsel (fun d v=>bz.put d v) w.drew h1
  (next:=nS .any l.toArray t0 false (xy .any l.toArray t0 k r1 r2) late)
  (fun aj a1 hnx hls hq=>jR (P:=P) (md:=.any) (Q:=bz Q) (g:=r2.length+1) (C1:=fun w'=>∃x:dh w,w'=x.out) (C2:=fun _=>True) (D:=fun _=>True) (t0:=t0)
   (next:=xy .any l.toArray t0 k r1 r2) false av (fun _ _ _=>trivial) hsel (fun d v=>bz.put d v) w.drew h1 trivial
   (fun aj a2 hnx hls hq=>by
    rw[←show l.toArray.getD k default=l.getD k default from congrFun (iT l) k]at hq
    exact Dh hlen ht htk hsel (fun d v=>bz.put d v) aj hls hnx (fun o ho ev=>hk o ho ev w.drew) ⟨⟨_,(aK _ _).drew.alloc (aH _) _⟩,rfl⟩ hq.1 hq.2) late aj a1 hnx hls hq) head _ a hB av
  (fun j k _ hj=>by exfalso;simp[Array.getElem?_replicate]at hj;split at hj<;>simp at hj) h'
 rw[hsz]at this;exact this
end Qt
end Go.Proofs.YtohpdonnpbjfdaaGreatDoor
