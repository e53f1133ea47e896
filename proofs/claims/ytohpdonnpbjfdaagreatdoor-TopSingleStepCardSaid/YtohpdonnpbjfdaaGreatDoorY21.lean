/- What is shown: package parser, packages parser, typecheck. Conditions: as each theorem states. -/
import Derived.Test.YtohpdonnpbjfdaaGreatDoorY9
import Derived.Test.YtohpdonnpbjfdaaGreatDoorY19
set_option maxHeartbeats 40000000
set_option maxRecDepth 100000
set_option linter.unusedVariables false
set_option linter.unusedSimpArgs false
open Go.Proofs.Tryz
namespace Go.Proofs.YtohpdonnpbjfdaaGreatDoor
theorem Pb {P:Prop} (h:P:=by intro y hy;simp only[List.mem_cons,List.not_mem_nil,or_false]at hy;simp;omega):P:=h
theorem xO {P:Prop} (h:P:=by
 (refine wpAny_ready (rs:=[6]) aL av (AllReady.cons rfl (fun K hK=>?_) AllReady.nil));rw[if_pos (by rfl)];have hCw:Ch [p] wr w4:=ji;have hB4:RN (w4.alloc (.cells #[ag z.kind,ag z.num,.string z.str,.slice a4 n4 m4] 183)) w.heap.size [t4,t5] l (.slice a l.length cap):=HK.out.out.to (M:=[p]) (hCw.alloc _) (aH _) bP (fun x hx=>.inr (.inl hx));have hl3:l.length≤3000:=ae;refine gq (.tmp 15) (.tmp 19) 181 rfl 183 i0 (.agg #[ag 0,ag 0,.string ⟨#[]⟩,.slice none 0 0]) 4 56 underlying181 hii sN nk nD rfl bL (.slice a l.length cap) l.length (l.flatMap nY) rfl hB4.own ⟨w4.heap.size,0,none⟩ 1 1 (nY (z,a4,n4,m4)) rfl rfl (fun j u hj=>by rw[zt,World.cell?_alloc_new];simpa[nY]using hj) (by simp[nY,Value.oneCell']) iq ae ?_;intro v' w5 iE lJ zK;have aAn:w.heap.size≤w4.heap.size:=ae;have eY:=hB4.more (z,a4,n4,m4) (yU.to (M:=[]) ((Ch.refl _ _).alloc _) cO av (fun y hy=>by
  have hlt:y<w2.heap.size:=by
   rcases h_.1 hy with h5|h5
   ·have:=(hB4.own.2)
    rcases this with⟨h6,_⟩|⟨g,cp,cur,h6,_,h7,_⟩
    ·rw[h6]at h5;simp[qI,Value.ownBlock]at h5
    ·have h8:=HK.out.out.own.2;rcases h8 with⟨h9,_⟩|⟨g',cp',cur',h9,_,h10,_⟩
     ·rw[h9]at h5;simp[qI,Value.ownBlock]at h5
     ·rw[h9]at h5;simp only[qI,Value.ownBlock,List.mem_cons,List.not_mem_nil,or_false]at h5;subst h5;have:=(Array.getElem?_eq_some_iff.1 h10).1;omega
   ·simp only[List.mem_cons,List.not_mem_nil,or_false]at h5;omega
  left;simp;omega)) Pb bU iE lJ zK
 obtain⟨a5,cap5,rfl⟩:=eY.shape;have hcA:Ch (qI (.slice a l.length cap)) (w4.alloc (.cells #[ag z.kind,ag z.num,.string z.str,.slice a4 n4 m4] 183)) w5:=⟨lJ.os,lJ.tape,lJ.output,lJ.size,fun k hk hn=>lJ.block k hk (fun e=>hn (by unfold qI;rw[←e];simp))⟩
 have hno:∀y∈qI (.slice a l.length cap),w.heap.size≤y∧y≠t4∧y≠t5:=fun y hy=>by have:=hB4.ge y hy;simp only[List.mem_cons,List.not_mem_nil,or_false,not_or]at this;omega
 have k5':=hcA.bk ((hCw.bk k5.out bQ).alloc _) (fun hm=>(hno _ hm).2.2 rfl);have k4':=hcA.bk ((hCw.bk k4.out bQ).alloc _) (fun hm=>(hno _ hm).2.1 rfl);have zI:dw w5 B p T k:=(Ns.ch (l:=[]) ((Ch.refl _ _).alloc _) av).ch hcA (fun y hy=>by have:=hno y hy;omega);have Mf:Ch [p] w w5:=(((HC.out.out.trans hCw av).alloc _).trans hcA (fun y hy=>by have:=hno y hy;omega))
 have ass:=k5'.cell 3;have f5':=k5'.free;simp only[List.getElem?_cons_zero,List.getElem?_cons_succ]at ass;have Hb5:=ah eY;have Hk5:=ah k5';have Q_:=ah k4';have Hp5:=ah zI;have HC5:=ah Mf;refine hK _ _ ?_;clear hK K iE lJ zK hcA hno hB4 hCw eY k5' k4' zI Mf;(refine wpAny_ready (rs:=[7]) aL av (AllReady.cons rfl (fun K hK=>?_) AllReady.nil));go_simp;(refine hK _ _ ?_;clear hK K);(refine wpAny_ready (rs:=[8]) aL av (AllReady.cons rfl (fun K hK=>?_) AllReady.nil));go_simp;(refine hK _ _ ?_;clear hK K);refine wpAny_done aL ?_ _;go_wp2;have RP:dw (w5.setCell ⟨t5,3,none⟩ (.slice a5 (l.length+1) cap5)) B p T k:=Hp5.out.ch (l:=[t5]) aW bP;have nx4:=RP.iV;have asu:=RP.lt;refine⟨⟨l++[(z,a4,n4,m4)],k,f',.slice a5 (l.length+1) cap5,?_,ah (Hk5.out.put 3 _),ah (Q_.out.other aX _),ah (?_),ah RP,ah (by have:=HC5.out;exact aW),bU⟩,?_⟩
 ·exact ah (by simpa using Hx.out)
 ·have:=Hb5.out;simp only[List.length_append,List.length_cons,List.length_nil,Nat.zero_add]at this;exact this.to (M:=[t5]) aW (aH _) av (fun x hx=>.inr (.inl hx))
 ·rw[yT,nx4];omega):P:=h
theorem mR {P:Prop} (h:P:=by clear Jb Mf;exact aW):P:=h
theorem mU {P:Prop} (h:P:=by clear eY Jb;exact aW):P:=h
theorem xP {P:Prop} (h:P:=by go_enter func190,ntmps190;go_wp2_with (first|((with_reducible refine(zu.out).mono ?_);refine df ?_;intro w1 aO N1 dA bW eu eF));go_ret;exact⟨rfl,by exact aG⟩):P:=h
namespace Pa
open Go.RowKit aN Qt Bk
attribute [local go_sem] Oper.semAt_some
variable {w w':World} {B n:Nat} {L:List Nat} {v:Value}
abbrev It:=Nd×Option Addr×Nat×Nat
def nY (x:It):List Value:=[ag x.1.kind,ag x.1.num,.string x.1.str,.slice x.2.1 x.2.2.1 x.2.2.2]
theorem RJ (l:List It):∀(i r:Nat),i<l.length→r<4→(l.flatMap nY)[i*4+r]?=(nY (l.getD i (nd0,none,0,0)))[r]?:=by
 induction l with
 |nil=>intro i r hi;simp at hi
 |cons x l ih=>
  intro i r hi hr;have hx:(nY x).length=4:=rfl;cases i with
  |zero=>rw[List.flatMap_cons,List.getElem?_append_left ae];simp
  |succ i=>rw[List.flatMap_cons,List.getElem?_append_right ae,hx];rw[show(i+1)*4+r-4=i*4+r from ae];exact ih i r (by simpa using hi) hr
def qI (v:Value):List Nat:=match v.ownBlock with|some g=>[g]|none=>[]
theorem zt (g j:Nat):(⟨g,0,none⟩:Addr).add j=⟨g,j,none⟩:=by
 unfold Addr.add;by_cases h:j=0
 ·subst h;simp
 ·simp[h]
structure RN (w:World) (B:Nat) (L:List Nat) (l:List It) (v:Value):Prop where
 own:w.ownsRow 0 183 4 v l.length (l.flatMap nY)
 sub:∀x∈l,nH w B (qI v++L) x.1.kids x.2.1 x.2.2.1 x.2.2.2
 ge:∀g∈qI v,B≤g∧g∉L
 nil:l=[]→v=.slice none 0 0
theorem RN.shape {l:List It} (h:RN w B L l v):∃a cap,v=.slice a l.length cap:=by
 rcases h.own.2 with⟨h1,h2⟩|⟨g,cap,cur,h1,_⟩
 ·exact⟨none,0,by rw[h1,h2]⟩
 ·exact⟨_,_,h1⟩
theorem RN.done {l:List It} {a:Option Addr} {cap:Nat} (h:RN w B L l (.slice a n cap)):nH w B L (l.map (·.1)) a n cap:=by
 rcases h.own.2 with⟨h1,h2⟩|⟨g,cap',cur,h1,_,hg,hc,_⟩
 ·injection h1 with e1 e2 e3;subst e1 e2 e3;obtain rfl:l=[]:=List.eq_nil_of_length_eq_zero h2;exact .nil
 ·injection h1 with e1 e2 e3;subst e1 e2 e3;by_cases h0:l.length=0
  ·have:=h.nil (List.eq_nil_of_length_eq_zero h0);injection this with e1 _ _;cases e1
  ·have hge:=h.ge g (by simp[qI,Value.ownBlock]);have hlt:g<w.heap.size:=(Array.getElem?_eq_some_iff.1 hg).1;have hcl:=h.own.cells (g:=g) rfl;refine .row _ g _ _ (fun i=>(l.getD i (nd0,none,0,0)).2) av ae hge hlt hc (fun i hi=>?_) (fun i hi=>?_)
   ·have hx:(l.map (·.1)).getD i nd0=(l.getD i (nd0,none,0,0)).1:=by simp[List.getD_eq_getElem?_getD,List.getElem?_eq_getElem hi]
    rw[hx];have c:∀r u,(nY (l.getD i (nd0,none,0,0)))[r]?=some u→r<4→w.cell? ⟨g,i*4+r,none⟩=some u:=fun r u hu hr=>by have:=hcl (i*4+r) u (by rw[RJ l i r hi hr];exact hu);rwa[zt]at this
    exact⟨c 0 _ rfl ae,c 1 _ rfl ae,c 2 _ rfl ae,c 3 _ rfl ae⟩
   ·have hx:(l.map (·.1)).getD i nd0=(l.getD i (nd0,none,0,0)).1:=by simp[List.getD_eq_getElem?_getD,List.getElem?_eq_getElem hi]
    rw[hx];have hm:l.getD i (nd0,none,0,0)∈l:=by rw[List.getD_eq_getElem?_getD,List.getElem?_eq_getElem hi];exact List.getElem_mem hi
    exact(h.sub _ hm).to (M:=[]) (Ch.refl _ _) (aH _) av (fun x hx=>.inr (.inl (List.mem_append_right _ hx)))
theorem RN.to {B':Nat} {L' M:List Nat} {l:List It} (h:RN w B L l v) (hc:Ch M w w') (hB:B'≤B) (hM:∀x∈M,x<B∨x∈L) (hL:∀x∈L',x<B∨x∈L∨w.heap.size≤x):RN w' B' L' l v:=by
 refine⟨⟨h.own.1,?_⟩,fun x hx=>?_,fun g hg=>?_,h.nil⟩
 ·rcases h.own.2 with h1|⟨g,cap,cur,h1,h2,h3,h4⟩
  ·exact .inl h1
  ·have hge:=h.ge g (by rw[h1];simp[qI,Value.ownBlock]);have hlt:g<w.heap.size:=(Array.getElem?_eq_some_iff.1 h3).1;exact .inr ⟨g,cap,cur,h1,h2,(hc.block g hlt (fun hm=>by rcases hM g hm with h5|h5;omega;exact hge.2 h5)).trans h3,h4⟩
 ·exact(h.sub x hx).to hc hB (fun x hx=>by rcases hM x hx with h5|h5;exact .inl h5;exact .inr (.inl (List.mem_append_right _ h5))) (fun x hx=>by
   rcases h_.1 hx with h5|h5
   ·exact .inr (.inl (List.mem_append_left _ h5))
   ·rcases hL x h5 with h6|h6|h6
    ·exact .inl h6
    ·exact .inr (.inl (List.mem_append_right _ h6))
    ·exact .inr (.inr h6))
 ·have hge:=h.ge g hg;have hlt:g<w.heap.size:=by
   rcases h.own.2 with⟨h1,_⟩|⟨g',cap,cur,h1,h2,h3,h4⟩
   ·rw[h1]at hg;simp[qI,Value.ownBlock]at hg
   ·rw[h1]at hg;simp only[qI,Value.ownBlock,List.mem_cons,List.not_mem_nil,or_false]at hg;subst hg;exact(Array.getElem?_eq_some_iff.1 h3).1
  exact⟨ae,fun hm=>by rcases hL g hm with h5|h5|h5;omega;exact hge.2 h5;omega⟩
theorem RN.start (w:World) (B:Nat) (L:List Nat):RN w B L [] (.slice none 0 0):=⟨jw _ _ _ _,av,by simp[qI,Value.ownBlock],fun _=>rfl⟩
theorem Tryz.Y8:(prog.info? 183).map (fun i=>(i.zero,i.size,i.bytes))=some (some (.agg #[ag 0,ag 0,.string ⟨#[]⟩,.slice none 0 0]),4,56):=aL
theorem RN.more {l:List It} {v':Value} (h:RN w B L l v) (x:It) (hx:nH w B (qI v++L) x.1.kids x.2.1 x.2.2.1 x.2.2.2) (hL:∀y∈L,y<w.heap.size) (hB:B≤w.heap.size)
  (own:w'.ownsRow 0 183 4 v' (l.length+1) (l.flatMap nY++nY x)) (hg:w.grownBy w' v.ownBlock) (hv:v'.ownBlock=v.ownBlock∨∃g,v'.ownBlock=some g∧w.heap.size≤g):RN w' B L (l++[x]) v':=by
 have hc:Ch (qI v) w w':=⟨hg.os,hg.tape,hg.output,hg.size,fun k hk hn=>hg.block k hk (fun e=>hn (by unfold qI;rw[←e];simp))⟩
 have step:∀y:It,nH w B (qI v++L) y.1.kids y.2.1 y.2.2.1 y.2.2.2→nH w' B (qI v'++L) y.1.kids y.2.1 y.2.2.1 y.2.2.2:=fun y hy=>
  hy.to hc (aH _) (fun z hz=>.inr (.inl (List.mem_append_left _ hz))) (fun z hz=>by
   rcases h_.1 hz with h5|h5
   ·rcases hv with e|⟨g,e,h6⟩
    ·exact .inr (.inl (List.mem_append_left _ (by unfold qI at*;rw[←e];exact h5)))
    ·unfold qI at h5
     rw[e]at h5
     simp only[List.mem_cons,List.not_mem_nil,or_false]at h5
     subst h5
     exact .inr (.inr h6)
   ·exact .inr (.inl (List.mem_append_right _ h5)))
 refine⟨by simpa using own,fun y hy=>?_,fun g hg'=>?_,fun e=>by simp at e⟩
 ·rcases h_.1 hy with h5|h5
  ·exact step y (h.sub y h5)
  ·simp only[List.mem_cons,List.not_mem_nil,or_false]at h5;subst h5;exact step y hx
 ·rcases hv with e|⟨g',e,h6⟩
  ·exact h.ge g (by unfold qI at*;rw[←e];exact hg')
  ·unfold qI at hg';rw[e]at hg';simp only[List.mem_cons,List.not_mem_nil,or_false]at hg';subst hg';exact⟨ae,fun hm=>by have:=hL _ hm;omega⟩
theorem K_ {T:List Tk} (hS:dB 245 T n .stmt):dB 192 T (n+1) .block:=by
 intro w B p lv i j x L hL hp hB hx;simp only[ex]at hx;replace hx:=fe hx;obtain⟨⟨hop,hlv⟩,hx⟩:=hx;have yP:=hp.Iu;have I9:=hp.E_;have KL:=ah fun(V:World) (hV:Ch [] w V)=>xB (lv:=L) (hp.ch hV av) (aS hB hV.size) hop ae;have h2:=fun(V:World) (i k:Nat) (z:Nd) (hV:Ch [p] w V) (h:dw V B p T i) (hz:ex T n .stmt lv i=some (z,k))=>hS V B p lv i k z L hL h (aS hB hV.size) hz;have hs:=fun(U V:World) (i:Nat) (hU:w.heap.size≤U.heap.size) (h:dw U B p T i) (hV:Ch [] U V) (t:TypeId) (g:Nat) (hg:g=V.heap.size)=>Xg h (aS hB hU) hV ⟨#[125]⟩ t g hg;have uO:=ah fun(V:World) (i:Nat) (hi:iQ (tk T i) [⟨#[125]⟩]=true) (hV:w.heap.size≤V.heap.size) (h:dw V B p T i)=>jZ h (aS hB hV) hi;have NN:=ah fun(a:Nat) (y:Nd) (b:Nat) (h:ex T n .stmt lv a=some (y,b))=>JG n _ lv a y b h;unfold yI at h2;obtain⟨i0,hii,sN,nk,nD⟩:=info_parts Tryz.Y8;clear hp hop hS hL;have yR:=ah h2;have um:=ah hs;clear h2 hs;refine az ?_;intro hal bu;have gY:=results192;go_enter func192,ntmps192;go_wp2_with (first|((with_reducible refine(KL.out _ aW).mono ?_);refine kU ?_;intro w1 pG aO N1 dA bW eu eF));refine aP fun W hW=>?_;obtain⟨t4,h4⟩:∃t4,t4=w.heap.size:=⟨_,rfl⟩
 obtain⟨t5,h5⟩:∃t5,t5=w1.heap.size:=⟨_,rfl⟩
 have k5:aV W t5 [ag 7,ag 0,.string ⟨#[]⟩,.slice none 0 0]:=by rw[hW,h5];exact aV.new _ _ _ _ rfl
 have k4:aV W t4 [ag 0,ag 0,.string ⟨#[]⟩,.slice none 0 0]:=by rw[hW,h4];exact(aO.bk (aV.new w _ _ _ rfl) bQ).alloc _
 have hP:dw W B p T (i+1):=oN;have hC:Ch [p] w W:=mO;have hz:w.heap.size≤t4∧t4<t5∧p<t4:=ae;rw[←h4,←h5];clear hW pG aO bW eu eF dA N1 h5;have HX:=ah hx;have H4:=ah h4;have HP:=ah hP;have HC:=ah hC;have HB4:=ah k4;have HB5:=ah k5;have HK:=ah (RN.start W w.heap.size [t4,t5]);clear hx h4 hP hC k4 k5 w1;go_loopw [13] (fun s13 wr=>∃(l:List It) (i' f':Nat) (v:Value),Hid (GL T (ex T n .stmt lv) f' (l.map (·.1)) i'=some (x,j))∧Hid (aV wr t5 [ag 7,ag 0,.string ⟨#[]⟩,v])∧Hid (aV wr t4 [ag 0,ag 0,.string ⟨#[]⟩,.slice none 0 0])∧Hid (RN wr w.heap.size [t4,t5] l v)∧Hid (dw wr B p T i')∧Hid (Ch [p] w wr)∧l.length≤i') (fun _ wr=>T.length-iV wr p);case atStart=>exact⟨[],i+1,n,.slice none 0 0,HX,HB5,HB4,HK,HP,HC,av⟩
 case round=>
  clear HX HB5 HB4 HK HP HC;obtain⟨l,i',f',v,hx,k5,k4,hK,hP,hC,hli⟩:=hrel;have hTl:=hP.out.ok.len;replace hx:=hx.out;have hlt:=hP.out.lt;have yT:=hP.out.iV;cases f' with
  |zero=>simp[GL]at hx
  |succ f'=>
   simp only[GL]at hx;have l4:=k4.out.lt;have l5:=k5.out.lt;have lw:=hC.out.size;have hs:=um.out wr;obtain⟨a,cap,hv⟩:=hK.out.shape;have c53:=k5.out.cell 3;have f5:=k5.out.free;simp only[List.getElem?_cons_zero,List.getElem?_cons_succ]at c53;rw[hv]at c53 k5 hK;clear hv;by_cases hi:iQ (tk T i') [⟨#[125]⟩]=true
   ·rw[if_pos hi]at hx;simp only[Option.some.injEq,Prod.mk.injEq]at hx;obtain⟨rfl,rfl⟩:=hx;have hs:=fun V=>um.out wr V i' lw hP.out;rw[hi]at hs;have vN:=ah fun(V:World) (hV:w.heap.size≤V.heap.size) (h:dw V B p T i')=>uO.out V i' hi hV h;have c50:=k5.out.cell 0;have c51:=k5.out.cell 1;have c52:=k5.out.cell 2;have c40:=k4.out.cell 0;have c41:=k4.out.cell 1;have c42:=k4.out.cell 2;have c43:=k4.out.cell 3;simp only[List.getElem?_cons_zero,List.getElem?_cons_succ]at c50 c51 c52 c40 c41 c42 c43;have f4:=k4.out.free;have HC:=ah hC;have HP:=ah hP;have HK:=ah hK;clear hi hP hC hK;have um:=ah hs;clear hs;go_wp2_with (first|((with_reducible refine(um.out _ aW _ _ cO).mono ?_);refine df ?_;intro w2 dW N2 nM gX ku lI)|((with_reducible refine(vN.out _ cO (HP.out.out.ch (l:=[]) aW av)).mono ?_);refine kU ?_;intro w3 pQ gK N3 vD jK vF sJ));have hC0:=HC.out.out;have cZ:=au;refine bodyPost_ret (v:=.agg #[ag 7,ag 0,.string ⟨#[]⟩,.slice a l.length cap]) (by simp[results,gY,go_sem,cZ,jK,gX,c40,c41,c42,c43,aQ,↓IntWalk.iteOmega]) rfl ⟨_,_,_,rfl,HK.out.out.done.to (M:=[p,t4]) aW cO bP av,pQ.ch (l:=[t4]) aW bP,by exact aW⟩
   ·rw[if_neg hi]at hx;replace hx:=bind_some hx;obtain⟨⟨z,k⟩,nD,hx⟩:=hx;have hs:=fun V=>um.out wr V i' lw hP.out;rw[Bool.eq_false_iff.2 hi]at hs;have acb:=ah fun(V:World) (hV:Ch [p] w V) (h:dw V B p T i')=>yR.out V i' k z hV h nD;have hkk:=NN.out _ _ _ nD;have HC:=ah hC;have HP:=ah hP;have Hx:=ah hx;have HK:=ah hK;clear hi nD hx hP hC hK;have um:=ah hs;clear hs;go_upto_region 4 with(first|((with_reducible refine(um.out _ aW _ _ cO).mono ?_);refine df ?_;intro w2 dW N2 nM gX ku lI));have JN:Ch [p] w w2:=Dy;have HC3:=ah JN;clear JN;refine wp_region_any aL ?_;change wpAny _ _ _ _ _ _ _ (World.drew _);refine wpAny_take (i:=0) (v:=?_) rfl aL aL aL (fun _ _ _ h=>h) (Or.inl ⟨by rfl,?_⟩) ?_;rotate_left;(intro w;go_simp;try(with_reducible rfl));refine wpAny_take (i:=2) (v:=?_) rfl aL aL aL (fun _ _ _ h=>h) (Or.inl ⟨by rfl,?_⟩) ?_;rotate_left;(intro w;go_simp;try(with_reducible rfl));refine wpAny_take (i:=3) (v:=?_) rfl aL aL aL (fun _ _ _ h=>h) (Or.inl ⟨by rfl,?_⟩) ?_;rotate_left;(intro w;go_simp;try(with_reducible rfl));refine wpAny_ready (rs:=[1,4]) aL av (AllReady.cons rfl (fun K hK=>?_) (AllReady.cons rfl (fun K hK=>?_) AllReady.nil))
    ·go_simp;refine hK _ _ ?_;clear hK K;refine wpAny_ready (rs:=[4]) aL av (AllReady.cons rfl (fun K hK=>?_) AllReady.nil);go_simp;go_wp2_with (first|((with_reducible refine(acb.out _ HC3.out.drew (HP.out.out.ch (l:=[]) aW av)).mono ?_);refine jD ?_;intro w4 a4 n4 m4 yU Ns lY N4 BG nJ Jl Im));(refine wpAny_ready (rs:=[5]) aL av (AllReady.cons rfl (fun K hK=>?_) AllReady.nil));go_simp;(refine hK _ _ ?_;clear hK K);exact xO
    ·go_simp;go_wp2_with (first|((with_reducible refine(acb.out _ HC3.out.drew (HP.out.out.ch (l:=[]) aW av)).mono ?_);refine jD ?_;intro w4 a4 n4 m4 yU Ns lY N4 BG nJ Jl Im));refine wpAny_ready (rs:=[1,5]) aL av (AllReady.cons rfl (fun K hK=>?_) (AllReady.cons rfl (fun K hK=>?_) AllReady.nil))
     ·go_simp;go_wp2_with (fail);(refine wpAny_ready (rs:=[5]) aL av (AllReady.cons rfl (fun K hK=>?_) AllReady.nil));go_simp;(refine hK _ _ ?_;clear hK K);exact xO
     ·go_simp;refine hK _ _ ?_;clear hK K;(refine wpAny_ready (rs:=[1]) aL av (AllReady.cons rfl (fun K hK=>?_) AllReady.nil));go_simp;go_wp2_with (first|fail);exact xO
variable {w:World} {B p:Nat} {T:List Tk}
theorem l8 (f:FuncId) (T:List Tk) (wh:Wh):dB f T 0 wh:=by intro w B p lv i j x L hL hp hB hx;cases wh<;>simp[ex]at hx
theorem GR (T:List Tk):∀n,dB 253 T n .expr∧dB 262 T n .Aj∧dB 264 T n .neg∧dB 265 T n .cmp∧dB 266 T n .sum∧dB 268 T n .prod∧dB 270 T n .Qd∧dB 271 T n .YP∧dB 254 T n .idx∧dB 245 T n .stmt∧dB 192 T n .block∧dB 255 T n .choice
 |0=>⟨l8 _ _ _,l8 _ _ _,l8 _ _ _,l8 _ _ _,l8 _ _ _,l8 _ _ _,l8 _ _ _,l8 _ _ _,l8 _ _ _,l8 _ _ _,l8 _ _ _,l8 _ _ _⟩
 |n+1=>by
  obtain⟨h1,h2,h3,h4,h5,h6,h7,h8,h9,h10,h11,h12⟩:=GR T n
  exact⟨NP h2,NQ h3,Rl h3 h4,Rq h5,Rk h6,NS h7,Rm h7 h8,NM h9 h1,Rv h1,N_ h9 h1 h12 h11,K_ h10,Ja h1 h11⟩
theorem Oa {i h:Nat} (hp:dw w B p T i) (hh:hnd (tk T i).text=some h):
  Calls prog 190 #[aR p] w fun e w'=>e=.returned (ag h)∧aJ w w':=by
 have hpk:=uh hp;unfold yH at hpk;generalize tk T i=t at*;have e1:(t.text.toList==[97,99,116])=eH t.text ab2:=dP;have e2:(t.text.toList==[116,105,99,107])=eH t.text JF:=dP;have e3:(t.text.toList==[104,105,116])=eH t.text VI:=dP;unfold hnd at hh;clear hp;have zu:=ah hpk;clear hpk;refine az ?_;intro hal bu;by_cases h1:eH t.text ab2=true
 ·rw[if_pos h1]at hh;rw[h1]at e1;injection hh with hh;subst hh;clear h1 e2 e3;exact xP
 ·rw[if_neg h1]at hh;rw[Bool.eq_false_iff.2 h1]at e1;clear h1;by_cases h2:eH t.text JF=true
  ·rw[if_pos h2]at hh;rw[h2]at e2;injection hh with hh;subst hh;clear h2 e3;exact xP
  ·rw[if_neg h2]at hh;rw[Bool.eq_false_iff.2 h2]at e2;clear h2;by_cases h3:eH t.text VI=true
   ·rw[if_pos h3]at hh;rw[h3]at e3;injection hh with hh;subst hh;clear h3;exact xP
   ·rw[if_neg h3]at hh;cases hh
def vk (x y z:It):List Value:=[ag x.1.kind,ag x.1.num,.string x.1.str,.slice x.2.1 x.2.2.1 x.2.2.2,ag y.1.kind,ag y.1.num,.string y.1.str,.slice y.2.1 y.2.2.1 y.2.2.2,ag z.1.kind,ag z.1.num,.string z.1.str,.slice z.2.1 z.2.2.1 z.2.2.2]
theorem N9 {f:Nat} {on:List Nd} (hp:dw w B p T 0) (hB:B≤w.heap.size) (hx:prL T f [nd0,nd0,nd0] 0=some on):
  Calls prog 158 #[aR p] w fun e w'=>∃x y z:It,on=[x.1,y.1,z.1]∧e=.returned (.agg #[ag x.1.kind,ag x.1.num,.string x.1.str,.slice x.2.1 x.2.2.1 x.2.2.2,ag y.1.kind,ag y.1.num,.string y.1.str,.slice y.2.1 y.2.2.1 y.2.2.2,ag z.1.kind,ag z.1.num,.string z.1.str,.slice z.2.1 z.2.2.1 z.2.2.2])∧(nH w' w.heap.size [] x.1.kids x.2.1 x.2.2.1 x.2.2.2∧nH w' w.heap.size [] y.1.kids y.2.1 y.2.2.1 y.2.2.2∧nH w' w.heap.size [] z.1.kids z.2.1 z.2.2.1 z.2.2.2)∧Ch [p] w w':=by
 have yP:=hp.Iu;have I9:=hp.E_;have hk:=fun(V:World) (i:Nat) (h:dw V B p T i)=>uh h;have lD:=ah fun(V:World) (i:Nat) (hV:w.heap.size≤V.heap.size) (h:dw V B p T i) (hi:iQ (tk T i) [⟨#[111,110]⟩]=true)=>jZ h (aS hB hV) hi;have P9:=ah fun(V:World) (i q:Nat) (h:dw V B p T i) (hi:hnd (tk T i).text=some q)=>Oa h hi;have hb:=fun(V:World) (i k n:Nat) (z:Nd) (hV:w.heap.size≤V.heap.size) (h:dw V B p T i) (hz:ex T n .block 1 i=some (z,k))=>(GR T n).2.2.2.2.2.2.2.2.2.2.1 V B p 1 i k z 1 rfl h (aS hB hV) hz;have NN:=ah fun(n a:Nat) (y:Nd) (b:Nat) (h:ex T n .block 1 a=some (y,b))=>JG n _ 1 a y b h;unfold yH at hk;unfold yI at hb;have HP0:=ah hp;have Hhk:=ah hk;have LZ:=ah hb;clear hk hb;clear hp;refine az ?_;intro hal bu;have gY:=results158;go_enter func158,ntmps158;go_wp2;refine aP fun W hW=>?_;obtain⟨t2,h2⟩:∃t2,t2=w.heap.size:=⟨_,rfl⟩
 obtain⟨t3,h3⟩:∃t3,t3=w.heap.size+1:=⟨_,rfl⟩
 have k3:aV W t3 (vk (nd0,none,0,0) (nd0,none,0,0) (nd0,none,0,0)):=by rw[hW,h3];exact aV.new _ _ _ _ av
 have k2:aV W t2 (vk (nd0,none,0,0) (nd0,none,0,0) (nd0,none,0,0)):=by rw[hW,h2];exact(aV.new w _ _ _ rfl).alloc _
 have hP:dw W B p T 0:=by rw[hW];exact HP0.out.ch (l:=[]) aW av
 have hC:Ch [p] w W:=mO;have hz:w.heap.size≤t2∧t2<t3∧p<t2:=ae;rw[←h3,←h2];clear hW h3;have HX:=ah hx;have H2:=ah h2;have HP:=ah hP;have HC:=ah hC;have HB2:=ah k2;have HB3:=ah k3;clear hx h2 hP hC k2 k3 HP0;go_loopw [8] (fun s8 wr=>∃(x y z:It) (i' f':Nat),Hid (prL T f' [x.1,y.1,z.1] i'=some on)∧Hid (aV wr t3 (vk x y z))∧Hid (aV wr t2 (vk (nd0,none,0,0) (nd0,none,0,0) (nd0,none,0,0)))∧Hid (nH wr w.heap.size [t2,t3] x.1.kids x.2.1 x.2.2.1 x.2.2.2)∧Hid (nH wr w.heap.size [t2,t3] y.1.kids y.2.1 y.2.2.1 y.2.2.2)∧Hid (nH wr w.heap.size [t2,t3] z.1.kids z.2.1 z.2.2.1 z.2.2.2)∧Hid (dw wr B p T i')∧Hid (Ch [p] w wr)) (fun _ wr=>T.length-iV wr p);case atStart=>exact⟨(nd0,none,0,0),(nd0,none,0,0),(nd0,none,0,0),0,f,HX,HB3,HB2,ah .nil,ah .nil,ah .nil,HP,HC⟩
 case round=>
  clear HX HB2 HB3 HP HC;obtain⟨x,y,z,i',f',hx,k3,k2,hKx,hKy,hKz,hP,hC⟩:=hrel;replace hx:=hx.out;have hlt:=hP.out.lt;have yT:=hP.out.iV;have hTl:=hP.out.ok.len;cases f' with
  |zero=>simp[prL]at hx
  |succ f'=>
   simp only[prL]at hx;have l2:=k2.out.lt;have l3:=k3.out.lt;have lw:=hC.out.size;have hk:=Hhk.out wr i' hP.out;have c3:=k3.out.cell;unfold vk at c3;have f3:=k3.out.free;obtain⟨t,ht⟩:∃t,t=tk T i':=⟨_,rfl⟩
   rw[←ht]at hx hk;have hfd:=fun W=>YX t.kind t.text t.pos t.val 0 W;by_cases h0:t.kind=0
   ·rw[if_pos h0]at hx;injection hx with hx;subst hx;have c2:=k2.out.cell;unfold vk at c2;have f2:=k2.out.free;have HC:=ah hC;have hbk:=jY h0;clear ht hC h0;have Hhk:=ah hk;clear hk;go_wp2_with (first|((with_reducible refine(Hhk.out).mono ?_);refine df ?_;intro w1 aO N1 dA bW eu eF));have cZ:=au;have hC0:=HC.out.out;refine bodyPost_ret (v:=.agg #[ag x.1.kind,ag x.1.num,.string x.1.str,.slice x.2.1 x.2.2.1 x.2.2.2,ag y.1.kind,ag y.1.num,.string y.1.str,.slice y.2.1 y.2.2.1 y.2.2.2,ag z.1.kind,ag z.1.num,.string z.1.str,.slice z.2.1 z.2.2.1 z.2.2.2]) (by simp[results,gY,go_sem,cZ,bW,aQ,c2,↓IntWalk.iteOmega]) rfl ⟨x,y,z,rfl,rfl,⟨hKx.out.to (M:=[p,t2]) aW (aH _) bP av,hKy.out.to (M:=[p,t2]) aW (aH _) bP av,hKz.out.to (M:=[p,t2]) aW (aH _) bP av⟩,by exact aW⟩
   ·rw[if_neg h0]at hx;have hbk:=jN h0;replace hx:=fe hx;obtain⟨hon,hx⟩:=hx;have akM:iQ (tk T i') [⟨#[111,110]⟩]=true:=by rw[←ht];exact hon
    cases hq:hnd (tk T (i'+1)).text with
    |none=>rw[hq]at hx;cases hx
    |some q=>
     rw[hq]at hx;replace hx:=fe hx;obtain⟨⟨sN,ek⟩,hx⟩:=hx;replace hx:=bind_some hx;obtain⟨⟨o,k⟩,ho,hx⟩:=hx;have hi2:=hP.out.ok.last i' hlt (by rw[←ht];exact h0);have hi3:=hP.out.ok.last (i'+1) hi2 ek;have af0:=ah fun(V:World) (hV:w.heap.size≤V.heap.size) (h:dw V B p T i')=>lD.out V i' hV h akM;have af1:=ah fun(V:World) (h:dw V B p T (i'+1))=>P9.out V (i'+1) q h hq;have af2:=ah fun(V:World) (hV:w.heap.size≤V.heap.size) (h:dw V B p T (i'+1+1))=>LZ.out V (i'+2) k f' o hV h ho;have hkk:=NN.out _ _ _ _ ho;have hq3:q=0∨q=1∨q=2:=by
      unfold hnd at hq;repeat' split at hq
      all_goals(first|(injection hq with hq;omega)|cases hq)
     have HC:=ah hC;have HP:=ah hP;have Hx:=ah hx;clear hon akM hq hx ht hP hC h0 ho ek;have Hhk:=ah hk;clear hk;rcases hq3 with rfl|rfl|rfl
     ·have hbz:(x.1.kind==0)=true:=jY sN;go_upto_region 7 with(first|((with_reducible refine(Hhk.out).mono ?_);refine df ?_;intro w1 aO N1 dA bW eu eF)|((with_reducible refine(af0.out _ cO (HP.out.out.ch (l:=[]) aW av)).mono ?_);refine kU ?_;intro w2 tH dW N2 nM gX ku lI)|((with_reducible refine(af1.out _ (tH.ch (l:=[]) aW av)).mono ?_);refine df ?_;intro w3 gK N3 vD jK vF sJ));have pQ:dw w3 B p T (i'+1):=tH.ch (l:=[]) aW av;have JN:Ch [p] wr w3:=ji;have fin:dw (w3.setCell ⟨p,3,none⟩ (ag ((i':Int)+1+1))) B p T (i'+1+1):=by have:=pQ.next ae;simpa using this
      obtain⟨s,rm,qq,cap,a0,c0,e1,e2,e3,e4,e5⟩:=pQ.ex;have⟨cp,fp,_⟩:=e4;have Uh:=JN.bk k3.out bQ;have k32:=JN.bk k2.out bQ;have c3:=Uh.cell;unfold vk at c3;have f3:=Uh.free;have pI:=ah fin;have HC3:=ah JN;have HK3:=ah Uh;have HK2:=ah k32;have HP3:=ah pQ;clear fin e4 e5 JN pQ bW gX jK eu ku vF Uh k32;go_wp2_with (first|((with_reducible refine(af2.out _ cO pI.out).mono ?_);refine jD ?_;intro w5 a5 n5 m5 QD zI eY N5 P7 sO KE KF));have Jb:Ch [p] w3 w5:=ji;have Mf:Ch [p] wr w5:=HC3.out.trans Jb av;have RP:dw ((((w5.setCell ⟨t3,0,none⟩ (ag o.kind)).setCell ⟨t3,1,none⟩ (ag o.num)).setCell ⟨t3,2,none⟩ (.string o.str)).setCell ⟨t3,3,none⟩ (.slice a5 n5 m5)) B p T k:=zI.ch (l:=[t3]) mR bP;have nx6:=RP.iV;have akO:=RP.lt;refine⟨⟨(o,a5,n5,m5),y,z,k,f',?_,ah ?_,ah ?_,ah ?_,ah ?_,ah ?_,ah RP,ah ?_⟩,?_⟩
      ·exact ah (by simpa using Hx.out)
      ·exact((((Mf.bk k3.out bQ).put 0 _).put 1 _).put 2 _).put 3 _
      ·exact((((Mf.bk k2.out bQ).other aX _).other aX _).other aX _).other aX _
      ·exact QD.to (M:=[t3]) mR cO bP bP
      ·exact hKy.out.to (M:=[p,t3]) mU (aH _) bP bP
      ·exact hKz.out.to (M:=[p,t3]) mU (aH _) bP bP
      ·have h1:=HC.out.out.trans Mf av;clear Mf Jb eY;exact aW
      ·rw[yT,nx6];omega
     ·have hbz:(y.1.kind==0)=true:=jY sN;go_upto_region 7 with(first|((with_reducible refine(Hhk.out).mono ?_);refine df ?_;intro w1 aO N1 dA bW eu eF)|((with_reducible refine(af0.out _ cO (HP.out.out.ch (l:=[]) aW av)).mono ?_);refine kU ?_;intro w2 tH dW N2 nM gX ku lI)|((with_reducible refine(af1.out _ (tH.ch (l:=[]) aW av)).mono ?_);refine df ?_;intro w3 gK N3 vD jK vF sJ));have pQ:dw w3 B p T (i'+1):=tH.ch (l:=[]) aW av;have JN:Ch [p] wr w3:=ji;have fin:dw (w3.setCell ⟨p,3,none⟩ (ag ((i':Int)+1+1))) B p T (i'+1+1):=by have:=pQ.next ae;simpa using this
      obtain⟨s,rm,qq,cap,a0,c0,e1,e2,e3,e4,e5⟩:=pQ.ex;have⟨cp,fp,_⟩:=e4;have Uh:=JN.bk k3.out bQ;have k32:=JN.bk k2.out bQ;have c3:=Uh.cell;unfold vk at c3;have f3:=Uh.free;have pI:=ah fin;have HC3:=ah JN;have HK3:=ah Uh;have HK2:=ah k32;have HP3:=ah pQ;clear fin e4 e5 JN pQ bW gX jK eu ku vF Uh k32;go_wp2_with (first|((with_reducible refine(af2.out _ cO pI.out).mono ?_);refine jD ?_;intro w5 a5 n5 m5 QD zI eY N5 P7 sO KE KF));have Jb:Ch [p] w3 w5:=ji;have Mf:Ch [p] wr w5:=HC3.out.trans Jb av;have RP:dw ((((w5.setCell ⟨t3,4,none⟩ (ag o.kind)).setCell ⟨t3,5,none⟩ (ag o.num)).setCell ⟨t3,6,none⟩ (.string o.str)).setCell ⟨t3,7,none⟩ (.slice a5 n5 m5)) B p T k:=zI.ch (l:=[t3]) mR bP;have nx6:=RP.iV;have akO:=RP.lt;refine⟨⟨x,(o,a5,n5,m5),z,k,f',?_,ah ?_,ah ?_,ah ?_,ah ?_,ah ?_,ah RP,ah ?_⟩,?_⟩
      ·exact ah (by simpa using Hx.out)
      ·exact((((Mf.bk k3.out bQ).put 4 _).put 5 _).put 6 _).put 7 _
      ·exact((((Mf.bk k2.out bQ).other aX _).other aX _).other aX _).other aX _
      ·exact hKx.out.to (M:=[p,t3]) mU (aH _) bP bP
      ·exact QD.to (M:=[t3]) mR cO bP bP
      ·exact hKz.out.to (M:=[p,t3]) mU (aH _) bP bP
      ·have h1:=HC.out.out.trans Mf av;clear Mf Jb eY;exact aW
      ·rw[yT,nx6];omega
     ·have hbz:(z.1.kind==0)=true:=jY sN;go_upto_region 7 with(first|((with_reducible refine(Hhk.out).mono ?_);refine df ?_;intro w1 aO N1 dA bW eu eF)|((with_reducible refine(af0.out _ cO (HP.out.out.ch (l:=[]) aW av)).mono ?_);refine kU ?_;intro w2 tH dW N2 nM gX ku lI)|((with_reducible refine(af1.out _ (tH.ch (l:=[]) aW av)).mono ?_);refine df ?_;intro w3 gK N3 vD jK vF sJ));have pQ:dw w3 B p T (i'+1):=tH.ch (l:=[]) aW av;have JN:Ch [p] wr w3:=ji;have fin:dw (w3.setCell ⟨p,3,none⟩ (ag ((i':Int)+1+1))) B p T (i'+1+1):=by have:=pQ.next ae;simpa using this
      obtain⟨s,rm,qq,cap,a0,c0,e1,e2,e3,e4,e5⟩:=pQ.ex;have⟨cp,fp,_⟩:=e4;have Uh:=JN.bk k3.out bQ;have k32:=JN.bk k2.out bQ;have c3:=Uh.cell;unfold vk at c3;have f3:=Uh.free;have pI:=ah fin;have HC3:=ah JN;have HK3:=ah Uh;have HK2:=ah k32;have HP3:=ah pQ;clear fin e4 e5 JN pQ bW gX jK eu ku vF Uh k32;go_wp2_with (first|((with_reducible refine(af2.out _ cO pI.out).mono ?_);refine jD ?_;intro w5 a5 n5 m5 QD zI eY N5 P7 sO KE KF));have Jb:Ch [p] w3 w5:=ji;have Mf:Ch [p] wr w5:=HC3.out.trans Jb av;have RP:dw ((((w5.setCell ⟨t3,8,none⟩ (ag o.kind)).setCell ⟨t3,9,none⟩ (ag o.num)).setCell ⟨t3,10,none⟩ (.string o.str)).setCell ⟨t3,11,none⟩ (.slice a5 n5 m5)) B p T k:=zI.ch (l:=[t3]) mR bP;have nx6:=RP.iV;have akO:=RP.lt;refine⟨⟨x,y,(o,a5,n5,m5),k,f',?_,ah ?_,ah ?_,ah ?_,ah ?_,ah ?_,ah RP,ah ?_⟩,?_⟩
      ·exact ah (by simpa using Hx.out)
      ·exact((((Mf.bk k3.out bQ).put 8 _).put 9 _).put 10 _).put 11 _
      ·exact((((Mf.bk k2.out bQ).other aX _).other aX _).other aX _).other aX _
      ·exact hKx.out.to (M:=[p,t3]) mU (aH _) bP bP
      ·exact hKy.out.to (M:=[p,t3]) mU (aH _) bP bP
      ·exact QD.to (M:=[t3]) mR cO bP bP
      ·have h1:=HC.out.out.trans Mf av;clear Mf Jb eY;exact aW
      ·rw[yT,nx6];omega
end Pa
end Go.Proofs.YtohpdonnpbjfdaaGreatDoor
