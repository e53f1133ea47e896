/- What is shown: packages parser, typecheck, package compile. Conditions: as each theorem states. -/
import Derived.Recover
import Derived.RecoverIn
import Derived.Shelf.Abstract
import Derived.Test.YtohpdonnpbjfdaaGreatDoorY27
set_option maxHeartbeats 40000000
set_option maxRecDepth 100000
set_option linter.unusedVariables false
set_option linter.unusedSimpArgs false
open Go.Proofs.Tryz
namespace Go.Proofs.YtohpdonnpbjfdaaGreatDoor
theorem gI {P:Prop} (h:P:=by rw[Ug];simp[au,TS,y2,↓IntWalk.iteOmega]):P:=h
theorem xM {P Q:Prop} (q:Q) (h:Q→P:=by have hb:∀k,k<A.heap.size→(∀q,row=some q→k≠q)→B.heap[k]?=A.heap[k]?:=fun k hk hn=>hg.block k hk (fun e=>hn k e.symm rfl);intro kk;revert hb;exact kk):P:=h q
theorem xN {P:Prop} (h:P:=by
 subst h;obtain⟨h1,o,h2,h3⟩:=hr k e;rcases hcd with h4|⟨o2,h4,h5⟩
 ·omega
 ·rw[h2]at h4;injection h4 with h4;subst h4;rw[h3]at h5;cases h5):P:=h
theorem xK {P:Prop} (h:P:=by
 rcases own.2 with⟨h1,h2⟩|⟨g,cap,cur,h1,_⟩
 ·exact⟨none,0,by rw[h1,h2]⟩
 ·exact⟨_,_,h1⟩):P:=h
theorem Dw {P:Prop} (h:P:=by clear hk;gi_wp2_with (refine Qt.Dx (fun c e=>by cases e) (by rintro⟨_,_,h⟩;exact h) rfl ?_;refine gq (.tmp 41) (.tmp 44) 139 rfl 9 i0 (.string ⟨#[]⟩) 1 16 underlying139 afX sN nk nD rfl bL (.slice a np.length cap) np.length (np.map Value.string) rfl Y4.out ⟨V2.heap.size,0,none⟩ 1 1 [.string u.1.str] rfl rfl (fun j uu hj=>by rw[zt,World.cell?_alloc_new];simpa using hj) il iq ae ?_;intro v5 w5 iE lJ zK;obtain⟨a5,cap5,rfl⟩:=Bc iE;have RY:=ah (RB (B:=W1.heap.size) HgV.out ae Hkp.out jO.out Hmp.out HV2.out iE lJ zK ae);obtain⟨q5,qf5⟩:=aqs.out w5 lJ;clear iE lJ zK);obtain⟨e1,e2,e3,e4⟩:=RY.out;exact⟨by rw[←sz1];exact e1,e2,by rw[Hnx.out];exact e3,akC.out.trans e2,akD.out.keep fun k a b c=>e4 k a c⟩):P:=h
theorem rE {P:Prop} (h:P:=by
 intro i hi V;obtain rfl|rfl|rfl:i=0∨i=1∨i=2:=ae
 ·kernel_rfl
 ·kernel_rfl
 ·kernel_rfl):P:=h
theorem xL {P:Prop} (h:P:=by gi_wp2;exact⟨KeepsFrom.refl _ _,Kv.refl _ _ _ _,by rw[Hnx.out];exact aqr.out,akC.out,akD.out⟩):P:=h
namespace Pa
open Go.RowKit aN Qt Bk Mp
attribute [local go_sem] Oper.semAt_some
variable {n0 p n size b:Nat} {A B w V V':World} {v:Value} {e:TypeId} {xs:List Value} {row:Option Nat} {s:ByteArray} {P:Program} {a:Act}
theorem Uf (s:ByteArray):∀(f i:Nat) (T:List Tk),i≤s.size→K6 s f i=some T→(∀k,k<T.length→(tk T k).kind≠6)∧(∀k,k<T.length→(tk T k).kind≠0→k+1<T.length)∧1≤T.length∧T.length+i≤s.size+1
 |0,i,T,hi,h=>by simp[K6]at h
 |f+1,i,T,hi,h=>by
  simp only[K6]at h
  replace h:=bind_some h;obtain⟨j,hj,h⟩:=h
  replace h:=bind_some h;obtain⟨t,ht,h⟩:=h
  obtain⟨b1,b2,_,_⟩:=RF _ _ _ hi hj
  obtain⟨e1,e2,e3,e4⟩:=Y5 ht b2
  by_cases h0:t.kind=0
  ·rw[if_pos h0]at h
   injection h with h
   subst h
   refine⟨fun k hk=>?_,fun k hk hn=>?_,av,bU⟩
   ·obtain rfl:k=0:=by simpa using hk
    exact e2
   ·obtain rfl:k=0:=by simpa using hk
    exact absurd h0 hn
  ·rw[if_neg h0]at h
   rw[Option.map_eq_some_iff]at h
   obtain⟨T',hT',rfl⟩:=h
   obtain⟨e5,e6⟩:=e4 h0
   obtain⟨a,b,c,d⟩:=Uf s f _ T' e6 hT'
   refine⟨fun k hk=>?_,fun k hk hn=>?_,av,bU⟩
   ·cases k with
    |zero=>exact e2
    |succ k=>exact a k (by simpa using hk)
   ·cases k with
    |zero=>simp;omega
    |succ k=>have:=b k (by simpa using hk) hn;simpa using this
def Gq (n0 p:Nat) (A:World):Prop:=(n0≤A.heap.size∧p<n0)∧∀v,A.cell? ⟨p,2,none⟩=some v→∀k,v.ownBlock=some k→n0≤k∧k<A.heap.size
structure Kq (n0 p:Nat) (A B:World):Prop where
 os:B.os=A.os
 tape:B.tape=A.tape
 output:B.output=A.output
 size:A.heap.size≤B.heap.size
 block:∀k,k<A.heap.size→k≠p→(∀v,A.cell? ⟨p,2,none⟩=some v→v.ownBlock≠some k)→(k<n0∨∃o,A.heap[k]?=some o∧o.isCells=true)→B.heap[k]?=A.heap[k]?
 two:∀o,o<2→B.cell? ⟨p,o,none⟩=A.cell? ⟨p,o,none⟩
 own:∀v',B.cell? ⟨p,2,none⟩=some v'→∀k,v'.ownBlock=some k→(∃v,A.cell? ⟨p,2,none⟩=some v∧v.ownBlock=some k)∨A.heap.size≤k
 lt:Gq n0 p A→Gq n0 p B
theorem Kq.trans {C:World} (h:Kq n0 p A B) (k:Kq n0 p B C):Kq n0 p A C:=by
 have step:∀x,x<A.heap.size→x≠p→(∀v,A.cell? ⟨p,2,none⟩=some v→v.ownBlock≠some x)→(x<n0∨∃o,A.heap[x]?=some o∧o.isCells=true)→C.heap[x]?=A.heap[x]?:=fun x hx hp hv hc=>by
  have h1:=h.block x hx hp hv hc;refine(k.block x (bH hx h.size) hp (fun v' hv' e=>?_) ?_).trans h1
  ·rcases h.own v' hv' x e with⟨v,h2,h3⟩|h2
   ·exact hv v h2 h3
   ·omega
  ·rw[h1];exact hc
 refine⟨k.os.trans h.os,k.tape.trans h.tape,k.output.trans h.output,aS h.size k.size,step,fun o ho=>(k.two o ho).trans (h.two o ho),fun v' hv' x e=>?_,fun g=>k.lt (h.lt g)⟩;rcases k.own v' hv' x e with⟨v,h2,h3⟩|h2
 ·exact h.own v h2 x h3
 ·exact .inr (aS h.size h2)
theorem Kq.refl (n0 p:Nat) (A:World):Kq n0 p A A:=⟨rfl,rfl,rfl,aH _,fun _ _ _ _ _=>rfl,fun _ _=>rfl,fun v hv k e=>.inl ⟨v,hv,e⟩,fun g=>g⟩
theorem Kq.below (h:aJ A B) (hp:p<A.heap.size):Kq n0 p A B:=
 have c:∀o,B.cell? ⟨p,o,none⟩=A.cell? ⟨p,o,none⟩:=fun o=>bg (a:=⟨p,o,none⟩) (h.block p hp)
 ⟨h.os,h.tape,h.output,h.size,fun k hk _ _ _=>h.block k hk,fun o _=>c o,fun v hv k e=>.inl ⟨v,by rw[←c];exact hv,e⟩,fun g=>⟨⟨aS g.1.1 h.size,g.1.2⟩,fun v hv k e=>let q:=g.2 v (by rw[←c];exact hv) k e;⟨q.1,bH q.2 h.size⟩⟩⟩
theorem Kq.book (hp:p<n0) (W:World) (l:Nat) (o o':Obj) (hl:n0≤l) (h:W.heap[l]?=some o) (ho:o.isCells=false):Kq n0 p W (W.putObj l o'):=by
 have hg:=grownBy_putObj' W l o';have hc:∀q,(W.putObj l o').cell? ⟨p,q,none⟩=W.cell? ⟨p,q,none⟩:=fun q=>bg (a:=⟨p,q,none⟩) (World.putObj_heap_other aX);refine⟨hg.os,hg.tape,hg.output,hg.size,fun k hk _ _ hcd=>World.putObj_heap_other (fun e=>?_),fun q _=>hc q,fun v hv k e=>.inl ⟨v,by rw[←hc];exact hv,e⟩,fun g=>⟨⟨aS g.1.1 hg.size,g.1.2⟩,fun v hv k e=>let q:=g.2 v (by rw[←hc];exact hv) k e;⟨q.1,bH q.2 hg.size⟩⟩⟩;subst e;rcases hcd with h1|⟨o2,h1,h2⟩
 ·omega
 ·rw[h]at h1;injection h1 with h1;subst h1;rw[ho]at h2;cases h2
theorem Kq.grown (hp:p<n0) (hg:A.grownBy B row) (hr:∀q,row=some q→n0≤q∧∃o:Obj,A.heap[q]?=some o∧o.isCells=false) (hA:p<A.heap.size):Kq n0 p A B:=by refine xM ?_;intro hb;have hc:∀q,B.cell? ⟨p,q,none⟩=A.cell? ⟨p,q,none⟩:=fun q=>bg (a:=⟨p,q,none⟩) (hb p hA (fun q e h=>by have:=(hr q e).1;omega));refine⟨hg.os,hg.tape,hg.output,hg.size,fun k hk _ _ hcd=>hb k hk (fun q e h=>?_),fun q _=>hc q,fun v hv k e=>.inl ⟨v,by rw[←hc];exact hv,e⟩,fun g=>⟨⟨aS g.1.1 hg.size,g.1.2⟩,fun v hv k e=>let q:=g.2 v (by rw[←hc];exact hv) k e;⟨q.1,bH q.2 hg.size⟩⟩⟩;exact xN
theorem tq (h:A.ownsRow n0 e size v n xs) (hg:A.grownBy B row) (hr:∀q,row=some q→∃o:Obj,A.heap[q]?=some o∧o.isCells=false):B.ownsRow n0 e size v n xs:=by
 refine⟨h.1,?_⟩;rcases h.2 with h1|⟨g,cap,cur,h1,h2,h3,h4⟩
 ·exact .inl h1
 ·refine .inr ⟨g,cap,cur,h1,h2,(hg.block g (Array.getElem?_eq_some_iff.1 h3).1 (fun e=>?_)).trans h3,h4⟩;obtain⟨o,h5,h6⟩:=hr g e.symm;rw[h3]at h5;injection h5 with h5;subst h5;cases h6
def Ip (s:ByteArray) (r n0 p:Nat) (W0:World) (pre:List Tk) (W:World):Prop:=
 (∃v,aV W p [.string s,.map (some r),v,ag 0,ag 0,ag 12]∧W.ownsRow n0 273 5 v pre.length (pre.flatMap KY))∧Kq n0 p W0 W
theorem Ip.own {r:Nat} {W0:World} (hp:p<n0):OwnFrom n0 (Ip s r n0 p W0):=by rintro pre A B row ⟨⟨v,h1,h2⟩,h3⟩ hg hr;exact⟨⟨v,h1.keep hg.size (hg.block p h1.lt (fun e=>by have:=(hr p e.symm).1;omega)),tq h2 hg (fun q e=>(hr q e).2)⟩,h3.trans (Kq.grown hp hg hr h1.lt)⟩
theorem Gq.below (g:Gq n0 p A) (h:aJ A V):Gq n0 p V:=
 ⟨⟨aS g.1.1 h.size,g.1.2⟩,fun v hv k e=>let q:=g.2 v (by rw[←World.cell?_of_block (a:=⟨p,2,none⟩) (h.block p (Nat.lt_of_lt_of_le g.1.2 g.1.1))];exact hv) k e;⟨q.1,bH q.2 h.size⟩⟩
theorem Kq.new {o:Nat} (g:Gq n0 p A) (h:aJ A V) (hb:A.heap.size≤b) (e:V.cell? ⟨b,o,none⟩=some v) (k:Kq n0 p V V'):V'.cell? ⟨b,o,none⟩=some v:=by
 have lb:=aU _ _ e;have hcell:∃ob,V.heap[b]?=some ob∧ob.isCells=true:=by
  unfold World.cell? at e;simp only at e;split at e
  ·rename_i c el fz hh;exact⟨_,hh,rfl⟩
  ·cases e
 refine(bg (a:=⟨b,o,none⟩) (k.block b lb (by have:=g.1;omega) (fun v' hv' e'=>?_) (.inr hcell))).trans e;have:=g.2 v' (by rw[←World.cell?_of_block (a:=⟨p,2,none⟩) (h.block p (Nat.lt_of_lt_of_le g.1.2 g.1.1))];exact hv') b e';omega
theorem Kq.old {k:Nat} (h:Kq n0 p A B) (g:Gq n0 p A) (hk:k<n0) (hkp:k≠p):B.heap[k]?=A.heap[k]?:=
 h.block k (bH hk g.1.1) hkp (fun v hv e=>by have:=g.2 v hv k e;omega) (.inl hk)
theorem Kq.lx {Bt:Nat} (h:Kq n0 p A B) (g:Gq n0 p A) (Vp:Bt<n0) (hBp:Bt≠p) (hr:∀r,A.cell? ⟨p,1,none⟩=some (.map (some r))→r<n0∧r≠p) (hb:A.cell? ⟨Bt,0,none⟩=some (aR p)) (hx:Lx A p s):B.cell? ⟨Bt,0,none⟩=some (aR p)∧Lx B p s:=by obtain⟨r,h1,h2⟩:=hx.ex;obtain⟨hr1,hr2⟩:=hr r h1;exact⟨(bg (a:=⟨Bt,0,none⟩) (h.old g Vp hBp)).trans hb,(h.two 0 ae).trans hx.c0,r,(h.two 1 ae).trans h1,(h.old g hr1 hr2).trans h2⟩
theorem RG (v:Option Addr) (w:World):Calls prog 157 #[.pointer v] w fun e w'=>e=.returned (.func (.func 185) #[] #[aR w.heap.size])∧w'=w.alloc (.cells #[.pointer v] 305):=by go_enter func157,ntmps157;go_wp2;go_ret;exact⟨av,rfl⟩
structure S5 (p Bx:Nat) (a:Option Addr) (n cap:Nat) (x:Tk) (V:World):Prop where
 d0:V.cell? ⟨p+1,0,none⟩=some (aR p)
 d1:V.cell? ⟨p,2,none⟩=some (.slice a n cap)
 c0:V.cell? ⟨Bx,0,none⟩=some (ag x.kind)
 c1:V.cell? ⟨Bx,1,none⟩=some (.string x.text)
 c2:V.cell? ⟨Bx,2,none⟩=some (ag x.pos)
 c3:V.cell? ⟨Bx,3,none⟩=some (ag x.val)
 c4:V.cell? ⟨Bx,4,none⟩=some (ag 0)
theorem S5.keep {Bx cap:Nat} {a:Option Addr} {x:Tk} (h:S5 p Bx a n cap x V) (hk:∀b,(b=p∨b=p+1∨b=Bx)→V'.heap[b]?=V.heap[b]?):S5 p Bx a n cap x V':=
 have c:∀b o,(b=p∨b=p+1∨b=Bx)→V'.cell? ⟨b,o,none⟩=V.cell? ⟨b,o,none⟩:=fun b o hb=>bg (a:=⟨b,o,none⟩) (hk b hb)
 ⟨(c _ _ av).trans h.d0,(c _ _ av).trans h.d1,(c _ _ av).trans h.c0,(c _ _ av).trans h.c1,(c _ _ av).trans h.c2,(c _ _ av).trans h.c3,(c _ _ av).trans h.c4⟩
theorem afY (l:List Tk):∀(i r:Nat),i<l.length→r<5→(l.flatMap KY)[i*5+r]?=(KY (tk l i))[r]?:=by
 induction l with
 |nil=>intro i r hi;simp at hi
 |cons x l ih=>
  intro i r hi hr;have hx:(KY x).length=5:=rfl;cases i with
  |zero=>rw[List.flatMap_cons,List.getElem?_append_left ae];simp[tk]
  |succ i=>rw[List.flatMap_cons,List.getElem?_append_right ae,hx];rw[show(i+1)*5+r-5=i*5+r from ae];have:=ih i r (by simpa using hi) hr;simpa[tk]using this
theorem Y6 {F:Fence} {fn:Func} {R:Ending→World→Prop} {e:Exit} (h:∀W,W=w→bodyPostM F n P fn R e a W):bodyPostM F n P fn R e a w:=h w rfl
theorem RH {Q:Exit→Act→World→Prop} {o:Oper} {w1:World} {K:Act→World→Prop} (hr:(execOp a.eval o).run P w=.ok .skip w1) (h:K (a.put o.dst undef) w1):o.wp P a w K Q:=by unfold Oper.wp;rw[hr];exact h
theorem ownsRow_base {b':Nat} (h:w.ownsRow b e size v n xs) (hb:b'≤b):w.ownsRow b' e size v n xs:=by
 refine⟨h.1,?_⟩;rcases h.2 with h1|⟨g,cap,cur,h1,h2,h3⟩
 ·exact .inl h1
 ·exact .inr ⟨g,cap,cur,h1,ae,h3⟩
theorem ve (h:w.ownsRow 0 e size v n xs) (hb:∀g,v.ownBlock=some g→b≤g):w.ownsRow b e size v n xs:=by exact xh
theorem N8 (a b c d:Value) (n:Nat) (w:World):
  CallsDIn Fence.wide n prog 156 #[a,b,c,d] .returning w fun e u' w'=>e=.returned (.tuple #[])∧u'=.returning∧w'=w:=by
 refine callsDIn_of_wpSIn func156 rfl trivial fun c₀ cs hu=>?_;apply wpSIn_seq;apply wpSIn_region;simp[wpOpsSIn,go_sem,recoverD,hu,ntmps156,Exit.thenS];refine wpSIn_cond (t:=false) (by simp[Act.eval,Array.replicate]) ?_;simp only[Bool.false_eq_true,if_false];refine wpSIn_of_wpIn rfl (wpIn_skip ?_);cases c₀
 simp_all [bodyPostS,results,results156]
theorem Tryz.ab_:(prog.info? 273).map (fun i=>(i.zero,i.size,i.bytes))=some (some (.agg #[ag 0,.string ⟨#[]⟩,ag 0,ag 0,ag 0]),5,48):=aL
theorem VE (s:ByteArray) (on:List Nd) (hx:A9 s=some on) (w:World):
  Calls prog 123 #[.string s] w fun e w'=>∃x y z:It,on=[x.1,y.1,z.1]∧e=.returned (.tuple #[.agg #[ag x.1.kind,ag x.1.num,.string x.1.str,.slice x.2.1 x.2.2.1 x.2.2.2,ag y.1.kind,ag y.1.num,.string y.1.str,.slice y.2.1 y.2.2.1 y.2.2.2,ag z.1.kind,ag z.1.num,.string z.1.str,.slice z.2.1 z.2.2.1 z.2.2.2],ag 0,ag 0])∧(nH w' w.heap.size [] x.1.kids x.2.1 x.2.2.1 x.2.2.2∧nH w' w.heap.size [] y.1.kids y.2.1 y.2.2.1 y.2.2.2∧nH w' w.heap.size [] z.1.kids z.2.1 z.2.2.1 z.2.2.2)∧aJ w w':=by
 unfold A9 at hx;replace hx:=fe hx;obtain⟨hn,hx⟩:=hx;replace hx:=bind_some hx;obtain⟨T,hT,hx⟩:=hx;have akH:=ah fun V=>K9 s V;have zO:=ah fun v V=>RG v V;have Ml:¬((2000:Int)<(s.size:Int)):=ae;have HX:=ah hx;have HT:=ah hT;clear hx hT;refine az ?_;intro hal bu;refine(callsIn_wide (n:=5)).1 ?_;refine callsIn_of_wp_marks func123 rfl trivial ?_ rfl;simp only[ntmps123,List.size_toArray,List.length_cons,List.length_nil,Nat.reduceAdd,Nat.reduceSub,Array.replicate_succ,Array.replicate_zero,List.push_toArray,List.append_toArray,List.nil_append,List.cons_append];refine wpIn_wide.2 ?_;go_wp2_with (first|((with_reducible refine(akH.out _).mono ?_);rintro e w1 ⟨r,rfl,hr1,aO,hrw⟩;obtain⟨N1,dA,bW,eu,eF⟩:=eB aO;(try simp only[bf]at dA))|((with_reducible refine(zO.out _ _).mono ?_);rintro e w2 ⟨rfl,rfl⟩));refine aP fun W0 lZ=>?_;obtain⟨p,hp⟩:∃p,p=w1.heap.size:=⟨_,rfl⟩
 have hsz:W0.heap.size=p+3:=by rw[lZ,hp];simp
 have kp:aV W0 p [.string s,.map (some r),.slice none 0 0,ag 0,ag 0,ag 12]:=by rw[lZ,hp];exact((aV.new _ _ _ _ rfl).alloc _).alloc _
 have k5:aV W0 (p+1) [aR p]:=by rw[lZ,hp];exact(aV.new _ _ _ _ av).alloc _
 have kB:aV W0 (p+2) [aR p]:=by rw[lZ,hp];exact aV.new _ _ _ _ av
 have akI:r<w1.heap.size:=(Array.getElem?_eq_some_iff.1 hr1).1;have hr0:W0.heap[r]?=some (.map Rz 20):=by rw[lZ];exact(gV _ _ _ bU).trans ((gV _ _ _ bU).trans ((gV _ _ _ ae).trans hr1))
 have nP:aJ w W0:=by rw[lZ];exact aG
 have z2:aV W0 w.heap.size [ag 0,ag 0,.string ⟨#[]⟩,.slice none 0 0,ag 0,ag 0,.string ⟨#[]⟩,.slice none 0 0,ag 0,ag 0,.string ⟨#[]⟩,.slice none 0 0]:=by rw[lZ];exact((((((aV.new w _ _ _ rfl).alloc _).alloc _).later aO).alloc _).alloc _).alloc _
 have z3:aV W0 (w.heap.size+1) [ag 0]:=by rw[lZ];exact(((((aV.new (w.alloc _) _ _ _ av).alloc _).later aO).alloc _).alloc _).alloc _
 have z4:aV W0 (w.heap.size+1+1) [ag 0]:=by rw[lZ];exact((((aV.new ((w.alloc _).alloc _) _ _ _ av).later aO).alloc _).alloc _).alloc _
 rw[←hp];have akJ:Lx W0 p s:=⟨kp.cell 0,r,kp.cell 1,hr0⟩
 have hgq:Gq (p+3) p W0:=⟨⟨ae,ae⟩,fun v hv k e=>by rw[kp.cell 2]at hv;injection hv with hv;subst hv;cases e⟩
 have hlow:∀b,w.heap.size≤b→b<p→True:=fun _ _ _=>trivial;have hwp:w.heap.size+3≤p:=by rw[hp];have:=aO.size;simp at this;omega
 have hrp:r<p:=by rw[hp];exact akI
 clear lZ hp hr1 aO bW eu eF dA N1 hrw akI hlow w1 Ml akH zO hal bu;refine(wpIn_wide (n:=5)).1 ?_;have Hkp:=ah kp;have Hk5:=ah k5;have HkB:=ah kB;have Hgq:=ah hgq;have Hlx:=ah akJ;have Hb0:=ah nP;have Hr0:=ah hr0;have Hz2:=ah z2;have Hz3:=ah z3;have Hz4:=ah z4;clear kp k5 kB hgq akJ nP hr0 z2 z3 z4;refine' wpIn_rangeFunc_ownH (n:=5) (F:=Fence.wide) rfl bL (gf:=185) (lb:=#[.pointer (some ⟨p+1+1,0,none⟩)]) rfl trivial (enters_of func185 aL rfl)
  (encs:=fun x=>#[yH x]) (Kp:=Kq (p+3) p) (S:=fun ys=>ys=T) (Sp:=fun _=>True) (N:=s.size+1) (w0:=W0)
  (fun l J Jx W hW hJ hJx hY h0=>?seq) Kq.trans (fun W l o o' hl ho hc _=>Kq.book ae W l o o' ae ho hc) (aK _ _) (fun _=>rfl)
  (Ip s r (p+3) p W0) (fun _ _ _=>False) (by rw[hsz];exact Ip.own ae) (fun c s A B row hs hg hr=>hs) ?start
  (fun x a' W=>∃Bx,p+3≤Bx∧(aV W Bx (KY x)∧p<W.heap.size∧∀v',W.cell? ⟨p,2,none⟩=some v'→v'.ownBlock≠some Bx)∧a'={tmps:=#[.string s,undef,aR w.heap.size,.pointer (some ⟨w.heap.size+1,0,none⟩),.pointer (some ⟨w.heap.size+1+1,0,none⟩),.pointer (some ⟨p+1,0,none⟩),aR Bx,.string s,ag s.size,.bool false,undef,.string s,.agg #[.string s,.map (some r)],.agg #[.string s,.map (some r),.slice none 0 0,ag 0,ag 0,ag 12],aR p,.func (.func 156) #[] #[.pointer (some ⟨p+1,0,none⟩),aR w.heap.size,.pointer (some ⟨w.heap.size+1,0,none⟩),.pointer (some ⟨w.heap.size+1+1,0,none⟩)],aR p,aR p,aR p,.func (.func 185) #[] #[.pointer (some ⟨p+1+1,0,none⟩)],.agg #[ag x.kind,.string x.text,ag x.pos,ag x.val,ag 0],undef,undef,undef,undef,undef,undef,undef,undef,undef,undef,undef,undef],defers:=[]})
  (fun x a' u A B row hs hg hr=>?ax) ?assign ?body ?done ?stop
 case seq=>
  have hB:W.cell? ⟨p+1+1,0,none⟩=some (aR p):=ai hW (HkB.out.cell 0);have hpW:p<W0.heap.size:=ae;exact callsIn_wide.2 (RI 4 l (p+1+1) p (Kq (p+3) p) s hn T HT.out (fun V=>Gq (p+3) p V∧V.cell? ⟨p,1,none⟩=some (.map (some r)))
   (fun V V' g k hb hx=>k.lx g.1 ae ae (fun r' h=>by rw[g.2]at h;injection h with h;injection h with h;injection h with h;subst h;exact⟨ae,ae⟩) hb hx)
   W.heap.size J Jx hJ (fun A V g h=>⟨g.1.below h,ai h g.2⟩) (fun A V g k=>⟨k.lt g.1,(k.two 1 ae).trans g.2⟩) (fun A V V' b o v g h hb e k=>Kq.new g.1 h hb e k)
   hY W hB (Hlx.out.later hW) ⟨Hgq.out.below hW,ai hW (Hkp.out.cell 1)⟩ h0)
 case start=>exact⟨⟨.slice none 0 0,Hkp.out,jw _ _ _ _⟩,Kq.refl _ _ _⟩
 case ax=>obtain⟨Bx,h1,h2,h3⟩:=hs;obtain⟨h2,hpA,hnw⟩:=h2;have yP:B.cell? ⟨p,2,none⟩=A.cell? ⟨p,2,none⟩:=bg (a:=⟨p,2,none⟩) (hg.block p hpA (fun e=>by have:=(hr p e.symm).1;omega));refine⟨Bx,h1,⟨h2.keep hg.size (hg.block Bx h2.lt (fun e=>?_)),bH hpA hg.size,fun v' hv'=>hnw v' (by rw[←yP];exact hv')⟩,h3⟩;obtain⟨_,o,h4,h5⟩:=hr Bx e.symm;have h6:=h2.cell 0;unfold World.cell? at h6;simp only[h4]at h6;cases o<;>first|(cases h5;done)|cases h6
 case assign=>
  intro l pre x W K hi hK;have hpW:=hi.1.choose_spec.1.lt;unfold yH;gi_wp2;refine hK _ _ ((KeepsOthers.alloc _ _).from _) (Kq.below ((aK _ _).alloc (aH _) _) hpW) ((Ip.own ae).alloc _ hi) ⟨W.heap.size,?_,⟨aV.new _ _ _ _ rfl,bU,fun v' hv' e=>?_⟩,rfl⟩
  ·have:=hi.2.size;omega
  ·have hgW:=hi.2.lt Hgq.out;have:=hgW.2 v' (by rw[←World.cell?_of_block (a:=⟨p,2,none⟩) (Below.heap_alloc W _ p hpW)];exact hv') _ e;omega
 case body=>
  rintro l pre x a' W hl ⟨rl,hrl⟩ ⟨⟨v,kp,own⟩,hkq⟩ ⟨Bx,hBx,⟨kx,hpW,hnw⟩,rfl⟩ hlen;obtain⟨i0,hii,sN,nk,nD⟩:=info_parts Tryz.ab_;have hsh:∃a cap,v=.slice a pre.length cap:=by exact xK
  obtain⟨a,cap,rfl⟩:=hsh;have k5:aV W (p+1) [aR p]:=Hk5.out.keep hkq.size (hkq.old Hgq.out ae ae);have hgW:=hkq.lt Hgq.out;have szW:=hkq.size;have ltx:=kx.lt;have Y7:=ah kp;have aqu:=ah k5;have Hkx:=ah kx;have jO:=ah own;have Hkq:=ah hkq;have HgW:=ah hgW;have hBp:Bx≠p+1:=ae;have hno:∀g,(Value.slice a pre.length cap).ownBlock=some g→p+3≤g∧g≠Bx:=fun g e=>by have h1:=hgW.2 _ (kp.cell 2) g e;have h2:=hnw _ (kp.cell 2);exact⟨h1.1,fun h=>h2 (by rw[←h];exact e)⟩
  have S0:S5 p Bx a pre.length cap x W:=⟨k5.cell 0,kp.cell 2,kx.cell 0,kx.cell 1,kx.cell 2,kx.cell 3,kx.cell 4⟩
  have UK:=ah S0;have Hno:=ah hno;clear kp k5 kx own hkq hgW hl hrl hnw S0 hno;gi_wp2
  haveI:Nonempty (vg (S5 p Bx a pre.length cap x)):=⟨⟨W,UK.out⟩⟩
  have r0:∀y:vg (S5 p Bx a pre.length cap x),y.out.cell? ⟨p+1,0,none⟩=some (aR p):=fun y=>y.ok.d0;have r1:∀y:vg (S5 p Bx a pre.length cap x),y.out.cell? ⟨p,2,none⟩=some (.slice a pre.length cap):=fun y=>y.ok.d1;have r2:∀y:vg (S5 p Bx a pre.length cap x),y.out.cell? ⟨Bx,0,none⟩=some (ag x.kind):=fun y=>y.ok.c0;have r3:∀y:vg (S5 p Bx a pre.length cap x),y.out.cell? ⟨Bx,1,none⟩=some (.string x.text):=fun y=>y.ok.c1;have r4:∀y:vg (S5 p Bx a pre.length cap x),y.out.cell? ⟨Bx,2,none⟩=some (ag x.pos):=fun y=>y.ok.c2;have r5:∀y:vg (S5 p Bx a pre.length cap x),y.out.cell? ⟨Bx,3,none⟩=some (ag x.val):=fun y=>y.ok.c3;have r6:∀y:vg (S5 p Bx a pre.length cap x),y.out.cell? ⟨Bx,4,none⟩=some (ag 0):=fun y=>y.ok.c4;refine Bf (S5 p Bx a pre.length cap x) [0,1,2,3,4,5] [6,7,8,9,10] 10 aL aL aL (UK.out.keep (fun b _=>rfl)) ?_;simp only[jA];repeat(go_big_quiet_step (fail))
  refine wpQuiet_nil ?_;clear r0 r1 r2 r3 r4 r5 r6;have ltp:=Y7.out.lt;have lt5:=aqu.out.lt;refine gN (v:=aZ W.heap.size 1 1) (w1:=W.drew.alloc (.cells #[ag x.kind,.string x.text,ag x.pos,ag x.val,ag 0] 273)) bL rfl rfl bO ⟨⟨W.drew.alloc _,(UK.out.keep (V':=W.drew) (fun _ _=>rfl)).keep (fun b hb=>gV _ _ _ (by show b<W.heap.size;omega))⟩,rfl⟩ ?_;simp only[Act.put,dH];refine y_ bL rfl rfl ?_;have ho0:(W.drew.alloc (.cells #[ag x.kind,.string x.text,ag x.pos,ag x.val,ag 0] 273)).ownsRow 0 273 5 (.slice a pre.length cap) pre.length (pre.flatMap KY):=ownsRow_base (jO.out.drew.alloc _) (Nat.zero_le _);refine gq (.tmp 25) (.tmp 27) 266 rfl 273 i0 (.agg #[ag 0,.string ⟨#[]⟩,ag 0,ag 0,ag 0]) 5 48 underlying266 hii sN nk nD rfl bL (.slice a pre.length cap) pre.length (pre.flatMap KY) rfl ho0 ⟨W.heap.size,0,none⟩ 1 1 (KY x) rfl rfl (fun j u hj=>by rw[zt];have:=World.cell?_alloc_new W.drew #[ag x.kind,.string x.text,ag x.pos,ag x.val,ag 0] 273 j;rw[show W.heap.size=W.drew.heap.size from rfl,this];simpa[KY]using hj) (by simp[KY,Value.oneCell']) iq ae ?_;intro v' w5 iE lJ zK;have hsh:∃a' cap',v'=.slice a' (pre.length+1) cap':=by
   rcases iE.2 with⟨h1,h2⟩|⟨g,cap,cur,h1,_⟩
   ·omega
   ·exact⟨_,_,h1⟩
  obtain⟨a5,cap5,rfl⟩:=hsh;have hblk:∀b,b<W.heap.size→(∀g,(Value.slice a pre.length cap).ownBlock=some g→b≠g)→w5.heap[b]?=W.heap[b]?:=fun b hb hn=>
   (lJ.block b (by simp;show b<W.heap.size+1;omega) (fun e=>hn b e.symm rfl)).trans (gV W.drew _ b hb)
  have hown5:w5.ownsRow (p+3) 273 5 (.slice a5 (pre.length+1) cap5) (pre.length+1) (pre.flatMap KY++KY x):=ve iE (fun g e=>by
   rcases zK with h|⟨g',h,h2⟩
   ·exact(Hno.out g (by rw[←h];exact e)).1
   ·rw[h]at e;injection e with e;subst e;have:W.heap.size+1≤g':=by simpa using h2
    omega)
  have ksz:W.heap.size+1≤w5.heap.size:=by have:=lJ.size;simpa using this
  have kp5:aV w5 p [.string s,.map (some r),.slice a pre.length cap,ag 0,ag 0,ag 12]:=Y7.out.keep ae (hblk p ltp (fun g e=>by have:=(Hno.out g e).1;omega));have S5':S5 p Bx a pre.length cap x w5:=UK.out.keep (fun b hb=>hblk b ae (fun g e=>by have:=Hno.out g e;omega));refine⟨⟨⟨w5,S5'⟩,rfl⟩,?_⟩;simp only[Act.put,dH];refine gN (v:=aR p) (w1:=w5) bL rfl rfl bO ⟨⟨w5,S5'⟩,rfl⟩ ?_;simp only[Act.put,dH];refine gN (v:=.pointer (some ⟨p,2,none⟩)) (w1:=w5) bL rfl rfl bO ⟨⟨w5,S5'⟩,rfl⟩ ?_;simp only[Act.put,dH];refine kH rfl rfl ?_;have q2:=kp5.cell 2;have qf:=kp5.free;simp only[List.getElem?_cons_zero,List.getElem?_cons_succ]at q2;refine RH (w1:=w5.setCell ⟨p,2,none⟩ (.slice a5 (pre.length+1) cap5)) bO ?_;refine fq ?_;have kpE:aV (w5.setCell ⟨p,2,none⟩ (.slice a5 (pre.length+1) cap5)) p [.string s,.map (some r),.slice a5 (pre.length+1) cap5,ag 0,ag 0,ag 12]:=kp5.put 2 _;have JK:∀b,b<W.heap.size→b≠p→(∀g,(Value.slice a pre.length cap).ownBlock=some g→b≠g)→(w5.setCell ⟨p,2,none⟩ (.slice a5 (pre.length+1) cap5)).heap[b]?=W.heap[b]?:=fun b hb hbp hn=>
   (dI _ _ _ _ hbp).trans (hblk b hb hn)
  have ayC:W.heap.size+1≤(w5.setCell ⟨p,2,none⟩ (.slice a5 (pre.length+1) cap5)).heap.size:=by simpa using ksz
  have Be:∀g,(Value.slice a pre.length cap).ownBlock=some g→∃cur el fz,W.heap[g]?=some (.cells cur el fz):=fun g e=>by
   rcases jO.out.2 with⟨h1,_⟩|⟨g',cp,cur,h1,_,h3,_⟩
   ·rw[h1]at e;cases e
   ·rw[h1]at e;injection e with e;subst e;exact⟨_,_,_,h3⟩
  have hq:Kq (p+3) p W (w5.setCell ⟨p,2,none⟩ (.slice a5 (pre.length+1) cap5)):=by
   refine⟨lJ.os,lJ.tape,lJ.output,ae,fun k hk hkp hv _=>JK k hk hkp (fun g e h=>hv _ (Y7.out.cell 2) (by rw[h];exact e)),fun o ho=>?_,fun v'' pV k e=>?_,fun g=>⟨⟨by have:=g.1.1;omega,ae⟩,fun v'' pV k e=>?_⟩⟩
   ·rw[kpE.cell,Y7.out.cell];obtain rfl|rfl:o=0∨o=1:=ae
    ·rfl
    ·rfl
   ·rw[kpE.cell 2]at pV;injection pV with pV;subst pV;rcases zK with h|⟨g',h,h2⟩
    ·exact .inl ⟨_,Y7.out.cell 2,by rw[←h];exact e⟩
    ·rw[h]at e;injection e with e;subst e;have:W.heap.size+1≤g':=by simpa using h2
     exact .inr ae
   ·rw[kpE.cell 2]at pV;injection pV with pV;subst pV;rcases hown5.2 with⟨h1,h2⟩|⟨g',cp,cur,h1,h2,h3,_⟩
    ·omega
    ·rw[h1]at e;injection e with e;subst e;have:=(Array.getElem?_eq_some_iff.1 h3).1;exact⟨h2,by simpa[World.setCell]using this⟩
  refine⟨⟨ae,fun k o hk ho hc=>?_⟩,hq,⟨⟨.slice a5 (pre.length+1) cap5,kpE,?_⟩,Hkq.out.trans hq⟩⟩
  ·have hkl:=(Array.getElem?_eq_some_iff.1 ho).1;rw[JK k hkl ae (fun g e h=>?_)]
   ·exact ho
   ·obtain⟨cur,el,fz,h1⟩:=Be g e;rw[←h,ho]at h1;injection h1 with h1;subst h1;cases hc
  ·have:=ownsRow_setCell_below hown5 (a:=⟨p,2,none⟩) aX (.slice a5 (pre.length+1) cap5);simpa using this
 case done=>
  rintro D xs W hD rfl ⟨⟨v,kp,own⟩,hkq⟩ hK;obtain⟨akK,akL,aqx,aqy⟩:=Uf s _ 0 xs (Nat.zero_le _) HT.out;have hps:dw W W.heap.size p xs 0:=by
   have ltp:=kp.lt;rcases own.2 with⟨h1,h2⟩|⟨g,cap,cur,h1,h2,h3,_⟩
   ·omega
   ·subst h1;refine⟨⟨s,.map (some r),g,cap,0,12,ltp,(Array.getElem?_eq_some_iff.1 h3).1,ae,kp,fun k hk q hq=>?_⟩,ae,⟨akK,akL,ae⟩⟩;have:=own.cells (g:=g) rfl (k*5+q);have e:=afY xs k q hk hq;have l5:(KY (tk xs k)).length=5:=rfl;have hs:(KY (tk xs k))[q]?=some (KY (tk xs k))[q]:=ik ae;have h4:=this _ (e.trans hs);rw[zt]at h4;rw[h4,hs]
  have k5:aV W (p+1) [aR p]:=Hk5.out.keep hkq.size (hkq.old Hgq.out ae ae);have aqz:=ah fun(V:World) (hV:Ch [] W V)=>N9 (hps.ch hV av) hV.size HX.out;have szW:=hkq.size;have ltp:=kp.lt;have lt5:=k5.lt;have c5:=k5.cell 0;simp only[List.getElem?_cons_zero]at c5;have z2:=(Hz2.out.keep hkq.size (hkq.old Hgq.out ae ae))
  have z3:=(Hz3.out.keep hkq.size (hkq.old Hgq.out ae ae))
  have z4:=(Hz4.out.keep hkq.size (hkq.old Hgq.out ae ae))
  have lz4:=z4.lt;have y2:=z2.cell;have y3:=z3.cell;have y4:=z4.cell;have fz2:=z2.free;have fz3:=z3.free;have fz4:=z4.free;have HK:=ah hK;have Hw:=ah (show w.heap.size=w.heap.size from rfl);obtain⟨n0,Il⟩:∃n0,n0=w.heap.size:=⟨_,rfl⟩
  have Hn0:=ah Il;rw[←Il]at y2 y3 y4 fz2 fz3 fz4 lz4 hwp⊢;clear Il z2 z3 z4;have Hkq:=ah hkq;clear hK hkq own hps kp k5 akK akL aqx aqy;refine az ?_;intro hal bu;go_wp2_with (first|((with_reducible refine(aqz.out _ aW).mono ?_);rintro e w6 ⟨x,y,z,hon,rfl,hKs,ow⟩;obtain⟨N6,hN6,TS,hf6,hs6⟩:=YW ow;(try simp only[bf]at hN6)));refine Y6 fun WE Ug=>?_;have hCE:Ch [n0,n0+1,n0+1+1] w6 WE:=by rw[Ug];clear Ug;exact aW
  have g0:WE.cell? ⟨n0,0,none⟩=some (ag x.1.kind):=gI;have g1:WE.cell? ⟨n0,1,none⟩=some (ag x.1.num):=gI;have g2:WE.cell? ⟨n0,2,none⟩=some (.string x.1.str):=gI;have g3:WE.cell? ⟨n0,3,none⟩=some (.slice x.2.1 x.2.2.1 x.2.2.2):=gI;have g4:WE.cell? ⟨n0,4,none⟩=some (ag y.1.kind):=gI;have g5:WE.cell? ⟨n0,5,none⟩=some (ag y.1.num):=gI;have g6:WE.cell? ⟨n0,6,none⟩=some (.string y.1.str):=gI;have g7:WE.cell? ⟨n0,7,none⟩=some (.slice y.2.1 y.2.2.1 y.2.2.2):=gI;have g8:WE.cell? ⟨n0,8,none⟩=some (ag z.1.kind):=gI;have g9:WE.cell? ⟨n0,9,none⟩=some (ag z.1.num):=gI;have g10:WE.cell? ⟨n0,10,none⟩=some (.string z.1.str):=gI;have g11:WE.cell? ⟨n0,11,none⟩=some (.slice z.2.1 z.2.2.1 z.2.2.2):=gI;have g12:WE.cell? ⟨n0+1,0,none⟩=some (ag 0):=by rw[Ug];simp[au,TS,y3,↓IntWalk.iteOmega]
  have g13:WE.cell? ⟨n0+1+1,0,none⟩=some (ag 0):=by rw[Ug];simp[au,TS,y4,↓IntWalk.iteOmega]
  clear Ug y2 y3 y4 TS hf6 c5 fz2 fz3 fz4 hal bu;have lZ:w.heap.size≤W.heap.size:=by have:=Hb0.out.size;omega
  have hne:D≠p:=ae;have hDW:D<W.heap.size:=(Array.getElem?_eq_some_iff.1 HK.out).1;have hKD:WE.heap[D]?=some (.deferred (some [])):=(hCE.block D (by have:=ow.size;omega) bQ).trans ((ow.block D hDW (by simpa using hne)).trans HK.out);refine⟨av,.inl ⟨D,_,rfl,run_takeDeferred hKD,?_⟩⟩;refine⟨av,.inr ⟨(by intro hh;cases hh),_,_,156,#[.pointer (some ⟨p+1,0,none⟩),aR n0,.pointer (some ⟨n0+1,0,none⟩),.pointer (some ⟨n0+1+1,0,none⟩)],rfl,by simp[go_sem],fun g hg=>trivial,?_⟩⟩;refine(N8 _ _ _ _ _ _).mono ?_;rintro e u' w'' ⟨rfl,rfl,rfl⟩;have hpo:=fun(b o:Nat) (h:b≠D)=>bg (a:=⟨b,o,none⟩) (World.putObj_heap_other (w:=WE) (o:=.deferred none) (r:=D) h);have d0:n0≠D:=ae;have d1:n0+1≠D:=ae;have d2:n0+1+1≠D:=ae;have hCF:Ch [n0,n0+1,n0+1+1,D] w6 (WE.putObj D (.deferred none)):=by have hg:=grownBy_putObj' WE D (.deferred none);exact⟨hg.os.trans hCE.os,hg.tape.trans hCE.tape,hg.output.trans hCE.output,aS hCE.size hg.size,fun k hk hn=>by simp only[List.mem_cons,List.not_mem_nil,or_false,not_or]at hn;exact(World.putObj_heap_other hn.2.2.2).trans (hCE.block k hk bQ)⟩
  refine⟨.tuple #[.agg #[ag x.1.kind,ag x.1.num,.string x.1.str,.slice x.2.1 x.2.2.1 x.2.2.2,ag y.1.kind,ag y.1.num,.string y.1.str,.slice y.2.1 y.2.2.1 y.2.2.2,ag z.1.kind,ag z.1.num,.string z.1.str,.slice z.2.1 z.2.2.1 z.2.2.2],ag 0,ag 0],by simp[results,results123,go_sem,hpo,d0,d1,d2,g0,g1,g2,g3,g4,g5,g6,g7,g8,g9,g10,g11,g12,g13],x,y,z,hon,rfl,?_⟩;generalize WE.putObj D (.deferred none)=WF at*;refine⟨⟨hKs.1.to hCF lZ ?_ av,hKs.2.1.to hCF lZ ?_ av,hKs.2.2.to hCF lZ ?_ av⟩,?_⟩
  ·intro z hz;simp only[List.mem_cons,List.not_mem_nil,or_false]at hz;omega
  ·intro z hz;simp only[List.mem_cons,List.not_mem_nil,or_false]at hz;omega
  ·intro z hz;simp only[List.mem_cons,List.not_mem_nil,or_false]at hz;omega
  have hq:=Hkq.out;refine⟨(hCF.os.trans ow.os).trans (hq.os.trans Hb0.out.os),(hCF.tape.trans ow.tape).trans (hq.tape.trans Hb0.out.tape),(hCF.output.trans ow.output).trans (hq.output.trans Hb0.out.output),by have:=hCF.size;have:=ow.size;omega,fun k hk=>?_⟩;have hkn:k<n0:=by rw[Hn0.out];exact hk
  rw[hCF.block k (by have:=ow.size;omega) bQ,ow.block k ae bQ,hq.old Hgq.out ae ae];exact Hb0.out.block k hk
 case stop=>rintro D c pre W hD _ h _;exact h.elim
variable {n0 p m:Nat} {A B V:World}
def Gv (n0 p m:Nat) (A:World):Prop:=(n0≤A.heap.size∧p<n0∧m<n0)∧∀v,A.cell? ⟨p,0,none⟩=some v→∀k,v.ownBlock=some k→n0≤k∧k<A.heap.size
structure Kv (n0 p m:Nat) (A B:World):Prop where
 os:B.os=A.os
 tape:B.tape=A.tape
 output:B.output=A.output
 size:A.heap.size≤B.heap.size
 block:∀k,k<A.heap.size→k≠p→k≠m→(∀v,A.cell? ⟨p,0,none⟩=some v→v.ownBlock≠some k)→(k<n0∨∃o,A.heap[k]?=some o∧o.isCells=true)→B.heap[k]?=A.heap[k]?
 own:∀v',B.cell? ⟨p,0,none⟩=some v'→∀k,v'.ownBlock=some k→(∃v,A.cell? ⟨p,0,none⟩=some v∧v.ownBlock=some k)∨A.heap.size≤k
 lt:Gv n0 p m A→Gv n0 p m B
theorem Kv.trans {C:World} (h:Kv n0 p m A B) (k:Kv n0 p m B C):Kv n0 p m A C:=by
 refine⟨k.os.trans h.os,k.tape.trans h.tape,k.output.trans h.output,aS h.size k.size,fun x hx hp hm hv hc=>?_,fun v' hv' x e=>?_,fun g=>k.lt (h.lt g)⟩
 ·have h1:=h.block x hx hp hm hv hc;refine(k.block x (bH hx h.size) hp hm (fun v' hv' e=>?_) ?_).trans h1
  ·rcases h.own v' hv' x e with⟨v,h2,h3⟩|h2
   ·exact hv v h2 h3
   ·omega
  ·rw[h1];exact hc
 ·rcases k.own v' hv' x e with⟨v,h2,h3⟩|h2
  ·exact h.own v h2 x h3
  ·exact .inr (aS h.size h2)
theorem Kv.refl (n0 p m:Nat) (A:World):Kv n0 p m A A:=⟨rfl,rfl,rfl,aH _,fun _ _ _ _ _ _=>rfl,fun v hv k e=>.inl ⟨v,hv,e⟩,fun g=>g⟩
theorem Kv.below (h:aJ A B) (hp:p<A.heap.size):Kv n0 p m A B:=
 have c:∀o,B.cell? ⟨p,o,none⟩=A.cell? ⟨p,o,none⟩:=fun o=>bg (a:=⟨p,o,none⟩) (h.block p hp)
 ⟨h.os,h.tape,h.output,h.size,fun k hk _ _ _ _=>h.block k hk,fun v hv k e=>.inl ⟨v,by rw[←c];exact hv,e⟩,fun g=>⟨⟨aS g.1.1 h.size,g.1.2⟩,fun v hv k e=>let q:=g.2 v (by rw[←c];exact hv) k e;⟨q.1,bH q.2 h.size⟩⟩⟩
theorem Kv.grown (hp:p<n0) {row:Option Nat} (hg:A.grownBy B row) (hr:∀q,row=some q→n0≤q∧∃o:Obj,A.heap[q]?=some o∧o.isCells=false) (hA:p<A.heap.size):Kv n0 p m A B:=by refine xM ?_;intro hb;have hc:∀q,B.cell? ⟨p,q,none⟩=A.cell? ⟨p,q,none⟩:=fun q=>bg (a:=⟨p,q,none⟩) (hb p hA (fun q e h=>by have:=(hr q e).1;omega));refine⟨hg.os,hg.tape,hg.output,hg.size,fun k hk _ _ _ hcd=>hb k hk (fun q e h=>?_),fun v hv k e=>.inl ⟨v,by rw[←hc];exact hv,e⟩,fun g=>⟨⟨aS g.1.1 hg.size,g.1.2⟩,fun v hv k e=>let q:=g.2 v (by rw[←hc];exact hv) k e;⟨q.1,bH q.2 hg.size⟩⟩⟩;exact xN
theorem Kv.book (hp:p<n0) (W:World) (hW:p<W.heap.size) (l:Nat) (o o':Obj) (hl:n0≤l) (h:W.heap[l]?=some o) (ho:o.isCells=false):Kv n0 p m W (W.putObj l o'):=
 Kv.grown hp (grownBy_putObj' W l o') (fun q e=>by cases e;exact⟨hl,o,h,ho⟩) hW
theorem Gv.below (g:Gv n0 p m A) (h:aJ A V):Gv n0 p m V:=
 ⟨⟨aS g.1.1 h.size,g.1.2⟩,fun v hv k e=>let q:=g.2 v (by rw[←World.cell?_of_block (a:=⟨p,0,none⟩) (h.block p (Nat.lt_of_lt_of_le g.1.2.1 g.1.1))];exact hv) k e;⟨q.1,bH q.2 h.size⟩⟩
theorem Kv.new {V':World} {b o:Nat} {v:Value} (g:Gv n0 p m A) (h:aJ A V) (hb:A.heap.size≤b) (e:V.cell? ⟨b,o,none⟩=some v) (k:Kv n0 p m V V'):V'.cell? ⟨b,o,none⟩=some v:=by
 have lb:=aU _ _ e;have hcell:∃ob,V.heap[b]?=some ob∧ob.isCells=true:=by
  unfold World.cell? at e;simp only at e;split at e
  ·rename_i c el fz hh;exact⟨_,hh,rfl⟩
  ·cases e
 refine(bg (a:=⟨b,o,none⟩) (k.block b lb (by have:=g.1;omega) (by have:=g.1;omega) (fun v' hv' e'=>?_) (.inr hcell))).trans e;have:=g.2 v' (by rw[←World.cell?_of_block (a:=⟨p,0,none⟩) (h.block p (Nat.lt_of_lt_of_le g.1.2.1 g.1.1))];exact hv') b e';omega
theorem Kv.old {k:Nat} (h:Kv n0 p m A B) (g:Gv n0 p m A) (hk:k<n0) (hkp:k≠p) (hkm:k≠m):B.heap[k]?=A.heap[k]?:=
 h.block k (bH hk g.1.1) hkp hkm (fun v hv e=>by have:=g.2 v hv k e;omega) (.inl hk)
def uj:List ByteArray→Nat→List MapEntry
 |[],_=>[]
 |s::l,i=>⟨.string s,ag i,i⟩::uj l (i+1)
theorem Ap (s:ByteArray):∀(l:List ByteArray) (i:Nat),uj (l++[s]) i=uj l i++[⟨.string s,ag (i+l.length:Nat),i+l.length⟩]
 |[],i=>by simp[uj]
 |x::l,i=>by
  simp only[List.cons_append,uj,Ap s l (i+1),List.length_cons]
  rw[show i+1+l.length=i+(l.length+1)from ae]
def uZ (ns:List ByteArray):Array MapEntry:=⟨uj ns 0⟩
theorem JL (ns:List ByteArray) (s:ByteArray):(uZ ns).push ⟨.string s,ag ns.length,ns.length⟩=uZ (ns++[s]):=by apply Array.toList_inj.1;simp[uZ,Ap]
theorem zx (t:ByteArray):∀(l:List ByteArray) (b i:Nat),(l.any (fun y=>eH y t)=true→∃j v,Instr.findNow .string (.string t) (uj l b) i=some (some (j,ag v)))∧(l.any (fun y=>eH y t)=false→Instr.findNow .string (.string t) (uj l b) i=some none)
 |[],b,i=>⟨av,fun _=>rfl⟩
 |k::l,b,i=>by
  have ih:=zx t l (b+1) (i+1)
  have hb:(t==k)=eH k t:=by rw[Ai,qz]
  simp only[uj,Instr.findNow,Instr.sameNow,hb,List.any_cons]
  cases eH k t with
  |true=>exact⟨fun _=>⟨i,_,rfl⟩,av⟩
  |false=>simpa using ih
theorem GQ {P:Program} {t kt et:TypeId} {d:TypeDesc} (hu:P.underlying t=some (.map kt et)) (hk:P.underlying kt=some d) (hd:plain d=true) {w:World} {r:Nat} {es:Array MapEntry} {zl:Nat} (hh:w.heap[r]?=some (.map es zl)) (k v:Value)
  (hf:Instr.findNow d k es.toList 0=some none):
  Sem.run P (Instr.mapUpdate t (.map (some r)) k v) w=.ok () (w.putObj r (.map (es.push ⟨k,v,zl⟩) (zl+1))):=by
 have hs:∀o,Sem.run P (setObj r o) w=.ok () (w.putObj r o):=fun o=>by unfold setObj;simp only[Sem.run,hh];rfl
 simp[Instr.mapUpdate,go_sem,run_underlying hu,hh,yF hk hd,Instr.findKey,run_underlying hk,hf,uS hh,hs,pure,Sem.run]
theorem VJ (k n:Int) (s:ByteArray) (a:Option Addr) (m c:Nat) (w:World):Calls prog 161 #[.agg #[ag k,ag n,.string s,.slice a m c]] w fun e w'=>e=.returned (.func (.func 196) #[] #[aR w.heap.size])∧w'=w.alloc (.cells #[ag k,ag n,.string s,.slice a m c] 183):=by go_enter func161,ntmps161;go_wp2;go_ret;exact⟨av,rfl⟩
theorem VK {n l B N Bt f:Nat} {X:Nat→Prop} {Kp:World→World→Prop} {Gd:World→Prop} {J Jx:List It→World→Prop} (V:Vis n l X Kp Gd B N J Jx) {x:Nd} {L:List Nd} (hL:allM f x=some L) (hN:L.length≤N)
  (W:World) (a:Option Addr) (m c:Nat) (hB:aV W Bt [ag x.kind,ag x.num,.string x.str,.slice a m c]) (hk:ig W X x.kids a m c) (hG:Gd W) (h0:J [] W):
  Calls prog 196 #[.func (.yield l) #[] #[],aR Bt] W fun e W'=>(∃v,e=.returned v)∧
   ((∃ys:List It,ys.map (·.1)=L∧J ys W')∨(∃pre,True∧Jx pre W')):=by
 have uO:=ah (JM V f x L hL [] W a m c hk hG h0 (by simpa using hN));have cB:=hB.cell;have lB:=hB.lt;clear hL hk hB;go_enter func196,ntmps196;go_wp2_with (first|((with_reducible refine uO.out.mono ?_);rintro e w1 (⟨rfl,Ls,hL,hJ,hK,hg⟩|⟨rfl,hx⟩)))
 ·refine bodyPost_end (results_none rfl _ _ _) rfl ?_;exact⟨⟨_,rfl⟩,.inl ⟨Ls,hL,hJ⟩⟩
 ·refine bodyPost_end (results_none rfl _ _ _) rfl ?_;obtain⟨pre,hp⟩:=hx;exact⟨⟨_,rfl⟩,.inr ⟨pre,trivial,hp⟩⟩
variable {n0 n p m:Nat} {W V A B:World} {ns:List ByteArray}
theorem ig.low {w:World} {X:Nat→Prop} {l:List Nd} {a:Option Addr} {cap:Nat} (h:ig w X l a n cap):ig w (fun b=>b<w.heap.size) l a n cap:=
 h.ch (L:=[]) (Ch.refl [] w) fun b hb hw=>⟨av,hw⟩
theorem alloc_at {o:Obj} {k:Nat} (hk:k=V.heap.size):(V.alloc o).heap[k]?=some o:=by subst hk;exact World.alloc_heap_new _ _
theorem Uc (ns:List ByteArray) (x:Nd):addN ns x=if x.kind=1∨x.kind=10 then(if ns.any (fun y=>eH y x.str)then ns else ns++[x.str])else ns:=by
 cases x
 rfl
theorem GN:∀(l:List Nd) (ns:List ByteArray),(l.foldl addN ns).length≤ns.length+l.length
 |[],ns=>by simp
 |x::l,ns=>by
  have h:=GN l (addN ns x)
  have h2:(addN ns x).length≤ns.length+1:=by
   rw[Uc]
   split
   ·split<;>simp
   ·omega
  simp only[List.foldl_cons,List.length_cons]
  omega
def Mk (n0:Nat) (W:World):List Deferred→Nat→Prop
 |[],_=>True
 |d::ds,hi=>∃D,d={target:=.collected D,args:=#[]}∧n0≤D∧D<hi∧W.heap[D]?=some (.deferred (some []))∧Mk n0 W ds D
theorem Mk.mono {hi hi':Nat} {ds:List Deferred} (h:Mk n0 W ds hi) (hh:hi≤hi'):Mk n0 W ds hi':=by
 cases ds with
 |nil=>trivial
 |cons d ds=>obtain⟨D,h1,h2,h3,h4⟩:=h;exact⟨D,h1,h2,ae,h4⟩
theorem Mk.keep {W':World}:∀{ds:List Deferred} {hi:Nat},Mk n0 W ds hi→(∀k,n0≤k→k<hi→W.heap[k]?=some (.deferred (some []))→W'.heap[k]?=some (.deferred (some [])))→Mk n0 W' ds hi
 |[],_,_,_=>trivial
 |d::ds,hi,⟨D,h1,h2,h3,h4,h5⟩,hk=>⟨D,h1,h2,h3,hk D h2 h3 h4,h5.keep fun k a b c=>hk k a ae c⟩
structure Om (n0:Nat) (W W':World):Prop where
 os:W'.os=W.os
 tape:W'.tape=W.tape
 output:W'.output=W.output
 size:W'.heap.size=W.heap.size
 block:∀k,(k<n0∨∃ob,W.heap[k]?=some ob∧ob.isCells=true)→W'.heap[k]?=W.heap[k]?
theorem Ao {Fc:Fence} {P:Program} {fn:Func} {tmps:Array Value} {R:Ending→World→Prop} {W0:World} (hR:∀W',Om n0 W0 W'→LeavesIn Fc n P fn tmps R [] .returning W'):
  ∀(ds:List Deferred) (hi:Nat) (W:World),Om n0 W0 W→Mk n0 W ds hi→LeavesInM Fc n P fn tmps R ds .returning W
 |[],_,W,ho,_=>hR W ho
 |d::ds,hi,W,ho,⟨D,h1,h2,h3,h4,h5⟩=>by
  refine⟨av,.inl ⟨D,_,by rw[h1],run_takeDeferred h4,?_⟩⟩
  have hg:=grownBy_putObj' W D (.deferred none)
  refine Ao hR ds D _ ⟨hg.os.trans ho.os,hg.tape.trans ho.tape,hg.output.trans ho.output,?_,fun k hk=>?_⟩ (h5.keep fun k a b c=>(World.putObj_heap_other ae).trans c)
  ·rw[←ho.size];simp[World.putObj]
  ·refine(World.putObj_heap_other (fun e=>?_)).trans (ho.block k hk)
   subst e
   rcases hk with hk|⟨ob,hk,hc⟩
   ·omega
   ·rw[←ho.block k (.inr ⟨ob,hk,hc⟩),h4]at hk
    injection hk with hk
    subst hk
    cases hc
structure Nm (n0 p m:Nat) (ns:List ByteArray) (W:World):Prop where
 ex:∃v,aV W p [v]∧W.ownsRow n0 9 1 v ns.length (ns.map Value.string)
 mp:W.heap[m]?=some (.map (uZ ns) ns.length)
theorem Nm.grown {row:Option Nat} (hp:p<n0) (hm:m<n0) (h:Nm n0 p m ns A) (hg:A.grownBy B row) (hr:∀q,row=some q→n0≤q∧∃o:Obj,A.heap[q]?=some o∧o.isCells=false):Nm n0 p m ns B:=by obtain⟨v,h1,h2⟩:=h.ex;exact⟨⟨v,h1.keep hg.size (hg.block p h1.lt (fun e=>by have:=(hr p e.symm).1;omega)),tq h2 hg (fun q e=>(hr q e).2)⟩,(hg.block m (Array.getElem?_eq_some_iff.1 h.mp).1 (fun e=>by have:=(hr m e.symm).1;omega)).trans h.mp⟩
theorem Nm.below (hp:p<n0) (hm:m<n0) (h:Nm n0 p m ns A) (hb:aJ A B):Nm n0 p m ns B:=h.grown hp hm (u_ hb) av
theorem Bc {b size:Nat} {e:TypeId} {xs:List Value} (h:W.ownsRow b e size v (n+1) xs):∃a cap,v=.slice a (n+1) cap:=by
 rcases h.2 with⟨h1,h2⟩|⟨g,cap,cur,h1,_⟩
 ·omega
 ·exact⟨_,_,h1⟩
theorem RB {B:Nat} {s:ByteArray} {V2 w5:World} {v5:Value} {t:TypeId} (hg:Gv n0 p m V) (hpm:p≠m) (kp:aV V p [v]) (own:V.ownsRow n0 9 1 v ns.length (ns.map Value.string)) {es:Array MapEntry} {cl:Nat} (hmp:V.heap[m]?=some (.map es cl))
  (Xi:V2=V.putObj m (.map (uZ (ns++[s])) (ns.length+1))) (iE:w5.ownsRow 0 9 1 v5 (ns.length+1) (ns.map Value.string++[.string s])) (lJ:(V2.alloc (.cells #[.string s] t)).grownBy w5 v.ownBlock)
  (zK:v5.ownBlock=v.ownBlock∨∃g,v5.ownBlock=some g∧(V2.alloc (.cells #[.string s] t)).heap.size≤g) (hB:n0≤B):
  KeepsFrom B V (w5.setCell ⟨p,0,none⟩ v5)∧Kv n0 p m V (w5.setCell ⟨p,0,none⟩ v5)∧Nm n0 p m (ns++[s]) (w5.setCell ⟨p,0,none⟩ v5)∧∀k,n0≤k→V.heap[k]?=some (.deferred (some []))→(w5.setCell ⟨p,0,none⟩ v5).heap[k]?=some (.deferred (some [])):=by
 have tH:=grownBy_putObj' V m (.map (uZ (ns++[s])) (ns.length+1));rw[←Xi]at tH;have sz2:V2.heap.size=V.heap.size:=by rw[Xi];simp[World.putObj]
 have szA:(V2.alloc (.cells #[.string s] t)).heap.size=V.heap.size+1:=by simp[sz2]
 have ltp:=kp.lt;have ltm:m<V.heap.size:=(Array.getElem?_eq_some_iff.1 hmp).1;have hno:∀g,v.ownBlock=some g→n0≤g∧g<V.heap.size:=fun g e=>hg.2 v (kp.cell 0) g e;have hblk:∀b,b<V.heap.size→b≠m→(∀g,v.ownBlock=some g→b≠g)→w5.heap[b]?=V.heap[b]?:=fun b hb hbm hn=>
  (lJ.block b (by rw[szA];omega) (fun e=>hn b e.symm rfl)).trans ((gV V2 _ b ae).trans (by rw[Xi];exact World.putObj_heap_other hbm))
 have hm5:w5.heap[m]?=some (.map (uZ (ns++[s])) (ns.length+1)):=
  (lJ.block m (by rw[szA];omega) (fun e=>by have:=hno m e.symm;have:=hg.1;omega)).trans ((gV V2 _ m ae).trans (by rw[Xi];exact World.putObj_heap_same ltm))
 have sz5:V.heap.size+1≤w5.heap.size:=by have:=lJ.size;omega
 have akz:w5.ownsRow n0 9 1 v5 (ns.length+1) (ns.map Value.string++[.string s]):=ve iE (fun g e=>by
  rcases zK with h|⟨g',h,h2⟩
  ·exact(hno g (by rw[←h];exact e)).1
  ·rw[h]at e;injection e with e;subst e;have:=hg.1;omega)
 have kp5:aV w5 p [v]:=kp.keep ae (hblk p ltp hpm (fun g e=>by have:=hno g e;have:=hg.1;omega));have kpE:aV (w5.setCell ⟨p,0,none⟩ v5) p [v5]:=kp5.put 0 _;have szE:(w5.setCell ⟨p,0,none⟩ v5).heap.size=w5.heap.size:=av;have JK:∀b,b<V.heap.size→b≠p→b≠m→(∀g,v.ownBlock=some g→b≠g)→(w5.setCell ⟨p,0,none⟩ v5).heap[b]?=V.heap[b]?:=fun b hb hbp hbm hn=>
  (dI _ _ _ _ hbp).trans (hblk b hb hbm hn)
 have Be:∀g,v.ownBlock=some g→∃cur el fz,V.heap[g]?=some (.cells cur el fz):=fun g e=>by
  rcases own.2 with⟨h1,_⟩|⟨g',cp,cur,h1,_,h3,_⟩
  ·rw[h1]at e;cases e
  ·rw[h1]at e;injection e with e;subst e;exact⟨_,_,_,h3⟩
 have hnc:∀k o,V.heap[k]?=some o→o.isCells=false→∀g,v.ownBlock=some g→k≠g:=fun k o ho hc g e h=>by obtain⟨cur,el,fz,h1⟩:=Be g e;rw[←h,ho]at h1;injection h1 with h1;subst h1;cases hc
 have ltk:∀k o,V.heap[k]?=some o→k<V.heap.size:=fun k o ho=>(Array.getElem?_eq_some_iff.1 ho).1;refine⟨⟨ae,fun k o hk ho hc=>?_⟩,?_,⟨⟨v5,kpE,?_⟩,?_⟩,fun k hk ho=>?_⟩
 ·rw[JK k (ltk k o ho) (by have:=hg.1;omega) (by have:=hg.1;omega) (hnc k o ho hc)];exact ho
 ·refine⟨lJ.os.trans tH.os,lJ.tape.trans tH.tape,lJ.output.trans tH.output,ae,fun k hk hkp hkm hv _=>JK k hk hkp hkm (fun g e h=>hv _ (kp.cell 0) (by rw[h];exact e)),fun v'' pV k e=>?_,fun g=>⟨⟨by have:=g.1;omega,g.1.2⟩,fun v'' pV k e=>?_⟩⟩
  ·rw[kpE.cell 0]at pV;injection pV with pV;subst pV;rcases zK with h|⟨g',h,h2⟩
   ·exact .inl ⟨_,kp.cell 0,by rw[←h];exact e⟩
   ·rw[h]at e;injection e with e;subst e;exact .inr ae
  ·rw[kpE.cell 0]at pV;injection pV with pV;subst pV;rcases akz.2 with⟨h1,h2⟩|⟨g',cp,cur,h1,h2,h3,_⟩
   ·omega
   ·rw[h1]at e;injection e with e;subst e;have h5:g'<w5.heap.size:=(Array.getElem?_eq_some_iff.1 h3).1;exact⟨h2,by show g'<_;omega⟩
 ·have:=ownsRow_setCell_below akz (a:=⟨p,0,none⟩) (by simp only;have:=hg.1;omega) v5;simpa using this
 ·refine(dI _ _ _ _ (fun e=>hpm e.symm)).trans ?_;rw[hm5];simp
 ·rw[JK k (ltk k _ ho) (by have:=hg.1;omega) (by have:=hg.1;omega) (hnc k _ ho rfl)];exact ho
theorem Tryz.ab8:(prog.info? 9).map (fun i=>(i.zero,i.size,i.bytes))=some (some (.string ⟨#[]⟩),1,16):=aL
def jC (x y z:It) (i:Nat):It:=if i=0 then x else if i=1 then y else z
theorem yS (x y z:It) (f:Nat) (NZ:List ByteArray) (hv:GD f [x.1,y.1,z.1]=some NZ) (w:World) (X:Nat→Prop) (hkx:ig w X x.1.kids x.2.1 x.2.2.1 x.2.2.2) (Ma:ig w X y.1.kids y.2.1 y.2.2.1 y.2.2.2) (hkz:ig w X z.1.kids z.2.1 z.2.2.1 z.2.2.2):
  Calls prog 125 #[.agg #[ag x.1.kind,ag x.1.num,.string x.1.str,.slice x.2.1 x.2.2.1 x.2.2.2,ag y.1.kind,ag y.1.num,.string y.1.str,.slice y.2.1 y.2.2.1 y.2.2.2,ag z.1.kind,ag z.1.num,.string z.1.str,.slice z.2.1 z.2.2.1 z.2.2.2]] w fun e w'=>∃a cap,e=.returned (.slice a NZ.length cap)∧w'.ownsRow w.heap.size 9 1 (.slice a NZ.length cap) NZ.length (NZ.map Value.string)∧aJ w w':=by
 have hsteps:∀i,i<3→∀ns,(([x.1,y.1,z.1].take i).foldl (fun o x=>o.bind fun ns=>(allM f x).bind fun l=>if l.length≤1000 then some (l.foldl addN ns)else none) (some []))=some ns→∃L,allM f (jC x y z i).1=some L∧L.length≤1000∧(([x.1,y.1,z.1].take (i+1)).foldl (fun o x=>o.bind fun ns=>(allM f x).bind fun l=>if l.length≤1000 then some (l.foldl addN ns)else none) (some []))=some (L.foldl addN ns):=by
  intro i hi ns hns;unfold GD at hv;have key:∀(o:Option (List ByteArray)) (q:Nd) (R:List ByteArray),(o.bind fun ns=>(allM f q).bind fun l=>if l.length≤1000 then some (l.foldl addN ns)else none)=some R→∃ns L,o=some ns∧allM f q=some L∧L.length≤1000∧(o.bind fun ns=>(allM f q).bind fun l=>if l.length≤1000 then some (l.foldl addN ns)else none)=some (L.foldl addN ns):=by intro o q R h;obtain⟨ns,h1,h2⟩:=bind_some h;obtain⟨L,h3,h4⟩:=bind_some h2;obtain⟨h5,h6⟩:=fe h4;exact⟨ns,L,h1,h3,h5,by rw[h1];simp only[Option.bind_some];rw[h3];simp only[Option.bind_some];rw[if_pos h5]⟩
  simp only[List.foldl_cons,List.foldl_nil]at hv;obtain⟨n2,L2,e2,a2,b2,s2⟩:=key _ _ _ hv;obtain⟨n1,L1,e1,a1,b1,s1⟩:=key _ _ _ e2;obtain⟨m0,L0,e0,a0,b0,s0⟩:=key _ _ _ e1;obtain rfl|rfl|rfl:i=0∨i=1∨i=2:=ae
  ·simp only[List.take_zero,List.foldl_nil]at hns;injection hns with hns;subst hns;injection e0 with e0;subst e0;exact⟨L0,a0,b0,by simpa only[List.take_succ_cons,List.take_zero,List.foldl_cons,List.foldl_nil]using s0⟩
  ·simp only[List.take_succ_cons,List.take_zero,List.foldl_cons,List.foldl_nil]at hns;rw[e1]at hns;injection hns with hns;subst hns;exact⟨L1,a1,b1,by simpa only[List.take_succ_cons,List.take_zero,List.foldl_cons,List.foldl_nil]using s1⟩
  ·simp only[List.take_succ_cons,List.take_zero,List.foldl_cons,List.foldl_nil]at hns;rw[e2]at hns;injection hns with hns;subst hns;exact⟨L2,a2,b2,by simpa only[List.take_succ_cons,List.take_zero,List.foldl_cons,List.foldl_nil]using s2⟩
 have hks:∀i,i<3→ig w (fun b=>b<w.heap.size) (jC x y z i).1.kids (jC x y z i).2.1 (jC x y z i).2.2.1 (jC x y z i).2.2.2:=fun i hi=>by
  obtain rfl|rfl|rfl:i=0∨i=1∨i=2:=ae
  ·exact hkx.low
  ·exact Ma.low
  ·exact hkz.low
 have m0:=fun V=>uQ (P:=prog) 220 V;have hix:∀(i:Nat),i<3→∀V,Sem.run prog (Instr.index 184 (.agg #[ag x.1.kind,ag x.1.num,.string x.1.str,.slice x.2.1 x.2.2.1 x.2.2.2,ag y.1.kind,ag y.1.num,.string y.1.str,.slice y.2.1 y.2.2.1 y.2.2.2,ag z.1.kind,ag z.1.num,.string z.1.str,.slice z.2.1 z.2.2.1 z.2.2.2]) (ag i)) V=.ok (.agg #[ag (jC x y z i).1.kind,ag (jC x y z i).1.num,.string (jC x y z i).1.str,.slice (jC x y z i).2.1 (jC x y z i).2.2.1 (jC x y z i).2.2.2]) V:=by exact rE
 have akA:=ah fun k n s a m c V=>VJ k n s a m c V;have ab9:=ah hsteps;have aqh:=ah hks;have vR:=ah hix;clear hsteps hks hix;clear hkx Ma hkz;have Hv:=ah hv;clear hv;refine az ?_;intro hal bu;refine(callsIn_wide (n:=5)).1 ?_;refine callsIn_of_wp_marks func125 rfl trivial ?_ rfl;simp only[ntmps125,List.size_toArray,List.length_cons,List.length_nil,Nat.reduceAdd,Nat.reduceSub,Array.replicate_succ,Array.replicate_zero,List.push_toArray,List.append_toArray,List.nil_append,List.cons_append];refine wpIn_wide.2 ?_;go_wp2;refine aP fun W0 lZ=>?_;obtain⟨C,hC⟩:∃C,C=w.heap.size:=⟨_,rfl⟩
 have hsz:W0.heap.size=C+4:=by rw[lZ,hC];simp
 have kp:aV W0 (C+1) [.slice none 0 0]:=by rw[lZ,hC];exact((aV.new _ _ _ _ av).alloc _).alloc _
 have k4:aV W0 (C+1+1+1) [.map (some (C+1+1))]:=by rw[lZ,hC];exact aV.new _ _ _ _ av
 have hmp:W0.heap[C+1+1]?=some (.map (uZ []) 0):=by rw[lZ,hC];exact(gV _ _ _ av).trans (alloc_at av)
 have nP:aJ w W0:=by rw[lZ];exact aG
 have hgv:Gv (C+4) (C+1) (C+1+1) W0:=⟨⟨ae,ae,ae⟩,fun v hv k e=>by rw[kp.cell 0]at hv;injection hv with hv;subst hv;cases e⟩
 have hnm:Nm (C+4) (C+1) (C+1+1) [] W0:=⟨⟨_,kp,jw _ _ _ _⟩,hmp⟩
 rw[←hC];have HC:=ah hC;have Hb0:=ah nP;have Hgv:=ah hgv;have Hnm:=ah hnm;have Q_:=ah k4;clear lZ kp k4 hmp nP hgv hnm hC m0 hal bu;refine(wpIn_wide (n:=5)).1 ?_;refine wpIn_loop (I:=fun a W=>∃(i:Nat) (ns:List ByteArray) (u6 u14 u15 u16 u17 u46:Value),(i≤3∧ns.length≤1000*i)∧a.tmps=#[.agg #[ag x.1.kind,ag x.1.num,.string x.1.str,.slice x.2.1 x.2.2.1 x.2.2.2,ag y.1.kind,ag y.1.num,.string y.1.str,.slice y.2.1 y.2.2.1 y.2.2.2,ag z.1.kind,ag z.1.num,.string z.1.str,.slice z.2.1 z.2.2.1 z.2.2.2],aR C,.slice none 0 0,.pointer (some ⟨C+1,0,none⟩),.pointer (some ⟨C+1+1+1,0,none⟩),undef,u6,undef,undef,undef,.map (some (C+1+1)),aR C,.agg #[ag x.1.kind,ag x.1.num,.string x.1.str,.slice x.2.1 x.2.2.1 x.2.2.2,ag y.1.kind,ag y.1.num,.string y.1.str,.slice y.2.1 y.2.2.1 y.2.2.2,ag z.1.kind,ag z.1.num,.string z.1.str,.slice z.2.1 z.2.2.1 z.2.2.2],ag i,u14,u15,u16,u17,undef,undef,undef,undef,undef,undef,undef,undef,undef,undef,undef,undef,undef,undef,undef,undef,undef,undef,undef,undef,undef,undef,undef,undef,undef,undef,undef,undef,u46,undef]∧Hid (Nm (C+4) (C+1) (C+1+1) ns W∧Kv (C+4) (C+1) (C+1+1) W0 W∧Mk (C+4) W a.defers W.heap.size)∧Hid (([x.1,y.1,z.1].take i).foldl (fun o x=>o.bind fun ns=>(allM f x).bind fun l=>if l.length≤1000 then some (l.foldl addN ns)else none) (some [])=some ns)) (μ:=fun a _=>3-(intOf (a.tmps.getD 13 undef)).toNat) ⟨0,[],undef,undef,undef,undef,undef,undef,⟨ae,av⟩,rfl,ah ⟨Hnm.out,Kv.refl _ _ _ _,trivial⟩,ah rfl⟩ ?_;rintro⟨tmps,ds⟩ W ⟨i,ns,u6,u14,u15,u16,u17,u46,⟨hi,hnl⟩,ht,cZ,hns⟩;simp only at ht;subst ht;by_cases hi3:i<3
 ·have hii:(i:Int)<3:=ae;have hxi:=vR.out i hi3;obtain⟨L,hL,hL1,IE⟩:=ab9.out i hi3 ns hns.out;have hki:=aqh.out i hi3;generalize jC x y z i=q at*;obtain⟨hnm,Ud,hmk⟩:=cZ.out;have Hki:=ah hki;have HL:=ah hL;have HL2:=ah IE;have Hkv:=ah Ud;have Hmk:=ah hmk;have aqj:=ah hnm;clear hki hL IE Ud hmk hnm cZ hns;refine az ?_;intro hal bu;gi_wp2_with (((refine⟨trivial,?_⟩;with_reducible refine(callsIn_wide.2 (akA.out _ _ _ _ _ _ _)).mono ?_);rintro e w1 ⟨rfl,rfl⟩));obtain⟨W1,vI⟩:∃W1,W1=(W.alloc (.cells #[ag q.1.kind,ag q.1.num,.string q.1.str,.slice q.2.1 q.2.2.1 q.2.2.2] 183)).alloc (.cells #[ag q.1.kind,ag q.1.num,.string q.1.str,.slice q.2.1 q.2.2.1 q.2.2.2] 183):=⟨_,rfl⟩
  rw[←vI];have aO:aJ W W1:=by rw[vI];exact aG
  have kB:aV W1 (W.heap.size+1) [ag q.1.kind,ag q.1.num,.string q.1.str,.slice q.2.1 q.2.2.1 q.2.2.2]:=by rw[vI];exact aV.new _ _ _ _ av
  have sz1:W1.heap.size=W.heap.size+2:=by rw[vI];simp
  have szW:C+4≤W.heap.size:=by have:=Hkv.out.size;omega
  have nm1:=aqj.out.below ae ae aO;have hgW:=Hkv.out.lt Hgv.out;have kv1:=Hkv.out.trans (Kv.below aO ae);have mk1:Mk (C+4) W1 ds W.heap.size:=Hmk.out.keep fun k a b c=>(aO.block k b).trans c;have ek:ig W1 (fun b=>b<w.heap.size) q.1.kids q.2.1 q.2.2.1 q.2.2.2:=Hki.out.keep (by have:=HC.out;omega) (fun b hb _=>by
   have hbC:b<C:=by rw[HC.out];exact hb
   exact((aO.block b ae).trans (Hkv.out.old Hgv.out ae ae ae)).trans (Hb0.out.block b hb))
  have Hb1:=ah aO;have HkB:=ah kB;have Nn:=ah ek;have aql:=ah nm1;have aqm:=ah kv1;have aqn:=ah mk1;have HgW:=ah (hgW.below aO);clear vI aO kB nm1 hgW kv1 mk1 ek hxi;obtain⟨Cx,hCx⟩:∃Cx,Cx=W.heap.size:=⟨_,rfl⟩
  have HCx:=ah hCx;rw[←hCx]at sz1 szW⊢;have hkB:=HkB.out;rw[←hCx]at hkB;have HkB:=ah hkB;clear hkB hCx;refine' wpIn_rangeFunc_ownH (n:=5) (F:=Fence.wide) rfl bL (gf:=196) (lb:=#[.pointer (some ⟨Cx+1,0,none⟩)]) rfl trivial (enters_of func196 aL rfl)
   (encs:=fun x=>#[itV x]) (Kp:=Kv (C+4) (C+1) (C+1+1)) (S:=fun ys=>ys.map (·.1)=L) (Sp:=fun _=>True) (N:=1001) (w0:=W1)
   (fun l J Jx V hV hJ hJx hY h0=>?seq) Kv.trans (fun V l o o' hl ho hc _=>Kv.book ae V wY l o o' ae ho hc) (aK _ _) (fun _=>rfl)
   (fun pre V=>Nm (C+4) (C+1) (C+1+1) ((pre.map (·.1)).foldl addN ns) V∧Kv (C+4) (C+1) (C+1+1) W0 V∧Mk (C+4) V ds Cx) (fun _ _ _=>False) ?own (fun c s A B row hs hg hr=>hs) ?start
   (fun u a' V=>∃Bx,C+4≤Bx∧(aV V Bx (nY u)∧∀v,V.cell? ⟨C+1,0,none⟩=some v→v.ownBlock≠some Bx)∧a'={tmps:=#[.agg #[ag x.1.kind,ag x.1.num,.string x.1.str,.slice x.2.1 x.2.2.1 x.2.2.2,ag y.1.kind,ag y.1.num,.string y.1.str,.slice y.2.1 y.2.2.1 y.2.2.2,ag z.1.kind,ag z.1.num,.string z.1.str,.slice z.2.1 z.2.2.1 z.2.2.2],aR C,.slice none 0 0,.pointer (some ⟨C+1,0,none⟩),.pointer (some ⟨C+1+1+1,0,none⟩),undef,aR Cx,aR Bx,undef,undef,.map (some (C+1+1)),aR C,.agg #[ag x.1.kind,ag x.1.num,.string x.1.str,.slice x.2.1 x.2.2.1 x.2.2.2,ag y.1.kind,ag y.1.num,.string y.1.str,.slice y.2.1 y.2.2.1 y.2.2.2,ag z.1.kind,ag z.1.num,.string z.1.str,.slice z.2.1 z.2.2.1 z.2.2.2],ag i,.bool true,.agg #[ag q.1.kind,ag q.1.num,.string q.1.str,.slice q.2.1 q.2.2.1 q.2.2.2],.agg #[ag q.1.kind,ag q.1.num,.string q.1.str,.slice q.2.1 q.2.2.1 q.2.2.2],.func (.func 196) #[] #[.pointer (some ⟨Cx+1,0,none⟩)],.agg #[ag u.1.kind,ag u.1.num,.string u.1.str,.slice u.2.1 u.2.2.1 u.2.2.2],undef,undef,undef,undef,undef,undef,undef,undef,undef,undef,undef,undef,undef,undef,undef,undef,undef,undef,undef,undef,undef,undef,undef,undef,undef,undef,undef,u46,undef],defers:=[]})
   (fun u a' uu A B row hs hg hr=>?ax) ?assign ?body ?done ?stop
  case seq=>
   have hgV:Gv (C+4) (C+1) (C+1+1) V:=HgW.out.below hV;exact callsIn_wide.2 (VK (n:=4) (l:=l) (B:=V.heap.size) (N:=1001) (X:=fun b=>b<w.heap.size) (Kp:=Kv (C+4) (C+1) (C+1+1)) (Gd:=Gv (C+4) (C+1) (C+1+1)) (J:=J) (Jx:=Jx)
    ⟨hJ,fun A B g k=>⟨k.size,fun b hb _=>by have h:=HC.out;exact k.old g ae ae ae⟩,fun A B g h=>g.below h,fun A B g k=>k.lt g,fun A B B' b o v g h hb e k=>Kv.new g h hb e k,fun A B g h=>Kv.below h (by have:=g.1;omega),fun A B D h k=>h.trans k,bL,hY⟩
    HL.out ae V q.2.1 q.2.2.1 q.2.2.2 (HkB.out.later hV) (Nn.out.on hV) hgV h0)
  case own=>
   rintro pre A B row ⟨h1,h2,h3⟩ hg hr;have hr':∀k,row=some k→C+4≤k∧∃o:Obj,A.heap[k]?=some o∧o.isCells=false:=fun k e=>⟨by have:=(hr k e).1;omega,(hr k e).2⟩
   exact⟨h1.grown ae ae hg hr',h2.trans (Kv.grown ae hg hr' (by have:=h2.size;omega)),h3.keep fun k a b c=>(hg.block k (Array.getElem?_eq_some_iff.1 c).1 (fun e=>by have:=(hr k e.symm).1;omega)).trans c⟩
  case start=>exact⟨aql.out,aqm.out,by rw[HCx.out];exact aqn.out⟩
  case ax=>
   obtain⟨Bx,h1,⟨h2,hnw⟩,h3⟩:=hs;have hpA:C+1<A.heap.size:=by have:=h2.lt;omega
   have yP:B.cell? ⟨C+1,0,none⟩=A.cell? ⟨C+1,0,none⟩:=bg (a:=⟨C+1,0,none⟩) (hg.block (C+1) hpA (fun e=>by have:=(hr (C+1) e.symm).1;omega));refine⟨Bx,h1,⟨h2.keep hg.size (hg.block Bx h2.lt (fun e=>?_)),fun v' hv'=>hnw v' (by rw[←yP];exact hv')⟩,h3⟩;obtain⟨_,o,h4,h5⟩:=hr Bx e.symm;have h6:=h2.cell 0;unfold World.cell? at h6;simp only[h4]at h6;cases o<;>first|(cases h5;done)|cases h6
  case assign=>intro l pre u V K hi hK;obtain⟨pK,hi2,hi3⟩:=hi;have hsV:=hi2.size;have hpV:C+1<V.heap.size:=ae;have hgV:=hi2.lt Hgv.out;unfold itV;gi_wp2;have hbn:=(aK V.heap.size V).alloc (aH _) (.cells #[ag u.1.kind,ag u.1.num,.string u.1.str,.slice u.2.1 u.2.2.1 u.2.2.2] 183);refine hK _ _ ((KeepsOthers.alloc _ _).from _) (Kv.below hbn hpV) ⟨pK.below ae ae hbn,hi2.trans (Kv.below hbn hpV),hi3.keep fun k a b c=>(hbn.block k (Array.getElem?_eq_some_iff.1 c).1).trans c⟩ ⟨V.heap.size,ae,⟨aV.new _ _ _ _ rfl,fun v' hv' e=>?_⟩,rfl⟩;have:=hgV.2 v' (by rw[←World.cell?_of_block (a:=⟨C+1,0,none⟩) (hbn.block (C+1) hpV)];exact hv') _ e;omega
  case body=>
   rintro l pre u a' V hl ⟨rl,hrl⟩ ⟨hnm,Ud,hmk⟩ ⟨Bx,hBx,⟨kx,hnw⟩,rfl⟩ hlen;obtain⟨np,hnp⟩:∃np,np=(pre.map (·.1)).foldl addN ns:=⟨_,rfl⟩
   have ayu:np.length≤5000:=by have:=GN (pre.map (·.1)) ns;rw[←hnp]at this;simp only[List.length_map]at this;omega
   have hnext:((pre++[u]).map (·.1)).foldl addN ns=addN np u.1:=by rw[hnp];simp
   rw[←hnp]at hnm;rw[Uc]at hnext;have Ue:=ah hnext;obtain⟨v,kp,own⟩:=hnm.ex;have hsh:∃a cap,v=.slice a np.length cap:=by exact xK
   obtain⟨a,cap,rfl⟩:=hsh;have hgV:=Ud.lt Hgv.out;have szV:=Ud.size;have k4:aV V (C+1+1+1) [.map (some (C+1+1))]:=Q_.out.keep Ud.size (Ud.old Hgv.out ae ae ae);have c1:=kp.cell 0;have c4:=k4.cell 0;have cx:=kx.cell;have lx:=kx.lt;simp only[List.getElem?_cons_zero,nY]at c1 c4 cx;have hfd:=zx u.1.str np 0 0;have hmp:=hnm.mp;have Hkp:=ah kp;have ayv:=ah k4;have Hkx:=ah kx;have jO:=ah own;have akC:=ah Ud;have HgV:=ah hgV;have akD:=ah hmk;have aqr:=ah hnm;have Hnw:=ah hnw;have Hmp:=ah hmp;have Hfd:=ah hfd;have TA:=ah hl;clear hnext hnp hgV kp k4 kx own Ud hmk hnm hnw hmp hfd hl hrl;by_cases hk:u.1.kind=1∨u.1.kind=10
   ·have hnx:=Ue.out;rw[if_pos hk]at hnx;cases hany:np.any (fun y=>eH y u.1.str)with
    |true=>
     rw[hany]at hnx;simp only[if_true]at hnx;obtain⟨j,vv,hf⟩:=Hfd.out.1 hany;have hlk:=tZ (P:=prog) underlying220 underlying9 rfl (Hmp.out) (by exact hf) true;have Hnx:=ah hnx;clear hnx hany hf;rcases hk with hk|hk
     ·have b1:(u.1.kind !=1)=false:=by simp[hk]
      clear hk;exact xL
     ·have b1:(u.1.kind !=1)=true:=by simp[hk]
      have b2:(u.1.kind !=10)=false:=by simp[hk]
      clear hk;exact xL
    |false=>
     rw[hany]at hnx;simp only[Bool.false_eq_true,if_false]at hnx;have hf:=Hfd.out.2 hany;have hlk:=ug (P:=prog) underlying220 underlying9 rfl (Hmp.out) (by exact hf) (Am V) true;have hins:=GQ (P:=prog) underlying220 underlying9 rfl (Hmp.out) (.string u.1.str) (ag np.length) (by exact hf);rw[JL]at hins;obtain⟨V2,Xi⟩:∃V2,V2=V.putObj (C+1+1) (.map (uZ (np++[u.1.str])) (np.length+1)):=⟨_,rfl⟩
     rw[←Xi]at hins;have Hnx:=ah hnx;have iO:∀b,b≠C+1+1→V2.heap[b]?=V.heap[b]?:=fun b hb=>by rw[Xi];exact World.putObj_heap_other hb
     have c1':V2.cell? ⟨C+1,0,none⟩=some (.slice a np.length cap):=(bg (a:=⟨C+1,0,none⟩) (iO (C+1) ae)).trans c1;have cx':∀i,V2.cell? ⟨Bx,i,none⟩=_:=fun i=>(bg (a:=⟨Bx,i,none⟩) (iO Bx ae)).trans (cx i);have HV2:=ah Xi;have Fj:=ah iO;clear hnx hany hf Xi iO;obtain⟨i0,afX,sN,nk,nD⟩:=info_parts Tryz.ab8;have hown3:(V2.alloc (.cells #[.string u.1.str] 9)).ownsRow 0 9 1 (.slice a np.length cap) np.length (np.map Value.string):=by have h1:=tq jO.out (grownBy_putObj' V (C+1+1) (.map (uZ (np++[u.1.str])) (np.length+1))) (fun q e=>by cases e;exact⟨_,Hmp.out,rfl⟩);rw[←HV2.out]at h1;exact ownsRow_base (h1.alloc _) (Nat.zero_le _)
     have Y4:=ah hown3;have akG:∀w5:World,(V2.alloc (.cells #[.string u.1.str] 9)).grownBy w5 (Value.slice a np.length cap).ownBlock→w5.cell? ⟨C+1,0,none⟩=some (.slice a np.length cap)∧∀i,w5.frozen? ⟨C+1,i,none⟩=false:=fun w5 lJ=>by
      have hb:w5.heap[C+1]?=V.heap[C+1]?:=(lJ.block (C+1) (by simp;rw[HV2.out];simp[World.putObj];omega) (fun e=>by have:=HgV.out.2 _ (Hkp.out.cell 0) _ e.symm;omega)).trans ((gV V2 _ _ (by rw[HV2.out];simp[World.putObj];omega)).trans (Fj.out _ ae));have abL:V.heap.size≤w5.heap.size:=by have:=lJ.size;rw[World.size_alloc,HV2.out]at this;simp[World.putObj]at this;omega
      have kk:=Hkp.out.keep abL hb;exact⟨kk.cell 0,kk.free⟩
     have aqs:=ah akG;clear hown3 akG;rcases hk with hk|hk
     ·have b1:(u.1.kind !=1)=false:=by simp[hk]
      exact Dw
     ·have b1:(u.1.kind !=1)=true:=by simp[hk]
      have b2:(u.1.kind !=10)=false:=by simp[hk]
      exact Dw
   ·have hnx:=Ue.out;rw[if_neg hk]at hnx;have b1:(u.1.kind !=1)=true:=by simp;exact fun h=>hk (.inl h)
    have b2:(u.1.kind !=10)=true:=by simp;exact fun h=>hk (.inr h)
    have Hnx:=ah hnx;clear hnx hk;exact xL
  case done=>
   rintro D xs V hD hS ⟨hnm,Ud,hmk⟩ hK;gi_wp2;refine⟨⟨i+1,_,_,_,_,_,_,_,⟨ae,by have:=GN L ns;rw[hS];omega⟩,rfl,ah ⟨hnm,Ud,D,rfl,ae,?_,hK,hmk.mono ae⟩,ah ?_⟩,by simp[intOf];omega⟩
   ·exact(Array.getElem?_eq_some_iff.1 hK).1
   ·rw[HL2.out,hS]
  case stop=>rintro D c pre V hD _ h _;exact h.elim
 ·obtain rfl:i=3:=ae;obtain⟨hnm,Ud,hmk⟩:=cZ.out;have hNZ:ns=NZ:=by have h1:=hns.out;have h2:=Hv.out;unfold GD at h2;simp only[dS]at h1;rw[h1]at h2;injection h2
  subst hNZ;obtain⟨v,kp,own⟩:=hnm.ex;have hsh:∃a cap,v=.slice a ns.length cap:=by exact xK
  obtain⟨a,cap,rfl⟩:=hsh;have c1:=kp.cell 0;simp only[List.getElem?_cons_zero]at c1;have jO:=ah own;have Hkv:=ah Ud;have Hmk:=ah hmk;clear kp own hnm Ud hmk cZ hns;gi_wp2;go_wp2;refine Ao (n0:=C+4) (W0:=W) (fun W' ho=>?_) ds _ W ⟨rfl,rfl,rfl,rfl,fun _ _=>rfl⟩ Hmk.out;refine⟨_,results_tmp rfl _ _ _,a,cap,rfl,?_,?_⟩
  ·refine ownsRow_base (b:=C+4) ⟨jO.out.1,?_⟩ (by have:=HC.out;omega);rcases jO.out.2 with h1|⟨g,cp,cur,h1,h2,h3,h4⟩
   ·exact .inl h1
   ·exact .inr ⟨g,cp,cur,h1,h2,(ho.block g (.inr ⟨_,h3,rfl⟩)).trans h3,h4⟩
  ·have hq:=Hkv.out;have hb:=Hb0.out;refine⟨ho.os.trans (hq.os.trans hb.os),ho.tape.trans (hq.tape.trans hb.tape),ho.output.trans (hq.output.trans hb.output),by have:=ho.size;have:=hq.size;have:=hb.size;omega,fun k hk=>?_⟩;have hkC:k<C:=by rw[HC.out];exact hk
   exact(ho.block k (.inl ae)).trans ((hq.old Hgv.out ae ae ae).trans (hb.block k hk))
theorem tV (x y z:It) (f:Nat) (vs:List ByteArray) (ht:[x.1,y.1,z.1].all (fun x=>x.kind==0||VC f x)=true) (hv:GD f [x.1,y.1,z.1]=some vs) (hl:vs.length≤16) (w:World) (X:Nat→Prop) (hkx:ig w X x.1.kids x.2.1 x.2.2.1 x.2.2.2) (Ma:ig w X y.1.kids y.2.1 y.2.2.1 y.2.2.2) (hkz:ig w X z.1.kids z.2.1 z.2.2.1 z.2.2.2):
  Calls prog 124 #[.agg #[ag x.1.kind,ag x.1.num,.string x.1.str,.slice x.2.1 x.2.2.1 x.2.2.2,ag y.1.kind,ag y.1.num,.string y.1.str,.slice y.2.1 y.2.2.1 y.2.2.2,ag z.1.kind,ag z.1.num,.string z.1.str,.slice z.2.1 z.2.2.1 z.2.2.2]] w fun e w'=>e=.returned (ag 0)∧aJ w w':=by
 have TY:=ah fun(V:World) (hV:aJ w V)=>yS x y z f vs hv V X (hkx.on hV) (Ma.on hV) (hkz.on hV);have hwt:∀i,i<3→(jC x y z i).1.kind≠0→∀(V:World) (r:Nat),I8 V r→aJ w V→Calls prog 160 #[.agg #[.map (some r)],.agg #[ag (jC x y z i).1.kind,ag (jC x y z i).1.num,.string (jC x y z i).1.str,.slice (jC x y z i).2.1 (jC x y z i).2.2.1 (jC x y z i).2.2.2]] V fun e w'=>e=.returned (.bool true)∧aJ V w':=fun i hi h0 V r hs hV=>by
  simp only[List.all_cons,List.all_nil,Bool.and_true,Bool.and_eq_true,Bool.or_eq_true,beq_iff_eq]at ht;obtain⟨t0,t1,t2⟩:=ht;obtain rfl|rfl|rfl:i=0∨i=1∨i=2:=ae
  ·exact(KV f).1 _ (t0.resolve_left h0) V r X _ _ _ hs (hkx.on hV)
  ·exact(KV f).1 _ (t1.resolve_left h0) V r X _ _ _ hs (Ma.on hV)
  ·exact(KV f).1 _ (t2.resolve_left h0) V r X _ _ _ hs (hkz.on hV)
 have hix:∀(i:Nat),i<3→∀V,Sem.run prog (Instr.index 184 (.agg #[ag x.1.kind,ag x.1.num,.string x.1.str,.slice x.2.1 x.2.2.1 x.2.2.2,ag y.1.kind,ag y.1.num,.string y.1.str,.slice y.2.1 y.2.2.1 y.2.2.2,ag z.1.kind,ag z.1.num,.string z.1.str,.slice z.2.1 z.2.2.1 z.2.2.2]) (ag i)) V=.ok (.agg #[ag (jC x y z i).1.kind,ag (jC x y z i).1.num,.string (jC x y z i).1.str,.slice (jC x y z i).2.1 (jC x y z i).2.2.1 (jC x y z i).2.2.2]) V:=by exact rE
 have akj:=ah fun V=>GI V;clear hkx Ma hkz ht hv;have hlI:¬((16:Int)<(vs.length:Int)):=ae;have ap9:=ah hwt;have vR:=ah hix;clear hwt hix;refine az ?_;intro hal bu;go_enter func124,ntmps124;go_wp2_with (first|((with_reducible refine(akj.out _).mono ?_);rintro e w1 ⟨r,rfl,hsg,aO⟩;obtain⟨N1,dA,bW,eu,eF⟩:=eB aO;(try simp only[bf]at dA)));refine aP fun W hW=>?_;have hbW:aJ w W:=aM;obtain⟨C,hC⟩:∃C,C=w.heap.size:=⟨_,rfl⟩
 obtain⟨D,hD⟩:∃D,D=w1.heap.size:=⟨_,rfl⟩
 have kA:aV W C [ag x.1.kind,ag x.1.num,.string x.1.str,.slice x.2.1 x.2.2.1 x.2.2.2,ag y.1.kind,ag y.1.num,.string y.1.str,.slice y.2.1 y.2.2.1 y.2.2.2,ag z.1.kind,ag z.1.num,.string z.1.str,.slice z.2.1 z.2.2.1 z.2.2.2]:=by rw[hW,hC];exact((aV.new _ _ _ _ rfl).later aO).alloc _
 have kc:aV W D [.map (some r)]:=by rw[hW,hD];exact aV.new _ _ _ _ rfl
 have VF:I8 W r:=by rw[hW];exact hsg.on ((aK _ _).alloc (aH _) _)
 rw[←hC,←hD];have HkA:=ah kA;have Hkc:=ah kc;have HsW:=ah VF;have Qb:=ah hbW;have HC:=ah hC;have lA:=kA.lt;have lc:=kc.lt;clear hW hbW hC hD kA kc VF hsg bW eu eF dA aO N1 w1 akj;go_loopw [9] (fun e wr=>∃i:Nat,i≤3∧e=ag i∧aJ W wr) (fun e _=>3-(intOf e).toNat);case atStart=>exact⟨0,ae,rfl,aK _ _⟩
 case round=>
  obtain⟨i,hi,rfl,hbr⟩:=hrel;have cA:=(HkA.out.later hbr).cell;have cc:=(Hkc.out.later hbr).cell;have hzr:=hbr.size;have hle:w.heap.size≤W.heap.size:=Qb.out.size;by_cases h3:i<3
  ·have h3i:(i:Int)<3:=ae;have hx:=vR.out i h3;have hw:=fun h0 (V:World) (hV:aJ W V)=>ap9.out i h3 h0 V r (HsW.out.on hV) (Qb.out.trans (hV.mono hle));generalize jC x y z i=q at*;by_cases h0:q.1.kind=0
   ·have b0:(q.1.kind !=0)=false:=by simp[h0]
    clear hw h0;go_wp2;refine⟨⟨i+1,ae,av,?_⟩,by simp[intOf];omega⟩;exact aG
   ·have b0:(q.1.kind !=0)=true:=by simp[h0]
    replace hw:=hw h0;clear h0;have Hhw:=ah hw;clear hw;go_wp2_with (first|((with_reducible refine(Hhw.out _ aG).mono ?_);refine df ?_;intro w3 gK N3 vD jK vF sJ));refine⟨⟨i+1,ae,av,?_⟩,by simp[intOf];omega⟩;exact aG
  ·obtain rfl:i=3:=ae;have ap_:=ah fun(V:World) (hV:aJ W V)=>TY.out V (Qb.out.trans (hV.mono hle));go_wp2_with (first|((with_reducible refine(ap_.out _ aG).mono ?_);rintro e w4 ⟨a,cap,rfl,hown,lY⟩;obtain⟨N4,BG,nJ,Jl,Im⟩:=eB lY;(try simp only[bf]at BG)));go_ret;refine⟨rfl,?_⟩;have h:=Qb.out;exact h.trans ((hbr.trans (lY.mono hzr)).mono hle)
variable {b B m:Nat} {w A w':World} {vs:List ByteArray} {e0 e1 e2:Int} {cd:Cd}
def kM (x:Int×Int):List Value:=[ag x.1,ag x.2]
theorem Zj (l:Cd):(l.flatMap kM).length=l.length*2:=by
 induction l with
 |nil=>rfl
 |cons x l ih=>simp only[List.flatMap_cons,List.length_append,ih,List.length_cons];simp[kM];omega
structure Kc (b:Nat) (A B:World):Prop where
 os:B.os=A.os
 tape:B.tape=A.tape
 output:B.output=A.output
 size:A.heap.size≤B.heap.size
 block:∀k,k<A.heap.size→k≠b→(∀v,A.cell? ⟨b,0,none⟩=some v→v.ownBlock≠some k)→B.heap[k]?=A.heap[k]?
 own:∀v',B.cell? ⟨b,0,none⟩=some v'→∀k,v'.ownBlock=some k→(∃v,A.cell? ⟨b,0,none⟩=some v∧v.ownBlock=some k)∨A.heap.size≤k
theorem Kc.refl (b:Nat) (A:World):Kc b A A:=⟨rfl,rfl,rfl,aH _,fun _ _ _ _=>rfl,fun v hv k e=>.inl ⟨v,hv,e⟩⟩
theorem Kc.trans {B C:World} (h:Kc b A B) (k:Kc b B C):Kc b A C:=by
 refine⟨k.os.trans h.os,k.tape.trans h.tape,k.output.trans h.output,aS h.size k.size,fun x hx hp hv=>?_,fun v' hv' x e=>?_⟩
 ·have h1:=h.block x hx hp hv;refine(k.block x (bH hx h.size) hp (fun v' hv' e=>?_)).trans h1;rcases h.own v' hv' x e with⟨v,h2,h3⟩|h2
  ·exact hv v h2 h3
  ·omega
 ·rcases k.own v' hv' x e with⟨v,h2,h3⟩|h2
  ·exact h.own v h2 x h3
  ·exact .inr (aS h.size h2)
theorem Kc.below {B:World} (h:aJ A B) (hb:b<A.heap.size):Kc b A B:=
 have c:B.cell? ⟨b,0,none⟩=A.cell? ⟨b,0,none⟩:=bg (a:=⟨b,0,none⟩) (h.block b hb)
 ⟨h.os,h.tape,h.output,h.size,fun k hk _ _=>h.block k hk,fun v hv k e=>.inl ⟨v,by rw[←c];exact hv,e⟩⟩
structure eZ (w:World) (B b m:Nat) (vs:List ByteArray) (e0 e1 e2:Int) (cd:Cd):Prop where
 ex:∃a cap,aV w b [.slice a cd.length cap,.map (some m),ag e0,ag e1,ag e2]∧w.ownsRow B 110 2 (.slice a cd.length cap) cd.length (cd.flatMap kM)∧∀g,(Value.slice a cd.length cap).ownBlock=some g→g≠b
 mp:w.heap[m]?=some (.map (uZ vs) vs.length)
 lb:B≤b
 lm:B≤m
theorem eZ.blt (h:eZ w B b m vs e0 e1 e2 cd):b<w.heap.size:=by obtain⟨a,cap,h1,_⟩:=h.ex;exact h1.lt
theorem eZ.on (h:eZ w B b m vs e0 e1 e2 cd) (hb:aJ w w'):eZ w' B b m vs e0 e1 e2 cd:=by
 obtain⟨a,cap,h1,h2,h3⟩:=h.ex;refine⟨⟨a,cap,h1.later hb,⟨h2.1,?_⟩,h3⟩,(hb.block m (Array.getElem?_eq_some_iff.1 h.mp).1).trans h.mp,h.lb,h.lm⟩;rcases h2.2 with h4|⟨g,cp,cur,h4,h5,h6,h7⟩
 ·exact .inl h4
 ·exact .inr ⟨g,cp,cur,h4,h5,(hb.block g (Array.getElem?_eq_some_iff.1 h6).1).trans h6,h7⟩
theorem eZ.own (h:eZ w B b m vs e0 e1 e2 cd) (v:Value) (hv:w.cell? ⟨b,0,none⟩=some v) (k:Nat) (e:v.ownBlock=some k):B≤k∧k<w.heap.size:=by
 obtain⟨a,cap,h1,h2,h3⟩:=h.ex;rw[h1.cell 0]at hv;injection hv with hv;subst hv;rcases h2.2 with⟨h4,_⟩|⟨g,cp,cur,h4,h5,h6,h7⟩
 ·simp only[Value.slice.injEq]at h4;rw[h4.1]at e;cases e
 ·rw[h4]at e;injection e with e;have h8:g<w.heap.size:=(Array.getElem?_eq_some_iff.1 h6).1;have h9:g=k:=e;omega
theorem eZ.old (h:eZ w B b m vs e0 e1 e2 cd) (k:Kc b w w') (x:Nat) (hx:x<B):w'.heap[x]?=w.heap[x]?:=
 k.block x (by have:=h.blt;have:=h.lb;omega) (by have:=h.lb;omega) (fun v hv e=>by have:=h.own v hv x e;omega)
theorem JQ {P:Program} {ops:Array Oper} {Q:Exit→Act→World→Prop} {o:Oper} {rest:List Oper} {a:Act} (hw:Region.wanted o (yielded ops a.tmps)=true) (h:o.wp P a w (wpList P ops Q rest) Q):wpList P ops Q (o::rest) a w:=by exact xq
theorem dQ {W:World} {size n o:Nat} {e:TypeId} {v:Value} {xs:List Value} (h:W.ownsRow B e size v n xs) (hne:∀g,v.ownBlock=some g→g≠b) (u:Value):(W.setCell ⟨b,o,none⟩ u).ownsRow B e size v n xs:=by
 refine⟨h.1,?_⟩;rcases h.2 with h1|⟨g,cp,cur,h1,h2,h3,h4⟩
 ·exact .inl h1
 ·exact .inr ⟨g,cp,cur,h1,h2,(dI _ _ _ _ (hne g (by rw[h1];rfl))).trans h3,h4⟩
theorem VP {w5:World} {x:Int×Int} {a:Option Addr} {cap:Nat} {t:TypeId} (h:eZ w B b m vs e0 e1 e2 cd) (k:aV w b [.slice a cd.length cap,.map (some m),ag e0,ag e1,ag e2])
  {te:TypeId} {v5:Value} (ht:te=te) (iE:w5.ownsRow 0 te 2 v5 (cd.length+1) (cd.flatMap kM++kM x)) (lJ:(w.alloc (.cells (kM x).toArray t)).grownBy w5 (Value.slice a cd.length cap).ownBlock)
  (zK:v5.ownBlock=(Value.slice a cd.length cap).ownBlock∨∃g,v5.ownBlock=some g∧(w.alloc (.cells (kM x).toArray t)).heap.size≤g):
  w5.ownsRow B te 2 v5 (cd.length+1) (cd.flatMap kM++kM x)∧(∀g,v5.ownBlock=some g→g≠b)∧w5.heap[b]?=w.heap[b]?∧w.heap.size+1≤w5.heap.size∧w5.heap[m]?=w.heap[m]?∧Kc b w (w5.setCell ⟨b,0,none⟩ v5):=by
 have lb:=h.blt;have hB:=h.lb;have lm:m<w.heap.size:=(Array.getElem?_eq_some_iff.1 h.mp).1;have hno:∀g,(Value.slice a cd.length cap).ownBlock=some g→B≤g∧g<w.heap.size:=fun g e=>h.own _ (k.cell 0) g e;obtain⟨a2,cap2,k2,MV,ne2⟩:=h.ex;have ee:(Value.slice a2 cd.length cap2)=.slice a cd.length cap:=by have h1:=k2.cell 0;rw[k.cell 0]at h1;injection h1 with h1;exact h1.symm
 rw[ee]at MV ne2;have hnm:∀g,(Value.slice a cd.length cap).ownBlock=some g→g≠m:=fun g e h9=>by
  rcases MV.2 with⟨h1,_⟩|⟨g',cp,cur,h1,_,h3,_⟩
  ·rw[h1]at e;cases e
  ·rw[h1]at e;injection e with e;have h8:g'=g:=e;rw[h8,h9,h.mp]at h3;cases h3
 have szA:(w.alloc (.cells (kM x).toArray t)).heap.size=w.heap.size+1:=av;have sz5:w.heap.size+1≤w5.heap.size:=by have:=lJ.size;omega
 have hblk:∀q,q<w.heap.size→(∀g,(Value.slice a cd.length cap).ownBlock=some g→q≠g)→w5.heap[q]?=w.heap[q]?:=fun q hq hn=>
  (lJ.block q (by rw[szA];omega) (fun e=>hn q e.symm rfl)).trans (gV w _ q hq)
 have eY:=hblk b lb (fun g e h9=>ne2 g e h9.symm);refine⟨ve iE (fun g e=>?_),fun g e=>?_,eY,sz5,hblk m lm (fun g e h9=>hnm g e h9.symm),?_⟩
 ·rcases zK with h1|⟨g',h1,h2⟩
  ·exact(hno g (by rw[←h1];exact e)).1
  ·rw[h1]at e;injection e with e;omega
 ·rcases zK with h1|⟨g',h1,h2⟩
  ·exact ne2 g (by rw[←h1];exact e)
  ·rw[h1]at e;injection e with e;omega
 ·have kp5:aV w5 b _:=k.keep ae eY;have kpE:=kp5.put 0 v5;refine⟨lJ.os,lJ.tape,lJ.output,bU,fun q hq hqb hv=>(dI _ _ _ _ hqb).trans (hblk q hq (fun g e h9=>hv _ (k.cell 0) (by rw[h9];exact e))),fun v'' pV q e=>?_⟩;rw[kpE.cell 0]at pV;injection pV with pV;subst pV;rcases zK with h1|⟨g',h1,h2⟩
  ·exact .inl ⟨_,k.cell 0,by rw[←h1];exact e⟩
  ·rw[h1]at e;injection e with e;exact .inr ae
theorem Tryz.KQ:(prog.info? 110).map (fun i=>(i.zero,i.size,i.bytes))=some (some (.agg #[ag 0,ag 0]),2,16):=aL
theorem fK (h:eZ w B b m vs e0 e1 e2 cd) (hl:cd.length≤5000) (op n:Int):
  Calls prog 127 #[aR b,ag op,ag n] w fun e w'=>e=.returned (ag cd.length)∧eZ w' B b m vs e0 e1 e2 (cd++[(op,n)])∧Kc b w w':=by
 obtain⟨a,cap,k,own,ne⟩:=h.ex;obtain⟨i0,afX,sN,nk,nD⟩:=info_parts Tryz.KQ;have ck:=k.cell;have lk:=k.lt;have Hk:=ah k;have H:=ah h;have hown3:(w.alloc (.cells (kM (op,n)).toArray 110)).ownsRow 0 110 2 (.slice a cd.length cap) cd.length (cd.flatMap kM):=ownsRow_base (own.alloc _) (Nat.zero_le _);have Y4:=ah hown3;obtain⟨N,hN⟩:∃N,N=cd.length:=⟨_,rfl⟩
 have HN:=ah hN;clear k own ne h hown3 hN;refine az ?_;intro hal bu;go_enter func127,ntmps127;go_wp2_with (refine JQ rfl ?_;refine gq (.tmp 11) (.tmp 15) 59 rfl 110 i0 (.agg #[ag 0,ag 0]) 2 16 underlying59 afX sN nk nD rfl bL (.slice a cd.length cap) cd.length (cd.flatMap kM) rfl Y4.out ⟨w.heap.size,0,none⟩ 1 1 (kM (op,n)) rfl rfl (fun j uu hj=>by rw[zt,World.cell?_alloc_new];simpa[kM]using hj) (by simp[kM,Value.oneCell']) iq ae ?_;intro v5 w5 iE lJ zK;obtain⟨a5,cap5,rfl⟩:=Bc iE;have RY:=ah (VP H.out Hk.out rfl iE lJ zK);have q5:∀i,w5.cell? ⟨b,i,none⟩=_:=fun i=>(bg (a:=⟨b,i,none⟩) RY.out.2.2.1).trans (ck i);have qf5:∀i,w5.frozen? ⟨b,i,none⟩=false:=fun i=>(World.frozen?_of_block (a:=⟨b,i,none⟩) RY.out.2.2.1).trans (Hk.out.free i);clear iE lJ zK);go_ret;obtain⟨r1,r2,r3,r4,r5,r6⟩:=RY.out;have kp5:=(Hk.out.keep (w':=w5) ae r3).put 0 (.slice a5 (cd.length+1) cap5);have hlen:(cd++[(op,n)]).length=cd.length+1:=av;refine⟨av,⟨⟨a5,cap5,by rw[hlen];exact kp5,?_,by rw[hlen];exact r2⟩,?_,H.out.lb,H.out.lm⟩,r6⟩
 ·rw[hlen];have hb:=dQ (o:=0) r1 r2 (.slice a5 (cd.length+1) cap5);simpa using hb
 ·refine(dI _ _ _ _ (fun e=>?_)).trans (r5.trans H.out.mp);have h1:=Hk.out.cell 0;have e':b=m:=e.symm;rw[e']at h1;unfold World.cell? at h1;simp only[H.out.mp]at h1;cases h1
variable {w w':World} {b B m x g j:Nat}
theorem heap_set {cur:Array Value} {fz:Nat×Nat} (h:w.heap[g]?=some (.cells cur e fz)) (u:Value):(w.setCell ⟨g,j,none⟩ u).heap[g]?=some (.cells (cur.setIfInBounds j u) e fz):=by simp[World.setCell,Array.getElem?_modify,h]
theorem Od {W:World} {size n cap:Nat} {xs:List Value} (h:W.ownsRow B e size (aZ g n cap) n xs) (hj:j<n*size) (u:Value):(W.setCell ⟨g,j,none⟩ u).ownsRow B e size (aZ g n cap) n (xs.set j u):=by
 refine⟨by simpa using h.1,?_⟩;rcases h.2 with⟨h1,_⟩|⟨g',cp,cur,h1,h2,h3,h4,h5,h6,h7⟩
 ·cases h1
 ·injection h1 with h1 _ h8;injection h1 with h1;injection h1 with h1;subst h1 h8;refine .inr ⟨g,cap,cur.setIfInBounds j u,rfl,h2,heap_set h3 u,h4,h5,by simpa using h6,?_⟩;rw[Array.toList_setIfInBounds,List.take_set,h7]
theorem Oe:∀(l:Cd) (i:Nat) (op n N:Int),l[i]?=some (op,n)→(l.flatMap kM).set (i*2+1) (ag N)=(l.set i (op,N)).flatMap kM
 |[],i,op,n,N,h=>by simp at h
 |x::l,0,op,n,N,h=>by
  simp only[List.getElem?_cons_zero,Option.some.injEq]at h
  subst h
  rfl
 |x::l,i+1,op,n,N,h=>by
  simp only[List.getElem?_cons_succ]at h
  have ih:=Oe l i op n N h
  rw[List.set_cons_succ,List.flatMap_cons,List.flatMap_cons,←ih]
  rw[show(i+1)*2+1=(i*2+1)+1+1 from ae]
  rfl
theorem Bg {Bt Ba i:Nat} {op n:Int} (h:eZ w B b m vs e0 e1 e2 cd) (hl:cd.length≤5000) (hi:cd[i]?=some (op,n)) (kt:aV w Bt [aR b]) (ka:aV w Ba [ag i]):
  ∀u,CallsD prog 256 #[aR Bt,aR Ba] u w fun e u' w'=>u'=u∧(e=.returned (.tuple #[])∧eZ w' B b m vs e0 e1 e2 (cd.set i (op,(cd.length:Int)))∧Kc b w w'):=by
 intro u;obtain⟨a,cap,k,own,ne⟩:=h.ex;have hic:i<cd.length:=by
  rcases Nat.lt_or_ge i cd.length with h1|h1
  ·exact h1
  ·rw[List.getElem?_eq_none h1]at hi;cases hi
 obtain⟨g,rfl⟩:∃g,a=some ⟨g,0,none⟩:=by
  rcases own.2 with⟨h1,h2⟩|⟨g,cp,cur,h1,_⟩
  ·omega
  ·injection h1 with h1 _ _;exact⟨g,h1⟩
 have hgc:∀r,r<cd.length*2→∃v,w.cell? ⟨g,r,none⟩=some v:=fun r hr=>by
  have h1:=own.cells (g:=g) rfl r;have hlt:r<(cd.flatMap kM).length:=by rw[Zj];exact hr
  have h2:=h1 _ (ik hlt);rw[zt]at h2;exact⟨_,h2⟩
 obtain⟨v1,c1⟩:=hgc (i*2+1) ae;have fg:w.frozen? ⟨g,i*2+1,none⟩=false:=by
  rcases own.2 with⟨h1,h2⟩|⟨g',cp,cur,h1,h2,h3,_⟩
  ·omega
  ·injection h1 with h1 _ _;injection h1 with h1;injection h1 with h1;subst h1;simp[World.frozen?,h3]
 have ck:=k.cell;have ct:=kt.cell;have ca:=ka.cell;have azi:(i:Int)<(cd.length:Int):=ae;have Hk:=ah k;have jO:=ah own;have Hne:=ah ne;have H:=ah h;have Hi:=ah hi;clear k own ne h hi hgc kt ka;refine callsD_of_wp func256 rfl ?_;simp only[ntmps256,List.size_toArray,List.length_cons,List.length_nil,Nat.reduceAdd,Nat.reduceSub,Array.replicate_succ,Array.replicate_zero,List.push_toArray,List.append_toArray,List.nil_append,List.cons_append];go_region;have hD:∀V:World,(V=w∨V=w.drew)→eZ (V.setCell ⟨g,i*2+1,none⟩ (ag cd.length)) B b m vs e0 e1 e2 (cd.set i (op,(cd.length:Int)))∧Kc b w (V.setCell ⟨g,i*2+1,none⟩ (ag cd.length)):=by
  intro V hV;have hbV:aJ w V:=by rcases hV with rfl|rfl<;>exact aG
  have hgb:g≠b:=Hne.out g rfl;have kV:=Hk.out.later hbV;have Xi:=H.out.on hbV;have alg:V.ownsRow B 110 2 (aZ g cd.length cap) cd.length (cd.flatMap kM):=by
   rcases hV with rfl|rfl
   ·exact jO.out
   ·exact jO.out.drew
  have hgm:m≠g:=fun e=>by
   rcases alg.2 with⟨h1,h2⟩|⟨g',cp,cur,h1,h2,h3,_⟩
   ·omega
   ·injection h1 with h1 _ _;injection h1 with h1;injection h1 with h1;subst h1;rw[←e,Xi.mp]at h3;cases h3
  have hlen:(cd.set i (op,(cd.length:Int))).length=cd.length:=av;have hp:=Od alg (j:=i*2+1) ae (ag cd.length);rw[Oe cd i op n _ Hi.out]at hp;refine⟨⟨⟨some ⟨g,0,none⟩,cap,by rw[hlen];exact kV.other (p:=⟨g,i*2+1,none⟩) hgb _,by rw[hlen];exact hp,by rw[hlen];exact Hne.out⟩,(dI _ _ _ _ hgm).trans Xi.mp,H.out.lb,H.out.lm⟩,?_⟩;refine(Kc.below hbV H.out.blt).trans ⟨rfl,rfl,rfl,av,fun q hq hqb hv=>dI _ _ _ _ (fun e=>hv _ (kV.cell 0) (by rw[e];rfl)),fun v' hv' q e=>.inl ⟨v',?_,e⟩⟩;rw[←hv'];exact(bg (a:=⟨b,0,none⟩) (dI _ _ _ _ (fun e=>hgb e.symm))).symm
 refine bodyPost_end (results_none rfl _ _ _) rfl ⟨rfl,?_⟩;obtain⟨h1,h2⟩:=hD w (.inl rfl);exact⟨h1.on (aK _ _).drew,h2.trans (Kc.below (aK _ _).drew h1.blt)⟩
def Sf (b:Nat) (w:World) (x:Nat):Prop:=x<w.heap.size∧x≠b∧∀v,w.cell? ⟨b,0,none⟩=some v→v.ownBlock≠some x
theorem Kc.sf (k:Kc b w w') (h:Sf b w x):Sf b w' x∧w'.heap[x]?=w.heap[x]?:=by
 refine⟨⟨bH h.1 k.size,h.2.1,fun v hv e=>?_⟩,k.block x h.1 h.2.1 h.2.2⟩;rcases k.own v hv x e with⟨v',h1,h2⟩|h1
 ·exact h.2.2 v' h1 h2
 ·have:=h.1;omega
theorem Kc.blk (k:Kc b w w') (h:Sf b w x) {L:List Value} (hb:aV w x L):aV w' x L:=hb.keep k.size (k.sf h).2
theorem eZ.jk {A V:World} (h:eZ A B b m vs e0 e1 e2 cd) (hb:aJ A V) (hx:A.heap.size≤x) (hxV:x<V.heap.size):Sf b V x:=
 ⟨hxV,by have:=h.blt;omega,fun v hv e=>by have:=h.own v (by rw[←World.cell?_of_block (a:=⟨b,0,none⟩) (hb.block b h.blt)];exact hv) x e;omega⟩
theorem G5 (h:eZ w B b m vs e0 e1 e2 cd) (hl:cd.length≤5000) (op:Int):
  Calls prog 247 #[aR b,ag op] w fun e w'=>∃Bt Ba,e=.returned (.func (.func 256) #[] #[aR Bt,aR Ba])∧eZ w' B b m vs e0 e1 e2 (cd++[(op,0)])∧Kc b w w'∧(aV w' Bt [aR b]∧Sf b w' Bt)∧(aV w' Ba [ag cd.length]∧Sf b w' Ba):=by have lD:=ah fun(V:World) (hV:aJ w V)=>fK (h.on hV) hl op 0;have H:=ah h;clear h;refine az ?_;intro hal bu;go_enter func247,ntmps247;go_wp2_with (first|((with_reducible refine(lD.out _ aG).mono ?_);rintro e w1 ⟨rfl,bW,ek⟩));go_ret;have aO:aJ w (w.alloc (.cells #[aR b] 284)):=eG;have k2:aV (w.alloc (.cells #[aR b] 284)) w.heap.size [aR b]:=aV.new _ _ _ _ rfl;have s2:=H.out.jk aO (aH _) av;have k3:=ek.blk s2 k2;have s3:=(ek.sf s2).1;have dW:aJ w1 (w1.alloc (.cells #[ag cd.length] 3)):=eG;have k4:aV (w1.alloc (.cells #[ag cd.length] 3)) w1.heap.size [ag cd.length]:=aV.new _ _ _ _ rfl;have s4:=bW.jk dW (aH _) av;have k5:=Kc.below (b:=b) dW bW.blt;exact⟨_,_,rfl,bW.on dW,((Kc.below aO H.out.blt).trans ek).trans k5,⟨k5.blk s3 k3,(k5.sf s3).1⟩,k4,s4⟩
end Pa
end Go.Proofs.YtohpdonnpbjfdaaGreatDoor
