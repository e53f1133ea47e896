/- What is shown: packages parser, typecheck. Conditions: as each theorem states. -/
import Derived.Deep.Cut
import Derived.Deep.CutRange
import Derived.Deep.DeepCutAuto
import Derived.Deep.RegionHeld3
import Derived.Test.YtohpdonnpbjfdaaGreatDoorY18
set_option maxHeartbeats 40000000
set_option maxRecDepth 100000
set_option linter.unusedVariables false
set_option linter.unusedSimpArgs false
open Go.Proofs.Tryz
namespace Go.Proofs.YtohpdonnpbjfdaaGreatDoor
theorem mP {P Q:Prop} (q:Q) (h:RowKit.Hid Q→P:=by first|(intro kk;(with_reducible refine(um.out _ aW _ _ cO).mono ?_);refine df ?_;intro w1 aO N1 dA bW eu eF;revert eF eu bW dA N1 aO w1;exact kk.out)|fail):P:=h (ah q)
theorem bQ {P:Prop} (h:P:=by simp only[List.mem_cons,List.not_mem_nil,or_false];omega):P:=h
theorem xG {P:Prop} (h:P:=by refine⟨⟨?_,?_,?_,?_⟩,?_,?_,?_,?_⟩<;>simp[au,aQ,Nd.kind,Nd.num,Nd.str,nJ,↓IntWalk.iteOmega]):P:=h
theorem iy {P:Prop} (h:P:=by simp[jK,gX,aQ,↓IntWalk.iteOmega]):P:=h
theorem mM {P Q:Prop} (q:Q) (h:Q→P:=by have he:=fun(V:World) (hV:Ch [] w V)=>hN V B p lv i j x L hL (hp.ch hV av) (aS hB hV.size) hx;intro kk;revert he;exact kk):P:=h q
theorem Ev {P Q:Prop} (q:Q) (h:RowKit.Hid Q→P:=by first|(intro kk;(with_reducible refine(um.out).mono ?_);refine df ?_;intro w2 dW N2 nM gX ku lI;revert lI ku gX nM N2 dW w2;exact kk.out)|fail):P:=h (ah q)
theorem O1 {P Q:Prop} (q:Q) (h:RowKit.Hid Q→P:=by first|(intro kk;(with_reducible refine(zO.out _ cO (HP.out.out.ch (l:=[]) aW av)).mono ?_);refine kU ?_;intro w3 pQ gK N3 vD jK vF sJ;revert sJ vF jK vD N3 gK pQ w3;exact kk.out)|fail):P:=h (ah q)
theorem fJ {P:Prop} (h:P:=by simp[aQ,↓IntWalk.iteOmega]):P:=h
theorem O7 {P:Prop} (h:P:=by simp[results,gY,go_sem,cZ,gX,c60,c61,c62,c63,aQ,↓IntWalk.iteOmega]):P:=h
theorem oN {P:Prop} (h:P:=by rw[hW];exact pG.ch (l:=[]) aW av):P:=h
theorem PE {P:Prop} (h:P:=by rw[hW,h7];exact aV.new _ _ _ _ rfl):P:=h
theorem Dy {P:Prop} (h:P:=by have:=HC.out.out;exact aW):P:=h
theorem ji {P:Prop} (h:P:=by exact aW):P:=h
theorem mO {P:Prop} (h:P:=by rw[hW];exact aW):P:=h
theorem rG {P Q:Prop} (q:Q) (h:Q→P:=by have ht:=fun(V:World) (i:Nat) (hV:w.heap.size≤V.heap.size) (h:dw V B p T i) (h0:(tk T i).kind≠0)=>ui h (aS hB hV) h0;intro kk;revert ht;exact kk):P:=h q
theorem rH {P Q:Prop} (q:Q) (h:Q→P:=by have k7:aV W t7 [ag y.kind,ag y.num,.string y.str,.slice a1 n1 m1]:=PE;intro kk;revert k7;exact kk):P:=h q
theorem rJ {P:Prop} (h:P:=by
 replace hx:=bind_some hx;obtain⟨⟨z,k⟩,nD,hx⟩:=hx;have h0:=lW hi;rw[hi]at hs;have htk:=fun(V:World) (hV:w.heap.size≤V.heap.size) (h:dw V B p T i')=>uo.out V i' hV h (by rw[←ht];exact h0);rw[←ht]at htk;have acb:=ah fun(V:World) (hV:Ch [p] w V) (h:dw V B p T (i'+1))=>yR.out V (i'+1) k z hV h nD;have hkk:=NN.out _ _ _ nD;have c70:=k7.out.cell 0;have c71:=k7.out.cell 1;have c72:=k7.out.cell 2;have c73:=k7.out.cell 3;have f7:=k7.out.free;simp only[List.getElem?_cons_zero,List.getElem?_cons_succ]at c70 c71 c72 c73;have hfd:=fun W=>NT t.kind t.text t.pos t.val 0 W;have HC:=ah hC;have HP:=ah hP;have Hx:=ah hx;clear hi nD ht hx hP hC;have um:=ah hs;have zO:=ah htk;clear hs htk;go_upto_region 4 with(first|(refine Ev ?_;intro w2 dW N2 nM gX ku lI)|(refine O1 ?_;intro w3 pQ gK N3 vD jK vF sJ));have JN:Ch [p] w w3:=Dy;have HC3:=ah JN;clear JN;go_region_with (first|((with_reducible refine(acb.out _ HC3.out.drew (pQ.ch (l:=[]) aW av)).mono ?_);refine jD ?_;intro w4 a4 n4 m4 yU Ns lY N4 BG nJ Jl Im));all_goals
  go_wp2
  have hC4:Ch [p] wr w4:=ji
  have hP4:dw (((((w4.setCell ⟨t7,0,none⟩ (ag 14)).setCell ⟨t7,1,none⟩ (ag 0)).setCell ⟨t7,2,none⟩ (.string t.text)).setCell ⟨t7,3,none⟩ (aZ w4.heap.size 2 2)).alloc (.cells #[ag l.kind,ag l.num,.string l.str,.slice a nn mm,ag z.kind,ag z.num,.string z.str,.slice a4 n4 m4] 183)) B p T k:=Ns.ch (l:=[t7]) aW bP
  have asu:=hP4.lt
  have nx4:=hP4.iV
  refine⟨⟨.mk 14 0 t.text [l,z],k,f',some ⟨w4.heap.size,0,none⟩,2,2,Hx,ah ?_,ah ?_,ah ?_,ah hP4,ah ?_⟩,?_⟩
  ·exact(((((hC4.bk k7.out bQ).put 0 _).put 1 _).put 2 _).put 3 _).alloc _
  ·exact(((((hC4.bk k6.out bQ).other aX _).other aX _).other aX _).other aX _).alloc _
  ·exact nH.two l z xG cO bQ (hK.out.to (M:=[p,t7]) aW cO bP bP) (yU.to (M:=[p,t7]) aW cO bP bP)
  ·have:=HC.out.out
   clear hC4
   exact aW
  ·rw[yT,nx4]
   omega):P:=h
theorem rM {P:Prop} (h:P:=by rw[hi]at hs;have c70:=k7.out.cell 0;have c71:=k7.out.cell 1;have c72:=k7.out.cell 2;have c73:=k7.out.cell 3;have c60:=k6.out.cell 0;have c61:=k6.out.cell 1;have c62:=k6.out.cell 2;have c63:=k6.out.cell 3;simp only[List.getElem?_cons_zero,List.getElem?_cons_succ]at c70 c71 c72 c73 c60 c61 c62 c63;have f6:=k6.out.free;have HC:=ah hC;have HP:=ah hP;clear hi ht hP hC;have um:=ah hs;clear hs;go_wp2_with (first|(refine Ev ?_;intro w2 dW N2 nM gX ku lI));have hC0:=HC.out.out;have cZ:=au;refine bodyPost_ret (v:=.agg #[ag l.kind,ag l.num,.string l.str,.slice a nn mm]) O7 rfl ⟨_,_,_,rfl,hK.out.to (M:=[p,t6]) aW cO bP av,(HP.out.out.ch (l:=[]) (EP dW) av).ch (l:=[t6]) aW bP,by exact aW⟩):P:=h
theorem rF {P:Prop} (h:P:=by go_wp2_with (first|((with_reducible refine(lD.out _ aW).mono ?_);refine jD ?_;intro w1 a1 n1 m1 ek pG aO N1 dA bW eu eF));have cZ:=au;refine bodyPost_ret (v:=.agg #[ag x.kind,ag x.num,.string x.str,.slice a1 n1 m1]) mQ rfl ⟨_,_,_,rfl,ek.to (M:=[p,w.heap.size]) aW cO bP av,pG.ch (l:=[w.heap.size]) aW bP,by exact aW⟩):P:=h
theorem rO {P:Prop} (h:P:=by have cZ:=au;refine bodyPost_ret (v:=.agg #[ag x.kind,ag x.num,.string x.str,.slice a1 n1 m1]) mQ rfl ⟨_,_,_,rfl,ek.to (M:=[p,w.heap.size+1+1]) aW cO bP av,pG.ch (l:=[w.heap.size+1+1]) aW bP,by exact aW⟩):P:=h
theorem fZ {P Q:Prop} (q:Q) (h:RowKit.Hid Q→P:=by first|(intro kk;(with_reducible refine(zu.out _ aW).mono ?_);refine df ?_;intro w1 aO N1 dA bW eu eF;revert eF eu bW dA N1 aO w1;exact kk.out)|fail):P:=h (ah q)
theorem dP {P:Prop} (h:P:=by rw[toList_data];rfl):P:=h
theorem xC {P:Prop} (h:P:=by simp[results,results271,go_sem,cZ,bW,sO,aQ,↓IntWalk.iteOmega]):P:=h
theorem rP {P:Prop} (h:P:=by simp[nJ,aQ,↓IntWalk.iteOmega]):P:=h
namespace Pa
open Go.RowKit aN Qt Bk
attribute [local go_sem] Oper.semAt_some
variable {w a b V w' c:World} {B p i cap:Nat} {T:List Tk} {l:List Nat}
structure Ch (l:List Nat) (w w':World):Prop where
 os:w'.os=w.os
 tape:w'.tape=w.tape
 output:w'.output=w.output
 size:w.heap.size≤w'.heap.size
 block:∀k,k<w.heap.size→k∉l→w'.heap[k]?=w.heap[k]?
theorem Ch.refl (l:List Nat) (w:World):Ch l w w:=⟨rfl,rfl,rfl,aH _,fun _ _ _=>rfl⟩
theorem Ch.trans {l':List Nat} (h:Ch l a b) (k:Ch l' b c) (hl:∀x∈l',x∈l∨a.heap.size≤x):Ch l a c:=
 ⟨k.os.trans h.os,k.tape.trans h.tape,k.output.trans h.output,aS h.size k.size,fun x hx hn=>(k.block x (bH hx h.size) (fun hm=>by rcases hl x hm with h1|h1;exact hn h1;omega)).trans (h.block x hx hn)⟩
theorem Ch.of_below (h:Ch l a b) (k:Below B b c) (hB:a.heap.size≤B):Ch l a c:=
 ⟨k.os.trans h.os,k.tape.trans h.tape,k.output.trans h.output,aS h.size k.size,fun x hx hn=>(k.block x ae).trans (h.block x hx hn)⟩
theorem Ch.drew (h:Ch l a b):Ch l a b.drew:=⟨h.os,h.tape,h.output,h.size,h.block⟩
theorem Ch.alloc (h:Ch l a b) (o:Obj):Ch l a (b.alloc o):=
 ⟨h.os,h.tape,h.output,by have:=h.size;simp;omega,fun x hx hn=>(gV _ _ _ (bH hx h.size)).trans (h.block x hx hn)⟩
theorem Ch.set (h:Ch l a b) {p:Addr} (hp:p.block∈l∨a.heap.size≤p.block) (v:Value):Ch l a (b.setCell p v):=
 ⟨h.os,h.tape,h.output,by have:=h.size;simpa[World.setCell]using this,fun x hx hn=>(dI _ _ _ _ (fun e=>by subst e;rcases hp with h1|h1;exact hn h1;omega)).trans (h.block x hx hn)⟩
theorem Ch.bk (h:Ch l w w') {b:Nat} {L:List Value} (k:aV w b L) (hb:b∉l):aV w' b L:=k.keep h.size (h.block b k.lt hb)
theorem Ch.cell (h:Ch l w w') {b o:Nat} {v:Value} (hb:b∉l) (e:w.cell? ⟨b,o,none⟩=some v):w'.cell? ⟨b,o,none⟩=some v:=
 (bg (a:=⟨b,o,none⟩) (h.block b (aU _ _ e) hb)).trans e
def KY (t:Tk):List Value:=[ag t.kind,.string t.text,ag t.pos,ag t.val,ag 0]
def aqd (w:World) (q:Nat) (T:List Tk):Prop:=∀k,k<T.length→∀r,r<5→w.cell? ⟨q,k*5+r,none⟩=(KY (tk T k))[r]?
structure TOk (T:List Tk):Prop where
 ok:∀k,k<T.length→(tk T k).kind≠6
 last:∀k,k<T.length→(tk T k).kind≠0→k+1<T.length
 len:T.length≤3000
structure dw (w:World) (B p:Nat) (T:List Tk) (i:Nat):Prop where
 ex:∃s rm q cap a0 c0,p<B∧q<B∧q≠p∧aV w p [.string s,rm,aZ q T.length cap,ag i,ag a0,ag c0]∧aqd w q T
 lt:i<T.length
 ok:TOk T
theorem dw.ch (h:dw w B p T i) (hc:Ch l w w') (hl:∀x∈l,B≤x):dw w' B p T i:=by
 obtain⟨s,rm,q,cap,a0,c0,h1,h2,h3,h4,h5⟩:=h.ex;refine⟨⟨s,rm,q,cap,a0,c0,h1,h2,h3,hc.bk h4 (fun hm=>by have:=hl _ hm;omega),fun k hk r hr=>?_⟩,h.lt,h.ok⟩;have hx:=h5 k hk r hr;have:((KY (tk T k))[r]?).isSome:=by rw[List.getElem?_eq_getElem (by simpa[KY]using hr)];rfl
 obtain⟨v,hv⟩:=Option.isSome_iff_exists.1 this;rw[hv]at hx⊢;exact hc.cell (fun hm=>by have:=hl _ hm;omega) hx
theorem dw.E_ (h:dw w B p T i):p<B:=by obtain⟨s,rm,q,cap,a0,c0,h1,_⟩:=h.ex;exact h1
theorem dw.Iu (h:dw w B p T i):p<w.heap.size:=by obtain⟨s,rm,q,cap,a0,c0,h1,h2,h3,h4,h5⟩:=h.ex;exact h4.lt
def yH (t:Tk):Value:=.agg #[ag t.kind,.string t.text,ag t.pos,ag t.val,ag 0]
theorem uh (h:dw w B p T i):
  Calls prog 188 #[aR p] w fun e w'=>e=.returned (yH (tk T i))∧aJ w w':=by
 obtain⟨s,rm,q,cap,a0,c0,h1,h2,h3,h4,h5⟩:=h.ex;have hi:=h.lt;have hlen:=h.ok.len;have Vq:=h.ok.ok i hi;have cp:=h4.cell;have q0:=h5 i hi 0 ae;have q1:=h5 i hi 1 ae;have q2:=h5 i hi 2 ae;have q3:=h5 i hi 3 ae;have q4:=h5 i hi 4 ae;simp only[KY,List.getElem?_cons_zero,List.getElem?_cons_succ,Nat.add_zero]at q0 q1 q2 q3 q4;have hq:=aU _ _ q0;simp only at hq;have hlt:=h4.lt;have hneq:((tk T i).kind==6)=false:=by simpa using Vq
 have hiI:(i:Int)<(T.length:Int):=ae;unfold yH;generalize tk T i=t at*;clear h h4 h5;have gY:=results188;go_enter func188,ntmps188;go_upto_region 1 with(fail);refine fF 10 3 #[ag 0,.string ⟨#[]⟩,ag 0,ag 0,ag 0] 273 rfl aL aL (fun o ho ev w=>by have ho':=bD ho;rw[←ho'];exact rfl) fun NL hL=>?_;obtain⟨dU,dV,hlf⟩:=hL;(try simp only[bf]at dU);simp only[dS];repeat((refine kI (fun K hK=>?_);go_simp;(repeat(simp only[↓IntWalk.iteOmega];(try go_simp))));first|(refine hK _ ?_;clear hK K)|(apply Exists.intro;refine⟨fun x=>?_,hK _ ?_⟩;(first|fail);clear hK K))
 (refine jq ?_;intro b1 w1 aO ek uX lU zn;(try simp only[bf]at lU);clear dV hlf dU NL;obtain⟨N1,dA,bW,eu,eF⟩:=eB aO;(try simp only[bf]at dA));have cZ:=au;simp only[Act.put,dH];go_wp2;refine bodyPost_ret (v:=.agg #[ag t.kind,.string t.text,ag t.pos,ag t.val,ag 0]) mQ rfl ⟨rfl,?_⟩;exact aG
theorem Dr (a:ByteArray):∀(n i:Nat) (r:List UInt8),a.size-i=n→ByteArray.toList.loop a i r=r.reverse++a.data.toList.drop i
 |0,i,r,h=>by
  rw[ByteArray.toList.loop]
  have hs:a.data.toList.length=a.size:=by rw[Array.length_toList];rfl
  rw[if_neg ae,List.drop_eq_nil_of_le ae,List.append_nil]
 |n+1,i,r,h=>by
  rw[ByteArray.toList.loop]
  have hs:a.data.toList.length=a.size:=by rw[Array.length_toList];rfl
  have hi:i<a.data.toList.length:=ae
  have hi':i<a.data.size:=by simpa using hi
  rw[if_pos ae,Dr a n (i+1) _ ae,List.drop_eq_getElem_cons hi]
  simp[ByteArray.get!,getElem!_pos a.data i hi']
theorem toList_data (a:ByteArray):a.toList=a.data.toList:=by unfold ByteArray.toList;rw[Dr a a.size 0 [] ae];rfl
theorem aec (a b:ByteArray):(a.toList==b.toList)=eH a b:=by rw[toList_data,toList_data];rfl
theorem qz (a b:ByteArray):eH a b=eH b a:=by rw[Bool.eq_iff_iff,Ub,Ub];exact eq_comm
def Strs (w:World) (b:Nat) (l:List ByteArray):Prop:=∀k,k<l.length→w.cell? ⟨b,k,none⟩=some (.string (l.getD k eS))
theorem VH {b:Nat} {l:List ByteArray} (h:Strs w b l) (hl:l.length≤100) (t:ByteArray):
  Calls prog 259 #[aZ b l.length cap,.string t] w fun e w'=>∃i:Int,e=.returned (ag i)∧(decide (0≤i)=l.any (fun x=>eH x t))∧w'=w:=by
 obtain⟨n,hn⟩:∃n,n=l.length:=⟨_,rfl⟩
 have Hn:=ah hn;have H:=ah h;rw[←hn]at hl⊢;clear hn h;go_enter func259,ntmps259;go_wp2;go_loopw [8] (fun i wr=>∃k:Nat,k≤n∧i=ag k∧wr=w∧(l.take k).any (fun x=>eH x t)=false) (fun i _=>n-(intOf i).toNat);case atStart=>exact⟨0,Nat.zero_le _,rfl,rfl,rfl⟩
 case round=>
  obtain⟨k,hk,rfl,rfl,hno⟩:=hrel;by_cases hlt:k<n
  ·have pg:(k:Int)<(n:Int):=ae;have ck:=H.out k gQ;generalize hx:l.getD k eS=x at*;have hlen:k<l.length:=gQ;have sS:(l.take (k+1)).any (fun x=>eH x t)=eH x t:=by
    rw[List.take_add_one,List.any_append,hno,List.getElem?_eq_getElem hlen];have:l[k]=x:=by rw[←hx,List.getD_eq_getElem?_getD,List.getElem?_eq_getElem hlen];rfl
    simp[this]
   cases hs:eH x t with
   |true=>
    have hte:(t.toList==x.toList)=true:=by rw[aec,qz];exact hs
    have hall:l.any (fun x=>eH x t)=true:=List.any_eq_true.2 ⟨x,by rw[←hx,List.getD_eq_getElem?_getD,List.getElem?_eq_getElem hlen];exact List.getElem_mem hlen,hs⟩;have Rw:=ah hall;clear hs hx sS hall hno;go_wp2;go_ret;exact⟨(k:Int),rfl,by rw[Rw.out];simp,rfl⟩
   |false=>
    have hte:(t.toList==x.toList)=false:=by rw[aec,qz];exact hs
    rw[hs]at sS;have Gp:=ah sS;clear hs hx sS hno;go_wp2;exact⟨⟨k+1,ae,av,trivial,Gp.out⟩,by simp[intOf];omega⟩
  ·obtain rfl:k=n:=ae;have hnl:¬((k:Int)<(k:Int)):=ae;have hall:l.any (fun x=>eH x t)=false:=by have:=hno;rwa[Hn.out,List.take_length]at this
   have Rw:=ah hall;clear hall hno;go_wp2;go_ret;exact⟨-1,rfl,by rw[Rw.out];rfl,rfl⟩
theorem KZ {b:Nat} {l:List ByteArray} (h:Strs w b l) (hl:l.length≤100) (t:ByteArray):
  Calls prog 250 #[aZ b l.length cap,.string t] w fun e w'=>e=.returned (.bool (l.any (fun x=>eH x t)))∧w'=w:=by have hx:=VH (cap:=cap) h hl t;generalize l.any (fun x=>eH x t)=r at*;have Hx:=ah hx;clear hx h;go_enter func250,ntmps250;go_wp2_with (first|((with_reducible refine Hx.out.mono ?_);rintro e w1 ⟨i,rfl,hi,rfl⟩));go_ret;exact⟨by rw[←hi];rfl,rfl⟩
theorem GM {b:Nat} {l:List ByteArray} (h:dw w B p T i) (hB:B≤w.heap.size) (hs:Strs w b l) (hb:b<w.heap.size) (hl:l.length≤100):
  Calls prog 243 #[aR p,aZ b l.length cap] w fun e w'=>e=.returned (.bool (iQ (tk T i) l))∧aJ w w':=by
 have hp:=uh h;have uO:=ah fun(V:World) (hV:aJ w V)=>KZ (w:=V) (cap:=cap) (fun k hk=>ai hV (hs k hk)) hl (tk T i).text;unfold yH at hp;unfold iQ;generalize tk T i=t at*;generalize l.any (fun x=>eH x t.text)=r at*;have LX:=ah hp;clear hp;clear h hs;refine az ?_;intro hal bu;go_enter func243,ntmps243;go_wp2_with (first|((with_reducible refine(LX.out).mono ?_);refine df ?_;intro w1 aO N1 dA bW eu eF)|((with_reducible refine(uO.out _ aG).mono ?_);rintro e w2 ⟨rfl,rfl⟩));all_goals
  go_ret
  exact⟨by simp_all,by exact aG⟩
theorem dw.next (h:dw w B p T i) (hi:i+1<T.length):dw (w.setCell ⟨p,3,none⟩ (ag ((i:Int)+1))) B p T (i+1):=by
 obtain⟨s,rm,q,cap,a0,c0,h1,h2,h3,h4,h5⟩:=h.ex;refine⟨⟨s,rm,q,cap,a0,c0,h1,h2,h3,?_,fun k hk r hr=>?_⟩,hi,h.ok⟩
 ·have:=h4.put 3 (ag ((i:Int)+1));simpa using this
 ·rw[World.cell?_of_block (a:=⟨q,k*5+r,none⟩) (Below.heap_setCell _ _ _ _ h3)];exact h5 k hk r hr
theorem ui (h:dw w B p T i) (hB:B≤w.heap.size) (h0:(tk T i).kind≠0):
  Calls prog 251 #[aR p] w fun e w'=>e=.returned (yH (tk T i))∧dw w' B p T (i+1)∧Ch [p] w w':=by
 have LX:=ah fun(V:World) (hV:Ch [] w V)=>uh (h.ch hV av);have hlast:=h.ok.last i h.lt h0;have hlen:=h.ok.len;have yP:=h.E_;have pI:=ah fun(V:World) (hV:Ch [] w V)=>(h.ch hV av).next hlast;obtain⟨s,rm,q,cap,a0,c0,h1,h2,h3,h4,h5⟩:=h.ex;have⟨cp,fp,hlt⟩:=h4;clear h4 h5 h;unfold yH at*;generalize tk T i=t at*;refine az ?_;intro hal bu;have gY:=results251;go_enter func251,ntmps251;go_wp2_with (first|((with_reducible refine(LX.out _ aW).mono ?_);refine df ?_;intro w1 aO N1 dA bW eu eF));have cZ:=au;refine bodyPost_ret (v:=.agg #[ag t.kind,.string t.text,ag t.pos,ag t.val,ag 0]) mQ rfl ⟨rfl,?_,?_⟩
 ·have:=pI.out (w1.alloc (.cells #[ag t.kind,.string t.text,ag t.pos,ag t.val,ag 0] 273)) aW;refine this.ch (l:=[w.heap.size]) aW (by simpa using hB)
 ·exact aW
theorem lW {t:Tk} {l:List ByteArray} (h:iQ t l=true):t.kind≠0:=by unfold iQ at h;simp only[Bool.and_eq_true,bne_iff_ne,ne_eq]at h;exact h.1
theorem YY (w:World) (l:List ByteArray) (t:TypeId):Strs (w.alloc (.cells (l.map Value.string).toArray t)) w.heap.size l:=by intro k hk;rw[World.cell?_alloc_new];simp[List.getD_eq_getElem?_getD,List.getElem?_eq_getElem hk]
theorem K5 (h:dw w B p T i) (hB:B≤w.heap.size) (hV:Ch [] w V) (l:List ByteArray) (hl:l.length≤100) (t:TypeId):
  Calls prog 243 #[aR p,aZ V.heap.size l.length l.length] (V.alloc (.cells (l.map Value.string).toArray t)) fun e w'=>e=.returned (.bool (iQ (tk T i) l))∧aJ V w':=by have hs:=hV.size;refine(GM (h.ch (hV.alloc _) av) bU (YY V l t) av hl).mono ?_;rintro e w' ⟨h1,h2⟩;exact⟨h1,((aK _ _).alloc (aH _) _).trans (h2.mono av)⟩
theorem Xg (h:dw w B p T i) (hB:B≤w.heap.size) (hV:Ch [] w V) (a:ByteArray) (t:TypeId) (g:Nat) (hg:g=V.heap.size):
  Calls prog 243 #[aR p,aZ g 1 1] (V.alloc (.cells #[.string a] t)) fun e w'=>e=.returned (.bool (iQ (tk T i) [a]))∧aJ V w':=by subst hg;exact K5 h hB hV [a] av t
theorem is3 (h:dw w B p T i) (hB:B≤w.heap.size) (hV:Ch [] w V) (a b c:ByteArray) (t:TypeId) (g:Nat) (hg:g=V.heap.size):
  Calls prog 243 #[aR p,aZ g 3 3] (V.alloc (.cells #[.string a,.string b,.string c] t)) fun e w'=>e=.returned (.bool (iQ (tk T i) [a,b,c]))∧aJ V w':=by subst hg;exact K5 h hB hV [a,b,c] av t
theorem is6 (h:dw w B p T i) (hB:B≤w.heap.size) (hV:Ch [] w V) (a b c d e f:ByteArray) (t:TypeId) (g:Nat) (hg:g=V.heap.size):
  Calls prog 243 #[aR p,aZ g 6 6] (V.alloc (.cells #[.string a,.string b,.string c,.string d,.string e,.string f] t)) fun e' w'=>e'=.returned (.bool (iQ (tk T i) [a,b,c,d,e,f]))∧aJ V w':=by subst hg;exact K5 h hB hV [a,b,c,d,e,f] av t
theorem jZ {a:ByteArray} (h:dw w B p T i) (hB:B≤w.heap.size) (hi:iQ (tk T i) [a]=true):
  Calls prog 189 #[aR p,.string a] w fun e w'=>e=.returned (.tuple #[])∧dw w' B p T (i+1)∧Ch [p] w w':=by have hs:=fun(V:World) (hV:Ch [] w V) (t:TypeId) (g:Nat) (hg:g=V.heap.size)=>Xg h hB hV a t g hg;rw[hi]at hs;have hlast:=h.ok.last i h.lt (lW hi);have hlen:=h.ok.len;have yP:=h.E_;have pI:=ah fun(V:World) (hV:Ch [] w V)=>(h.ch hV av).next hlast;obtain⟨s,rm,q,cap,a0,c0,h1,h2,h3,h4,h5⟩:=h.ex;have⟨cp,fp,hlt⟩:=h4;clear h4 h5 h hi;have um:=ah hs;clear hs;refine az ?_;intro hal bu;go_enter func189,ntmps189;go_wp2_with (first|(refine mP ?_;intro w1 aO N1 dA bW eu eF));go_end0;exact⟨rfl,pI.out w1 aW,by exact aW⟩
theorem xB {a:ByteArray} (h:dw w B p T i) (hB:B≤w.heap.size) (hi:iQ (tk T i) [a]=true) {lv:Int} (hlv:lv≤20):
  Calls prog 244 #[aR p,.string a,ag lv] w fun e w'=>e=.returned (.tuple #[])∧dw w' B p T (i+1)∧Ch [p] w w':=by have hs:=fun(V:World) (hV:Ch [] w V) (t:TypeId) (g:Nat) (hg:g=V.heap.size)=>Xg h hB hV a t g hg;have lD:=ah fun(V:World) (hV:Ch [] w V)=>jZ (h.ch hV av) (aS hB hV.size) hi;rw[hi]at hs;have yP:=h.E_;have ayi:¬((20:Int)<lv):=ae;clear h hi;have um:=ah hs;clear hs;refine az ?_;intro hal bu;go_enter func244,ntmps244;go_wp2_with (first|(refine mP ?_;intro w1 aO N1 dA bW eu eF)|((with_reducible refine(lD.out _ aW).mono ?_);rintro e w2 ⟨rfl,tH,dW⟩));go_end0;exact⟨rfl,tH,by exact aW⟩
variable {w w':World} {n cap B B' g p n' cap':Nat} {a a':Option Addr} {l:List Nd} {L M:List Nat} {α:Type} {X:Nat→Prop} {o:Option α}
def Nd.num:Nd→Int|.mk _ n _ _=>n
def Nd.str:Nd→ByteArray|.mk _ _ s _=>s
def Nd.kids:Nd→List Nd|.mk _ _ _ l=>l
theorem YW (h:Ch [p] w w'):∃N,N=w.heap.size∧(∀b o,w'.cell? ⟨b,o,none⟩=if b<N∧b≠p then w.cell? ⟨b,o,none⟩else Ti w' b o)∧(∀b o,w'.frozen? ⟨b,o,none⟩=if b<N∧b≠p then w.frozen? ⟨b,o,none⟩else XA w' b o)∧N≤w'.heap.size:=by
 refine⟨_,rfl,fun b o=>?_,fun b o=>?_,h.size⟩
 ·split
  ·rename_i hh;exact bg (a:=⟨b,o,none⟩) (h.block b hh.1 (by simpa using hh.2))
  ·rfl
 ·split
  ·rename_i hh;exact World.frozen?_of_block (a:=⟨b,o,none⟩) (h.block b hh.1 (by simpa using hh.2))
  ·rfl
inductive ig (w:World) (X:Nat→Prop):List Nd→Option Addr→Nat→Nat→Prop
 |nil:ig w X [] none 0 0
 |row (l:List Nd) (b n cap:Nat) (f:Nat→Option Addr×Nat×Nat) (hn:n=l.length) (h1:1≤n) (hX:X b) (hb:b<w.heap.size) (hc:n≤cap)
   (cells:∀i,i<n→w.cell? ⟨b,i*4,none⟩=some (ag (l.getD i nd0).kind)∧w.cell? ⟨b,i*4+1,none⟩=some (ag (l.getD i nd0).num)∧w.cell? ⟨b,i*4+2,none⟩=some (.string (l.getD i nd0).str)∧w.cell? ⟨b,i*4+3,none⟩=some (.slice (f i).1 (f i).2.1 (f i).2.2))
   (sub:∀i,i<n→ig w X (l.getD i nd0).kids (f i).1 (f i).2.1 (f i).2.2):ig w X l (some ⟨b,0,none⟩) n cap
theorem ig.ch {Y:Nat→Prop} (h:ig w X l a n cap) (hc:Ch L w w') (hL:∀b,X b→b<w.heap.size→b∉L∧Y b):ig w' Y l a n cap:=by
 induction h with
 |nil=>exact .nil
 |row l b n cap f hn h1 hX hb hcap cells sub ih=>obtain⟨aO,dW⟩:=hL b hX hb;refine .row l b n cap f hn h1 dW (bH hb hc.size) hcap (fun i hi=>?_) ih;obtain⟨c0,c1,c2,c3⟩:=cells i hi;exact⟨hc.cell aO c0,hc.cell aO c1,hc.cell aO c2,hc.cell aO c3⟩
def nH (w:World) (B:Nat) (L:List Nat) (l:List Nd) (a:Option Addr) (n cap:Nat):Prop:=ig w (fun b=>B≤b∧b∉L) l a n cap
theorem nH.to {L':List Nat} (h:nH w B L l a n cap) (hc:Ch M w w') (hB:B'≤B) (hM:∀x∈M,x<B∨x∈L∨w.heap.size≤x) (hL:∀x∈L',x<B∨x∈L∨w.heap.size≤x):nH w' B' L' l a n cap:=
 ig.ch h hc fun b hb hw=>⟨fun hm=>by rcases hM b hm with h1|h1|h1;omega;exact hb.2 h1;omega,ae,fun hm=>by rcases hL b hm with h1|h1|h1;omega;exact hb.2 h1;omega⟩
theorem NU (x d:α) (i:Nat) (h:i<1):[x].getD i d=x:=by obtain rfl:i=0:=ae;rfl
theorem ab0 (x:Nd) (h:ig w X x.kids a n cap) (hX:X w.heap.size) (t:TypeId):
  ig (w.alloc (.cells #[ag x.kind,ag x.num,.string x.str,.slice a n cap] t)) X [x] (some ⟨w.heap.size,0,none⟩) 1 1:=by
 have hc:Ch [] w (w.alloc (.cells #[ag x.kind,ag x.num,.string x.str,.slice a n cap] t)):=(Ch.refl _ _).alloc _;refine .row _ _ _ _ (fun _=>(a,n,cap)) rfl (aH _) hX av (aH _) (fun i hi=>?_) (fun i hi=>?_)
 ·obtain rfl:i=0:=ae;simp only[World.cell?_alloc_new];exact⟨rfl,rfl,rfl,rfl⟩
 ·rw[NU x nd0 i hi];exact ig.ch h hc fun b hb _=>⟨av,hb⟩
def yI (w:World) (B p:Nat) (T:List Tk) (x:Nd) (j:Nat) (e:Ending) (w':World):Prop:=
 ∃a n cap,e=.returned (.agg #[ag x.kind,ag x.num,.string x.str,.slice a n cap])∧nH w' w.heap.size [] x.kids a n cap∧dw w' B p T j∧Ch [p] w w'
def dB (f:FuncId) (T:List Tk) (n:Nat) (wh:Wh):Prop:=∀(w:World) (B p lv i j:Nat) (x:Nd) (L:Int),L=lv→dw w B p T i→B≤w.heap.size→ex T n wh lv i=some (x,j)→Calls prog f #[aR p,ag L] w (yI w B p T x j)
theorem NT (a:Int) (s:ByteArray) (b c d:Int) (W:World):Sem.run prog (Instr.field 273 (.agg #[ag a,.string s,ag b,ag c,ag d]) 1) W=.ok (.string s) W:=aL
theorem YX (a:Int) (s:ByteArray) (b c d:Int) (W:World):Sem.run prog (Instr.field 273 (.agg #[ag a,.string s,ag b,ag c,ag d]) 0) W=.ok (ag a) W:=aL
theorem Ru {i:Nat} (h:dw w B p T i) (hB:B≤w.heap.size) (hi:iQ (tk T i) [⟨#[59]⟩]=true) (k n:Int) (s:ByteArray) (a:Option Addr) (m cap:Nat):
  Calls prog 252 #[aR p,.agg #[ag k,ag n,.string s,.slice a m cap]] w fun e w'=>e=.returned (.agg #[ag k,ag n,.string s,.slice a m cap])∧dw w' B p T (i+1)∧Ch [p] w w':=by have lD:=ah fun(V:World) (hV:Ch [] w V)=>jZ (h.ch hV av) (aS hB hV.size) hi;have yP:=h.Iu;have I9:=h.E_;clear h hi;refine az ?_;intro hal bu;have gY:=results252;go_enter func252,ntmps252;go_wp2_with (first|((with_reducible refine(lD.out _ aW).mono ?_);refine kU ?_;intro w1 pG aO N1 dA bW eu eF));have cZ:=au;refine bodyPost_ret (v:=.agg #[ag k,ag n,.string s,.slice a m cap]) mQ rfl ⟨rfl,pG.ch (l:=[w.heap.size+1]) aW bU,?_⟩;exact aW
theorem bind_some {β:Type} {f:α→Option β} {y:β} (h:o.bind f=some y):∃x,o=some x∧f x=some y:=KX.1 h
theorem fe {c:Prop} [Decidable c] {y:α} (h:(if c then o else none)=some y):c∧o=some y:=by
 split at h
 ·exact⟨by assumption,h⟩
 ·cases h
theorem nH.end (h:nH w B [] l a n cap) (hc:Ch M w w') (hM:∀x∈M,x<B) (hB:B'≤B):nH w' B' [] l a n cap:=
 h.to hc hB (fun x hx=>.inl (hM x hx)) av
theorem nH.one {wa:World} (x:Nd) {t:TypeId} (h:nH wa B [] x.kids a n cap) (hc:Ch M wa w) (hc':Ch M (w.alloc (.cells #[ag x.kind,ag x.num,.string x.str,.slice a n cap] t)) w')
  (hM:∀z∈M,z<B∨wa.heap.size≤z) (hMw:∀z∈M,z<w.heap.size) (hB:B'≤B) (hw:B'≤w.heap.size):nH w' B' [] [x] (some ⟨w.heap.size,0,none⟩) 1 1:=by have h1:nH w B' M x.kids a n cap:=h.to hc hB (fun z hz=>by have:=hM z hz;omega) (fun z hz=>by have:=hM z hz;omega);have h2:nH _ B' M _ _ _ _:=ab0 x h1 ⟨hw,fun hm=>by have:=hMw _ hm;omega⟩ t;exact h2.to hc' (aH _) (fun z hz=>.inr (.inl hz)) av
theorem nH.two (x y:Nd)
  (c:(w.cell? ⟨g,0,none⟩=some (ag x.kind)∧w.cell? ⟨g,1,none⟩=some (ag x.num)∧w.cell? ⟨g,2,none⟩=some (.string x.str)∧w.cell? ⟨g,3,none⟩=some (.slice a n cap))∧w.cell? ⟨g,4,none⟩=some (ag y.kind)∧w.cell? ⟨g,5,none⟩=some (ag y.num)∧w.cell? ⟨g,6,none⟩=some (.string y.str)∧w.cell? ⟨g,7,none⟩=some (.slice a' n' cap'))
  (hB:B≤g) (hL:g∉L) (h:nH w B L x.kids a n cap) (k:nH w B L y.kids a' n' cap'):nH w B L [x,y] (some ⟨g,0,none⟩) 2 2:=by
 refine .row _ _ _ _ (fun i=>if i=0 then(a,n,cap)else(a',n',cap')) rfl ae ⟨hB,hL⟩ (aU _ _ c.1.1) (aH _) (fun i hi=>?_) (fun i hi=>?_)
 ·have hi:i<2:=hi;obtain rfl|rfl:i=0∨i=1:=ae
  ·exact c.1
  ·exact c.2
 ·have hi:i<2:=hi;obtain rfl|rfl:i=0∨i=1:=ae
  ·exact h
  ·exact k
theorem nH.three (x y z:Nd) {a'':Option Addr} {n'' Ua:Nat}
  (c:(w.cell? ⟨g,0,none⟩=some (ag x.kind)∧w.cell? ⟨g,1,none⟩=some (ag x.num)∧w.cell? ⟨g,2,none⟩=some (.string x.str)∧w.cell? ⟨g,3,none⟩=some (.slice a n cap))∧(w.cell? ⟨g,4,none⟩=some (ag y.kind)∧w.cell? ⟨g,5,none⟩=some (ag y.num)∧w.cell? ⟨g,6,none⟩=some (.string y.str)∧w.cell? ⟨g,7,none⟩=some (.slice a' n' cap'))∧w.cell? ⟨g,8,none⟩=some (ag z.kind)∧w.cell? ⟨g,9,none⟩=some (ag z.num)∧w.cell? ⟨g,10,none⟩=some (.string z.str)∧w.cell? ⟨g,11,none⟩=some (.slice a'' n'' Ua))
  (hB:B≤g) (h:nH w B [] x.kids a n cap) (k:nH w B [] y.kids a' n' cap') (l:nH w B [] z.kids a'' n'' Ua):nH w B [] [x,y,z] (some ⟨g,0,none⟩) 3 3:=by
 refine .row _ _ _ _ (fun i=>if i=0 then(a,n,cap)else if i=1 then(a',n',cap')else(a'',n'',Ua)) rfl ae ⟨hB,av⟩ (aU _ _ c.1.1) (aH _) (fun i hi=>?_) (fun i hi=>?_)
 ·have hi:i<3:=hi;obtain rfl|rfl|rfl:i=0∨i=1∨i=2:=ae
  ·exact c.1
  ·exact c.2.1
  ·exact c.2.2
 ·have hi:i<3:=hi;obtain rfl|rfl|rfl:i=0∨i=1∨i=2:=ae
  ·exact h
  ·exact k
  ·exact l
theorem nH.akm (x:Nd)
  (c:w.cell? ⟨g,0,none⟩=some (ag x.kind)∧w.cell? ⟨g,1,none⟩=some (ag x.num)∧w.cell? ⟨g,2,none⟩=some (.string x.str)∧w.cell? ⟨g,3,none⟩=some (.slice a n cap))
  (hB:B≤g) (h:nH w B [] x.kids a n cap):nH w B [] [x] (some ⟨g,0,none⟩) 1 1:=by
 refine .row _ _ _ _ (fun i=>(a,n,cap)) rfl ae ⟨hB,av⟩ (aU _ _ c.1) (aH _) (fun i hi=>?_) (fun i hi=>?_)
 ·obtain rfl:i=0:=ae;exact c
 ·rw[NU x nd0 i hi];exact h
theorem Rv (hE:dB 253 T n .expr):dB 254 T (n+1) .idx:=by intro w B p lv i j x L hL hp hB hx;simp only[ex]at hx;replace hx:=fe hx;obtain⟨⟨hk,pK,hlv⟩,hx⟩:=hx;replace hx:=bind_some hx;obtain⟨⟨y,k⟩,hy,hx⟩:=hx;replace hx:=fe hx;obtain⟨hi2,hx⟩:=hx;simp only[Option.some.injEq,Prod.mk.injEq]at hx hi2;obtain⟨rfl,rfl⟩:=hx;have ht:=fun(V:World) (hV:Ch [] w V)=>ui (hp.ch hV av) (aS hB hV.size) hk;have KL:=ah fun(V:World) (hV:w.heap.size≤V.heap.size) (h:dw V B p T (i+1))=>xB (lv:=L+1) h (aS hB hV) pK ae;have he:=fun(V:World) (hV:w.heap.size≤V.heap.size) (h:dw V B p T (i+2))=>hE V B p (lv+1) (i+2) k y (L+1) ae h (aS hB hV) hy;have uO:=ah fun(V:World) (hV:w.heap.size≤V.heap.size) (h:dw V B p T k)=>jZ h (aS hB hV) hi2;have yP:=hp.Iu;have I9:=hp.E_;have IE: -1000000≤L∧L≤1000000:=ae;clear hL;unfold yH at ht;unfold yI at he;generalize tk T i=t at*;have uo:=ah ht;have lD:=ah he;clear ht he;clear hp pK hi2 hy;refine az ?_;intro hal bu;have gY:=results254;go_enter func254,ntmps254;go_wp2_with (first|((with_reducible refine(uo.out _ aW).mono ?_);refine kU ?_;intro w1 pG aO N1 dA bW eu eF)|((with_reducible refine(KL.out _ cO pG).mono ?_);refine kU ?_;intro w2 tH dW N2 nM gX ku lI)|((with_reducible refine(lD.out _ cO tH).mono ?_);refine jD ?_;intro w3 a3 n3 m3 nG pQ gK N3 vD jK vF sJ)|((with_reducible refine(uO.out _ cO (pQ.ch (l:=[]) aW av)).mono ?_);refine kU ?_;intro w4 Ns lY N4 BG nJ Jl Im));have cZ:=au;refine bodyPost_ret (v:=.agg #[ag y.kind,ag y.num,.string y.str,.slice a3 n3 m3]) (by simp[results,gY,go_sem,cZ,bW,gX,jK,nJ,aQ,↓IntWalk.iteOmega]) rfl ⟨_,_,_,rfl,nG.end (M:=[p,w.heap.size]) aW bP cO,Ns.ch (l:=[w.heap.size]) aW bP,by exact aW⟩
variable {n:Nat}
theorem Rl (hR:dB 264 T n .neg) (hN:dB 265 T n .cmp):dB 264 T (n+1) .neg:=by
 intro w B p lv i j x L hL hp hB hx;simp only[ex]at hx;have hs:=fun(V:World) (hV:Ch [] w V) (t:TypeId) (g:Nat) (hg:g=V.heap.size)=>Xg hp hB hV ⟨#[33]⟩ t g hg;have yP:=hp.Iu;have I9:=hp.E_;by_cases hi:iQ (tk T i) [afO]=true
 ·rw[if_pos hi]at hx;have hi:iQ (tk T i) [⟨#[33]⟩]=true:=hi;rw[hi]at hs;replace hx:=fe hx;obtain⟨hlv,hx⟩:=hx;replace hx:=bind_some hx;obtain⟨⟨y,k⟩,hy,hx⟩:=hx;simp only[Option.some.injEq,Prod.mk.injEq]at hx;obtain⟨rfl,rfl⟩:=hx;have KL:=ah fun(V:World) (hV:Ch [] w V)=>xB (lv:=L+1) (hp.ch hV av) (aS hB hV.size) hi ae;have he:=fun(V:World) (hV:w.heap.size≤V.heap.size) (h:dw V B p T (i+1))=>hR V B p (lv+1) (i+1) k y (L+1) ae h (aS hB hV) hy;have IE: -1000000≤L∧L≤1000000:=ae;unfold yI at he;clear hL hp hi hy hR hN;have um:=ah hs;have lD:=ah he;clear hs he;refine az ?_;intro hal bu;go_enter func264,ntmps264;go_wp2_with (first|(refine mP ?_;intro w1 aO N1 dA bW eu eF)|((with_reducible refine(KL.out _ aW).mono ?_);refine kU ?_;intro w2 tH dW N2 nM gX ku lI)|((with_reducible refine(lD.out _ cO tH).mono ?_);refine jD ?_;intro w3 a3 n3 m3 nG pQ gK N3 vD jK vF sJ));have cZ:=au;refine bodyPost_ret (v:=.agg #[ag 13,ag 0,.string ⟨#[33]⟩,aZ w3.heap.size 1 1]) (by simp[results,results264,go_sem,cZ,bW,gX,jK,aQ,↓IntWalk.iteOmega]) rfl ⟨_,_,_,rfl,nH.one y nG (M:=[p,w.heap.size]) aW aW bP bP cO cO,pQ.ch (l:=[w.heap.size]) aW bP,by exact aW⟩
 ·rw[if_neg hi]at hx;have hi:iQ (tk T i) [⟨#[33]⟩]=false:=Bool.eq_false_iff.2 hi;rw[hi]at hs;refine mM ?_;intro he;unfold yI at he;clear hL hp hi hx hR hN;have um:=ah hs;have lD:=ah he;clear hs he;refine az ?_;intro hal bu;go_enter func264,ntmps264;go_wp2_with (first|(refine mP ?_;intro w1 aO N1 dA bW eu eF)|((with_reducible refine(lD.out _ aW).mono ?_);refine jD ?_;intro w3 a3 n3 m3 nG pQ gK N3 vD jK vF sJ));have cZ:=au;refine bodyPost_ret (v:=.agg #[ag x.kind,ag x.num,.string x.str,.slice a3 n3 m3]) (by simp[results,results264,go_sem,cZ,bW,jK,aQ,↓IntWalk.iteOmega]) rfl ⟨_,_,_,rfl,nG.end (M:=[p,w.heap.size]) aW bP cO,pQ.ch (l:=[w.heap.size]) aW bP,by exact aW⟩
theorem Rm (hR:dB 270 T n .Qd) (hN:dB 271 T n .YP):dB 270 T (n+1) .Qd:=by
 intro w B p lv i j x L hL hp hB hx;simp only[ex]at hx;have hs:=fun(V:World) (hV:Ch [] w V) (t:TypeId) (g:Nat) (hg:g=V.heap.size)=>Xg hp hB hV ⟨#[45]⟩ t g hg;have yP:=hp.Iu;have I9:=hp.E_;by_cases hi:iQ (tk T i) [iP]=true
 ·rw[if_pos hi]at hx;have hi:iQ (tk T i) [⟨#[45]⟩]=true:=hi;rw[hi]at hs;replace hx:=fe hx;obtain⟨hlv,hx⟩:=hx;replace hx:=bind_some hx;obtain⟨⟨y,k⟩,hy,hx⟩:=hx;simp only[Option.some.injEq,Prod.mk.injEq]at hx;obtain⟨rfl,rfl⟩:=hx;have KL:=ah fun(V:World) (hV:Ch [] w V)=>xB (lv:=L+1) (hp.ch hV av) (aS hB hV.size) hi ae;have he:=fun(V:World) (hV:w.heap.size≤V.heap.size) (h:dw V B p T (i+1))=>hR V B p (lv+1) (i+1) k y (L+1) ae h (aS hB hV) hy;have IE: -1000000≤L∧L≤1000000:=ae;unfold yI at he;clear hL hp hi hy hR hN;have um:=ah hs;have lD:=ah he;clear hs he;refine az ?_;intro hal bu;go_enter func270,ntmps270;go_wp2_with (first|(refine mP ?_;intro w1 aO N1 dA bW eu eF)|((with_reducible refine(KL.out _ aW).mono ?_);refine kU ?_;intro w2 tH dW N2 nM gX ku lI)|((with_reducible refine(lD.out _ cO tH).mono ?_);refine jD ?_;intro w3 a3 n3 m3 nG pQ gK N3 vD jK vF sJ));have cZ:=au;refine bodyPost_ret (v:=.agg #[ag 13,ag 0,.string ⟨#[45]⟩,aZ w3.heap.size 1 1]) (by simp[results,results270,go_sem,cZ,bW,gX,jK,aQ,↓IntWalk.iteOmega]) rfl ⟨_,_,_,rfl,nH.one y nG (M:=[p,w.heap.size]) aW aW bP bP cO cO,pQ.ch (l:=[w.heap.size]) aW bP,by exact aW⟩
 ·rw[if_neg hi]at hx;have hi:iQ (tk T i) [⟨#[45]⟩]=false:=Bool.eq_false_iff.2 hi;rw[hi]at hs;refine mM ?_;intro he;unfold yI at he;clear hL hp hi hx hR hN;have um:=ah hs;have lD:=ah he;clear hs he;refine az ?_;intro hal bu;go_enter func270,ntmps270;go_wp2_with (first|(refine mP ?_;intro w1 aO N1 dA bW eu eF)|((with_reducible refine(lD.out _ aW).mono ?_);refine jD ?_;intro w3 a3 n3 m3 nG pQ gK N3 vD jK vF sJ));have cZ:=au;refine bodyPost_ret (v:=.agg #[ag x.kind,ag x.num,.string x.str,.slice a3 n3 m3]) (by simp[results,results270,go_sem,cZ,bW,jK,aQ,↓IntWalk.iteOmega]) rfl ⟨_,_,_,rfl,nG.end (M:=[p,w.heap.size]) aW bP cO,pQ.ch (l:=[w.heap.size]) aW bP,by exact aW⟩
theorem Rq (hS:dB 266 T n .sum):dB 265 T (n+1) .cmp:=by
 intro w B p lv i j x L hL hp hB hx;simp only[ex]at hx;replace hx:=bind_some hx;obtain⟨⟨y,k⟩,hy,hx⟩:=hx;have yP:=hp.Iu;have I9:=hp.E_;have h1:=fun(V:World) (hV:Ch [] w V)=>hS V B p lv i k y L hL (hp.ch hV av) (aS hB hV.size) hy;have hs:=fun(U V:World) (hU:w.heap.size≤U.heap.size) (h:dw U B p T k) (hV:Ch [] U V) (t:TypeId) (g:Nat) (hg:g=V.heap.size)=>is6 h (aS hB hU) hV ⟨#[60]⟩ ⟨#[60,61]⟩ ⟨#[62]⟩ ⟨#[62,61]⟩ ⟨#[61,61]⟩ ⟨#[33,61]⟩ t g hg;unfold yI at h1;simp only at hx;by_cases hi:iQ (tk T k) akq=true
 ·rw[if_pos hi]at hx;replace hx:=bind_some hx;obtain⟨⟨z,m⟩,hz,hx⟩:=hx;simp only[Option.some.injEq,Prod.mk.injEq]at hx;obtain⟨rfl,rfl⟩:=hx;have hi':iQ (tk T k) [⟨#[60]⟩,⟨#[60,61]⟩,⟨#[62]⟩,⟨#[62,61]⟩,⟨#[61,61]⟩,⟨#[33,61]⟩]=true:=hi;rw[hi']at hs;have Fq:=lW hi;have ht:=fun(V:World) (hV:w.heap.size≤V.heap.size) (h:dw V B p T k)=>ui h (aS hB hV) Fq;have h2:=fun(V:World) (hV:w.heap.size≤V.heap.size) (h:dw V B p T (k+1))=>hS V B p lv (k+1) m z L hL h (aS hB hV) hz;unfold yH at ht;unfold yI at h2;generalize tk T k=t at*;clear hL hp hi hi' hy hz hS;have um:=ah hs;have o_:=ah h1;have uo:=ah ht;have yR:=ah h2;clear hs h1 ht h2;refine az ?_;intro hal bu;have hfd:=fun W=>NT t.kind t.text t.pos t.val 0 W;go_enter func265,ntmps265;go_upto_region 5 with(first|((with_reducible refine(o_.out _ aW).mono ?_);refine jD ?_;intro w1 a1 n1 m1 ek pG aO N1 dA bW eu eF)|((with_reducible refine(um.out w1 _ cO pG aW _ _ cO).mono ?_);refine df ?_;intro w2 dW N2 nM gX ku lI)|((with_reducible refine(uo.out _ cO (pG.ch (l:=[]) aW av)).mono ?_);refine kU ?_;intro w3 pQ gK N3 vD jK vF sJ));have st:∀V,Ch [p,w.heap.size] w3 V→V.cell? ⟨w1.heap.size,0,none⟩=some (ag y.kind)∧V.cell? ⟨w1.heap.size,1,none⟩=some (ag y.num)∧V.cell? ⟨w1.heap.size,2,none⟩=some (.string y.str)∧V.cell? ⟨w1.heap.size,3,none⟩=some (.slice a1 n1 m1):=by intro V hV;have hn:w1.heap.size∉[p,w.heap.size]:=bQ;exact⟨hV.cell hn iy,hV.cell hn iy,hV.cell hn iy,hV.cell hn iy⟩
  have tC:=ah st;clear st;go_region_held3 (fun V=>V.cell? ⟨w1.heap.size,0,none⟩=some (ag y.kind)∧V.cell? ⟨w1.heap.size,1,none⟩=some (ag y.num)∧V.cell? ⟨w1.heap.size,2,none⟩=some (.string y.str)∧V.cell? ⟨w1.heap.size,3,none⟩=some (.slice a1 n1 m1)) (exact tC.out _ aW) (first|((with_reducible refine(yR.out _ cO (pQ.ch (l:=[]) aW av)).mono ?_);refine jD ?_;intro w4 a4 n4 m4 yU Ns lY N4 BG nJ Jl Im));go_wp2;have cZ:=au;refine bodyPost_ret (v:=.agg #[ag 14,ag 0,.string t.text,aZ w4.heap.size 2 2]) (by simp[results,results265,go_sem,cZ,bW,gX,jK,nJ,aQ,↓IntWalk.iteOmega]) rfl ⟨_,_,_,rfl,nH.two y z xG cO av (ek.to (M:=[p,w.heap.size]) aW cO bP av) (yU.to (M:=[p,w.heap.size]) aW cO bP av),Ns.ch (l:=[w.heap.size]) aW bP,by exact aW⟩
 ·rw[if_neg hi]at hx;simp only[Option.some.injEq,Prod.mk.injEq]at hx;obtain⟨rfl,rfl⟩:=hx;have hi':iQ (tk T k) [⟨#[60]⟩,⟨#[60,61]⟩,⟨#[62]⟩,⟨#[62,61]⟩,⟨#[61,61]⟩,⟨#[33,61]⟩]=false:=Bool.eq_false_iff.2 hi;rw[hi']at hs;clear hL hp hi hi' hy hS;have um:=ah hs;have o_:=ah h1;clear hs h1;refine az ?_;intro hal bu;go_enter func265,ntmps265;go_wp2_with (first|((with_reducible refine(o_.out _ aW).mono ?_);refine jD ?_;intro w1 a1 n1 m1 ek pG aO N1 dA bW eu eF)|((with_reducible refine(um.out w1 _ cO pG aW _ _ cO).mono ?_);refine df ?_;intro w2 dW N2 nM gX ku lI));have cZ:=au;refine bodyPost_ret (v:=.agg #[ag y.kind,ag y.num,.string y.str,.slice a1 n1 m1]) (by simp[results,results265,go_sem,cZ,bW,gX,aQ,↓IntWalk.iteOmega]) rfl ⟨_,_,_,rfl,ek.to (M:=[p,w.heap.size]) aW cO bP av,pG.ch (l:=[w.heap.size]) aW bP,by exact aW⟩
variable {w:World} {n B p i lv j b2 b3 g f:Nat} {x:Nd} {L:Int} {a:ByteArray} {next:Nat→R}
theorem EP {w':World} (h:aJ w w'):Ch [] w w':=(Ch.refl [] w).of_below h (aH _)
theorem dw.cell (h:dw w B p T i):w.cell? ⟨p,3,none⟩=some (ag i):=by obtain⟨s,rm,q,cap,a0,c0,h1,h2,h3,h4,h5⟩:=h.ex;exact h4.cell 3
def iV (w:World) (p:Nat):Nat:=match w.cell? ⟨p,3,none⟩with|some v=>(intOf v).toNat|none=>0
theorem dw.iV (h:dw w B p T i):iV w p=i:=by unfold Pa.iV;rw[h.cell];simp[intOf]
theorem ad_ (h:w.cell? ⟨g,0,none⟩=some (.string a)):Strs w g [a]:=by
 intro k hk;obtain rfl:k=0:=by simpa using hk
 exact h
theorem aea {b:ByteArray} (h:w.cell? ⟨g,0,none⟩=some (.string a)) (h':w.cell? ⟨g,1,none⟩=some (.string b)):Strs w g [a,b]:=by
 intro k hk;have hk:k<2:=hk;obtain rfl|rfl:k=0∨k=1:=ae
 ·exact h
 ·exact h'
theorem T9 {ops:List ByteArray} (hn:∀a y b,next a=some (y,b)→a<b):∀(f:Nat) (l:Nd) (i:Nat) (x:Nd) (j:Nat),pU T ops next f l i=some (x,j)→i≤j
 |0,l,i,x,j,h=>by simp[pU]at h
 |f+1,l,i,x,j,h=>by
  simp only[pU]at h
  split at h
  ·replace h:=KX.1 h;obtain⟨⟨r,k⟩,hr,h⟩:=h
   have:=hn _ _ _ hr
   have:=T9 hn f _ _ _ _ h
   simp only at this;omega
  ·simp only[Option.some.injEq,Prod.mk.injEq]at h;omega
theorem T_ (hn:∀a y b,next a=some (y,b)→a<b):∀(f:Nat) (l:List Nd) (i:Nat) (x:Nd) (j:Nat),GL T next f l i=some (x,j)→i<j
 |0,l,i,x,j,h=>by simp[GL]at h
 |f+1,l,i,x,j,h=>by
  simp only[GL]at h
  split at h
  ·simp only[Option.some.injEq,Prod.mk.injEq]at h;omega
  ·replace h:=KX.1 h;obtain⟨⟨r,k⟩,hr,h⟩:=h
   have:=hn _ _ _ hr
   have:=T_ hn f _ _ _ _ h
   simp only at this;omega
theorem JG:∀(n:Nat) (wh:Wh) (lv i:Nat) (x:Nd) (j:Nat),ex T n wh lv i=some (x,j)→i<j:=by
 intro n;induction n with
 |zero=>intro wh lv i x j h;simp[ex]at h
 |succ n ih=>intro wh lv i x j h;cases wh<;>simp only[ex]at h<;>(repeat' (first|(replace h:=KX.1 h;obtain⟨⟨r,k⟩,hr,h⟩:=h;replace hr:=ih _ _ _ _ _ hr;simp only at h)|(split at h)|(simp only[Option.some.injEq,Prod.mk.injEq]at h;omega)|(exact absurd h av)|(have h1:=T9 (fun a y b=>ih _ _ a y b) _ _ _ _ _ h;omega)|(have h1:=T_ (fun a y b=>ih _ _ a y b) _ _ _ _ _ h;omega)|(replace h:=ih _ _ _ _ _ h;omega)))
theorem JH (hN:dB 262 T n .Aj) (hL:L=lv) (hp:dw w B p T i) (hB:B≤w.heap.size) (hx:ex T n .Aj lv i=some (x,j)) (c2:w.cell? ⟨b2,0,none⟩=some (aR p)) (c3:w.cell? ⟨b3,0,none⟩=some (ag L)):
  Calls prog 261 #[aR b2,aR b3] w (yI w B p T x j):=by refine mM ?_;intro he;have yP:=hp.Iu;have I9:=hp.E_;have l2:=aU _ _ c2;have l3:=aU _ _ c3;simp only at l2 l3;unfold yI at he;clear hp hN hx hL;have lD:=ah he;clear he;refine az ?_;intro hal bu;have gY:=results261;go_enter func261,ntmps261;exact rF
theorem YR (hN:dB 262 T n .Aj) (hL:L=lv) (hp:dw w B p T i) (hB:B≤w.heap.size) (hx:((ex T n .Aj lv i).bind fun r=>pU T [Iw] (ex T n .Aj lv) f r.1 r.2)=some (x,j)) (n2:b2≠p) (n3:b3≠p) (ng:g≠p) (c2:w.cell? ⟨b2,0,none⟩=some (aR p)) (c3:w.cell? ⟨b3,0,none⟩=some (ag L)) (hg:Strs w g [Iw]):
  Calls prog 260 #[aR p,.func (.func 261) #[] #[aR b2,aR b3],aZ g 1 1] w (yI w B p T x j):=by
 replace hx:=bind_some hx;obtain⟨⟨y,q⟩,hy,hx⟩:=hx;have yP:=hp.Iu;have I9:=hp.E_;have l2:=aU _ _ c2;have l3:=aU _ _ c3;have lg:=aU _ _ (hg 0 av);simp only at l2 l3 lg;have h1:=fun(V:World) (hV:Ch [] w V)=>JH hN hL (hp.ch hV av) (aS hB hV.size) hy (hV.cell av c2) (hV.cell av c3);have h2:=fun(V:World) (i k:Nat) (z:Nd) (hV:Ch [p] w V) (h:dw V B p T i) (hz:ex T n .Aj lv i=some (z,k))=>JH hN hL h (aS hB hV.size) hz (hV.cell (by simpa using n2) c2) (hV.cell (by simpa using n3) c3);have hs:=fun(V:World) (i:Nat) (hV:Ch [p] w V) (h:dw V B p T i)=>GM (cap:=1) (l:=[Iw]) h (aS hB hV.size) (fun k hk=>hV.cell (by simpa using ng) (hg k hk)) (bH lg hV.size) av;refine rG ?_;intro ht;have NN:=ah fun(a:Nat) (y:Nd) (b:Nat) (h:ex T n .Aj lv a=some (y,b))=>JG n _ lv a y b h;unfold yI at h1 h2;unfold yH at ht;simp only[List.length_cons,List.length_nil,Nat.reduceAdd]at hs;clear hN hp hL;have o_:=ah h1;have yR:=ah h2;have um:=ah hs;have uo:=ah ht;clear h1 h2 hs ht;refine az ?_;intro hal bu;have gY:=results260;go_enter func260,ntmps260;go_wp2_with (first|((with_reducible refine(o_.out _ aW).mono ?_);refine jD ?_;intro w1 a1 n1 m1 ek pG aO N1 dA bW eu eF));refine aP fun W hW=>?_;obtain⟨t6,h6⟩:∃t6,t6=w.heap.size:=⟨_,rfl⟩
 obtain⟨t7,h7⟩:∃t7,t7=w1.heap.size:=⟨_,rfl⟩
 refine rH ?_;intro k7;have k6:aV W t6 [ag 0,ag 0,.string ⟨#[]⟩,.slice none 0 0]:=by rw[hW,h6];exact(aO.bk (aV.new w _ _ _ rfl) bQ).alloc _
 have hK:nH W w.heap.size [t6,t7] y.kids a1 n1 m1:=by rw[hW,h6,h7];exact ek.to (M:=[]) aW cO av bP
 have hP:dw W B p T q:=oN;have hC:Ch [p] w W:=mO;have hz:w.heap.size≤t6∧t6<t7∧p<t6:=ae;rw[←h6,←h7];clear hW ek pG aO bW eu eF dA N1 hy h7 o_;have HX:=ah hx;have H6:=ah h6;have HK:=ah hK;have HP:=ah hP;have HC:=ah hC;have YS:=ah k6;have YT:=ah k7;clear hx h6 hK hP hC k6 k7 w1;go_loopw [8] (fun s8 wr=>∃(l:Nd) (i' f':Nat) (a:Option Addr) (nn mm:Nat),Hid (pU T [Iw] (ex T n .Aj lv) f' l i'=some (x,j))∧Hid (aV wr t7 [ag l.kind,ag l.num,.string l.str,.slice a nn mm])∧Hid (aV wr t6 [ag 0,ag 0,.string ⟨#[]⟩,.slice none 0 0])∧Hid (nH wr w.heap.size [t6,t7] l.kids a nn mm)∧Hid (dw wr B p T i')∧Hid (Ch [p] w wr)) (fun _ wr=>T.length-iV wr p);case atStart=>exact⟨y,q,f,a1,n1,m1,HX,YT,YS,HK,HP,HC⟩
 case round=>
  clear HX YT YS HK HP HC;obtain⟨l,i',f',a,nn,mm,hx,k7,k6,hK,hP,hC⟩:=hrel;replace hx:=hx.out;have hlt:=hP.out.lt;have yT:=hP.out.iV;obtain⟨t,ht⟩:∃t,t=tk T i':=⟨_,rfl⟩
  have Ht':=ah ht;have hs:=um.out wr i' hC.out hP.out;cases f' with
  |zero=>simp[pU]at hx
  |succ f'=>
   simp only[pU]at hx;rw[←ht]at hx hs;have l6:=k6.out.lt;have l7:=k7.out.lt;have lw:=hC.out.size;by_cases hi:iQ t [Iw]=true
   ·rw[if_pos hi]at hx;exact rJ
   ·rw[if_neg hi]at hx;simp only[Option.some.injEq,Prod.mk.injEq]at hx;obtain⟨rfl,rfl⟩:=hx;have hi:iQ t [Iw]=false:=Bool.eq_false_iff.2 hi;exact rM
theorem NP (hN:dB 262 T n .Aj):dB 253 T (n+1) .expr:=by intro w B p lv i j x L hL hp hB hx;simp only[ex]at hx;have yP:=hp.Iu;have I9:=hp.E_;have hb:=fun(V:World) (b2 b3 g:Nat) (hV:Ch [] w V) (q2:w.heap.size≤b2) (q3:w.heap.size≤b3) (qg:w.heap.size≤g) (c2:V.cell? ⟨b2,0,none⟩=some (aR p)) (c3:V.cell? ⟨b3,0,none⟩=some (ag L)) (g0:V.cell? ⟨g,0,none⟩=some (.string ⟨#[124,124]⟩))=>YR hN hL (hp.ch hV av) (aS hB hV.size) hx ae ae ae c2 c3 (ad_ g0);unfold yI at hb;clear hp hN hx hL;have LZ:=ah hb;clear hb;refine az ?_;intro hal bu;have gY:=results253;go_enter func253,ntmps253;go_wp2_with (first|((with_reducible refine(LZ.out _ _ _ _ aW cO cO cO fJ fJ fJ).mono ?_);refine jD ?_;intro w1 a1 n1 m1 ek pG aO N1 dA bW eu eF));exact rO
theorem JI (hN:dB 264 T n .neg) (hL:L=lv) (hp:dw w B p T i) (hB:B≤w.heap.size) (hx:ex T n .neg lv i=some (x,j)) (c2:w.cell? ⟨b2,0,none⟩=some (aR p)) (c3:w.cell? ⟨b3,0,none⟩=some (ag L)):
  Calls prog 263 #[aR b2,aR b3] w (yI w B p T x j):=by refine mM ?_;intro he;have yP:=hp.Iu;have I9:=hp.E_;have l2:=aU _ _ c2;have l3:=aU _ _ c3;simp only at l2 l3;unfold yI at he;clear hp hN hx hL;have lD:=ah he;clear he;refine az ?_;intro hal bu;have gY:=results263;go_enter func263,ntmps263;exact rF
theorem YU (hN:dB 264 T n .neg) (hL:L=lv) (hp:dw w B p T i) (hB:B≤w.heap.size) (hx:((ex T n .neg lv i).bind fun r=>pU T [qA] (ex T n .neg lv) f r.1 r.2)=some (x,j)) (n2:b2≠p) (n3:b3≠p) (ng:g≠p) (c2:w.cell? ⟨b2,0,none⟩=some (aR p)) (c3:w.cell? ⟨b3,0,none⟩=some (ag L)) (hg:Strs w g [qA]):
  Calls prog 260 #[aR p,.func (.func 263) #[] #[aR b2,aR b3],aZ g 1 1] w (yI w B p T x j):=by
 replace hx:=bind_some hx;obtain⟨⟨y,q⟩,hy,hx⟩:=hx;have yP:=hp.Iu;have I9:=hp.E_;have l2:=aU _ _ c2;have l3:=aU _ _ c3;have lg:=aU _ _ (hg 0 av);simp only at l2 l3 lg;have h1:=fun(V:World) (hV:Ch [] w V)=>JI hN hL (hp.ch hV av) (aS hB hV.size) hy (hV.cell av c2) (hV.cell av c3);have h2:=fun(V:World) (i k:Nat) (z:Nd) (hV:Ch [p] w V) (h:dw V B p T i) (hz:ex T n .neg lv i=some (z,k))=>JI hN hL h (aS hB hV.size) hz (hV.cell (by simpa using n2) c2) (hV.cell (by simpa using n3) c3);have hs:=fun(V:World) (i:Nat) (hV:Ch [p] w V) (h:dw V B p T i)=>GM (cap:=1) (l:=[qA]) h (aS hB hV.size) (fun k hk=>hV.cell (by simpa using ng) (hg k hk)) (bH lg hV.size) av;refine rG ?_;intro ht;have NN:=ah fun(a:Nat) (y:Nd) (b:Nat) (h:ex T n .neg lv a=some (y,b))=>JG n _ lv a y b h;unfold yI at h1 h2;unfold yH at ht;simp only[List.length_cons,List.length_nil,Nat.reduceAdd]at hs;clear hN hp hL;have o_:=ah h1;have yR:=ah h2;have um:=ah hs;have uo:=ah ht;clear h1 h2 hs ht;refine az ?_;intro hal bu;have gY:=results260;go_enter func260,ntmps260;go_wp2_with (first|((with_reducible refine(o_.out _ aW).mono ?_);refine jD ?_;intro w1 a1 n1 m1 ek pG aO N1 dA bW eu eF));refine aP fun W hW=>?_;obtain⟨t6,h6⟩:∃t6,t6=w.heap.size:=⟨_,rfl⟩
 obtain⟨t7,h7⟩:∃t7,t7=w1.heap.size:=⟨_,rfl⟩
 refine rH ?_;intro k7;have k6:aV W t6 [ag 0,ag 0,.string ⟨#[]⟩,.slice none 0 0]:=by rw[hW,h6];exact(aO.bk (aV.new w _ _ _ rfl) bQ).alloc _
 have hK:nH W w.heap.size [t6,t7] y.kids a1 n1 m1:=by rw[hW,h6,h7];exact ek.to (M:=[]) aW cO av bP
 have hP:dw W B p T q:=oN;have hC:Ch [p] w W:=mO;have hz:w.heap.size≤t6∧t6<t7∧p<t6:=ae;rw[←h6,←h7];clear hW ek pG aO bW eu eF dA N1 hy h7 o_;have HX:=ah hx;have H6:=ah h6;have HK:=ah hK;have HP:=ah hP;have HC:=ah hC;have YS:=ah k6;have YT:=ah k7;clear hx h6 hK hP hC k6 k7 w1;go_loopw [8] (fun s8 wr=>∃(l:Nd) (i' f':Nat) (a:Option Addr) (nn mm:Nat),Hid (pU T [qA] (ex T n .neg lv) f' l i'=some (x,j))∧Hid (aV wr t7 [ag l.kind,ag l.num,.string l.str,.slice a nn mm])∧Hid (aV wr t6 [ag 0,ag 0,.string ⟨#[]⟩,.slice none 0 0])∧Hid (nH wr w.heap.size [t6,t7] l.kids a nn mm)∧Hid (dw wr B p T i')∧Hid (Ch [p] w wr)) (fun _ wr=>T.length-iV wr p);case atStart=>exact⟨y,q,f,a1,n1,m1,HX,YT,YS,HK,HP,HC⟩
 case round=>
  clear HX YT YS HK HP HC;obtain⟨l,i',f',a,nn,mm,hx,k7,k6,hK,hP,hC⟩:=hrel;replace hx:=hx.out;have hlt:=hP.out.lt;have yT:=hP.out.iV;obtain⟨t,ht⟩:∃t,t=tk T i':=⟨_,rfl⟩
  have Ht':=ah ht;have hs:=um.out wr i' hC.out hP.out;cases f' with
  |zero=>simp[pU]at hx
  |succ f'=>
   simp only[pU]at hx;rw[←ht]at hx hs;have l6:=k6.out.lt;have l7:=k7.out.lt;have lw:=hC.out.size;by_cases hi:iQ t [qA]=true
   ·rw[if_pos hi]at hx;exact rJ
   ·rw[if_neg hi]at hx;simp only[Option.some.injEq,Prod.mk.injEq]at hx;obtain⟨rfl,rfl⟩:=hx;have hi:iQ t [qA]=false:=Bool.eq_false_iff.2 hi;exact rM
theorem NQ (hN:dB 264 T n .neg):dB 262 T (n+1) .Aj:=by intro w B p lv i j x L hL hp hB hx;simp only[ex]at hx;have yP:=hp.Iu;have I9:=hp.E_;have hb:=fun(V:World) (b2 b3 g:Nat) (hV:Ch [] w V) (q2:w.heap.size≤b2) (q3:w.heap.size≤b3) (qg:w.heap.size≤g) (c2:V.cell? ⟨b2,0,none⟩=some (aR p)) (c3:V.cell? ⟨b3,0,none⟩=some (ag L)) (g0:V.cell? ⟨g,0,none⟩=some (.string ⟨#[38,38]⟩))=>YU hN hL (hp.ch hV av) (aS hB hV.size) hx ae ae ae c2 c3 (ad_ g0);unfold yI at hb;clear hp hN hx hL;have LZ:=ah hb;clear hb;refine az ?_;intro hal bu;have gY:=results262;go_enter func262,ntmps262;go_wp2_with (first|((with_reducible refine(LZ.out _ _ _ _ aW cO cO cO fJ fJ fJ).mono ?_);refine jD ?_;intro w1 a1 n1 m1 ek pG aO N1 dA bW eu eF));exact rO
theorem NR (hN:dB 268 T n .prod) (hL:L=lv) (hp:dw w B p T i) (hB:B≤w.heap.size) (hx:ex T n .prod lv i=some (x,j)) (c2:w.cell? ⟨b2,0,none⟩=some (aR p)) (c3:w.cell? ⟨b3,0,none⟩=some (ag L)):
  Calls prog 267 #[aR b2,aR b3] w (yI w B p T x j):=by refine mM ?_;intro he;have yP:=hp.Iu;have I9:=hp.E_;have l2:=aU _ _ c2;have l3:=aU _ _ c3;simp only at l2 l3;unfold yI at he;clear hp hN hx hL;have lD:=ah he;clear he;refine az ?_;intro hal bu;have gY:=results267;go_enter func267,ntmps267;exact rF
theorem abZ (hN:dB 268 T n .prod) (hL:L=lv) (hp:dw w B p T i) (hB:B≤w.heap.size) (hx:((ex T n .prod lv i).bind fun r=>pU T [xD,iP] (ex T n .prod lv) f r.1 r.2)=some (x,j)) (n2:b2≠p) (n3:b3≠p) (ng:g≠p) (c2:w.cell? ⟨b2,0,none⟩=some (aR p)) (c3:w.cell? ⟨b3,0,none⟩=some (ag L)) (hg:Strs w g [xD,iP]):
  Calls prog 260 #[aR p,.func (.func 267) #[] #[aR b2,aR b3],aZ g 2 2] w (yI w B p T x j):=by
 replace hx:=bind_some hx;obtain⟨⟨y,q⟩,hy,hx⟩:=hx;have yP:=hp.Iu;have I9:=hp.E_;have l2:=aU _ _ c2;have l3:=aU _ _ c3;have lg:=aU _ _ (hg 0 av);simp only at l2 l3 lg;have h1:=fun(V:World) (hV:Ch [] w V)=>NR hN hL (hp.ch hV av) (aS hB hV.size) hy (hV.cell av c2) (hV.cell av c3);have h2:=fun(V:World) (i k:Nat) (z:Nd) (hV:Ch [p] w V) (h:dw V B p T i) (hz:ex T n .prod lv i=some (z,k))=>NR hN hL h (aS hB hV.size) hz (hV.cell (by simpa using n2) c2) (hV.cell (by simpa using n3) c3);have hs:=fun(V:World) (i:Nat) (hV:Ch [p] w V) (h:dw V B p T i)=>GM (cap:=2) (l:=[xD,iP]) h (aS hB hV.size) (fun k hk=>hV.cell (by simpa using ng) (hg k hk)) (bH lg hV.size) av;refine rG ?_;intro ht;have NN:=ah fun(a:Nat) (y:Nd) (b:Nat) (h:ex T n .prod lv a=some (y,b))=>JG n _ lv a y b h;unfold yI at h1 h2;unfold yH at ht;simp only[List.length_cons,List.length_nil,Nat.reduceAdd]at hs;clear hN hp hL;have o_:=ah h1;have yR:=ah h2;have um:=ah hs;have uo:=ah ht;clear h1 h2 hs ht;refine az ?_;intro hal bu;have gY:=results260;go_enter func260,ntmps260;go_wp2_with (first|((with_reducible refine(o_.out _ aW).mono ?_);refine jD ?_;intro w1 a1 n1 m1 ek pG aO N1 dA bW eu eF));refine aP fun W hW=>?_;obtain⟨t6,h6⟩:∃t6,t6=w.heap.size:=⟨_,rfl⟩
 obtain⟨t7,h7⟩:∃t7,t7=w1.heap.size:=⟨_,rfl⟩
 refine rH ?_;intro k7;have k6:aV W t6 [ag 0,ag 0,.string ⟨#[]⟩,.slice none 0 0]:=by rw[hW,h6];exact(aO.bk (aV.new w _ _ _ rfl) bQ).alloc _
 have hK:nH W w.heap.size [t6,t7] y.kids a1 n1 m1:=by rw[hW,h6,h7];exact ek.to (M:=[]) aW cO av bP
 have hP:dw W B p T q:=oN;have hC:Ch [p] w W:=mO;have hz:w.heap.size≤t6∧t6<t7∧p<t6:=ae;rw[←h6,←h7];clear hW ek pG aO bW eu eF dA N1 hy h7 o_;have HX:=ah hx;have H6:=ah h6;have HK:=ah hK;have HP:=ah hP;have HC:=ah hC;have YS:=ah k6;have YT:=ah k7;clear hx h6 hK hP hC k6 k7 w1;go_loopw [8] (fun s8 wr=>∃(l:Nd) (i' f':Nat) (a:Option Addr) (nn mm:Nat),Hid (pU T [xD,iP] (ex T n .prod lv) f' l i'=some (x,j))∧Hid (aV wr t7 [ag l.kind,ag l.num,.string l.str,.slice a nn mm])∧Hid (aV wr t6 [ag 0,ag 0,.string ⟨#[]⟩,.slice none 0 0])∧Hid (nH wr w.heap.size [t6,t7] l.kids a nn mm)∧Hid (dw wr B p T i')∧Hid (Ch [p] w wr)) (fun _ wr=>T.length-iV wr p);case atStart=>exact⟨y,q,f,a1,n1,m1,HX,YT,YS,HK,HP,HC⟩
 case round=>
  clear HX YT YS HK HP HC;obtain⟨l,i',f',a,nn,mm,hx,k7,k6,hK,hP,hC⟩:=hrel;replace hx:=hx.out;have hlt:=hP.out.lt;have yT:=hP.out.iV;obtain⟨t,ht⟩:∃t,t=tk T i':=⟨_,rfl⟩
  have Ht':=ah ht;have hs:=um.out wr i' hC.out hP.out;cases f' with
  |zero=>simp[pU]at hx
  |succ f'=>
   simp only[pU]at hx;rw[←ht]at hx hs;have l6:=k6.out.lt;have l7:=k7.out.lt;have lw:=hC.out.size;by_cases hi:iQ t [xD,iP]=true
   ·rw[if_pos hi]at hx;exact rJ
   ·rw[if_neg hi]at hx;simp only[Option.some.injEq,Prod.mk.injEq]at hx;obtain⟨rfl,rfl⟩:=hx;have hi:iQ t [xD,iP]=false:=Bool.eq_false_iff.2 hi;exact rM
theorem Rk (hN:dB 268 T n .prod):dB 266 T (n+1) .sum:=by intro w B p lv i j x L hL hp hB hx;simp only[ex]at hx;have yP:=hp.Iu;have I9:=hp.E_;have hb:=fun(V:World) (b2 b3 g:Nat) (hV:Ch [] w V) (q2:w.heap.size≤b2) (q3:w.heap.size≤b3) (qg:w.heap.size≤g) (c2:V.cell? ⟨b2,0,none⟩=some (aR p)) (c3:V.cell? ⟨b3,0,none⟩=some (ag L)) (g0:V.cell? ⟨g,0,none⟩=some (.string ⟨#[43]⟩)) (g1:V.cell? ⟨g,1,none⟩=some (.string ⟨#[45]⟩))=>abZ hN hL (hp.ch hV av) (aS hB hV.size) hx ae ae ae c2 c3 (aea g0 g1);unfold yI at hb;clear hp hN hx hL;have LZ:=ah hb;clear hb;refine az ?_;intro hal bu;have gY:=results266;go_enter func266,ntmps266;go_wp2_with (first|((with_reducible refine(LZ.out _ _ _ _ aW cO cO cO fJ fJ fJ fJ).mono ?_);refine jD ?_;intro w1 a1 n1 m1 ek pG aO N1 dA bW eu eF));exact rO
theorem JJ (hN:dB 270 T n .Qd) (hL:L=lv) (hp:dw w B p T i) (hB:B≤w.heap.size) (hx:ex T n .Qd lv i=some (x,j)) (c2:w.cell? ⟨b2,0,none⟩=some (aR p)) (c3:w.cell? ⟨b3,0,none⟩=some (ag L)):
  Calls prog 269 #[aR b2,aR b3] w (yI w B p T x j):=by refine mM ?_;intro he;have yP:=hp.Iu;have I9:=hp.E_;have l2:=aU _ _ c2;have l3:=aU _ _ c3;simp only at l2 l3;unfold yI at he;clear hp hN hx hL;have lD:=ah he;clear he;refine az ?_;intro hal bu;have gY:=results269;go_enter func269,ntmps269;exact rF
theorem YV (hN:dB 270 T n .Qd) (hL:L=lv) (hp:dw w B p T i) (hB:B≤w.heap.size) (hx:((ex T n .Qd lv i).bind fun r=>pU T [qB,xE] (ex T n .Qd lv) f r.1 r.2)=some (x,j)) (n2:b2≠p) (n3:b3≠p) (ng:g≠p) (c2:w.cell? ⟨b2,0,none⟩=some (aR p)) (c3:w.cell? ⟨b3,0,none⟩=some (ag L)) (hg:Strs w g [qB,xE]):
  Calls prog 260 #[aR p,.func (.func 269) #[] #[aR b2,aR b3],aZ g 2 2] w (yI w B p T x j):=by
 replace hx:=bind_some hx;obtain⟨⟨y,q⟩,hy,hx⟩:=hx;have yP:=hp.Iu;have I9:=hp.E_;have l2:=aU _ _ c2;have l3:=aU _ _ c3;have lg:=aU _ _ (hg 0 av);simp only at l2 l3 lg;have h1:=fun(V:World) (hV:Ch [] w V)=>JJ hN hL (hp.ch hV av) (aS hB hV.size) hy (hV.cell av c2) (hV.cell av c3);have h2:=fun(V:World) (i k:Nat) (z:Nd) (hV:Ch [p] w V) (h:dw V B p T i) (hz:ex T n .Qd lv i=some (z,k))=>JJ hN hL h (aS hB hV.size) hz (hV.cell (by simpa using n2) c2) (hV.cell (by simpa using n3) c3);have hs:=fun(V:World) (i:Nat) (hV:Ch [p] w V) (h:dw V B p T i)=>GM (cap:=2) (l:=[qB,xE]) h (aS hB hV.size) (fun k hk=>hV.cell (by simpa using ng) (hg k hk)) (bH lg hV.size) av;refine rG ?_;intro ht;have NN:=ah fun(a:Nat) (y:Nd) (b:Nat) (h:ex T n .Qd lv a=some (y,b))=>JG n _ lv a y b h;unfold yI at h1 h2;unfold yH at ht;simp only[List.length_cons,List.length_nil,Nat.reduceAdd]at hs;clear hN hp hL;have o_:=ah h1;have yR:=ah h2;have um:=ah hs;have uo:=ah ht;clear h1 h2 hs ht;refine az ?_;intro hal bu;have gY:=results260;go_enter func260,ntmps260;go_wp2_with (first|((with_reducible refine(o_.out _ aW).mono ?_);refine jD ?_;intro w1 a1 n1 m1 ek pG aO N1 dA bW eu eF));refine aP fun W hW=>?_;obtain⟨t6,h6⟩:∃t6,t6=w.heap.size:=⟨_,rfl⟩
 obtain⟨t7,h7⟩:∃t7,t7=w1.heap.size:=⟨_,rfl⟩
 refine rH ?_;intro k7;have k6:aV W t6 [ag 0,ag 0,.string ⟨#[]⟩,.slice none 0 0]:=by rw[hW,h6];exact(aO.bk (aV.new w _ _ _ rfl) bQ).alloc _
 have hK:nH W w.heap.size [t6,t7] y.kids a1 n1 m1:=by rw[hW,h6,h7];exact ek.to (M:=[]) aW cO av bP
 have hP:dw W B p T q:=oN;have hC:Ch [p] w W:=mO;have hz:w.heap.size≤t6∧t6<t7∧p<t6:=ae;rw[←h6,←h7];clear hW ek pG aO bW eu eF dA N1 hy h7 o_;have HX:=ah hx;have H6:=ah h6;have HK:=ah hK;have HP:=ah hP;have HC:=ah hC;have YS:=ah k6;have YT:=ah k7;clear hx h6 hK hP hC k6 k7 w1;go_loopw [8] (fun s8 wr=>∃(l:Nd) (i' f':Nat) (a:Option Addr) (nn mm:Nat),Hid (pU T [qB,xE] (ex T n .Qd lv) f' l i'=some (x,j))∧Hid (aV wr t7 [ag l.kind,ag l.num,.string l.str,.slice a nn mm])∧Hid (aV wr t6 [ag 0,ag 0,.string ⟨#[]⟩,.slice none 0 0])∧Hid (nH wr w.heap.size [t6,t7] l.kids a nn mm)∧Hid (dw wr B p T i')∧Hid (Ch [p] w wr)) (fun _ wr=>T.length-iV wr p);case atStart=>exact⟨y,q,f,a1,n1,m1,HX,YT,YS,HK,HP,HC⟩
 case round=>
  clear HX YT YS HK HP HC;obtain⟨l,i',f',a,nn,mm,hx,k7,k6,hK,hP,hC⟩:=hrel;replace hx:=hx.out;have hlt:=hP.out.lt;have yT:=hP.out.iV;obtain⟨t,ht⟩:∃t,t=tk T i':=⟨_,rfl⟩
  have Ht':=ah ht;have hs:=um.out wr i' hC.out hP.out;cases f' with
  |zero=>simp[pU]at hx
  |succ f'=>
   simp only[pU]at hx;rw[←ht]at hx hs;have l6:=k6.out.lt;have l7:=k7.out.lt;have lw:=hC.out.size;by_cases hi:iQ t [qB,xE]=true
   ·rw[if_pos hi]at hx;exact rJ
   ·rw[if_neg hi]at hx;simp only[Option.some.injEq,Prod.mk.injEq]at hx;obtain⟨rfl,rfl⟩:=hx;have hi:iQ t [qB,xE]=false:=Bool.eq_false_iff.2 hi;exact rM
theorem NS (hN:dB 270 T n .Qd):dB 268 T (n+1) .prod:=by intro w B p lv i j x L hL hp hB hx;simp only[ex]at hx;have yP:=hp.Iu;have I9:=hp.E_;have hb:=fun(V:World) (b2 b3 g:Nat) (hV:Ch [] w V) (q2:w.heap.size≤b2) (q3:w.heap.size≤b3) (qg:w.heap.size≤g) (c2:V.cell? ⟨b2,0,none⟩=some (aR p)) (c3:V.cell? ⟨b3,0,none⟩=some (ag L)) (g0:V.cell? ⟨g,0,none⟩=some (.string ⟨#[42]⟩)) (g1:V.cell? ⟨g,1,none⟩=some (.string ⟨#[47]⟩))=>YV hN hL (hp.ch hV av) (aS hB hV.size) hx ae ae ae c2 c3 (aea g0 g1);unfold yI at hb;clear hp hN hx hL;have LZ:=ah hb;clear hb;refine az ?_;intro hal bu;have gY:=results268;go_enter func268,ntmps268;go_wp2_with (first|((with_reducible refine(LZ.out _ _ _ _ aW cO cO cO fJ fJ fJ fJ).mono ?_);refine jD ?_;intro w1 a1 n1 m1 ek pG aO N1 dA bW eu eF));exact rO
variable {a b:Int}
theorem jY (h:a=b):(a==b)=true:=by simp[h]
theorem jN (h:a≠b):(a==b)=false:=by simp[h]
theorem NM {T:List Tk} {n:Nat} (hX:dB 254 T n .idx) (hE:dB 253 T n .expr):dB 271 T (n+1) .YP:=by
 intro w B p lv i j x L hL hp hB hx;simp only[ex]at hx;have hpk:=fun(V:World) (hV:Ch [] w V)=>uh (hp.ch hV av);have h1:=fun(V:World) (hV:Ch [] w V) (t:TypeId) (g:Nat) (hg:g=V.heap.size)=>Xg hp hB hV ⟨#[116,114,117,101]⟩ t g hg;have h2:=fun(V:World) (hV:Ch [] w V) (t:TypeId) (g:Nat) (hg:g=V.heap.size)=>Xg hp hB hV ⟨#[102,97,108,115,101]⟩ t g hg;have h3:=fun(V:World) (hV:Ch [] w V) (t:TypeId) (g:Nat) (hg:g=V.heap.size)=>is3 hp hB hV ⟨#[115,101,108,102]⟩ ⟨#[111,116,104,101,114]⟩ ⟨#[116,105,99,107]⟩ t g hg;have ht:=fun(V:World) (hV:Ch [] w V) (h0:(tk T i).kind≠0)=>ui (hp.ch hV av) (aS hB hV.size) h0;have hix:=fun(V:World) (y:Nd) (k:Nat) (hV:Ch [] w V) (h:ex T n .idx lv i=some (y,k))=>hX V B p lv i k y L hL (hp.ch hV av) (aS hB hV.size) h;have ho:=fun(V:World) (hV:Ch [] w V) (h:iQ (tk T i) [⟨#[40]⟩]=true) (hlv:lv+1≤20)=>xB (lv:=L+1) (hp.ch hV av) (aS hB hV.size) h ae;have he:=fun(V:World) (y:Nd) (k:Nat) (hV:w.heap.size≤V.heap.size) (h:dw V B p T (i+1)) (hy:ex T n .expr (lv+1) (i+1)=some (y,k))=>hE V B p (lv+1) (i+1) k y (L+1) ae h (aS hB hV) hy;have hc:=fun(V:World) (k:Nat) (hV:w.heap.size≤V.heap.size) (h:dw V B p T k) (hk:iQ (tk T k) [⟨#[41]⟩]=true)=>jZ h (aS hB hV) hk;have yP:=hp.Iu;have I9:=hp.E_;unfold yH at hpk ht;unfold yI at hix he;have Md:1≤20→lv+1≤20→-1000000≤L∧L≤1000000:=ae;generalize tk T i=t at*;clear hp hX hE hL;refine az ?_;intro hal bu;by_cases k4:t.kind=4
 ·rw[if_pos k4]at hx;simp only[Option.some.injEq,Prod.mk.injEq]at hx;obtain⟨rfl,rfl⟩:=hx;have b4:=jY k4;have ht:=fun V hV=>ht V hV ae;clear hix ho he hc Md h1 h2 h3 k4;have zu:=ah hpk;have uo:=ah ht;clear hpk ht;go_enter func271,ntmps271;go_wp2_with (first|(refine fZ ?_;intro w1 aO N1 dA bW eu eF)|((with_reducible refine(uo.out _ aW).mono ?_);refine kU ?_;intro w5 zI eY N5 P7 sO KE KF));have cZ:=au;refine bodyPost_ret (v:=.agg #[ag 8,ag t.val,.string ⟨#[]⟩,.slice none 0 0]) xC rfl ⟨_,_,_,rfl,ig.nil,zI.ch (l:=[w.heap.size]) aW bP,by exact aW⟩
 rw[if_neg k4]at hx;have b4:=jN k4;by_cases k1:t.kind=1
 ·rw[if_pos k1]at hx;simp only[Option.some.injEq,Prod.mk.injEq]at hx;obtain⟨rfl,rfl⟩:=hx;have b1:=jY k1;have ht:=fun V hV=>ht V hV ae;clear hix ho he hc Md h1 h2 h3 k4 k1;have zu:=ah hpk;have uo:=ah ht;clear hpk ht;go_enter func271,ntmps271;go_wp2_with (first|(refine fZ ?_;intro w1 aO N1 dA bW eu eF)|((with_reducible refine(uo.out _ aW).mono ?_);refine kU ?_;intro w5 zI eY N5 P7 sO KE KF));have cZ:=au;refine bodyPost_ret (v:=.agg #[ag 10,ag 0,.string t.text,.slice none 0 0]) xC rfl ⟨_,_,_,rfl,ig.nil,zI.ch (l:=[w.heap.size]) aW bP,by exact aW⟩
 rw[if_neg k1]at hx;have b1:=jN k1;by_cases k3:t.kind=3
 ·rw[if_pos k3]at hx;replace hx:=bind_some hx;obtain⟨⟨y,k⟩,hy,hx⟩:=hx;simp only[Option.some.injEq,Prod.mk.injEq]at hx;obtain⟨rfl,rfl⟩:=hx;have b3:=jY k3;replace hix:=fun V hV=>hix V y k hV hy;clear ht ho he hc Md h1 h2 h3 k4 k1 k3 hy;have zu:=ah hpk;have vR:=ah hix;clear hpk hix;go_enter func271,ntmps271;go_upto_region 9 with(first|(refine fZ ?_;intro w1 aO N1 dA bW eu eF));go_region_with (first|((with_reducible refine(vR.out _ aW).mono ?_);refine jD ?_;intro w5 a5 n5 m5 QD zI eY N5 P7 sO KE KF));all_goals
   go_wp2
   have cZ:=au;refine bodyPost_ret (v:=.agg #[ag 11,ag 0,.string t.text,aZ w5.heap.size 1 1]) xC rfl ⟨_,_,_,rfl,nH.akm y (by refine⟨?_,?_,?_,?_⟩<;>simp[au,aQ,Nd.kind,Nd.num,Nd.str,sO,↓IntWalk.iteOmega]) cO (QD.to (M:=[p,w.heap.size]) aW cO bP av),zI.ch (l:=[w.heap.size]) aW bP,by exact aW⟩
 rw[if_neg k3]at hx;have b3:=jN k3;by_cases it:iQ t [YQ]=true
 ·rw[if_pos it]at hx;simp only[Option.some.injEq,Prod.mk.injEq]at hx;obtain⟨rfl,rfl⟩:=hx;have e:iQ t [⟨#[116,114,117,101]⟩]=true:=it;rw[e]at h1;have ht:=fun V hV=>ht V hV (lW e);clear hix ho he hc Md k4 k1 k3 e it h2 h3;have zu:=ah hpk;have uo:=ah ht;have o_:=ah h1;clear hpk ht h1;go_enter func271,ntmps271;go_wp2_with (first|(refine fZ ?_;intro w1 aO N1 dA bW eu eF)|((with_reducible refine(o_.out _ aW _ _ cO).mono ?_);refine df ?_;intro w2 dW N2 nM gX ku lI)|((with_reducible refine(uo.out _ aW).mono ?_);refine kU ?_;intro w5 zI eY N5 P7 sO KE KF));have cZ:=au;refine bodyPost_ret (v:=.agg #[ag 9,ag 1,.string ⟨#[]⟩,.slice none 0 0]) (by simp[results,results271,go_sem,cZ,bW,gX,sO,aQ,↓IntWalk.iteOmega]) rfl ⟨_,_,_,rfl,ig.nil,zI.ch (l:=[w.heap.size]) aW bP,by exact aW⟩
 rw[if_neg it]at hx;have eit:iQ t [⟨#[116,114,117,101]⟩]=false:=Bool.eq_false_iff.2 it;rw[eit]at h1;clear eit it;by_cases if_:iQ t [Rj]=true
 ·rw[if_pos if_]at hx;simp only[Option.some.injEq,Prod.mk.injEq]at hx;obtain⟨rfl,rfl⟩:=hx;have e:iQ t [⟨#[102,97,108,115,101]⟩]=true:=if_;rw[e]at h2;have ht:=fun V hV=>ht V hV (lW e);clear hix ho he hc Md k4 k1 k3 e if_ h3;have zu:=ah hpk;have uo:=ah ht;have o_:=ah h1;have yR:=ah h2;clear hpk ht h1 h2;go_enter func271,ntmps271;go_wp2_with (first|(refine fZ ?_;intro w1 aO N1 dA bW eu eF)|((with_reducible refine(o_.out _ aW _ _ cO).mono ?_);refine df ?_;intro w2 dW N2 nM gX ku lI)|((with_reducible refine(yR.out _ aW _ _ cO).mono ?_);refine df ?_;intro w3 gK N3 vD jK vF sJ)|((with_reducible refine(uo.out _ aW).mono ?_);refine kU ?_;intro w5 zI eY N5 P7 sO KE KF));have cZ:=au;refine bodyPost_ret (v:=.agg #[ag 9,ag 0,.string ⟨#[]⟩,.slice none 0 0]) (by simp[results,results271,go_sem,cZ,bW,gX,jK,sO,aQ,↓IntWalk.iteOmega]) rfl ⟨_,_,_,rfl,ig.nil,zI.ch (l:=[w.heap.size]) aW bP,by exact aW⟩
 rw[if_neg if_]at hx;have akn:iQ t [⟨#[102,97,108,115,101]⟩]=false:=Bool.eq_false_iff.2 if_;rw[akn]at h2;clear akn if_;by_cases is_:iQ t [GK,zw,JF]=true
 ·rw[if_pos is_]at hx;simp only[Option.some.injEq,Prod.mk.injEq]at hx;obtain⟨rfl,rfl⟩:=hx;have e:iQ t [⟨#[115,101,108,102]⟩,⟨#[111,116,104,101,114]⟩,⟨#[116,105,99,107]⟩]=true:=is_;rw[e]at h3;have ht:=fun V hV=>ht V hV (lW e);clear hix ho he hc Md k4 k1 k3 e is_;have zu:=ah hpk;have uo:=ah ht;have o_:=ah h1;have yR:=ah h2;have Qc:=ah h3;clear hpk ht h1 h2 h3;go_enter func271,ntmps271;go_wp2_with (first|(refine fZ ?_;intro w1 aO N1 dA bW eu eF)|((with_reducible refine(o_.out _ aW _ _ cO).mono ?_);refine df ?_;intro w2 dW N2 nM gX ku lI)|((with_reducible refine(yR.out _ aW _ _ cO).mono ?_);refine df ?_;intro w3 gK N3 vD jK vF sJ)|((with_reducible refine(Qc.out _ aW _ _ cO).mono ?_);refine df ?_;intro w4 lY N4 BG nJ Jl Im)|((with_reducible refine(uo.out _ aW).mono ?_);refine kU ?_;intro w5 zI eY N5 P7 sO KE KF));have cZ:=au;refine bodyPost_ret (v:=.agg #[ag 12,ag 0,.string t.text,.slice none 0 0]) (by simp[results,results271,go_sem,cZ,bW,gX,jK,nJ,sO,aQ,↓IntWalk.iteOmega]) rfl ⟨_,_,_,rfl,ig.nil,zI.ch (l:=[w.heap.size]) aW bP,by exact aW⟩
 rw[if_neg is_]at hx;have ako:iQ t [⟨#[115,101,108,102]⟩,⟨#[111,116,104,101,114]⟩,⟨#[116,105,99,107]⟩]=false:=Bool.eq_false_iff.2 is_;rw[ako]at h3;clear ako is_;replace hx:=fe hx;obtain⟨hop,hx⟩:=hx;replace hx:=fe hx;obtain⟨hlv,hx⟩:=hx;replace hx:=bind_some hx;obtain⟨⟨y,k⟩,hy,hx⟩:=hx;replace hx:=fe hx;obtain⟨hcl,hx⟩:=hx;simp only[Option.some.injEq,Prod.mk.injEq]at hx hcl;obtain⟨rfl,rfl⟩:=hx;replace ho:=fun V hV=>ho V hV hop hlv;replace he:=fun V hV h=>he V y k hV h hy;replace hc:=fun V hV h=>hc V k hV h hcl;have HL:=Md ae hlv;clear ht hix Md k4 k1 k3 hop hy hcl;have zu:=ah hpk;have o_:=ah h1;have yR:=ah h2;have Qc:=ah h3;have KL:=ah ho;have lD:=ah he;have uO:=ah hc;clear hpk h1 h2 h3 ho he hc;go_enter func271,ntmps271;go_wp2_with (first|(refine fZ ?_;intro w1 aO N1 dA bW eu eF)|((with_reducible refine(o_.out _ aW _ _ cO).mono ?_);refine df ?_;intro w2 dW N2 nM gX ku lI)|((with_reducible refine(yR.out _ aW _ _ cO).mono ?_);refine df ?_;intro w3 gK N3 vD jK vF sJ)|((with_reducible refine(Qc.out _ aW _ _ cO).mono ?_);refine df ?_;intro w4 lY N4 BG nJ Jl Im)|((with_reducible refine(KL.out _ aW).mono ?_);refine kU ?_;intro w5 zI eY N5 P7 sO KE KF)|((with_reducible refine(lD.out _ cO zI).mono ?_);refine jD ?_;intro w6 a6 n6 m6 Vq hp6 ow N6 hN6 TS hf6 hs6)|((with_reducible refine(uO.out _ cO (hp6.ch (l:=[]) aW av)).mono ?_);refine kU ?_;intro w7 hp7 zP N7 hN7 hc7 hf7 hs7));have cZ:=au;refine bodyPost_ret (v:=.agg #[ag y.kind,ag y.num,.string y.str,.slice a6 n6 m6]) (by simp[results,results271,go_sem,cZ,bW,gX,jK,nJ,sO,TS,hc7,aQ,↓IntWalk.iteOmega]) rfl ⟨_,_,_,rfl,Vq.to (M:=[p,w.heap.size]) aW cO bP av,hp7.ch (l:=[w.heap.size]) aW bP,by exact aW⟩
theorem RQ {lv i j:Nat} {x:Nd} (h:ex T n .block lv i=some (x,j)):lv≤20:=by
 cases n with
 |zero=>simp[ex]at h
 |succ n=>simp only[ex]at h;exact(fe h).1.2
theorem Ja (hE:dB 253 T n .expr) (hK:dB 192 T n .block):dB 255 T (n+1) .choice:=by
 intro w B p lv i j x L hL hp hB hx;simp only[ex]at hx;replace hx:=fe hx;obtain⟨hif,hx⟩:=hx;replace hx:=bind_some hx;obtain⟨⟨y,k⟩,hy,hx⟩:=hx;replace hx:=bind_some hx;obtain⟨⟨z,m⟩,hz,hx⟩:=hx;have hif:iQ (tk T i) [⟨#[105,102]⟩]=true:=hif;have yP:=hp.Iu;have I9:=hp.E_;have h0:=fun(V:World) (hV:Ch [] w V)=>jZ (hp.ch hV av) (aS hB hV.size) hif;have h1:=fun(V:World) (hV:w.heap.size≤V.heap.size) (h:dw V B p T (i+1))=>hE V B p lv (i+1) k y L hL h (aS hB hV) hy;have h2:=fun(V:World) (hV:w.heap.size≤V.heap.size) (h:dw V B p T k)=>hK V B p (lv+1) k m z (L+1) ae h (aS hB hV) hz;have h3:=fun(U V:World) (hU:w.heap.size≤U.heap.size) (h:dw U B p T m) (hV:Ch [] U V) (t:TypeId) (g:Nat) (hg:g=V.heap.size)=>Xg h (aS hB hU) hV ⟨#[101,108,115,101]⟩ t g hg;unfold yI at h1 h2;simp only at hx;by_cases hel:iQ (tk T m) [YZ]=true
 ·rw[if_pos hel]at hx;replace hx:=bind_some hx;obtain⟨⟨o,q⟩,ho,hx⟩:=hx;simp only[Option.some.injEq,Prod.mk.injEq]at hx;obtain⟨rfl,rfl⟩:=hx;have hel:iQ (tk T m) [⟨#[101,108,115,101]⟩]=true:=hel;rw[hel]at h3;have h4:=fun(V:World) (hV:w.heap.size≤V.heap.size) (h:dw V B p T m)=>ui h (aS hB hV) (lW hel);have h5:=fun(V:World) (hV:w.heap.size≤V.heap.size) (h:dw V B p T (m+1))=>hK V B p (lv+1) (m+1) q o (L+1) ae h (aS hB hV) ho;unfold yH at h4;unfold yI at h5;generalize tk T m=t at*;have Md: -1000≤L∧L≤1000:=by have:=RQ hz;omega
  clear hp hif hy hz ho hel hE hK hL;have Hh0:=ah h0;have o_:=ah h1;have yR:=ah h2;have Qc:=ah h3;have Hh4:=ah h4;have Hh5:=ah h5;clear h0 h1 h2 h3 h4 h5;refine az ?_;intro hal bu;have cZ:=au;go_enter func255,ntmps255;go_wp2_with (first|((with_reducible refine(Hh0.out _ aW).mono ?_);refine kU ?_;intro w1 pG aO N1 dA bW eu eF)|((with_reducible refine(o_.out _ cO pG).mono ?_);refine jD ?_;intro w2 a2 n2 m2 iO tH dW N2 nM gX ku lI)|((with_reducible refine(yR.out _ cO (tH.ch (l:=[]) aW av)).mono ?_);refine jD ?_;intro w3 a3 n3 m3 nG pQ gK N3 vD jK vF sJ)|((with_reducible refine(Qc.out w3 _ cO pQ aW _ _ cO).mono ?_);refine df ?_;intro w4 lY N4 BG nJ Jl Im)|((with_reducible refine(Hh4.out _ cO (pQ.ch (l:=[]) aW av)).mono ?_);refine kU ?_;intro w5 zI eY N5 P7 sO KE KF)|((with_reducible refine(Hh5.out _ cO zI).mono ?_);refine jD ?_;intro w6 a6 n6 m6 Vq hp6 ow N6 hN6 TS hf6 hs6));have cZ:=au;refine bodyPost_ret (v:=.agg #[ag 3,ag 0,.string ⟨#[]⟩,aZ w6.heap.size 3 3]) (by simp[results,results255,go_sem,cZ,bW,gX,jK,nJ,sO,TS,aQ,↓IntWalk.iteOmega]) rfl ⟨_,_,_,rfl,nH.three y z o (by refine⟨⟨?_,?_,?_,?_⟩,⟨?_,?_,?_,?_⟩,?_,?_,?_,?_⟩<;>simp[au,aQ,Nd.kind,Nd.num,Nd.str,gX,jK,nJ,sO,TS,↓IntWalk.iteOmega]) cO (iO.to (M:=[p,w.heap.size,w3.heap.size+1]) aW cO bP av) (nG.to (M:=[p,w.heap.size,w3.heap.size+1]) aW cO bP av) (Vq.to (M:=[p,w.heap.size,w3.heap.size+1]) aW cO bP av),hp6.ch (l:=[w3.heap.size+1,w.heap.size]) aW bP,by exact aW⟩
 ·rw[if_neg hel]at hx;simp only[Option.some.injEq,Prod.mk.injEq]at hx;obtain⟨rfl,rfl⟩:=hx;have hel:iQ (tk T m) [⟨#[101,108,115,101]⟩]=false:=Bool.eq_false_iff.2 hel;rw[hel]at h3;have Md: -1000≤L∧L≤1000:=by have:=RQ hz;omega
  clear hp hif hy hz hel hE hK hL;have Hh0:=ah h0;have o_:=ah h1;have yR:=ah h2;have Qc:=ah h3;clear h0 h1 h2 h3;refine az ?_;intro hal bu;have cZ:=au;go_enter func255,ntmps255;go_wp2_with (first|((with_reducible refine(Hh0.out _ aW).mono ?_);refine kU ?_;intro w1 pG aO N1 dA bW eu eF)|((with_reducible refine(o_.out _ cO pG).mono ?_);refine jD ?_;intro w2 a2 n2 m2 iO tH dW N2 nM gX ku lI)|((with_reducible refine(yR.out _ cO (tH.ch (l:=[]) aW av)).mono ?_);refine jD ?_;intro w3 a3 n3 m3 nG pQ gK N3 vD jK vF sJ)|((with_reducible refine(Qc.out w3 _ cO pQ aW _ _ cO).mono ?_);refine df ?_;intro w4 lY N4 BG nJ Jl Im));have cZ:=au;refine bodyPost_ret (v:=.agg #[ag 3,ag 0,.string ⟨#[]⟩,aZ w4.heap.size 3 3]) (by simp[results,results255,go_sem,cZ,bW,gX,jK,nJ,aQ,↓IntWalk.iteOmega]) rfl ⟨_,_,_,rfl,nH.three y z (.mk 7 0 ⟨#[]⟩ []) (a'':=none) (n'':=0) (Ua:=0) (by refine⟨⟨?_,?_,?_,?_⟩,⟨?_,?_,?_,?_⟩,?_,?_,?_,?_⟩<;>simp[au,aQ,Nd.kind,Nd.num,Nd.str,gX,jK,nJ,↓IntWalk.iteOmega]) cO (iO.to (M:=[p,w.heap.size]) aW cO bP av) (nG.to (M:=[p,w.heap.size]) aW cO bP av) .nil,pQ.ch (l:=[w.heap.size]) aW bP,by exact aW⟩
theorem N_ {T:List Tk} {n:Nat} (hX:dB 254 T n .idx) (hE:dB 253 T n .expr) (hC:dB 255 T n .choice) (hK:dB 192 T n .block):dB 245 T (n+1) .stmt:=by
 intro w B p lv i j x L hL hp hB hx;simp only[ex]at hx;have hpk:=fun(V:World) (hV:Ch [] w V)=>uh (hp.ch hV av);have h1:=fun(V:World) (hV:Ch [] w V) (t:TypeId) (g:Nat) (hg:g=V.heap.size)=>Xg hp hB hV ⟨#[105,102]⟩ t g hg;have h2:=fun(V:World) (hV:Ch [] w V) (t:TypeId) (g:Nat) (hg:g=V.heap.size)=>Xg hp hB hV ⟨#[119,104,105,108,101]⟩ t g hg;have h3:=fun(V:World) (hV:Ch [] w V) (t:TypeId) (g:Nat) (hg:g=V.heap.size)=>Xg hp hB hV ⟨#[101,102,102,101,99,116]⟩ t g hg;have h4:=fun(V:World) (hV:Ch [] w V) (t:TypeId) (g:Nat) (hg:g=V.heap.size)=>Xg hp hB hV ⟨#[115,116,111,112]⟩ t g hg;have ht:=fun(V:World) (hV:Ch [] w V) (h0:(tk T i).kind≠0)=>ui (hp.ch hV av) (aS hB hV.size) h0;have hix:=fun(V:World) (y:Nd) (k:Nat) (hV:Ch [] w V) (h:ex T n .idx lv i=some (y,k))=>hX V B p lv i k y L hL (hp.ch hV av) (aS hB hV.size) h;have hco:=fun(V:World) (y:Nd) (k:Nat) (hV:Ch [] w V) (h:ex T n .choice lv i=some (y,k))=>hC V B p lv i k y L hL (hp.ch hV av) (aS hB hV.size) h;have he:=fun(V:World) (q:Nat) (y:Nd) (k:Nat) (hV:w.heap.size≤V.heap.size) (h:dw V B p T q) (hy:ex T n .expr lv q=some (y,k))=>hE V B p lv q k y L hL h (aS hB hV) hy;have hb:=fun(V:World) (q:Nat) (y:Nd) (k:Nat) (hV:w.heap.size≤V.heap.size) (h:dw V B p T q) (hy:ex T n .block (lv+1) q=some (y,k))=>hK V B p (lv+1) q k y (L+1) ae h (aS hB hV) hy;have hc:=fun(V:World) (a:ByteArray) (k:Nat) (hk:iQ (tk T k) [a]=true) (hV:w.heap.size≤V.heap.size) (h:dw V B p T k)=>jZ h (aS hB hV) hk;have hcl:=fun(V:World) (k:Nat) (hk:iQ (tk T k) [⟨#[59]⟩]=true) (hV:w.heap.size≤V.heap.size) (h:dw V B p T k) (a:Int) (b:Int) (s:ByteArray) (c:Option Addr) (d e:Nat)=>Ru h (aS hB hV) hk a b s c d e;have yP:=hp.Iu;have I9:=hp.E_;unfold yH at hpk ht;unfold yI at hix hco he hb;have Md:∀q y k,ex T n .block (lv+1) q=some (y,k)→-1000≤L∧L≤1000:=fun q y k h=>by have:=RQ h;omega
 generalize tk T i=t at*;clear hp hX hE hC hK hL;refine az ?_;intro hal bu;by_cases k1:t.kind=1
 ·rw[if_pos k1]at hx;replace hx:=fe hx;obtain⟨hq,hx⟩:=hx;replace hx:=bind_some hx;obtain⟨⟨y,k⟩,hy,hx⟩:=hx;replace hx:=fe hx;obtain⟨hz,hx⟩:=hx;simp only[Option.some.injEq,Prod.mk.injEq]at hx hz;obtain⟨rfl,rfl⟩:=hx;have b1:=jY k1;replace ht:=fun V hV=>ht V hV ae;replace hc:=fun V=>hc V _ _ hq;replace he:=fun V hV h=>he V _ y k hV h hy;replace hcl:=fun V=>hcl V _ hz;clear hix hco hb Md h1 h2 h3 h4 k1 hy hq hz;have zu:=ah hpk;have uo:=ah ht;have uO:=ah hc;have lD:=ah he;have lH:=ah hcl;clear hpk ht hc he hcl;go_enter func245,ntmps245;go_upto_region 5 with(first|(refine fZ ?_;intro w1 aO N1 dA bW eu eF)|((with_reducible refine(uo.out _ aW).mono ?_);refine kU ?_;intro w2 tH dW N2 nM gX ku lI)|((with_reducible refine(uO.out _ cO tH).mono ?_);refine kU ?_;intro w3 pQ gK N3 vD jK vF sJ));have st:∀V,Ch [p,w.heap.size] w3 V→V.cell? ⟨w1.heap.size,1,none⟩=some (.string t.text):=by intro V hV;have Il:w1.heap.size∉[p,w.heap.size]:=bQ;exact hV.cell Il iy
  have tC:=ah st;clear st;go_region_held3 (fun V=>V.cell? ⟨w1.heap.size,1,none⟩=some (.string t.text)) (exact tC.out _ aW) (first|((with_reducible refine(lD.out _ cO (pQ.ch (l:=[]) aW av)).mono ?_);refine jD ?_;intro w4 a4 n4 m4 yU Ns lY N4 BG nJ Jl Im)|((with_reducible refine(lH.out _ cO (Ns.ch (l:=[]) aW av) _ _ _ _ _ _).mono ?_);refine kU ?_;intro w5 zI eY N5 P7 sO KE KF));go_wp2;have cZ:=au;refine bodyPost_ret (v:=.agg #[ag 1,ag 0,.string t.text,aZ w4.heap.size 1 1]) (by simp[results,results245,go_sem,cZ,bW,gX,jK,nJ,sO,aQ,↓IntWalk.iteOmega]) rfl ⟨_,_,_,rfl,nH.akm y (by refine⟨?_,?_,?_,?_⟩<;>simp[au,aQ,Nd.kind,Nd.num,Nd.str,sO,nJ,↓IntWalk.iteOmega]) cO (yU.to (M:=[p,w.heap.size]) aW cO bP av),zI.ch (l:=[w.heap.size]) aW bP,by exact aW⟩
 rw[if_neg k1]at hx;have b1:=jN k1;by_cases k3:t.kind=3
 ·rw[if_pos k3]at hx;replace hx:=bind_some hx;obtain⟨⟨y,k⟩,hy,hx⟩:=hx;replace hx:=fe hx;obtain⟨hq,hx⟩:=hx;replace hx:=bind_some hx;obtain⟨⟨z,m⟩,hm,hx⟩:=hx;replace hx:=fe hx;obtain⟨hz,hx⟩:=hx;simp only[Option.some.injEq,Prod.mk.injEq]at hx hz hq;obtain⟨rfl,rfl⟩:=hx;have b3:=jY k3;replace hix:=fun V hV=>hix V y k hV hy;replace hc:=fun V=>hc V _ _ hq;replace he:=fun V hV h=>he V _ z m hV h hm;replace hcl:=fun V=>hcl V _ hz;clear ht hco hb Md h1 h2 h3 h4 k1 k3 hy hq hz hm;have zu:=ah hpk;have vR:=ah hix;have uO:=ah hc;have lD:=ah he;have lH:=ah hcl;clear hpk hix hc he hcl;go_enter func245,ntmps245;go_upto_region 9 with(first|(refine fZ ?_;intro w1 aO N1 dA bW eu eF)|((with_reducible refine(vR.out _ aW).mono ?_);refine jD ?_;intro w2 a2 n2 m2 iO tH dW N2 nM gX ku lI)|((with_reducible refine(uO.out _ cO (tH.ch (l:=[]) aW av)).mono ?_);refine kU ?_;intro w3 pQ gK N3 vD jK vF sJ));have st:∀V,Ch [p,w.heap.size] w3 V→V.cell? ⟨w1.heap.size,1,none⟩=some (.string t.text)∧V.cell? ⟨w2.heap.size,0,none⟩=some (ag y.kind)∧V.cell? ⟨w2.heap.size,1,none⟩=some (ag y.num)∧V.cell? ⟨w2.heap.size,2,none⟩=some (.string y.str)∧V.cell? ⟨w2.heap.size,3,none⟩=some (.slice a2 n2 m2):=by intro V hV;have Il:w1.heap.size∉[p,w.heap.size]:=bQ;have eD:w2.heap.size∉[p,w.heap.size]:=bQ;exact⟨hV.cell Il iy,hV.cell eD iy,hV.cell eD iy,hV.cell eD iy,hV.cell eD iy⟩
  have tC:=ah st;clear st;go_region_held3 (fun V=>V.cell? ⟨w1.heap.size,1,none⟩=some (.string t.text)∧V.cell? ⟨w2.heap.size,0,none⟩=some (ag y.kind)∧V.cell? ⟨w2.heap.size,1,none⟩=some (ag y.num)∧V.cell? ⟨w2.heap.size,2,none⟩=some (.string y.str)∧V.cell? ⟨w2.heap.size,3,none⟩=some (.slice a2 n2 m2)) (exact tC.out _ aW) (first|((with_reducible refine(lD.out _ cO (pQ.ch (l:=[]) aW av)).mono ?_);refine jD ?_;intro w4 a4 n4 m4 yU Ns lY N4 BG nJ Jl Im)|((with_reducible refine(lH.out _ cO (Ns.ch (l:=[]) aW av) _ _ _ _ _ _).mono ?_);refine kU ?_;intro w5 zI eY N5 P7 sO KE KF));go_wp2;have cZ:=au;refine bodyPost_ret (v:=.agg #[ag 2,ag 0,.string t.text,aZ w4.heap.size 2 2]) (by simp[results,results245,go_sem,cZ,bW,gX,jK,nJ,sO,aQ,↓IntWalk.iteOmega]) rfl ⟨_,_,_,rfl,nH.two y z (by refine⟨⟨?_,?_,?_,?_⟩,?_,?_,?_,?_⟩<;>simp[au,aQ,Nd.kind,Nd.num,Nd.str,sO,nJ,↓IntWalk.iteOmega]) cO av (iO.to (M:=[p,w.heap.size]) aW cO bP av) (yU.to (M:=[p,w.heap.size]) aW cO bP av),zI.ch (l:=[w.heap.size]) aW bP,by exact aW⟩
 rw[if_neg k3]at hx;have b3:=jN k3;by_cases ia:iQ t [sIf]=true
 ·rw[if_pos ia]at hx;have e:iQ t [⟨#[105,102]⟩]=true:=ia;rw[e]at h1;replace hco:=fun V hV=>hco V x j hV hx;clear ht hix hc he hcl hb Md h2 h3 h4 k1 k3 e ia hx;have zu:=ah hpk;have o_:=ah h1;have acd:=ah hco;clear hpk h1 hco;go_enter func245,ntmps245;go_wp2_with (first|(refine fZ ?_;intro w1 aO N1 dA bW eu eF)|((with_reducible refine(o_.out _ aW _ _ cO).mono ?_);refine df ?_;intro w11 ET N11 af4 RS af5 af6)|((with_reducible refine(acd.out _ aW).mono ?_);refine jD ?_;intro w2 a2 n2 m2 iO tH dW N2 nM gX ku lI));have cZ:=au;refine bodyPost_ret (v:=.agg #[ag x.kind,ag x.num,.string x.str,.slice a2 n2 m2]) (by simp[results,results245,go_sem,cZ,bW,RS,gX,aQ,↓IntWalk.iteOmega]) rfl ⟨_,_,_,rfl,iO.to (M:=[p,w.heap.size]) aW cO bP av,tH.ch (l:=[w.heap.size]) aW bP,by exact aW⟩
 rw[if_neg ia]at hx;have eia:iQ t [⟨#[105,102]⟩]=false:=Bool.eq_false_iff.2 ia;rw[eia]at h1;clear eia ia;by_cases ib:iQ t [Ry]=true
 ·rw[if_pos ib]at hx;replace hx:=bind_some hx;obtain⟨⟨y,k⟩,hy,hx⟩:=hx;replace hx:=bind_some hx;obtain⟨⟨z,m⟩,hm,hx⟩:=hx;simp only[Option.some.injEq,Prod.mk.injEq]at hx;obtain⟨rfl,rfl⟩:=hx;have e:iQ t [⟨#[119,104,105,108,101]⟩]=true:=ib;rw[e]at h2;replace ht:=fun V hV=>ht V hV (lW e);replace he:=fun V hV h=>he V _ y k hV h hy;replace hb:=fun V hV h=>hb V _ z m hV h hm;replace Md:=Md _ _ _ hm;have hwr:IntKind.i64.wrap (L+1)=L+1:=gL _ ae;clear hco hix hc hcl h3 h4 k1 k3 e ib hy hm;have zu:=ah hpk;have o_:=ah h1;have yR:=ah h2;have uo:=ah ht;have lD:=ah he;have LZ:=ah hb;clear hpk h1 h2 ht he hb;go_enter func245,ntmps245;go_upto_region 15 with(first|(refine fZ ?_;intro w1 aO N1 dA bW eu eF)|((with_reducible refine(o_.out _ aW _ _ cO).mono ?_);refine df ?_;intro w11 ET N11 af4 RS af5 af6)|((with_reducible refine(yR.out _ aW _ _ cO).mono ?_);refine df ?_;intro w12 Jc N12 akP Y9 akQ akR)|((with_reducible refine(uo.out _ aW).mono ?_);refine kU ?_;intro w2 tH dW N2 nM gX ku lI)|((with_reducible refine(lD.out _ cO tH).mono ?_);refine jD ?_;intro w3 a3 n3 m3 nG pQ gK N3 vD jK vF sJ));go_region_with (first|((with_reducible refine(LZ.out _ cO (pQ.ch (l:=[]) aW av)).mono ?_);refine jD ?_;intro w4 a4 n4 m4 yU Ns lY N4 BG nJ Jl Im));all_goals
   go_wp2
   have cZ:=au;refine bodyPost_ret (v:=.agg #[ag 4,ag 0,.string ⟨#[]⟩,aZ w4.heap.size 2 2]) (by simp[results,results245,go_sem,cZ,bW,RS,Y9,gX,jK,nJ,aQ,↓IntWalk.iteOmega]) rfl ⟨_,_,_,rfl,nH.two y z xG cO av (nG.to (M:=[p,w.heap.size]) aW cO bP av) (yU.to (M:=[p,w.heap.size]) aW cO bP av),Ns.ch (l:=[w.heap.size]) aW bP,by exact aW⟩
 rw[if_neg ib]at hx;have eib:iQ t [⟨#[119,104,105,108,101]⟩]=false:=Bool.eq_false_iff.2 ib;rw[eib]at h2;clear eib ib;by_cases ic:iQ t [afP]=true
 ·rw[if_pos ic]at hx;replace hx:=bind_some hx;obtain⟨⟨y,k⟩,hy,hx⟩:=hx;replace hx:=fe hx;obtain⟨hq,hx⟩:=hx;replace hx:=bind_some hx;obtain⟨⟨z,m⟩,hm,hx⟩:=hx;replace hx:=fe hx;obtain⟨hz,hx⟩:=hx;simp only[Option.some.injEq,Prod.mk.injEq]at hx hz hq;obtain⟨rfl,rfl⟩:=hx;have e:iQ t [⟨#[101,102,102,101,99,116]⟩]=true:=ic;rw[e]at h3;replace ht:=fun V hV=>ht V hV (lW e);have abg:=ah fun V hV h=>he V _ y k hV h hy;have U4:=ah fun V hV h=>he V _ z m hV h hm;replace hc:=fun V=>hc V _ _ hq;replace hcl:=fun V=>hcl V _ hz;clear he hco hix hb Md h4 k1 k3 e ic hy hm hq hz;have zu:=ah hpk;have o_:=ah h1;have yR:=ah h2;have Qc:=ah h3;have uo:=ah ht;have uO:=ah hc;have lH:=ah hcl;clear hpk h1 h2 h3 ht hc hcl;go_enter func245,ntmps245;go_upto_region 20 with(first|(refine fZ ?_;intro w1 aO N1 dA bW eu eF)|((with_reducible refine(o_.out _ aW _ _ cO).mono ?_);refine df ?_;intro w11 ET N11 af4 RS af5 af6)|((with_reducible refine(yR.out _ aW _ _ cO).mono ?_);refine df ?_;intro w12 Jc N12 akP Y9 akQ akR)|((with_reducible refine(Qc.out _ aW _ _ cO).mono ?_);refine df ?_;intro w13 aqE N13 aqF af7 aqG aqH)|((with_reducible refine(uo.out _ aW).mono ?_);refine kU ?_;intro w2 tH dW N2 nM gX ku lI)|((with_reducible refine(abg.out _ cO tH).mono ?_);refine jD ?_;intro w3 a3 n3 m3 nG pQ gK N3 vD jK vF sJ)|((with_reducible refine(uO.out _ cO (pQ.ch (l:=[]) aW av)).mono ?_);refine kU ?_;intro w4 Ns lY N4 BG nJ Jl Im));have st:∀V,Ch [p,w.heap.size] w4 V→V.cell? ⟨w3.heap.size,0,none⟩=some (ag y.kind)∧V.cell? ⟨w3.heap.size,1,none⟩=some (ag y.num)∧V.cell? ⟨w3.heap.size,2,none⟩=some (.string y.str)∧V.cell? ⟨w3.heap.size,3,none⟩=some (.slice a3 n3 m3):=by intro V hV;have Il:w3.heap.size∉[p,w.heap.size]:=bQ;exact⟨hV.cell Il rP,hV.cell Il rP,hV.cell Il rP,hV.cell Il rP⟩
  have tC:=ah st;clear st;go_region_held3 (fun V=>V.cell? ⟨w3.heap.size,0,none⟩=some (ag y.kind)∧V.cell? ⟨w3.heap.size,1,none⟩=some (ag y.num)∧V.cell? ⟨w3.heap.size,2,none⟩=some (.string y.str)∧V.cell? ⟨w3.heap.size,3,none⟩=some (.slice a3 n3 m3)) (exact tC.out _ aW) (first|((with_reducible refine(U4.out _ cO (Ns.ch (l:=[]) aW av)).mono ?_);refine jD ?_;intro w5 a5 n5 m5 QD zI eY N5 P7 sO KE KF)|((with_reducible refine(lH.out _ cO (zI.ch (l:=[]) aW av) _ _ _ _ _ _).mono ?_);refine kU ?_;intro w6 hp6 ow N6 hN6 TS hf6 hs6));go_wp2;have cZ:=au;refine bodyPost_ret (v:=.agg #[ag 5,ag 0,.string ⟨#[]⟩,aZ w5.heap.size 2 2]) (by simp[results,results245,go_sem,cZ,bW,RS,Y9,af7,gX,jK,nJ,sO,TS,aQ,↓IntWalk.iteOmega]) rfl ⟨_,_,_,rfl,nH.two y z (by refine⟨⟨?_,?_,?_,?_⟩,?_,?_,?_,?_⟩<;>simp[au,aQ,Nd.kind,Nd.num,Nd.str,TS,sO,↓IntWalk.iteOmega]) cO av (nG.to (M:=[p,w.heap.size]) aW cO bP av) (QD.to (M:=[p,w.heap.size]) aW cO bP av),hp6.ch (l:=[w.heap.size]) aW bP,by exact aW⟩
 rw[if_neg ic]at hx;have eic:iQ t [⟨#[101,102,102,101,99,116]⟩]=false:=Bool.eq_false_iff.2 ic;rw[eic]at h3;clear eic ic;replace hx:=fe hx;obtain⟨id_,hx⟩:=hx;replace hx:=fe hx;obtain⟨hz,hx⟩:=hx;simp only[Option.some.injEq,Prod.mk.injEq]at hx hz;obtain⟨rfl,rfl⟩:=hx;have e:iQ t [⟨#[115,116,111,112]⟩]=true:=id_;rw[e]at h4;replace ht:=fun V hV=>ht V hV (lW e);replace hcl:=fun V=>hcl V _ hz;clear he hco hix hb Md hc k1 k3 e id_ hz;have zu:=ah hpk;have o_:=ah h1;have yR:=ah h2;have Qc:=ah h3;have Hh4:=ah h4;have uo:=ah ht;have lH:=ah hcl;clear hpk h1 h2 h3 h4 ht hcl;go_enter func245,ntmps245;go_wp2_with (first|(refine fZ ?_;intro w1 aO N1 dA bW eu eF)|((with_reducible refine(o_.out _ aW _ _ cO).mono ?_);refine df ?_;intro w11 ET N11 af4 RS af5 af6)|((with_reducible refine(yR.out _ aW _ _ cO).mono ?_);refine df ?_;intro w12 Jc N12 akP Y9 akQ akR)|((with_reducible refine(Qc.out _ aW _ _ cO).mono ?_);refine df ?_;intro w13 aqE N13 aqF af7 aqG aqH)|((with_reducible refine(Hh4.out _ aW _ _ cO).mono ?_);refine df ?_;intro w14 af8 N14 ayK aqI ayL ayM)|((with_reducible refine(uo.out _ aW).mono ?_);refine kU ?_;intro w2 tH dW N2 nM gX ku lI)|((with_reducible refine(lH.out _ cO tH _ _ _ _ _ _).mono ?_);refine kU ?_;intro w3 pQ gK N3 vD jK vF sJ));have cZ:=au;refine bodyPost_ret (v:=.agg #[ag 6,ag 0,.string ⟨#[]⟩,.slice none 0 0]) (by simp[results,results245,go_sem,cZ,bW,RS,Y9,af7,aqI,gX,jK,aQ,↓IntWalk.iteOmega]) rfl ⟨_,_,_,rfl,ig.nil,pQ.ch (l:=[w.heap.size]) aW bP,by exact aW⟩
end Pa
end Go.Proofs.YtohpdonnpbjfdaaGreatDoor
