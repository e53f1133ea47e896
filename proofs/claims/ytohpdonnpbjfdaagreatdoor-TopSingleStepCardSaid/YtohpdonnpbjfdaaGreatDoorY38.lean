/- What is shown: package compile, package patch. Conditions: as each theorem states. -/
import Derived.Test.YtohpdonnpbjfdaaGreatDoorY10
import Derived.Test.YtohpdonnpbjfdaaGreatDoorY33
set_option maxHeartbeats 40000000
set_option maxRecDepth 100000
set_option linter.unusedVariables false
set_option linter.unusedSimpArgs false
open Go.Proofs.Tryz
namespace Go.Proofs.YtohpdonnpbjfdaaGreatDoor
theorem DI {P:Prop} (h:P:=by
 go_enter func168,ntmps168;go_wp2;go_ret;refine⟨_,_,rfl,?_,by exact aG⟩;intro j hj;obtain rfl:j=0:=by simpa using hj
 exact⟨_,rfl,ae,av,by simp[aQ]⟩):P:=h
theorem ED {P:Prop} (h:P:=by rw[←L_];exact((((((((((((k2.put 0 _).put 1 _).put 2 _).put 3 _).put 4 _).put 5 _).put 6 _).put 7 _).put 8 _).put 9 _).put 10 _).put 11 _)):P:=h
theorem rC {P:Prop} (h:P:=by simp[results,gY,go_sem,cF]):P:=h
theorem oM {P:Prop} (h:P:=by rw[←L_];exact aW):P:=h
theorem xA {P Q:Prop} (q:Q) (h:Q→P:=by have kP:aV W w.heap.size [ag x.1.kind,ag x.1.num,.string x.1.str,.slice x.2.1 x.2.2.1 x.2.2.2,ag y.1.kind,ag y.1.num,.string y.1.str,.slice y.2.1 y.2.2.1 y.2.2.2,ag z.1.kind,ag z.1.num,.string z.1.str,.slice z.2.1 z.2.2.1 z.2.2.2]:=rV;intro kk;revert kP;exact kk):P:=h q
theorem Dk {P Q:Prop} (q:Q) (h:Q→P:=by have kP:aV W2 w1.heap.size [ag x.1.kind,ag x.1.num,.string x.1.str,.slice x.2.1 x.2.2.1 x.2.2.2,ag y.1.kind,ag y.1.num,.string y.1.str,.slice y.2.1 y.2.2.1 y.2.2.2,ag z.1.kind,ag z.1.num,.string z.1.str,.slice z.2.1 z.2.2.1 z.2.2.2]:=oJ;intro kk;revert kP;exact kk):P:=h q
theorem Dm {P Q:Prop} (q:Q) (h:Q→P:=by have kF:aV WF T [ag x.1.kind,ag x.1.num,.string x.1.str,.slice x.2.1 x.2.2.1 x.2.2.2,ag y.1.kind,ag y.1.num,.string y.1.str,.slice y.2.1 y.2.2.1 y.2.2.2,ag z.1.kind,ag z.1.num,.string z.1.str,.slice z.2.1 z.2.2.1 z.2.2.2]:=ED;intro kk;revert kF;exact kk):P:=h q
theorem Dp {P Q:Prop} (q:Q) (h:Q→P:=by have kR:aV W (w.heap.size+1) [ag 0,ag 0,.string ⟨#[]⟩,.slice none 0 0,ag 0,ag 0,.string ⟨#[]⟩,.slice none 0 0,ag 0,ag 0,.string ⟨#[]⟩,.slice none 0 0]:=eX;intro kk;revert kR;exact kk):P:=h q
theorem Dq {P:Prop} (h:P:=by generalize L_:World.setCell _ _ _=WF;have kF:aV WF T [ag x.1.kind,ag x.1.num,.string x.1.str,.slice x.2.1 x.2.2.1 x.2.2.2,ag y.1.kind,ag y.1.num,.string y.1.str,.slice y.2.1 y.2.2.1 y.2.2.2,ag z.1.kind,ag z.1.num,.string z.1.str,.slice z.2.1 z.2.2.1 z.2.2.2]:=ED;have hch:Ch [T] w1 WF:=oM;have cF:=kF.cell;refine bodyPost_ret (v:=.tuple #[.agg #[ag x.1.kind,ag x.1.num,.string x.1.str,.slice x.2.1 x.2.2.1 x.2.2.2,ag y.1.kind,ag y.1.num,.string y.1.str,.slice y.2.1 y.2.2.1 y.2.2.2,ag z.1.kind,ag z.1.num,.string z.1.str,.slice z.2.1 z.2.2.1 z.2.2.2],ag 0]) rC rfl ⟨rfl,Ch.WV A_ hch hTw nD⟩):P:=h
theorem Dn {P:Prop} (h:P:=by have cF:=kF.cell;refine bodyPost_ret (v:=.tuple #[.agg #[ag x.1.kind,ag x.1.num,.string x.1.str,.slice x.2.1 x.2.2.1 x.2.2.2,ag y.1.kind,ag y.1.num,.string y.1.str,.slice y.2.1 y.2.2.1 y.2.2.2,ag z.1.kind,ag z.1.num,.string z.1.str,.slice z.2.1 z.2.2.1 z.2.2.2],ag 0]) rC rfl ⟨x,y,z,rfl,⟨Hon.out,HK.out.ch hch hTW nk⟩,Ch.WV A_ hch hTw nD⟩):P:=h
namespace Pa
open Go.RowKit aN Qt Bk Mp Ro
attribute [local go_sem] Oper.semAt_some
variable {w:World} {g cap B:Nat} {cd:Cd} {e:TypeId}
def Zi:List Int:=qC.flatMap fun x=>[x.1,x.2]
def tJ:List Value:=Zi.map (ag ·)
theorem VN (hg:aV w 1 tJ) (k:Nat) (hk:k<22):w.cell? ⟨1,k*2,none⟩=some (ag (qC.getD k (0,0)).1)∧w.cell? ⟨1,k*2+1,none⟩=some (ag (qC.getD k (0,0)).2):=by rw[hg.cell,hg.cell];have key:∀k,k<22→Zi[k*2]?=some (qC.getD k (0,0)).1∧Zi[k*2+1]?=some (qC.getD k (0,0)).2:=bL;simp only[tJ,List.getElem?_map,(key k hk).1,(key k hk).2,Option.map_some,and_self]
theorem GZ:∀(l:Cd) (i:Nat),i<l.length→(l.flatMap kM)[i*2]?=some (ag (l.getD i (0,0)).1)∧(l.flatMap kM)[i*2+1]?=some (ag (l.getD i (0,0)).2)
 |[],i,h=>by simp at h
 |x::l,0,h=>⟨rfl,rfl⟩
 |x::l,i+1,h=>by
  have ih:=GZ l i (by simpa using h)
  rw[List.flatMap_cons,show(i+1)*2=i*2+1+1 from ae]
  exact ih
def JP (w:World) (g:Nat) (cd:Cd):Prop:=∀i,i<cd.length→w.cell? ⟨g,i*2,none⟩=some (ag (cd.getD i (0,0)).1)∧w.cell? ⟨g,i*2+1,none⟩=some (ag (cd.getD i (0,0)).2)
theorem JP.later {w':World} (h:JP w g cd) (hb:aJ w w'):JP w' g cd:=fun i hi=>⟨ai hb (h i hi).1,ai hb (h i hi).2⟩
theorem NG (h:w.ownsRow B e 2 (aZ g cd.length cap) cd.length (cd.flatMap kM)):JP w g cd:=fun i hi=>by have h1:=h.cells (g:=g) rfl (i*2) _ (GZ cd i hi).1;have h2:=h.cells (g:=g) rfl (i*2+1) _ (GZ cd i hi).2;rw[zt]at h1 h2;exact⟨h1,h2⟩
theorem ownsRow_pop {W:World} {q N:Nat} {xs:List Value} {x:Value} (h:W.ownsRow B e 1 (aZ q (N+1) cap) (N+1) (xs++[x])):W.ownsRow B e 1 (aZ q N cap) N xs:=by
 have hl:xs.length=N:=by have:=h.1;simp at this;omega
 refine⟨ae,.inr ?_⟩;rcases h.2 with⟨h1,_⟩|⟨g,cp,cur,h1,h2,h3,h4,h5,h6,h7⟩
 ·cases h1
 ·injection h1 with h1 _ h8;refine⟨g,cp,cur,by change Value.slice _ _ _=_;rw[h1,h8],h2,h3,ae,h5,h6,?_⟩;rw[Nat.mul_one]at h7;have h9:=congrArg (List.take N) h7;have h10:(xs++[x]).take N=xs:=by rw[List.take_append_of_le_length ae,List.take_of_length_le ae]
  rw[h10,List.take_take,Nat.min_eq_left ae]at h9;rw[Nat.mul_one];exact h9
theorem acm {i:Nat} {e0 e1 e2:Int} (hc:JP w g cd) (hl:cd.length≤1000) (hi:i<cd.length):
  Calls prog 168 #[.agg #[aZ g cd.length cap,ag e0,ag e1,ag e2],ag i] w fun e w'=>∃a cap',e=.returned (.slice a (I_ cd i).length cap')∧(∀j,j<(I_ cd i).length→∃b,a=some ⟨b,0,none⟩∧w.heap.size≤b∧b<w'.heap.size∧w'.cell? ⟨b,j,none⟩=some (ag ((I_ cd i).getD j 0)))∧aJ w w':=by
 obtain⟨c0,c1⟩:=hc i hi;unfold I_;have hiI:(i:Int)<(cd.length:Int):=ae;generalize cd.getD i (0,0)=x at*;obtain⟨op,n⟩:=x;have hgl:=aU _ _ c0;simp only at hgl c0 c1;generalize cd.length=N at*;clear hc;have cZ:=au;by_cases k21:op=21
 ·subst k21;simp only[if_true];go_enter func168,ntmps168;go_wp2;go_ret;exact⟨_,_,rfl,av,by exact aG⟩
 have b21:(op==21)=false:=beq_eq_false_iff_ne.2 k21;simp only[if_neg k21];by_cases k18:op=18
 ·subst k18;simp only[if_true];exact DI
 have b18:(op==18)=false:=beq_eq_false_iff_ne.2 k18;simp only[if_neg k18];by_cases k19:op=19
 ·subst k19;simp only[if_true];go_enter func168,ntmps168;go_wp2;go_ret;refine⟨_,_,rfl,?_,by exact aG⟩;intro j hj;replace hj:j<2:=hj;refine⟨_,rfl,ae,av,?_⟩;rcases(by omega:j=0∨j=1)with rfl|rfl<;>simp[aQ]
 have b19:(op==19)=false:=beq_eq_false_iff_ne.2 k19;simp only[if_neg k19];exact DI
theorem Zg {d:Int} (hd:d≤16) (w:World):Calls prog 129 #[.agg #[.bool false,.bool false,ag d]] w fun e w'=>e=.returned (.bool true)∧aJ w w':=by go_enter func129,ntmps129;go_wp2;go_ret;exact⟨by simp[hd],by exact aG⟩
variable {W w W':World} {v:Value} {PL xs:List Value} {s:An} {size n b:Nat}
theorem gP {base:Nat} (h:w.ownsRow base e size v n xs) (hb:aJ w W):W.ownsRow base e size v n xs:=by
 refine h.kept (row:=none) ⟨hb.os,hb.tape,hb.output,hb.size,fun k hk _=>hb.block k hk⟩ ?_;cases v.ownBlock with
 |none=>exact .inl rfl
 |some k=>exact .inr av
theorem aq1 (w:World) (x:Value) (t:TypeId):∀(j:Nat) (u:Value),[x][j]?=some u→(w.alloc (.cells #[x] t)).cell? ((⟨w.heap.size,0,none⟩:Addr).add j)=some u:=by
 intro j u h;match j with
 |0=>rw[zt,World.cell?_alloc_new];simpa using h
 |j+1=>simp at h
theorem Tryz.age:(prog.info? 3).map (fun i=>(i.zero,i.size,i.bytes))=some (some (ag 0),1,8):=aL
def nts (l:List Nat):List Value:=l.map fun(x:Nat)=>Value.int .i64 (x:Int)
theorem acj (l:List Nat) (i:Nat):nts (l++[i])=nts l++[ag (i:Int)]:=by simp[nts]
structure Iy (w W:World) (PL:List Value) (v:Value) (s:An):Prop where
 bl:aJ w W
 kP:aV W w.heap.size PL
 kR:aV W (w.heap.size+1) [.bool false,.bool false,ag 0]
 kA:aV W (w.heap.size+2) [.bool false,.bool false,ag s.dp]
 rD:Row .i64 W (w.heap.size+3) s.ds
 own:W.ownsRow (w.heap.size+4) 3 1 v s.op.length (nts s.op)
theorem Iy.later (h:Iy w W PL v s) (hb:aJ W W'):Iy w W' PL v s:=
 ⟨h.bl.trans (hb.mono h.bl.size),h.kP.later hb,h.kR.later hb,h.kA.later hb,h.rD.below hb h.rD.lt,gP h.own hb⟩
theorem Iy.put (h:Iy w W PL v s) (d:Int):Iy w (W.setCell ⟨w.heap.size+2,2,none⟩ (ag d)) PL v ⟨s.ds,s.op,d⟩:=
 ⟨h.bl.setCell av _,h.kP.other av _,h.kR.other av _,h.kA.put 2 _,h.rD.other av _,dQ h.own (fun g e=>by have:=(h.own.lt g e).1;omega) _⟩
theorem Iy.mark (h:Iy w W PL v s) {x:Nat} (hx:x<s.ds.length) (d:Int):Iy w (W.setCell ⟨w.heap.size+3,x,none⟩ (ag d)) PL v ⟨s.ds.set x d,s.op,s.dp⟩:=
 ⟨h.bl.setCell av _,h.kP.other av _,h.kR.other av _,h.kA.other av _,h.rD.put x hx d,dQ h.own (fun g e=>by have:=(h.own.lt g e).1;omega) _⟩
theorem Iy.push {v':Value} (h:Iy w W PL v s) (x:Nat) (hg:W.grownBy W' v.ownBlock) (ho:W'.ownsRow (w.heap.size+4) 3 1 v' (s.op.length+1) (nts s.op++[ag (x:Int)])):Iy w W' PL v' ⟨s.ds,s.op++[x],s.dp⟩:=by have hk:∀k,k<w.heap.size+4→k<W.heap.size→W'.heap[k]?=W.heap[k]?:=fun k h1 h2=>hg.block k h2 (fun e=>by have:=(h.own.lt k e.symm).1;omega);exact⟨h.bl.grown hg h.bl.size (fun k e=>by have:=(h.own.lt k e).1;omega),h.kP.keep hg.size (hk _ ae h.kP.lt),h.kR.keep hg.size (hk _ ae h.kR.lt),h.kA.keep hg.size (hk _ ae h.kA.lt),h.rD.keep hg.size (hk _ ae h.rD.lt),by simpa[nts]using ho⟩
theorem Iy.first {ds:List Int} {dp:Int} (h:Iy w W PL v ⟨ds,[],dp⟩) (x:Nat):Iy w (W.alloc (.cells #[ag x] 3)) PL (aZ W.heap.size 1 1) ⟨ds,[x],dp⟩:=by have h1:=h.later ((aK _ _).alloc (aH _) (.cells #[ag (x:Int)] 3));refine⟨h1.bl,h1.kP,h1.kR,h1.kA,h1.rD,rfl,.inr ⟨W.heap.size,1,#[ag x],rfl,?_,alloc_at rfl,av,by unfold maxLen;omega,rfl,rfl⟩⟩;have:=h.rD.lt;omega
theorem ack (h:W.ownsRow b e size v 0 xs):∃a cap,v=.slice a 0 cap:=by
 rcases h.2 with⟨h1,_⟩|⟨g,cp,cur,h1,_⟩
 ·exact⟨_,_,h1⟩
 ·exact⟨_,_,h1⟩
theorem NI (h:W.ownsRow b e size v (n+1) xs):∃q cap,v=aZ q (n+1) cap∧n+1≤cap:=by
 rcases h.2 with⟨_,h1⟩|⟨g,cp,cur,h1,_,_,h2,_⟩
 ·omega
 ·exact⟨_,_,h1,h2⟩
theorem Zh (b n m:Nat) (h2:n+1≤m) (W:World):Sem.run prog (Instr.slice 22 (aZ b (n+1) m) none (some (ag (n:Int))) none) W=.ok (aZ b n m) W:=by have e1:¬((m:Int)<(n:Int)):=ae;have e2:(0:Int)≤(n:Int):=ae;have e3:(n:Int)≤(m:Int):=ae;simp[Instr.slice,run_underlying underlying22,Instr.sliceBounds,run_sliceBound,sliced,go_sem, *]
theorem agd {g cap entry:Nat} {cd:Cd} {e0 e1 e2 d:Int} (hc:JP w g cd) (hl:cd.length≤1000) (ho:∀x∈cd,0≤x.1∧x.1≤21) (hg:aV w 1 tJ) (he:entry<cd.length) (ha:anM cd 500 ⟨(List.replicate cd.length 0).set entry 1,[entry],0⟩=some d):
  Calls prog 128 #[.agg #[aZ g cd.length cap,ag e0,ag e1,ag e2],ag entry] w fun e w'=>e=.returned (.agg #[.bool false,.bool false,ag d])∧aJ w w':=by
 obtain⟨i0,hii,sN,nk,nD⟩:=info_parts Tryz.age;have sS:=fun(i:Nat) (hi:i<cd.length) (V:World) (hV:aJ w V)=>acm (cap:=cap) (e0:=e0) (e1:=e1) (e2:=e2) (hc.later hV) hl hi;have hgl:=(hc entry he).1;have hgl:=aU _ _ hgl;simp only at hgl;have BB:=hg.lt;have heI:(entry:Int)<(cd.length:Int):=ae;obtain⟨N,hN⟩:∃N,N=cd.length:=⟨_,rfl⟩
 have HN:=ah hN;rw[←hN]at he heI ha hl⊢;simp only[←hN]at sS;clear hN;have uO:=ah hc;have KL:=ah ho;have MU:=ah hg;have ak7:=ah sS;have Hha:=ah ha;clear hc ho hg sS ha;refine az ?_;intro hal bu;have gY:=results128;go_enter func128,ntmps128;go_upto_region 2 with(fail);refine aP fun W hW=>?_;obtain⟨PL,hPL⟩:∃PL:List Value,PL=[aZ g N cap,ag e0,ag e1,ag e2]:=⟨_,rfl⟩
 have k0:aV W w.heap.size PL:=by rw[hW,hPL];exact((aV.new _ _ _ _ rfl).alloc _).alloc _
 have k1:aV W (w.heap.size+1) [.bool false,.bool false,ag 0]:=fV;have k2:aV W (w.heap.size+2) [.bool false,.bool false,ag 0]:=eX;have hbW:aJ w W:=aM;have hsz:W.heap.size=w.heap.size+3:=xR;have HS:=ah hsz;have c0:=k0.cell;rw[hPL]at c0;clear hW hsz;go_wp2_with (at_make;refine wpList_make_row _ .i64 rfl _ _ _ rfl 3 i0 8 underlying22 hii sN nk nD .i64 .i64 N N N rfl rfl rfl rfl ae ae ?c1);case c1=>
 intro w1 hrow aO;have hA0:Iy w w1 PL (.slice none 0 0) ⟨List.replicate N 0,[],0⟩:=by refine⟨hbW.trans (aO.mono hbW.size),k0.later aO,k1.later aO,k2.later aO,?_,jw _ _ _ _⟩;rw[←HS.out];exact hrow
 rw[HS.out];have acn:w.heap.size+3<w1.heap.size:=by have:=hA0.rD.lt;exact this
 have fD:=hA0.rD.free;have cE:=hA0.rD.cells entry (by simpa using he);clear hrow aO k0 k1 k2 c0 hbW HS W;go_upto_region 4 with(fail);refine aP fun W4 Iq=>?_;have hA1:Iy w W4 PL (.slice none 0 0) ⟨(List.replicate N 0).set entry 1,[],0⟩:=by rw[Iq];exact hA0.mark (by simpa using he) 1
 clear Iq hA0 fD cE acn w1;go_upto_region 5 with(fail);refine aP fun W5 Ko=>?_;have hA2:Iy w W5 PL (aZ W4.heap.size 1 1) ⟨(List.replicate N 0).set entry 1,[entry],0⟩:=by rw[Ko];exact hA1.first entry
 obtain⟨v0,hv0⟩:∃v0,v0=Value.slice (some ⟨W4.heap.size,0,none⟩) 1 1:=⟨_,rfl⟩
 (try simp only[aZ]at hA2);rw[←hv0]at hA2⊢;clear Ko hA1 hv0 W4;obtain⟨R,hR⟩:∃R:Nat→Value→World→Prop,R=fun f v wr=>∃s,f≤500∧anM cd f s=some d∧Bd N (600-f) s∧0≤s.dp∧s.dp≤600-f∧s.op.length≤1001-2*f∧Iy w wr PL v s:=⟨_,rfl⟩
 have h0:R 500 v0 W5:=by
  rw[hR];refine⟨_,aH _,Hha.out,⟨av,fun i hi=>?_,by simpa using he⟩,av,av,av,hA2⟩;rw[Aq _ _ _ _ (by simpa using he)];split
  ·omega
  ·simp[List.getD_eq_getElem?_getD,List.getElem?_replicate,hi]
 have HR:=ah hR;clear hR hA2 Hha;go_loopw [7] (fun v wr=>∃f,R f v wr) (fun v wr=>least fun f=>R f v wr);case atStart=>exact⟨500,h0⟩
 case round=>
  clear h0;obtain⟨f,hf,hle⟩:∃f,R f _ _∧f≤least fun f=>R f _ _:=⟨_,GV hrel,aH _⟩
  clear hrel;rw[HR.out]at hf;obtain⟨⟨ds,op,dp⟩,KE,ha,hbd,aq2,aq3,ak8,hA⟩:=hf;simp only at aq2 aq3 ak8;have cP:=hA.kP.cell;rw[hPL]at cP;have cA:∀i,wr.cell? ⟨w.heap.size+1+1,i,none⟩=_:=hA.kA.cell;have fA:∀i,wr.frozen? ⟨w.heap.size+1+1,i,none⟩=false:=hA.kA.free;have fD:=hA.rD.free;have hz:=hA.rD.lt;have aaR:=ah hle;clear hle;cases f with
  |zero=>exact absurd ha (aco _ _ _)
  |succ f=>
  rcases acp cd f _ d ha with⟨hop,hdp⟩|⟨op',i,hop,h1,s',hnx,ha'⟩
  ·simp only at hop hdp;subst hop hdp;obtain⟨a,cp,rfl⟩:=ack hA.own;have fR:=hA.kR.free;have cR:=hA.kR.cell;have hbl:=hA.bl;have lR:=hA.kR.lt;have cZ:=au;go_wp2;refine bodyPost_ret (v:=.agg #[.bool false,.bool false,ag dp]) (by simp[results,gY,go_sem,cZ,cR,↓IntWalk.iteOmega]) rfl ⟨rfl,?_⟩;exact aG
  ·simp only at hop h1 hnx;subst hop;have hown:=hA.own;simp only[List.length_append,List.length_cons,List.length_nil,Nat.zero_add,acj]at hown;simp only[List.length_append,List.length_cons,List.length_nil,Nat.zero_add]at ak8;have hml:op'.length≤1000:=ae;obtain⟨q,cq,rfl,hq⟩:=NI hown;have ak9:=ownsRow_pop hown;have cq1:wr.cell? ⟨q,op'.length,none⟩=some (ag (i:Int)):=by have h2:=hown.cells (g:=q) rfl op'.length (ag (i:Int)) (by rw[List.getElem?_append_right (by simp[nts])];simp[nts]);rwa[zt]at h2
   have Uy:=Zh q op'.length cq hq;have hAp:Iy w wr PL (aZ q op'.length cq) ⟨ds,op',dp⟩:=⟨hA.bl,hA.kP,hA.kR,hA.kA,hA.rD,ak9⟩
   have hi:i<N:=hbd.op i av;have hiI:(i:Int)<(N:Int):=ae;have hci:=(uO.out i (by rw[←HN.out];exact hi)).1;have hm:cd.getD i (0,0)∈cd:=by rw[List.getD_eq_getElem?_getD,List.getElem?_eq_getElem (by rw[←HN.out];exact hi)];simp
   have iO:=KL.out _ hm;clear hm;have RU:=ah fun(V:World) (hV:aJ w V)=>ak7.out i hi V hV;have hsl:=acr cd i;generalize cd.getD i (0,0)=ci at*;obtain⟨oc,on⟩:=ci;simp only at h1 hnx hci iO;obtain⟨k,rfl⟩:∃k:Nat,oc=k:=⟨oc.toNat,ae⟩
   simp only[Int.toNat_natCast]at h1 hnx;have ay8:(k:Int)<22:=ae;obtain⟨g0,g1⟩:=VN MU.out k ae;obtain⟨p0,p1,u0,u1⟩:=agf k ae;generalize qC.getD k (0,0)=E at*;obtain⟨p,u⟩:=E;simp only at h1 hnx g0 g1 p0 p1 u0 u1;replace hci:=ai hA.bl hci;replace g0:=ai hA.bl g0;replace g1:=ai hA.bl g1;have hdi:=hbd.ds i hi;have cDi:=hA.rD.cells i (by rw[hbd.len];exact hi);simp only at hdi cDi;generalize ds.getD i 0=dv at*;generalize I_ cd i=xs at*;have aq5:=hA.bl.size;have ay9:g<wr.heap.size:=ae;have hg1':1<wr.heap.size:=ae;have Hnx:=ah hnx;have jO:=ah hown;clear hown ak9 hA hnx;go_upto_region 9 with(fail);refine aP fun W9 hW9=>?_;have Cn:aJ wr W9:=by rw[hW9];exact aG
   have q0:W9.cell? ⟨wr.heap.size,0,none⟩=some (ag p):=by rw[hW9];simp[aQ]
   have q1:W9.cell? ⟨wr.heap.size,1,none⟩=some (ag u):=by rw[hW9];simp[aQ]
   have hA9:=hAp.later Cn;have cA9:∀i,W9.cell? ⟨w.heap.size+1+1,i,none⟩=_:=hA9.kA.cell;have fA9:∀i,W9.frozen? ⟨w.heap.size+1+1,i,none⟩=false:=hA9.kA.free;have cP9:=hA9.kP.cell;rw[hPL]at cP9;have aq6:=ai Cn cDi;have hz9:=Cn.size;have hlp:wr.heap.size<W9.heap.size:=by rw[hW9];simp
   clear hW9 cP cA fA fD cDi g0 g1 hci cq1 Uy hAp;go_upto_region 14 with(fail);refine aP fun W14 agh=>?_;obtain⟨dq,hdq⟩:∃dq,dq=dv-1+(u-p):=⟨_,rfl⟩
   have RV:Iy w W14 PL (aZ q op'.length cq) ⟨ds,op',max dp dq⟩:=by rw[agh,hdq];exact hA9.put _
   have af8:aJ w W14:=RV.bl;have ak_:Below w.heap.size wr W14:=by rw[agh];exact(Cn.mono ae).setCell bU _
   have ala:nxM N dq xs ⟨ds,op',max dp dq⟩=some s':=by rw[hdq,HN.out];exact Hnx.out
   obtain⟨Ss,t0,t1,t2,t3⟩:=GX N (600-f) dq ae xs ⟨ds,op',max dp dq⟩ s' ala ⟨hbd.len,fun i hi=>by have:=hbd.ds i hi;simp only at this⊢;omega,fun i hi=>hbd.op i (by simp[hi])⟩;simp only at t2;rw[←t0]at RV;have azc:0≤max dp dq∧max dp dq≤600-f:=ae;have azd: -2≤dq∧dq≤600:=ae;rw[←hdq];have hlq:=(RV.own.lt q rfl).2;have alb:=RV.kP.cell;rw[hPL]at alb;have aq8:=RV.rD.lt;clear ala agh hA9 cA9 fA9 cP9 aq6 hz9 hlp q0 q1 Cn hz aq5 W9 hdq Hnx t0 ak_ hdi h1;have alc:=ah RV;have Ht2:=ah t2;have Ht3:=ah t3;have vQ:=ah hbd;clear t2 t3 hbd;clear RV;go_wp2_with (first|((with_reducible refine(RU.out _ af8).mono ?_);rintro e w15 ⟨a,cx,rfl,hxs,ald⟩));have ale:=alc.out.later ald;have alf:∀j,j<xs.length→∃b,a=some ⟨b,0,none⟩∧b<w15.heap.size∧q≠b∧w.heap.size+4≤b∧w15.cell? ⟨b,j,none⟩=some (ag (xs.getD j 0)):=fun j hj=>by obtain⟨b,p1,p2,p3,p4⟩:=hxs j hj;exact⟨b,p1,p3,ae,ae,p4⟩
   clear hxs af8 hlq alb alc ald aq8;go_loopw [7,70] (fun v ix wr=>∃t:Nat,t≤xs.length∧ix=ag t∧Iy w wr PL v (Ss t)∧∀j,j<xs.length→∃b,a=some ⟨b,0,none⟩∧b<wr.heap.size∧(∀g,v.ownBlock=some g→g≠b)∧w.heap.size+4≤b∧wr.cell? ⟨b,j,none⟩=some (ag (xs.getD j 0))) (fun _ ix _=>xs.length-(intOf ix).toNat);case atStart=>exact⟨0,Nat.zero_le _,rfl,ale,fun j hj=>by obtain⟨b,p1,p2,p3,p4⟩:=alf j hj;exact⟨b,p1,p2,fun g e=>by have e2:q=g:=bD e;omega,p4⟩⟩
   case round=>
    clear ale alf;obtain⟨t,ht,rfl,hA,hx⟩:=hrel;by_cases hlt:t<xs.length
    ·have pg:(t:Int)<(xs.length:Int):=ae;obtain⟨x,hxx,hxN,hcase⟩:=Ht3.out t hlt;obtain⟨b,rfl,hbl,hbo,lY,hbc⟩:=hx t hlt;rw[hxx]at hbc;have cD:=hA.rD.cells x (by rw[(Ht2.out t ae).1.len];exact hxN);have fD:=hA.rD.free;have lD2:=hA.rD.lt;have cP2:=hA.kP.cell;rw[hPL]at cP2;have hxI:(x:Int)<(N:Int):=ae;have hxne:((x:Int)==(N:Int))=false:=beq_eq_false_iff_ne.2 ae;have HA:=ah hA;have Hx:=ah hx;clear hxx hx;rcases hcase with⟨h0,hnext⟩|⟨h0,h0',hnext⟩
     ·rw[h0]at cD;have Ue:=ah hnext;clear hnext h0 hA;go_upto_region 21 with(fail);refine aP fun Wm hWm=>?_;have hAm:=HA.out.mark (x:=x) (by rw[(Ht2.out t ae).1.len];exact hxN) (max dq 0+1);rw[←hWm]at hAm;have hob:=(Ht2.out t ae).2.1;have hzm:Wm.heap.size=wr.heap.size:=by rw[hWm];simp
      have hblk:∀y,y≠w.heap.size+3→Wm.heap[y]?=wr.heap[y]?:=fun y hy=>by rw[hWm];exact dI _ _ _ _ hy
      have HAm:=ah hAm;have Hzm:=ah hzm;clear hAm hWm hzm;go_wp2_with (refine JQ rfl ?_;refine gq (.tmp 93) (.tmp 95) 22 rfl 3 i0 (ag 0) 1 8 underlying22 hii sN nk nD rfl bL _ (Ss t).op.length (nts (Ss t).op) rfl (ownsRow_base (HAm.out.own.alloc _) (Nat.zero_le _)) ⟨Wm.heap.size,0,none⟩ 1 1 [ag x] rfl rfl (aq1 _ _ _) il iq ae ?_;intro v5 w5 iE lJ zK);have hza:(Wm.alloc (.cells #[ag (x:Int)] 3)).heap.size=wr.heap.size+1:=by simp[Hzm.out]
      go_roundw;case rel=>
       refine⟨t+1,ae,by go_num,?_,fun j hj=>?_⟩
       ·rw[Ue.out];exact(HAm.out.later ((aK _ _).alloc (aH _) _)).push x lJ (ve iE fun g e=>by
         rcases zK with h6|⟨g',h6,h7⟩
         ·exact(HAm.out.own.lt g (h6.symm.trans e)).1
         ·rw[h6]at e;injection e with e;omega)
       ·obtain⟨b',p1,p2,p3,p4,p5⟩:=Hx.out j hj;refine⟨b',p1,by have:=lJ.size;omega,fun g e=>?_,p4,?_⟩
        ·rcases zK with h6|⟨g',h6,h7⟩
         ·exact p3 g (h6.symm.trans e)
         ·rw[h6]at e;injection e with e;omega
        ·rw[←p5];exact bg (a:=⟨b',j,none⟩) ((lJ.block b' ae (fun e=>p3 b' e.symm rfl)).trans ((gV Wm _ b' (by rw[Hzm.out];exact p2)).trans (hblk b' ae)))
      case measure=>simp[intOf];omega
     ·rw[h0']at cD h0;have h0b:(dq+1==0)=false:=beq_eq_false_iff_ne.2 h0;rw[←hnext]at hA;have HA':=ah hA;clear hnext h0 h0' hA;go_wp2;go_roundw;case rel=>exact⟨t+1,ae,by go_num,HA'.out,Hx.out⟩
      case measure=>simp[intOf];omega
    ·obtain rfl:t=xs.length:=ae;rw[t1]at hA;have h2:=(Ht2.out _ (aH _))
     rw[t1]at h2;obtain⟨h3,h4,h5⟩:=h2;have HA:=ah hA;clear hA hx;go_wp2;go_roundw;case rel=>refine⟨f,?_⟩;rw[HR.out];exact⟨s',ae,ha',h3,ae,ae,ae,HA.out⟩
     case measure=>have h6:=fun v wr (h:R f v wr)=>least_le (P:=fun f=>R f v wr) h;have h7:=aaR.out;refine GU (h6 _ _ ?_) (bH (Nat.lt_succ_self f) h7);rw[HR.out];exact⟨s',ae,ha',h3,ae,ae,ae,HA.out⟩
variable {B b m:Nat} {vs:List ByteArray} {e0 e1 e2:Int}
def upd (E:Nat→Int) (i:Nat) (v:Int) (j:Nat):Int:=if j=i then v else E j
def Fe (E:Nat→Int) (i j:Nat):Int:=if j<i then E j else 0
theorem Uj (E:Nat→Int) (i:Nat) (e:Int) (h:e=E i):upd (Fe E i) i e=Fe E (i+1):=by
 funext j;unfold upd Fe;by_cases h1:j=i
 ·subst h1;simp[h]
 ·by_cases h2:j<i
  ·simp[h1,h2,show j<i+1 from ae]
  ·simp[h1,h2,show¬j<i+1 from ae]
theorem acg (E:Nat→Int) (i:Nat) (a b:Int):upd (upd E i a) i b=upd E i b:=by funext j;unfold upd;split<;>rfl
def Nms (w:World) (a:Option Addr) (lo:Nat) (vs:List ByteArray):Prop:=∀j,j<vs.length→∃g,a=some ⟨g,0,none⟩∧lo<g∧w.cell? ⟨g,j,none⟩=some (.string (vs.getD j ⟨#[]⟩))
theorem eZ.aga (h:eZ w B b m vs e0 e1 e2 cd):m≠b:=fun e=>by obtain⟨a,cap,k,_,_⟩:=h.ex;have h1:=k.cell 0;unfold World.cell? at h1;rw[←e]at h1;simp only[h.mp]at h1;cases h1
theorem eZ.ent {E:Nat→Int} (h:eZ w B b m vs (E 0) (E 1) (E 2) cd) {i:Nat} (hi:i<3) (v:Int):
  eZ (w.setCell ⟨b,2+i,none⟩ (ag v)) B b m vs (upd E i v 0) (upd E i v 1) (upd E i v 2) cd∧Kc b w (w.setCell ⟨b,2+i,none⟩ (ag v)):=by
 have hbm:=h.aga;obtain⟨a,cap,k,own,ne⟩:=h.ex;have kp:=k.put (2+i) (ag v);have kp':aV (w.setCell ⟨b,2+i,none⟩ (ag v)) b [.slice a cd.length cap,.map (some m),ag (upd E i v 0),ag (upd E i v 1),ag (upd E i v 2)]:=by obtain rfl|rfl|rfl:i=0∨i=1∨i=2:=ae;all_goals exact kp
 refine⟨⟨⟨a,cap,kp',dQ own ne _,ne⟩,(dI _ _ _ _ hbm).trans h.mp,h.lb,h.lm⟩,?_⟩;refine⟨rfl,rfl,rfl,av,fun q hq hqb hv=>dI _ _ _ _ hqb,fun v' hv' q e=>.inl ⟨v',?_,e⟩⟩;rw[kp'.cell 0]at hv';rw[k.cell 0];exact hv'
theorem eZ.WV {w':World} (h:eZ w B b m vs e0 e1 e2 cd) (k:Kc b w w'):Below B w w':=
 {os:=k.os,tape:=k.tape,output:=k.output,size:=k.size,block:=fun q hq=>h.old k q hq}
theorem NJ (x y z:It) (f:Nat) (vs:List ByteArray) (cd:Cd) (es:List Int) (hv:GD f [x.1,y.1,z.1]=some vs) (hvl:vs.length≤16) (hh:YL vs f [x.1,y.1,z.1] [] []=some (cd,es)) (hl:cd.length≤400) (hs:es.all (GG cd)=true) (ho:∀x∈cd,0≤x.1∧x.1≤21)
  (w:World) (hg:aV w 1 tJ) (X:Nat→Prop) (hkx:ig w X x.1.kids x.2.1 x.2.2.1 x.2.2.2) (Ma:ig w X y.1.kids y.2.1 y.2.2.1 y.2.2.2) (hkz:ig w X z.1.kids z.2.1 z.2.2.1 z.2.2.2):
  Calls prog 101 #[.agg #[ag x.1.kind,ag x.1.num,.string x.1.str,.slice x.2.1 x.2.2.1 x.2.2.2,ag y.1.kind,ag y.1.num,.string y.1.str,.slice y.2.1 y.2.2.1 y.2.2.2,ag z.1.kind,ag z.1.num,.string z.1.str,.slice z.2.1 z.2.2.1 z.2.2.2]] w fun e w'=>∃a cap e0 e1 e2,es=[e0,e1,e2]∧e=.returned (.tuple #[.agg #[.slice a cd.length cap,ag e0,ag e1,ag e2],ag 0])∧w'.ownsRow w.heap.size 110 2 (.slice a cd.length cap) cd.length (cd.flatMap kM)∧aJ w w':=by
 obtain⟨cs,E,aqT,ak1,rfl,hcl,hd0,hd1,Te⟩:=Ze hh;have agb:=ah (VM hv);have TY:=ah fun(V:World) (hV:aJ w V)=>yS x y z f vs hv V X (hkx.on hV) (Ma.on hV) (hkz.on hV);have hix:∀(i:Nat),i<3→∀V,Sem.run prog (Instr.index 184 (.agg #[ag x.1.kind,ag x.1.num,.string x.1.str,.slice x.2.1 x.2.2.1 x.2.2.2,ag y.1.kind,ag y.1.num,.string y.1.str,.slice y.2.1 y.2.2.1 y.2.2.2,ag z.1.kind,ag z.1.num,.string z.1.str,.slice z.2.1 z.2.2.1 z.2.2.2]) (ag i)) V=.ok (.agg #[ag (jC x y z i).1.kind,ag (jC x y z i).1.num,.string (jC x y z i).1.str,.slice (jC x y z i).2.1 (jC x y z i).2.2.1 (jC x y z i).2.2.2]) V:=by exact rE
 have hd:∀i,i<3→Hd vs f (jC x y z i).1 (cs i) (E i) (cs (i+1)):=by
  intro i hi;obtain rfl|rfl|rfl:i=0∨i=1∨i=2:=ae
  ·exact hd0
  ·exact hd1
  ·exact Te
 have hkk:∀i,i<3→∀V,aJ w V→ig V (fun k=>k<w.heap.size) (jC x y z i).1.kids (jC x y z i).2.1 (jC x y z i).2.2.1 (jC x y z i).2.2.2:=by
  intro i hi V hV;obtain rfl|rfl|rfl:i=0∨i=1∨i=2:=ae
  ·exact hkx.low.on hV
  ·exact Ma.low.on hV
  ·exact hkz.low.on hV
 have FU:∀i,i<3→GG cd (E i)=true:=by
  intro i hi;simp only[List.all_cons,List.all_nil,Bool.and_true,Bool.and_eq_true]at hs;obtain rfl|rfl|rfl:i=0∨i=1∨i=2:=ae
  ·exact hs.1
  ·exact hs.2.1
  ·exact hs.2.2
 have BB:=hg.lt;clear hkx Ma hkz hv hh hs hd0 hd1 Te;have vR:=ah hix;have Ju:=ah hd;have aqU:=ah hkk;have aqV:=ah FU;have MU:=ah hg;have ak2:=ah ak1;have lH:=ah hcl;have KL:=ah ho;clear hix hd hkk FU hg ak1 hcl ho;refine az ?_;intro hal bu;have hmk:=fun(V:World)=>uQ (P:=prog) 220 V;have gY:=results101;go_enter func101,ntmps101;go_upto_region 2 with(fail);refine aP fun W hW=>?_;have kP:aV W w.heap.size [ag x.1.kind,ag x.1.num,.string x.1.str,.slice x.2.1 x.2.2.1 x.2.2.2,ag y.1.kind,ag y.1.num,.string y.1.str,.slice y.2.1 y.2.2.1 y.2.2.2,ag z.1.kind,ag z.1.num,.string z.1.str,.slice z.2.1 z.2.2.1 z.2.2.2]:=by rw[hW];exact(((aV.new _ _ _ _ rfl).alloc _).alloc _).alloc _
 have kR:aV W (w.heap.size+1) [.slice none 0 0,ag 0,ag 0,ag 0]:=by rw[hW];exact((aV.new _ _ _ _ av).alloc _).alloc _
 have kC:aV W (w.heap.size+1+1+1) [.slice none 0 0,.map (some (w.heap.size+1+1)),ag 0,ag 0,ag 0]:=eX;have hM:W.heap[w.heap.size+1+1]?=some (.map (uZ []) 0):=by rw[hW];exact(gV _ _ _ av).trans (alloc_at av)
 have hbW:aJ w W:=aM;obtain⟨b,hb⟩:∃b,b=w.heap.size+1+1+1:=⟨_,rfl⟩
 rw[←hb]at kC⊢;obtain⟨m,hm⟩:∃m,m=w.heap.size+1+1:=⟨_,rfl⟩
 rw[←hm]at kC hM⊢;obtain⟨r,hr⟩:∃r,r=w.heap.size+1:=⟨_,rfl⟩
 rw[←hr]at kR⊢;obtain⟨zb,hzb⟩:∃zb,zb=w.heap.size:=⟨_,rfl⟩
 rw[←hzb]at kP⊢;have aqW:w.heap.size≤zb∧zb<r∧r<m∧m<b:=ae;clear hW hb hm hr hzb hmk;have cP0:=kP.cell;go_wp2_with (first|((with_reducible refine(TY.out _ hbW).mono ?_);rintro e w1 ⟨a,cap,rfl,hown,aO⟩;obtain⟨N1,dA,bW,eu,eF⟩:=eB aO;(try simp only[bf]at dA)));clear cP0;have hnm:Nms w1 a b vs:=by
  intro j hj;rcases hown.2 with⟨_,h1⟩|⟨g,cp,cur,h1,h2,h3,_⟩
  ·omega
  ·injection h1 with h1 _ _;have hc:=hown.cells (g:=g) (by rw[h1];rfl) j (.string (vs.getD j ⟨#[]⟩)) (by simp[List.getD_eq_getElem?_getD,List.getElem?_eq_getElem hj]);rw[zt]at hc;exact⟨g,h1,by have:=kC.lt;omega,hc⟩
 replace kP:=kP.later aO;replace kR:=kR.later aO;replace kC:=kC.later aO;have hM1:w1.heap[m]?=some (.map (uZ (vs.take 0)) 0):=(aO.block m (by have:=kC.lt;have:=(Array.getElem?_eq_some_iff.1 hM).1;omega)).trans hM;have sK:aJ w w1:=hbW.trans (aO.mono hbW.size);clear hown hM hbW aO bW eu eF dA N1 TY;go_loopw [19] (fun ix wr=>∃k:Nat,k≤vs.length∧ix=ag k∧aJ w wr∧aV wr zb [ag x.1.kind,ag x.1.num,.string x.1.str,.slice x.2.1 x.2.2.1 x.2.2.2,ag y.1.kind,ag y.1.num,.string y.1.str,.slice y.2.1 y.2.2.1 y.2.2.2,ag z.1.kind,ag z.1.num,.string z.1.str,.slice z.2.1 z.2.2.1 z.2.2.2]∧aV wr r [.slice none 0 0,ag 0,ag 0,ag 0]∧aV wr b [.slice none 0 0,.map (some m),ag 0,ag 0,ag 0]∧wr.heap[m]?=some (.map (uZ (vs.take k)) k)∧Nms wr a b vs) (fun ix _=>vs.length-(intOf ix).toNat);case atStart=>exact⟨0,Nat.zero_le _,rfl,sK,kP,kR,kC,hM1,hnm⟩
 case round=>
  clear sK kP kR kC hM1 hnm;obtain⟨k,hk,rfl,hbr,kP,kR,kC,hM,hnm⟩:=hrel;by_cases hlt:k<vs.length
  ·have pg:(k:Int)<(vs.length:Int):=ae;obtain⟨g,rfl,hgb,hgc⟩:=hnm k hlt;have hfd:=(zx (vs.getD k ⟨#[]⟩) (vs.take k) 0 0).2 (agb.out k hlt);have hpush:(uZ (vs.take k)).push ⟨.string (vs.getD k ⟨#[]⟩),ag k,k⟩=uZ (vs.take (k+1)):=by have h1:=JL (vs.take k) (vs.getD k ⟨#[]⟩);have h2:(vs.take k).length=k:=bU;rw[h2]at h1;rw[h1,List.take_succ_eq_append_getElem hlt,List.getD_eq_getElem?_getD,List.getElem?_eq_getElem hlt];rfl
   generalize vs.getD k ⟨#[]⟩=s at*;have hmu:=GQ (P:=prog) underlying220 underlying9 rfl hM (.string s) (ag k) hfd;rw[hpush]at hmu;have cC:=kC.cell;have lC:=kC.lt;have hgl:=aU _ _ hgc;simp only at hgl;have hml:=(Array.getElem?_eq_some_iff.1 hM).1;have HP:=ah kP;have HR:=ah kR;have HC:=ah kC;have HM:=ah hM;have HN:=ah hnm;clear kP kR kC hM hnm hfd hpush;go_wp2;go_roundw;case rel=>have hgr:=grownBy_putObj' wr m (.map (uZ (vs.take (k+1))) (k+1));have ho:∀y,y≠m→(wr.putObj m (.map (uZ (vs.take (k+1))) (k+1))).heap[y]?=wr.heap[y]?:=fun y hy=>World.putObj_heap_other hy;refine⟨k+1,ae,by go_num,hbr.grown hgr hbr.size (fun q e=>by injection e with e;omega),HP.out.keep hgr.size (ho _ ae),HR.out.keep hgr.size (ho _ ae),HC.out.keep hgr.size (ho _ ae),World.putObj_heap_same hml,fun j hj=>?_⟩;obtain⟨g',p1,p2,p3⟩:=HN.out j hj;exact⟨g',p1,p2,(bg (a:=⟨g',j,none⟩) (ho g' ae)).trans p3⟩
   case measure=>simp[intOf];omega
  ·obtain rfl:k=vs.length:=ae;rw[List.take_of_length_le (Nat.le_refl _)]at hM;have hC:eZ wr w.heap.size b m vs 0 0 0 []:=⟨⟨none,0,kC,jw _ _ _ _,fun g e=>by cases e⟩,hM,ae,ae⟩
   have FU:∀y,y<wr.heap.size→y≠b→Sf b wr y:=fun y h1 h2=>⟨h1,h2,fun v hv e=>by rw[kC.cell 0]at hv;injection hv with hv;subst hv;cases e⟩
   have sP:=FU zb kP.lt ae;have sR:=FU r kR.lt ae;have cP:=kP.cell;clear FU hM hnm kC;rw[←aqT]at hC;go_wp2;go_loopw [34] (fun ix wr=>∃i:Nat,i≤3∧ix=ag i∧eZ wr w.heap.size b m vs (Fe E i 0) (Fe E i 1) (Fe E i 2) (cs i)∧aV wr zb [ag x.1.kind,ag x.1.num,.string x.1.str,.slice x.2.1 x.2.2.1 x.2.2.2,ag y.1.kind,ag y.1.num,.string y.1.str,.slice y.2.1 y.2.2.1 y.2.2.2,ag z.1.kind,ag z.1.num,.string z.1.str,.slice z.2.1 z.2.2.1 z.2.2.2]∧aV wr r [.slice none 0 0,ag 0,ag 0,ag 0]∧Sf b wr zb∧Sf b wr r∧aJ w wr) (fun ix _=>3-(intOf ix).toNat);case atStart=>exact⟨0,ae,rfl,hC,kP,kR,sP,sR,hbr⟩
   case round=>
    clear hC kP kR sP sR hbr cP;obtain⟨i,hi,rfl,hC,kP,kR,sP,sR,hbr⟩:=hrel;by_cases h3:i<3
    ·have h3i:(i:Int)<3:=ae;have hx:=vR.out i h3;have hdd:=Ju.out i h3;have hkq:=aqU.out i h3;generalize jC x y z i=q at*;go_upto_region 10 with(fail);refine aP fun W0 lZ=>?_;obtain⟨T,hT⟩:∃T,T=wr.heap.size:=⟨_,rfl⟩
     have nP:aJ wr W0:=by rw[lZ];exact aG
     have k8:aV W0 T [ag q.1.kind,ag q.1.num,.string q.1.str,.slice q.2.1 q.2.2.1 q.2.2.2]:=by rw[lZ];exact aV.new _ _ _ _ hT
     have s8:Sf b W0 T:=hC.jk nP ae k8.lt;rw[←hT];have hK0:=Kc.below (b:=b) nP hC.blt;have hC0:=hC.on nP;replace kP:=hK0.blk sP kP;replace kR:=hK0.blk sR kR;replace sP:=(hK0.sf sP).1;replace sR:=(hK0.sf sR).1;replace hbr:=hbr.trans (nP.mono hbr.size);clear lZ hT nP hK0 hC;obtain⟨aC,cC,kA,-,-⟩:=hC0.ex;have fkA:=kA.free;have lkA:=kA.lt;have cE:∃v,W0.cell? ⟨b,2+i,none⟩=some v:=by
      obtain rfl|rfl|rfl:i=0∨i=1∨i=2:=ae
      ·exact⟨_,kA.cell 2⟩
      ·exact⟨_,kA.cell 3⟩
      ·exact⟨_,kA.cell 4⟩
     obtain⟨vE,cE⟩:=cE;go_upto_region 11 with(fail);refine aP fun W1 vI=>?_;obtain⟨hC1,zy⟩:=hC0.ent h3 (-1);rw[←vI]at hC1 zy;replace kP:=zy.blk sP kP;replace kR:=zy.blk sR kR;replace k8:=zy.blk s8 k8;replace sP:=(zy.sf sP).1;replace sR:=(zy.sf sR).1;replace s8:=(zy.sf s8).1;replace hbr:=hbr.trans (hC0.WV zy);clear vI zy cE fkA lkA kA hC0 vE aC cC;have ck8:=k8.cell;rcases hdd with⟨hq0,hE,hcs⟩|⟨hq0,hE,L,hL,hcs⟩
     ·have hqb:(q.1.kind !=0)=false:=by simp[hq0]
      rw[Uj E i (-1) hE.symm,←hcs]at hC1;have HC:=ah hC1;clear hC1 hE hcs hq0;go_wp2;go_roundw;case rel=>exact⟨i+1,ae,by go_num,HC.out,kP,kR,sP,sR,hbr⟩
      case measure=>simp[intOf];omega
     ·have hqb:(q.1.kind !=0)=true:=by simp[hq0]
      clear hq0;obtain⟨aC,cC,kA,-,-⟩:=hC1.ex;have ck0:W1.cell? ⟨b,0,none⟩=some (.slice aC (cs i).length cC):=kA.cell 0;have fkA:=kA.free;have lkA:=kA.lt;have cE:∃v,W1.cell? ⟨b,2+i,none⟩=some v:=by
       obtain rfl|rfl|rfl:i=0∨i=1∨i=2:=ae
       ·exact⟨_,kA.cell 2⟩
       ·exact⟨_,kA.cell 3⟩
       ·exact⟨_,kA.cell 4⟩
      obtain⟨vE,cE⟩:=cE;have Uk:=lH.out (i+1) ae;rw[hcs,List.length_append,List.length_append]at Uk;simp only[List.length_cons,List.length_nil]at Uk;go_upto_region 12 with(fail);go_region;go_upto_region 13 with(fail);refine aP fun W2 mi=>?_;obtain⟨hC2,TN⟩:=eZ.ent (E:=upd (Fe E i) i (-1)) hC1 h3 ((cs i).length:Int);rw[acg,Uj E i _ hE.symm]at hC2;replace TN:=TN.trans (Kc.below (b:=b) ((aK _ _).drew) hC2.blt);replace hC2:=hC2.on ((aK _ _).drew);rw[←mi]at hC2 TN;have dW:=hC1.WV TN;replace kP:=TN.blk sP kP;replace kR:=TN.blk sR kR;replace k8:=TN.blk s8 k8;replace sP:=(TN.sf sP).1;replace sR:=(TN.sf sR).1;replace s8:=(TN.sf s8).1;replace hbr:=hbr.trans dW;clear mi TN dW cE ck0 fkA lkA kA hC1 ck8;have ck8:=k8.cell;have lk8:=k8.lt;have IC:=ah fun(V:World) (hV:eZ V w.heap.size b m vs (Fe E (i+1) 0) (Fe E (i+1) 1) (Fe E (i+1) 2) (cs i)) (hbV:aJ w V)=>Zf vs f q.1 L (cs i) hL ae V w.heap.size b m _ _ _ q.2.1 q.2.2.1 q.2.2.2 hV (hkq V hbV);have Yt:=ah fun(V:World) (hV:eZ V w.heap.size b m vs (Fe E (i+1) 0) (Fe E (i+1) 1) (Fe E (i+1) 2) (cs i++L))=>fK hV bU 21 0;have HC2:=ah hC2;have Hbr:=ah hbr;clear hC2 hbr;refine bK 4 aL aL fun hL=>?_;have dV:=hL.cell;clear hL;simp only[dS];(repeat(go_big_quiet_step (fail)));refine wpQuiet_nil ?_;clear dV;go_wp2_with (first|((with_reducible refine(IC.out _ (HC2.out.on aG) (Hbr.out.trans (Below.mono (B:=W2.heap.size) aG Hbr.out.size))).mono ?_);rintro e w3 ⟨rfl,jK,nG⟩)|((with_reducible refine(Yt.out _ jK).mono ?_);rintro e w4 ⟨rfl,nJ,yU⟩));rw[←hcs]at nJ;have hK4:=((Kc.below (b:=b) ((aK _ _).drew) HC2.out.blt).trans nG).trans yU;go_roundw;case rel=>exact⟨i+1,ae,by go_num,nJ,hK4.blk sP kP,hK4.blk sR kR,(hK4.sf sP).1,(hK4.sf sR).1,Hbr.out.trans (HC2.out.WV hK4)⟩
      case measure=>simp[intOf];omega
    ·obtain rfl:i=3:=ae;rw[ak2.out,show Fe E 3 0=E 0 from rfl,show Fe E 3 1=E 1 from rfl,show Fe E 3 2=E 2 from rfl]at hC;have abJ:∀(i:Nat),i<3→∀V,Sem.run prog (Instr.index 60 (.agg #[ag (E 0),ag (E 1),ag (E 2)]) (ag i)) V=.ok (ag (E i)) V:=by exact rE
     obtain⟨a,cap,kA,own,ne⟩:=hC.ex;have ckA:=kA.cell;have lkA:=kA.lt;have hlI:¬((400:Int)<(cd.length:Int)):=ae;have ach:∀g,(Value.slice a cd.length cap).ownBlock=some g→g≠r:=fun g e h=>sR.2.2 _ (kA.cell 0) (by rw[e,h]);have HO:=ah own;have HS:=ah sR;have HP:=ah sP;clear own ne hC sR sP;have ak6:=ah abJ;clear abJ;go_upto_region 18 with(fail);go_region;go_upto_region 19 with(fail);refine aP fun W5 Ko=>?_;have eY:aJ wr W5:=by rw[Ko];exact aG
     obtain⟨T,hT⟩:∃T,T=wr.heap.size:=⟨_,rfl⟩
     have k9:aV W5 T [.slice a cd.length cap,ag (E 0),ag (E 1),ag (E 2)]:=by rw[Ko];first|exact(aV.new _ _ _ _ hT).drew|exact aV.new _ _ _ _ hT
     have hTr:T≠r:=by have:=kR.lt;omega
     rw[←hT];replace kR:=kR.later eY;replace hbr:=hbr.trans (eY.mono hbr.size);have HO5:=ah (gP HO.out eY);clear Ko hT eY ckA lkA kA HO HS HP kP;have ck9:=k9.cell;have lk9:=k9.lt;go_wp2;have HR:=ah kR;have HB:=ah hbr;have H9:=ah k9;clear ck9 lk9 kR hbr k9;go_loopw [87] (fun ix wr=>∃i:Nat,i≤3∧ix=ag i∧aJ W5 wr) (fun ix _=>3-(intOf ix).toNat);case atStart=>exact⟨0,ae,rfl,aK _ _⟩
     case round=>
      obtain⟨i,hi,rfl,ow⟩:=hrel;have k9:=H9.out.later ow;have ck9:=k9.cell;have lk9:=k9.lt;by_cases h3:i<3
      ·have h3i:(i:Int)<3:=ae;have vT:=ak6.out i h3;have FU:=aqV.out i h3;generalize hEi:E i=v at*;clear hEi;by_cases hv0:v<0
       ·have hvI:¬(0≤v):=ae;clear FU;go_wp2;go_roundw;case rel=>exact⟨i+1,ae,by go_num,ow⟩
        case measure=>simp[intOf];omega
       ·obtain⟨k,rfl⟩:∃k:Nat,v=k:=⟨v.toNat,ae⟩
        unfold GG at FU;have Fq:decide ((k:Int)<0)=false:=av;rw[Fq,Bool.false_or,Bool.and_eq_true,decide_eq_true_eq,Int.toNat_natCast]at FU;obtain⟨hkl,FU⟩:=FU;have hkl':k<cd.length:=ae;cases han:anM cd 500 ⟨(List.replicate cd.length 0).set k 1,[k],0⟩with
        |none=>rw[han]at FU;cases FU
        |some d=>
        rw[han]at FU;replace FU:d≤16:=by simpa using FU
        have hO6:=gP HO5.out ow;obtain⟨g,hag⟩:∃g,a=some ⟨g,0,none⟩:=by
         rcases hO6.2 with⟨_,h1⟩|⟨g,cp,cur,h1,_⟩
         ·omega
         ·injection h1 with h1 _ _;exact⟨g,h1⟩
        subst hag;have hcc:=NG hO6;have hg6:=(MU.out.later HB.out).later ow;have aqZ:=ah fun(V:World) (hV:aJ wr V)=>agd (cap:=cap) (e0:=E 0) (e1:=E 1) (e2:=E 2) (hcc.later hV) ae KL.out (hg6.later hV) hkl' han;have aq0:=ah fun(V:World)=>Zg FU V;have hk0':(0:Int)≤(k:Int):=ae;clear hcc hg6 han FU hO6;go_wp2_with (first|((with_reducible refine(aqZ.out _ aG).mono ?_);rintro e w7 ⟨rfl,zP⟩)|((with_reducible refine(aq0.out _).mono ?_);rintro e w8 ⟨rfl,hb8⟩));go_roundw;case rel=>exact⟨i+1,ae,by go_num,(ow.trans (zP.mono ow.size)).trans (hb8.mono (aS ow.size zP.size))⟩
        case measure=>simp[intOf];omega
      ·obtain rfl:i=3:=ae;have kR:=HR.out.later ow;have⟨cR,fR,lR⟩:=kR;have hO6:=gP HO5.out ow;have HO6:=ah hO6;have cZ:=au;clear hO6;go_wp2;refine bodyPost_ret (v:=.tuple #[.agg #[.slice a cd.length cap,ag (E 0),ag (E 1),ag (E 2)],ag 0]) (by simp[results,gY,go_sem,cZ,cR,↓IntWalk.iteOmega]) rfl ⟨a,cap,E 0,E 1,E 2,rfl,rfl,?_,?_⟩
       ·exact dQ (dQ (dQ (dQ HO6.out ach _) ach _) ach _) ach _
       ·have h:=HB.out.trans (ow.mono HB.out.size);have hrr:w.heap.size≤r:=ae;exact(((h.setCell hrr _).setCell hrr _).setCell hrr _).setCell hrr _
variable {w w':World} {B B' n T size:Nat} {x y z:It} {xs:List Value}
def K3 (w:World) (B:Nat) (x y z:It):Prop:=ig w (fun b=>B≤b) x.1.kids x.2.1 x.2.2.1 x.2.2.2∧ig w (fun b=>B≤b) y.1.kids y.2.1 y.2.2.1 y.2.2.2∧ig w (fun b=>B≤b) z.1.kids z.2.1 z.2.2.1 z.2.2.2
theorem K3.on (h:K3 w B x y z) (hb:aJ w w'):K3 w' B x y z:=⟨h.1.on hb,h.2.1.on hb,h.2.2.on hb⟩
theorem ig.ge {l:List Nd} {a:Option Addr} {cap:Nat} (h:nH w B [] l a n cap) (hB:B'≤B):ig w (fun b=>B'≤b) l a n cap:=
 ig.ch h (L:=[]) (w':=w) ⟨rfl,rfl,rfl,aH _,fun _ _ _=>rfl⟩ fun b hb _=>⟨av,aS hB hb.1⟩
theorem K3.ch (h:K3 w B x y z) (hc:Ch [T] w w') (hT:T<B) (hB:B'≤B):K3 w' B' x y z:=
 have k:∀b,B≤b→b<w.heap.size→b∉[T]∧B'≤b:=fun b h1 _=>⟨by simp only[List.mem_singleton];omega,aS hB h1⟩
 ⟨h.1.ch hc k,h.2.1.ch hc k,h.2.2.ch hc k⟩
theorem Ch.WV {W:World} (hb:Below B w W) (hc:Ch [T] W w') (hT:B≤T) (XH:B≤W.heap.size):Below B w w':=
 {os:=hc.os.trans hb.os,tape:=hc.tape.trans hb.tape,output:=hc.output.trans hb.output,size:=aS hb.size hc.size,block:=fun q hq=>(hc.block q (bH hq XH) (by simp only[List.mem_singleton];omega)).trans (hb.block q hq)}
theorem Rh (s:ByteArray) (on:List Nd) (hx:A9 s=some on) (w:World):
  Calls prog 97 #[.string s] w fun e w'=>∃x y z:It,e=.returned (.tuple #[.agg #[ag x.1.kind,ag x.1.num,.string x.1.str,.slice x.2.1 x.2.2.1 x.2.2.2,ag y.1.kind,ag y.1.num,.string y.1.str,.slice y.2.1 y.2.2.1 y.2.2.2,ag z.1.kind,ag z.1.num,.string z.1.str,.slice z.2.1 z.2.2.1 z.2.2.2],ag 0])∧(on=[x.1,y.1,z.1]∧K3 w' w.heap.size x y z)∧aJ w w':=by
 have LX:=ah fun(V:World)=>VE s on hx V;refine az ?_;intro hal bu;have gY:=results97;go_enter func97,ntmps97;go_upto_region 1 with(fail);refine aP fun W hW=>?_;have kR:aV W w.heap.size [ag 0,ag 0,.string ⟨#[]⟩,.slice none 0 0,ag 0,ag 0,.string ⟨#[]⟩,.slice none 0 0,ag 0,ag 0,.string ⟨#[]⟩,.slice none 0 0]:=dm;have hbW:aJ w W:=aM;obtain⟨T,hT⟩:∃T,T=w.heap.size:=⟨_,rfl⟩
 rw[←hT]at kR⊢;have hTw:w.heap.size≤T:=ae;clear hW hT;go_upto_region 2 with(first|((with_reducible refine(LX.out _).mono ?_);rintro e w1 ⟨x,y,z,hon,rfl,⟨h1,h2,h3⟩,aO⟩));refine aP fun W2 mi=>?_;have dW:aJ w1 W2:=iK;refine Dk ?_;intro kP;have hK:K3 W2 W.heap.size x y z:=K3.on ⟨ig.ge h1 (aH _),ig.ge h2 (aH _),ig.ge h3 (aH _)⟩ dW;have k2:=(kR.later aO).later dW;have cP:=kP.cell;have lP:=kP.lt;have⟨c2,f2,l2⟩:=k2;have HK:=ah hK;have Hon:=ah hon;have A_:aJ w W2:=(hbW.trans (aO.mono hbW.size)).trans (dW.mono (aS hbW.size aO.size));have hTn:T<w1.heap.size:=by have:=aO.size;have:=kR.lt;omega
 have hTW:T<W.heap.size:=kR.lt;have nk:=hbW.size;have nD:=A_.size;clear hK h1 h2 h3 mi hon kP;have cZ:=au;go_wp2;generalize L_:World.setCell _ _ _=WF;refine Dm ?_;intro kF;have hch:Ch [T] W2 WF:=oM;exact Dn
theorem Ri (x y z:It) (f:Nat) (vs:List ByteArray) (ht:[x.1,y.1,z.1].all (fun x=>x.kind==0||VC f x)=true) (hv:GD f [x.1,y.1,z.1]=some vs) (hl:vs.length≤16) (w:World) (B:Nat) (h:K3 w B x y z):
  Calls prog 99 #[.agg #[ag x.1.kind,ag x.1.num,.string x.1.str,.slice x.2.1 x.2.2.1 x.2.2.2,ag y.1.kind,ag y.1.num,.string y.1.str,.slice y.2.1 y.2.2.1 y.2.2.2,ag z.1.kind,ag z.1.num,.string z.1.str,.slice z.2.1 z.2.2.1 z.2.2.2]] w fun e w'=>e=.returned (.tuple #[.agg #[ag x.1.kind,ag x.1.num,.string x.1.str,.slice x.2.1 x.2.2.1 x.2.2.2,ag y.1.kind,ag y.1.num,.string y.1.str,.slice y.2.1 y.2.2.1 y.2.2.2,ag z.1.kind,ag z.1.num,.string z.1.str,.slice z.2.1 z.2.2.1 z.2.2.2],ag 0])∧aJ w w':=by
 have uO:=ah fun(V:World) (hV:aJ w V)=>tV x y z f vs ht hv hl V _ (h.1.on hV) (h.2.1.on hV) (h.2.2.on hV);clear h ht hv;refine az ?_;intro hal bu;have gY:=results99;go_enter func99,ntmps99;go_upto_region 1 with(fail);refine aP fun W hW=>?_;refine xA ?_;intro kP;refine Dp ?_;intro kR;have hbW:aJ w W:=aM;obtain⟨T,hT⟩:∃T,T=w.heap.size+1:=⟨_,rfl⟩
 rw[←hT]at kR⊢;obtain⟨U,hU⟩:∃U,U=w.heap.size:=⟨_,rfl⟩
 rw[←hU]at kP⊢;have hTw:w.heap.size≤T:=ae;have hUT:U<T:=ae;clear hW hT hU;have cP:=kP.cell;have lP:=kP.lt;have lR:=kR.lt;have gX:∀V:dh W,Calls prog 124 #[.agg #[ag x.1.kind,ag x.1.num,.string x.1.str,.slice x.2.1 x.2.2.1 x.2.2.2,ag y.1.kind,ag y.1.num,.string y.1.str,.slice y.2.1 y.2.2.1 y.2.2.2,ag z.1.kind,ag z.1.num,.string z.1.str,.slice z.2.1 z.2.2.1 z.2.2.2]] V.out fun e w'=>e=.returned (ag 0)∧∃y:dh W,w'=y.out:=fun V=>(uO.out V.out (hbW.trans (V.below.mono hbW.size))).mono fun e w' ⟨he,hb⟩=>⟨he,⟨w',V.below.trans (hb.mono V.below.size)⟩,rfl⟩
 have abW:=ah gX;clear gX;refine jG 3 aL aL fun NL hL=>?_;obtain⟨dU,dV,hlf⟩:=hL;(try simp only[bf]at dU);simp only[dS];repeat(go_big_quiet_step (first|(with_reducible exact abW.out _)))
 refine wpQuiet_nil ?_;rintro w1 ⟨nq,hnq⟩;have aO:=nq.below;rw[←hnq]at aO;clear hnq nq dV hlf dU NL;have k2:=kR.later aO;have⟨c2,f2,l2⟩:=k2;have A_:aJ w w1:=hbW.trans (aO.mono hbW.size);have nD:=A_.size;clear hbW kP;have cZ:=au;go_wp2;refine Qt.fq ?_;go_wp2;exact Dq
theorem Dl (h:w.ownsRow B e size v n xs) (hB:B'≤B):w.ownsRow B' e size v n xs:=ownsRow_base h hB
theorem GH (h:w.ownsRow B e size v n xs) (hc:Ch [T] w w') (hT:∀g,v.ownBlock=some g→g≠T):w'.ownsRow B e size v n xs:=by
 refine h.kept (row:=some T) ⟨hc.os,hc.tape,hc.output,hc.size,fun k hk he=>hc.block k hk (by simp only[List.mem_singleton];intro e;exact he (by rw[e]))⟩ ?_;cases hv:v.ownBlock with
 |none=>exact .inl rfl
 |some k=>exact .inr (fun e=>hT k hv (by injection e))
theorem Rc (s:ByteArray) (on:List Nd) (hx:A9 s=some on) (w:World):
  Calls prog 96 #[.string s,ag 0,.func (.func 97) #[] #[]] w fun e w'=>∃x y z:It,e=.returned (.tuple #[.agg #[ag x.1.kind,ag x.1.num,.string x.1.str,.slice x.2.1 x.2.2.1 x.2.2.2,ag y.1.kind,ag y.1.num,.string y.1.str,.slice y.2.1 y.2.2.1 y.2.2.2,ag z.1.kind,ag z.1.num,.string z.1.str,.slice z.2.1 z.2.2.1 z.2.2.2],ag 0])∧(on=[x.1,y.1,z.1]∧K3 w' w.heap.size x y z)∧aJ w w':=by
 have LX:=ah fun(V:World) (hV:aJ w V)=>Rh s on hx V;have hen:=enters_of func97 aL rfl;refine az ?_;intro hal bu;have gY:=results96;go_enter func96,ntmps96;go_upto_region 1 with(fail);refine aP fun W hW=>?_;have kR:aV W w.heap.size [ag 0,ag 0,.string ⟨#[]⟩,.slice none 0 0,ag 0,ag 0,.string ⟨#[]⟩,.slice none 0 0,ag 0,ag 0,.string ⟨#[]⟩,.slice none 0 0]:=dm;have hbW:aJ w W:=aM;obtain⟨T,hT⟩:∃T,T=w.heap.size:=⟨_,rfl⟩
 rw[←hT]at kR⊢;have hTw:w.heap.size≤T:=ae;clear hW hT;have hTW:T<W.heap.size:=kR.lt;have nk:=hbW.size;have cZ:=au;go_wp2_with (first|((with_reducible refine(LX.out W hbW).mono ?_);rintro e w1 ⟨x,y,z,rfl,⟨hon,hK⟩,aO⟩;have k2:=kR.later aO;have c2:=k2.cell;have f2:=k2.free;have l2:=k2.lt;have A_:aJ w w1:=hbW.trans (aO.mono hbW.size);have nD:=A_.size;have HK:=ah hK;have Hon:=ah hon;clear hK hon));generalize L_:World.setCell _ _ _=WF;refine Dm ?_;intro kF;have hch:Ch [T] w1 WF:=oM;exact Dn
theorem Rf (x y z:It) (f:Nat) (vs:List ByteArray) (ht:[x.1,y.1,z.1].all (fun x=>x.kind==0||VC f x)=true) (hv:GD f [x.1,y.1,z.1]=some vs) (hl:vs.length≤16) (w:World) (B:Nat) (h:K3 w B x y z):
  Calls prog 98 #[.agg #[ag x.1.kind,ag x.1.num,.string x.1.str,.slice x.2.1 x.2.2.1 x.2.2.2,ag y.1.kind,ag y.1.num,.string y.1.str,.slice y.2.1 y.2.2.1 y.2.2.2,ag z.1.kind,ag z.1.num,.string z.1.str,.slice z.2.1 z.2.2.1 z.2.2.2],ag 0,.func (.func 99) #[] #[]] w fun e w'=>e=.returned (.tuple #[.agg #[ag x.1.kind,ag x.1.num,.string x.1.str,.slice x.2.1 x.2.2.1 x.2.2.2,ag y.1.kind,ag y.1.num,.string y.1.str,.slice y.2.1 y.2.2.1 y.2.2.2,ag z.1.kind,ag z.1.num,.string z.1.str,.slice z.2.1 z.2.2.1 z.2.2.2],ag 0])∧aJ w w':=by
 have LX:=ah fun(V:World) (hV:aJ w V)=>Ri x y z f vs ht hv hl V B (h.on hV);clear h ht hv;have hen:=enters_of func99 aL rfl;refine az ?_;intro hal bu;have gY:=results98;go_enter func98,ntmps98;go_upto_region 1 with(fail);refine aP fun W hW=>?_;refine xA ?_;intro kP;refine Dp ?_;intro kR;have hbW:aJ w W:=aM;obtain⟨T,hT⟩:∃T,T=w.heap.size+1:=⟨_,rfl⟩
 rw[←hT]at kR⊢;obtain⟨U,hU⟩:∃U,U=w.heap.size:=⟨_,rfl⟩
 rw[←hU]at kP⊢;have hTw:w.heap.size≤T:=ae;have hUT:U<T:=ae;clear hW hT hU;have cP:=kP.cell;have lP:=kP.lt;have hTW:T<W.heap.size:=kR.lt;have nk:=hbW.size;have cZ:=au;go_wp2_with (first|((with_reducible refine(LX.out W hbW).mono ?_);rintro e w1 ⟨rfl,aO⟩;have k2:=kR.later aO;have c2:=k2.cell;have f2:=k2.free;have l2:=k2.lt;have A_:aJ w w1:=hbW.trans (aO.mono hbW.size);have nD:=A_.size;skip));exact Dq
theorem KU (x y z:It) (f:Nat) (vs:List ByteArray) (cd:Cd) (es:List Int) (hv:GD f [x.1,y.1,z.1]=some vs) (hvl:vs.length≤16) (hh:YL vs f [x.1,y.1,z.1] [] []=some (cd,es)) (hl:cd.length≤400) (hs:es.all (GG cd)=true) (ho:∀x∈cd,0≤x.1∧x.1≤21) (w:World) (hg:aV w 1 tJ) (B:Nat) (h:K3 w B x y z):
  Calls prog 100 #[.agg #[ag x.1.kind,ag x.1.num,.string x.1.str,.slice x.2.1 x.2.2.1 x.2.2.2,ag y.1.kind,ag y.1.num,.string y.1.str,.slice y.2.1 y.2.2.1 y.2.2.2,ag z.1.kind,ag z.1.num,.string z.1.str,.slice z.2.1 z.2.2.1 z.2.2.2],ag 0,.func (.func 101) #[] #[]] w fun e w'=>∃a cap e0 e1 e2,es=[e0,e1,e2]∧e=.returned (.tuple #[.agg #[.slice a cd.length cap,ag e0,ag e1,ag e2],ag 0])∧w'.ownsRow w.heap.size 110 2 (.slice a cd.length cap) cd.length (cd.flatMap kM)∧aJ w w':=by
 have LX:=ah fun(V:World) (hV:aJ w V)=>NJ x y z f vs cd es hv hvl hh hl hs ho V (hg.later hV) _ (h.1.on hV) (h.2.1.on hV) (h.2.2.on hV);clear h hg hs ho hv hh;have hen:=enters_of func101 aL rfl;refine az ?_;intro hal bu;have gY:=results100;go_enter func100,ntmps100;go_upto_region 1 with(fail);refine aP fun W hW=>?_;refine xA ?_;intro kP;have kR:aV W (w.heap.size+1) [.slice none 0 0,ag 0,ag 0,ag 0]:=eX;have hbW:aJ w W:=aM;obtain⟨T,hT⟩:∃T,T=w.heap.size+1:=⟨_,rfl⟩
 rw[←hT]at kR⊢;obtain⟨U,hU⟩:∃U,U=w.heap.size:=⟨_,rfl⟩
 rw[←hU]at kP⊢;have hTw:w.heap.size≤T:=ae;have hUT:U<T:=ae;clear hW hT hU;have cP:=kP.cell;have lP:=kP.lt;have hTW:T<W.heap.size:=kR.lt;have nk:=hbW.size;have cZ:=au;go_wp2_with (first|((with_reducible refine(LX.out W hbW).mono ?_);rintro e w1 ⟨a,cap,e0,e1,e2,hes,rfl,hO,aO⟩;have k2:=kR.later aO;have c2:=k2.cell;have f2:=k2.free;have l2:=k2.lt;have A_:aJ w w1:=hbW.trans (aO.mono hbW.size);have nD:=A_.size;have HO:=ah hO;have Hes:=ah hes;clear hO hes));generalize L_:World.setCell _ _ _=WF;have kF:aV WF T [.slice a cd.length cap,ag e0,ag e1,ag e2]:=by rw[←L_];exact((((k2.put 0 _).put 1 _).put 2 _).put 3 _)
 have hch:Ch [T] w1 WF:=oM;have cF:=kF.cell;refine bodyPost_ret (v:=.tuple #[.agg #[.slice a cd.length cap,ag e0,ag e1,ag e2],ag 0]) rC rfl ⟨a,cap,e0,e1,e2,Hes.out,rfl,GH (Dl HO.out nk) hch fun g e=>by have:=(HO.out.lt g e).1;omega,Ch.WV A_ hch hTw nD⟩
variable {s:ByteArray} {on:List Nd} {es:List Int}
theorem zq (h:t_ s=some (on,vs,cd,es)):
  A9 s=some on∧on.all (fun x=>x.kind==0||VC 60 x)=true∧GD 60 on=some vs∧vs.length≤16∧YL vs 60 on [] []=some (cd,es)∧cd.length≤400∧es.all (GG cd)=true∧∀x∈cd,0≤x.1∧x.1≤21:=by
 unfold t_ at h;obtain⟨on',h1,h⟩:=uf h;by_cases h2:on'.all (fun x=>x.kind==0||VC 60 x)=true
 ·rw[if_pos h2]at h;obtain⟨vs',h3,h⟩:=uf h;by_cases h4:vs'.length≤16
  ·rw[if_pos h4]at h;obtain⟨p,h5,h⟩:=uf h;by_cases h6:p.1.length≤400∧p.2.all (GG p.1)∧p.1.all (fun x=>decide (0≤x.1∧x.1≤21))
   ·rw[if_pos h6]at h;simp only[Option.some.injEq,Prod.mk.injEq]at h;obtain⟨rfl,rfl,rfl,rfl⟩:=h;refine⟨h1,h2,h3,h4,h5,h6.1,h6.2.1,fun x hx=>?_⟩;have:=List.all_eq_true.1 h6.2.2 x hx;simpa using this
   ·rw[if_neg h6]at h;cases h
  ·rw[if_neg h4]at h;cases h
 ·rw[if_neg h2]at h;cases h
theorem yQ (h:t_ s=some (on,vs,cd,es)) (w:World) (hg:aV w 1 tJ):
  Calls prog 55 #[.string s] w fun e w'=>∃a cap e0 e1 e2,es=[e0,e1,e2]∧e=.returned (.tuple #[.agg #[.slice a cd.length cap,ag e0,ag e1,ag e2],ag 0])∧w'.ownsRow w.heap.size 110 2 (.slice a cd.length cap) cd.length (cd.flatMap kM)∧aJ w w':=by
 obtain⟨p1,p2,p3,p4,p5,p6,p7,p8⟩:=zq h;have o_:=ah fun(V:World)=>Rc s on p1 V;have h2:∀(x y z:It),on=[x.1,y.1,z.1]→∀(V:World) (B:Nat),K3 V B x y z→_:=fun x y z hon V B hK=>Rf x y z 60 vs (by rw[←hon];exact p2) (by rw[←hon];exact p3) p4 V B hK;have h3:∀(x y z:It),on=[x.1,y.1,z.1]→∀(V:World) (B:Nat),K3 V B x y z→aJ w V→_:=fun x y z hon V B hK hV=>KU x y z 60 vs cd es (by rw[←hon];exact p3) p4 (by rw[←hon];exact p5) p6 p7 p8 V (hg.later hV) B hK;clear p1 p2 p3 p5 p7 p8 h hg;have yR:=ah h2;have Qc:=ah h3;clear h2 h3;refine az ?_;intro hal bu;have gY:=results55;go_enter func55,ntmps55;go_upto_region 1 with(fail);refine aP fun W hW=>?_;have kR:aV W w.heap.size [.slice none 0 0,ag 0,ag 0,ag 0]:=dm;have hbW:aJ w W:=aM;obtain⟨T,hT⟩:∃T,T=w.heap.size:=⟨_,rfl⟩
 rw[←hT]at kR⊢;have hTw:w.heap.size≤T:=ae;have hTW:T<W.heap.size:=kR.lt;have nk:=hbW.size;clear hW hT;go_upto_region 2 with(first|((with_reducible refine(o_.out _).mono ?_);rintro e w1 ⟨x,y,z,rfl,⟨hon,hK⟩,aO⟩));refine aP fun W2 mi=>?_;have dW:aJ w1 W2:=iK;refine Dk ?_;intro kP;have cP:=kP.cell;have lP:=kP.lt;have abW:=ah (yR.out x y z hon W2 _ (hK.on dW));have E8:aJ W W2:=aO.trans (dW.mono aO.size);have HK:=ah (hK.on dW);have aki:=ah (Qc.out x y z hon);have HP:=ah kP;clear mi hK hon kP;go_upto_region 3 with(first|((with_reducible refine abW.out.mono ?_);rintro e w3 ⟨rfl,gK⟩));refine aP fun W4 Iq=>?_;have lY:aJ w3 W4:=by rw[Iq];exact aG
 have kQ:aV W4 w3.heap.size [ag x.1.kind,ag x.1.num,.string x.1.str,.slice x.2.1 x.2.2.1 x.2.2.2,ag y.1.kind,ag y.1.num,.string y.1.str,.slice y.2.1 y.2.2.1 y.2.2.2,ag z.1.kind,ag z.1.num,.string z.1.str,.slice z.2.1 z.2.2.1 z.2.2.2]:=by rw[Iq];exact aV.new _ _ _ _ rfl
 have VD:aJ W2 W4:=gK.trans (lY.mono gK.size);have YM:aJ W W4:=E8.trans (VD.mono E8.size);have Ki:aJ w W4:=hbW.trans (YM.mono hbW.size);have afN:=ah (aki.out W4 _ (HK.out.on VD) Ki);have cQ:=kQ.cell;have lQ:=kQ.lt;have hz4:=YM.size;have k4:=kR.later YM;clear Iq VD gK E8 aO dW HK HP aki abW cP lP kQ;have cZ:=au;go_wp2_with (first|((with_reducible refine afN.out.mono ?_);rintro e w5 ⟨a,cap,e0,e1,e2,hes,rfl,hO,eY⟩;have k2:=k4.later eY;have c2:=k2.cell;have f2:=k2.free;have l2:=k2.lt;have A_:aJ w w5:=Ki.trans (eY.mono Ki.size);have nD:=A_.size;have HO:=ah hO;have Hes:=ah hes;clear hO hes));generalize L_:World.setCell _ _ _=WF;have kF:aV WF T [.slice a cd.length cap,ag e0,ag e1,ag e2]:=by rw[←L_];exact((((k2.put 0 _).put 1 _).put 2 _).put 3 _)
 have hch:Ch [T] w5 WF:=oM;have cF:=kF.cell;refine bodyPost_ret (v:=.tuple #[.agg #[.slice a cd.length cap,ag e0,ag e1,ag e2],ag 0]) rC rfl ⟨a,cap,e0,e1,e2,Hes.out,rfl,GH (Dl HO.out (by have:=Ki.size;omega)) hch fun g e=>by have:=(HO.out.lt g e).1;omega,Ch.WV A_ hch hTw nD⟩
theorem Tryz.abU:(prog.info? 106).map (fun i=>(i.zero,i.size,i.bytes))=some (some (.agg #[ag 0,.slice none 0 0,ag 0,ag 0,ag 0]),5,56):=aL
def I7 (t:Int) (c:Value) (e0 e1 e2:Int):List Value:=[ag t,c,ag e0,ag e1,ag e2]
structure TV (w:World) (lo bk bv:Nat) (c:Value) (cd:Cd) (e0 e1 e2:Int):Prop where
 k:aV w bk [aZ bv 1 1]
 v:w.ownsRow 0 106 5 (aZ bv 1 1) 1 (I7 0 c e0 e1 e2)
 c:∃a cap,c=.slice a cd.length cap∧w.ownsRow lo 110 2 c cd.length (cd.flatMap kM)∧∀g,c.ownBlock=some g→g≠bk∧g≠bv
 lk:lo≤bk
 lv:lo≤bv
 ne:bk≠bv
theorem uw (h:t_ s=some (on,vs,cd,es)) (w:World) (hg:aV w 1 tJ):
  Calls prog 21 #[.string s] w fun e w'=>∃bk bv c e0 e1 e2,es=[e0,e1,e2]∧e=.returned (.tuple #[aR bk,ag 0])∧TV w' w.heap.size bk bv c cd e0 e1 e2∧aJ w w':=by
 have LX:=ah (yQ h w hg);clear h hg;refine az ?_;intro hal bu;have gY:=results21;go_enter func21,ntmps21;go_wp2_with (first|((with_reducible refine LX.out.mono ?_);rintro e w5 ⟨a,cap,e0,e1,e2,hes,rfl,hO,eY⟩;have HO:=ah hO;have Hes:=ah hes;clear hO hes));generalize L_:World.alloc _ _=WF;have ow:aJ w5 WF:=by rw[←L_];exact aG
 have k1:aV WF (w5.heap.size+1+1) [.slice (some ⟨w5.heap.size+1,0,none⟩) 1 1]:=by rw[←L_];exact aV.new _ _ _ _ av
 have hh:WF.heap[w5.heap.size+1]?=some (.cells (I7 0 (.slice a cd.length cap) e0 e1 e2).toArray 106):=by rw[←L_];refine(gV _ _ _ av).trans (alloc_at av)
 have hz:=eY.size;refine bodyPost_ret (v:=.tuple #[.pointer (some ⟨w5.heap.size+1+1,0,none⟩),ag 0]) eU rfl ⟨w5.heap.size+1+1,w5.heap.size+1,_,e0,e1,e2,Hes.out,rfl,⟨k1,⟨rfl,.inr ⟨_,1,_,rfl,Nat.zero_le _,hh,aH _,by unfold maxLen;omega,rfl,rfl⟩⟩,⟨a,cap,rfl,gP HO.out ow,fun g e=>?_⟩,ae,ae,ae⟩,eY.trans (ow.mono hz)⟩;have:=(HO.out.lt g e).2;omega
def NH (c0 c1:Value) (e0 e1 e2 f0 f1 f2:Int):List Value:=I7 0 c0 e0 e1 e2++I7 3 c1 f0 f1 f2
theorem jM {Gy:Cd} (h:t_ s=some (on,vs,cd,es)) {w:World} (hg:aV w 1 tJ) {lo bk bv:Nat} {c:Value} {e0 e1 e2:Int} (hB:TV w lo bk bv c Gy e0 e1 e2) (bW:c.oneCell'=true):
  Calls prog 23 #[aR bk,ag 3,.string s] w fun e w'=>e=.returned (ag 0)∧∃g cap c1 f0 f1 f2,es=[f0,f1,f2]∧w'.cell? ⟨bk,0,none⟩=some (aZ g 2 cap)∧(∀i,i<10→w'.cell? ⟨g,i,none⟩=(NH c c1 e0 e1 e2 f0 f1 f2)[i]?)∧
   (∃a cp,c1=.slice a cd.length cp∧w'.ownsRow w.heap.size 110 2 c1 cd.length (cd.flatMap kM))∧w'.ownsRow lo 110 2 c Gy.length (Gy.flatMap kM)∧Ch [bk,bv] w w':=by
 have LX:=ah fun(V:World) (hV:aJ w V)=>yQ h V (hg.later hV);obtain⟨k,own,⟨a0,cap0,Qo,akg,hcn⟩,lk,lv,ne⟩:=hB;have ck:=k.cell;have lb:=k.lt;have cv:w.cell? ⟨bv,0,none⟩=some (ag 0):=by have h1:=own.cells (g:=bv) rfl 0 (ag 0) rfl;rwa[zt]at h1
 have lbv:bv<w.heap.size:=aU _ _ cv;obtain⟨i0,hii,sN,nk,nD⟩:=info_parts Tryz.abU;have HO:=ah own;have HC:=ah akg;have Hk:=ah k;clear h hg own akg k;refine az ?_;intro hal bu;go_enter func23,ntmps23;go_upto_region 3 with(fail);go_region;go_upto_region 6 with(first|((with_reducible refine(LX.out _ aG).mono ?_);rintro e w5 ⟨a,cap,f0,f1,f2,hes,rfl,hO,eY⟩;have HO1:=ah hO;have Hes:=ah hes;clear hO hes));refine aP fun W hW=>?_;have kT:aV W w5.heap.size [.slice a cd.length cap,ag f0,ag f1,ag f2]:=dm;have afM:aJ w5 W:=aM;have Kj:aJ w w5:=eG;have hbW:aJ w W:=Kj.trans (afM.mono Kj.size);have HOW:=ah (gP HO.out hbW);have HO2:=ah (gP HO1.out afM);have HCW:=ah (gP HC.out hbW);have kb:=Hk.out.later hbW;have⟨ckb,fkb,lkb⟩:=kb;have cT:=kT.cell;have lT:=kT.lt;have hzW:=hbW.size;have hz5:=Kj.size;have Qb:=ah hbW;clear hW afM Kj eY kT kb ck cv hbW HO1 HO HC Hk LX;go_upto_region 8 with(fail);refine iR [1,2,3,4,5,6,7] [0] [8,9,10,11,12] 9 aL aL fun NL hL=>?_;obtain⟨dU,dV,hlf⟩:=hL;simp only[jA];repeat(go_big_quiet_step (fail))
 refine wpQuiet_nil ?_;repeat(go_big_quiet_step (fail))
 refine wpQuiet_nil ?_;clear dV hlf dU NL;refine gN (v:=aZ W.heap.size 1 1) (w1:=W.drew.alloc (.cells (I7 3 (.slice a cd.length cap) f0 f1 f2).toArray 106)) bL rfl rfl (by go_simp;rfl) ⟨⟨_,(aK _ W).drew.alloc (aH _) _⟩,rfl⟩ ?_;simp only[Act.put,dH];refine kH rfl rfl ?_;refine gq (.tmp 42) (.tmp 46) 102 rfl 106 i0 (.agg #[ag 0,.slice none 0 0,ag 0,ag 0,ag 0]) 5 56 underlying102 hii sN nk nD rfl bL (aZ bv 1 1) 1 (I7 0 c e0 e1 e2) rfl (HOW.out.drew.alloc _) ⟨W.heap.size,0,none⟩ 1 1 (I7 3 (.slice a cd.length cap) f0 f1 f2) rfl rfl (fun j uu hj=>by rw[zt,show W.heap.size=W.drew.heap.size from rfl,World.cell?_alloc_new];simpa using hj) (by simp[I7,Value.oneCell']) iq ae ?_;intro v' w2 hown2 wP hv';simp only[Act.put,dH];simp only[jA];have hbb:w2.heap[bk]?=W.heap[bk]?:=(wP.block bk bU (fun e=>ne (bD e))).trans (((aK _ W).drew.alloc (aH _) _).block bk lkb);have ce0:w2.cell? ⟨bk,0,none⟩=some (aZ bv 1 1):=(bg (a:=⟨bk,0,none⟩) hbb).trans (ckb 0);have cf0:w2.frozen? ⟨bk,0,none⟩=false:=(World.frozen?_of_block (a:=⟨bk,0,none⟩) hbb).trans (fkb 0);have lk2:bk<w2.heap.size:=by have:=wP.size;simp at this;omega
 have cc1:w2.ownsRow lo 110 2 c Gy.length (Gy.flatMap kM):=by
  refine(HCW.out.drew.alloc _).kept wP ?_;cases hc:c.ownBlock with
  |none=>exact .inl rfl
  |some k=>exact .inr (fun e=>(hcn k hc).2 (bD e))
 have hlo:∀k,(Value.slice a cd.length cap).ownBlock=some k→w.heap.size≤k:=fun k e=>(HO2.out.lt k e).1;have cc2:w2.ownsRow w.heap.size 110 2 (.slice a cd.length cap) cd.length (cd.flatMap kM):=by
  refine(HO2.out.drew.alloc _).kept wP ?_;cases hc:(Value.slice a cd.length cap).ownBlock with
  |none=>exact .inl rfl
  |some k=>exact .inr (fun e=>by have:=hlo k hc;have e2:k=bv:=bD e;omega)
 have hch:Ch [bk,bv] w w2:=by have hb:=(Qb.out).trans (((aK _ W).drew.alloc (aH _) (.cells (I7 3 (.slice a cd.length cap) f0 f1 f2).toArray 106)).mono hzW);exact⟨wP.os.trans hb.os,wP.tape.trans hb.tape,wP.output.trans hb.output,aS hb.size wP.size,fun k hk hn=>(wP.block k (bH hk hb.size) (fun e=>hn (by simp[Option.some.inj e]))).trans (hb.block k hk)⟩
 obtain⟨g,cap2,rfl,-⟩:=NI hown2;have hgk:g≠bk:=by
  rcases hv' with h1|⟨g',h1,h2⟩
  ·have h3:g=bv:=bD h1;omega
  ·have h3:g=g':=bD h1;simp at h2;omega
 have hgc:∀i,i<10→w2.cell? ⟨g,i,none⟩=(NH c (.slice a cd.length cap) e0 e1 e2 f0 f1 f2)[i]?:=by
  intro i hi;have hlt:i<(NH c (.slice a cd.length cap) e0 e1 e2 f0 f1 f2).length:=by simpa[NH,I7]using hi
  rw[List.getElem?_eq_getElem hlt];have h1:=hown2.cells (g:=g) rfl i _ (ik hlt);rwa[zt]at h1
 have cf2:=cf0;refine di (v:=aR bk) (w1:=w2) rfl bO trivial ?_;simp only[Act.put,dH];refine di (v:=aR bk) (w1:=w2) rfl bO trivial ?_;simp only[Act.put,dH];obtain⟨w3,Mm⟩:∃X,X=w2.setCell ⟨bk,0,none⟩ (aZ g (1+1) cap2):=⟨_,rfl⟩
 refine dY (w1:=w3) rfl (by rw[Mm];go_simp) trivial ?_;simp only[Act.put,dH];refine fT ?_;have fin:w3.cell? ⟨bk,0,none⟩=some (aZ g 2 cap2)∧(∀i,i<10→w3.cell? ⟨g,i,none⟩=(NH c (.slice a cd.length cap) e0 e1 e2 f0 f1 f2)[i]?)∧w3.ownsRow w.heap.size 110 2 (.slice a cd.length cap) cd.length (cd.flatMap kM)∧w3.ownsRow lo 110 2 c Gy.length (Gy.flatMap kM)∧Ch [bk,bv] w w3:=by
  rw[Mm];refine⟨by simp[au,ce0],fun i hi=>?_,dQ cc2 (fun q e=>by have:=hlo q e;omega) _,dQ cc1 (fun q e=>(hcn q e).1) _,?_⟩
  ·rw[←hgc i hi];simp[au,hgk]
  ·exact hch.set (.inl av) _
 have pI:=ah fin;clear fin Mm hch hgc cc2 cc1 ce0 cf0 cf2 hbb wP hown2 hv' hcn Qb HCW HO2 HOW;go_wp2;go_ret;obtain⟨h1,h2,h3,h4,h5⟩:=pI.out;exact⟨rfl,g,cap2,_,f0,f1,f2,Hes.out,h1,h2,⟨a,cap,rfl,h3⟩,h4,h5⟩
end Pa
end Go.Proofs.YtohpdonnpbjfdaaGreatDoor
