/- What is shown: setups and rows, package game, package dispute. Conditions: as each theorem states. -/
import Derived.Test.YtohpdonnpbjfdaaGreatDoorY32
import Derived.Test.YtohpdonnpbjfdaaGreatDoorY35
import Derived.Test.YtohpdonnpbjfdaaGreatDoorY49
set_option maxHeartbeats 40000000
set_option maxRecDepth 100000
set_option linter.unusedVariables false
set_option linter.unusedSimpArgs false
open Go.Proofs.Tryz
namespace Go.Proofs.YtohpdonnpbjfdaaGreatDoor
theorem vV {P:Prop} (h:P:=by rw[M.TT,List.getD_eq_getElem?_getD,List.getElem?_eq_getElem PZ];rfl):P:=h
theorem xX {P:Prop} (h:P:=by rcases hq with⟨h1,h2⟩|⟨h1,h2⟩<;>omega):P:=h
theorem DT {P:Prop} (h:P:=by
 have hSn:=HSm.out.step tF a2;have HSn:=ah hSn;clear hSn tF a2 FQ;cases en with
 |true=>
  have he:k+1=nn:=by simpa using hen.symm
  have hz:z=k+1:=xX;subst hz;go_wp2;refine bodyPost_ret (v:=.tuple #[aR fm,ag ((k+1:Nat):Int)]) eU rfl ⟨F2,by rw[agy],HSn.out.mp.hm,HSn.out.fr,HSn.out.bl⟩
 |false=>
  have he:k+1≠nn:=by simpa using hen.symm
  have asC:k+1≤z:=xX;go_wp2;exact⟨⟨k+1,F2,asC,ae,av,agy,HSn.out⟩,by simp[intOf];omega⟩):P:=h
namespace Se
open Go.RowKit aN fO Qt Ro Bk Sh Cl La
attribute [local go_sem] Oper.semAt_some
variable {w:World} {S:Stp} {cap m q len:Nat} {rm dr bs:Value}
def cut (S:Stp) (m:Nat):Stp:=⟨S.ak,S.bodies.take m,S.x0,S.y0,S.x1,S.y1,S.f_,S.doors,S.ou,S.gx,S.gy,S.push,S.eO,S.rest,1,20⟩
theorem aiP {b:Nat} (h:lK w S (aZ b S.bodies.length cap) rm dr) (hm:m≤S.bodies.length):lK w (cut S m) (aZ b m cap) rm dr:=by
 obtain⟨⟨b',cap',e,hb⟩,h2,h3⟩:=h;injection e with e1 e2 e3;injection e1 with e1;injection e1 with e1;subst e1;refine⟨⟨b,cap,?_,fun i B hB=>hb i B ?_⟩,h2,h3⟩
 ·show _=Value.slice _ (S.bodies.take m).length _;rw[List.length_take,Nat.min_eq_left hm]
 ·have hB':(S.bodies.take m)[i]?=some B:=hB;rw[List.getElem?_take]at hB';split at hB'
  ·exact hB'
  ·cases hB'
theorem aeU (h:ql S) (hm:m≤S.bodies.length) (hp:S.ak≤m):ql (cut S m):=by
 obtain⟨n,mp,bd,bx⟩:=h;have hl:(cut S m).bodies.length=m:=by show(S.bodies.take m).length=m;rw[List.length_take,Nat.min_eq_left hm]
 have aO:=n.b1;refine⟨⟨n.p0,n.p1,by rw[hl];exact hp,by rw[hl];omega,n.aiQ,n.aiR,n.gx0,n.gx1,n.gy0,n.gy1,n.pu0,n.pu1,n.dr0,n.dr1,n.re0,n.re1,by show(1:Int)≤1;decide,by show(1:Int)≤4;decide,by show(0:Int)≤20;decide,by show(20:Int)≤1000;decide⟩,⟨mp.r1,mp.d1,mp.f_,mp.doors⟩,fun B hB=>?_,bx⟩;obtain⟨q1,q2,q3,q4,q5,q6,q7,q8,q9,q10,q11,q12,q13,q14⟩:=bd B (List.mem_of_mem_take hB);exact⟨q1,q2,q3,q4,q5,q6,q7,q8,q9,q10,q11,q12,q13,q14⟩
theorem lK.shape (h:lK w S bs rm dr):(∃a l c,rm=.slice a l c)∧∃a l c,dr=.slice a l c:=by
 constructor
 ·rcases h.f_ with⟨_,h|⟨_,h⟩⟩|⟨_,_,_,h,_⟩<;>exact⟨_,_,_,h⟩
 ·rcases h.doors with⟨_,h|⟨_,h⟩⟩|⟨_,_,_,h,_⟩<;>exact⟨_,_,_,h⟩
theorem iL.ne {r:Int} {p:Nat} {zs:List (Int×Int)} (h:iL w r (some ⟨p,0,none⟩) len cap zs) (h1:w.cell? ⟨q,1,none⟩=some (.slice none 0 0)):p≠q:=by
 rintro rfl;rcases h.kind with⟨_,_,h2,_⟩|⟨_,h3,_⟩
 ·cases h2
 ·rcases h.poly with⟨h4,_⟩|⟨b,o,e,h5,h6,h7,h8⟩
  ·cases h4
  ·injection e with e;injection e with e1 e2;subst e1 e2;have:=(h8 0 ae).2;simp only[Nat.zero_mul,Nat.zero_add]at this;rw[h1]at this;cases this
theorem lK.hop {w':World} (h:lK w S bs rm dr) (hn:1≤S.bodies.length) (h0:w.cell? ⟨q,0,none⟩=some (ag 0)) (h1:w.cell? ⟨q,1,none⟩=some (.slice none 0 0)) (hk:∀k,k<w.heap.size→k≠q→w'.heap[k]?=w.heap[k]?):lK w' S bs rm dr:=by
 have hc:∀b o v,b≠q→w.cell? ⟨b,o,none⟩=some v→w'.cell? ⟨b,o,none⟩=some v:=fun b o v hb hv=>by have hl:b<w.heap.size:=aU _ _ hv;exact(bg (a:=⟨b,o,none⟩) (hk b hl hb)).trans hv
 obtain⟨⟨b,cap,e,hb⟩,h2,h3⟩:=h;have hbq:b≠q:=by
  rintro rfl;obtain⟨B,hB⟩:∃B,S.bodies[0]?=some B:=⟨_,ik ae⟩
  obtain⟨a,l,c,s0,s1,s2,_⟩:=(hb 0 B hB).shape;simp only[Nat.zero_mul,Nat.zero_add]at s0 s1;rw[h0]at s0;rw[h1]at s1;injection s0 with s0;injection s0 with _ s0;injection s1 with s1;injection s1 with e1 e2 e3;rcases s2.kind with⟨_,_,_,_,k1,_⟩|⟨_,k3,_⟩
  ·omega
  ·omega
 refine⟨⟨b,cap,e,fun i B hB=>?_⟩,?_,?_⟩
 ·obtain⟨⟨a,l,c,s0,s1,s2,s3⟩,q2,q3,q4,q5,q6,q7,q8⟩:=hb i B hB;refine⟨⟨a,l,c,hc _ _ _ hbq s0,hc _ _ _ hbq s1,pX s2 fun p hp=>?_,s3⟩,hc _ _ _ hbq q2,hc _ _ _ hbq q3,hc _ _ _ hbq q4,hc _ _ _ hbq q5,hc _ _ _ hbq q6,hc _ _ _ hbq q7,hc _ _ _ hbq q8⟩;rcases s3 with s3|⟨p',s3,_⟩
  ·rw[s3]at hp;cases hp
  ·subst s3;obtain rfl:=bD hp;exact hk p' (zS s2) (iL.ne s2 h1)
 ·rcases h2 with h2|⟨hL,g,cp,e2,h2⟩
  ·exact .inl h2
  ·have hg:g≠q:=by
    rintro rfl;obtain⟨x,hx⟩:∃x,S.f_[0]?=some x:=⟨_,ik (by cases hS:S.f_ with|nil=>exact absurd hS hL|cons=>simp)⟩
    have:=(h2 0 x hx).2.1;simp only[Nat.zero_mul,Nat.zero_add]at this;rw[h1]at this;cases this
   exact .inr ⟨hL,g,cp,e2,fun i x hx=>⟨hc _ _ _ hg (h2 i x hx).1,hc _ _ _ hg (h2 i x hx).2.1,hc _ _ _ hg (h2 i x hx).2.2.1,hc _ _ _ hg (h2 i x hx).2.2.2⟩⟩
 ·rcases h3 with h3|⟨hL,g,cp,e2,h3⟩
  ·exact .inl h3
  ·have hg:g≠q:=by
    rintro rfl;obtain⟨x,hx⟩:∃x,S.doors[0]?=some x:=⟨_,ik (by cases hS:S.doors with|nil=>exact absurd hS hL|cons=>simp)⟩
    have:=(h3 0 x hx).2;simp only[Nat.zero_mul,Nat.zero_add]at this;rw[h1]at this;cases this
   exact .inr ⟨hL,g,cp,e2,fun i x hx=>⟨hc _ _ _ hg (h3 i x hx).1,hc _ _ _ hg (h3 i x hx).2⟩⟩
theorem UD {a:Option Addr} {z:List Int} (hl:Fr.tK .i64 w a len cap z):
  Calls prog 4 #[.slice a len cap] w fun e w'=>∃S bs rm dr,e=.returned (dR S bs rm dr)∧lK w' S bs rm dr∧ql S∧aJ w w':=by
 have um:=ah fun(V:World) (hV:aJ w V)=>UQ (qJ hl hV);clear hl;have gY:=results4;go_enter func4,ntmps4;go_upto_region 2 with(first|((with_reducible refine(um.out _ aG).mono ?_);rintro e w1 ⟨u,rfl,⟨S,b,cp,rm,dr,rfl,hX,hO,hP3,hB5,hcp⟩,aO⟩;obtain⟨⟨ra,rl,rc,rfl⟩,da,dl,dc,rfl⟩:=lK.shape hX));obtain⟨m,gp,tF,Tt⟩:∃m:Nat,m=min S.bodies.length (max S.ak 2)∧S.ak≤m∧m≤S.bodies.length:=⟨_,rfl,by have:=hO.nums.b0;omega,ae⟩
 have hmI:min (S.bodies.length:Int) (max (S.ak:Int) 2)=(m:Int):=ae;have hmc:m≤cp:=ae;have hXc:=aiP hX Tt;have hOc:=aeU hO Tt tF;refine aP fun W hW=>?_;have k3:aV W w1.heap.size [ag S.ak,aZ b S.bodies.length cp,ag S.x0,ag S.y0,ag S.x1,ag S.y1,.slice ra rl rc,.slice da dl dc,ag S.ou,ag S.gx,ag S.gy,ag S.push,ag S.eO,ag S.rest,ag S.rounds,ag S.fuel]:=dm;have k2w:aV w1 w.heap.size [ag 0,.slice none 0 0,ag 0,ag 0,ag 0,ag 0,.slice none 0 0,.slice none 0 0,ag 0,ag 0,ag 0,ag 0,ag 0,ag 0,ag 0,ag 0]:=(aV.new _ _ _ _ rfl).later aO;have k2:aV W w.heap.size [ag 0,.slice none 0 0,ag 0,ag 0,ag 0,ag 0,.slice none 0 0,.slice none 0 0,ag 0,ag 0,ag 0,ag 0,ag 0,ag 0,ag 0,ag 0]:=by rw[hW];exact k2w.alloc _
 have hbW:aJ w1 W:=by rw[hW];exact(aK _ _).alloc (aH _) _
 obtain⟨b2,dW⟩:∃b,b=w.heap.size:=⟨_,rfl⟩
 obtain⟨b3,gK⟩:∃b,b=w1.heap.size:=⟨_,rfl⟩
 have Mw:b2<b3:=by rw[dW,gK];exact k2w.lt
 have sK:aJ w w1:=((aK _ w).alloc (aH _) _).trans (aO.mono av);rw[←dW]at k2 k2w⊢;rw[←gK]at k3⊢;have eD:1≤m:=by have:=hO.nums.p0;omega
 have hml:1≤(cut S m).bodies.length:=by show 1≤(S.bodies.take m).length;rw[List.length_take];omega
 have⟨c3,f3,l3⟩:=k3;have Hf:=ah (And.intro hXc (And.intro hOc (And.intro hbW (And.intro sK (And.intro k2w (And.intro dW (And.intro gK hml)))))));have Fj:=ah k2;have Xu:=ah k3;generalize S.bodies.length=nb at*;clear hW hXc hOc hbW sK k2w dW gK hml hX hO hP3 hB5 k2 k3 aO gp;go_upto_region 5 with(fail);refine aP fun W5 Ko=>?_;have k5:aV W5 b3 [ag S.ak,aZ b m cp,ag S.x0,ag S.y0,ag S.x1,ag S.y1,.slice ra rl rc,.slice da dl dc,ag S.ou,ag S.gx,ag S.gy,ag S.push,ag S.eO,ag S.rest,ag 1,ag 20]:=by rw[Ko];exact((Xu.out.put 1 _).put 14 _).put 15 _
 have k25:aV W5 b2 [ag 0,.slice none 0 0,ag 0,ag 0,ag 0,ag 0,.slice none 0 0,.slice none 0 0,ag 0,ag 0,ag 0,ag 0,ag 0,ag 0,ag 0,ag 0]:=by rw[Ko];exact((Fj.out.other (Nat.ne_of_gt Mw) _).other (Nat.ne_of_gt Mw) _).other (Nat.ne_of_gt Mw) _
 have eY:aJ w1 W5:=by rw[Ko];have h:=Hf.out.2.2.1;have e:=Hf.out.2.2.2.2.2.2.1;exact((h.setCell (by rw[←e];exact aH _) _).setCell (by rw[←e];exact aH _) _).setCell (by rw[←e];exact aH _) _
 clear Ko c3 f3 l3 Fj Xu;have c5:=k5.cell;have⟨c25,f25,l25⟩:=k25;have cZ:=au;have H5:=ah eY;clear eY k5 k25;go_wp2;refine bodyPost_ret (v:=.agg #[ag S.ak,aZ b m cp,ag S.x0,ag S.y0,ag S.x1,ag S.y1,.slice ra rl rc,.slice da dl dc,ag S.ou,ag S.gx,ag S.gy,ag S.push,ag S.eO,ag S.rest,ag 1,ag 20]) (by simp[results,gY,go_sem,cZ,c25]) rfl ?_;obtain⟨hXc,hOc,hbW,sK,k2w,e2,e3,hml⟩:=Hf.out;refine⟨cut S m,aZ b m cp,.slice ra rl rc,.slice da dl dc,rfl,lK.hop hXc hml (k2w.cell 0) (k2w.cell 1) ?_,hOc,?_⟩
 ·intro k h1 h2;have hA:vO w1.heap.size b2 w1 W5:=(vO.refl _ _ _).below H5.out;refine vO.block (Z:=w1.heap.size) (b:=b2) ?_ k h1 h2;(repeat(with_reducible first|refine vO.drew ?_|refine vO.set ?_ _ _));with_reducible exact hA
 ·have hB:aJ w W5:=sK.trans (H5.out.mono sK.size);have e4:w.heap.size≤b2:=by rw[e2];exact aH _
  (repeat(with_reducible first|refine Below.drew ?_|refine Below.setCell ?_ e4 _));with_reducible exact hB
end Se
namespace Ga
open Go.RowKit aN fO Qt Ro Bk Ce La Ha In Vm Mc Bo Tk
attribute [local go_sem] Oper.semAt_some
theorem SI (a b c d f:Value) (n:Nat) (w:World):
  CallsDIn Fence.wide n prog 34 #[a,b,c,d,f] .returning w fun e u' w'=>e=.returned (.tuple #[])∧u'=.returning∧w'=w:=by
 refine callsDIn_of_wpSIn func34 rfl trivial fun c₀ cs hu=>?_;apply wpSIn_seq;apply wpSIn_region;simp[wpOpsSIn,go_sem,recoverD,hu,ntmps34,Exit.thenS];refine wpSIn_cond (t:=false) (by simp[Act.eval,Array.replicate]) ?_;simp only[Bool.false_eq_true,if_false];refine wpSIn_of_wpIn rfl (wpIn_skip ?_);cases c₀
 simp_all [bodyPostS,results,results34]
theorem Kt.grown {z bE bN:Nat} {A B:World} {row:Option Nat} (hE:bE<z) (hA:bE<A.heap.size) (hg:A.grownBy B row) (hr:∀q,row=some q→z≤q∧∃o:Obj,A.heap[q]?=some o∧o.isCells=false):Kt z bE bN A B:=by refine xM ?_;intro hb;have hc:B.cell? ⟨bE,0,none⟩=A.cell? ⟨bE,0,none⟩:=bg (a:=⟨bE,0,none⟩) (hb bE hA (fun q e h=>by have:=(hr q e).1;omega));refine⟨hg.os,hg.tape,hg.output,hg.size,fun k hk _ _ _ hcd=>hb k hk (fun q e h=>?_),fun v hv k e=>.inl ⟨v,by rw[←hc];exact hv,e⟩⟩;exact xN
theorem Tryz.Um:(prog.info? 66).map (fun i=>(i.zero,i.size,i.bytes))=some (some (.agg #[ag 0,ag 0,ag 0,ag 0]),4,32):=aL
def InW (w:World) (F:Fp) (ib iD:Nat) (R:List (Int×Int×Int)):Prop:=ib<w.heap.size∧¬F.has ib∧∀i x,R[i]?=some x→w.cell? ⟨ib,i*3,none⟩=some (ag x.1)∧w.cell? ⟨ib,i*3+1,none⟩=some (ag x.2.1)∧w.cell? ⟨ib,i*3+2,none⟩=some (ag x.2.2)
theorem FH {w W0:World} {bG:Nat} {S:Stp} {bs rm dr:Value} {Qh M C m:Nat} {L:Option Nat} {c:List Int} (hG:Gm w W0 bG S bs rm dr (aR Qh) ⟨M,C,L,m⟩ c) (kg:Kb w ⟨M,C,L,m⟩ 0 jH) (p:Jd) (hp:p.Ok) (P5:p.S=S) {nn:Nat} (hn:Len p c nn) (hnn:nn≤900001) (hm:m≤900000000)
  {ib iD:Nat} (hin:InW w ⟨M,C,L,m⟩ ib iD p.R) (Xp:0≤cg c 0) (ht:cg c 0<6000)
  (hat:∀V,aJ w V→Calls prog 15 #[aR Qh,ag (cg c 0)] V fun e w'=>∃v',e=.returned (.tuple #[ag p.cK,qQ v' p.e0 p.e1 p.e2])∧Ah V w' v' p.I∧aJ V w'):
  Calls prog 14 #[aR bG,aZ ib p.R.length iD] w fun e w'=>∃v xs k F',e=.returned (.tuple #[v,ag nn,ag 0])∧w'.ownsRow w.heap.size 66 4 v k xs∧(k≤nn∧∀u∈xs,u.oneCell'=true)∧Gm w' W0 bG S bs rm dr (aR Qh) F' (its p c nn)∧Alt [] w ⟨M,C,L,m⟩ w' F' (40*nn):=by
 obtain⟨hmem,kG,hs,hS,h1⟩:=hG;obtain⟨i1,i2,i3⟩:=hin;have aeE:ZE w (aZ ib p.R.length iD) p.R:=⟨ib,iD,rfl,i3⟩
 have hP8:S.ak≤8:=by rw[←P5];exact hp.hS.P8
 have ami:=ah fun(V:World) (hV:aJ w V)=>tV (hmem.below hV) (kG.below hV).blk (aeE.later hV) (by rw[←P5];exact hp.hR) hP8 hp.hv ht;obtain⟨β,q0,sQ⟩:=hmem.s1;have Sa:=ah fun(V:World) (hV:aJ w V)=>zW (hmem.below hV) (sQ.below hV (hmem.lt (.inl rfl)));have amj:=ah fun(V:World)=>Fh (some ⟨bG,0,none⟩) (some ⟨ib,0,none⟩) p.R.length iD V;have cG:=kG.blk.cell;unfold Og at cG;have lG:=kG.blk.lt;have HM:=ah hmem;have HG:=ah kG;have HS:=ah hs;have HSt:=ah hS;have HI:=ah (And.intro i1 (And.intro i2 i3));have Hkg:=ah kg;have Hn:=ah hn;have Hp:=ah hp;clear hmem kG hs hS i2 i3 aeE sQ kg hn hp;have Sd:=ah hat;clear hat;refine az ?_;intro hal bu;refine(callsIn_wide (n:=5)).1 ?_;refine callsIn_of_wp_marks func14 rfl trivial ?_ rfl;simp only[ntmps14,List.size_toArray,List.length_cons,List.length_nil,Nat.reduceAdd,Nat.reduceSub,Array.replicate_succ,Array.replicate_zero,List.push_toArray,List.append_toArray,List.nil_append,List.cons_append];refine wpIn_wide.2 ?_;go_wp2_with (first|((with_reducible refine(ami.out _ aG).mono ?_);refine df ?_;intro w1 aO N1 dA bW eu eF)|((with_reducible refine(Sa.out _ aG).mono ?_);rintro e w2 ⟨rfl,rfl⟩)|((with_reducible refine(amj.out _).mono ?_);rintro e w3 ⟨rfl,rfl⟩));refine aP fun Z hZ=>?_;have A_:aJ w Z:=by rw[hZ];exact aG
 have nk:=aO.size;have kE:aV Z (w.heap.size+1) [.slice none 0 0]:=by rw[hZ];exact((((((((aV.new _ _ _ _ av).alloc _).alloc _).later aO).alloc _).alloc _).alloc _)).drew
 have kN:aV Z (w.heap.size+1+1) [ag 0]:=by rw[hZ];exact(((((((aV.new _ _ _ _ av).alloc _).later aO).alloc _).alloc _).alloc _)).drew
 have kX:aV Z (w.heap.size+1+1+1) [ag 0]:=by rw[hZ];exact((((((aV.new _ _ _ _ av).later aO).alloc _).alloc _).alloc _)).drew
 have k1:aV Z (w1.heap.size+1) [aR bG]:=by rw[hZ];exact((aV.new _ _ _ _ av).alloc _).drew
 have k2:aV Z (w1.heap.size+1+1) [aZ ib p.R.length iD]:=by rw[hZ];exact(aV.new _ _ _ _ av).drew
 obtain⟨bX,hX⟩:∃b,b=w.heap.size+1+1+1:=⟨_,rfl⟩
 rw[←hX]at kX⊢;obtain⟨bN,hN⟩:∃b,b=w.heap.size+1+1:=⟨_,rfl⟩
 rw[←hN]at kN⊢;obtain⟨bE,hE⟩:∃b,b=w.heap.size+1:=⟨_,rfl⟩
 rw[←hE]at kE⊢;obtain⟨b0,h0⟩:∃b,b=w.heap.size:=⟨_,rfl⟩
 have Hb0:=ah h0;obtain⟨b2,h2⟩:∃b,b=w1.heap.size+1+1:=⟨_,rfl⟩
 rw[←h2]at k2⊢;obtain⟨b1,h3⟩:∃b,b=w1.heap.size+1:=⟨_,rfl⟩
 rw[←h3]at k1⊢;obtain⟨bM,h4⟩:∃b,b=w1.heap.size:=⟨_,rfl⟩
 rw[←h4];have aqW:w.heap.size<bE∧bE<bN∧bN<bX∧bX<b1∧b1<b2∧b2<Z.heap.size:=by have:=k2.lt;simp at nk;omega
 have hZs:=A_.size;clear hZ hX hN hE h0 h2 h3 h4 b0 Hb0 bW eu eF dA N1 nk aO cG;have Ux:∀b,b<w.heap.size→¬(⟨M,C,L,m⟩:Fp).has b→Sf bE bN ⟨M,C,L,m⟩ Z b:=fun b hb hF=>⟨ae,hF,ae,ae,fun v hv e=>by rw[kE.cell 0]at hv;have e2:=bD hv;rw[←e2]at e;cases e⟩
 have Lf:∀b,(⟨M,C,L,m⟩:Fp).has b→b<w.heap.size:=fun b hb=>HM.out.lt hb;have nE:¬(⟨M,C,L,m⟩:Fp).has bE:=fun h=>by have:=Lf bE h;omega
 have nN:¬(⟨M,C,L,m⟩:Fp).has bN:=fun h=>by have:=Lf bN h;omega
 have nX:¬(⟨M,C,L,m⟩:Fp).has bX:=fun h=>by have:=Lf bX h;omega
 have jk:∀b,b=b1∨b=b2→Sf bE bN ⟨M,C,L,m⟩ Z b:=fun b hb=>⟨ae,fun hF=>by have:=Lf b hF;omega,ae,ae,fun v hv e=>by rw[kE.cell 0]at hv;have e2:=bD hv;rw[←e2]at e;cases e⟩
 have Xr:It Z.heap.size bE bN bX [] Z:=⟨⟨.slice none 0 0,[],0,kE,jw _ _ _ _,aH _,av⟩,kN,kX,aH _⟩
 have hR0:Rd ⟨W0,S,bs,rm,dr,aR Qh,bG,b1,b2,bE,bN,bX,Z.heap.size,p.I,p.R,aZ ib p.R.length iD,p.e0,p.e1,p.e2,w,⟨M,C,L,m⟩⟩ (its p c 0) 0 ⟨M,C,L,m⟩ Z:=by
  refine⟨HM.out.below A_,rfl,⟨nE,nN,nX,fun v hv b e=>?_,by show bE<_;omega,by show bN<_;omega,by show bX<_;omega⟩,HS.out.below A_,Ux 0 (by have:=Hkg.out.blk.lt;omega) Hkg.out.no,Hkg.out.blk.later A_,Ux bG lG HG.out.no,HG.out.blk.later A_,jk b1 (.inl rfl),k1,jk b2 (.inr rfl),k2,⟨ib,iD,rfl,fun i x hx=>?_⟩,(Alt.refl [] w ⟨M,C,L,m⟩).below A_⟩
  ·have hv':Z.cell? ⟨bE,0,none⟩=some v:=hv;rw[kE.cell 0]at hv';have e2:=bD hv';rw[←e2]at e;cases e
  ·obtain⟨c0,c1,c2⟩:=HI.out.2.2 i x hx;exact⟨Ux ib i1 HI.out.2.1,ai A_ c0,ai A_ c1,ai A_ c2⟩
 have hok:Tp.Ok ⟨W0,S,bs,rm,dr,aR Qh,bG,b1,b2,bE,bN,bX,Z.heap.size,p.I,p.R,aZ ib p.R.length iD,p.e0,p.e1,p.e2,w,⟨M,C,L,m⟩⟩:=⟨HS.out.jQ.size,by show w.heap.size≤bE;omega,by show w.heap.size≤bN;omega,hZs⟩
 have htr:∀k,k<nn→∃x y z r q,∀V F b5 code,Rd ⟨W0,S,bs,rm,dr,aR Qh,bG,b1,b2,bE,bN,bX,Z.heap.size,p.I,p.R,aZ ib p.R.length iD,p.e0,p.e1,p.e2,w,⟨M,C,L,m⟩⟩ (its p c k) k F V→Pd ⟨W0,S,bs,rm,dr,aR Qh,bG,b1,b2,bE,bN,bX,Z.heap.size,p.I,p.R,aZ ib p.R.length iD,p.e0,p.e1,p.e2,w,⟨M,C,L,m⟩⟩ b5 code F V→Calls prog 16 #[iW F.M,dR S bs rm dr,qQ code p.e0 p.e1 p.e2,ag p.cK,aZ ib p.R.length iD] V fun e w'=>e=.returned (.tuple #[.bool (decide (k+1=nn)),jB x y z r,.bool q])∧∃F',aD w' F' (its p c (k+1))∧Alt [] V F w' F' 40:=by
  intro k hk;obtain⟨hmid,hmt⟩:=Hn.out.mid k hk;have hx:=Ul Hp.out hmid (by rw[hmt];omega);have hen:(nx p (its p c k)).en=decide (k+1=nn):=by
   by_cases he:k+1=nn
   ·have:=Hn.out.yes;rw[show nn-1=k from ae]at this;rw[this];simp[he]
   ·rw[Hn.out.no k ae];simp[he]
  refine⟨(nx p (its p c k)).x,(nx p (its p c k)).y,(nx p (its p c k)).z,(nx p (its p c k)).r,(nx p (its p c k)).q,fun V F b5 code hR hP=>?_⟩;obtain⟨FM,FC,FL,Fm⟩:=F;have hFm:Fm≤m+40*k:=hR.al.n;have hmp:Le p.S p.I p.R W0 bs rm dr code (aZ ib p.R.length iD) V ⟨FM,FC,FL,Fm⟩ (its p c k):=by
   refine⟨hR.hm,⟨hR.k0,hR.s0.no⟩,?_,hR.hs,by rw[P5];exact HSt.out,?_,h1⟩
   ·obtain⟨ac,bY,e,hc⟩:=hP.hc;exact⟨ac,bY,e,fun i hi=>by obtain⟨b,e2,s,c0,c1⟩:=hc i hi;exact⟨b,e2,s.no,c0,c1⟩⟩
   ·obtain⟨b,cap,e,hc⟩:=hR.hin;exact⟨b,cap,e,fun i x hx=>⟨(hc i x hx).1.no,(hc i x hx).2⟩⟩
  have:=hx.2 hmp ae;rw[P5]at this;refine this.mono ?_;rintro e w' ⟨rfl,L',m',hm',ha'⟩;rw[hen];exact⟨rfl,_,hm',ha'⟩
 have HR0:=ah hR0;have HI0:=ah Xr;have Hok:=ah hok;have HbZ:=ah A_;clear hR0 Xr hok A_ Ux jk Lf nE nN nX kE kN kX k1 k2 HM HG HS HI Hkg ami Sa amj;have IC:=ah htr;clear htr;refine(wpIn_wide (n:=5)).1 ?_;refine' yg (n:=5) (F:=Fence.wide) rfl bL (gf:=74) (lb:=#[aR b1,aR b2]) rfl trivial (enters_of func74 aL rfl)
  (encs:=fun x:Ef=>#[.agg #[ag x.1,ag x.2.1,ag x.2.2.1,ag x.2.2.2.1,.bool x.2.2.2.2]]) (fun _=>rfl) 1000000 (It Z.heap.size bE bN bX) (It.own ae ae ae) HI0.out (Kt Z.heap.size bE bN) Kt.trans (fun W l o o' hl ho hc=>Kt.book ae W l o o' hl ho hc)
  (fun xs W=>xs.length=nn∧It Z.heap.size bE bN bX xs W∧∃F',Rd ⟨W0,S,bs,rm,dr,aR Qh,bG,b1,b2,bE,bN,bX,Z.heap.size,p.I,p.R,aZ ib p.R.length iD,p.e0,p.e1,p.e2,w,⟨M,C,L,m⟩⟩ (its p c nn) nn F' W) ?hS (fun l J hJI Yo hY W h0 hb=>?hit)
  (fun x a' W=>∃Bx,Z.heap.size≤Bx∧aV W Bx [ag x.1,ag x.2.1,ag x.2.2.1,ag x.2.2.2.1,.bool x.2.2.2.2]∧bE<W.heap.size∧(∀v',W.cell? ⟨bE,0,none⟩=some v'→v'.ownBlock≠some Bx)∧a'={tmps:=#[aR bG,aZ ib p.R.length iD,aR w.heap.size,undef,aR bE,aR bN,aR bX,ag 0,aR bM,aR Bx,aR bG,aZ ib p.R.length iD,ag 0,ag 0,.bool false,undef,aR bG,aR bG,.pointer (some ⟨bG,17,none⟩),aR M,ag (β+q0),.func (.func 34) #[] #[aR w.heap.size,aR bM,aR bE,aR bN,aR bX],aR bG,aZ ib p.R.length iD,.func (.func 74) #[] #[aR b1,aR b2],.agg #[ag x.1,ag x.2.1,ag x.2.2.1,ag x.2.2.2.1,.bool x.2.2.2.2],undef,undef,undef,undef,undef,undef,undef,undef,undef,undef,undef],defers:=[]})
  (fun x a' u A B row hs hg hr=>?ax) ?assign ?body ?done
 case hS=>rintro xs A B row ⟨e1,e2,F',e3⟩ hg hr;exact⟨e1,It.own ae ae ae xs A B row e2 hg hr,F',e3.kt Hok.out (Kt.grown (by show bE<Z.heap.size;omega) (by have:=e2.e.choose_spec.choose_spec.choose_spec.1.lt;exact this) hg hr) e2.Eh⟩
 case hit=>have hRW:=HR0.out.below hb;refine callsIn_wide.2 (WR ⟨W0,S,bs,rm,dr,aR Qh,bG,b1,b2,bE,bN,bX,Z.heap.size,p.I,p.R,aZ ib p.R.length iD,p.e0,p.e1,p.e2,w,⟨M,C,L,m⟩⟩ Hok.out 4 l 1000000 nn Qh (its p c) p.cK Hn.out.pos ae J hJI Yo hY W h0 ⟨M,C,L,m⟩ hRW rfl (fun V hV=>Sd.out V (HbZ.out.trans ((hb.trans (hV.mono hb.size)).mono HbZ.out.size))) IC.out)
 case ax=>obtain⟨Bx,q1,q2,q3,q4,q5⟩:=hs;have hbx:B.heap[Bx]?=A.heap[Bx]?:=hg.block Bx q2.lt (fun e=>by obtain⟨_,o,h4,h5⟩:=hr Bx e.symm;obtain⟨o2,h6,h7⟩:=jE (q2.cell 0);rw[h4]at h6;injection h6 with h6;subst h6;rw[h5]at h7;cases h7);have hbe:B.cell? ⟨bE,0,none⟩=A.cell? ⟨bE,0,none⟩:=bg (a:=⟨bE,0,none⟩) (hg.block bE q3 (fun e=>by have:=(hr bE e.symm).1;omega));exact⟨Bx,q1,q2.keep hg.size hbx,bH q3 hg.size,fun v' hv'=>q4 v' (by rw[←hbe];exact hv'),q5⟩
 case assign=>
  intro l pre x W K hi hK;have lE:bE<W.heap.size:=by have:=hi.z;omega
  have kY:aJ W (W.alloc (.cells #[ag x.1,ag x.2.1,ag x.2.2.1,ag x.2.2.2.1,.bool x.2.2.2.2] 100)):=(aK _ _).alloc (aH _) _;gi_wp2;refine hK _ _ (J9 kY) (Kt.below kY lE) (hi.below kY) ⟨W.heap.size,hi.z,aV.new _ _ _ _ rfl,bU,fun v' hv' e=>?_,rfl⟩;have:=(hi.Eh v' (by rw[←World.cell?_of_block (a:=⟨bE,0,none⟩) (kY.block bE lE)];exact hv') _ e).2;omega
 case body=>
  rintro l pre ⟨x0,x1,x2,x3,q⟩ a' W hi ⟨Bx,hBx,kx,lE,hnw,rfl⟩ hlen;obtain⟨i0,hii,sN,nk,nD⟩:=info_parts Tryz.Um;simp only at kx;have hc:=aaa (x:=(x0,x1,x2,x3,q)) hi ae ae ae;have cx:=kx.cell;have lx:=kx.lt;have cN:=hi.n.cell;have fN:=hi.n.free;have lN:=hi.n.lt;obtain⟨v,xs,m',kE,oE,hm',hu'⟩:=hi.e;have Hu':=ah hu';clear hu';obtain⟨a,cap,rfl⟩:∃a cap,v=.slice a m' cap:=by
   rcases oE.2 with⟨h1,h2⟩|⟨g,cp,cur,h1,_⟩
   ·exact⟨none,0,by rw[h1,h2]⟩
   ·exact⟨_,_,h1⟩
  have⟨cE,fE,_⟩:=kE;obtain⟨W1,vI⟩:∃W1,W1=W.setCell ⟨bN,0,none⟩ (ag ((pre.length:Int)+1)):=⟨_,rfl⟩
  have k1:aV W1 bE [.slice a m' cap]:=by rw[vI];exact kE.other (by show bN≠bE;omega) _
  have o1:W1.ownsRow Z.heap.size 66 4 (.slice a m' cap) m' xs:=by rw[vI];exact dC oE fun g e=>dI _ _ _ _ (by have:=(oE.lt g e).1;show g≠bN;omega)
  have hno:∀g,(Value.slice a m' cap).ownBlock=some g→Z.heap.size≤g:=fun g e=>(oE.lt g e).1;have Hi:=ah hi;have Hc:=ah hc;have Nn:=ah k1;have Ho1:=ah o1;have HW1:=ah vI;have Hno:=ah hno;have hxN:Bx≠bN:=ae;have hEN:bE≠bN:=ae;clear hi hc kx hnw kE oE k1 o1 vI hno;have cZ:=au;have hmb:m'≤1000000:=ae;cases q with
  |false=>gi_wp2;exact⟨Hc.out.2.2,Hc.out.2.1,Hc.out.1⟩
  |true=>
   have hA1:((W.setCell ⟨bN,0,none⟩ (ag ((pre.length:Int)+1))).alloc (.cells #[ag x0,ag x1,ag x2,ag x3] 66)).ownsRow 0 66 4 (.slice a m' cap) m' xs:=by rw[←HW1.out];exact Pa.ownsRow_base (Ho1.out.alloc _) (Nat.zero_le _)
   have HA1:=ah hA1;clear hA1;gi_wp2_with (refine Qt.Dx (fun c e=>by cases e) (by rintro⟨_,_,h⟩;exact h) rfl ?_;refine gq (.tmp 30) (.tmp 33) 53 rfl 66 i0 (.agg #[ag 0,ag 0,ag 0,ag 0]) 4 32 underlying53 hii sN nk nD rfl bL (.slice a m' cap) m' xs rfl HA1.out ⟨W.heap.size,0,none⟩ 1 1 (efL (x0,x1,x2,x3,true)) rfl rfl (fun j uu hj=>by rw[Pa.zt];have h:=World.cell?_alloc_new (W.setCell ⟨bN,0,none⟩ (ag ((pre.length:Int)+1))) #[ag x0,ag x1,ag x2,ag x3] 66 j;rw[show(W.setCell ⟨bN,0,none⟩ (ag ((pre.length:Int)+1))).heap.size=W.heap.size from av]at h;rw[h];simpa[efL]using hj) (by simp[efL,Value.oneCell']) iq ae ?_;intro v5 w5 iE lJ zK;obtain⟨a5,cap5,rfl⟩:=Pa.Bc iE;have RY:=ah (adt (t:=66) (W:=W1) (by rw[HW1.out];exact Hc.out.1) Nn.out Ho1.out bU Hu'.out ae ae ae ae ae iE (by rw[HW1.out];exact lJ) (by rw[HW1.out];exact zK));have q5:w5.heap[bE]?=W.heap[bE]?:=(lJ.block bE bU (fun e=>by have:=Hno.out bE e.symm;omega)).trans ((gV _ _ _ bU).trans (dI _ _ _ _ hEN));have q6:w5.cell? ⟨bE,0,none⟩=some (.slice a m' cap):=(bg (a:=⟨bE,0,none⟩) q5).trans (cE 0);have q7:w5.frozen? ⟨bE,0,none⟩=false:=(World.frozen?_of_block (a:=⟨bE,0,none⟩) q5).trans (fE 0);clear iE lJ zK q5);have bW:=Hc.out;rw[←HW1.out]at bW;obtain⟨r1,r2,r3⟩:=RY.out;exact⟨bW.2.2.trans r3,bW.2.1.trans r2,r1⟩
 case done=>
  rintro D xs W hD ⟨hlen,hIt,F',hR⟩ hi hK;obtain⟨v,ys,m',kE,oE,hm'⟩:=hi.e;obtain⟨a,cap,rfl⟩:∃a cap,v=.slice a m' cap:=by
   rcases oE.2 with⟨h1,h2⟩|⟨g,cp,cur,h1,_⟩
   ·exact⟨none,0,by rw[h1,h2]⟩
   ·exact⟨_,_,h1⟩
  have kN:=hi.n;have kX:=hi.x;rw[hlen]at kN hm';have⟨cE,fE,lE⟩:=kE;have⟨cN,fN,lN⟩:=kN;have⟨cX,fX,lX⟩:=kX;have hEN:bE≠bN:=ae;have hEX:bE≠bX:=ae;have hNX:bN≠bX:=ae;have HR:=ah hR;have HK:=ah hK;have HoE:=ah oE;have Hm':=ah hm';have cZ:=au;clear hR hK oE kE kN kX hIt hi hm';go_upto_region 11 with(fail);go_region;go_wp2;refine Pa.Y6 fun WE Ug=>?_;have hblk:∀q,q≠bE→q≠bN→q≠bX→WE.heap[q]?=W.heap[q]?:=fun q q1 q2 q3=>by rw[Ug];exact(dI _ _ _ _ q3).trans ((dI _ _ _ _ q2).trans (dI _ _ _ _ q1))
  have hsz:WE.heap.size=W.heap.size:=by rw[Ug];simp
  have hos:WE.os=W.os∧WE.tape=W.tape∧WE.output=W.output:=by rw[Ug];exact⟨rfl,rfl,rfl⟩
  have g0:WE.cell? ⟨bE,0,none⟩=some (.slice a m' cap):=by rw[Ug];simp[au,cE,hEN,hEX]
  have g1:WE.cell? ⟨bN,0,none⟩=some (ag nn):=by rw[Ug];simp[au,cN,hEN,hNX,Ne.symm hEN]
  have g2:WE.cell? ⟨bX,0,none⟩=some (ag 0):=by rw[Ug];simp[au,cX,Ne.symm hEX,Ne.symm hNX]
  have dE:bE≠D:=ae;have dN:bN≠D:=ae;have dX:bX≠D:=ae;have hKD:WE.heap[D]?=some (.deferred (some [])):=(hblk D ae ae ae).trans HK.out;clear Ug cE fE cN fN cX fX;refine⟨av,.inl ⟨D,_,rfl,run_takeDeferred hKD,?_⟩⟩;refine⟨av,.inr ⟨(by intro hh;cases hh),_,_,34,#[aR w.heap.size,aR bM,aR bE,aR bN,aR bX],rfl,by simp[go_sem],fun g hg=>trivial,?_⟩⟩;refine(SI _ _ _ _ _ _ _).mono ?_;rintro e u' w'' ⟨rfl,rfl,rfl⟩;have hpo:=fun(b o:Nat) (h:b≠D)=>bg (a:=⟨b,o,none⟩) (World.putObj_heap_other (w:=WE) (o:=.deferred none) (r:=D) h);have hg:=grownBy_putObj' WE D (.deferred none);have hall:∀q,q≠bE→q≠bN→q≠bX→q≠D→(WE.putObj D (.deferred none)).heap[q]?=W.heap[q]?:=fun q q1 q2 q3 q4=>(World.putObj_heap_other q4).trans (hblk q q1 q2 q3);refine⟨.tuple #[.slice a m' cap,ag nn,ag 0],by simp[results,results14,go_sem,hpo,dE,dN,dX,g0,g1,g2],.slice a m' cap,ys,m',F',rfl,?_⟩;have hsF:(WE.putObj D (.deferred none)).heap.size=W.heap.size:=by rw[World.putObj_size];exact hsz
  have aml:=hg.os.trans hos.1;have htF:=hg.tape.trans hos.2.1;have amm:=hg.output.trans hos.2.2;generalize WE.putObj D (.deferred none)=WF at*;have hR:=HR.out;have hnD:∀q,(∃o:Obj,W.heap[q]?=some o∧o.isCells=true)→q≠D:=fun q ⟨o,e1,e2⟩ e3=>by rw[e3,HK.out]at e1;injection e1 with e1;subst e1;cases e2
  have hmF:aD WF F' (its p c nn):=OJ hR.hm fun b hb=>hall b (fun e=>hR.dj.E (by show F'.has bE;rw[←e];exact hb)) (fun e=>hR.dj.N (by show F'.has bN;rw[←e];exact hb)) (fun e=>hR.dj.X (by show F'.has bX;rw[←e];exact hb)) (hnD b (BA hR.hm hb));have hlow:∀q,q<w.heap.size→WF.heap[q]?=W.heap[q]?:=fun q hq=>hall q ae ae ae ae;have LB:=hR.al;have hSz:W0.heap.size≤w.heap.size:=Hok.out.a;refine⟨dC (Pa.ownsRow_base HoE.out hZs) fun g e=>hall g (by have:=(HoE.out.lt g e).1;omega) (by have:=(HoE.out.lt g e).1;omega) (by have:=(HoE.out.lt g e).1;omega) (hnD g ?_),Hm'.out,⟨hmF,⟨?_,hR.sG.no⟩,⟨⟨aml.trans hR.hs.jQ.os,htF.trans hR.hs.jQ.tape,amm.trans hR.hs.jQ.output,by rw[hsF];exact hR.hs.jQ.size,fun q hq=>(hlow q (bH hq hSz)).trans (hR.hs.jQ.block q hq)⟩,hR.hs.new⟩,HSt.out,h1⟩,⟨aml.trans LB.os,htF.trans LB.tape,amm.trans LB.output,by rw[hsF];exact LB.size,fun q hq hF hn=>(hlow q hq).trans (LB.block q hq hF hn),LB.M,LB.C,LB.L,LB.n⟩⟩
  ·rcases HoE.out.2 with⟨e1,_⟩|⟨g',cp,cur,e1,_,e3,_⟩
   ·rw[e1]at e;cases e
   ·rw[e1]at e;have e2:g'=g:=bD e;subst e2;exact⟨_,e3,rfl⟩
  ·have hM:F'.M=M:=hR.M;rw[hM];exact hR.kG.keep (by rw[hsF];exact aH _) (hlow bG lG)
variable {w W0 w' wr wq:World} {S:Stp} {bs rm dr bk v:Value} {F F':Fp} {c c':List Int} {bG Z N k:Nat}
theorem Gm.step (h:Gm w W0 bG S bs rm dr bk F c) (hm:aD w' F' c') (a:Alt [] w F w' F' k):Gm w' W0 bG S bs rm dr bk F' c':=
 ⟨hm,by have:=h.kG.step a;rw[a.M];exact this,h.hs.step a,h.hS,h.h1⟩
theorem Gm.below (h:Gm w W0 bG S bs rm dr bk F c) (hb:aJ w w'):Gm w' W0 bG S bs rm dr bk F c:=
 ⟨h.hm.below hb,h.kG.below hb,h.hs.below hb,h.hS,h.h1⟩
def qc (w:World) (v:Value) (rows:List (List (Int×Int×Int))):Prop:=
 ∃rb cap,v=aZ rb rows.length cap∧∀t R,rows[t]?=some R→∃ib iD,w.cell? ⟨rb,t,none⟩=some (aZ ib R.length iD)∧ib<w.heap.size∧
  ∀i x,R[i]?=some x→w.cell? ⟨ib,i*3,none⟩=some (ag x.1)∧w.cell? ⟨ib,i*3+1,none⟩=some (ag x.2.1)∧w.cell? ⟨ib,i*3+2,none⟩=some (ag x.2.2)
theorem qc.later {rows:List (List (Int×Int×Int))} (h:qc w v rows) (hb:aJ w w'):qc w' v rows:=by obtain⟨rb,cap,e,h⟩:=h;refine⟨rb,cap,e,fun t R hR=>?_⟩;obtain⟨ib,iD,h1,h2,h3⟩:=h t R hR;exact⟨ib,iD,ai hb h1,bH h2 hb.size,fun i x hx=>⟨ai hb (h3 i x hx).1,ai hb (h3 i x hx).2.1,ai hb (h3 i x hx).2.2⟩⟩
structure Rn (w W0:World) (Z bG:Nat) (S:Stp) (bs rm dr bk:Value) (N:Nat) (wr:World) (F:Fp) (c:List Int) (v:Value):Prop where
 g:Gm wr W0 bG S bs rm dr bk F c
 kg:Kb wr F 0 jH
 e:∃k xs,wr.ownsRow 0 66 4 v k xs∧k≤N∧∀u∈xs,u.oneCell'=true
 nw:∀g,v.ownBlock=some g→Z≤g∧¬F.has g
 n:F.n≤40*N
 bl:aJ w wr
 lo:bG<Z∧W0.heap.size≤Z∧w.heap.size≤W0.heap.size∧w.heap.size≤bG
theorem Rn.below (h:Rn w W0 Z bG S bs rm dr bk N wr F c v) (b:aJ wr wq):Rn w W0 Z bG S bs rm dr bk N wq F c v:=by obtain⟨k,xs,h1,h2⟩:=h.e;exact⟨h.g.below b,h.kg.below b,⟨k,xs,dC h1 fun g e=>b.block g (h1.lt g e).2,h2⟩,h.nw,h.n,h.bl.trans (b.mono h.bl.size),h.lo⟩
theorem Rn.alt {N' j:Nat} (h:Rn w W0 Z bG S bs rm dr bk N wr F c v) (hm:aD wq F' c') (a:Alt [] wr F wq F' j) (hN:N≤N') (hn:F'.n≤40*N'):Rn w W0 Z bG S bs rm dr bk N' wq F' c' v:=by obtain⟨k,xs,h1,h2,h3⟩:=h.e;have hlo:=h.lo;refine⟨h.g.step hm a,h.kg.step a,⟨k,xs,dC h1 fun g e=>a.block g (h1.lt g e).2 (h.nw g e).2 av,ae,h3⟩,fun g e=>⟨(h.nw g e).1,fun hh=>(h.nw g e).2 (a.has (h1.lt g e).2 hh)⟩,hn,?_,h.lo⟩;exact⟨a.os.trans h.bl.os,a.tape.trans h.bl.tape,a.output.trans h.bl.output,aS h.bl.size a.size,fun b hb=>(a.block b (bH hb h.bl.size) (fun hh=>by have:=h.g.hs.new b hh;omega) av).trans (h.bl.block b hb)⟩
theorem Rn.app {v':Value} (h:Rn w W0 Z bG S bs rm dr bk N wr F c v) (hZ:Z≤wr.heap.size) {k':Nat} {xs':List Value} (own:wq.ownsRow 0 66 4 v' k' xs') (hk:k'≤N) (h1:∀u∈xs',u.oneCell'=true)
  (hg:wr.grownBy wq v.ownBlock) (hv:v'.ownBlock=v.ownBlock∨∃g,v'.ownBlock=some g∧wr.heap.size≤g):Rn w W0 Z bG S bs rm dr bk N wq F c v':=by
 have hlo:=h.lo;have e1:∀b,b<wr.heap.size→(b<Z∨F.has b)→wq.heap[b]?=wr.heap[b]?:=fun b hb hc=>hg.block b hb fun e=>by
  have:=h.nw b e.symm;rcases hc with hc|hc
  ·omega
  ·exact this.2 hc
 have hGs:=h.g.hs;refine⟨⟨h.g.hm.keep fun b hb=>e1 b (h.g.hm.lt hb) (.inr hb),⟨h.g.kG.blk.keep hg.size (e1 bG h.g.kG.blk.lt (.inl ae)),h.g.kG.no⟩,⟨⟨hg.os.trans hGs.jQ.os,hg.tape.trans hGs.jQ.tape,hg.output.trans hGs.jQ.output,aS hGs.jQ.size hg.size,fun b hb=>(e1 b (bH hb hGs.jQ.size) (.inl ae)).trans (hGs.jQ.block b hb)⟩,hGs.new⟩,h.g.hS,h.g.h1⟩,
  ⟨h.kg.blk.keep hg.size (e1 0 h.kg.blk.lt (.inl ae)),h.kg.no⟩,⟨k',xs',own,hk,h1⟩,fun g e=>?_,h.n,?_,h.lo⟩
 ·rcases hv with e2|⟨g',e2,e3⟩
  ·exact h.nw g (e2.symm.trans e)
  ·rw[e2]at e;have e4:g'=g:=bD e;subst e4;exact⟨ae,h.g.hm.no e3⟩
 ·exact⟨hg.os.trans h.bl.os,hg.tape.trans h.bl.tape,hg.output.trans h.bl.output,aS h.bl.size hg.size,fun b hb=>(e1 b (bH hb h.bl.size) (.inl ae)).trans (h.bl.block b hb)⟩
theorem Si {W:World} {β:Int} (h:aD W F c) (hl:zV W F β k) (x:dh W):
  Calls prog 33 #[aR F.M] x.out fun e w'=>e=.returned (ag (β+k))∧∃y:dh W,w'=y.out:=
 aY ((zW (h.below x.below) (hl.below x.below (h.lt (.inl rfl)))).mono fun e w' ⟨h1,h2⟩=>⟨h1,by rw[h2];exact(aK _ _).drew⟩)
theorem TR {rv:Value} {kb:Nat} {M:Mt} (h:lK w S bs rm dr) (hv:ql S) (hr:S.f_.length≤100) (hd:S.doors.length≤100) (hM:M.Ok) (AR:M.S=S) (hi:Fin M.S (qD M.S)∧cg (qD M.S) 0=0)
  (hbk:yJ w kb M) (hrows:qc w rv M.rows) (BC:aV w 0 jH):
  Calls prog 25 #[dR S bs rm dr,aR kb,rv] w fun e w'=>∃b v,e=.returned (.tuple #[aZ b (qE S) (qE S),v,ag 0])∧Row .i64 w' b (M.st M.rows.length)∧w.heap.size≤b∧aJ w w':=by
 subst AR;have hk:mf M.S:=hM.hS;have yY:=ah fun(V:World) (hV:aJ w V)=>FO (kb:=kb) (h.later hV) hv hk hr hd;obtain⟨rb,IB,rfl,hrow⟩:=hrows;have Kg:=hM.hn;unfold dR at*;have gY:=results25;go_enter func25,ntmps25;go_upto_region 6 with(first|((with_reducible refine(yY.out _ aG).mono ?_);rintro e w1 ⟨bG,bs',rm',tL,W0,F,rfl,hG,hF,aO⟩;obtain⟨N1,dA,bW,eu,eF⟩:=eB aO;(try simp only[bf]at dA)));obtain⟨hF0,hF1,LW⟩:=hF;simp only[World.size_alloc]at hF1 LW;have agA:aJ w w1:=eG;have lG:=hG.kG.blk.lt;have UJ:∀b,F.has b→W0.heap.size≤b:=hG.hs.new;have alS:=hG.hs.jQ.size;have R0:Rn w W0 w1.heap.size bG M.S bs' rm' tL (aR kb) (900001*0) w1 F (M.st 0) (.slice none 0 0):=
  ⟨hG,⟨BC.later agA,fun hh=>by have:=UJ 0 hh;omega⟩,⟨0,[],jw _ _ _ _,ae,av⟩,(by intro g e;cases e),ae,agA,lG,alS,ae,ae⟩
 obtain⟨i0,hii,sN,nk,nD⟩:=info_parts Tryz.Um;obtain⟨n,hn⟩:∃n,n=M.rows.length:=⟨_,rfl⟩
 have Hn:=ah hn;rw[←hn]at Kg⊢;clear hn aO bW eu eF dA N1 hG hF0 hF1 LW agA lG UJ alS yY BC;have HR0:=ah R0;have vM:=ah hrow;have Hbk:=ah hbk;have Hi:=ah hi;have HM:=ah hM;clear R0 hrow hbk hi hM h hv hr hd hk;obtain⟨Z,hZ⟩:∃Z,Z=w1.heap.size:=⟨_,rfl⟩
 have HZ:=ah hZ;rw[←hZ]at HR0;clear hZ;go_loopw [11,28] (fun v i wr=>∃t F,t≤n∧i=ag t∧Rn w W0 Z bG M.S bs' rm' tL (aR kb) (900001*t) wr F (M.st t) v∧Z≤wr.heap.size) (fun _ i _=>n-(intOf i).toNat);case atStart=>exact⟨0,F,ae,rfl,HR0.out,by rw[HZ.out];exact aH _⟩
 case round=>
  obtain⟨t,Fr,htn,rfl,hR,hZr⟩:=hrel;by_cases ht:t<n
  ·have htI:(t:Int)<(n:Int):=ae;have PZ:t<M.rows.length:=by rw[←Hn.out];exact ht
   have hRt:M.rows[t]?=some (M.par t).R:=vV;obtain⟨ib,iD,c1,c2,c3⟩:=vM.out t _ hRt;have c1':=ai hR.bl c1;have hIn:InW wr Fr ib iD (M.par t).R:=⟨bH c2 hR.bl.size,fun hh=>by have:=hR.g.hs.new ib hh;have:=hR.lo;omega,fun i x hx=>⟨ai hR.bl (c3 i x hx).1,ai hR.bl (c3 i x hx).2.1,ai hR.bl (c3 i x hx).2.2⟩⟩
   have cZ:=(Mt.zM HM.out Hi.out t ae).2;have hat:=fun V (hV:aJ wr V)=>FE ((Hbk.out.later hR.bl).later hV) HM.out.h0 HM.out.h1 t;have hln:=Mt.FD HM.out Hi.out PZ;have hnm:=hR.n;obtain⟨fM,fC,fL,fm⟩:=Fr;have htk:=FH hR.g hR.kg (M.par t) (Mt.vU HM.out PZ) (M.vC t) hln.1 hln.2 (by simp only at hnm;omega) hIn (by rw[cZ];omega) (by rw[cZ];omega) (by rw[cZ];exact hat);have hnn:=hln.2;obtain⟨nn,agB⟩:∃nn,nn=M.ln t:=⟨_,rfl⟩
   rw[show its (M.par t) (M.st t) (M.ln t)=M.st (t+1)from rfl,←agB]at htk;rw[←agB]at hnn;generalize (M.par t).R.length=lR at*;obtain⟨k0,xs0,VY,Fq,ho0⟩:=hR.e;obtain⟨a0,cap0,rfl,_⟩:=Ce.p_ VY;have HR:=ah hR;have aey:=ah VY;have arO:=ah ho0;clear hR VY ho0 hIn cZ hat hln agB c1 c2 c3 hRt;have zO:=ah htk;clear htk;have azE:rb<wr.heap.size:=by have:=aU _ _ c1';simpa using this
   go_upto_region 11 with(first|((with_reducible refine(zO.out).mono ?_);rintro e w2 ⟨v2,xs2,k2,F2,rfl,MV,ho2,hG2,ha2⟩;obtain⟨a2,cap2,rfl,_⟩:=Ce.p_ (Pa.ownsRow_base MV (Nat.zero_le _));have Cy:=ah MV;have agC:=ah ho2;have Zc:=ah (HR.out.alt hG2.hm ha2 (N':=900001*(t+1)) ae (by have:=ha2.n;simp only at this hnm⊢;omega));have hsz:=ha2.size;clear MV ho2 hG2));have hown0':w2.ownsRow 0 66 4 (.slice a0 k0 cap0) k0 xs0:=dC aey.out fun g e=>ha2.block g (aey.out.lt g e).2 (HR.out.nw g e).2 av;have hone:∀u∈xs0++xs2,u.oneCell'=true:=fun u hu=>(h_.1 hu).elim (arO.out u) (agC.out.2 u);have iO:=agC.out.1;have agD:=ah hown0';have afE:=ah hone;clear hown0' hone ha2;go_wp2_with (first|(with_reducible refine jG 9 aL aL ?_)|(refine VZ rfl ?_;refine G9 (.tmp 42) (.tmp 43) 53 rfl 66 i0 (.agg #[ag 0,ag 0,ag 0,ag 0]) 4 32 underlying53 hii sN nk nD rfl bL (.slice a0 k0 cap0) k0 xs0 rfl agD.out wr.heap.size (.slice a2 k2 cap2) k2 xs2 rfl Cy.out agC.out.2 iq ae ?_;intro v5 w5 iE lJ zK;obtain⟨a5,cap5,rfl,_⟩:=Ce.p_ iE;have RY:=ah (Zc.out.app ae iE ae afE.out lJ zK);have KF:=lJ.size;clear iE lJ zK));have hm5:=RY.out.g.hm;obtain⟨β,q0,sQ⟩:=hm5.s1;have cG:=RY.out.g.kG.blk.cell;unfold Og at cG;have lG:=RY.out.g.kG.blk.lt;have Sa:=ah fun x:dh w5=>Si hm5 sQ x;intro NL hL;obtain⟨dU,dV,hlf⟩:=hL;(try simp only[bf]at dU);simp only[dS];repeat(go_big_quiet_step (first|(with_reducible exact Sa.out _)))
   refine wpQuiet_nil ?_;rintro w6 ⟨nq,hnq⟩;have ow:=nq.below;rw[←hnq]at ow;clear hnq nq dV hlf dU NL Sa;have ags:=ah (Cv (hm5.below ow) (sQ.below ow (hm5.lt (.inl rfl))));have hR6:=ah (RY.out.below ow);have hs6:=ow.size;clear hm5 sQ;go_wp2_with (first|((with_reducible refine(ags.out).mono ?_);rintro e w7 ⟨rfl,F7,hm7,ha7⟩;have hR7:=ah (hR6.out.alt hm7 ha7 (aH _) (by have:=ha7.n;have:=hR6.out.n;omega));have hs7:=ha7.size;clear hm7 ha7));refine Qt.fq ?_;go_wp2;exact⟨⟨t+1,F7,ae,av,hR7.out,ae⟩,by simp[intOf];omega⟩
  ·obtain rfl:t=n:=ae;have htI:¬((t:Int)<(t:Int)):=ae;obtain⟨k0,xs0,VY,Fq,ho0⟩:=hR.e;obtain⟨a0,cap0,rfl,_⟩:=Ce.p_ VY;have hce:=mo hR.g.hm;have cG:=hR.g.kG.blk.cell;unfold Og at cG;have hlen:(M.st t).length=qE M.S:=by have:=(Mt.zM HM.out Hi.out t (by rw[←Hn.out];omega)).1;exact this.len
   rw[hlen]at hce;have hbl:=hR.bl;clear hR VY ho0;have vN:=ah hce;clear hce;go_wp2_with (first|((with_reducible refine(vN.out).mono ?_);rintro e w2 ⟨b,rfl,hrow2,hlo,dW⟩;obtain⟨N2,nM,gX,ku,lI⟩:=eB dW;(try simp only[bf]at nM)));refine bodyPost_ret (v:=.tuple #[aZ b (qE M.S) (qE M.S),.slice a0 k0 cap0,ag 0]) eU rfl ?_;exact⟨b,_,rfl,by rw[←Hn.out];exact hrow2,aS hbl.size hlo,hbl.trans (dW.mono hbl.size)⟩
end Ga
namespace Di
open Go.RowKit aN fO Qt Ro Bk Ce La Ha In Vm Mc Tk Bo Ga
attribute [local go_sem] Oper.semAt_some
variable {w w' W0:World} {M:Mt} {t k:Nat} {rv sv bs rm dr:Value} {p:Jd} {c:List Int}
def Jf (S:Stp) (bs rm dr:Value) (kb:Nat) (rv sv lv:Value):List Value:=[ag S.ak,bs,ag S.x0,ag S.y0,ag S.x1,ag S.y1,rm,dr,ag S.ou,ag S.gx,ag S.gy,ag S.push,ag S.eO,ag S.rest,ag S.rounds,ag S.fuel,aR kb,rv,ag (-1),ag 0,ag 0,ag 0,sv,lv]
def VU (w:World) (rv:Value) (M:Mt) (t:Nat):Prop:=∃rb n cap ib iD,rv=aZ rb n cap∧t<n∧w.cell? ⟨rb,t,none⟩=some (aZ ib (M.par t).R.length iD)∧
 ∀i x,(M.par t).R[i]?=some x→w.cell? ⟨ib,i*3,none⟩=some (ag x.1)∧w.cell? ⟨ib,i*3+1,none⟩=some (ag x.2.1)∧w.cell? ⟨ib,i*3+2,none⟩=some (ag x.2.2)
def StT (w:World) (sv:Value) (M:Mt) (t:Nat):Prop:=∃sb n cap b cp,sv=aZ sb n cap∧t<n∧w.cell? ⟨sb,t,none⟩=some (aZ b (M.st t).length cp)∧Row .i64 w b (M.st t)
theorem VU.later (h:VU w rv M t) (hb:aJ w w'):VU w' rv M t:=by obtain⟨rb,n,cap,ib,iD,e,h1,h2,h3⟩:=h;exact⟨rb,n,cap,ib,iD,e,h1,ai hb h2,fun i x hx=>⟨ai hb (h3 i x hx).1,ai hb (h3 i x hx).2.1,ai hb (h3 i x hx).2.2⟩⟩
theorem StT.later (h:StT w sv M t) (hb:aJ w w'):StT w' sv M t:=by obtain⟨sb,n,cap,b,cp,e,h1,h2,h3⟩:=h;exact⟨sb,n,cap,b,cp,e,h1,ai hb h2,h3.below hb h3.lt⟩
structure Xs (w W0:World) (bX:Nat) (M:Mt) (bs rm dr:Value) (kb t:Nat) (rv sv lv:Value):Prop where
 k:aV w bX (Jf M.S bs rm dr kb rv sv lv)
 hs:aJ W0 w
 hS:fP W0 M.S bs rm dr
 h1:1≤W0.heap.size
 row:VU w rv M t
 st:StT w sv M t
 bk:yJ w kb M
 g0:aV w 0 jH
theorem Tg (hp:p.Ok) {nn:Nat} (hl:Len p c nn) (ht:0≤cg c 0∧cg c 0≤1000000) (hk:k<nn):
  ∃x y z r q,∀{w W0:World} {F:Fp} {bs rm dr code inp:Value},Le p.S p.I p.R W0 bs rm dr code inp w F (its p c k)→F.n<999980000→
   Calls prog 16 #[iW F.M,dR p.S bs rm dr,qQ code p.e0 p.e1 p.e2,ag p.cK,inp] w fun e w'=>e=.returned (.tuple #[.bool (decide (k+1=nn)),jB x y z r,.bool q])∧∃F',aD w' F' (its p c (k+1))∧Alt [] w F w' F' 40:=by
 obtain⟨hmid,hmt⟩:=hl.mid k hk;have hx:=Ul hp hmid (by rw[hmt];omega);have hen:(nx p (its p c k)).en=decide (k+1=nn):=by
  by_cases he:k+1=nn
  ·have:=hl.yes;rw[show nn-1=k from ae]at this;rw[this];simp[he]
  ·rw[hl.no k ae];simp[he]
 refine⟨(nx p (its p c k)).x,(nx p (its p c k)).y,(nx p (its p c k)).z,(nx p (its p c k)).r,(nx p (its p c k)).q,fun{w W0 F bs rm dr code inp} hmp hm=>?_⟩;obtain⟨FM,FC,FL,Fm⟩:=F;refine(hx.2 hmp hm).mono ?_;rintro e w' ⟨rfl,L',m',hm',ha'⟩;rw[hen];exact⟨rfl,_,hm',ha'⟩
structure Sm (w:World) (p:Jd) (c:List Int) (W0:World) (bs rm dr code inp:Value) (b5 k:Nat) (F:Fp) (wr:World):Prop where
 mp:Le p.S p.I p.R W0 bs rm dr code inp wr F (its p c k)
 k5:Kb wr F b5 [code,ag p.e0,ag p.e1,ag p.e2]
 n:F.n≤40*k
 bl:aJ w wr
 fr:∀b,F.has b→w.heap.size≤b
theorem Sm.step {code inp:Value} {b5:Nat} {F F':Fp} {wr wq:World} (h:Sm w p c W0 bs rm dr code inp b5 k F wr) (hm:aD wq F' (its p c (k+1))) (a:Alt [] wr F wq F' 40):Sm w p c W0 bs rm dr code inp b5 (k+1) F' wq:=by
 refine⟨h.mp.step hm a,h.k5.step a,by have:=a.n;have:=h.n;omega,⟨a.os.trans h.bl.os,a.tape.trans h.bl.tape,a.output.trans h.bl.output,aS h.bl.size a.size,fun b hb=>(a.block b (bH hb h.bl.size) (fun hh=>by have:=h.fr b hh;omega) av).trans (h.bl.block b hb)⟩,fun b hb=>?_⟩;by_cases hlt:b<wr.heap.size
 ·exact h.fr b (a.has hlt hb)
 ·have:=h.bl.size;omega
theorem Au {bX:Nat} {kb:Nat} {lv:Value} (h:Xs w W0 bX M bs rm dr kb t rv sv lv) (hM:M.Ok) (hi:Fin M.S (qD M.S)∧cg (qD M.S) 0=0) (ht:t<M.rows.length) (q:Int) (z:Nat) (hq:q=z∧z≤M.ln t∨q= -1∧z=M.ln t):
  Calls prog 60 #[aR bX,ag t,ag q] w fun e w'=>∃F,e=.returned (.tuple #[aR F.M,ag z])∧aD w' F (its (M.par t) (M.st t) z)∧(∀b,F.has b→w.heap.size≤b)∧aJ w w':=by
 have hX:=ah h;have cZ:=Mt.zM hM hi t ae;have Kg:=hM.hn;have hln:=Mt.FD hM hi ht;have hpo:=Mt.vU hM ht;have htr:=fun k (hk:k<M.ln t)=>Tg hpo hln.1 (by rw[cZ.2];omega) hk;obtain⟨sb,sn,alO,b,cp,rfl,s1,s2,s3⟩:=h.st;obtain⟨rb,rn,IB,ib,iD,rfl,r1,r2,r3⟩:=h.row;have hlen:(M.st t).length=qE M.S:=cZ.1.len;have eD:1≤(M.st t).length∧(M.st t).length≤1000:=by have h1:=hM.hS.P8;have h2:=hM.hS.n24;rw[hlen];unfold qE;omega
 have hnw:=fun(V:World) (hV:aJ w V)=>uw (cap:=cp) (s3.below hV s3.lt) eD;have hat:=fun V (hV:aJ w V)=>FE (h.bk.later hV) hM.h0 hM.h1 t;have cX:=h.k.cell;unfold Jf at cX;have lX:=h.k.lt;have lr:rb<w.heap.size:=by have:=aU _ _ r2;simpa using this
 have ls:sb<w.heap.size:=by have:=aU _ _ s2;simpa using this
 obtain⟨nn,hnn⟩:∃nn,nn=M.ln t:=⟨_,rfl⟩
 obtain⟨c,hc⟩:∃c,c=M.st t:=⟨_,rfl⟩
 obtain⟨p,hp⟩:∃p,p=M.par t:=⟨_,rfl⟩
 rw[←hp,←hnn,←hc]at htr;rw[←hc]at s2 hnw;rw[←hc,←hp];rw[←hnn]at hq;rw[←hp]at hat;rw[←hp]at r2 r3;generalize WW:p.R.length=lR at*;generalize hcl:c.length=lc at*;have P5:p.S=M.S:=by rw[hp,M.vC]
 have azA:1≤nn∧nn≤900001:=by have:=hln.1.pos;have:=hln.2;omega
 have vM:=ah r3;clear s3 r3 eD hlen cZ hln hpo hcl hc hnn hp h hi hM;have yY:=ah hnw;have Sd:=ah hat;have IC:=ah htr;clear hnw hat htr;have gY:=results60;go_enter func60,ntmps60;go_upto_region 4 with(first|((with_reducible refine(yY.out _ aG).mono ?_);rintro e w1 ⟨F,rfl,hmem,WX,hF0,hFL,aO⟩;obtain⟨N1,dA,bW,eu,eF⟩:=eB aO;(try simp only[bf]at dA))|((with_reducible refine(Sd.out _ aG).mono ?_);rintro e w2 ⟨v',rfl,⟨ac,vG,rfl,hcc⟩,dW⟩;obtain⟨N2,nM,gX,ku,lI⟩:=eB dW;(try simp only[bf]at nM)));refine aP fun W hW=>?_;have hbW:aJ w2 W:=aM;have k5:aV W w2.heap.size [.slice ac p.I.length vG,ag p.e0,ag p.e1,ag p.e2]:=by
  rw[hW];first
   |(with_reducible exact aV.new _ _ _ _ rfl)
   |exact((((aV.new w2 [.slice none 0 0,ag 0,ag 0,ag 0] _ _ rfl).put 0 _).put 1 _).put 2 _).put 3 _
 clear hW;have acn:=aO.size;have alP:=dW.size;have agx:aJ w1 W:=dW.trans (hbW.mono alP);have Sg:aJ w W:=aO.trans (agx.mono acn);have hXo:=hX.out;have Lf:∀b,F.has b→b<w1.heap.size:=fun b hb=>hmem.lt hb;have hS0:Sm w p c W0 bs rm dr (.slice ac p.I.length vG) (aZ ib lR iD) w2.heap.size 0 F W:=by
  refine⟨⟨hmem.below agx,⟨hXo.g0.later Sg,fun hh=>by have:=WX 0 hh;have:=hXo.g0.lt;omega⟩,⟨ac,vG,rfl,fun i hi=>?_⟩,⟨hXo.hs.trans (Sg.mono hXo.hs.size),fun b hb=>aS hXo.hs.size (WX b hb)⟩,by rw[P5];exact hXo.hS,⟨ib,iD,by rw[WW],fun i x hx=>?_⟩,hXo.h1⟩,⟨k5,fun hh=>by have:=Lf _ hh;omega⟩,ae,Sg,WX⟩
  ·obtain⟨b',e,g1,g2,g3⟩:=hcc i hi;exact⟨b',e,fun hh=>by have:=Lf _ hh;omega,ai hbW g2,ai hbW g3⟩
  ·obtain⟨g1,g2,g3⟩:=vM.out i x hx;have lib:ib<w.heap.size:=by have:=aU _ _ g1;simpa using this
   exact⟨fun hh=>by have:=WX _ hh;omega,ai Sg g1,ai Sg g2,ai Sg g3⟩
 have UK:=ah hS0;obtain⟨fm,hfm⟩:∃fm,F.M=fm:=⟨_,rfl⟩
 obtain⟨b5,eY⟩:∃b5,b5=w2.heap.size:=⟨_,rfl⟩
 rw[←eY]at UK⊢;rw[hfm];have st:∀V,aJ w V→∀i,V.cell? ⟨bX,i,none⟩=(Jf M.S bs rm dr kb (aZ rb rn IB) (aZ sb sn alO) lv)[i]?:=fun V hV=>(hXo.k.later hV).cell;have tC:=ah st;have Hr2:=ah r2;clear hS0 eY hXo Lf Sg agx acn alP k5 hbW hcc aO bW eu eF dA N1 dW gX ku lI nM N2 hmem WX hF0 hFL st cX r2 s2 vM yY Sd WW;go_loopw [11] (fun i wr=>∃k F',k≤z∧k<nn∧i=ag k∧F'.M=fm∧Sm w p c W0 bs rm dr (.slice ac p.I.length vG) (aZ ib lR iD) b5 k F' wr) (fun i _=>nn-(intOf i).toNat);case atStart=>exact⟨0,F,ae,ae,rfl,hfm,UK.out⟩
 case round=>
  clear UK hfm;obtain⟨k,F1,hkz,hkn,rfl,acK,hSm⟩:=hrel;have hbl:=hSm.bl;have hsz:=hbl.size;have cX:=tC.out _ hbl;unfold Jf at cX;have c5:=hSm.k5.blk.cell;have l5:=hSm.k5.blk.lt;have cr:=ai hbl Hr2.out;have lX':bX<wr.heap.size:=ae;have lr':rb<wr.heap.size:=ae;have hne:¬((t:Int)= -1):=ae;have azC:((t:Int)==-1)=false:=av;have HSm:=ah hSm;by_cases hqk:(k:Int)=q
  ·have hzk:z=k:=xX;subst hzk;clear hSm;go_wp2;refine bodyPost_ret (v:=.tuple #[aR fm,ag z]) eU rfl ⟨F1,by rw[acK],HSm.out.mp.hm,HSm.out.fr,HSm.out.bl⟩
  ·obtain⟨x,y,zz,r,qq,ht1⟩:=IC.out k hkn;have Jm:∀V:World,aJ wr V→Calls prog 16 #[iW fm,dR M.S bs rm dr,qQ (.slice ac p.I.length vG) p.e0 p.e1 p.e2,ag p.cK,aZ ib lR iD] V fun e w'=>e=.returned (.tuple #[.bool (decide (k+1=nn)),jB x y zz r,.bool qq])∧∃F',aD w' F' (its p c (k+1))∧Alt [] V F1 w' F' 40:=fun V hV=>by rw[←acK,←P5];exact ht1 (hSm.mp.below hV) (by have:=hSm.n;omega)
   unfold dR qQ at Jm;obtain⟨en,hen⟩:∃en,en=decide (k+1=nn):=⟨_,rfl⟩
   rw[←hen]at Jm;clear hSm ht1;have FQ:=ah Jm;clear Jm;go_upto_region 9 with(fail);refine vK [0,1,2,3,4,5,6,7,8,9,10,11,12,13,14] [] 15 20 [16,17,18,19,21,22,23] [16,17,18,19,20,21,22,23] #[ag 0,ag 0,ag 0,ag 0] 66 aL aL (fun o ho ev w=>by have ho':=bD ho;rw[←ho'];exact rfl) fun NL hL=>?_;obtain⟨dU,dV,hlf⟩:=hL;simp only[jA];repeat(go_big_quiet_step (fail))
   refine wpQuiet_nil ?_;repeat(go_big_quiet_step (fail))
   refine wpQuiet_nil ?_;clear dV hlf dU NL c5 cX cr;refine⟨?_,?_⟩
   ·have nP:aJ wr wr.drew:=(aK _ wr).drew;go_wp2_with (first|((with_reducible refine(FQ.out _ nP).mono ?_);rintro e w1 ⟨rfl,F2,gp,dG⟩));refine Qt.fq ?_;go_upto_region 10 with(fail);refine aP fun W2 mi=>?_;have dW:aJ w1 W2:=iK;have tF:=gp.below dW;have a2:Alt [] wr F1 W2 F2 40:=(Alt.after nP dG).below dW;have agy:F2.M=fm:=a2.M.trans acK;clear mi gp dG dW;exact DT
   ·have kY:aJ wr (wr.alloc (.cells #[ag 0,ag 0,ag 0,ag 0] 66)).drew:=((aK _ wr).alloc (aH _) _).drew;have kz:aV ((wr.alloc (.cells #[ag 0,ag 0,ag 0,ag 0] 66)).drew) wr.heap.size [ag 0,ag 0,ag 0,ag 0]:=(aV.new wr _ _ _ rfl).drew;have nF:¬F1.has wr.heap.size:=fun h=>absurd (HSm.out.mp.hm.lt h) (Nat.lt_irrefl _);go_wp2_with (first|((with_reducible refine(FQ.out _ kY).mono ?_);rintro e w1 ⟨rfl,F2,gp,dG⟩;have k1:aV w1 wr.heap.size [ag 0,ag 0,ag 0,ag 0]:=kz.keep dG.size (dG.block _ kz.lt nF av);have ck1:=k1.cell;have Xk:=k1.free;have lk1:=k1.lt));refine Qt.fq ?_;have nF1:¬F2.has wr.heap.size:=fun h=>nF (dG.has kz.lt h);go_upto_region 10 with(fail);refine aP fun W2 mi=>?_;have tF:aD W2 F2 (its p c (k+1)):=by rw[mi];exact(((gp.set (p:=⟨wr.heap.size,0,none⟩) nF1 _).set (p:=⟨wr.heap.size,1,none⟩) nF1 _).set (p:=⟨wr.heap.size,2,none⟩) nF1 _).set (p:=⟨wr.heap.size,3,none⟩) nF1 _
    have a2:Alt [] wr F1 W2 F2 40:=by rw[mi];exact((((Alt.after kY dG).set (p:=⟨wr.heap.size,0,none⟩) (.inr (aH _)) _).set (p:=⟨wr.heap.size,1,none⟩) (.inr (aH _)) _).set (p:=⟨wr.heap.size,2,none⟩) (.inr (aH _)) _).set (p:=⟨wr.heap.size,3,none⟩) (.inr (aH _)) _
    have agy:F2.M=fm:=a2.M.trans acK;clear mi gp dG kz k1 ck1 Xk lk1;exact DT
structure Hx (w W0:World) (bX:Nat) (M:Mt) (bs rm dr:Value) (kb:Nat) (rv sv lv:Value):Prop where
 k:aV w bX (Jf M.S bs rm dr kb rv sv lv)
 hs:aJ W0 w
 hS:fP W0 M.S bs rm dr
 h1:1≤W0.heap.size
 bk:yJ w kb M
 g0:aV w 0 jH
 row:∀t,t<M.rows.length→VU w rv M t
 st:∀t,t≤M.rows.length→StT w sv M t
 sl:∃a cap,sv=.slice a (M.rows.length+1) cap
 ln:∃lb cap,lv=aZ lb M.rows.length cap∧∀t,t<M.rows.length→w.cell? ⟨lb,t,none⟩=some (ag (M.ln t))
theorem Hx.later {w w' W0:World} {bX:Nat} {M:Mt} {bs rm dr:Value} {kb:Nat} {rv sv lv:Value} (h:Hx w W0 bX M bs rm dr kb rv sv lv) (hb:aJ w w'):Hx w' W0 bX M bs rm dr kb rv sv lv:=by obtain⟨lb,cap,e,h1⟩:=h.ln;exact⟨h.k.later hb,h.hs.trans (hb.mono h.hs.size),h.hS,h.h1,h.bk.later hb,h.g0.later hb,fun t ht=>(h.row t ht).later hb,fun t ht=>(h.st t ht).later hb,h.sl,lb,cap,e,fun t ht=>ai hb (h1 t ht)⟩
theorem Hx.xs {w W0:World} {bX:Nat} {M:Mt} {bs rm dr:Value} {kb:Nat} {rv sv lv:Value} (h:Hx w W0 bX M bs rm dr kb rv sv lv) {t:Nat} (ht:t<M.rows.length):Xs w W0 bX M bs rm dr kb t rv sv lv:=
 ⟨h.k,h.hs,h.hS,h.h1,h.row t ht,h.st t ae,h.bk,h.g0⟩
section
variable {w W0:World} {bX:Nat} {M:Mt} {bs rm dr:Value} {kb:Nat} {rv sv lv:Value}
theorem Kl (hM:M.Ok) (hi:Fin M.S (qD M.S)∧cg (qD M.S) 0=0) {t:Nat} (ht:t≤M.rows.length):2≤(M.st t).length∧(M.st t).length≤1000:=by have h1:=hM.hS.P8;have h2:=hM.hS.n24;have:=(Mt.zM hM hi t ht).1.len;rw[this];unfold qE;omega
theorem Uz (h:Hx w W0 bX M bs rm dr kb rv sv lv) (hM:M.Ok) (hi:Fin M.S (qD M.S)∧cg (qD M.S) 0=0) {t:Nat} (ht:t≤M.rows.length):
  Calls prog 293 #[aR bX,ag t] w fun e w'=>e=.returned (.int .u64 (Me.Ka (M.st t)))∧aJ w w':=by obtain⟨sb,sn,alO,b,cp,e0,s1,s2,s3⟩:=h.st t ht;obtain⟨a,cap,e1⟩:=h.sl;rw[e0]at e1;injection e1 with e2 e3 e4;subst e0;subst e3;have hl:=Kl hM hi ht;have U5:=ah (Me.tN (cap:=cp) s3 hl.1 hl.2);have Kg:=hM.hn;have cX:=h.k.cell;unfold Jf at cX;generalize Me.Ka (M.st t)=r at*;generalize (M.st t).length=lc at*;generalize M.rows.length=n at*;clear h s3 e2 hM hi;have g1:¬((t:Int)<0):=ae;have g2:¬((t:Int)≥((n+1:Nat):Int)):=ae;go_enter func293,ntmps293;go_wp2_with (first|((with_reducible refine(U5.out).mono ?_);rintro e w1 ⟨rfl,aO⟩));go_ret;exact⟨rfl,aO⟩
theorem Qj (h:Hx w W0 bX M bs rm dr kb rv sv lv) (Kg:M.rows.length≤20) {t:Nat} (ht:t<M.rows.length):
  Calls prog 291 #[aR bX,ag t] w fun e w'=>e=.returned (ag (M.ln t))∧w'=w:=by obtain⟨lb,cap,rfl,hln⟩:=h.ln;have c1:=hln t ht;have cX:=h.k.cell;unfold Jf at cX;generalize M.ln t=l at*;generalize M.rows.length=n at*;clear h hln;have g1:¬((t:Int)<0):=ae;have g2:¬((t:Int)≥(n:Int)):=ae;have g3:(t:Int)<(n:Int):=ae;go_enter func291,ntmps291;go_wp2;go_ret;exact⟨rfl,rfl⟩
theorem Zq (h:Hx w W0 bX M bs rm dr kb rv sv lv) (Kg:M.rows.length≤20) {t:Nat} (ht:t<M.rows.length) {z:Nat} (hz:z≤M.ln t):
  Calls prog 294 #[aR bX,ag t,ag z] w fun e w'=>e=.returned (.bool true)∧w'=w:=by obtain⟨lb,cap,rfl,hln⟩:=h.ln;have c1:=hln t ht;have cX:=h.k.cell;unfold Jf at cX;generalize M.ln t=l at*;generalize M.rows.length=n at*;clear h hln;have g1:((t:Int)≥0):=ae;have g3:(t:Int)<(n:Int):=ae;have g4:((z:Int)≥0):=ae;have g5:((z:Int)≤(l:Int)):=ae;go_enter func294,ntmps294;go_wp2;go_ret;exact⟨rfl,rfl⟩
theorem UA (h:Hx w W0 bX M bs rm dr kb rv sv lv) (hM:M.Ok) (hi:Fin M.S (qD M.S)∧cg (qD M.S) 0=0) {t:Nat} (ht:t<M.rows.length) {z:Nat} (hz:z≤M.ln t) (hlen:2≤(its (M.par t) (M.st t) z).length∧(its (M.par t) (M.st t) z).length≤1000):
  Calls prog 290 #[aR bX,ag t,ag z] w fun e w'=>e=.returned (.int .u64 (Me.Ka (its (M.par t) (M.st t) z)))∧aJ w w':=by have P9:=ah (Zq h hM.hn ht hz);have um:=ah (Au (h.xs ht) hM hi ht z z (.inl ⟨rfl,hz⟩));generalize its (M.par t) (M.st t) z=c at*;have uO:=ah fun(V:World) (F:Fp) (h:aD V F c)=>mo h;have U5:=ah fun(b:Nat) (V:World) (h:Row .i64 V b c)=>Me.tN (cap:=c.length) h hlen.1 hlen.2;generalize Me.Ka c=r at*;clear h;go_enter func290,ntmps290;go_wp2_with (first|((with_reducible refine P9.out.mono ?_);rintro e w1 ⟨rfl,rfl⟩)|((with_reducible refine um.out.mono ?_);rintro e w2 ⟨F,rfl,hmem,hF,dW⟩;have bW:=uO.out w2 F hmem;have MG:=ah bW;clear bW)|((with_reducible refine MG.out.mono ?_);rintro e w3 ⟨b,rfl,hrow,hb,gK⟩;have hrr:=U5.out b w3 hrow;have Hrr:=ah hrr;clear hrow hrr)|((with_reducible refine Hrr.out.mono ?_);rintro e w4 ⟨rfl,lY⟩));go_ret;exact⟨rfl,dW.trans ((gK.trans (lY.mono gK.size)).mono dW.size)⟩
end
def Fr (bX:Nat) (rv sv lv:Value) (b:Nat):Prop:=b≠bX∧rv.ownBlock≠some b∧sv.ownBlock≠some b∧lv.ownBlock≠some b
structure Ew (w W0:World) (B bX:Nat) (M:Mt) (bs rm dr:Value) (kb:Nat) (rv sv lv:Value) (xs ys zs:List Value) (na ns nl:Nat):Prop where
 k:aV w bX (Jf M.S bs rm dr kb rv sv lv)
 hs:aJ W0 w
 lo:W0.heap.size≤bX∧bX<B∧B≤w.heap.size
 o1:w.ownsRow B 56 1 rv na xs
 o2:w.ownsRow B 22 1 sv ns ys
 o3:w.ownsRow B 3 1 lv nl zs
 c1:∀t,t<na→∃ib iD,xs[t]?=some (aZ ib (M.par t).R.length iD)∧ib<w.heap.size∧Fr bX rv sv lv ib∧∀i x,(M.par t).R[i]?=some x→w.cell? ⟨ib,i*3,none⟩=some (ag x.1)∧w.cell? ⟨ib,i*3+1,none⟩=some (ag x.2.1)∧w.cell? ⟨ib,i*3+2,none⟩=some (ag x.2.2)
 c2:∀t,t<ns→∃b cp,ys[t]?=some (aZ b (M.st t).length cp)∧Fr bX rv sv lv b∧Row .i64 w b (M.st t)
 c3:∀t,t<nl→zs[t]?=some (ag (M.ln t))
 d:∀g,(rv.ownBlock=some g→sv.ownBlock≠some g∧lv.ownBlock≠some g)∧(sv.ownBlock=some g→lv.ownBlock≠some g)
theorem xV {k:IntKind} {w w':World} {b:Nat} {c:List Int} (h:Row k w b c) (hs:w.heap.size≤w'.heap.size) (e:w'.heap[b]?=w.heap[b]?):Row k w' b c:=
 ⟨fun i hi=>(bg (a:=⟨b,i,none⟩) e).trans (h.cells i hi),fun i=>(World.frozen?_of_block (a:=⟨b,i,none⟩) e).trans (h.free i),bH h.lt hs⟩
section
variable {w W0:World} {B bX:Nat} {M:Mt} {bs rm dr:Value} {kb:Nat} {rv sv lv:Value} {xs ys zs:List Value} {na ns nl:Nat}
theorem Ew.below {w':World} (h:Ew w W0 B bX M bs rm dr kb rv sv lv xs ys zs na ns nl) (hb:aJ w w'):Ew w' W0 B bX M bs rm dr kb rv sv lv xs ys zs na ns nl:=by
 have hl:=h.lo;have hz:=hb.size;refine⟨h.k.later hb,h.hs.trans (hb.mono h.hs.size),⟨hl.1,hl.2.1,ae⟩,dC h.o1 fun g e=>hb.block g (h.o1.lt g e).2,dC h.o2 fun g e=>hb.block g (h.o2.lt g e).2,dC h.o3 fun g e=>hb.block g (h.o3.lt g e).2,fun t ht=>?_,fun t ht=>?_,h.c3,h.d⟩
 ·obtain⟨ib,iD,e1,e2,e3,e4⟩:=h.c1 t ht;exact⟨ib,iD,e1,ae,e3,fun i x hx=>⟨ai hb (e4 i x hx).1,ai hb (e4 i x hx).2.1,ai hb (e4 i x hx).2.2⟩⟩
 ·obtain⟨b,cp,e1,e2,e3⟩:=h.c2 t ht;exact⟨b,cp,e1,e2,e3.below hb e3.lt⟩
theorem Ew.alI {wA w5:World} {rv' u:Value} (h:Ew w W0 B bX M bs rm dr kb rv sv lv xs ys zs na ns nl) (hA:aJ w wA) (own:w5.ownsRow 0 56 1 rv' (na+1) (xs++[u])) (hg:wA.grownBy w5 rv.ownBlock) (hv:rv'.ownBlock=rv.ownBlock∨∃g,rv'.ownBlock=some g∧wA.heap.size≤g)
  (hu:∃ib iD,u=aZ ib (M.par na).R.length iD∧ib<w.heap.size∧Fr bX rv sv lv ib∧∀i x,(M.par na).R[i]?=some x→w.cell? ⟨ib,i*3,none⟩=some (ag x.1)∧w.cell? ⟨ib,i*3+1,none⟩=some (ag x.2.1)∧w.cell? ⟨ib,i*3+2,none⟩=some (ag x.2.2)):
  Ew (w5.setCell ⟨bX,17,none⟩ rv') W0 B bX M bs rm dr kb rv' sv lv (xs++[u]) ys zs (na+1) ns nl:=by
 have hl:=h.lo;have hzA:=hA.size;have hz5:=hg.size;have hz:(w5.setCell ⟨bX,17,none⟩ rv').heap.size=w5.heap.size:=av;have hg':∀b,b<w.heap.size→rv.ownBlock≠some b→w5.heap[b]?=w.heap[b]?:=fun b hb hn=>(hg.block b ae (fun e=>hn e.symm)).trans (hA.block b hb);have hset:∀b,b≠bX→(w5.setCell ⟨bX,17,none⟩ rv').heap[b]?=w5.heap[b]?:=fun b hb=>dI _ _ _ _ hb;have hkk:∀b,b<w.heap.size→b≠bX→rv.ownBlock≠some b→(w5.setCell ⟨bX,17,none⟩ rv').heap[b]?=w.heap[b]?:=fun b h1 h2 h3=>(hset b h2).trans (hg' b h1 h3);have Oj:∀g,rv'.ownBlock=some g→B≤g:=fun g e=>by
  rcases hv with h1|⟨g',h1,h2⟩
  ·exact(h.o1.lt g (h1.symm.trans e)).1
  ·have e2:g'=g:=bD (h1.symm.trans e);omega
 have hfr:∀b,b<w.heap.size→Fr bX rv sv lv b→Fr bX rv' sv lv b:=fun b hb ⟨f0,f1,f2,f3⟩=>⟨f0,by intro e;rcases hv with h1|⟨g,h1,h2⟩;exact f1 (h1.symm.trans e);exact absurd (bD (h1.symm.trans e)) ae,f2,f3⟩
 have hin:∀ib,(w5.setCell ⟨bX,17,none⟩ rv').heap[ib]?=w.heap[ib]?→∀t,(∀i x,(M.par t).R[i]?=some x→w.cell? ⟨ib,i*3,none⟩=some (ag x.1)∧w.cell? ⟨ib,i*3+1,none⟩=some (ag x.2.1)∧w.cell? ⟨ib,i*3+2,none⟩=some (ag x.2.2))→
   ∀i x,(M.par t).R[i]?=some x→(w5.setCell ⟨bX,17,none⟩ rv').cell? ⟨ib,i*3,none⟩=some (ag x.1)∧(w5.setCell ⟨bX,17,none⟩ rv').cell? ⟨ib,i*3+1,none⟩=some (ag x.2.1)∧(w5.setCell ⟨bX,17,none⟩ rv').cell? ⟨ib,i*3+2,none⟩=some (ag x.2.2):=fun ib e t h i x hx=>
  ⟨(bg (a:=⟨ib,i*3,none⟩) e).trans (h i x hx).1,(bg (a:=⟨ib,i*3+1,none⟩) e).trans (h i x hx).2.1,(bg (a:=⟨ib,i*3+2,none⟩) e).trans (h i x hx).2.2⟩
 have k5:aV w5 bX (Jf M.S bs rm dr kb rv sv lv):=h.k.keep ae (hg' bX h.k.lt (fun e=>by have:=(h.o1.lt bX e).1;omega));have hW:aJ W0 (w5.setCell ⟨bX,17,none⟩ rv'):=by refine⟨hg.os.trans (hA.os.trans h.hs.os),hg.tape.trans (hA.tape.trans h.hs.tape),hg.output.trans (hA.output.trans h.hs.output),by have:=h.hs.size;omega,fun b hb=>?_⟩;exact(hkk b (by have:=h.hs.size;omega) ae (fun e=>by have:=(h.o1.lt b e).1;omega)).trans (h.hs.block b hb)
 refine⟨k5.put 17 rv',hW,⟨hl.1,hl.2.1,ae⟩,?_,?_,?_,fun t ht=>?_,fun t ht=>?_,fun t ht=>?_,?_⟩
 ·exact dC (rW own Oj) fun g e=>hset g (by have:=Oj g e;omega)
 ·exact dC h.o2 fun g e=>hkk g (h.o2.lt g e).2 (by have:=(h.o2.lt g e).1;omega) (fun e2=>((h.d g).1 e2).1 e)
 ·exact dC h.o3 fun g e=>hkk g (h.o3.lt g e).2 (by have:=(h.o3.lt g e).1;omega) (fun e2=>((h.d g).1 e2).2 e)
 ·by_cases htn:t<na
  ·obtain⟨ib,iD,e1,e2,e3,e4⟩:=h.c1 t htn;exact⟨ib,iD,by rw[List.getElem?_append_left (by have:=h.o1.1;omega)];exact e1,ae,hfr ib e2 e3,hin ib (hkk ib e2 e3.1 e3.2.1) t e4⟩
  ·obtain rfl:t=na:=ae;obtain⟨ib,iD,rfl,e2,e3,e4⟩:=hu;exact⟨ib,iD,by rw[List.getElem?_append_right (by have:=h.o1.1;omega),show t-xs.length=0 by have:=h.o1.1;omega];rfl,ae,hfr ib e2 e3,hin ib (hkk ib e2 e3.1 e3.2.1) t e4⟩
 ·obtain⟨b,cp,e1,e2,e3⟩:=h.c2 t ht;exact⟨b,cp,e1,hfr b e3.lt e2,xV e3 ae (hkk b e3.lt e2.1 e2.2.1)⟩
 ·exact h.c3 t ht
 ·exact fun g=>⟨fun e0=>⟨(fun e e2=>by rcases hv with h1|⟨g',h1,h2⟩;exact((h.d g).1 (h1.symm.trans e)).1 (e2);exact absurd (bD (h1.symm.trans e)) (by have:=(h.o2.lt g e2).2;omega)) e0,(fun e e2=>by rcases hv with h1|⟨g',h1,h2⟩;exact((h.d g).1 (h1.symm.trans e)).2 (e2);exact absurd (bD (h1.symm.trans e)) (by have:=(h.o3.lt g e2).2;omega)) e0⟩,fun e e2=>(h.d g).2 (e) (e2)⟩
theorem Ew.aev {wA w5:World} {Qf u:Value} (h:Ew w W0 B bX M bs rm dr kb rv sv lv xs ys zs na ns nl) (hA:aJ w wA) (own:w5.ownsRow 0 22 1 Qf (ns+1) (ys++[u])) (hg:wA.grownBy w5 sv.ownBlock) (hv:Qf.ownBlock=sv.ownBlock∨∃g,Qf.ownBlock=some g∧wA.heap.size≤g)
  (hu:∃b cp,u=aZ b (M.st ns).length cp∧Fr bX rv sv lv b∧Row .i64 w b (M.st ns)):
  Ew (w5.setCell ⟨bX,22,none⟩ Qf) W0 B bX M bs rm dr kb rv Qf lv xs (ys++[u]) zs na (ns+1) nl:=by
 have hl:=h.lo;have hzA:=hA.size;have hz5:=hg.size;have hz:(w5.setCell ⟨bX,22,none⟩ Qf).heap.size=w5.heap.size:=av;have hg':∀b,b<w.heap.size→sv.ownBlock≠some b→w5.heap[b]?=w.heap[b]?:=fun b hb hn=>(hg.block b ae (fun e=>hn e.symm)).trans (hA.block b hb);have hset:∀b,b≠bX→(w5.setCell ⟨bX,22,none⟩ Qf).heap[b]?=w5.heap[b]?:=fun b hb=>dI _ _ _ _ hb;have hkk:∀b,b<w.heap.size→b≠bX→sv.ownBlock≠some b→(w5.setCell ⟨bX,22,none⟩ Qf).heap[b]?=w.heap[b]?:=fun b h1 h2 h3=>(hset b h2).trans (hg' b h1 h3);have Oj:∀g,Qf.ownBlock=some g→B≤g:=fun g e=>by
  rcases hv with h1|⟨g',h1,h2⟩
  ·exact(h.o2.lt g (h1.symm.trans e)).1
  ·have e2:g'=g:=bD (h1.symm.trans e);omega
 have hfr:∀b,b<w.heap.size→Fr bX rv sv lv b→Fr bX rv Qf lv b:=fun b hb ⟨f0,f1,f2,f3⟩=>⟨f0,f1,by intro e;rcases hv with h1|⟨g,h1,h2⟩;exact f2 (h1.symm.trans e);exact absurd (bD (h1.symm.trans e)) ae,f3⟩
 have hin:∀ib,(w5.setCell ⟨bX,22,none⟩ Qf).heap[ib]?=w.heap[ib]?→∀t,(∀i x,(M.par t).R[i]?=some x→w.cell? ⟨ib,i*3,none⟩=some (ag x.1)∧w.cell? ⟨ib,i*3+1,none⟩=some (ag x.2.1)∧w.cell? ⟨ib,i*3+2,none⟩=some (ag x.2.2))→
   ∀i x,(M.par t).R[i]?=some x→(w5.setCell ⟨bX,22,none⟩ Qf).cell? ⟨ib,i*3,none⟩=some (ag x.1)∧(w5.setCell ⟨bX,22,none⟩ Qf).cell? ⟨ib,i*3+1,none⟩=some (ag x.2.1)∧(w5.setCell ⟨bX,22,none⟩ Qf).cell? ⟨ib,i*3+2,none⟩=some (ag x.2.2):=fun ib e t h i x hx=>
  ⟨(bg (a:=⟨ib,i*3,none⟩) e).trans (h i x hx).1,(bg (a:=⟨ib,i*3+1,none⟩) e).trans (h i x hx).2.1,(bg (a:=⟨ib,i*3+2,none⟩) e).trans (h i x hx).2.2⟩
 have k5:aV w5 bX (Jf M.S bs rm dr kb rv sv lv):=h.k.keep ae (hg' bX h.k.lt (fun e=>by have:=(h.o2.lt bX e).1;omega));have hW:aJ W0 (w5.setCell ⟨bX,22,none⟩ Qf):=by refine⟨hg.os.trans (hA.os.trans h.hs.os),hg.tape.trans (hA.tape.trans h.hs.tape),hg.output.trans (hA.output.trans h.hs.output),by have:=h.hs.size;omega,fun b hb=>?_⟩;exact(hkk b (by have:=h.hs.size;omega) ae (fun e=>by have:=(h.o2.lt b e).1;omega)).trans (h.hs.block b hb)
 refine⟨k5.put 22 Qf,hW,⟨hl.1,hl.2.1,ae⟩,?_,?_,?_,fun t ht=>?_,fun t ht=>?_,fun t ht=>?_,?_⟩
 ·exact dC h.o1 fun g e=>hkk g (h.o1.lt g e).2 (by have:=(h.o1.lt g e).1;omega) (fun e2=>((h.d g).1 e).1 e2)
 ·exact dC (rW own Oj) fun g e=>hset g (by have:=Oj g e;omega)
 ·exact dC h.o3 fun g e=>hkk g (h.o3.lt g e).2 (by have:=(h.o3.lt g e).1;omega) (fun e2=>(h.d g).2 e2 e)
 ·obtain⟨ib,iD,e1,e2,e3,e4⟩:=h.c1 t ht;exact⟨ib,iD,e1,ae,hfr ib e2 e3,hin ib (hkk ib e2 e3.1 e3.2.2.1) t e4⟩
 ·by_cases htn:t<ns
  ·obtain⟨b,cp,e1,e2,e3⟩:=h.c2 t htn;exact⟨b,cp,by rw[List.getElem?_append_left (by have:=h.o2.1;omega)];exact e1,hfr b e3.lt e2,xV e3 ae (hkk b e3.lt e2.1 e2.2.2.1)⟩
  ·obtain rfl:t=ns:=ae;obtain⟨b,cp,rfl,e2,e3⟩:=hu;exact⟨b,cp,by rw[List.getElem?_append_right (by have:=h.o2.1;omega),show t-ys.length=0 by have:=h.o2.1;omega];rfl,hfr b e3.lt e2,xV e3 ae (hkk b e3.lt e2.1 e2.2.2.1)⟩
 ·exact h.c3 t ht
 ·exact fun g=>⟨fun e0=>⟨(fun e e2=>by rcases hv with h1|⟨g',h1,h2⟩;exact((h.d g).1 (e)).1 (h1.symm.trans e2);exact absurd (bD (h1.symm.trans e2)) (by have:=(h.o1.lt g e).2;omega)) e0,(fun e e2=>((h.d g).1 (e)).2 (e2)) e0⟩,fun e e2=>by rcases hv with h1|⟨g',h1,h2⟩;exact(h.d g).2 (h1.symm.trans e) (e2);exact absurd (bD (h1.symm.trans e)) (by have:=(h.o3.lt g e2).2;omega)⟩
theorem Ew.alN {wA w5:World} {yK u:Value} (h:Ew w W0 B bX M bs rm dr kb rv sv lv xs ys zs na ns nl) (hA:aJ w wA) (own:w5.ownsRow 0 3 1 yK (nl+1) (zs++[u])) (hg:wA.grownBy w5 lv.ownBlock) (hv:yK.ownBlock=lv.ownBlock∨∃g,yK.ownBlock=some g∧wA.heap.size≤g)
  (hu:u=ag (M.ln nl)):
  Ew (w5.setCell ⟨bX,23,none⟩ yK) W0 B bX M bs rm dr kb rv sv yK xs ys (zs++[u]) na ns (nl+1):=by
 have hl:=h.lo;have hzA:=hA.size;have hz5:=hg.size;have hz:(w5.setCell ⟨bX,23,none⟩ yK).heap.size=w5.heap.size:=av;have hg':∀b,b<w.heap.size→lv.ownBlock≠some b→w5.heap[b]?=w.heap[b]?:=fun b hb hn=>(hg.block b ae (fun e=>hn e.symm)).trans (hA.block b hb);have hset:∀b,b≠bX→(w5.setCell ⟨bX,23,none⟩ yK).heap[b]?=w5.heap[b]?:=fun b hb=>dI _ _ _ _ hb;have hkk:∀b,b<w.heap.size→b≠bX→lv.ownBlock≠some b→(w5.setCell ⟨bX,23,none⟩ yK).heap[b]?=w.heap[b]?:=fun b h1 h2 h3=>(hset b h2).trans (hg' b h1 h3);have Oj:∀g,yK.ownBlock=some g→B≤g:=fun g e=>by
  rcases hv with h1|⟨g',h1,h2⟩
  ·exact(h.o3.lt g (h1.symm.trans e)).1
  ·have e2:g'=g:=bD (h1.symm.trans e);omega
 have hfr:∀b,b<w.heap.size→Fr bX rv sv lv b→Fr bX rv sv yK b:=fun b hb ⟨f0,f1,f2,f3⟩=>⟨f0,f1,f2,by intro e;rcases hv with h1|⟨g,h1,h2⟩;exact f3 (h1.symm.trans e);exact absurd (bD (h1.symm.trans e)) ae⟩
 have hin:∀ib,(w5.setCell ⟨bX,23,none⟩ yK).heap[ib]?=w.heap[ib]?→∀t,(∀i x,(M.par t).R[i]?=some x→w.cell? ⟨ib,i*3,none⟩=some (ag x.1)∧w.cell? ⟨ib,i*3+1,none⟩=some (ag x.2.1)∧w.cell? ⟨ib,i*3+2,none⟩=some (ag x.2.2))→
   ∀i x,(M.par t).R[i]?=some x→(w5.setCell ⟨bX,23,none⟩ yK).cell? ⟨ib,i*3,none⟩=some (ag x.1)∧(w5.setCell ⟨bX,23,none⟩ yK).cell? ⟨ib,i*3+1,none⟩=some (ag x.2.1)∧(w5.setCell ⟨bX,23,none⟩ yK).cell? ⟨ib,i*3+2,none⟩=some (ag x.2.2):=fun ib e t h i x hx=>
  ⟨(bg (a:=⟨ib,i*3,none⟩) e).trans (h i x hx).1,(bg (a:=⟨ib,i*3+1,none⟩) e).trans (h i x hx).2.1,(bg (a:=⟨ib,i*3+2,none⟩) e).trans (h i x hx).2.2⟩
 have k5:aV w5 bX (Jf M.S bs rm dr kb rv sv lv):=h.k.keep ae (hg' bX h.k.lt (fun e=>by have:=(h.o3.lt bX e).1;omega));have hW:aJ W0 (w5.setCell ⟨bX,23,none⟩ yK):=by refine⟨hg.os.trans (hA.os.trans h.hs.os),hg.tape.trans (hA.tape.trans h.hs.tape),hg.output.trans (hA.output.trans h.hs.output),by have:=h.hs.size;omega,fun b hb=>?_⟩;exact(hkk b (by have:=h.hs.size;omega) ae (fun e=>by have:=(h.o3.lt b e).1;omega)).trans (h.hs.block b hb)
 refine⟨k5.put 23 yK,hW,⟨hl.1,hl.2.1,ae⟩,?_,?_,?_,fun t ht=>?_,fun t ht=>?_,fun t ht=>?_,?_⟩
 ·exact dC h.o1 fun g e=>hkk g (h.o1.lt g e).2 (by have:=(h.o1.lt g e).1;omega) (fun e2=>((h.d g).1 e).2 e2)
 ·exact dC h.o2 fun g e=>hkk g (h.o2.lt g e).2 (by have:=(h.o2.lt g e).1;omega) (fun e2=>(h.d g).2 e e2)
 ·exact dC (rW own Oj) fun g e=>hset g (by have:=Oj g e;omega)
 ·obtain⟨ib,iD,e1,e2,e3,e4⟩:=h.c1 t ht;exact⟨ib,iD,e1,ae,hfr ib e2 e3,hin ib (hkk ib e2 e3.1 e3.2.2.2) t e4⟩
 ·obtain⟨b,cp,e1,e2,e3⟩:=h.c2 t ht;exact⟨b,cp,e1,hfr b e3.lt e2,xV e3 ae (hkk b e3.lt e2.1 e2.2.2.2)⟩
 ·by_cases htn:t<nl
  ·rw[List.getElem?_append_left (by have:=h.o3.1;omega)];exact h.c3 t htn
  ·obtain rfl:t=nl:=ae;rw[List.getElem?_append_right (by have:=h.o3.1;omega),show t-zs.length=0 by have:=h.o3.1;omega,hu];rfl
 ·exact fun g=>⟨fun e0=>⟨(fun e e2=>((h.d g).1 (e)).1 (e2)) e0,(fun e e2=>by rcases hv with h1|⟨g',h1,h2⟩;exact((h.d g).1 (e)).2 (h1.symm.trans e2);exact absurd (bD (h1.symm.trans e2)) (by have:=(h.o1.lt g e).2;omega)) e0⟩,fun e e2=>by rcases hv with h1|⟨g',h1,h2⟩;exact(h.d g).2 (e) (h1.symm.trans e2);exact absurd (bD (h1.symm.trans e2)) (by have:=(h.o2.lt g e).2;omega)⟩
end
end Di
end Go.Proofs.YtohpdonnpbjfdaaGreatDoor
