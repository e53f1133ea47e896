/- What is shown: machine.Transition, package game, package machine, books. Conditions: as each theorem states. -/
import Derived.Test.YtohpdonnpbjfdaaGreatDoorY4
import Derived.Test.YtohpdonnpbjfdaaGreatDoorY18
import Derived.Test.YtohpdonnpbjfdaaGreatDoorY45
import Derived.Test.YtohpdonnpbjfdaaGreatDoorY48
set_option maxHeartbeats 40000000
set_option maxRecDepth 100000
set_option linter.unusedVariables false
set_option linter.unusedSimpArgs false
open Go.Proofs.Tryz
namespace Go.Proofs.YtohpdonnpbjfdaaGreatDoor
theorem OL {P Q:Prop} (q:Q) (h:Q→P:=by intro kk;refine bK 10 (by kernel_rfl) (by kernel_rfl) fun hL=>?_;have dV:=hL.cell;clear hL;simp only[dS];(repeat(go_big_quiet_step ((first|(with_reducible exact Ho2.out _)|(with_reducible exact Ho3.out _)))));refine wpQuiet_nil ?_;clear dV;exact kk):P:=h q
theorem OX {P Q:Prop} (q:Q) (h:RowKit.Hid Q→P:=by first|(intro kk;(with_reducible refine vo.out.mono ?_);rintro e w1 ⟨rfl,L1,n1,h1,dG⟩;replace kE3:=kE3.uk dG (by simpa using hEt);revert kE3 dG h1 n1 L1 w1;exact kk.out)|fail):P:=h (ah q)
theorem sH {P:Prop} (h:P:=by rw[Ku];simp[au,ckE]):P:=h
theorem O5 {P:Prop} (h:P:=by rw[IM];exact((aK _ _).alloc (aH _) _).drew):P:=h
theorem O6 {P:Prop} (h:P:=by rw[mi];exact(aK _ _).alloc (aH _) _):P:=h
theorem O8 {P:Prop} (h:P:=by simp[results,gY,go_sem,z0,z1,z2,z3]):P:=h
theorem O9 {P:Prop} (h:P:=by rw[IM];exact(aV.new _ _ _ _ hbt).drew):P:=h
theorem O_ {P:Prop} (h:P:=by rw[mi];exact aV.new _ _ _ _ hsz.symm):P:=h
theorem Pk {P:Prop} (h:P:=by rw[hbt];exact Oh.size):P:=h
theorem Px {P:Prop} (h:P:=by have:=Hs2.out;omega):P:=h
theorem Py {P:Prop} (h:P:=by have:=HbS.out;omega):P:=h
theorem PD {P:Prop} (h:P:=by rw[mi];simp[hsz]):P:=h
theorem PH {P:Prop} (h:P:=by simpa using hle):P:=h
theorem jm {P:Prop} (h:P:=by
 obtain⟨i0,o9⟩:∃i0,i0=cg c 2:=⟨_,rfl⟩
 obtain⟨j0,hj0⟩:∃j0,j0=cg c 3:=⟨_,rfl⟩
 have Hi:=ah o9;have Hj:=ah hj0;clear h hp;have Hg1:=ah g1;have Ju:=ah hd;clear g1 hd;have hmg:=Tryz.Wq M;have cZ:=au;clear o9 hj0;have gY:=results16;go_enter func16,ntmps16;go_upto_region 1 with(fail);refine aP fun W hW=>?_;have kS:aV W w.heap.size [ag S.ak,bs,ag S.x0,ag S.y0,ag S.x1,ag S.y1,rm,dr,ag S.ou,ag S.gx,ag S.gy,ag S.push,ag S.eO,ag S.rest,ag S.rounds,ag S.fuel]:=jo;have kP:aV W (w.heap.size+1) [code,ag e0,ag e1,ag e2]:=fV;have kE:aV W (w.heap.size+1+1) [ag 0,ag 0,ag 0,ag 0]:=eX;have hbW:aJ w W:=aM;have hsz:W.heap.size=w.heap.size+1+1+1:=xR;clear hW;obtain⟨bS,hbS⟩:∃b,b=w.heap.size:=⟨_,rfl⟩
 rw[←hbS]at kS kP kE hsz⊢;have HbS:=ah hbS;clear hbS;have hal:=aQ;have bu:=dL;go_upto_region 2 with(fail);refine aP fun W2 mi=>?_;have kA:aV W2 (bS+1+1+1) [.func (.func 40) #[] #[],.func (.func 41) #[] #[],.func (.func 42) #[] #[],.func (.func 43) #[] #[],.func (.func 44) #[] #[],.func (.func 45) #[] #[],.func (.func 46) #[] #[],.func (.func 47) #[] #[]]:=O_;have dW:aJ W W2:=O6;have lI:W2.heap.size=bS+1+1+1+1:=PD;have Oh:aJ w W2:=hbW.trans (dW.mono hbW.size);replace kS:=kS.later dW;replace kP:=kP.later dW;replace kE:=kE.later dW;have Hs2:=ah lI;have e3:w.heap.size+1+1+1=bS+1+1+1:=by rw[HbS.out]
 try rw[e3]
 clear mi dW hbW hsz hal bu lI e3;obtain⟨bA,kY⟩:∃b,b=bS+1+1+1:=⟨_,rfl⟩
 rw[←kY]at kA⊢;have HbA:=ah kY;clear kY;have h2:aD W2 ⟨M,C,L,m⟩ c:=H.out.hm.below Oh;have cS:=kS.cell;have cP:=kP.cell;have cA:=kA.cell;go_upto_region 7 with(first|((with_reducible refine(Hg1.out _ h2).mono ?_);rintro e w1 ⟨rfl,iI⟩;rw[iI];clear iI w1));have o2:=fun x=>si h2 2 x;rw[←Hi.out]at o2;have o3:=fun x=>si h2 3 x;rw[←Hj.out]at o3;have Ho2:=ah o2;have Ho3:=ah o3;clear o2 o3;refine OL ?_;go_upto_region 8 with(fail);refine aP fun W3 IM=>?_;obtain⟨bt,hbt⟩:∃b,b=W2.heap.size:=⟨_,rfl⟩
 have kT0:aV W3 bt (zi M S ⟨bs,rm,dr,code,e0,e1,e2,cK,aZ bI R.length LA,i0,j0,false,0,0,0,0,false⟩):=O9;have gK:aJ W2 W3:=O5;have Ag:aJ w W3:=Oh.trans (gK.mono Oh.size);have hle:w.heap.size≤bt:=Pk;have P3:=H.out.below Ag;have mst:Qg S I R W0 bt ⟨bs,rm,dr,code,e0,e1,e2,cK,aZ bI R.length LA,i0,j0,false,0,0,0,0,false⟩ W3 ⟨M,C,L,m⟩ c:=
  ⟨P3.hm,⟨kT0,H.out.hm.no hle⟩,P3.kg,H.out.hc.toK Ag hle,P3.hs,P3.hS,H.out.hin.toK Ag hle,aS H.out.hs.jQ.size hle,P3.h1⟩
 have vo:=ah (Ju.out W0 W3 M C L m bt _ mst hr ⟨rfl,rfl,rfl,rfl,Hi.out,Hj.out,rfl,rfl,rfl,rfl,rfl,rfl⟩);obtain⟨bE,Ws⟩:∃b,b=bS+1+1:=⟨_,rfl⟩
 have hEt:bE≠bt:=Px;have hEw:w.heap.size≤bE:=Py;rw[←Ws]at kE⊢;have kE3:Kb W3 ⟨M,C,L,m⟩ bE [ag 0,ag 0,ag 0,ag 0]:=⟨kE.later gK,H.out.hm.no hEw⟩
 replace kA:=kA.later gK;replace cA:=kA.cell;rw[←hbt];clear IM hbt gK kT0 P3 mst Ws cS cP kS kP kE h2 Oh;go_upto_region 9 with(first|(refine OX ?_;clear kE3 cA kA;intro w1 L1 n1 h1 dG kE3));have bZ:=h1.kT.bV;have b_:=h1.kT.blk.free;have⟨⟨ckE,fkE,_⟩,_⟩:=kE3;have Ut:=h1.kT.blk.lt;have ltE:=kE3.blk.lt;have hA:Alt [] w ⟨M,C,L,m⟩ (w1.drew) ⟨M,C,L1,n1⟩ 40:=(Alt.drop (dG.after Ag) PH).below (aK _ _).drew;have hmF:aD ((((w1.drew.setCell ⟨bE,0,none⟩ (ag x)).setCell ⟨bE,1,none⟩ (ag y)).setCell ⟨bE,2,none⟩ (ag z)).setCell ⟨bE,3,none⟩ (ag r)) ⟨M,C,L1,n1⟩ c':=((((h1.hm.below (aK _ _).drew).set (p:=⟨bE,0,none⟩) kE3.no _).set (p:=⟨bE,1,none⟩) kE3.no _).set (p:=⟨bE,2,none⟩) kE3.no _).set (p:=⟨bE,3,none⟩) kE3.no _;have hAF:Alt [] w ⟨M,C,L,m⟩ ((((w1.drew.setCell ⟨bE,0,none⟩ (ag x)).setCell ⟨bE,1,none⟩ (ag y)).setCell ⟨bE,2,none⟩ (ag z)).setCell ⟨bE,3,none⟩ (ag r)) ⟨M,C,L1,n1⟩ 40:=(((hA.set (p:=⟨bE,0,none⟩) (.inr hEw) _).set (p:=⟨bE,1,none⟩) (.inr hEw) _).set (p:=⟨bE,2,none⟩) (.inr hEw) _).set (p:=⟨bE,3,none⟩) (.inr hEw) _;refine jF bE [0,1,2,3,4,5,6,7,12] [8,9,10,11] [13,14] 13 aL aL fun NL hL IE=>?_;obtain⟨dU,dV,hlf⟩:=hL;obtain⟨_,P6⟩:=IE;simp only[jA];repeat(go_big_quiet_step (fail))
 refine wpQuiet_nil ?_;repeat(go_big_quiet_step (fail))
 refine wpQuiet_nil ?_;clear dV hlf P6 dU;obtain⟨wa,Ku⟩:∃X,X=((((w1.drew.setCell ⟨bE,0,none⟩ (ag x)).setCell ⟨bE,1,none⟩ (ag y)).setCell ⟨bE,2,none⟩ (ag z)).setCell ⟨bE,3,none⟩ (ag r)):=⟨_,rfl⟩
 have kwa:∃y:nU w1 bE,wa=y.out:=⟨⟨wa,by rw[Ku];exact eQ (eQ (eQ (eQ (gm ((aK _ _).drew) bE) rfl _) rfl _) rfl _) rfl _⟩,rfl⟩
 have z0:wa.cell? ⟨bE,0,none⟩=some (ag x):=sH;have z1:wa.cell? ⟨bE,1,none⟩=some (ag y):=sH;have z2:wa.cell? ⟨bE,2,none⟩=some (ag z):=sH;have z3:wa.cell? ⟨bE,3,none⟩=some (ag r):=sH;refine dY (w1:=wa) rfl Cg kwa ?_;rw[←Ku]at hmF hAF;clear Ku;simp only[Act.put,dH];refine di (v:=.bool q) (w1:=wa) rfl bO kwa ?_;simp only[Act.put,dH];refine fT ?_;clear kwa ckE fkE bZ b_;go_wp2;refine bodyPost_ret (v:=trv en x y z r q) O8 rfl ⟨rfl,L1,n1,hmF,hAF⟩):P:=h
theorem ER {P:Prop} (h:P:=by have e1:W4.drew.heap.size=W4.heap.size:=rfl;have hne:b≠b5:=ae;exact⟨b,e,aS h4w.size g0,by simp[cZ,hne,g1],by simp[cZ,hne,g2]⟩):P:=h
theorem ES {P:Prop} (h:P:=by
 rcases hc with⟨rfl,e|⟨b,cap,e⟩⟩|⟨_,b,cap,e,_⟩
 ·exact⟨none,0,by simpa using e⟩
 ·exact⟨_,_,by simpa using e⟩
 ·exact⟨_,_,e⟩):P:=h
theorem xY {P:Prop} (h:P:=by
 have hs:=fun(V:World) (pb pt:Nat) (hV:aJ w V) (hb:V.cell? ⟨pb,0,none⟩=some (aR bk)) (ht:V.cell? ⟨pt,0,none⟩=some (ag t))=>Ra (h.later hV) hb ht h0;first
 |revert bP;intro bP
  have hs':∀(V:World) (pb pt:Nat) (hV:aJ w V) (hb:V.cell? ⟨pb,0,none⟩=some (aR bk)) (ht:V.cell? ⟨pt,0,none⟩=some (ag t)),Calls prog 37 #[ag 2,.func (.func 38) #[] #[aR pb,aR pt]] V fun e w'=>e=.returned (ag 1)∧aJ V w':=fun V pb pt hV hb ht=>by
   have:=hs V pb pt hV hb ht
   simpa[h3]using this
 |revert gu;intro gu
  have hs':∀(V:World) (pb pt:Nat) (hV:aJ w V) (hb:V.cell? ⟨pb,0,none⟩=some (aR bk)) (ht:V.cell? ⟨pt,0,none⟩=some (ag t)),Calls prog 37 #[ag 2,.func (.func 38) #[] #[aR pb,aR pt]] V fun e w'=>e=.returned (ag 2)∧aJ V w':=fun V pb pt hV hb ht=>by
   have:=hs V pb pt hV hb ht
   simpa[h3]using this
 clear hs;first
 |revert bP;intro bP
  obtain⟨ac,cc,hk⟩:∃ac cc,c0=.slice ac I.length cc:=by
   exact ES
 |revert gu;intro gu
  obtain⟨ac,cc,hk⟩:∃ac cc,c1=.slice ac I.length cc:=by
   exact ES
 subst hk;have hmx:max (1:Int) 0=1:=ae;have lH:=ah fun(V:World) (hV:aJ w V)=>VB (hc.later hV) hI;have HB:=ah h;clear h hc h3;refine Eg ?_;intro hmf;have asF:=ah hs';clear hs';have gY:=results15;go_enter func15,ntmps15;go_upto_region 1 with(fail);refine aP fun W hW=>?_;have k2:aV W w.heap.size [aR bk]:=jo;have k3:aV W (w.heap.size+1) [ag t]:=fV;have k5:aV W (w.heap.size+1+1) [.slice none 0 0,ag 0,ag 0,ag 0]:=eX;have hbW:aJ w W:=aM;have B:=HB.out.later hbW;obtain⟨b2,dW⟩:∃b,b=w.heap.size:=⟨_,rfl⟩
 rw[←dW]at k2 k3 k5⊢;obtain⟨b3,gK⟩:∃b,b=b2+1:=⟨_,rfl⟩
 obtain⟨b5,eY⟩:∃b,b=b2+1+1:=⟨_,rfl⟩
 rw[←eY]at k5⊢;rw[←gK]at k3⊢;have h5:w.heap.size≤b5:=ae;clear dW gK eY hW;have asG:=ah (asF.out W b2 b3 hbW (k2.cell 0) (k3.cell 0));obtain⟨v,t0,x0,a0,a1,a2,t1,x1,y0,y1,y2⟩:=B;have ck2:=k2.cell;go_upto_region 2 with(first|((with_reducible refine asG.out.mono ?_);rintro e w1 ⟨rfl,aO⟩));replace k2:=k2.later aO;replace k5:=k5.later aO;replace v:=ai aO v;replace x0:=ai aO x0;replace a0:=ai aO a0;replace a1:=ai aO a1;replace a2:=ai aO a2;replace x1:=ai aO x1;replace y0:=ai aO y0;replace y1:=ai aO y1;replace y2:=ai aO y2;replace ck2:=k2.cell;have ahg:aJ w w1:=hbW.trans (aO.mono hbW.size);clear aO hbW t0 t1 k3;go_upto_region 4 with(fail);refine aP fun W4 Iq=>?_;first
 |revert bP;intro bP
  have k8:aV W4 w1.heap.size [.slice ac I.length cc,ag FI,ag e01,ag FK]:=by rw[Iq];exact aV.new _ _ _ _ rfl
 |revert gu;intro gu
  have k8:aV W4 w1.heap.size [.slice ac I.length cc,ag e10,ag e11,ag e12]:=by rw[Iq];exact aV.new _ _ _ _ rfl
 have lY:aJ w1 W4:=by rw[Iq];exact(aK _ _).alloc (aH _) _
 have aeG:=k5.lt;replace k5:=k5.later lY;have h4w:aJ w W4:=ahg.trans (lY.mono ahg.size);clear Iq lY k2 ck2 v x0 a0 a1 a2 x1 y0 y1 y2;first
 |revert bP;intro bP
  have st:∀V,aJ W4 V→∀q,V.cell? ⟨w1.heap.size,q,none⟩=[.slice ac I.length cc,ag FI,ag e01,ag FK][q]?:=fun V hV q=>(k8.later hV).cell q
 |revert gu;intro gu
  have st:∀V,aJ W4 V→∀q,V.cell? ⟨w1.heap.size,q,none⟩=[.slice ac I.length cc,ag e10,ag e11,ag e12][q]?:=fun V hV q=>(k8.later hV).cell q
 obtain⟨b8,hb8⟩:∃b,b=w1.heap.size:=⟨_,rfl⟩
 rw[←hb8]at k8 st⊢;have h85:b8≠b5:=by have:=aeG;omega
 clear hb8 ahg aeG;have lt8:=k8.lt;have lt5:=k5.lt;have afN:=ah fun(V:World) (hV:aJ W4 V)=>lH.out V (h4w.trans (hV.mono h4w.size));have⟨ck5,nK,_⟩:=k5;have tC:=ah st;first
 |revert bP;intro bP
  have st2:∀(V:World) (i:Nat) (u:Value),(∀q,V.cell? ⟨b8,q,none⟩=[.slice ac I.length cc,ag FI,ag e01,ag FK][q]?)→∀q,(V.setCell ⟨b5,i,none⟩ u).cell? ⟨b8,q,none⟩=[.slice ac I.length cc,ag FI,ag e01,ag FK][q]?:=fun V i u hV q=>by
   rw[au,if_neg h85]
   exact hV q
 |revert gu;intro gu
  have st2:∀(V:World) (i:Nat) (u:Value),(∀q,V.cell? ⟨b8,q,none⟩=[.slice ac I.length cc,ag e10,ag e11,ag e12][q]?)→∀q,(V.setCell ⟨b5,i,none⟩ u).cell? ⟨b8,q,none⟩=[.slice ac I.length cc,ag e10,ag e11,ag e12][q]?:=fun V i u hV q=>by
   rw[au,if_neg h85]
   exact hV q
 have amA:=ah st2;clear st st2 lH;have hal:=aQ;have bu:=dL;have cZ:=au;have nP:aJ W4 W4:=aK _ _;first
 |revert bP;intro bP
  go_region_held3 (fun V=>∀q,V.cell? ⟨b8,q,none⟩=[.slice ac I.length cc,ag FI,ag e01,ag FK][q]?) (((repeat(with_reducible refine amA.out _ _ _ ?_));exact tC.out _ aG))
   (first|((with_reducible refine(afN.out _ aG).mono ?_);rintro e wE ⟨v',rfl,⟨ac',ic',rfl,hnew⟩,Ws⟩;obtain⟨NE,hNE,J6,ZK,hsE⟩:=eB Ws;(try simp only[bf]at hNE)))
  all_goals
   go_wp2
   refine bodyPost_ret (v:=.tuple #[ag 0,qQ (.slice ac' I.length ic') FI e01 FK]) (by simp[results,gY,go_sem,cZ,J6,ck5,↓IntWalk.iteOmega]) rfl ⟨_,rfl,⟨ac',ic',rfl,fun i hi=>?_⟩,?_⟩
   ·obtain⟨b,e,g0,g1,g2⟩:=hnew i hi
    exact ER
   ·have asH:=h4w.drew.trans (Ws.mono h4w.size)
    clear Ws
    exact aG
 |revert gu;intro gu
  go_region_held3 (fun V=>∀q,V.cell? ⟨b8,q,none⟩=[.slice ac I.length cc,ag e10,ag e11,ag e12][q]?) (((repeat(with_reducible refine amA.out _ _ _ ?_));exact tC.out _ aG))
   (first|((with_reducible refine(afN.out _ aG).mono ?_);rintro e wE ⟨v',rfl,⟨ac',ic',rfl,hnew⟩,Ws⟩;obtain⟨NE,hNE,J6,ZK,hsE⟩:=eB Ws;(try simp only[bf]at hNE)))
  all_goals
   go_wp2
   refine bodyPost_ret (v:=.tuple #[ag 1,qQ (.slice ac' I.length ic') e10 e11 e12]) (by simp[results,gY,go_sem,cZ,J6,ck5,↓IntWalk.iteOmega]) rfl ⟨_,rfl,⟨ac',ic',rfl,fun i hi=>?_⟩,?_⟩
   ·obtain⟨b,e,g0,g1,g2⟩:=hnew i hi
    exact ER
   ·have asH:=h4w.drew.trans (Ws.mono h4w.size)
    clear Ws
    exact aG):P:=h
theorem EJ {P:Prop} (h:P:=by have:=Hen.out;simpa using this.symm):P:=h
theorem Ei {P:Prop} (h:P:=by
 have Zc:=HRd.out.step jO.out tF a2;have hP2:=HPd.out.step Hd.out a2;have Xf:=Yo _ _ _ HJ.out (HI.out.alt a2 Hd.out) (WS HRd.out.hm a2);have hI2:=(hJI _ _ Xf).Eh;obtain⟨fn,tmps,assign,body,hy,hRy⟩:=hY pre (x,y,z,r,q) W2 Xf ae;have c7:=k7.cell;have l7:=k7.lt;have HR2:=ah Zc;have HP2:=ah hP2;have HI2:=ah hI2;have HRy:=ah hRy;clear Zc hP2 Xf hI2 hRy HRd HPd HJ HI Hd jO tF a2 k7 FQ;refine(wpIn_wide (n:=n)).1 ?_;gi_wp2;refine⟨(by intro hh;cases hh),?_⟩;refine HRy.out.mono ?_;rintro e W3 ⟨rfl,LY,nG⟩;have HR3:=ah (HR2.out.kt ok nG HI2.out);have HP3:=ah (HP2.out.kt nG);have HJ3:=ah LY;clear LY nG HR2 HP2 HI2 hy c7;cases en with
 |true=>gi_wp2;go_wp2;refine bodyPost_ret (results_none rfl _ _ _) rfl ?_;have he:k+1=nn:=EJ;refine⟨⟨_,rfl⟩,pre++[(x,y,z,r,q)],⟨bU,hJI _ _ HJ3.out,F1,?_⟩,HJ3.out⟩;rw[←he];exact HR3.out
 |false=>
  have he:k+1≠nn:=EJ;have hR4:R (f-1) W3:=by rw[HRR.out];exact⟨k+1,pre++[(x,y,z,r,q)],F1,ae,ae,bU,HJ3.out,HR3.out,HP3.out⟩
  have hle:=Hle.out;have HR4:=ah hR4;clear hR4;gi_wp2;go_wp2;exact⟨⟨f-1,HR4.out⟩,GU (least_le (P:=fun f=>R f W3) HR4.out) ae⟩):P:=h
namespace Mc
open Go.RowKit aN fO Qt Ro Bk Ce La Ha In Vm
attribute [local go_sem] Oper.semAt_some
variable {w w' W0:World} {F F':Fp} {v bs rm dr code inp:Value} {I:List (Int×Int)} {R:List (Int×Int×Int)} {k bt:Nat} {S:Stp} {c:List Int}
theorem vB {P:Program} {a:Addr} (f:Fn) (x y:Array Value) (m:Mode):(store a (.func f x y) m).run P w=stored P w a (.func f x y) m:=run_store P w a _ m rfl
attribute [local go_sem] vB
def Az (w:World) (F:Fp) (v:Value) (I:List (Int×Int)):Prop:=
 ∃ac bY,v=.slice ac I.length bY∧∀i,i<I.length→∃b,ac=some ⟨b,0,none⟩∧¬F.has b∧w.cell? ⟨b,i*2,none⟩=some (ag (I.getD i (0,0)).1)∧w.cell? ⟨b,i*2+1,none⟩=some (ag (I.getD i (0,0)).2)
theorem Az.below (h:Az w F v I) (hb:aJ w w'):Az w' F v I:=by obtain⟨ac,bY,e,h⟩:=h;refine⟨ac,bY,e,fun i hi=>?_⟩;obtain⟨b,e,h0,h1,h2⟩:=h i hi;exact⟨b,e,h0,ai hb h1,ai hb h2⟩
theorem Az.step (h:Az w F v I) (a:Alt [] w F w' F' k):Az w' F' v I:=by obtain⟨ac,bY,e,h⟩:=h;refine⟨ac,bY,e,fun i hi=>?_⟩;obtain⟨b,e,h0,h1,h2⟩:=h i hi;exact⟨b,e,fun hh=>h0 (a.has (by have:=aU w _ h1;simpa using this) hh),a.cell h0 av h1,a.cell h0 av h2⟩
theorem Az.toK (h:Az w F v I) (hb:aJ w w') (hbt:w.heap.size≤bt):yV w' F bt v I:=by obtain⟨ac,bY,e,h⟩:=h;refine⟨ac,bY,e,fun i hi=>?_⟩;obtain⟨b,e,h0,h1,h2⟩:=h i hi;have:=aU w _ h1;simp only at this;exact⟨b,e,h0,ae,ai hb h1,ai hb h2⟩
def InF (w:World) (F:Fp) (v:Value) (R:List (Int×Int×Int)):Prop:=∃b cap,v=aZ b R.length cap∧∀i x,R[i]?=some x→¬F.has b∧w.cell? ⟨b,i*3,none⟩=some (ag x.1)∧w.cell? ⟨b,i*3+1,none⟩=some (ag x.2.1)∧w.cell? ⟨b,i*3+2,none⟩=some (ag x.2.2)
theorem InF.below (h:InF w F v R) (hb:aJ w w'):InF w' F v R:=by obtain⟨b,cap,e,h⟩:=h;exact⟨b,cap,e,fun i x hx=>⟨(h i x hx).1,ai hb (h i x hx).2.1,ai hb (h i x hx).2.2.1,ai hb (h i x hx).2.2.2⟩⟩
theorem InF.step (h:InF w F v R) (a:Alt [] w F w' F' k):InF w' F' v R:=by obtain⟨b,cap,e,h⟩:=h;refine⟨b,cap,e,fun i x hx=>?_⟩;obtain⟨h0,c0,c1,c2⟩:=h i x hx;exact⟨fun hF=>h0 (a.has (aU _ _ c0) hF),a.cell h0 av c0,a.cell h0 av c1,a.cell h0 av c2⟩
theorem InF.toK (h:InF w F v R) (hb:aJ w w') (hbt:w.heap.size≤bt):InK w' F bt v R:=by obtain⟨b,cap,e,h⟩:=h;refine⟨b,cap,e,fun i x hx=>?_⟩;obtain⟨h0,c0,c1,c2⟩:=h i x hx;have:=aU _ _ c0;simp only at this;exact⟨h0,ae,ai hb c0,ai hb c1,ai hb c2⟩
structure Le (S:Stp) (I:List (Int×Int)) (R:List (Int×Int×Int)) (W0:World) (bs rm dr code inp:Value) (w:World) (F:Fp) (c:List Int):Prop where
 hm:aD w F c
 kg:Kb w F 0 jH
 hc:Az w F code I
 hs:Sub W0 w F
 hS:fP W0 S bs rm dr
 hin:InF w F inp R
 h1:1≤W0.heap.size
theorem Le.below (h:Le S I R W0 bs rm dr code inp w F c) (hb:aJ w w'):Le S I R W0 bs rm dr code inp w' F c:=
 ⟨h.hm.below hb,h.kg.below hb,h.hc.below hb,h.hs.below hb,h.hS,h.hin.below hb,h.h1⟩
theorem Le.step {c':List Int} (h:Le S I R W0 bs rm dr code inp w F c) (hm:aD w' F' c') (a:Alt [] w F w' F' k):Le S I R W0 bs rm dr code inp w' F' c':=
 ⟨hm,h.kg.step a,h.hc.step a,h.hs.step a,h.hS,h.hin.step a,h.h1⟩
theorem Alt.drop {l:List Nat} {u:World} {G:Fp} (h:Alt l u F w G k) (hl:∀b∈l,u.heap.size≤b):Alt [] u F w G k:=
 ⟨h.os,h.tape,h.output,h.size,fun b hb hF _=>h.block b hb hF (fun hm=>by have:=hl b hm;omega),h.M,h.C,h.L,h.n⟩
abbrev trv (en:Bool) (x y z r:Int) (q:Bool):Value:=.tuple #[.bool en,jB x y z r,.bool q]
end Mc
namespace Ga
open Go.RowKit aN fO Qt Ro Bk Ce La Ha In Vm Mc
attribute [local go_sem] Oper.semAt_some
structure Gm (w W0:World) (bG:Nat) (S:Stp) (bs rm dr bk:Value) (F:Fp) (c:List Int):Prop where
 hm:aD w F c
 kG:Kb w F bG (Og S bs rm dr bk F.M)
 hs:Sub W0 w F
 hS:fP W0 S bs rm dr
 h1:1≤W0.heap.size
theorem Lc (S:Stp):(qD S).length=qE S:=uF S _
theorem FO {w:World} {S:Stp} {bs rm dr:Value} {kb:Nat} (h:lK w S bs rm dr) (hv:ql S) (hk:mf S) (hr:S.f_.length≤100) (hd:S.doors.length≤100):
  Calls prog 9 #[dR S bs rm dr,aR kb] w fun e w'=>∃bG bs' rm' tL W0 F,e=.returned (.tuple #[aR bG,ag 0])∧Gm w' W0 bG S bs' rm' tL (aR kb) F (qD S)∧(F.n=0∧w.heap.size≤W0.heap.size∧w.heap.size≤bG)∧aJ w w':=by
 obtain⟨hP8,hPn,Je,hP1⟩:=And.intro hk.P8 (And.intro hk.Pn (And.intro hk.n24 hk.P1));have amo:=ah fun(V:World) (hV:aJ w V)=>Ky (h.later hV).at hv;have lH:=ah fun(V:World) (hV:aJ w V)=>Sc (h.later hV) ⟨ae,Je⟩ hr hd;have Zn:=ah fun(V:World) (hV:aJ w V)=>Cf (rm:=rm) (dr:=dr) (h.later hV).at.bodies hP8 ae Je;have hce:=fun(b:Nat) (V:World) (hR:Row .i64 V b (qD S))=>Ce.uw (cap:=qE S) hR (by rw[Lc];unfold qE;omega);rw[Lc]at hce;unfold dR at*;have vN:=ah hce;clear hce;have gY:=results9;go_enter func9,ntmps9;go_upto_region 4 with(first|((with_reducible refine(amo.out _ aG).mono ?_);refine df ?_;intro w1 aO N1 dA bW eu eF));have kP:aV w1 w.heap.size [ag S.ak,bs,ag S.x0,ag S.y0,ag S.x1,ag S.y1,rm,dr,ag S.ou,ag S.gx,ag S.gy,ag S.push,ag S.eO,ag S.rest,ag S.rounds,ag S.fuel]:=(aV.new _ _ _ _ rfl).later aO;have sK:aJ w w1:=eG;obtain⟨zb,hzb⟩:∃zb,zb=w.heap.size:=⟨_,rfl⟩
 rw[←hzb]at kP⊢;have st:∀V,aJ w1 V→∀i,V.cell? ⟨zb,i,none⟩=[ag S.ak,bs,ag S.x0,ag S.y0,ag S.x1,ag S.y1,rm,dr,ag S.ou,ag S.gx,ag S.gy,ag S.push,ag S.eO,ag S.rest,ag S.rounds,ag S.fuel][i]?:=fun V hV=>(kP.later hV).cell;have lP:=kP.lt;have nk:=sK.size;clear hzb kP aO bW eu eF dA N1 amo;have tC:=ah st;clear st;go_region_held3 (fun V=>∀i,V.cell? ⟨zb,i,none⟩=[ag S.ak,bs,ag S.x0,ag S.y0,ag S.x1,ag S.y1,rm,dr,ag S.ou,ag S.gx,ag S.gy,ag S.push,ag S.eO,ag S.rest,ag S.rounds,ag S.fuel][i]?) (exact tC.out _ aG) (first|((with_reducible refine(lH.out _ aG).mono ?_);rintro e w2 ⟨bs',rm',tL,rfl,hx,dW⟩;obtain⟨N2,nM,gX,ku,lI⟩:=eB dW;(try simp only[bf]at nM))|((with_reducible refine(Zn.out _ aG).mono ?_);rintro e w3 ⟨b3,rfl,hrow,hlo,gK⟩;obtain⟨N3,vD,jK,vF,sJ⟩:=eB gK;(try simp only[bf]at vD))|((with_reducible refine(vN.out _ _ fw).mono ?_);rintro e w4 ⟨F,rfl,hmem,hF,hF0,hFL,lY⟩;obtain⟨N4,BG,nJ,Jl,Im⟩:=eB lY;(try simp only[bf]at BG)));have E8:aJ w1 w2:=((aK _ w1).drew).trans dW;have Ag:aJ w1 w3:=E8.trans (gK.mono E8.size);have YM:aJ w1 w4:=Ag.trans (lY.mono Ag.size);have VD:aJ w2 w4:=gK.trans (lY.mono gK.size);have asg:=VD.size;have ash:=gK.size;have az2:=lY.size;have az3:=E8.size;clear lH Zn vN tC gX ku lI nM N2 jK vF sJ vD N3 nJ Jl Im BG N4;go_wp2;generalize L_:World.alloc _ _=WF;have hbF:aJ w4 WF:=by rw[←L_];exact(aK _ _).alloc (aH _) _
 have kF:aV WF w4.heap.size (Og S bs' rm' tL (aR kb) F.M):=by rw[←L_];exact aV.new _ _ _ _ rfl
 have hno:¬F.has w4.heap.size:=fun h=>absurd (hmem.lt h) (Nat.lt_irrefl _);refine bodyPost_ret (v:=.tuple #[aR w4.heap.size,ag 0]) eU rfl ⟨_,bs',rm',tL,w2,F,rfl,⟨hmem.below hbF,⟨kF,hno⟩,⟨VD.trans (hbF.mono asg),fun b hb=>aS ash (hF b hb)⟩,hx.at,ae⟩,⟨hF0,ae,ae⟩,(sK.trans (YM.mono nk)).trans (hbF.mono ae)⟩
theorem Fh (v:Option Addr) (a:Option Addr) (l c:Nat) (w:World):Calls prog 36 #[.pointer v,.slice a l c] w fun e w'=>e=.returned (.func (.func 74) #[] #[aR w.heap.size,.pointer (some ⟨w.heap.size+1,0,none⟩)])∧w'=(w.alloc (.cells #[.pointer v] 43)).alloc (.cells #[.slice a l c] 56):=by go_enter func36,ntmps36;go_wp2;go_ret;exact⟨av,rfl⟩
end Ga
namespace Mc
open Go.RowKit aN fO Qt Ro Bk Ce La Ha In Vm Co Tc
variable {c:List Int} {S:Stp} {e0 e1 e2 cK:Int} {i j:Nat}
theorem Zv (hS:mf S) {rm dr inp code:Value} {ab a_:Nat} {W0 w w0:World} {F0:Fp} {bt M C m k0:Nat} {L:Option Nat} (BF:Wk S ⟨aZ ab S.bodies.length a_,rm,dr,code,e0,e1,e2,cK,inp,i,j,false,0,0,0,0,false⟩ W0 w0 F0 bt w M C L m c k0) (hi:i<S.bodies.length) (hj:¬j<S.bodies.length):
  Calls prog 84 #[aR bt] w fun e w'=>e=.returned (.tuple #[])∧∃L' m',aD w' ⟨M,C,L',m'⟩ c∧Alt [] w ⟨M,C,L,m⟩ w' ⟨M,C,L',m'⟩ 10:=by
 have hw:=BF.base;clear BF;have n24:=hS.n24;have hhi:Calls prog 86 #[aR bt,ag i] w fun e w'=>e=.returned (.bool true)∧w'=w:=by have:=pJ hw.kT rfl n24 i;rwa[show decide (0≤(i:Int)∧(i:Int)<(S.bodies.length:Int))=true from bU]at this
 have hhj:Calls prog 86 #[aR bt,ag j] w fun e w'=>e=.returned (.bool false)∧w'=w:=by have:=pJ hw.kT rfl n24 j;rwa[show decide (0≤(j:Int)∧(j:Int)<(S.bodies.length:Int))=false from bU]at this
 have hij:i≠j:=ae;clear hi hj hij hS;have bZ:=hw.kT.bV;have b_:=hw.kT.blk.free;have U3:=ah hhi;have acR:=ah hhj;clear hhi hhj;go_enter func84,ntmps84;go_wp2_with (first|((with_reducible refine U3.out.mono ?_);rintro e w1 ⟨rfl,iI⟩;rw[iI];clear iI w1)|((with_reducible refine acR.out.mono ?_);rintro e w1 ⟨rfl,iI⟩;rw[iI];clear iI w1));exact rX
theorem JX {P:Nat} (h:sM P c) {k:Nat} {f p q u v:Int} (hf:f=48+4*P+8*k) (hp: -1048576≤p∧p≤1048576) (hq: -1048576≤q∧q≤1048576) (hu: -16384≤u∧u≤16384) (hv: -16384≤v∧v≤16384):
  sM P (Xl c f p q u v)∧(Xl c f p q u v).length=c.length∧∀j:Int,j<48→cg (Xl c f p q u v) j=cg c j:=by subst hf;unfold Xl;have b0:=h.set (Cb.body (P:=P) (k:=k) (f:=0) (v:=p) ae ae (fun _=>hp) ae);rw[Int.add_zero]at b0;refine⟨((b0.set (Cb.body ae ae (fun _=>hq) ae)).set (Cb.body ae ae ae (fun _=>hu))).set (Cb.body ae ae ae (fun _=>hv)),by simp[aT],fun j hj=>?_⟩;rw[aI,if_neg ae,aI,if_neg ae,aI,if_neg ae,aI,if_neg ae]
theorem Zw (hS:mf S) (hb:sM S.ak c) (hi:i<S.bodies.length):∃c1:List Int,c1.length=c.length∧sM S.ak c1∧(∀q:Int,q<48→cg c1 q=cg c q)∧
  ∀{rm dr inp code:Value} {ab a_:Nat} {W0 w w0:World} {F0:Fp} {bt M C m k0:Nat} {L:Option Nat},Wk S ⟨aZ ab S.bodies.length a_,rm,dr,code,e0,e1,e2,cK,inp,i,j,false,0,0,0,0,false⟩ W0 w0 F0 bt w M C L m c k0→fP W0 S (aZ ab S.bodies.length a_) rm dr→m<999980500→
   Calls prog 84 #[aR bt] w fun e w'=>e=.returned (.tuple #[])∧∃L' m',aD w' ⟨M,C,L',m'⟩ c1∧Alt [] w ⟨M,C,L,m⟩ w' ⟨M,C,L',m'⟩ 10:=by
 by_cases hj:j<S.bodies.length
 ·by_cases hex:∃(W:World) (ab a_:Nat) (rm dr:Value),fP W S (aZ ab S.bodies.length a_) rm dr
  ·obtain⟨W,ab,a_,rm,dr,hW⟩:=hex;obtain⟨A,hA⟩:∃B,S.bodies[i]?=some B:=⟨_,ik hi⟩
   obtain⟨B,hB⟩:∃B,S.bodies[j]?=some B:=⟨_,ik hj⟩
   have imA:=hS.im A (qo hA);have imB:=hS.im B (qo hB);obtain⟨_,_,_,_,_,shA⟩:=(fP.body hW i A hA).shape;obtain⟨_,_,_,_,_,shB⟩:=(fP.body hW j B hB).shape;have p0:=hb.pos (k:=i) (f:=0) ae ae;have p1:=hb.pos (k:=i) (f:=1) ae ae;have p2:=hb.X9 (k:=i) (f:=2) ae ae;have p3:=hb.X9 (k:=i) (f:=3) ae ae;have r0:=hb.pos (k:=j) (f:=0) ae ae;have r1:=hb.pos (k:=j) (f:=1) ae ae;have r2:=hb.X9 (k:=j) (f:=2) ae ae;have r3:=hb.X9 (k:=j) (f:=3) ae ae;rw[Int.add_zero]at p0 r0;cases hok:L8 A.r A.zs (cg c (48+4*S.ak+8*i)) (cg c (48+4*S.ak+8*i+1)) B.r B.zs (cg c (48+4*S.ak+8*j)) (cg c (48+4*S.ak+8*j+1))with
   |false=>refine⟨c,rfl,hb,fun _ _=>rfl,?_⟩;intro rm dr inp code ab a_ W0 w w0 F0 bt M C m k0 L hw iY hr;exact Oq hS hw iY (fP.body iY) hr hA hB rfl rfl rfl rfl rfl rfl rfl rfl ⟨p0.1,p0.2,p1⟩ ⟨r0.1,r0.2,r1⟩ rfl rfl rfl hok (r0:=0) (r1:=0) (r2:=0) (r3:=0) (s0:=0) (s1:=0) (s2:=0) (s3:=0) (fun h=>by cases h)
   |true=>
    have hco:=acS shA shB ⟨p0,p1⟩ ⟨r0,r1⟩ hS.rest hok;obtain⟨a0,a1,a2,a3,b0,b1,b2,b3,mA,mB,hg⟩:=Sr (am:=A.im) (bm:=B.im) ⟨p0.1,p0.2,p1.1,p1.2,p2.1,p2.2,p3.1,p3.2,imA.1,imA.2⟩ ⟨r0.1,r0.2,r1.1,r1.2,r2.1,r2.2,r3.1,r3.2,imB.1,imB.2⟩ hco;obtain⟨B1,l1,g1⟩:=JX hb (k:=i) rfl ⟨mA.p0,mA.p1⟩ ⟨mA.q0,mA.q1⟩ ⟨mA.u0,mA.u1⟩ ⟨mA.v0,mA.v1⟩;obtain⟨B2,l2,g2⟩:=JX B1 (k:=j) rfl ⟨mB.p0,mB.p1⟩ ⟨mB.q0,mB.q1⟩ ⟨mB.u0,mB.u1⟩ ⟨mB.v0,mB.v1⟩;refine⟨cs (cs (Xl (Xl c (48+4*S.ak+8*i) a0 a1 a2 a3) (48+4*S.ak+8*j) b0 b1 b2 b3) (48+4*S.ak+8*i+6) (j+1)) (48+4*S.ak+8*j+6) (i+1),?_,?_,?_,?_⟩
    ·rw[aT,aT,l2,l1]
    ·exact(B2.set (Cb.body ae ae ae ae)).set (Cb.body ae ae ae ae)
    ·intro q hq;rw[aI,if_neg ae,aI,if_neg ae,g2 q hq,g1 q hq]
    ·intro rm dr inp code ab a_ W0 w w0 F0 bt M C m k0 L hw iY hr;exact Oq hS hw iY (fP.body iY) hr hA hB rfl rfl rfl rfl rfl rfl rfl rfl ⟨p0.1,p0.2,p1⟩ ⟨r0.1,r0.2,r1⟩ rfl rfl rfl hok (fun _=>hg)
  ·refine⟨c,rfl,hb,fun _ _=>rfl,?_⟩;intro rm dr inp code ab a_ W0 w w0 F0 bt M C m k0 L hw iY hr;exact absurd ⟨_,_,_,_,_,iY⟩ hex
 ·refine⟨c,rfl,hb,fun _ _=>rfl,?_⟩;intro rm dr inp code ab a_ W0 w w0 F0 bt M C m k0 L hw iY hr;exact Zv hS hw hi hj
theorem Sl (hS:mf S) (hI:Inv S c) (h1:cg c 1=4) (I:List (Int×Int)) (R:List (Int×Int×Int)) (e0 e1 e2 cK:Int):
  ∃c',oF S c c' false∧Does 44 S I R e0 e1 e2 cK c c' false 0 0 0 0 false:=by
 have Bh:=hI.ph;have Uy:0≤cg c 4∧cg c 4≤S.rounds∧0≤cg c 2∧0≤cg c 3∧cg c 2<S.bodies.length∧cg c 3<S.bodies.length+1:=o7;clear Bh;obtain⟨i,hi⟩:∃k:Nat,cg c 2=k:=⟨(cg c 2).toNat,ae⟩
 obtain⟨j,hj⟩:∃k:Nat,cg c 3=k:=⟨(cg c 3).toNat,ae⟩
 obtain⟨k,hk⟩:∃k:Int,cg c 4=k:=⟨_,rfl⟩
 have hil:i<S.bodies.length:=ae;have alT:=oq hS hI;have hfr:=hI.FW;have V6:=hI.fuel;have n24:=hS.n24;have P8:=hS.P8;have P1:=hS.P1;have hro:=hS.rounds;have iC:∀{c':List Int},oF S c c' false→(∀{rm dr inp code:Value} {ab a_:Nat} {W0 w:World} {M C:Nat} {L:Option Nat} {m bt:Nat},Wk S ⟨aZ ab S.bodies.length a_,rm,dr,code,e0,e1,e2,cK,inp,i,j,false,0,0,0,0,false⟩ W0 w ⟨M,C,L,m⟩ bt w M C L m c 0→fP W0 S (aZ ab S.bodies.length a_) rm dr→m<999980000→
     Calls prog 44 #[aR bt] w fun e w'=>e=.returned (.tuple #[])∧∃L' m',aD w' ⟨M,C,L',m'⟩ c'∧Alt [] w ⟨M,C,L,m⟩ w' ⟨M,C,L',m'⟩ 20)→
     ∃c',oF S c c' false∧Does 44 S I R e0 e1 e2 cK c c' false 0 0 0 0 false:=by
  intro c' htr hfo
  exact DK
 have aeA:oF S c (cs (AL c 5 0) 5 1024) false:=by
  unfold AL;refine oF.on hI (p:=5) (i:=0) (j:=0) (k:=cg c 4) (f:=cg c 8) (by simp[aT]) ((((hI.bnd.set (Cb.free ae)).set (Cb.free ae)).set (Cb.free ae)).set (Cb.free ae)) ?_ ?_ ?_ ?_ ?_ ?_ ?_ V6 ?_ ?_
  ·rw[aI,if_neg ae,aI,if_neg ae,aI,if_neg ae,aI,if_neg ae]
  ·rw[aI,if_neg ae,aI,if_neg ae,aI,if_neg ae,aI,if_pos ae]
  ·rw[aI,if_neg ae,aI,if_neg ae,aI,if_pos (by rw[aT];omega)]
  ·rw[aI,if_neg ae,aI,if_pos (by rw[aT,aT];omega)]
  ·rw[aI,if_neg ae,aI,if_neg ae,aI,if_neg ae,aI,if_neg ae]
  ·rw[aI,if_pos (by rw[aT,aT,aT];omega)];omega
  ·rw[aI,if_neg ae,aI,if_neg ae,aI,if_neg ae,aI,if_neg ae]
  ·exact .inr (.inr (.inr (.inr (.inr (.inl ⟨rfl,ae,ae,ae,ae⟩)))))
  ·unfold mu Kr;rw[h1,hi,hj];simp;omega
 by_cases hn:S.bodies.length<2
 ·exact iC aeA fun hw iY hr=>Ot hS hw hr ae ae hk ae hn
 by_cases hko:S.rounds≤k
 ·exact iC aeA fun hw iY hr=>Lg hS hw hr ae ae hk ae hn hko
 obtain⟨c1,l1,b1,g1,ht⟩:=Zw (j:=j) (e0:=e0) (e1:=e1) (e2:=e2) (cK:=cK) hS hI.bnd hil;refine iC ?_ fun hw iY hr=>Su hS hw hr ae ae hk ae hn hko fun W hW=>ht hW iY ae;have hnx:0≤yT S.bodies.length k i j∧yT S.bodies.length k i j≤S.rounds∧0≤Mg S.bodies.length i j∧Mg S.bodies.length i j<S.bodies.length∧0≤Un S.bodies.length i j∧Un S.bodies.length i j<S.bodies.length+1∧(10-yT S.bodies.length k i j)*1000-Mg S.bodies.length i j*30-Un S.bodies.length i j<(10-k)*1000-i*30-j:=by
  unfold yT Mg Un;by_cases h:j+1<S.bodies.length
  ·simp only[if_pos h];omega
  ·simp only[if_neg h];by_cases h':i+2<S.bodies.length
   ·simp only[if_pos h'];omega
   ·simp only[if_neg h'];omega
 obtain⟨n1,n2,n3,n4,n5,n6,n7⟩:=hnx;refine oF.on hI (p:=4) (i:=Mg S.bodies.length i j) (j:=Un S.bodies.length i j) (k:=yT S.bodies.length k i j) (f:=cg c 8) (by simp[aT,l1]) (((b1.set (Cb.free ae)).set (Cb.free ae)).set (Cb.free ae)) ?_ ?_ ?_ ?_ ?_ ?_ ?_ V6 ?_ ?_
 ·rw[aI,if_neg ae,aI,if_neg ae,aI,if_neg ae,g1 _ ae]
 ·rw[aI,if_neg ae,aI,if_neg ae,aI,if_neg ae,g1 _ ae,h1]
 ·rw[aI,if_neg ae,aI,if_pos (by rw[aT,l1];omega)]
 ·rw[aI,if_pos (by rw[aT,aT,l1];omega)]
 ·rw[aI,if_neg ae,aI,if_neg ae,aI,if_pos (by rw[l1];omega)]
 ·rw[aI,if_neg ae,aI,if_neg ae,aI,if_neg ae,g1 _ ae];exact hfr
 ·rw[aI,if_neg ae,aI,if_neg ae,aI,if_neg ae,g1 _ ae]
 ·exact .inr (.inr (.inr (.inr (.inl ⟨rfl,n1,n2,n3,n5,n4,n6⟩))))
 ·unfold mu Kr;rw[h1,hi,hj,hk];simp;omega
attribute [local go_sem] Oper.semAt_some
attribute [local go_sem] vB
variable {S:Stp} {I:List (Int×Int)} {R:List (Int×Int×Int)} {e0 e1 e2 cK x y z r:Int} {c c':List Int} {en q:Bool} {W0 w:World} {M C m:Nat} {L:Option Nat} {bs rm dr code inp:Value}
theorem Ol (hp:cg c 1=0) (hd:Does 40 S I R e0 e1 e2 cK c c' en x y z r q)
  (h:Le S I R W0 bs rm dr code inp w ⟨M,C,L,m⟩ c) (hr:m<999980000):
  Calls prog 16 #[iW M,dR S bs rm dr,qQ code e0 e1 e2,ag cK,inp] w fun e w'=>e=.returned (trv en x y z r q)∧∃L' m',aD w' ⟨M,C,L',m'⟩ c'∧Alt [] w ⟨M,C,L,m⟩ w' ⟨M,C,L',m'⟩ 40:=by
 obtain⟨bI,LA,tu,_⟩:=h.hin;subst tu;have H:=ah h;have hm:=h.hm;have g1:∀W,aD W ⟨M,C,L,m⟩ c→Calls prog 31 #[aR M,ag 1] W fun e w'=>e=.returned (ag 0)∧w'=W:=fun W h=>by have:=iZ h 1;rwa[hp]at this
 exact jm
theorem V4 (hp:cg c 1=1) (hd:Does 41 S I R e0 e1 e2 cK c c' en x y z r q)
  (h:Le S I R W0 bs rm dr code inp w ⟨M,C,L,m⟩ c) (hr:m<999980000):
  Calls prog 16 #[iW M,dR S bs rm dr,qQ code e0 e1 e2,ag cK,inp] w fun e w'=>e=.returned (trv en x y z r q)∧∃L' m',aD w' ⟨M,C,L',m'⟩ c'∧Alt [] w ⟨M,C,L,m⟩ w' ⟨M,C,L',m'⟩ 40:=by
 obtain⟨bI,LA,tu,_⟩:=h.hin;subst tu;have H:=ah h;have hm:=h.hm;have g1:∀W,aD W ⟨M,C,L,m⟩ c→Calls prog 31 #[aR M,ag 1] W fun e w'=>e=.returned (ag 1)∧w'=W:=fun W h=>by have:=iZ h 1;rwa[hp]at this
 exact jm
theorem Sk (hp:cg c 1=2) (hd:Does 42 S I R e0 e1 e2 cK c c' en x y z r q)
  (h:Le S I R W0 bs rm dr code inp w ⟨M,C,L,m⟩ c) (hr:m<999980000):
  Calls prog 16 #[iW M,dR S bs rm dr,qQ code e0 e1 e2,ag cK,inp] w fun e w'=>e=.returned (trv en x y z r q)∧∃L' m',aD w' ⟨M,C,L',m'⟩ c'∧Alt [] w ⟨M,C,L,m⟩ w' ⟨M,C,L',m'⟩ 40:=by
 obtain⟨bI,LA,tu,_⟩:=h.hin;subst tu;have H:=ah h;have hm:=h.hm;have g1:∀W,aD W ⟨M,C,L,m⟩ c→Calls prog 31 #[aR M,ag 1] W fun e w'=>e=.returned (ag 2)∧w'=W:=fun W h=>by have:=iZ h 1;rwa[hp]at this
 exact jm
theorem Oo (hp:cg c 1=3) (hd:Does 43 S I R e0 e1 e2 cK c c' en x y z r q)
  (h:Le S I R W0 bs rm dr code inp w ⟨M,C,L,m⟩ c) (hr:m<999980000):
  Calls prog 16 #[iW M,dR S bs rm dr,qQ code e0 e1 e2,ag cK,inp] w fun e w'=>e=.returned (trv en x y z r q)∧∃L' m',aD w' ⟨M,C,L',m'⟩ c'∧Alt [] w ⟨M,C,L,m⟩ w' ⟨M,C,L',m'⟩ 40:=by
 obtain⟨bI,LA,tu,_⟩:=h.hin;subst tu;have H:=ah h;have hm:=h.hm;have g1:∀W,aD W ⟨M,C,L,m⟩ c→Calls prog 31 #[aR M,ag 1] W fun e w'=>e=.returned (ag 3)∧w'=W:=fun W h=>by have:=iZ h 1;rwa[hp]at this
 exact jm
theorem Jg (hp:cg c 1=4) (hd:Does 44 S I R e0 e1 e2 cK c c' en x y z r q)
  (h:Le S I R W0 bs rm dr code inp w ⟨M,C,L,m⟩ c) (hr:m<999980000):
  Calls prog 16 #[iW M,dR S bs rm dr,qQ code e0 e1 e2,ag cK,inp] w fun e w'=>e=.returned (trv en x y z r q)∧∃L' m',aD w' ⟨M,C,L',m'⟩ c'∧Alt [] w ⟨M,C,L,m⟩ w' ⟨M,C,L',m'⟩ 40:=by
 obtain⟨bI,LA,tu,_⟩:=h.hin;subst tu;have H:=ah h;have hm:=h.hm;have g1:∀W,aD W ⟨M,C,L,m⟩ c→Calls prog 31 #[aR M,ag 1] W fun e w'=>e=.returned (ag 4)∧w'=W:=fun W h=>by have:=iZ h 1;rwa[hp]at this
 exact jm
theorem Sn (hp:cg c 1=5) (hd:Does 45 S I R e0 e1 e2 cK c c' en x y z r q)
  (h:Le S I R W0 bs rm dr code inp w ⟨M,C,L,m⟩ c) (hr:m<999980000):
  Calls prog 16 #[iW M,dR S bs rm dr,qQ code e0 e1 e2,ag cK,inp] w fun e w'=>e=.returned (trv en x y z r q)∧∃L' m',aD w' ⟨M,C,L',m'⟩ c'∧Alt [] w ⟨M,C,L,m⟩ w' ⟨M,C,L',m'⟩ 40:=by
 obtain⟨bI,LA,tu,_⟩:=h.hin;subst tu;have H:=ah h;have hm:=h.hm;have g1:∀W,aD W ⟨M,C,L,m⟩ c→Calls prog 31 #[aR M,ag 1] W fun e w'=>e=.returned (ag 5)∧w'=W:=fun W h=>by have:=iZ h 1;rwa[hp]at this
 exact jm
theorem V5 (hp:cg c 1=6) (hd:Does 46 S I R e0 e1 e2 cK c c' en x y z r q)
  (h:Le S I R W0 bs rm dr code inp w ⟨M,C,L,m⟩ c) (hr:m<999980000):
  Calls prog 16 #[iW M,dR S bs rm dr,qQ code e0 e1 e2,ag cK,inp] w fun e w'=>e=.returned (trv en x y z r q)∧∃L' m',aD w' ⟨M,C,L',m'⟩ c'∧Alt [] w ⟨M,C,L,m⟩ w' ⟨M,C,L',m'⟩ 40:=by
 obtain⟨bI,LA,tu,_⟩:=h.hin;subst tu;have H:=ah h;have hm:=h.hm;have g1:∀W,aD W ⟨M,C,L,m⟩ c→Calls prog 31 #[aR M,ag 1] W fun e w'=>e=.returned (ag 6)∧w'=W:=fun W h=>by have:=iZ h 1;rwa[hp]at this
 exact jm
theorem Sq (hp:cg c 1=7) (hd:Does 47 S I R e0 e1 e2 cK c c' en x y z r q)
  (h:Le S I R W0 bs rm dr code inp w ⟨M,C,L,m⟩ c) (hr:m<999980000):
  Calls prog 16 #[iW M,dR S bs rm dr,qQ code e0 e1 e2,ag cK,inp] w fun e w'=>e=.returned (trv en x y z r q)∧∃L' m',aD w' ⟨M,C,L',m'⟩ c'∧Alt [] w ⟨M,C,L,m⟩ w' ⟨M,C,L',m'⟩ 40:=by
 obtain⟨bI,LA,tu,_⟩:=h.hin;subst tu;have H:=ah h;have hm:=h.hm;have g1:∀W,aD W ⟨M,C,L,m⟩ c→Calls prog 31 #[aR M,ag 1] W fun e w'=>e=.returned (ag 7)∧w'=W:=fun W h=>by have:=iZ h 1;rwa[hp]at this
 exact jm
end Mc
namespace Ga
open Go.RowKit aN fO Qt Ro Bk Ce La Ha In Vm Mc
variable {bE bN z bX b k:Nat} {A B w:World} {F F':Fp} {c:List Int} {v:Value}
theorem jE {p:Addr} (h:w.cell? p=some v):∃o,w.heap[p.block]?=some o∧o.isCells=true:=by
 unfold World.cell? at h;split at h
 ·rename_i c el fz hh;exact⟨_,hh,rfl⟩
 ·cases h
structure Kt (z bE bN:Nat) (A B:World):Prop where
 os:B.os=A.os
 tape:B.tape=A.tape
 output:B.output=A.output
 size:A.heap.size≤B.heap.size
 block:∀k,k<A.heap.size→k≠bE→k≠bN→(∀v,A.cell? ⟨bE,0,none⟩=some v→v.ownBlock≠some k)→(k<z∨∃o,A.heap[k]?=some o∧o.isCells=true)→B.heap[k]?=A.heap[k]?
 own:∀v',B.cell? ⟨bE,0,none⟩=some v'→∀k,v'.ownBlock=some k→(∃v,A.cell? ⟨bE,0,none⟩=some v∧v.ownBlock=some k)∨A.heap.size≤k
theorem Kt.trans {C:World} (h:Kt z bE bN A B) (k:Kt z bE bN B C):Kt z bE bN A C:=by
 refine⟨k.os.trans h.os,k.tape.trans h.tape,k.output.trans h.output,aS h.size k.size,fun x hx h1 h2 hv hc=>?_,fun v' hv' x e=>?_⟩
 ·have e1:=h.block x hx h1 h2 hv hc;refine(k.block x (bH hx h.size) h1 h2 (fun v' hv' e=>?_) (by rw[e1];exact hc)).trans e1;rcases h.own v' hv' x e with⟨v,h3,h4⟩|h3
  ·exact hv v h3 h4
  ·omega
 ·rcases k.own v' hv' x e with⟨v,h2,h3⟩|h2
  ·exact h.own v h2 x h3
  ·exact .inr (aS h.size h2)
theorem Kt.below (h:aJ A B) (hE:bE<A.heap.size):Kt z bE bN A B:=
 have c:B.cell? ⟨bE,0,none⟩=A.cell? ⟨bE,0,none⟩:=bg (a:=⟨bE,0,none⟩) (h.block bE hE)
 ⟨h.os,h.tape,h.output,h.size,fun k hk _ _ _ _=>h.block k hk,fun v hv k e=>.inl ⟨v,by rw[←c];exact hv,e⟩⟩
theorem Kt.book (hE:bE<z) (W:World) (l:Nat) (o o':Obj) (hl:z≤l) (h:W.heap[l]?=some o) (ho:o.isCells=false):Kt z bE bN W (W.putObj l o'):=by
 have hg:=grownBy_putObj' W l o';have c:(W.putObj l o').cell? ⟨bE,0,none⟩=W.cell? ⟨bE,0,none⟩:=bg (a:=⟨bE,0,none⟩) (World.putObj_heap_other aX);refine⟨hg.os,hg.tape,hg.output,hg.size,fun k hk _ _ _ hc=>World.putObj_heap_other (fun e=>?_),fun v hv k e=>.inl ⟨v,by rw[←c];exact hv,e⟩⟩;subst e;rcases hc with h1|⟨o2,h1,h2⟩
 ·omega
 ·rw[h]at h1;injection h1 with h1;subst h1;rw[ho]at h2;cases h2
structure Sf (bE bN:Nat) (F:Fp) (W:World) (b:Nat):Prop where
 lt:b<W.heap.size
 no:¬F.has b
 nE:b≠bE
 nN:b≠bN
 own:∀v,W.cell? ⟨bE,0,none⟩=some v→v.ownBlock≠some b
theorem Kt.sf (k:Kt z bE bN A B) (h:Sf bE bN F A b):Sf bE bN F B b:=
 ⟨bH h.lt k.size,h.no,h.nE,h.nN,fun v hv e=>by
  rcases k.own v hv b e with⟨v',h1,h2⟩|h1
  ·exact h.own v' h1 h2
  ·have:=h.lt;omega⟩
theorem Kt.cell {o:Nat} (k:Kt z bE bN A B) (h:Sf bE bN F A b) (e:A.cell? ⟨b,o,none⟩=some v):B.cell? ⟨b,o,none⟩=some v:=
 (bg (a:=⟨b,o,none⟩) (k.block b h.lt h.nE h.nN h.own (.inr (jE e)))).trans e
theorem Kt.blk {x:Value} {L:List Value} (k:Kt z bE bN A B) (h:Sf bE bN F A b) (hb:aV A b (x::L)):aV B b (x::L):=
 hb.keep k.size (k.block b h.lt h.nE h.nN h.own (.inr (jE (hb.cell 0))))
structure Dj (bE bN bX:Nat) (F:Fp) (W:World):Prop where
 E:¬F.has bE
 N:¬F.has bN
 X:¬F.has bX
 own:∀v,W.cell? ⟨bE,0,none⟩=some v→∀b,v.ownBlock=some b→¬F.has b
 lE:bE<W.heap.size
 lN:bN<W.heap.size
 lX:bX<W.heap.size
theorem OJ {w':World} (h:aD w F c) (hk:∀b,F.has b→w'.heap[b]?=w.heap[b]?):aD w' F c:=by
 have cM:∀o,w'.cell? ⟨F.M,o,none⟩=w.cell? ⟨F.M,o,none⟩:=fun o=>bg (a:=⟨F.M,o,none⟩) (hk F.M (.inl rfl));have cC:∀o,w'.cell? ⟨F.C,o,none⟩=w.cell? ⟨F.C,o,none⟩:=fun o=>bg (a:=⟨F.C,o,none⟩) (hk F.C (.inr (.inl rfl)));obtain⟨β,k,lv,vals,h1,h2,h3,h4,h5⟩:=h.s1;refine⟨(cM 0).trans h.s0,⟨β,k,lv,vals,(cM 1).trans h1,⟨h2.1,?_⟩,h3,(cM 2).trans h4,h5⟩,fun i hi=>(cC i).trans (h.cells i hi),fun i=>(World.frozen?_of_block (a:=⟨F.M,i,none⟩) (hk F.M (.inl rfl))).trans (h.fM i),fun i=>(World.frozen?_of_block (a:=⟨F.C,i,none⟩) (hk F.C (.inr (.inl rfl)))).trans (h.fC i),h.ne,h.len,h.room⟩;rcases h2.2 with e|⟨g,cp,cur,e1,e2,e3,e4⟩
 ·exact .inl e
 ·exact .inr ⟨g,cp,cur,e1,e2,(hk g (.inr (.inr (by rw[←h3,e1];rfl)))).trans e3,e4⟩
theorem BA (h:aD w F c) (hb:F.has b):∃o,w.heap[b]?=some o∧o.isCells=true:=by
 rcases hb with rfl|rfl|hb
 ·exact jE h.s0
 ·exact jE (h.cells 0 (by have:=h.len;omega))
 ·obtain⟨β,k,lv,vals,h1,h2,h3,h4,h5⟩:=h.s1;rcases h2.2 with⟨e,_⟩|⟨g,cp,cur,e1,e2,e3,e4⟩
  ·rw[e]at h3;rw[←h3]at hb;cases hb
  ·rw[e1]at h3;have:g=b:=by rw[←h3]at hb;exact bD hb
   subst this;exact⟨_,e3,rfl⟩
theorem Kt.mem (k:Kt z bE bN A B) (d:Dj bE bN bX F A) (h:aD A F c):aD B F c∧Dj bE bN bX F B:=by
 refine⟨OJ h fun b hb=>k.block b (h.lt hb) (fun e=>d.E (e▸hb)) (fun e=>d.N (e▸hb)) (fun v hv e=>d.own v hv b e hb) (.inr (BA h hb)),⟨d.E,d.N,d.X,fun v hv b e hb=>?_,bH d.lE k.size,bH d.lN k.size,bH d.lX k.size⟩⟩;rcases k.own v hv b e with⟨v',h1,h2⟩|h1
 ·exact d.own v' h1 b h2 hb
 ·have:=h.lt hb;omega
theorem ag8 (a:Alt [] A F B F' k) (d:Dj bE bN bX F A) (hl:∀v,A.cell? ⟨bE,0,none⟩=some v→∀b,v.ownBlock=some b→b<A.heap.size):Dj bE bN bX F' B:=by have hc:B.cell? ⟨bE,0,none⟩=A.cell? ⟨bE,0,none⟩:=bg (a:=⟨bE,0,none⟩) (a.block bE d.lE d.E av);exact⟨fun h=>d.E (a.has d.lE h),fun h=>d.N (a.has d.lN h),fun h=>d.X (a.has d.lX h),fun v hv b e h=>by rw[hc]at hv;exact d.own v hv b e (a.has (hl v hv b e) h),bH d.lE a.size,bH d.lN a.size,bH d.lX a.size⟩
theorem zD (a:Alt [] A F B F' k) (d:Dj bE bN bX F A) (h:Sf bE bN F A b):Sf bE bN F' B b:=
 ⟨bH h.lt a.size,fun hF=>h.no (a.has h.lt hF),h.nE,h.nN,fun v hv=>h.own v (by rw[←World.cell?_of_block (a:=⟨bE,0,none⟩) (a.block bE d.lE d.E av)];exact hv)⟩
theorem zF (hb:aJ A B) (hE:bE<A.heap.size) (h:Sf bE bN F A b):Sf bE bN F B b:=
 ⟨bH h.lt hb.size,h.no,h.nE,h.nN,fun v hv=>h.own v (by rw[←World.cell?_of_block (a:=⟨bE,0,none⟩) (hb.block bE hE)];exact hv)⟩
theorem ag9 (hb:aJ A B) (h:Dj bE bN bX F A):Dj bE bN bX F B:=
 ⟨h.E,h.N,h.X,fun v hv=>h.own v (by rw[←World.cell?_of_block (a:=⟨bE,0,none⟩) (hb.block bE h.lE)];exact hv),bH h.lE hb.size,bH h.lN hb.size,bH h.lX hb.size⟩
theorem aab (hm:aD A F c) (d:Dj bE bN bX F A) (hl:∀v,A.cell? ⟨bE,0,none⟩=some v→∀b,v.ownBlock=some b→b<A.heap.size) (hb:aJ A B) (h0:A.heap.size≤b) (h1:b<B.heap.size):Sf bE bN F B b:=
 ⟨h1,fun h=>by have:=hm.lt h;omega,by have:=d.lE;omega,by have:=d.lN;omega,fun v hv e=>by have:=hl v (by rw[←World.cell?_of_block (a:=⟨bE,0,none⟩) (hb.block bE d.lE)];exact hv) b e;omega⟩
abbrev Ef:=Int×Int×Int×Int×Bool
def efL (x:Ef):List Value:=[ag x.1,ag x.2.1,ag x.2.2.1,ag x.2.2.2.1]
structure It (z bE bN bX:Nat) (pre:List Ef) (W:World):Prop where
 e:∃v xs m,aV W bE [v]∧W.ownsRow z 66 4 v m xs∧m≤pre.length∧∀u∈xs,u.oneCell'=true
 n:aV W bN [ag pre.length]
 x:aV W bX [ag 0]
 z:z≤W.heap.size
theorem It.Eh {pre:List Ef} {W:World} (h:It z bE bN bX pre W):∀v,W.cell? ⟨bE,0,none⟩=some v→∀b,v.ownBlock=some b→z≤b∧b<W.heap.size:=by obtain⟨v,xs,m,k,o,_⟩:=h.e;intro v' hv' b e;rw[k.cell 0]at hv';injection hv' with hv';subst hv';exact o.lt b e
theorem dC {n0:Nat} {e:TypeId} {size n:Nat} {xs:List Value} (h:A.ownsRow n0 e size v n xs) (hk:∀g,v.ownBlock=some g→B.heap[g]?=A.heap[g]?):B.ownsRow n0 e size v n xs:=by exact Da
theorem It.keep {pre:List Ef} (h:It z bE bN bX pre A) (hs:A.heap.size≤B.heap.size) (hE:B.heap[bE]?=A.heap[bE]?) (hN:B.heap[bN]?=A.heap[bN]?) (hX:B.heap[bX]?=A.heap[bX]?) (ho:∀v,A.cell? ⟨bE,0,none⟩=some v→∀g,v.ownBlock=some g→B.heap[g]?=A.heap[g]?):It z bE bN bX pre B:=by obtain⟨v,xs,m,k,o,hm⟩:=h.e;exact⟨⟨v,xs,m,k.keep hs hE,dC o (ho v (k.cell 0)),hm⟩,h.n.keep hs hN,h.x.keep hs hX,aS h.z hs⟩
theorem It.own (hE:bE<z) (hN:bN<z) (hX:bX<z):OwnFrom z (It z bE bN bX):=by
 intro pre A B row h hg hr;have hk:∀b,b<z→B.heap[b]?=A.heap[b]?:=fun b hb=>hg.block b (bH hb h.z) (fun e=>by have:=(hr b e.symm).1;omega);refine h.keep hg.size (hk _ hE) (hk _ hN) (hk _ hX) fun v hv g e=>hg.block g (h.Eh v hv g e).2 fun e2=>?_;obtain⟨_,o,h1,h2⟩:=hr g e2.symm;obtain⟨v',xs,m,k,own,_⟩:=h.e;rw[k.cell 0]at hv;injection hv with hv;subst hv;rcases own.2 with⟨e3,_⟩|⟨g',cp,cur,e3,_,e5,_⟩
 ·rw[e3]at e;cases e
 ·rw[e3]at e;have e4:g'=g:=bD e;subst e4;rw[e5]at h1;injection h1 with h1;subst h1;cases h2
theorem It.below {pre:List Ef} (h:It z bE bN bX pre A) (hb:aJ A B):It z bE bN bX pre B:=by obtain⟨v,xs,m,k,o,hm⟩:=h.e;exact h.keep hb.size (hb.block _ k.lt) (hb.block _ h.n.lt) (hb.block _ h.x.lt) fun v hv g e=>hb.block _ (h.Eh v hv g e).2
theorem It.alt {pre:List Ef} (h:It z bE bN bX pre A) (a:Alt [] A F B F' k) (d:Dj bE bN bX F A):It z bE bN bX pre B:=
 h.keep a.size (a.block _ d.lE d.E av) (a.block _ d.lN d.N av) (a.block _ d.lX d.X av) fun v hv g e=>a.block _ (h.Eh v hv g e).2 (d.own v hv g e) av
theorem WS (hm:aD A F c) (a:Alt [] A F B F' k):KeepsFrom z A B:=
 ⟨a.size,fun q o _ hq ho=>(a.block q (Array.getElem?_eq_some_iff.1 hq).1 (fun hF=>by obtain⟨o2,h1,h2⟩:=BA hm hF;rw[hq]at h1;injection h1 with h1;subst h1;rw[ho]at h2;cases h2) av).trans hq⟩
theorem J9 (hb:aJ A B):KeepsFrom z A B:=⟨hb.size,fun q o _ hq _=>(hb.block q (Array.getElem?_eq_some_iff.1 hq).1).trans hq⟩
end Ga
namespace Mc
open Go.RowKit aN fO Qt Ro Bk Ce La Ha In Vm
def Trans (S:Stp) (I:List (Int×Int)) (R:List (Int×Int×Int)) (e0 e1 e2 cK:Int) (c c':List Int) (en:Bool) (x y z r:Int) (q:Bool):Prop:=
 ∀{W0 w:World} {M C:Nat} {L:Option Nat} {m:Nat} {bs rm dr code inp:Value},Le S I R W0 bs rm dr code inp w ⟨M,C,L,m⟩ c→m<999980000→
  Calls prog 16 #[iW M,dR S bs rm dr,qQ code e0 e1 e2,ag cK,inp] w fun e w'=>e=.returned (trv en x y z r q)∧∃L' m',aD w' ⟨M,C,L',m'⟩ c'∧Alt [] w ⟨M,C,L,m⟩ w' ⟨M,C,L',m'⟩ 40
theorem Zr {S:Stp} (hS:mf S) {I:List (Int×Int)} (hIl:I.length≤1000000) {R:List (Int×Int×Int)} (hR:R.length=S.ak) (hRv:∀x∈R,-1≤x.1∧x.1≤1∧-1≤x.2.1∧x.2.1≤1) (e0 e1 e2 cK:Int) (c:List Int) (hI:Inv S c) (htk:0≤cg c 0∧cg c 0≤1000000):
  ∃en x y z r q c',oF S c c' en∧Trans S I R e0 e1 e2 cK c c' en x y z r q:=by
 have Bh:=hI.ph;have hp:cg c 1=0∨cg c 1=1∨cg c 1=2∨cg c 1=3∨cg c 1=4∨cg c 1=5∨cg c 1=6∨cg c 1=7:=by unfold Tv at Bh;omega
 rcases hp with h|h|h|h|h|h|h|h
 ·have Uy:0≤cg c 2∧cg c 2<S.ak:=by unfold Tv at Bh;rw[h]at Bh;omega
  clear Bh;obtain⟨k,hk⟩:∃k:Nat,cg c 2=k:=⟨(cg c 2).toNat,ae⟩
  have Zt:k<S.ak:=ae;obtain⟨x,hx⟩:∃x,R[k]?=some x:=⟨_,ik ae⟩
  exact⟨_,_,_,_,_,_,_,V3 hS hI h cK hk x (hRv x (qo hx)),fun P hm=>Ol h (Sj hS hI I R hR e0 e1 e2 cK hk Zt x hx) P hm⟩
 ·obtain⟨x,y,z,r,q,c',ht,hd⟩:=agG hS hI h I hIl R e0 e1 e2 cK;exact⟨_,_,_,_,_,_,_,ht,fun P hm=>V4 h hd P hm⟩
 ·obtain⟨x,y,z,r,q,c',ht,hd⟩:=acO hS hI h I hIl R e0 e1 e2 cK;exact⟨_,_,_,_,_,_,_,ht,fun P hm=>Sk h hd P hm⟩
 ·obtain⟨c',ht,hd⟩:=Zu hS hI h I R e0 e1 e2 cK;exact⟨_,_,_,_,_,_,_,ht,fun P hm=>Oo h hd P hm⟩
 ·obtain⟨c',ht,hd⟩:=Sl hS hI h I R e0 e1 e2 cK;exact⟨_,_,_,_,_,_,_,ht,fun P hm=>Jg h hd P hm⟩
 ·obtain⟨c',ht,hd⟩:=acP hS hI h I R e0 e1 e2 cK;exact⟨_,_,_,_,_,_,_,ht,fun P hm=>Sn h hd P hm⟩
 ·obtain⟨x,y,z,r,q,c',ht,hd⟩:=agH hS hI h I hIl R e0 e1 e2 cK;exact⟨_,_,_,_,_,_,_,ht,fun P hm=>V5 h hd P hm⟩
 ·obtain⟨en,c',ht,hd⟩:=acQ hS hI h htk I R e0 e1 e2 cK;exact⟨_,_,_,_,_,_,_,ht,fun P hm=>Sq h hd P hm⟩
end Mc
namespace Bo
open Go.RowKit aN Qt Ro Bk Ce Cl Vm
attribute [local go_sem] Oper.semAt_some
variable {w:World} {I:List (Int×Int)} {v c0 c1:Value} {bk bv cap:Nat} {FI e01 FK e10 e11 e12 t:Int}
def xw (w:World) (v:Value) (I:List (Int×Int)):Prop:=(I=[]∧(v=.slice none 0 0∨∃b cap,v=aZ b 0 cap))∨(I≠[]∧∃b cap,v=aZ b I.length cap∧Gf w (some ⟨b,0,none⟩) I)
def Ah (w w':World) (v:Value) (I:List (Int×Int)):Prop:=∃ac bY,v=.slice ac I.length bY∧∀i,i<I.length→∃b,ac=some ⟨b,0,none⟩∧w.heap.size≤b∧w'.cell? ⟨b,i*2,none⟩=some (ag (I.getD i (0,0)).1)∧w'.cell? ⟨b,i*2+1,none⟩=some (ag (I.getD i (0,0)).2)
theorem xw.later {w':World} (h:xw w v I) (hb:aJ w w'):xw w' v I:=by
 rcases h with h|⟨hn,b,cap,e,h⟩
 ·exact .inl h
 ·refine .inr ⟨hn,b,cap,e,fun i hi=>?_⟩;obtain⟨b',e',h1,h2⟩:=h i hi;exact⟨b',e',ai hb h1,ai hb h2⟩
def flt (I:List (Int×Int)):List Value:=(List.range (I.length*2)).map fun j=>ag (if j%2=0 then(I.getD (j/2) (0,0)).1 else(I.getD (j/2) (0,0)).2)
theorem KT (I:List (Int×Int)) (j:Nat) (hj:j<I.length*2):(flt I)[j]?=some (ag (if j%2=0 then(I.getD (j/2) (0,0)).1 else(I.getD (j/2) (0,0)).2)):=by unfold flt;rw[List.getElem?_map,List.getElem?_range hj];rfl
theorem Gz (I:List (Int×Int)):(flt I).length=I.length*2:=by simp[flt]
theorem VB (h:xw w v I) (hI:I.length≤1000):
  Calls prog 39 #[v] w fun e w'=>∃v',e=.returned v'∧Ah w w' v' I∧aJ w w':=by
 rcases h with⟨rfl,rfl|⟨b,cap,rfl⟩⟩|⟨hn,b,cap,rfl,h⟩
 ·refine(KR w).mono ?_;rintro e w' ⟨rfl,rfl⟩;exact⟨_,rfl,⟨none,0,rfl,fun i hi=>absurd hi av⟩,aK _ _⟩
 ·refine(I6 w b cap).mono ?_;rintro e w' ⟨g,rfl,hb⟩;exact⟨_,rfl,⟨some ⟨g,0,none⟩,0,rfl,fun i hi=>absurd hi av⟩,hb⟩
 ·have hlen:1≤I.length:=by
   cases I with
   |nil=>exact absurd rfl hn
   |cons a l=>simp
  refine(KS (xs:=flt I) hlen hI (Gz I) ?_ ?_).mono ?_
  ·intro j u hj;have hlt:j<I.length*2:=by have:=(List.getElem?_eq_some_iff.1 hj).1;rwa[Gz]at this
   rw[KT I j hlt]at hj;injection hj with hj;obtain⟨b',e,h1,h2⟩:=h (j/2) ae;injection e with e;injection e with e;subst e;rw[←hj];by_cases hm:j%2=0
   ·rw[if_pos hm];have:j/2*2=j:=ae;rwa[this]at h1
   ·rw[if_neg hm];have:j/2*2+1=j:=ae;rwa[this]at h2
  ·intro u hu;unfold flt at hu;obtain⟨j,_,rfl⟩:=List.mem_map.1 hu;rfl
  ·rintro e w' ⟨v',rfl,hnew,hb⟩;obtain⟨g,cap',rfl,hg,hc,_⟩:=hnew.ex;refine⟨_,rfl,⟨some ⟨g,0,none⟩,cap',rfl,fun i hi=>⟨g,rfl,hg,?_,?_⟩⟩,hb⟩
   ·refine hc _ _ ?_;rw[KT I _ ae,if_pos ae,show i*2/2=i from ae]
   ·refine hc _ _ ?_;rw[KT I _ ae,if_neg ae,show(i*2+1)/2=i from ae]
theorem YJ (h:uY w bk bv cap c0 c1 FI e01 FK e10 e11 e12) (hI:I.length≤1000) (hc:xw w c0 I) (h0:0≤t) (h3:t<3):
  Calls prog 15 #[aR bk,ag t] w fun e w'=>∃v',e=.returned (.tuple #[ag 0,qQ v' FI e01 FK])∧Ah w w' v' I∧aJ w w':=by have bP:=trivial;exact xY
theorem YK (h:uY w bk bv cap c0 c1 FI e01 FK e10 e11 e12) (hI:I.length≤1000) (hc:xw w c1 I) (h0:0≤t) (h3:¬t<3):
  Calls prog 15 #[aR bk,ag t] w fun e w'=>∃v',e=.returned (.tuple #[ag 1,qQ v' e10 e11 e12])∧Ah w w' v' I∧aJ w w':=by have gu:=trivial;exact xY
end Bo
namespace Ga
open Go.RowKit aN fO Qt Ro Bk Ce La Ha In Vm Mc
structure Tp where
 W0:World
 S:Stp
 bs:Value
 rm:Value
 dr:Value
 bk:Value
 bG:Nat
 b1:Nat
 b2:Nat
 bE:Nat
 bN:Nat
 bX:Nat
 z:Nat
 I:List (Int×Int)
 R:List (Int×Int×Int)
 inp:Value
 e0:Int
 e1:Int
 e2:Int
 w0:World
 F0:Fp
structure Tp.Ok (T:Tp):Prop where
 a:T.W0.heap.size≤T.w0.heap.size
 E:T.w0.heap.size≤T.bE
 N:T.w0.heap.size≤T.bN
 z:T.w0.heap.size≤T.z
structure Rd (T:Tp) (c:List Int) (k:Nat) (F:Fp) (W:World):Prop where
 hm:aD W F c
 M:F.M=T.F0.M
 dj:Dj T.bE T.bN T.bX F W
 hs:Sub T.W0 W F
 s0:Sf T.bE T.bN F W 0
 k0:aV W 0 jH
 sG:Sf T.bE T.bN F W T.bG
 kG:aV W T.bG (Og T.S T.bs T.rm T.dr T.bk T.F0.M)
 s1:Sf T.bE T.bN F W T.b1
 k1:aV W T.b1 [aR T.bG]
 s2:Sf T.bE T.bN F W T.b2
 k2:aV W T.b2 [T.inp]
 hin:∃b cap,T.inp=aZ b T.R.length cap∧∀i x,T.R[i]?=some x→Sf T.bE T.bN F W b∧W.cell? ⟨b,i*3,none⟩=some (ag x.1)∧W.cell? ⟨b,i*3+1,none⟩=some (ag x.2.1)∧W.cell? ⟨b,i*3+2,none⟩=some (ag x.2.2)
 al:Alt [] T.w0 T.F0 W F (40*k)
structure Pd (T:Tp) (b5:Nat) (code:Value) (F:Fp) (W:World):Prop where
 s5:Sf T.bE T.bN F W b5
 k5:aV W b5 [code,ag T.e0,ag T.e1,ag T.e2]
 hc:∃ac bY,code=.slice ac T.I.length bY∧∀i,i<T.I.length→∃b,ac=some ⟨b,0,none⟩∧Sf T.bE T.bN F W b∧W.cell? ⟨b,i*2,none⟩=some (ag (T.I.getD i (0,0)).1)∧W.cell? ⟨b,i*2+1,none⟩=some (ag (T.I.getD i (0,0)).2)
section
variable {T:Tp} {c c':List Int} {k b5:Nat} {F F':Fp} {A B:World} {code:Value} {pre:List Ef}
theorem aae:∃x L,jH=x::L:=⟨_,_,rfl⟩
theorem aaf (S:Stp) (bs rm dr bk:Value) (M:Nat):∃x L,Og S bs rm dr bk M=x::L:=⟨_,_,rfl⟩
theorem Kt.GL {z bE bN b:Nat} {L:List Value} (k:Kt z bE bN A B) (h:Sf bE bN F A b) (hb:aV A b L) (hL:∃x l,L=x::l):aV B b L:=by obtain⟨x,l,rfl⟩:=hL;exact k.blk h hb
theorem AB {b:Nat} {L:List Value} {bE bN:Nat} (a:Alt [] A F B F' k) (h:Sf bE bN F A b) (hb:aV A b L):aV B b L:=hb.keep a.size (a.block b h.lt h.no av)
theorem Pd.below (h:Pd T b5 code F A) (hb:aJ A B) (hE:T.bE<A.heap.size):Pd T b5 code F B:=by obtain⟨ac,bY,e,hc⟩:=h.hc;refine⟨zF hb hE h.s5,h.k5.later hb,ac,bY,e,fun i hi=>?_⟩;obtain⟨b,e,s,c0,c1⟩:=hc i hi;exact⟨b,e,zF hb hE s,ai hb c0,ai hb c1⟩
theorem Pd.kt (h:Pd T b5 code F A) (q:Kt T.z T.bE T.bN A B):Pd T b5 code F B:=by obtain⟨ac,bY,e,hc⟩:=h.hc;refine⟨q.sf h.s5,q.blk h.s5 h.k5,ac,bY,e,fun i hi=>?_⟩;obtain⟨b,e,s,c0,c1⟩:=hc i hi;exact⟨b,e,q.sf s,q.cell s c0,q.cell s c1⟩
theorem Pd.step (h:Pd T b5 code F A) (d:Dj T.bE T.bN T.bX F A) {n:Nat} (a:Alt [] A F B F' n):Pd T b5 code F' B:=by obtain⟨ac,bY,e,hc⟩:=h.hc;refine⟨zD a d h.s5,AB a h.s5 h.k5,ac,bY,e,fun i hi=>?_⟩;obtain⟨b,e,s,c0,c1⟩:=hc i hi;exact⟨b,e,zD a d s,a.cell s.no av c0,a.cell s.no av c1⟩
theorem Rd.below (h:Rd T c k F A) (hb:aJ A B):Rd T c k F B:=by
 have hE:=h.dj.lE;obtain⟨b,cap,e,hi⟩:=h.hin;exact⟨h.hm.below hb,h.M,ag9 hb h.dj,h.hs.below hb,zF hb hE h.s0,h.k0.later hb,zF hb hE h.sG,h.kG.later hb,zF hb hE h.s1,h.k1.later hb,zF hb hE h.s2,h.k2.later hb,
  ⟨b,cap,e,fun i x hx=>⟨zF hb hE (hi i x hx).1,ai hb (hi i x hx).2.1,ai hb (hi i x hx).2.2.1,ai hb (hi i x hx).2.2.2⟩⟩,h.al.below hb⟩
theorem Rd.kt (ok:T.Ok) (h:Rd T c k F A) (q:Kt T.z T.bE T.bN A B) (ho:∀v,A.cell? ⟨T.bE,0,none⟩=some v→∀b,v.ownBlock=some b→T.z≤b∧b<A.heap.size):Rd T c k F B:=by
 obtain⟨hm,dj⟩:=q.mem h.dj h.hm;obtain⟨b,cap,e,hi⟩:=h.hin;have hE:=ok.E;have hN:=ok.N;have hz:=ok.z;have ha:=ok.a;have hk:∀y,y<T.w0.heap.size→y<A.heap.size→B.heap[y]?=A.heap[y]?:=fun y hy hA=>q.block y hA ae ae (fun v hv e2=>by have:=(ho v hv y e2).1;omega) (.inl ae);refine⟨hm,h.M,dj,⟨⟨q.os.trans h.hs.jQ.os,q.tape.trans h.hs.jQ.tape,q.output.trans h.hs.jQ.output,aS h.hs.jQ.size q.size,fun y hy=>(hk y ae (bH hy h.hs.jQ.size)).trans (h.hs.jQ.block y hy)⟩,h.hs.new⟩,q.sf h.s0,q.GL h.s0 h.k0 aae,q.sf h.sG,q.GL h.sG h.kG (aaf _ _ _ _ _ _),q.sf h.s1,q.blk h.s1 h.k1,q.sf h.s2,q.blk h.s2 h.k2,
  ⟨b,cap,e,fun i x hx=>⟨q.sf (hi i x hx).1,q.cell (hi i x hx).1 (hi i x hx).2.1,q.cell (hi i x hx).1 (hi i x hx).2.2.1,q.cell (hi i x hx).1 (hi i x hx).2.2.2⟩⟩,?_⟩
 have a:=h.al;exact⟨q.os.trans a.os,q.tape.trans a.tape,q.output.trans a.output,aS a.size q.size,fun y hy hF hn=>(hk y hy (bH hy a.size)).trans (a.block y hy hF hn),a.M,a.C,a.L,a.n⟩
theorem Rd.step (h:Rd T c k F A) (ho:∀v,A.cell? ⟨T.bE,0,none⟩=some v→∀b,v.ownBlock=some b→b<A.heap.size) (hm:aD B F' c') (a:Alt [] A F B F' 40):Rd T c' (k+1) F' B:=by
 obtain⟨b,cap,e,hi⟩:=h.hin;have d:=h.dj;exact⟨hm,a.M.trans h.M,ag8 a d ho,h.hs.step a,zD a d h.s0,AB a h.s0 h.k0,zD a d h.sG,AB a h.sG h.kG,zD a d h.s1,AB a h.s1 h.k1,zD a d h.s2,AB a h.s2 h.k2,
  ⟨b,cap,e,fun i x hx=>⟨zD a d (hi i x hx).1,a.cell (hi i x hx).1.no av (hi i x hx).2.1,a.cell (hi i x hx).1.no av (hi i x hx).2.2.1,a.cell (hi i x hx).1.no av (hi i x hx).2.2.2⟩⟩,(h.al.trans a).mono ae⟩
end
end Ga
namespace Tk
open aN Ce La In Vm Mc
variable {c:List Int} {t:Nat}
structure Rs where
 c:List Int
 en:Bool
 x:Int
 y:Int
 z:Int
 r:Int
 q:Bool
structure Jd where
 S:Stp
 I:List (Int×Int)
 R:List (Int×Int×Int)
 e0:Int
 e1:Int
 e2:Int
 cK:Int
structure Jd.Ok (p:Jd):Prop where
 hS:mf p.S
 hI:p.I.length≤1000
 hR:p.R.length=p.S.ak
 hv:∀x∈p.R,-1≤x.1∧x.1≤1∧-1≤x.2.1∧x.2.1≤1∧0≤x.2.2∧x.2.2≤3
def agE (p:Jd) (c:List Int) (r:Rs):Prop:=oF p.S c r.c r.en∧Trans p.S p.I p.R p.e0 p.e1 p.e2 p.cK c r.c r.en r.x r.y r.z r.r r.q
open Classical in
noncomputable def nx (p:Jd) (c:List Int):Rs:=if h:∃r,agE p c r then h.choose else⟨[],false,0,0,0,0,false⟩
theorem Ul {p:Jd} (hp:p.Ok) (hI:Inv p.S c) (ht:0≤cg c 0∧cg c 0≤1000000):agE p c (nx p c):=by
 have h:∃r,agE p c r:=by obtain⟨en,x,y,z,r,q,c',h1,h2⟩:=Zr hp.hS (I:=p.I) (by have:=hp.hI;omega) hp.hR (fun x hx=>by have:=hp.hv x hx;omega) p.e0 p.e1 p.e2 p.cK c hI ht;exact⟨⟨c',en,x,y,z,r,q⟩,h1,h2⟩
 unfold nx;rw[dif_pos h];exact h.choose_spec
noncomputable def its (p:Jd) (c:List Int):Nat→List Int
 |0=>c
 |k+1=>(nx p (its p c k)).c
theorem Av (p:Jd) (c:List Int) (k:Nat):its p (nx p c).c k=its p c (k+1):=by
 induction k with
 |zero=>rfl
 |succ k ih=>show(nx p (its p (nx p c).c k)).c=(nx p (its p c (k+1))).c;rw[ih]
structure Len (p:Jd) (c:List Int) (n:Nat):Prop where
 pos:1≤n
 mid:∀k,k<n→Inv p.S (its p c k)∧cg (its p c k) 0=cg c 0
 no:∀k,k+1<n→(nx p (its p c k)).en=false
 yes:(nx p (its p c (n-1))).en=true
 fin:Fin p.S (its p c n)∧cg (its p c n) 0=cg c 0+1
theorem agF {p:Jd} (hp:p.Ok) (m:Nat):∀c:List Int,Inv p.S c→(0≤cg c 0∧cg c 0≤1000000)→mu c≤m→∃n,Len p c n∧n≤m+1:=by
 induction m with
 |zero=>
  intro c hI ht hm;have hn:=Ul hp hI ht;cases he:(nx p c).en with
  |true=>have hf:=hn.1.fin he;refine⟨1,⟨aH _,fun k hk=>?_,fun k hk=>absurd hk ae,he,hf⟩,aH _⟩;obtain rfl:k=0:=ae;exact⟨hI,rfl⟩
  |false=>obtain⟨hI',hmu,_⟩:=hn.1.go he;have:=(adI hp.hS hI').1;omega
 |succ m ih=>
  intro c hI ht hm;have hn:=Ul hp hI ht;cases he:(nx p c).en with
  |true=>have hf:=hn.1.fin he;refine⟨1,⟨aH _,fun k hk=>?_,fun k hk=>absurd hk ae,he,hf⟩,ae⟩;obtain rfl:k=0:=ae;exact⟨hI,rfl⟩
  |false=>
   obtain⟨hI',hmu,h0⟩:=hn.1.go he;obtain⟨n,hl,hle⟩:=ih (nx p c).c hI' (by rw[h0];exact ht) ae;refine⟨n+1,⟨ae,fun k hk=>?_,fun k hk=>?_,?_,?_⟩,ae⟩
   ·cases k with
    |zero=>exact⟨hI,rfl⟩
    |succ k=>rw[←Av];have:=hl.mid k ae;exact⟨this.1,by rw[this.2,h0]⟩
   ·cases k with
    |zero=>exact he
    |succ k=>rw[←Av];exact hl.no k ae
   ·have h1:=hl.pos;obtain⟨j,rfl⟩:∃j,n=j+1:=⟨n-1,ae⟩
    have:=hl.yes;simp only[Nat.add_sub_cancel]at this⊢;rw[←Av];exact this
   ·rw[←Av];exact⟨hl.fin.1,by rw[hl.fin.2,h0]⟩
open Classical in
noncomputable def tl (p:Jd) (c:List Int):Nat:=if h:∃n,Len p c n∧n≤900001 then h.choose else 0
theorem aez {p:Jd} (hp:p.Ok) (hF:Fin p.S c) (ht:0≤cg c 0∧cg c 0≤1000000):Len p c (tl p c)∧tl p c≤900001:=by have hI:=hF.inv hp.hS;have hm:=adI hp.hS hI;have h:∃n,Len p c n∧n≤900001:=agF hp 900000 c hI ht ae;unfold tl;rw[dif_pos h];exact h.choose_spec
noncomputable def tk (p:Jd) (c:List Int):List Int:=its p c (tl p c)
structure Mt where
 S:Stp
 I0:List (Int×Int)
 a0:Int
 a1:Int
 a2:Int
 I1:List (Int×Int)
 b0:Int
 b1:Int
 b2:Int
 rows:List (List (Int×Int×Int))
def Mt.par (M:Mt) (t:Nat):Jd:=if t<3 then⟨M.S,M.I0,M.rows.getD t [],M.a0,M.a1,M.a2,0⟩else⟨M.S,M.I1,M.rows.getD t [],M.b0,M.b1,M.b2,1⟩
theorem Mt.vC (M:Mt) (t:Nat):(M.par t).S=M.S:=by unfold Mt.par;split<;>rfl
theorem Mt.TT (M:Mt) (t:Nat):(M.par t).R=M.rows.getD t []:=by unfold Mt.par;split<;>rfl
structure Mt.Ok (M:Mt):Prop where
 hS:mf M.S
 h0:M.I0.length≤1000
 h1:M.I1.length≤1000
 hr:∀R∈M.rows,R.length=M.S.ak∧∀x∈R,-1≤x.1∧x.1≤1∧-1≤x.2.1∧x.2.1≤1∧0≤x.2.2∧x.2.2≤3
 hn:M.rows.length≤20
theorem Mt.vU {M:Mt} (h:M.Ok) (ht:t<M.rows.length):(M.par t).Ok:=by
 have hm:M.rows.getD t []∈M.rows:=by rw[List.getD_eq_getElem?_getD,List.getElem?_eq_getElem ht];exact List.getElem_mem ht
 have:=h.hr _ hm;refine⟨by rw[M.vC];exact h.hS,?_,by rw[M.vC,M.TT];exact this.1,by rw[M.TT];exact this.2⟩;unfold Mt.par;split
 ·exact h.h0
 ·exact h.h1
noncomputable def Mt.st (M:Mt):Nat→List Int
 |0=>qD M.S
 |t+1=>tk (M.par t) (M.st t)
noncomputable def Mt.ln (M:Mt) (t:Nat):Nat:=tl (M.par t) (M.st t)
theorem Mt.zM {M:Mt} (h:M.Ok) (hi:Fin M.S (qD M.S)∧cg (qD M.S) 0=0) (t:Nat) (ht:t≤M.rows.length):Fin M.S (M.st t)∧cg (M.st t) 0=t:=by
 induction t with
 |zero=>exact hi
 |succ t ih=>have hk:=ih ae;have hn:=h.hn;have hl:=(aez (Mt.vU h (t:=t) ae) (c:=M.st t) (by rw[M.vC];exact hk.1) (by rw[hk.2];omega)).1.fin;rw[M.vC]at hl;exact⟨hl.1,by show cg (its _ _ _) 0=_;rw[hl.2,hk.2];simp⟩
theorem Mt.FD {M:Mt} (h:M.Ok) (hi:Fin M.S (qD M.S)∧cg (qD M.S) 0=0) (ht:t<M.rows.length):Len (M.par t) (M.st t) (M.ln t)∧M.ln t≤900001:=by have hk:=Mt.zM h hi t ae;have hn:=h.hn;exact aez (Mt.vU h ht) (by rw[M.vC];exact hk.1) (by rw[hk.2];omega)
end Tk
namespace Ga
open Go.RowKit aN fO Qt Ro Bk Ce La Ha In Vm Mc Bo
attribute [local go_sem] Oper.semAt_some
open Pa (least GV least_le)
theorem WR (T:Tp) (ok:T.Ok) (n l N nn Qh:Nat) (ck:Nat→List Int) (cK:Int) (hnn:1≤nn) (hN:nn≤N) (J:List Ef→World→Prop) (hJI:∀s W,J s W→It T.z T.bE T.bN T.bX s W) (Yo:∀s W W',J s W→It T.z T.bE T.bN T.bX s W'→KeepsFrom T.z W W'→J s W')
  (hY:∀pre x W,J pre W→pre.length<N→YieldAt Fence.wide (n-1) prog l #[.agg #[ag x.1,ag x.2.1,ag x.2.2.1,ag x.2.2.2.1,.bool x.2.2.2.2]] W fun e W'=>e=.returned (.bool true)∧J (pre++[x]) W'∧Kt T.z T.bE T.bN W W')
  (W:World) (h0:J [] W) (F:Fp) (hR:Rd T (ck 0) 0 F W) (hbk:T.bk=aR Qh)
  (hat:∀V,aJ W V→Calls prog 15 #[aR Qh,ag (cg (ck 0) 0)] V fun e w'=>∃v',e=.returned (.tuple #[ag cK,qQ v' T.e0 T.e1 T.e2])∧Ah V w' v' T.I∧aJ V w')
  (htr:∀k,k<nn→∃x y z r q,∀V F b5 code,Rd T (ck k) k F V→Pd T b5 code F V→Calls prog 16 #[iW F.M,dR T.S T.bs T.rm T.dr,qQ code T.e0 T.e1 T.e2,ag cK,T.inp] V fun e w'=>e=.returned (.tuple #[.bool (decide (k+1=nn)),jB x y z r,.bool q])∧∃F',aD w' F' (ck (k+1))∧Alt [] V F w' F' 40):
  Calls prog 74 #[.func (.yield l) #[] #[],aR T.b1,aR T.b2] W fun e W'=>(∃v,e=.returned v)∧∃xs,(xs.length=nn∧It T.z T.bE T.bN T.bX xs W'∧∃F',Rd T (ck nn) nn F' W')∧J xs W':=by
 obtain⟨M,C,L,m⟩:=F;have hMM:M=T.F0.M:=hR.M;have yY:=ah fun(V:World) (hV:aJ W V)=>Ke (hR.hm.below hV) (by have:=hR.kG.later hV;rw[←hMM]at this;exact this);have q1:=hR.k1.cell 0;have q2:W.cell? ⟨T.bG,16,none⟩=some (aR Qh):=by rw[hR.kG.cell 16,←hbk];rfl
 have l1:=hR.s1.lt;have lG:=hR.sG.lt;have st:∀V,aJ W V→V.cell? ⟨T.b1,0,none⟩=some (aR T.bG)∧V.cell? ⟨T.bG,16,none⟩=some (aR Qh):=fun V hV=>⟨ai hV q1,ai hV q2⟩
 have HR:=ah hR;have H0:=ah h0;have hown:=(hJI _ _ h0).Eh;have HO:=ah hown;clear hR h0 q1 q2 hown;have Sd:=ah hat;have IC:=ah htr;have tC:=ah st;clear hat htr st;refine az ?_;intro hal bu;go_enter func74,ntmps74;go_upto_region 0 with(fail);go_cut [4,5] (fun s4 s5 wx=>s4=ag cK∧(∃b5 v',s5=aR b5∧aV wx b5 [v',ag T.e0,ag T.e1,ag T.e2]∧W.heap.size≤b5∧Ah W wx v' T.I)∧aJ W wx);case first=>
  go_region_held3 (fun V=>V.cell? ⟨T.b1,0,none⟩=some (aR T.bG)∧V.cell? ⟨T.bG,16,none⟩=some (aR Qh)) (exact tC.out _ aG) (first|((with_reducible refine(yY.out _ aG).mono ?_);rintro e w2 ⟨rfl,rfl⟩)|((with_reducible refine(Sd.out _ aG).mono ?_);rintro e w3 ⟨v',rfl,⟨ac,bY,rfl,hcc⟩,gK⟩;obtain⟨N3,vD,jK,vF,sJ⟩:=eB gK;(try simp only[bf]at vD)));all_goals
   have cZ:=au
   have hz3:=gK.size
   go_wp2
   go_meet
   refine⟨rfl,⟨_,_,rfl,?_,?_,⟨ac,bY,rfl,fun i hi=>?_⟩⟩,?_⟩
   ·first
     |(with_reducible exact aV.new _ _ _ _ rfl)
     |(have kx:aV w3 W.heap.size [.slice none 0 0,ag 0,ag 0,ag 0]:=by first|exact aV.later (aV.new W [.slice none 0 0,ag 0,ag 0,ag 0] _ _ rfl).drew gK|exact aV.later (aV.new W.drew [.slice none 0 0,ag 0,ag 0,ag 0] _ _ rfl) gK
       exact(((kx.put 0 _).put 1 _).put 2 _).put 3 _)
   ·first|exact aH _|(simp at hz3;omega)
   ·obtain⟨b,e,h1,h2,h3⟩:=hcc i hi
    have h4:W.heap.size≤b:=by(try simp at h1);omega
    first
     |(with_reducible exact⟨b,e,h4,ai ((aK _ _).alloc (aH _) _) h2,ai ((aK _ _).alloc (aH _) _) h3⟩)
     |(have h5:b≠W.heap.size:=by(try simp at h1);omega
       exact⟨b,e,h4,by simp[au,h5,h2],by simp[au,h5,h3]⟩)
   ·exact aG
 obtain⟨rfl,⟨b5,code,rfl,k5,h5,hcn⟩,hbc⟩:=hcut;have hRc:Rd T (ck 0) 0 ⟨M,C,L,m⟩ wc:=HR.out.below hbc;have hown:∀v,W.cell? ⟨T.bE,0,none⟩=some v→∀b,v.ownBlock=some b→b<W.heap.size:=fun v hv b e=>(HO.out v hv b e).2;have hPc:Pd T b5 code ⟨M,C,L,m⟩ wc:=by obtain⟨ac,bY,e,hc⟩:=hcn;refine⟨aab HR.out.hm HR.out.dj hown hbc h5 k5.lt,k5,ac,bY,e,fun i hi=>?_⟩;obtain⟨b,e2,h1,h2,h3⟩:=hc i hi;exact⟨b,e2,aab HR.out.hm HR.out.dj hown hbc h1 (aU _ _ h2),h2,h3⟩
 have hJc:J [] wc:=Yo _ _ _ H0.out ((hJI _ _ H0.out).below hbc) (J9 hbc);obtain⟨R,hRR⟩:∃R:Nat→World→Prop,R=fun f wr=>∃k pre F,k+f=nn∧1≤f∧pre.length=k∧J pre wr∧Rd T (ck k) k F wr∧Pd T b5 code F wr:=⟨_,rfl⟩
 have h0R:R nn wc:=by rw[hRR];exact⟨0,[],_,ae,hnn,rfl,hJc,hRc,hPc⟩
 have HRR:=ah hRR;clear hRR hRc hPc hJc hown k5 hcn h5 hbc HO H0 HR yY Sd tC l1 lG;go_wp2;go_loopw [] (fun wr=>∃f,R f wr) (fun wr=>least fun f=>R f wr);case atStart=>exact⟨nn,h0R⟩
 case round=>
  clear h0R;obtain⟨f,hf,hle⟩:∃f,R f _∧f≤least fun f=>R f _:=⟨_,GV hrel,aH _⟩
  clear hrel;have Hle:=ah hle;rw[HRR.out]at hf;obtain⟨k,pre,F,hkf,eu,hpl,hJ,WT,hPd⟩:=hf;clear hle;obtain⟨x,y,z,r,q,ht⟩:=IC.out k ae;have Jm:∀V:World,aJ wr V→Calls prog 16 #[iW T.F0.M,dR T.S T.bs T.rm T.dr,qQ code T.e0 T.e1 T.e2,ag cK,T.inp] V fun e w'=>e=.returned (.tuple #[.bool (decide (k+1=nn)),jB x y z r,.bool q])∧∃F',aD w' F' (ck (k+1))∧Alt [] V F w' F' 40:=fun V hV=>by rw[←WT.M];exact ht V F b5 code (WT.below hV) (hPd.below hV WT.dj.lE)
  obtain⟨ac,bY,hcode,-⟩:=hPd.hc;subst hcode;obtain⟨ib,iD,tu,-⟩:=WT.hin;have hI:=hJI _ _ hJ;have c1:=WT.k1.cell;have c2:=WT.k2.cell;have c5:=hPd.k5.cell;have cG:=WT.kG.cell;unfold Og at cG;rw[tu]at c2 Jm;have l1:=WT.s1.lt;have l2:=WT.s2.lt;have l5:=hPd.s5.lt;have lG:=WT.sG.lt;have hd:=WT.dj;have hown:∀v,wr.cell? ⟨T.bE,0,none⟩=some v→∀b,v.ownBlock=some b→b<wr.heap.size:=fun v hv b e=>(hI.Eh v hv b e).2;have HRd:=ah WT;have HPd:=ah hPd;have HJ:=ah hJ;have HI:=ah hI;have Hd:=ah hd;have jO:=ah hown;clear WT hPd hJ hI hd hown ht tu;unfold dR qQ at Jm;obtain⟨en,hen⟩:∃en,en=decide (k+1=nn):=⟨_,rfl⟩
  rw[←hen]at Jm;have Hen:=ah hen;clear hen;have FQ:=ah Jm;clear Jm;go_upto_region 1 with(fail);refine vK [0,1,2,3,4,5,6,7,8,9,10,11] [] 12 17 [13,14,15,16,18,19,20] [13,14,15,16,17,18,19,20] #[ag 0,ag 0,ag 0,ag 0] 66 aL aL (fun o ho ev w=>by have ho':=bD ho;rw[←ho'];exact rfl) fun NL hL=>?_;obtain⟨dU,dV,hlf⟩:=hL;simp only[jA];repeat(go_big_quiet_step (fail))
  refine wpQuiet_nil ?_;repeat(go_big_quiet_step (fail))
  refine wpQuiet_nil ?_;clear dV hlf dU NL c1 c2 c5 cG;refine⟨?_,?_⟩
  ·have nP:aJ wr wr.drew:=(aK _ wr).drew;go_wp2_with (first|((with_reducible refine(FQ.out _ nP).mono ?_);rintro e w1 ⟨rfl,F1,gp,dG⟩));refine Qt.fq ?_;go_upto_region 2 with(fail);refine aP fun W2 mi=>?_;have dW:aJ w1 W2:=iK;have k7:aV W2 w1.heap.size [ag x,ag y,ag z,ag r]:=oJ;have tF:=gp.below dW;have a2:Alt [] wr F W2 F1 40:=(Alt.after nP dG).below dW;clear mi gp dG dW;exact Ei
  ·have kY:aJ wr (wr.alloc (.cells #[ag 0,ag 0,ag 0,ag 0] 66)).drew:=((aK _ wr).alloc (aH _) _).drew;have kz:aV ((wr.alloc (.cells #[ag 0,ag 0,ag 0,ag 0] 66)).drew) wr.heap.size [ag 0,ag 0,ag 0,ag 0]:=(aV.new wr _ _ _ rfl).drew;have nF:¬F.has wr.heap.size:=fun h=>absurd (HRd.out.hm.lt h) (Nat.lt_irrefl _);go_wp2_with (first|((with_reducible refine(FQ.out _ kY).mono ?_);rintro e w1 ⟨rfl,F1,gp,dG⟩;have k1:aV w1 wr.heap.size [ag 0,ag 0,ag 0,ag 0]:=kz.keep dG.size (dG.block _ kz.lt nF av);have ck1:=k1.cell;have Xk:=k1.free;have lk1:=k1.lt));refine Qt.fq ?_;have nF1:¬F1.has wr.heap.size:=fun h=>nF (dG.has kz.lt h);go_upto_region 2 with(fail);refine aP fun W2 mi=>?_;have k7:aV W2 wr.heap.size [ag x,ag y,ag z,ag r]:=by rw[mi];exact(((k1.put 0 _).put 1 _).put 2 _).put 3 _
   have tF:aD W2 F1 (ck (k+1)):=by rw[mi];exact(((gp.set (p:=⟨wr.heap.size,0,none⟩) nF1 _).set (p:=⟨wr.heap.size,1,none⟩) nF1 _).set (p:=⟨wr.heap.size,2,none⟩) nF1 _).set (p:=⟨wr.heap.size,3,none⟩) nF1 _
   have a2:Alt [] wr F W2 F1 40:=by rw[mi];exact((((Alt.after kY dG).set (p:=⟨wr.heap.size,0,none⟩) (.inr (aH _)) _).set (p:=⟨wr.heap.size,1,none⟩) (.inr (aH _)) _).set (p:=⟨wr.heap.size,2,none⟩) (.inr (aH _)) _).set (p:=⟨wr.heap.size,3,none⟩) (.inr (aH _)) _
   clear mi gp dG kz k1 ck1 Xk lk1;exact Ei
variable {v:Value} {xs:List Value} {z bE bN bX:Nat} {pre:List Ef} {W:World}
theorem rW {w:World} {b:Nat} {e:TypeId} {size n:Nat} (h:w.ownsRow 0 e size v n xs) (hb:∀g,v.ownBlock=some g→b≤g):w.ownsRow b e size v n xs:=by exact xh
theorem aaa (h:It z bE bN bX pre W) (hE:bE≠bN) (hX:bX≠bN) (hz:bN<z) (x:Ef):
  It z bE bN bX (pre++[x]) (W.setCell ⟨bN,0,none⟩ (ag ((pre.length:Int)+1)))∧Kt z bE bN W (W.setCell ⟨bN,0,none⟩ (ag ((pre.length:Int)+1)))∧KeepsFrom z W (W.setCell ⟨bN,0,none⟩ (ag ((pre.length:Int)+1))):=by
 obtain⟨v,xs,m,k,o,hm⟩:=h.e;have hb:∀q,q≠bN→(W.setCell ⟨bN,0,none⟩ (ag ((pre.length:Int)+1))).heap[q]?=W.heap[q]?:=fun q hq=>dI _ _ _ _ hq;refine⟨⟨⟨v,xs,m,k.other (by show bN≠bE;omega) _,dC o fun g e=>hb g (by have:=(o.lt g e).1;omega),by have:=hm.1;simp;omega,hm.2⟩,?_,h.x.other (by show bN≠bX;omega) _,by simpa using h.z⟩,⟨rfl,rfl,rfl,av,fun q _ _ hq _ _=>hb q hq,fun v' hv' q e=>.inl ⟨v',?_,e⟩⟩,⟨av,fun q ob hq ho _=>(hb q ae).trans ho⟩⟩
 ·have:=h.n.put 0 (ag ((pre.length:Int)+1));simpa using this
 ·rw[←hv'];exact(bg (a:=⟨bE,0,none⟩) (hb bE hE)).symm
theorem adt {w5:World} {v5:Value} {m:Nat} {x:Ef} {t:TypeId} (h:It z bE bN bX pre W) (k:aV W bE [v]) (o:W.ownsRow z 66 4 v m xs) (hm:m+1≤pre.length) (hu:∀u∈xs,u.oneCell'=true) (hEz:bE<z) (hNz:bN<z) (hXz:bX<z) (hEN:bE≠bN) (hEX:bE≠bX)
  (iE:w5.ownsRow 0 66 4 v5 (m+1) (xs++efL x)) (lJ:(W.alloc (.cells (efL x).toArray t)).grownBy w5 v.ownBlock) (zK:v5.ownBlock=v.ownBlock∨∃g,v5.ownBlock=some g∧(W.alloc (.cells (efL x).toArray t)).heap.size≤g):
  It z bE bN bX pre (w5.setCell ⟨bE,0,none⟩ v5)∧Kt z bE bN W (w5.setCell ⟨bE,0,none⟩ v5)∧KeepsFrom z W (w5.setCell ⟨bE,0,none⟩ v5):=by
 have szA:(W.alloc (.cells (efL x).toArray t)).heap.size=W.heap.size+1:=av;have hz:=h.z;have hblk:∀q,q<W.heap.size→(∀g,v.ownBlock=some g→q≠g)→w5.heap[q]?=W.heap[q]?:=fun q hq hn=>(lJ.block q (by rw[szA];omega) (fun e=>hn q e.symm rfl)).trans (gV W _ q hq);have hlo:∀g,v.ownBlock=some g→z≤g∧g<W.heap.size:=fun g e=>o.lt g e;have hsz:W.heap.size+1≤w5.heap.size:=by have:=lJ.size;omega
 have amn:∀g,v5.ownBlock=some g→z≤g:=fun g e=>by
  rcases zK with h1|⟨g',h1,h2⟩
  ·exact(hlo g (h1.symm.trans e)).1
  ·rw[h1]at e;have e2:g'=g:=bD e;omega
 have kb:∀b,b<z→w5.heap[b]?=W.heap[b]?:=fun b hb=>hblk b ae (fun g e=>by have:=(hlo g e).1;omega);have kE5:aV w5 bE [v]:=k.keep ae (kb bE hEz);have hs:∀q,q≠bE→(w5.setCell ⟨bE,0,none⟩ v5).heap[q]?=w5.heap[q]?:=fun q hq=>dI _ _ _ _ hq;have hcl:∀g,v.ownBlock=some g→∃ob:Obj,W.heap[g]?=some ob∧ob.isCells=true:=fun g e=>by
  rcases o.2 with⟨e1,_⟩|⟨g',cp,cur,e1,_,e3,_⟩
  ·rw[e1]at e;cases e
  ·rw[e1]at e;have e2:g'=g:=bD e;subst e2;exact⟨_,e3,rfl⟩
 refine⟨⟨⟨v5,xs++efL x,m+1,kE5.put 0 v5,dC (rW iE amn) fun g e=>hs g (by have:=amn g e;omega),hm,fun q hq=>by exact(h_.1 hq).elim (hu q) (fun h1=>by simp only[efL,List.mem_cons,List.not_mem_nil,or_false]at h1;rcases h1 with rfl|rfl|rfl|rfl<;>rfl)⟩,(h.n.keep ae (kb bN hNz)).other (by show bE≠bN;exact hEN) _,(h.x.keep ae (kb bX hXz)).other (by show bE≠bX;exact hEX) _,bU⟩,⟨lJ.os,lJ.tape,lJ.output,bU,fun q hq h1 _ hv _=>(hs q h1).trans (hblk q hq fun g e e2=>hv v (k.cell 0) (by rw[e2];exact e)),fun v' hv' q e=>?_⟩,⟨bU,fun q ob hq ho hc=>(hs q ae).trans ((hblk q (Array.getElem?_eq_some_iff.1 ho).1 fun g e e2=>?_).trans ho)⟩⟩
 ·rw[(kE5.put 0 v5).cell 0]at hv';have e2:v5=v':=bD hv';subst e2;rcases zK with h1|⟨g',h1,h2⟩
  ·exact .inl ⟨v,k.cell 0,h1.symm.trans e⟩
  ·rw[h1]at e;have e2:g'=q:=bD e;exact .inr ae
 ·obtain⟨ob2,h1,h2⟩:=hcl g e;rw[←e2,ho]at h1;have e3:ob=ob2:=bD h1;subst e3;rw[hc]at h2;cases h2
end Ga
namespace Tk
open Go.RowKit aN fO Qt Ro Bk Ce La In Vm Mc Bo
variable {w:World} {bk:Nat} {M:Mt}
def yJ (w:World) (bk:Nat) (M:Mt):Prop:=∃bv cap c0 c1,uY w bk bv cap c0 c1 M.a0 M.a1 M.a2 M.b0 M.b1 M.b2∧xw w c0 M.I0∧xw w c1 M.I1
theorem yJ.later {w':World} (h:yJ w bk M) (hb:aJ w w'):yJ w' bk M:=by obtain⟨bv,cap,c0,c1,h1,h2,h3⟩:=h;exact⟨bv,cap,c0,c1,h1.later hb,h2.later hb,h3.later hb⟩
theorem FE (h:yJ w bk M) (h0:M.I0.length≤1000) (h1:M.I1.length≤1000) (t:Nat):
  Calls prog 15 #[aR bk,ag t] w fun e w'=>∃v',e=.returned (.tuple #[ag (M.par t).cK,qQ v' (M.par t).e0 (M.par t).e1 (M.par t).e2])∧Ah w w' v' (M.par t).I∧aJ w w':=by
 obtain⟨bv,cap,c0,c1,hb,Qo,bW⟩:=h;by_cases ht:t<3
 ·have e:M.par t=⟨M.S,M.I0,M.rows.getD t [],M.a0,M.a1,M.a2,0⟩:=by unfold Mt.par;rw[if_pos ht]
  rw[e];exact YJ hb h0 Qo ae ae
 ·have e:M.par t=⟨M.S,M.I1,M.rows.getD t [],M.b0,M.b1,M.b2,1⟩:=by unfold Mt.par;rw[if_neg ht]
  rw[e];exact YK hb h1 bW ae ae
end Tk
end Go.Proofs.YtohpdonnpbjfdaaGreatDoor
