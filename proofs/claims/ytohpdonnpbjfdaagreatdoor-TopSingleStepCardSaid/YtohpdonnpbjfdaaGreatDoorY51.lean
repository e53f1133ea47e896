/- What is shown: package patch, package dispute, package replay, plain laws. Conditions: as each theorem states. -/
import Derived.Test.YtohpdonnpbjfdaaGreatDoorY38
import Derived.Test.YtohpdonnpbjfdaaGreatDoorY50
set_option maxHeartbeats 40000000
set_option maxRecDepth 100000
set_option linter.unusedVariables false
set_option linter.unusedSimpArgs false
open Go.Proofs.Tryz
namespace Go.Proofs.YtohpdonnpbjfdaaGreatDoor
theorem DR {P Q:Prop} (q:Q) (h:Q→P:=by have kA:aV W w.heap.size [ag S.ak,bs,ag S.x0,ag S.y0,ag S.x1,ag S.y1,rm,dr,ag S.ou,ag S.gx,ag S.gy,ag S.push,ag S.eO,ag S.rest,ag S.rounds,ag S.fuel]:=dm;intro kk;revert kA;exact kk):P:=h q
namespace Bo
open Go.RowKit aN fO Qt Ro Bk Pa Vm
attribute [local go_sem] Oper.semAt_some
def YI (k:Nat):ByteArray:=[afJ,aj7,aj8,aj9,aj_].getD k afJ
theorem TU (k:Nat) (hk:k<5):(t_ (YI k)).isSome=true:=by
 obtain rfl|rfl|rfl|rfl|rfl:k=0∨k=1∨k=2∨k=3∨k=4:=ae
 ·exact aka
 ·exact akb
 ·exact akc
 ·exact akd
 ·exact ake
theorem Nz (w:World):Calls prog 56 #[] w fun e w'=>∃b,e=.returned (aZ b 5 5)∧(∀k,k<5→w'.cell? ⟨b,k,none⟩=some (.string (YI k)))∧aJ w w':=by go_enter func56,ntmps56;go_wp2;go_ret;refine⟨_,rfl,?_,by exact aG⟩;intro k hk;rw[World.cell?_alloc_new];obtain rfl|rfl|rfl|rfl|rfl:k=0∨k=1∨k=2∨k=3∨k=4:=ae;all_goals rfl
theorem Gx (n:Int) (w:World) (h0: -9223372036854775808≤n) (h1:n≤9223372036854775807):
  Calls prog 22 #[ag n] w fun e w'=>∃k,k<5∧e=.returned (.string (YI k))∧aJ w w':=by
 have um:=ah fun(V:World)=>Nz V;have ha:=fun(V:World)=>nR n 5 V h0 h1 bL bL;have hk:∃k:Nat,k<5∧Mj n 5=k:=by have:=AQ n 5 bL;exact⟨(Mj n 5).toNat,ae,ae⟩
 obtain⟨k,hk,hak⟩:=hk;rw[hak]at ha;have hkI:(k:Int)<5:=ae;clear hak;have Hha:=ah ha;clear ha;go_enter func22,ntmps22;go_wp2_with (first|((with_reducible refine(um.out _).mono ?_);rintro e w1 ⟨b,rfl,hc,aO⟩;have hck:=hc k hk)|((with_reducible refine(Hha.out _).mono ?_);rintro e w2 ⟨rfl,rfl⟩));go_ret;exact⟨k,hk,rfl,aO⟩
theorem ND {w:World} {lo:Nat} {c:Value} {cd:Cd} {e:TypeId} (hc:∃a cap,c=.slice a cd.length cap) (h:w.ownsRow lo e 2 c cd.length (cd.flatMap kM)):xw w c cd:=by
 obtain⟨a,cap,rfl⟩:=hc;rcases h.2 with⟨h1,h2⟩|⟨g,cp,cur,h1,_⟩
 ·have h3:cd=[]:=afK.1 h2;subst h3;exact .inl ⟨rfl,.inl h1⟩
 ·injection h1 with h1 _ h4;subst h1;by_cases hn:cd=[]
  ·subst hn;exact .inl ⟨rfl,.inr ⟨g,cap,rfl⟩⟩
  ·refine .inr ⟨hn,g,cap,rfl,fun i hi=>?_⟩;obtain⟨c0,c1⟩:=NG h i hi;exact⟨g,rfl,c0,c1⟩
theorem Mi (x y:Int) (w:World) (UX: -9223372036854775808≤x) (mg:x≤9223372036854775807) (hy0: -9223372036854775808≤y) (hy1:y≤9223372036854775807) (hg:aV w 1 tJ):
  Calls prog 5 #[ag x,ag y] w fun e w'=>∃bk bv cap c0 c1 a0 a1 a2 b0 b1 b2,∃I0 I1:List (Int×Int),e=.returned (aR bk)∧(uY w' bk bv cap c0 c1 a0 a1 a2 b0 b1 b2∧xw w' c0 I0∧xw w' c1 I1∧I0.length≤1000∧I1.length≤1000)∧aJ w w':=by
 have ap5:=ah fun(V:World)=>Gx x V UX mg;have ap6:=ah fun(V:World)=>Gx y V hy0 hy1;have yY:=ah fun(V:World) (hV:aJ w V) (s:ByteArray) on vs cd es (h:t_ s=some (on,vs,cd,es))=>uw h V (hg.later hV);have YG:=ah fun(V:World) (hV:aJ w V) (s:ByteArray) on vs cd es (h:t_ s=some (on,vs,cd,es)) lo bk bv c Gy e0 e1 e2 (hB:TV V lo bk bv c Gy e0 e1 e2) (hc:c.oneCell'=true)=>jM h (hg.later hV) hB hc;clear hg;go_enter func5,ntmps5;go_upto_region 4 with(first
  |((with_reducible refine(ap5.out _).mono ?_);rintro e w1 ⟨k,hk,rfl,aO⟩;obtain⟨⟨on,vs,cd,es⟩,hpm⟩:=Option.isSome_iff_exists.1 (TU k hk);have hn:=yY.out _ aO (YI k) on vs cd es hpm;have Hn:=ah hn;have hlen:=(zq hpm).2.2.2.2.2.1;clear hn hpm)
  |((with_reducible refine Hn.out.mono ?_);rintro e w2 ⟨bk,bv,c,e0,e1,e2,hes,rfl,hB,dW⟩))
 have E8:aJ w w2:=aO.trans (dW.mono aO.size);go_wp2_with (first
  |((with_reducible refine(ap6.out _).mono ?_);rintro e w3 ⟨k3,nG,rfl,gK⟩;obtain⟨⟨on3,vs3,cd3,es3⟩,hpm⟩:=Option.isSome_iff_exists.1 (TU k3 nG);have hlen3:=(zq hpm).2.2.2.2.2.1;obtain⟨kb,kv,kc,kl,km,kn⟩:=hB;obtain⟨ac,cpc,rfl,hoc,hcn⟩:=kc;have Vw:TV w3 w1.heap.size bk bv (.slice ac cd.length cpc) cd e0 e1 e2:=⟨kb.later gK,gP kv gK,⟨ac,cpc,rfl,gP hoc gK,hcn⟩,kl,km,kn⟩;have hn:=YG.out w3 (E8.trans (gK.mono E8.size)) (YI k3) on3 vs3 cd3 es3 hpm _ _ _ _ _ _ _ _ Vw rfl;have Hn3:=ah hn;clear hn hpm Vw)
  |((with_reducible refine Hn3.out.mono ?_);rintro e w4 ⟨rfl,g,cap,c1,f0,f1,f2,ax0,hcell,hcells,⟨a1,cp1,rfl,ho1⟩,ho0,hch⟩))
 go_ret;have Ag:aJ w w3:=E8.trans (gK.mono E8.size);have eF:=aO.size;have hc:=fun(i:Nat) (hi:i<10)=>hcells i hi;refine⟨bk,g,cap,_,_,e0,e1,e2,f0,f1,f2,cd,cd3,rfl,⟨⟨hcell,hc 0 ae,hc 1 ae,hc 2 ae,hc 3 ae,hc 4 ae,hc 5 ae,hc 6 ae,hc 7 ae,hc 8 ae,hc 9 ae⟩,ND ⟨_,_,rfl⟩ ho0,ND ⟨_,_,rfl⟩ ho1,ae,ae⟩,?_⟩;exact{os:=hch.os.trans Ag.os,tape:=hch.tape.trans Ag.tape,output:=hch.output.trans Ag.output,size:=aS Ag.size hch.size,block:=fun q hq=>(hch.block q (bH hq Ag.size) bQ).trans (Ag.block q hq)}
end Bo
namespace Di
open Go.RowKit aN fO Qt Ro Bk Ce La Ha In Vm Mc Tk Bo Ga Cl Se
attribute [local go_sem] Oper.semAt_some
theorem Tryz.aes:Inf prog 141 22 (.slice none 0 0) 1 24:=⟨info_parts aL,underlying141,rfl,bL,bL⟩
theorem Tryz.alC:Inf prog 22 3 (ag 0) 1 8:=⟨info_parts aL,underlying22,rfl,bL,bL⟩
theorem Tryz.aer:Inf prog 35 56 (.slice none 0 0) 1 24:=⟨info_parts aL,underlying35,rfl,bL,bL⟩
theorem DN {w:World} {ib iD:Nat} {R:List (Int×Int×Int)} (hR:1≤R.length∧R.length≤1000) (h:∀i x,R[i]?=some x→w.cell? ⟨ib,i*3,none⟩=some (ag x.1)∧w.cell? ⟨ib,i*3+1,none⟩=some (ag x.2.1)∧w.cell? ⟨ib,i*3+2,none⟩=some (ag x.2.2)):
  Calls prog 59 #[aZ ib R.length iD] w fun e w'=>∃u,e=.returned u∧Ae w' w.heap.size u R∧aJ w w':=by
 have hl:=TP R;have hg:∀i r x,r<3→R[i]?=some x→(R.flatMap Ir)[i*3+r]?=(Ir x)[r]?:=fun i r x hr hx=>Qt.flat_get (m:=3) R (fun _ _=>rfl) i r x hr hx;refine(Gw (xs:=R.flatMap Ir) hR.1 hR.2 hl (fun j u hj=>?_) (fun u hu=>?_)).mono ?_
 ·have hjl:=(List.getElem?_eq_some_iff.1 hj).1;obtain⟨x,hx⟩:∃x,R[j/3]?=some x:=⟨_,ik ae⟩
  have h3:=hg (j/3) (j%3) x ae hx;rw[show j/3*3+j%3=j from ae,hj]at h3;obtain⟨c0,c1,c2⟩:=h _ x hx;obtain⟨q,r,hq,hr⟩:∃q r,j=q*3+r∧r<3:=⟨j/3,j%3,ae,ae⟩
  subst hq;rw[show(q*3+r)/3=q from ae]at c0 c1 c2;rw[show(q*3+r)%3=r from ae]at h3;obtain rfl|rfl|rfl:r=0∨r=1∨r=2:=ae
  ·obtain rfl:u=_:=by simpa[Ir]using h3
   exact c0
  ·obtain rfl:u=_:=by simpa[Ir]using h3
   exact c1
  ·obtain rfl:u=_:=by simpa[Ir]using h3
   exact c2
 ·obtain⟨x,_,hx⟩:=List.mem_flatMap.1 hu;unfold Ir at hx;simp only[List.mem_cons,List.not_mem_nil,or_false]at hx;rcases hx with rfl|rfl|rfl<;>rfl
 ·rintro e w' ⟨v,rfl,hn,hb⟩;obtain⟨g,cap,rfl,BB,hgc,_⟩:=hn.ex;refine⟨_,rfl,⟨g,cap,rfl,BB,?_,fun i x hx=>?_⟩,hb⟩
  ·obtain⟨x,hx⟩:∃x,R[0]?=some x:=⟨_,ik ae⟩
   have:=aU _ _ (hgc 0 _ (by have:=hg 0 0 x ae hx;simpa[Ir]using this));simpa using this
  ·exact⟨hgc _ _ (hg i 0 x ae hx),hgc _ _ (hg i 1 x ae hx),hgc _ _ (hg i 2 x ae hx)⟩
section
variable {w W0:World} {B bX:Nat} {M:Mt} {bs rm dr:Value} {kb:Nat} {rv sv lv:Value} {xs ys zs:List Value} {na ns nl:Nat}
theorem Ew.alD (h:Ew w W0 B bX M bs rm dr kb rv sv lv xs ys zs na ns nl) {t:Nat} (ht:t<na):VU w rv M t:=by obtain⟨g,cap,rfl,_⟩:=jX h.o1 ae;obtain⟨ib,iD,e1,e2,e3,e4⟩:=h.c1 t ht;exact⟨g,na,cap,ib,iD,rfl,ht,kL h.o1 _ _ e1,e4⟩
theorem Ew.stT (h:Ew w W0 B bX M bs rm dr kb rv sv lv xs ys zs na ns nl) {t:Nat} (ht:t<ns):StT w sv M t:=by obtain⟨g,cap,rfl,_⟩:=jX h.o2 ae;obtain⟨b,cp,e1,e2,e3⟩:=h.c2 t ht;exact⟨g,ns,cap,b,cp,rfl,ht,kL h.o2 _ _ e1,e3⟩
theorem Ew.toXs (h:Ew w W0 B bX M bs rm dr kb rv sv lv xs ys zs na ns nl) (hS:fP W0 M.S bs rm dr) (h1:1≤W0.heap.size) (hb:yJ W0 kb M) (g0:aV W0 0 jH) {t:Nat} (ha:t<na) (hs:t<ns):Xs w W0 bX M bs rm dr kb t rv sv lv:=
 ⟨h.k,h.hs,hS,h1,h.alD ha,h.stT hs,hb.later h.hs,g0.later h.hs⟩
theorem Ew.hx {n:Nat} (h:Ew w W0 B bX M bs rm dr kb rv sv lv xs ys zs n (n+1) n) (hn:n=M.rows.length) (eD:1≤n) (hS:fP W0 M.S bs rm dr) (h1:1≤W0.heap.size) (hb:yJ W0 kb M) (g0:aV W0 0 jH):Hx w W0 bX M bs rm dr kb rv sv lv:=by subst hn;obtain⟨g2,cap2,e2,_⟩:=jX h.o2 ae;obtain⟨g3,arD,e3,_⟩:=jX h.o3 eD;refine⟨h.k,h.hs,hS,h1,hb.later h.hs,g0.later h.hs,fun t ht=>h.alD ht,fun t ht=>h.stT ae,⟨_,_,e2⟩,⟨g3,arD,e3,fun t ht=>?_⟩⟩;have o3:=h.o3;rw[e3]at o3;exact kL o3 _ _ (h.c3 t ht)
end
theorem Zm {w:World} {S:Stp} {bs rm dr rv:Value} {kb:Nat} {M:Mt} (h:lK w S bs rm dr) (hv:ql S) (hr:S.f_.length≤100) (hd:S.doors.length≤100) (hM:M.Ok) (AR:M.S=S) (hi:Fin M.S (qD M.S)∧cg (qD M.S) 0=0)
  (hbk:yJ w kb M) (hrows:qc w rv M.rows) (BC:aV w 0 jH) (eD:1≤M.rows.length):
  Calls prog 26 #[dR S bs rm dr,aR kb,rv,.agg #[ag (-1),ag 0,ag 0,ag 0]] w fun e w'=>∃bX,e=.returned (aR bX)∧(∃W0 bs' rm' tL rv' sv lv,Hx w' W0 bX M bs' rm' tL kb rv' sv lv)∧aJ w w':=by
 subst AR;obtain⟨rb,IB,rfl,hrow⟩:=hrows;have Kg:=hM.hn;have hk:mf M.S:=hM.hS;obtain⟨hP8,hPn,Je,hP1⟩:=And.intro hk.P8 (And.intro hk.Pn (And.intro hk.n24 hk.P1));have hcl:=fun(V:World) (hV:aJ w V)=>Sb (h.later hV) ⟨ae,Je⟩ hr hd;have Zn:=ah fun(V:World) (hV:aJ w V)=>Cf (rm:=rm) (dr:=dr) (h.later hV).at.bodies hP8 ae Je;unfold dR at*;have lH:=ah hcl;clear hcl;have gY:=results26;go_enter func26,ntmps26;go_upto_region 1 with(fail);refine aP fun W hW=>?_;have kA:aV W w.heap.size (Ld M.S bs rm dr):=rV;have kB:aV W (w.heap.size+1) [ag (-1),ag 0,ag 0,ag 0]:=eX;have hbW:aJ w W:=aM;obtain⟨bA,kY⟩:∃b,b=w.heap.size:=⟨_,rfl⟩
 rw[←kY]at kA kB⊢;obtain⟨bB,Io⟩:∃b,b=bA+1:=⟨_,rfl⟩
 rw[←Io]at kB⊢;clear hW Io kY;have st:∀V,aJ W V→(∀i,V.cell? ⟨bA,i,none⟩=(Ld M.S bs rm dr)[i]?)∧∀i,V.cell? ⟨bB,i,none⟩=[Value.int .i64 (-1),ag 0,ag 0,ag 0][i]?:=fun V hV=>⟨(kA.later hV).cell,(kB.later hV).cell⟩
 unfold Ld at st;have lA:=kA.lt;have lB:=kB.lt;have HkA:=ah kA;clear kA kB;have tC:=ah st;clear st;go_region_held3 (fun V=>(∀i,V.cell? ⟨bA,i,none⟩=[ag M.S.ak,bs,ag M.S.x0,ag M.S.y0,ag M.S.x1,ag M.S.y1,rm,dr,ag M.S.ou,ag M.S.gx,ag M.S.gy,ag M.S.push,ag M.S.eO,ag M.S.rest,ag M.S.rounds,ag M.S.fuel][i]?)∧∀i,V.cell? ⟨bB,i,none⟩=[Value.int .i64 (-1),ag 0,ag 0,ag 0][i]?) (exact tC.out _ aG) (first|((with_reducible refine(lH.out _ (hbW.trans (Below.mono aG hbW.size))).mono ?_);rintro e w1 ⟨bs',rm',tL,rfl,hx,aO⟩;obtain⟨N1,dA,bW,eu,eF⟩:=eB aO;(try simp only[bf]at dA)));rename_i alE;clear alE;go_upto_region 2 with(fail);refine aP fun W1 vI=>?_;have k1:aV W1 w1.heap.size (Jf M.S bs' rm' tL kb (.slice none 0 0) (.slice none 0 0) (.slice none 0 0)):=by rw[vI];exact aV.new _ _ _ _ rfl
 have ET:aJ w1 W1:=by rw[vI];exact aG
 have VV:aJ W w1:=((aK _ W).drew).trans aO;have Fa:aJ w w1:=hbW.trans (VV.mono hbW.size);have alF:aJ w W1:=Fa.trans (ET.mono Fa.size);have cA:=(HkA.out.later (VV.trans (ET.mono VV.size))).cell;unfold Ld at cA;obtain⟨bX,hbX⟩:∃b,b=w1.heap.size:=⟨_,rfl⟩
 obtain⟨B,hB⟩:∃b,b=bX+1:=⟨_,rfl⟩
 rw[←hbX]at k1⊢;have lA1:bA<W1.heap.size:=(HkA.out.later (VV.trans (ET.mono VV.size))).lt;have E0:Ew W1 w1 B bX M bs' rm' tL kb (.slice none 0 0) (.slice none 0 0) (.slice none 0 0) [] [] [] 0 0 0:=
  ⟨k1,ET,⟨ae,ae,by have:=k1.lt;omega⟩,jw _ _ _ _,jw _ _ _ _,jw _ _ _ _,fun t ht=>absurd ht ae,fun t ht=>absurd ht ae,fun t ht=>absurd ht ae,fun g=>⟨fun e=>(by cases e),fun e=>(by cases e)⟩⟩
 have HE0:=ah E0;have Hx0:=ah hx;have HW1:=ah alF;have Hw1:=ah Fa;have aet:∀t R,M.rows[t]?=some R→∃ib iD,w1.cell? ⟨rb,t,none⟩=some (aZ ib R.length iD)∧ib<w1.heap.size∧∀i x,R[i]?=some x→w1.cell? ⟨ib,i*3,none⟩=some (ag x.1)∧w1.cell? ⟨ib,i*3+1,none⟩=some (ag x.2.1)∧w1.cell? ⟨ib,i*3+2,none⟩=some (ag x.2.2):=fun t R hR=>by obtain⟨ib,iD,h1,h2,h3⟩:=hrow t R hR;exact⟨ib,iD,ai Fa h1,by have:=Fa.size;omega,fun i x hx=>⟨ai Fa (h3 i x hx).1,ai Fa (h3 i x hx).2.1,ai Fa (h3 i x hx).2.2⟩⟩
 have vM:=ah aet;have Hbk:=ah (hbk.later Fa);have Hg0:=ah (BC.later Fa);have h1w:1≤w1.heap.size:=by have:=BC.lt;have:=Fa.size;omega
 have HP1:=ah hP1;have HPn:=ah (And.intro hPn (And.intro hP8 Je));have Hi:=ah hi;have HM:=ah hM;clear vI k1 ET E0 hx alF Fa hrow aet hbk BC VV hbW bW eu eF dA N1 tC lB hB hbX aO h hv hr hd hi hM hk hPn hP8 Je HkA lA hP1;obtain⟨n,hn⟩:∃n,n=M.rows.length:=⟨_,rfl⟩
 have Hn:=ah hn;rw[←hn]at Kg eD⊢;clear hn;go_upto_region 3 with(first|((with_reducible refine(Zn.out _ HW1.out).mono ?_);rintro e w2 ⟨b0,rfl,aeu,arF,dW⟩;obtain⟨N2,nM,gX,ku,lI⟩:=eB dW;(try simp only[bf]at nM)));have E1:=HE0.out.below dW;have alG:Fr bX (.slice none 0 0) (.slice none 0 0) (.slice none 0 0) b0:=⟨by have:=HE0.out.k.lt;omega,(fun e=>by cases e),(fun e=>by cases e),(fun e=>by cases e)⟩
 have HE1:=ah E1;have HF0:=ah alG;have HR0:=ah aeu;have Ql:aJ w w2:=HW1.out.trans (dW.mono HW1.out.size);have azr:=ah Ql;clear E1 alG aeu arF gX ku lI nM N2 dW Ql cA lA1 Zn HE0 HW1 lH;go_wp2;go_loopw [10,25] (fun cv i wr=>∃(t:Nat) (rv sv lv:Value) (xs ys zs:List Value) (b:Nat),t≤n∧i=ag t∧Ew wr w1 B bX M bs' rm' tL kb rv sv lv xs ys zs t t t∧cv=aZ b (qE M.S) (qE M.S)∧Fr bX rv sv lv b∧Row .i64 wr b (M.st t)) (fun _ i _=>n-(intOf i).toNat);case atStart=>exact⟨0,_,_,_,_,_,_,b0,ae,rfl,HE1.out,rfl,HF0.out,HR0.out⟩
 case round=>
  clear HE1 HF0 HR0;obtain⟨t,rv,sv,lv,xs,ys,zs,b,htn,rfl,hE,rfl,WX,hRw⟩:=hrel;have hlen:∀k,k≤n→(M.st k).length=qE M.S:=fun k hk=>(Mt.zM HM.out Hi.out k (by rw[←Hn.out];exact hk)).1.len;have Hlen:=ah hlen;have HE:=ah hE;have HFr:=ah WX;have HRw:=ah hRw;clear hlen WX hRw;by_cases ht:t<n
  ·have htI:(t:Int)<(n:Int):=ae;have PZ:t<M.rows.length:=by rw[←Hn.out];exact ht
   have hRt:M.rows[t]?=some (M.par t).R:=vV;obtain⟨ib,iD,r1,r2,r3⟩:=vM.out t _ hRt;have q1:=ai hE.hs r1;have hRl:(M.par t).R.length=M.S.ak:=by have:=(Mt.vU HM.out PZ).hR;rw[M.vC]at this;exact this
   have hcl:=DN (w:=wr.drew) (ib:=ib) (iD:=iD) (R:=(M.par t).R) ⟨by have:=HP1.out;omega,by have:=HPn.out;omega⟩ (fun i x hx=>⟨ai hE.hs.drew (r3 i x hx).1,ai hE.hs.drew (r3 i x hx).2.1,ai hE.hs.drew (r3 i x hx).2.2⟩);have cX:=hE.k.cell;unfold Jf at cX;have lX:=hE.k.lt;have lrb:rb<wr.heap.size:=by have:=aU _ _ q1;simpa using this
   generalize WW:(M.par t).R.length=lR at*;have alH:=ah WW;clear r3 r1 hE hRt WW;have lH:=ah hcl;clear hcl;go_upto_region 6 with(fail);refine iR [1,2,3,4,5] [0] [6,7,8,9,10,11] 8 aL aL fun NL hL=>?_;obtain⟨dU,dV,hlf⟩:=hL;simp only[jA];repeat(go_big_quiet_step (fail))
   refine wpQuiet_nil ?_;repeat(go_big_quiet_step (fail))
   refine wpQuiet_nil ?_;clear dV hlf dU NL;refine sW (f:=59) (args:=#[aZ ib lR iD]) (w1:=wr.drew) bL rfl rfl bO lH.out ?_;rintro e w2 ⟨u,rfl,hIR,dW⟩;obtain⟨VT,Lb,hu,i1,i2,i3⟩:=hIR;rw[alH.out]at hu;subst hu;have hdw:wr.drew.heap.size=wr.heap.size:=rfl;have Q3:aJ wr w2:=(aK _ wr).drew.trans dW;have Q4:aJ wr (w2.alloc (.cells #[aZ VT lR Lb] 56)):=Q3.alloc Q3.size _;refine⟨_,rfl,⟨⟨w2,Q3⟩,rfl⟩,?_⟩;simp only[Act.put,dH];refine gN (v:=aZ w2.heap.size 1 1) (w1:=w2.alloc (.cells #[aZ VT lR Lb] 56)) bL rfl rfl bO ⟨⟨_,Q4⟩,rfl⟩ ?_;simp only[Act.put,dH];refine kH rfl rfl ?_;have hoA:(w2.alloc (.cells #[aZ VT lR Lb] 56)).ownsRow B 56 1 rv t xs:=nC HE.out.o1 fun g e=>Q4.block g (gM HE.out.o1 g e).2;refine oh Tryz.aer (.tmp 34) (.tmp 37) rfl B rv t xs rfl hoA w2.heap.size [aZ VT lR Lb] rfl rfl (fun jj uu hj=>by rw[World.cell?_alloc_new];simpa using hj) il (by have:=HE.out.lo;have:=Q4.size;omega) ae ?_;intro g cap w5 iE oK lJ;have E2:=HE.out.below Q3;have nD:wr.heap.size≤w2.heap.size:=Q3.size;have hFi:Fr bX rv sv lv VT:=⟨ae,(fun e=>by have:=(gM HE.out.o1 VT e).2;omega),(fun e=>by have:=(gM HE.out.o2 VT e).2;omega),(fun e=>by have:=(gM HE.out.o3 VT e).2;omega)⟩
   have E5:=E2.alI ((aK _ w2).alloc (aH _) _) (xk iE) oK.grown oK.hv ⟨VT,Lb,by rw[alH.out],i2,hFi,i3⟩;have k5:aV w5 bX _:=E2.k.keep (by have:=oK.size;simp at this;omega) ((oK.block bX bU (fun e=>by have:=(gM HE.out.o1 bX e).1;have:=HE.out.lo;omega)).trans (gV _ _ _ ae));have LW:=HFr.out;have hF5:Fr bX (aZ g (t+1) cap) sv lv b:=⟨LW.1,(fun e=>by
    have e1:g=b:=bD e;rcases oK.new with h|h
    ·exact LW.2.1 (e1▸h)
    ·have:=HRw.out.lt;simp at h;omega),LW.2.2.1,LW.2.2.2⟩
   have RY:Row .i64 (w5.setCell ⟨bX,17,none⟩ (aZ g (t+1) cap)) b (M.st t):=xV HRw.out (by have:=oK.size;simp at this⊢;omega) ((dI _ _ _ _ LW.1).trans ((oK.block b (by have:=HRw.out.lt;simp;omega) (fun e=>LW.2.1 e)).trans (Q4.block b HRw.out.lt)));have⟨c5,f5,l5⟩:=k5;unfold Jf at c5;have Zo:=ah E5;have HF5:=ah hF5;have HR5:=ah RY;simp only[Act.put,dH];simp only[jA];with_reducible obtain⟨w3,Mm⟩:∃X,X=w5.setCell ⟨bX,17,none⟩ (aZ g (t+1) cap):=⟨_,rfl⟩
   with_reducible refine di (v:=aR bX) (w1:=w5) ?s1 ?s2 trivial ?s3
   case s1=>rfl
   case s2=>go_simp
   simp only[Act.put,dH];with_reducible refine di (v:=.pointer (some ⟨bX,17,none⟩)) (w1:=w5) ?s4 ?s5 trivial ?s6
   case s4=>rfl
   case s5=>go_simp
   simp only[Act.put,dH];with_reducible refine dY (w1:=w3) ?s7 ?s8 trivial ?s9
   case s7=>rfl
   case s8=>rw[Mm];go_simp
   simp only[Act.put,dH];refine fT ?_;rw[←Mm]at Zo HR5;clear Mm E5 hF5 RY k5 c5 f5 l5 LW hFi E2 oK iE hoA Q4 Q3 dW i1 i2 i3 cX q1 lX lrb;clear HE HFr HRw;go_upto_region 7 with(fail);have cX:=Zo.out.k.cell;unfold Jf at cX;have lX:=Zo.out.k.lt;have hA7:aJ w3 (w3.alloc (.cells #[aZ b (qE M.S) (qE M.S)] 22)):=(aK _ w3).alloc (aH _) _;have ho7:(w3.alloc (.cells #[aZ b (qE M.S) (qE M.S)] 22)).ownsRow B 22 1 sv t ys:=nC Zo.out.o2 fun g e=>hA7.block g (gM Zo.out.o2 g e).2;have hZ7:B≤(w3.alloc (.cells #[aZ b (qE M.S) (qE M.S)] 22)).heap.size:=by have:=Zo.out.lo;have:=hA7.size;omega
   have agv:=ah ho7;have agw:=ah hZ7;clear ho7 hZ7;go_upto_region 8 with(refine qw rfl ?_;refine oh Tryz.aes (.tmp 45) (.tmp 47) rfl B sv t ys rfl agv.out w3.heap.size [aZ b (qE M.S) (qE M.S)] rfl rfl (fun jj uu hj=>by rw[World.cell?_alloc_new];simpa using hj) il agw.out ae ?_;intro g7 arH w7 Zp Fb hg7;have k7:aV w7 bX _:=(Zo.out.k.alloc _).keep Fb.size (Fb.block bX bU (fun e=>by have:=(gM Zo.out.o2 bX e).1;have:=Zo.out.lo;omega));have c7:=k7.cell;have f7:=k7.free;have l7:=k7.lt;unfold Jf at c7;have E7:=Zo.out.aev hA7 (xk Zp) Fb.grown Fb.hv ⟨b,_,by rw[Hlen.out t htn],HF5.out,HR5.out⟩;have HE7:=ah E7;have avc:=ah Fb;clear E7 Fb Zp k7);refine aP fun W8 hW8=>?_;rw[←hW8]at HE7;clear hW8 c7 f7 l7 cX lX;have hZ:=HE7.out.toXs Hx0.out.at h1w Hbk.out Hg0.out (Nat.lt_succ_self t) (Nat.lt_succ_self t);have acH:=Au hZ HM.out Hi.out PZ (-1) (M.ln t) (.inr ⟨rfl,rfl⟩);rw[show its (M.par t) (M.st t) (M.ln t)=M.st (t+1)from rfl]at acH;have arI:=(Mt.FD HM.out Hi.out PZ).2;obtain⟨ln,hln⟩:∃ln,ln=M.ln t:=⟨_,rfl⟩
   rw[←hln]at acH;have Hln:=ah hln;clear hZ hln arI;have hce:=fun(V:World) (F:Fp) (h:aD V F (M.st (t+1)))=>mo h;rw[Hlen.out (t+1) ae]at hce;have aew:=ah acH;have vN:=ah hce;clear acH hce;go_upto_region 9 with(first|((with_reducible refine(aew.out).mono ?_);rintro e w9 ⟨F,rfl,hmem,hF,Cn⟩));have E9:=HE7.out.below Cn;have hNO:∀q,F.has q→q≠bX:=fun q hq e=>by have:=hF q hq;have:=HE7.out.k.lt;omega
   have dU:∀q,lv.ownBlock=some q→¬F.has q:=fun q e hq=>by have:=hF q hq;have:=(gM HE7.out.o3 q e).2;omega
   have HE9:=ah E9;have HNO:=ah hNO;have HNL:=ah dU;have acI:=ah hmem;clear E9 hmem hF HE7 aew Zo hNO dU;have cX:=HE9.out.k.cell;unfold Jf at cX;have lX:=HE9.out.k.lt;have hA9:aJ w9 (w9.alloc (.cells #[ag ln] 3)):=(aK _ w9).alloc (aH _) _;have ho9:(w9.alloc (.cells #[ag ln] 3)).ownsRow B 3 1 lv t zs:=nC HE9.out.o3 fun g e=>hA9.block g (gM HE9.out.o3 g e).2;have hZ9:B≤(w9.alloc (.cells #[ag ln] 3)).heap.size:=by have:=HE9.out.lo;have:=hA9.size;omega
   have arJ:=ah ho9;have arK:=ah hZ9;clear ho9 hZ9;go_upto_region 10 with(refine qw rfl ?_;refine oh Tryz.alC (.tmp 61) (.tmp 63) rfl B lv t zs rfl arJ.out w9.heap.size [ag ln] rfl rfl (fun jj uu hj=>by rw[World.cell?_alloc_new];simpa using hj) il arK.out ae ?_;intro gA arL wA alM VW hgA;have kA:aV wA bX _:=(HE9.out.k.alloc _).keep VW.size (VW.block bX bU (fun e=>by have:=(gM HE9.out.o3 bX e).1;have:=HE9.out.lo;omega));have cA:=kA.cell;have fA:=kA.free;have lA:=kA.lt;unfold Jf at cA;have EA:=HE9.out.alN hA9 (xk alM) VW.grown VW.hv (by rw[Hln.out]);have hmA:aD (wA.setCell ⟨bX,23,none⟩ (aZ gA (t+1) arL)) F (M.st (t+1)):=acI.out.keep (fun q hq=>(dI _ _ _ _ (HNO.out q hq)).trans ((VW.block q (by have:=acI.out.lt hq;simp;omega) (fun e=>HNL.out q e hq)).trans (hA9.block q (acI.out.lt hq))));have HEA:=ah EA;have HmA:=ah hmA;clear EA hmA VW alM kA);refine aP fun WA QX=>?_;rw[←QX]at HEA HmA;clear QX cA fA lA cX lX HE9 acI;have arM:=ah (vN.out WA F HmA.out);go_wp2_with (first|((with_reducible refine(arM.out).mono ?_);rintro e wB ⟨b',rfl,hrB,azw,Io⟩;have HrB:=ah hrB;have EB:=HEA.out.below Io;have HEB:=ah EB;clear hrB EB));have hsB:=Io.size;have hFB:Fr bX _ _ _ b':=⟨by have:=HEA.out.k.lt;omega,(fun e=>by have:=(gM HEA.out.o1 b' e).2;omega),(fun e=>by have:=(gM HEA.out.o2 b' e).2;omega),(fun e=>by have:=(gM HEA.out.o3 b' e).2;omega)⟩
   exact⟨⟨t+1,_,_,_,_,_,_,b',ae,av,HEB.out,rfl,hFB,HrB.out⟩,by simp[intOf];omega⟩
  ·obtain rfl:t=n:=ae;have htI:¬((t:Int)<(t:Int)):=ae;have cX:=HE.out.k.cell;unfold Jf at cX;have lX:=HE.out.k.lt;clear hE;have hA7:aJ wr (wr.alloc (.cells #[aZ b (qE M.S) (qE M.S)] 22)):=(aK _ wr).alloc (aH _) _;have ho7:(wr.alloc (.cells #[aZ b (qE M.S) (qE M.S)] 22)).ownsRow B 22 1 sv t ys:=nC HE.out.o2 fun g e=>hA7.block g (gM HE.out.o2 g e).2;have hZ7:B≤(wr.alloc (.cells #[aZ b (qE M.S) (qE M.S)] 22)).heap.size:=by have:=HE.out.lo;have:=hA7.size;omega
   have agv:=ah ho7;have agw:=ah hZ7;clear ho7 hZ7;go_upto_region 13 with(refine qw rfl ?_;refine oh Tryz.aes (.tmp 74) (.tmp 76) rfl B sv t ys rfl agv.out wr.heap.size [aZ b (qE M.S) (qE M.S)] rfl rfl (fun jj uu hj=>by rw[World.cell?_alloc_new];simpa using hj) il agw.out ae ?_;intro g7 arH w7 Zp Fb hg7;have k7:aV w7 bX _:=(HE.out.k.alloc _).keep Fb.size (Fb.block bX bU (fun e=>by have:=(gM HE.out.o2 bX e).1;have:=HE.out.lo;omega));have c7:=k7.cell;have f7:=k7.free;have l7:=k7.lt;unfold Jf at c7;have E7:=HE.out.aev hA7 (xk Zp) Fb.grown Fb.hv ⟨b,_,by rw[Hlen.out t htn],HFr.out,HRw.out⟩;have HE7:=ah E7;clear E7 Fb Zp k7);refine aP fun W8 hW8=>?_;rw[←hW8]at HE7;clear hW8 c7 f7 l7 cX lX;go_wp2;have hX:=HE7.out.hx Hn.out eD Hx0.out.at h1w Hbk.out Hg0.out;refine bodyPost_ret (v:=aR bX) eU rfl ⟨bX,rfl,⟨w1,bs',rm',tL,_,_,_,hX⟩,Hw1.out.trans (HE7.out.hs.mono Hw1.out.size)⟩
variable {w:World} {M:Mt} {kb:Nat}
def Qi (w:World) (bX:Nat) (M:Mt) (kb:Nat):Prop:=∃W0 bs' rm' tL rv' sv lv,Hx w W0 bX M bs' rm' tL kb rv' sv lv
theorem Qi.later {w':World} {bX:Nat} (h:Qi w bX M kb) (hb:aJ w w'):Qi w' bX M kb:=by obtain⟨W0,a,b,c,d,e,f,h⟩:=h;exact⟨W0,a,b,c,d,e,f,h.later hb⟩
theorem Qq {S:Stp} {bs rm dr rv:Value} (h:lK w S bs rm dr) (hv:ql S) (hr:S.f_.length≤100) (hd:S.doors.length≤100) (hM:M.Ok) (AR:M.S=S) (hi:Fin M.S (qD M.S)∧cg (qD M.S) 0=0)
  (hbk:yJ w kb M) (hrows:qc w rv M.rows) (BC:aV w 0 jH) (eD:1≤M.rows.length):
  Calls prog 8 #[dR S bs rm dr,aR kb,rv] w fun e w'=>∃bX,e=.returned (.tuple #[.iface 80 (aR bX),ag 0])∧Qi w' bX M kb∧aJ w w':=by
 have oL:=ah fun(V:World) (hV:aJ w V)=>TR (h.later hV) hv hr hd hM AR hi (hbk.later hV) (hrows.later hV) (BC.later hV);have alB:=ah fun(V:World) (hV:aJ w V)=>Zm (h.later hV) hv hr hd hM AR hi (hbk.later hV) (hrows.later hV) (BC.later hV) eD;obtain⟨rb,IB,rfl,_⟩:=hrows;unfold dR at*;clear h hv hr hd hM AR hi hbk BC;have gY:=results8;go_enter func8,ntmps8;go_upto_region 1 with(fail);refine Bk.aP fun W hW=>?_;refine DR ?_;intro kA;have hbW:aJ w W:=aM;obtain⟨bA,kY⟩:∃b,b=w.heap.size:=⟨_,rfl⟩
 rw[←kY]at kA⊢;clear hW kY;have cA:=kA.cell;have lA:=kA.lt;go_upto_region 4 with(first|((with_reducible refine(oL.out _ hbW).mono ?_);rintro e w1 ⟨b,v,rfl,_,_,aO⟩));have hb1':aJ W w1:=by refine⟨aO.os,aO.tape,aO.output,aO.size,aO.block⟩
 have sK:aJ w w1:=hbW.trans (hb1'.mono hbW.size);have kA1:=kA.later hb1';have cA1:=kA1.cell;have lA1:=kA1.lt;clear cA lA kA kA1 aO hb1';go_wp2_with (first|((with_reducible refine(alB.out _ sK).mono ?_);rintro e w2 ⟨bX,rfl,hx,dW⟩));refine bodyPost_ret (v:=.tuple #[.iface 80 (aR bX),ag 0]) eU rfl ⟨bX,rfl,hx,sK.trans (dW.mono sK.size)⟩
end Di
namespace Rp
open Go.RowKit aN fO Qt Ro Bk Ce La Ha In Vm Mc Tk Bo Ga Cl Se
attribute [local go_sem] Oper.semAt_some
variable {w W0:World} {kb bG bR:Nat} {S:Stp} {bs rm dr:Value} {c:List Int} {F:Fp}
def Ny (S:Stp) (bs rm dr:Value) (kb:Nat) (ev:Int) (bG:Nat) (rv cv:Value):List Value:=[ag S.ak,bs,ag S.x0,ag S.y0,ag S.x1,ag S.y1,rm,dr,ag S.ou,ag S.gx,ag S.gy,ag S.push,ag S.eO,ag S.rest,ag S.rounds,ag S.fuel,aR kb,ag ev,aR bG,rv,cv]
theorem Tryz.alA:Inf prog 177 215 (.agg #[.slice none 0 0,.int .u64 0]) 2 32:=⟨info_parts aL,underlying177,rfl,bL,bL⟩
theorem acF {Nh rm2 dr2 bk rv:Value} {ev:Int} (k:aV w bR (Ny S bs rm dr kb ev bG rv (.slice none 0 0))) (kG:aV w bG (Og S Nh rm2 dr2 bk F.M)) (hm:aD w F c) (h2:2≤c.length) (h3:c.length≤1000):
  Calls prog 94 #[aR bR] w fun e w'=>e=.returned (.tuple #[])∧(∃cv,aV w' bR (Ny S bs rm dr kb ev bG rv cv))∧vO w.heap.size bR w w':=by
 have Kk:=ah (uq kG);have vN:=ah (mo hm);have Kh:=ah fun(b:Nat) (V:World) (h:Row .i64 V b c)=>Me.tN (cap:=c.length) h h2 h3;generalize Me.Ka c=rt at*;generalize c.length=cl at*;have cR:=k.cell;unfold Ny at cR;have lR:=k.lt;have Hk:=ah k;clear k kG hm;have gY:=results94;go_enter func94,ntmps94;go_upto_region 1 with(first|((with_reducible refine(Kk.out).mono ?_);rintro e w1 ⟨rfl,rfl⟩)|((with_reducible refine(vN.out).mono ?_);rintro e w2 ⟨b,rfl,hrow,hlo,dW⟩));have arB:=ah (Kh.out b w2.drew hrow.drew);have k2:=Hk.out.later dW;have c2:=k2.cell;unfold Ny at c2;have l2:=k2.lt;have Fj:=ah k2;clear cR hrow k2;refine iR [1,2,3,4,5,6] [0] [7,8,9,10,11,12,13] 10 aL aL fun NL hL=>?_;obtain⟨dU,dV,hlf⟩:=hL;simp only[jA];repeat(go_big_quiet_step (fail))
 refine wpQuiet_nil ?_;repeat(go_big_quiet_step (fail))
 refine wpQuiet_nil ?_;clear dV hlf dU NL;refine sW (f:=17) (args:=#[aZ b cl cl]) (w1:=w2.drew) bL rfl rfl bO arB.out ?_;rintro e w3 ⟨rfl,gK⟩;have Mw:aJ w2 w3:=(aK _ w2).drew.trans gK;refine⟨_,rfl,⟨⟨w3,Mw⟩,rfl⟩,?_⟩;simp only[Act.put,dH];refine gN (v:=.agg #[aZ b cl cl,.int .u64 rt]) (w1:=w3) bL rfl rfl bO ⟨⟨w3,Mw⟩,rfl⟩ ?_;simp only[Act.put,dH];have kY:aJ w2 (w3.alloc (.cells #[aZ b cl cl,.int .u64 rt] 215)):=Mw.alloc Mw.size _;refine gN (v:=aZ w3.heap.size 1 1) (w1:=w3.alloc (.cells #[aZ b cl cl,.int .u64 rt] 215)) bL rfl rfl bO ⟨⟨_,kY⟩,rfl⟩ ?_;simp only[Act.put,dH];refine kH rfl rfl ?_;refine oh Tryz.alA (.tmp 13) (.tmp 18) rfl w2.heap.size (.slice none 0 0) 0 [] rfl (jw _ _ _ _) w3.heap.size [aZ b cl cl,.int .u64 rt] rfl rfl (fun jj uu hj=>by rw[World.cell?_alloc_new];simpa using hj) il kY.size ae ?_;intro g cap w5 iE oK lJ;have eY:aJ w2 w5:=kY.trans (oK.below kY.size (fun k e=>by cases e));have k5:=Fj.out.later eY;have⟨c5,f5,l5⟩:=k5;unfold Ny at c5;have Hk5:=ah k5;have Kj:aJ w1 w5:=dW.trans (eY.mono dW.size);simp only[Act.put,dH];simp only[jA];with_reducible obtain⟨w6,hw6⟩:∃X,X=w5.setCell ⟨bR,20,none⟩ (aZ g 1 cap):=⟨_,rfl⟩
 with_reducible refine di (v:=aR bR) (w1:=w5) ?s1 ?s2 trivial ?s3
 case s1=>rfl
 case s2=>go_simp
 simp only[Act.put,dH];with_reducible refine di (v:=.pointer (some ⟨bR,20,none⟩)) (w1:=w5) ?s4 ?s5 trivial ?s6
 case s4=>rfl
 case s5=>go_simp
 simp only[Act.put,dH];with_reducible refine dY (w1:=w6) ?s7 ?s8 trivial ?s9
 case s7=>rfl
 case s8=>rw[hw6];go_simp
 simp only[Act.put,dH];refine fT ?_;have kF:aV w6 bR (Ny S bs rm dr kb ev bG rv (aZ g 1 cap)):=by rw[hw6];exact Hk5.out.put 20 _
 have aF:vO w1.heap.size bR w1 w6:=by rw[hw6];exact((vO.refl _ _ _).below Kj).set 20 _
 have HF:=ah (And.intro kF aF);clear hw6 kF aF c5 f5 l5 k5;go_wp2;refine bodyPost_end (v:=.tuple #[]) eU rfl ⟨rfl,⟨_,HF.out.1⟩,HF.out.2⟩
structure Rp0 (w:World) (bR kb:Nat) (S:Stp) (bs rm dr:Value) (bG:Nat) (bs' rm' tL:Value) (W0:World) (F:Fp) (c:List Int) (cv:Value):Prop where
 k:aV w bR (Ny S bs rm dr kb 5 bG (.slice none 0 0) cv)
 g:Gm w W0 bG S bs' rm' tL (aR kb) F c
 n:F.n=0
 no:¬F.has bR
 ne:bG≠bR
theorem Rp0.later {w':World} {bs' rm' tL:Value} {cv:Value} (h:Rp0 w bR kb S bs rm dr bG bs' rm' tL W0 F c cv) (hb:aJ w w'):Rp0 w' bR kb S bs rm dr bG bs' rm' tL W0 F c cv:=⟨h.k.later hb,h.g.below hb,h.n,h.no,h.ne⟩
def RpX (w:World) (Z bR kb:Nat) (S:Stp) (c:List Int):Prop:=∃bs rm dr bG bs' rm' tL W0 F cv,Rp0 w bR kb S bs rm dr bG bs' rm' tL W0 F c cv∧Z≤W0.heap.size∧Z≤bR
theorem YE (h:lK w S bs rm dr) (hv:ql S) (hk:mf S) (hr:S.f_.length≤100) (hd:S.doors.length≤100):
  Calls prog 50 #[dR S bs rm dr,aR kb,ag 5] w fun e w'=>∃bR,e=.returned (.tuple #[aR bR,ag 0])∧RpX w' w.heap.size bR kb S (qD S)∧aJ w w':=by
 obtain⟨hP8,hPn,Je,hP1⟩:=And.intro hk.P8 (And.intro hk.Pn (And.intro hk.n24 hk.P1));have yY:=ah fun(V:World) (hV:aJ w V)=>FO (kb:=kb) (h.later hV) hv hk hr hd;have lH:=ah fun(V:World) (hV:aJ w V)=>R_ (h.later hV) ⟨ae,Je⟩ hr hd;have hil:2≤(qD S).length∧(qD S).length≤1000:=by rw[Lc];unfold qE;omega
 unfold dR at*;clear h hv hk hr hd hP8 hPn Je hP1;have gY:=results50;go_enter func50,ntmps50;go_upto_region 1 with(fail);refine Bk.aP fun W hW=>?_;refine DR ?_;intro kA;have hbW:aJ w W:=aM;obtain⟨bA,kY⟩:∃b,b=w.heap.size:=⟨_,rfl⟩
 rw[←kY]at kA⊢;clear hW kY;have cA:=kA.cell;have lA:=kA.lt;go_upto_region 6 with(first|((with_reducible refine(yY.out _ hbW).mono ?_);rintro e w1 ⟨bG,bs',rm',tL,W0,F,rfl,hG,hF,aO⟩));have sK:aJ w w1:=hbW.trans (aO.mono hbW.size);have kA1:=kA.later aO;have cA1:=kA1.cell;have lA1:=kA1.lt;have HG:=ah hG;clear cA lA kA hG;go_upto_region 7 with(first|((with_reducible refine(lH.out _ sK).mono ?_);rintro e w2 ⟨Nh,rm2,dr2,rfl,hx,dW⟩));refine Bk.aP fun W2 mi=>?_;have kR:aV W2 w2.heap.size (Ny S Nh rm2 dr2 kb 5 bG (.slice none 0 0) (.slice none 0 0)):=oJ;have Jc:aJ w1 w2:=⟨dW.os,dW.tape,dW.output,dW.size,dW.block⟩
 have Oh:aJ w1 W2:=by rw[mi];exact Jc.alloc Jc.size _
 have hG2:=HG.out.below Oh;obtain⟨bR,hbR⟩:∃b,b=w2.heap.size:=⟨_,rfl⟩
 rw[←hbR]at kR⊢;have azm:w1.heap.size≤bR:=by have:=Jc.size;omega
 have JW:aJ w W2:=sK.trans (Oh.mono sK.size);have hno:¬F.has bR:=fun hh=>by have:=HG.out.hm.lt hh;omega
 have hne:bG≠bR:=by have:=HG.out.kG.blk.lt;omega
 have arC:=ah (acF kR hG2.kG.blk hG2.hm hil.1 hil.2);have HG2:=ah hG2;clear mi kA1 cA1 lA1 hx hG2 dW hbR kR;go_wp2_with (first|((with_reducible refine(arC.out).mono ?_);rintro e w3 ⟨rfl,⟨cv,k3⟩,a3⟩));have hkk:∀b,b<W2.heap.size→b≠bR→w3.heap[b]?=W2.heap[b]?:=fun b h1 h2=>a3.block b h1 h2;have lZ:=HG2.out.hs;have g3:Gm w3 W0 bG S bs' rm' tL (aR kb) F (qD S):=⟨HG2.out.hm.keep fun b hb=>hkk b (HG2.out.hm.lt hb) (fun e=>hno (e▸hb)),⟨HG2.out.kG.blk.keep a3.size (hkk bG HG2.out.kG.blk.lt hne),HG2.out.kG.no⟩,⟨⟨a3.os.trans lZ.jQ.os,a3.tape.trans lZ.jQ.tape,a3.output.trans lZ.jQ.output,aS lZ.jQ.size a3.size,fun b hb=>(hkk b (bH hb lZ.jQ.size) (by have:=HG.out.hs.jQ.size;omega)).trans (lZ.jQ.block b hb)⟩,lZ.new⟩,HG2.out.hS,HG2.out.h1⟩
 have Vw:aJ w w3:=⟨a3.os.trans JW.os,a3.tape.trans JW.tape,a3.output.trans JW.output,aS JW.size a3.size,fun b hb=>(hkk b (bH hb JW.size) (by have:=sK.size;omega)).trans (JW.block b hb)⟩
 refine bodyPost_ret (v:=.tuple #[aR bR,ag 0]) eU rfl ⟨bR,rfl,⟨Nh,rm2,dr2,bG,bs',rm',tL,W0,F,cv,⟨k3,g3,hF.1,hno,hne⟩,by have:=hF.2.1;have:=hbW.size;omega,by have:=sK.size;omega⟩,Vw⟩
theorem acB {M C m:Nat} {L:Option Nat} (hG:Gm w W0 bG S bs rm dr (aR kb) ⟨M,C,L,m⟩ c) (kg:Kb w ⟨M,C,L,m⟩ 0 jH) (p:Jd) (hp:p.Ok) (P5:p.S=S) {nn:Nat} (hn:Len p c nn) (hnn:nn≤900001) (hm:m≤900000000)
  {ib iD:Nat} (hin:InW w ⟨M,C,L,m⟩ ib iD p.R) (Xp:0≤cg c 0) (ht:cg c 0<6000)
  (hat:∀V,aJ w V→Calls prog 15 #[aR kb,ag (cg c 0)] V fun e w'=>∃v',e=.returned (.tuple #[ag p.cK,qQ v' p.e0 p.e1 p.e2])∧Ah V w' v' p.I∧aJ V w'):
  Calls prog 95 #[aR bG,aZ ib p.R.length iD] w fun e w'=>e=.returned (ag 0)∧∃F',Gm w' W0 bG S bs rm dr (aR kb) F' (its p c nn)∧Alt [] w ⟨M,C,L,m⟩ w' F' (40*nn):=by have zO:=ah (FH hG kg p hp P5 hn hnn hm hin Xp ht hat);clear hG kg hin hat;generalize p.R.length=lR at*;have gY:=results95;go_enter func95,ntmps95;go_upto_region 4 with(first|((with_reducible refine(zO.out).mono ?_);rintro e w1 ⟨v,xs,k,F1,rfl,_,_,Xj,dG⟩));have Kk:=ah (uq Xj.kG.blk);obtain⟨β,q0,sQ⟩:=Xj.hm.s1;have Sa:=ah (zW Xj.hm sQ);have ags:=ah (Cv (Xj.hm.below ((aK _ w1).drew)) (sQ.below ((aK _ w1).drew) (Xj.hm.lt (.inl rfl))));have HG1:=ah Xj;have Ha1:=ah dG;clear Xj sQ dG;go_wp2_with (first|((with_reducible refine(Kk.out).mono ?_);rintro e w2 ⟨rfl,hw2⟩;rw[hw2];clear hw2 w2)|((with_reducible refine(Sa.out).mono ?_);rintro e w2 ⟨rfl,hw2⟩;rw[hw2];clear hw2 w2)|((with_reducible refine(ags.out).mono ?_);rintro e w3 ⟨rfl,F3,Tt,ha3⟩));refine bodyPost_ret (v:=ag 0) eU rfl ⟨rfl,F3,(HG1.out.below ((aK _ w1).drew)).step Tt ha3,?_⟩;exact Ha1.out.trans (Alt.after ((aK _ w1).drew) ha3)
end Rp
namespace Top
open Go.RowKit aN fO Qt Ro Bk Ce La Ha In Vm Mc Tk Bo Ga Di Se
theorem Gm.side {w w' W0:World} {bG:Nat} {S:Stp} {bs rm dr bk:Value} {F G G':Fp} {c:List Int} {k:Nat} (h:Gm w W0 bG S bs rm dr bk F c) (a:Alt [] w G w' G' k) (hd:∀b,G.has b→¬F.has b∧b≠bG∧W0.heap.size≤b):Gm w' W0 bG S bs rm dr bk F c:=by have hb:∀b,b<w.heap.size→¬G.has b→w'.heap[b]?=w.heap[b]?:=fun b h1 h2=>a.block b h1 h2 av;exact⟨h.hm.keep fun b hF=>hb b (h.hm.lt hF) (fun hG=>(hd b hG).1 hF),⟨h.kG.blk.keep a.size (hb bG h.kG.blk.lt fun hG=>(hd _ hG).2.1 rfl),h.kG.no⟩,⟨⟨a.os.trans h.hs.jQ.os,a.tape.trans h.hs.jQ.tape,a.output.trans h.hs.jQ.output,aS h.hs.jQ.size a.size,fun b hlt=>(hb b (bH hlt h.hs.jQ.size) fun hG=>by have:=(hd b hG).2.2;omega).trans (h.hs.jQ.block b hlt)⟩,h.hs.new⟩,h.hS,h.h1⟩
theorem Ie {Z:Nat} {u w w':World} {G G':Fp} {k:Nat} (h:Below Z u w) (hZ:Z≤w.heap.size) (a:Alt [] w G w' G' k) (hd:∀b,G.has b→Z≤b):Below Z u w':=
 ⟨a.os.trans h.os,a.tape.trans h.tape,a.output.trans h.output,aS h.size a.size,fun b hb=>(a.block b ae (fun hh=>by have:=hd b hh;omega) av).trans (h.block b hb)⟩
theorem UF {w:World} {Z P n:Nat} {u:Value} (h:TQ Z P n u w):∃rows:List (List (Int×Int×Int)),rows.length=n∧qc w u rows∧∀R∈rows,R.length=P∧∀x∈R,-1≤x.1∧x.1≤1∧-1≤x.2.1∧x.2.1≤1∧0≤x.2.2∧x.2.2≤3:=by obtain⟨rb,cp,rows,rfl,hn,hok,hZ,hr⟩:=h;refine⟨rows,hn,⟨rb,cp,by rw[hn],fun t R hR=>?_⟩,hok⟩;obtain⟨u,h1,ib,iD,rfl,h2,h3,h4⟩:=hr t R hR;exact⟨ib,iD,h1,h3,h4⟩
structure Lr (W W0:World) (bG kb:Nat) (M:Mt) (bs rm dr:Value) (t:Nat) (wr:World) (F:Fp):Prop where
 bl:aJ W wr
 g:Gm wr W0 bG M.S bs rm dr (aR kb) F (M.st t)
 n:F.n≤40*(900001*t)
 lo:W.heap.size≤W0.heap.size∧W.heap.size≤bG
section
variable {W W0:World} {bG kb:Nat} {M:Mt} {bs rm dr:Value} {t:Nat} {w w':World} {F F':Fp}
theorem Lr.below (h:Lr W W0 bG kb M bs rm dr t w F) (hb:aJ w w'):Lr W W0 bG kb M bs rm dr t w' F:=
 ⟨h.bl.trans (hb.mono h.bl.size),h.g.below hb,h.n,h.lo⟩
theorem Lr.sz (h:Lr W W0 bG kb M bs rm dr t w F):W.heap.size≤w.heap.size:=h.bl.size
theorem Lr.tick (h:Lr W W0 bG kb M bs rm dr t w F) {k:Nat} (hg:Gm w' W0 bG M.S bs rm dr (aR kb) F' (M.st (t+1))) (a:Alt [] w F w' F' (40*k)) (hk:k≤900001):Lr W W0 bG kb M bs rm dr (t+1) w' F':=
 ⟨Ie h.bl h.bl.size a (fun b hb=>by have:=h.g.hs.new b hb;have:=h.lo;omega),hg,by have:=a.n;have:=h.n;omega,h.lo⟩
theorem Lr.side (h:Lr W W0 bG kb M bs rm dr t w F) {G G':Fp} {k:Nat} (a:Alt [] w G w' G' k) (hd:∀b,G.has b→¬F.has b∧b≠bG∧W0.heap.size≤b):Lr W W0 bG kb M bs rm dr t w' F:=
 ⟨Ie h.bl h.bl.size a (fun b hb=>by have:=(hd b hb).2.2;have:=h.lo;omega),Gm.side h.g a hd,h.n,h.lo⟩
end
theorem S9 {M:Mt} (hM:M.Ok) (hi:Fin M.S (qD M.S)∧cg (qD M.S) 0=0) {t:Nat} (ht:t<M.rows.length) {z:Nat} (hz:z≤M.ln t):2≤(its (M.par t) (M.st t) z).length∧(its (M.par t) (M.st t) z).length≤1000:=by
 have h1:=hM.hS.P8;have h2:=hM.hS.n24;have hl:=(Mt.FD hM hi ht).1;have hS:=M.vC t;have:(its (M.par t) (M.st t) z).length=qE M.S:=by
  rcases Nat.lt_or_ge z (M.ln t)with h|h
  ·have:=(hl.mid z h).1.len;rwa[hS]at this
  ·obtain rfl:z=M.ln t:=ae;have:=hl.fin.1.len;rwa[hS]at this
 rw[this];unfold qE;omega
structure Li (W wL:World) (FL:Fp) (p:Jd) (c:List Int) (bs rm dr code inp:Value) (b5:Nat) (j:Nat) (wr:World) (F:Fp):Prop where
 mp:Le p.S p.I p.R W bs rm dr code inp wr F (its p c j)
 k5:Kb wr F b5 [code,ag p.e0,ag p.e1,ag p.e2]
 al:Alt [] wL FL wr F (40*j)
section
variable {W wL:World} {FL:Fp} {p:Jd} {c:List Int} {bs rm dr code inp:Value} {b5:Nat} {j:Nat} {w w':World} {F F':Fp}
theorem Li.below (h:Li W wL FL p c bs rm dr code inp b5 j w F) (hb:aJ w w'):Li W wL FL p c bs rm dr code inp b5 j w' F:=
 ⟨h.mp.below hb,h.k5.below hb,h.al.below hb⟩
theorem Li.step (h:Li W wL FL p c bs rm dr code inp b5 j w F) (hm:aD w' F' (its p c (j+1))) (a:Alt [] w F w' F' 40):Li W wL FL p c bs rm dr code inp b5 (j+1) w' F':=
 ⟨h.mp.step hm a,h.k5.step a,(h.al.trans a).mono ae⟩
end
end Top
namespace Rp
open Go.RowKit aN fO Qt Ro Bk Ce La Ha In Vm Mc Tk Bo Ga Cl Se Di
attribute [local go_sem] Oper.semAt_some
variable {w:World} {bR kb bG:Nat} {S:Stp} {bs rm dr cv:Value}
theorem jM {W0:World} {Z:Nat} {bs' rm' tL:Value} {F:Fp} {c:List Int} (h:Rp0 w bR kb S bs rm dr bG bs' rm' tL W0 F c cv) (hZ:Z≤W0.heap.size∧Z≤bR) (kg:Kb w F 0 jH) (p:Jd) (hp:p.Ok) (P5:p.S=S) {nn:Nat} (hn:Len p c nn) (hnn:nn≤900001)
  {ib iD:Nat} (hin:InW w F ib iD p.R) (Xp:0≤cg c 0) (ht:cg c 0<6000)
  (hat:∀V,aJ w V→Calls prog 15 #[aR kb,ag (cg c 0)] V fun e w'=>∃v',e=.returned (.tuple #[ag p.cK,qQ v' p.e0 p.e1 p.e2])∧Ah V w' v' p.I∧aJ V w'):
  Calls prog 52 #[aR bR,aZ ib p.R.length iD] w fun e w'=>e=.returned (ag 0)∧(∃g cap,aV w' bR (Ny S bs rm dr kb 5 bG (aZ g 1 cap) cv))∧Below Z w w':=by
 obtain⟨k,hG,hF0,hno,hne⟩:=h;obtain⟨M,C,L,m⟩:=F;simp only at hF0;have hsi:=acB hG kg p hp P5 hn hnn ae hin Xp ht hat;have hP:1≤p.R.length∧p.R.length≤1000:=by have h1:=hp.hR;have h2:=hp.hS.P1;have h3:=hp.hS.P8;omega
 have hnew:=hG.hs.new;have hWw:=hG.hs.jQ.size;obtain⟨i1,i2,i3⟩:=hin;have cR:=k.cell;unfold Ny at cR;have lR:=k.lt;have Hk:=ah k;have Hi3:=ah i3;have HP:=ah hP;have arA:=ah hnew;obtain⟨R,hR⟩:∃R,R=p.R:=⟨_,rfl⟩
 rw[←hR]at hsi HP Hi3⊢;generalize WW:R.length=rl at*;have HlR:=ah WW;clear k hG kg hp P5 hn hat i3 hP hnew hR WW;have acC:=ah hsi;clear hsi;have gY:=results52;go_enter func52,ntmps52;go_upto_region 4 with(first|((with_reducible refine(acC.out).mono ?_);rintro e w1 ⟨rfl,F1,Xj,dG⟩));have k1:aV w1 bR _:=Hk.out.keep dG.size (dG.block bR lR hno av);have alz:Below Z w w1:=⟨dG.os,dG.tape,dG.output,dG.size,fun b hb=>dG.block b ae (fun hh=>by have:=arA.out b hh;omega) av⟩
 have acD:w1.heap[ib]?=w.heap[ib]?:=dG.block ib i1 i2 av;have hcl:=DN (w:=w1.drew) (ib:=ib) (iD:=iD) (R:=R) (by rw[HlR.out];exact HP.out) (fun i x hx=>⟨(bg (a:=⟨ib,i*3,none⟩) acD).trans (Hi3.out i x hx).1,(bg (a:=⟨ib,i*3+1,none⟩) acD).trans (Hi3.out i x hx).2.1,(bg (a:=⟨ib,i*3+2,none⟩) acD).trans (Hi3.out i x hx).2.2⟩);rw[HlR.out]at hcl;have c1:=k1.cell;unfold Ny at c1;have l1:=k1.lt;have Nn:=ah k1;clear cR lR acC Xj dG acD k1;have lH:=ah hcl;clear hcl;refine iR [1,2,3,4,5] [0] [6,7,8,9,10,11] 8 aL aL fun NL hL=>?_;obtain⟨dU,dV,hlf⟩:=hL;simp only[jA];repeat(go_big_quiet_step (fail))
 refine wpQuiet_nil ?_;repeat(go_big_quiet_step (fail))
 refine wpQuiet_nil ?_;clear dV hlf dU NL;refine sW (f:=59) (args:=#[aZ ib rl iD]) (w1:=w1.drew) bL rfl rfl bO lH.out ?_;rintro e w2 ⟨u,rfl,hIR,dW⟩;obtain⟨VT,Lb,rfl,j1,j2,j3⟩:=hIR;have Jc:aJ w1 w2:=(aK _ w1).drew.trans dW;have Vv:aJ w1 (w2.alloc (.cells #[aZ VT R.length Lb] 56)):=Jc.alloc Jc.size _;refine⟨_,rfl,⟨⟨w2,Jc⟩,rfl⟩,?_⟩;simp only[Act.put,dH];refine gN (v:=aZ w2.heap.size 1 1) (w1:=w2.alloc (.cells #[aZ VT R.length Lb] 56)) bL rfl rfl bO ⟨⟨_,Vv⟩,rfl⟩ ?_;simp only[Act.put,dH];refine kH rfl rfl ?_;refine oh Tryz.aer (.tmp 19) (.tmp 22) rfl w1.heap.size (.slice none 0 0) 0 [] rfl (jw _ _ _ _) w2.heap.size [aZ VT R.length Lb] rfl rfl (fun jj uu hj=>by rw[World.cell?_alloc_new];simpa using hj) il Vv.size ae ?_;intro g cap w5 iE oK lJ;have eY:aJ w1 w5:=Vv.trans (oK.below Vv.size (fun k e=>by cases e));have k5:=Nn.out.later eY;have⟨c5,f5,l5⟩:=k5;unfold Ny at c5;have Hk5:=ah k5;simp only[Act.put,dH];simp only[jA];with_reducible obtain⟨w6,hw6⟩:∃X,X=w5.setCell ⟨bR,19,none⟩ (aZ g 1 cap):=⟨_,rfl⟩
 with_reducible refine di (v:=aR bR) (w1:=w5) ?s1 ?s2 trivial ?s3
 case s1=>rfl
 case s2=>go_simp
 simp only[Act.put,dH];with_reducible refine di (v:=.pointer (some ⟨bR,19,none⟩)) (w1:=w5) ?s4 ?s5 trivial ?s6
 case s4=>rfl
 case s5=>go_simp
 simp only[Act.put,dH];with_reducible refine dY (w1:=w6) ?s7 ?s8 trivial ?s9
 case s7=>rfl
 case s8=>rw[hw6];go_simp
 simp only[Act.put,dH];refine fT ?_;have kF:aV w6 bR (Ny S bs rm dr kb 5 bG (aZ g 1 cap) cv):=by rw[hw6];exact Hk5.out.put 19 _
 have bF:Below Z w w6:=by rw[hw6];exact(alz.trans (eY.mono (by have:=alz.size;omega))).setCell hZ.2 _
 have cF:=kF.cell;unfold Ny at cF;have lF:=kF.lt;have HF:=ah (And.intro kF bF);clear hw6 kF bF c5 f5 l5 k5 c1 l1;go_upto_region 5 with(fail);go_simp;refine dD ?_;go_wp2;refine bodyPost_ret (v:=ag 0) eU rfl ⟨rfl,⟨_,_,HF.out.1.drew⟩,HF.out.2.drew⟩
theorem YH {a:Option Addr} {n cap:Nat} (k:aV w bR (Ny S bs rm dr kb 5 bG (.slice a n cap) cv)):
  Calls prog 53 #[aR bR] w fun e w'=>e=.returned (ag n)∧w'=w:=by have cR:=k.cell;unfold Ny at cR;have lR:=k.lt;clear k;go_enter func53,ntmps53;go_wp2;go_ret;exact⟨rfl,rfl⟩
end Rp
end Go.Proofs.YtohpdonnpbjfdaaGreatDoor
