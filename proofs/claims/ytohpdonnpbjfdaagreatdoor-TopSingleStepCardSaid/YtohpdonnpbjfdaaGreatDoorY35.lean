/- What is shown: setups and rows. Conditions: as each theorem states. -/
import Derived.Test.YtohpdonnpbjfdaaGreatDoorY34
set_option maxHeartbeats 40000000
set_option maxRecDepth 100000
set_option linter.unusedVariables false
set_option linter.unusedSimpArgs false
open Go.Proofs.Tryz
namespace Go.Proofs.YtohpdonnpbjfdaaGreatDoor
namespace Se
open Go.RowKit aN fO Qt Ro Bk Sh Cl La
attribute [local go_sem] Oper.semAt_some
theorem Tryz.afu:Inf prog 23 126 (.agg #[ag 0,.slice none 0 0,ag 0,ag 0,ag 0,ag 0,ag 0,ag 0,ag 0]) 9 88:=⟨info_parts aL,underlying23,rfl,bL,bL⟩
theorem Tryz.afv:Inf prog 22 3 (ag 0) 1 8:=⟨info_parts aL,underlying22,rfl,bL,bL⟩
theorem UQ {w:World} {a:Option Addr} {len cap:Nat} {z:List Int} (hl:Fr.tK .i64 w a len cap z):
  Calls prog 20 #[.slice a len cap] w fun e w'=>∃u,e=.returned u∧Yw u w'∧aJ w w':=by
 have IA:=ah fun(x:Int) (V:World) (h0: -9223372036854775808≤x) (h1:x≤9223372036854775807)=>nR x 1000000 V h0 h1 bL bL;have hIn:=row_in hl;have hlen:(len:Int)≤9223372036854775807:=by
  rcases Nat.eq_zero_or_pos len with h|h
  ·omega
  ·obtain⟨_,_,_,h1,h2,_⟩:=hIn h;simp only[maxLen]at h2;omega
 clear hl;go_enter func20,ntmps20;go_upto_region 1 with(fail);refine aP fun W hW=>?_;have k2:aV W w.heap.size (EZ 0 (.slice none 0 0) (.slice none 0 0) (.slice none 0 0) 0 0 0 0 0 0 0|>.set 2 (ag 0)|>.set 3 (ag 0)|>.set 4 (ag 0)|>.set 5 (ag 0)):=dm;have hbW:aJ w W:=aM;have hzW:w.heap.size<W.heap.size:=k2.lt;clear hW;have HIn:=ah hIn;have Fj:=ah k2;obtain⟨b2,dW⟩:∃b,b=w.heap.size:=⟨_,rfl⟩
 rw[←dW]at Fj hzW⊢;have Hb2:=ah dW;clear hIn k2 dW;have cZ:=au;obtain⟨Z,hZ⟩:∃Z,Z=W.heap.size:=⟨_,rfl⟩
 have HZ:=ah hZ;clear hZ;go_wp2;go_loopw [3,4] (fun v i wr=>∃(j:Nat) (us:List Value),j≤24∧(∀u∈us,∃x:Int,u=ag x∧0≤x∧x<1000000)∧i=ag j∧wr.ownsRow Z 3 1 v j us∧Z≤wr.heap.size∧Below Z W wr) (fun _ i _=>24-(intOf i).toNat);case atStart=>exact⟨0,[],ae,av,rfl,jw _ _ _ _,by rw[HZ.out];exact aH _,aK _ _⟩
 case round=>
  obtain⟨j,us,hj,hus,rfl,own,hZr,hbr⟩:=hrel;have Gt:Below W.heap.size W wr:=by rw[←HZ.out];exact hbr
  have Hus:=ah hus;have Hbr:=ah hbr;by_cases axu:j<24
  ·have UL:(j:Int)<24:=ae;have jO:=ah own;clear own hus hbr;go_upto_if 18 with(fail);go_cut [5] (fun v9 wx=>wx=wr∧∃n:Int,v9=ag n∧0≤n∧n<1000000);case first=>
    by_cases hjl:j<len
    ·obtain⟨b,o,rfl,_,_,hc⟩:=HIn.out ae;have hlI:(j:Int)<(len:Int):=ae;obtain⟨x,hx,UX,mg⟩:=hc j hjl;have hx':=ai (hbW.trans (Gt.mono hbW.size)) hx;have hbl:b<wr.heap.size:=by have:=aU _ _ hx';simpa using this
     have ha:=AQ x 1000000 bL;have U5:=ah (IA.out x wr UX mg);clear hc hx UX mg;go_wp2_with (first|((with_reducible refine(U5.out).mono ?_);rintro e w1 ⟨rfl,rfl⟩));go_meet;exact⟨rfl,_,rfl,ae,ae⟩
    ·have hlI:¬((j:Int)<(len:Int)):=ae;go_wp2;go_meet;exact⟨rfl,0,rfl,ae,ae⟩
   case rest=>
    obtain⟨hwx,n,rfl,n0,n1⟩:=hcut;obtain rfl:=hwx.symm;have ho:(wr.alloc (.cells #[ag n] 3)).ownsRow Z 3 1 u3 j us:=nC jO.out fun g e=>gV _ _ _ (gM jO.out g e).2;have KL:=ah ho;clear ho;go_wp2_with (refine qw rfl ?_;refine oh Tryz.afv (.tmp 24) (.tmp 26) rfl Z _ j us rfl KL.out wr.heap.size [ag n] rfl rfl (fun jj uu hj=>by rw[World.cell?_alloc_new];simpa using hj) il bU ae ?_;intro g cap w5 iE oK lJ;have C8:=ah iE;have mH:=ah oK;clear iE oK);refine⟨⟨j+1,us++[ag n],ae,fun u hu=>?_,av,by simpa using C8.out,?_,?_⟩,by simp[intOf];omega⟩
    ·rcases h_.1 hu with h|h
     ·exact Hus.out u h
     ·exact⟨n,uH.1 h,n0,n1⟩
    ·have:=mH.out.size;simp at this;omega
    ·exact(Hbr.out.trans ((((aK _ wr).alloc (aH _) (.cells #[ag n] 3))).mono hZr)).trans (mH.out.below bU fun k e=>(gM jO.out k e).1)
  ·obtain rfl:j=24:=ae;obtain⟨g,cp,rfl,BB,hg2,hg3⟩:=jX own ae;have hK:K4 wr g:=fun i hi=>by
    have hl:us.length=24:=by have:=own.1;simpa using this
    obtain⟨u,hu⟩:∃u,us[i]?=some u:=⟨_,ik ae⟩
    obtain⟨x,rfl,h⟩:=hus u (qo hu);exact⟨x,kL own i _ hu,h⟩
   have k2:=Fj.out.later Gt;have hbw:=hbW.trans (Gt.mono hbW.size);have hgb:b2<g:=by have:=HZ.out;omega
   clear own hus hbr Gt Hus Hbr IA HIn BB hZr hzW HZ Fj hbW hg3;obtain⟨x0,q0,x00,x01⟩:=hK 0 ae;obtain⟨x1,q1,x10,x11⟩:=hK 1 ae;obtain⟨x2,q2,x20,x21⟩:=hK 2 ae;obtain⟨x3,q3,x30,x31⟩:=hK 3 ae;obtain⟨p0,e0,g0⟩:∃x,x0.tmod 3=x∧0≤x∧x≤2:=⟨_,rfl,by rw[tm x00];omega⟩
   obtain⟨f1,e1,g1⟩:∃x,x1.tmod 9=x∧0≤x∧x≤8:=⟨_,rfl,by rw[tm x10];omega⟩
   obtain⟨f2,e2,g2⟩:∃x,x1.tdiv 9=x∧0≤x∧x≤1000000:=⟨_,rfl,by rw[td x10];omega⟩
   obtain⟨f3,e3,g3⟩:∃x,f2.tmod 5=x∧0≤x∧x≤4:=⟨_,rfl,by rw[tm g2.1];omega⟩
   obtain⟨d0,e4,g4⟩:∃x,x2.tmod 4=x∧0≤x∧x≤3:=⟨_,rfl,by rw[tm x20];omega⟩
   obtain⟨d1,e5,g5⟩:∃x,x2.tdiv 4=x∧0≤x∧x≤1000000:=⟨_,rfl,by rw[td x20];omega⟩
   obtain⟨d2,e6,g6⟩:∃x,d1.tmod 3=x∧0≤x∧x≤2:=⟨_,rfl,by rw[tm g5.1];omega⟩
   obtain⟨d3,e7,g7⟩:∃x,x2.tdiv 12=x∧0≤x∧x≤1000000:=⟨_,rfl,by rw[td x20];omega⟩
   obtain⟨d4,e8,g8⟩:∃x,d3.tmod 3=x∧0≤x∧x≤2:=⟨_,rfl,by rw[tm g7.1];omega⟩
   obtain⟨h0,e9,g9⟩:∃x,x2.tdiv 36=x∧0≤x∧x≤1000000:=⟨_,rfl,by rw[td x20];omega⟩
   obtain⟨h1,e10,g10⟩:∃x,h0.tmod 3=x∧0≤x∧x≤2:=⟨_,rfl,by rw[tm g9.1];omega⟩
   have i0:IntKind.i64.wrap (1+p0)=1+p0:=gL _ ae;have i1:IntKind.i64.wrap (f1*1000)=f1*1000:=gL _ ae;have i2:IntKind.i64.wrap (4000+f1*1000)=4000+f1*1000:=gL _ ae;have i3:IntKind.i64.wrap (f2)=f2:=gL _ ae;have i4:IntKind.i64.wrap (f3*100)=f3*100:=gL _ ae;have i5:IntKind.i64.wrap (d0*100)=d0*100:=gL _ ae;have i6:IntKind.i64.wrap (d1)=d1:=gL _ ae;have i7:IntKind.i64.wrap (d2*512)=d2*512:=gL _ ae;have i8:IntKind.i64.wrap (d3)=d3:=gL _ ae;have i9:IntKind.i64.wrap (1+d4)=1+d4:=gL _ ae;go_upto_region 9 with(fail);have HK:=ah hK;have Fj:=ah k2;clear hK k2;refine Qm.fF 36 6 #[ag 0,.slice none 0 0,ag 0,ag 0,ag 0,ag 0,.slice none 0 0,.slice none 0 0,ag 0,ag 0,ag 0,ag 0,ag 0,ag 0,ag 0,ag 0] 31 rfl aL aL (fun o ho ev w=>by have ho':=bD ho;rw[←ho'];exact rfl) fun NL hL=>?_;obtain⟨dU,dV,hlf⟩:=hL;(try simp only[bf]at dU);simp only[dS];repeat((refine kI (fun K hK=>?_);go_simp;(repeat(simp only[↓IntWalk.iteOmega];(try go_simp))));first|(refine hK _ ?_;clear hK K)|(apply Exists.intro;refine⟨fun x=>?_,hK _ ?_⟩;(first|fail);clear hK K))
   (refine jq ?_;intro b1 w1 aO ek uX lU zn;(try simp only[bf]at lU);clear dV hlf dU NL;obtain⟨N1,dA,bW,eu,eF⟩:=eB aO;(try simp only[bf]at dA));have k1:aV w1 b1 [ag 0,.slice none 0 0,ag 0,ag 0,ag 0,ag 0,.slice none 0 0,.slice none 0 0,ag 0,ag 0,ag 0,ag 0,ag 0,ag 0,ag 0,ag 0]:=⟨fun i=>by rw[ek i];simp,uX,zn⟩
   have hgw:g<wr.heap.size:=hg2;clear ek uX bW eu eF dA N1;have c1:=k1.cell;have f1':=k1.free;simp only[Act.put,dH];go_upto_region 10 with(fail);refine aP fun W9 hW9=>?_;have k9:aV W9 b1 (EZ (1+p0) (.slice none 0 0) (.slice none 0 0) (.slice none 0 0) (4000+f1*1000) 0 (f3*100) (d0*100) (d2*512) (1+d4) 60):=by rw[hW9];exact((((((((((((((((k1.put 0 _).put 1 _).put 2 _).put 3 _).put 4 _).put 5 _).put 6 _).put 7 _).put 8 _).put 9 _).put 10 _).put 11 _).put 12 _).put 13 _).put 14 _).put 15 _)
   have Cn:aJ wr W9:=by rw[hW9];exact aG
   clear hW9 k1 c1 f1' zn aO i0 i1 i2 i3 i4 i5 i6 i7 i8 i9;have q2':=ai Cn q2;have⟨c9,f9,_⟩:=k9;unfold EZ at c9;have l9:=k9.lt;have hg9:g<W9.heap.size:=by have:=Cn.size;omega
   go_upto_region 12 with(fail);refine aP fun WA QX=>?_;obtain⟨bR,hbR⟩:∃b,b=W9.heap.size:=⟨_,rfl⟩
   have kA:aV WA b1 (EZ (1+p0) (.slice none 0 0) (aZ bR 3 3) (.slice none 0 0) (4000+f1*1000) (-h1*40) (f3*100) (d0*100) (d2*512) (1+d4) 60):=by rw[QX,hbR];exact(((k9.put 9 _).put 10 _).put 6 _).alloc _
   have kR:aV WA bR [ag (-12000),ag (-9000),ag (-1),ag 9000,ag 0,ag 0,ag 12000,ag 9000,ag 0,ag (-9000),ag 12000,ag (-1)]:=by rw[QX,hbR];exact aV.new _ _ _ _ av
   have kY:aJ wr WA:=by rw[QX];exact(((Cn.setCell lU _).setCell lU _).setCell lU _).alloc (by have:=Cn.size;simp;omega) _
   have hgv: -h1*40= -(h1*40):=ae;have afy:bR≠b1:=ae;have Q3:wr.heap.size≤bR:=by have:=Cn.size;omega
   clear QX k9 c9 f9 Cn q2' hbR l9;have q3':=ai kY q3;have⟨cA,fA,_⟩:=kA;unfold EZ at cA;have lA:=kA.lt;have hgA:g<WA.heap.size:=by have:=kY.size;omega
   obtain⟨r0,e11,g11⟩:∃x,x3.tmod 3=x∧0≤x∧x≤2:=⟨_,rfl,by rw[tm x30];omega⟩
   obtain⟨r1,e12,g12⟩:∃x,x3.tdiv 3=x∧0≤x∧x≤1000000:=⟨_,rfl,by rw[td x30];omega⟩
   obtain⟨r2,e13,g13⟩:∃x,r1.tmod 3=x∧0≤x∧x≤2:=⟨_,rfl,by rw[tm g12.1];omega⟩
   go_cut [] (fun wx=>∃(dv:Value) (D:List (Int×Int)),aV wx b1 (EZ (1+p0) (.slice none 0 0) (aZ bR 3 3) dv (4000+f1*1000) (-h1*40) (f3*100) (d0*100) (d2*512) (1+d4) 60)∧kZ wx dv D∧D.length≤2∧(∀d∈D,d.1≠d.2∧0≤d.1∧d.1<3∧0≤d.2∧d.2<3)∧vO WA.heap.size b1 WA wx∧∀q l c,dv=aZ q l c→WA.heap.size≤q∧q<wx.heap.size);case first=>
    obtain rfl|rfl|rfl:r0=0∨r0=1∨r0=2:=ae;all_goals
     refine az ?_;intro hal bu
     go_wp2
     go_meet
    ·refine⟨_,[],((((kA.alloc _).alloc _).alloc _).alloc _).put 7 _,.inl ⟨rfl,.inr ⟨_,rfl⟩⟩,av,av,((vO.refl _ _ _).below aG).set 7 _,fun q l c e=>?_⟩;injection e with e _ _;injection e with e;injection e with e;subst e;constructor<;>simp<;>omega
    ·refine⟨_,[(0,1)],((((kA.alloc _).alloc _).alloc _).alloc _).put 7 _,.inr ⟨av,_,_,rfl,fun i x hx=>?_⟩,av,av,((vO.refl _ _ _).below aG).set 7 _,fun q l c e=>?_⟩
     ·obtain rfl:i=0:=by have:=(List.getElem?_eq_some_iff.1 hx).1;simp at this;omega
      obtain rfl:(0,1)=x:=by simpa using hx
      simp[cZ,hal,↓IntWalk.iteOmega]
     ·injection e with e _ _;injection e with e;injection e with e;subst e;constructor<;>(try simp)<;>omega
    ·refine⟨_,[(0,2),(1,2)],((((kA.alloc _).alloc _).alloc _).alloc _).put 7 _,.inr ⟨av,_,_,rfl,fun i x hx=>?_⟩,av,av,((vO.refl _ _ _).below aG).set 7 _,fun q l c e=>?_⟩
     ·obtain rfl|rfl:i=0∨i=1:=by have:=(List.getElem?_eq_some_iff.1 hx).1;simp at this;omega
      ·obtain rfl:(0,2)=x:=by simpa using hx
       simp[cZ,hal,↓IntWalk.iteOmega]
      ·obtain rfl:(1,2)=x:=by simpa using hx
       simp[cZ,hal,↓IntWalk.iteOmega]
     ·injection e with e _ _;injection e with e;injection e with e;subst e;constructor<;>(try simp)<;>omega
   case rest=>
    obtain⟨dv,D,kD,hD,hD2,hDo,AY,hdv⟩:=hcut;have kR':aV wc bR _:=kR.keep AY.size (AY.block bR kR.lt afy);have hbD:aJ wr wc:=⟨AY.os.trans kY.os,AY.tape.trans kY.tape,AY.output.trans kY.output,aS kY.size AY.size,fun k hk=>(AY.block k (bH hk kY.size) ae).trans (kY.block k hk)⟩
    have TN:K4 wc g:=fun i hi=>by obtain⟨x,h1,h2⟩:=HK.out i hi;exact⟨x,ai hbD h1,h2⟩
    have k2:=Fj.out.later hbD;have hgc:g<wc.heap.size:=by have:=hbD.size;omega
    have ajC:g≠b1:=ae;have ajD:b2≠b1:=by have:=Fj.out.lt;omega
    have apG:b2<bR:=by have:=Fj.out.lt;omega
    have q3c:=ai hbD q3;have Hdv:=ah hdv;have HD:=ah hD;have HDo:=ah hDo;have HkR:=ah kR';have apI:=ah k2;have HKc:=ah TN;obtain⟨F,hF,hF1⟩:∃F,F=4000+f1*1000∧0≤F∧F≤4194304:=⟨_,rfl,ae,ae⟩
    obtain⟨GY,hGY,ajG⟩:∃F,F= -h1*40∧-16384≤F∧F≤16384:=⟨_,rfl,ae,ae⟩
    obtain⟨PU,hPU,ajI⟩:∃F,F=f3*100∧0≤F∧F≤16384:=⟨_,rfl,ae,ae⟩
    obtain⟨DG,hDG,ajJ⟩:∃F,F=d0*100∧0≤F∧F≤1024:=⟨_,rfl,ae,ae⟩
    obtain⟨RE,hRE,ajL⟩:∃F,F=d2*512∧0≤F∧F≤1024:=⟨_,rfl,ae,ae⟩
    obtain⟨RO,hRO,ajN⟩:∃F,F=1+d4∧1≤F∧F≤4:=⟨_,rfl,ae,ae⟩
    rw[←hF,←hGY,←hPU,←hDG,←hRE,←hRO]at kD;have Vu:=ah (And.intro hF1 (And.intro ajG (And.intro ajI (And.intro ajJ (And.intro ajL ajN)))));clear hF hF1 hGY ajG hPU ajI hDG ajJ hRE ajL hRO ajN hgv;clear g1 g2 g3 g4 g5 g6 g7 g8 g9 g10 g11;have hszW:=AY.size;have Q4:=kR.lt;have Vv:=kA.lt;clear hdv hD hDo kR' kR k2 TN HK Fj kY AY cA fA lA kA hgA q3' q0 q1 q2 q3 x00 x01 x10 x11 x20 x21 x30 x31 e0 e1 e2 e3 e4 e5 e6 e7 e8 e9 e10 e11;obtain⟨Y,hY⟩:∃Y,Y=wc.heap.size:=⟨_,rfl⟩
    have HY:=ah hY;have axB:b1<Y:=by have:=kD.lt;omega
    have ad5:(∀q l c,(Value.slice (some ⟨bR,0,none⟩) 3 3)=aZ q l c→q<Y∧q≠b1)∧(∀q l c,dv=aZ q l c→q<Y∧q≠b1∧q≠b2)∧b2<Y∧b2≠bR:=⟨fun q l c e=>by injection e with e _ _;injection e with e;injection e with e;omega,fun q l c e=>by have:=Hdv.out q l c e;omega,ae,ae⟩
    have Ad:=ah ad5;clear hY ad5;go_wp2;go_loopw [7] (fun i wq=>∃(j:Nat) (Ls:List (yx×List Value)) (v:Value),(j:Int)≤1+p0+r2∧i=ag j∧Lp wc wq Y b1 126 v j Ls∧aV wq b1 (EZ (1+p0) v (aZ bR 3 3) dv F GY PU DG RE RO 60)) (fun i _=>24-(intOf i).toNat);case atStart=>exact⟨0,[],_,ae,rfl,⟨jw _ _ _ _,rfl,vO.refl _ _ _,by rw[HY.out];exact aH _,av⟩,kD⟩
    case round=>
     clear kD;obtain⟨j,Ls,v,hj,rfl,hL,k1⟩:=hrel;have c1:=k1.cell;have l1:=k1.lt;unfold EZ at c1;have hYc:=HY.out;have hcg:∀i x,wc.cell? ⟨g,i,none⟩=some x→wr.cell? ⟨g,i,none⟩=some x:=fun i x h=>(bg (a:=⟨g,i,none⟩) (hL.al.block g ae ajC)).trans h;have q3r:=hcg _ _ q3c;have lgq:g<wr.heap.size:=by have:=hL.sz;omega
     have HL:=ah hL;by_cases hjN:(j:Int)<1+p0+r2
     ·have hj4:j≤4:=ae;obtain⟨a4,ha4,lY⟩:∃x:Nat,4+2*(j:Int)=(x:Int)∧x<24:=⟨4+2*j,ae,ae⟩
      obtain⟨a5,ha5,eY⟩:∃x:Nat,5+2*(j:Int)=(x:Int)∧x<24:=⟨5+2*j,ae,ae⟩
      obtain⟨n,qn,n0,n1⟩:=HKc.out a4 lY;obtain⟨m,qm,m0,m1⟩:=HKc.out a5 eY;replace qn:=hcg _ _ qn;replace qm:=hcg _ _ qm;have apJ:=ah fun(V:World)=>Nu n V ae ae;clear hcg q3c HKc hL;have apK:(a4:Int)<24:=ae;have apL:(a5:Int)<24:=ae;obtain⟨mA,d1,d10⟩:∃x,m.tmod 50=x∧0≤x∧x≤49:=⟨_,rfl,by rw[tm m0];omega⟩
      obtain⟨nB,d2,d20⟩:∃x,n.tmod 7=x∧0≤x∧x≤6:=⟨_,rfl,by rw[tm n0];omega⟩
      go_upto_region 14 with(fail);refine dD ?_;go_upto_region 19 with(first|((with_reducible refine(apJ.out _).mono ?_);rintro e w1 ⟨r,sa,sl,sc,zs,rfl,hsa,hso,aO⟩));refine aP fun W3 IM=>?_;have k10:aV W3 w1.heap.size [ag r,.slice sa sl sc,ag 0,ag 0,ag 0,ag 0,ag 0,ag mA,ag nB]:=by rw[IM];exact aV.new _ _ _ _ rfl
      have gK:aJ w1 W3:=by rw[IM];exact aG
      clear IM;have MZ:aJ wr w1:=(aK _ wr).drew.trans aO;have Vw:aJ wr W3:=MZ.trans (gK.mono MZ.size);have nk:wr.heap.size≤w1.heap.size:=MZ.size;have hz3:=gK.size;obtain⟨b10,Vx⟩:∃b,b=w1.heap.size:=⟨_,rfl⟩
      rw[←Vx]at k10⊢;have⟨c10,f10,l10⟩:=k10;have Hsa:=ah hsa;have ajO:=ah Vx;clear hsa Vx c1 q3r qn qm aO;obtain⟨t1,y1,z1⟩:∃x,n.tdiv 1000=x∧0≤x∧x≤1000000:=⟨_,rfl,by rw[td n0];omega⟩
      obtain⟨t2,y2,z2⟩:∃x,t1.tmod 13=x∧0≤x∧x≤12:=⟨_,rfl,by rw[tm z1.1];omega⟩
      obtain⟨t3,y3,z3⟩:∃x,m.tdiv 50=x∧0≤x∧x≤1000000:=⟨_,rfl,by rw[td m0];omega⟩
      obtain⟨t4,y4,z4⟩:∃x,t3.tmod 11=x∧0≤x∧x≤10:=⟨_,rfl,by rw[tm z3.1];omega⟩
      obtain⟨t5,y5,z5⟩:∃x,m.tdiv 550=x∧0≤x∧x≤1000000:=⟨_,rfl,by rw[td m0];omega⟩
      obtain⟨t6,y6,z6⟩:∃x,t5.tmod 9=x∧0≤x∧x≤8:=⟨_,rfl,by rw[tm z5.1];omega⟩
      obtain⟨t7,y7,z7⟩:∃x,n.tdiv 13000=x∧0≤x∧x≤1000000:=⟨_,rfl,by rw[td n0];omega⟩
      obtain⟨t8,y8,z8⟩:∃x,t7.tmod 9=x∧0≤x∧x≤8:=⟨_,rfl,by rw[tm z7.1];omega⟩
      obtain⟨t9,y9,z9⟩:∃x,m.tdiv 5000=x∧0≤x∧x≤1000000:=⟨_,rfl,by rw[td m0];omega⟩
      obtain⟨tX,y10,z10⟩:∃x,t9.tmod 5=x∧0≤x∧x≤4:=⟨_,rfl,by rw[tm z9.1];omega⟩
      have i0:IntKind.i64.wrap (t1)=t1:=gL _ ae;have i1:IntKind.i64.wrap (t2-6)=t2-6:=gL _ ae;have i2:IntKind.i64.wrap ((t2-6)*900)=(t2-6)*900:=gL _ ae;have i3:IntKind.i64.wrap (t3)=t3:=gL _ ae;have i4:IntKind.i64.wrap (t4-5)=t4-5:=gL _ ae;have i5:IntKind.i64.wrap ((t4-5)*800)=(t4-5)*800:=gL _ ae;have i6:IntKind.i64.wrap (t5)=t5:=gL _ ae;have i7:IntKind.i64.wrap (t6-4)=t6-4:=gL _ ae;have i8:IntKind.i64.wrap ((t6-4)*300)=(t6-4)*300:=gL _ ae;have i9:IntKind.i64.wrap (t7)=t7:=gL _ ae;have i10:IntKind.i64.wrap (t8-4)=t8-4:=gL _ ae;have i11:IntKind.i64.wrap ((t8-4)*300)=(t8-4)*300:=gL _ ae;have i12:IntKind.i64.wrap (t9)=t9:=gL _ ae;have ajP:∀im:Int,0≤im∧im≤4096→BOk ⟨r,zs,(t2-6)*900,(t4-5)*800,(t6-4)*300,(t8-4)*300,im,mA,nB⟩:=fun im him=>⟨by simp only;omega,by simp only;omega,by simp only;omega,by simp only;omega,him,d10,d20⟩
      have apN:=ah ajP;clear ajP;have hal:=aQ;have bu:=dL;go_cut [] (fun wx=>∃px py vx vy im:Int,BOk ⟨r,zs,px,py,vx,vy,im,mA,nB⟩∧aV wx b10 (Yx ⟨r,zs,px,py,vx,vy,im,mA,nB⟩ (.slice sa sl sc))∧vO W3.heap.size b10 W3 wx);case first=>
       have hX:tX=0∨tX=1∨tX=2∨tX=3∨tX=4:=ae;clear z1 z2 z3 z4 z5 z6 z7 z8 z9 z10 d10 d20 d1 d2 n0 n1 m0 m1 ha4 ha5 lY eY apK apL hj4 g0 g12 g13 hj hjN hYc afy hgw hgc ajC ajD hD2 hszW Q4 Vv apG nk hz3 hlen lU hgb;rcases hX with rfl|rfl|rfl|rfl|rfl;all_goals
        go_wp2
        go_meet
        refine⟨(t2-6)*900,(t4-5)*800,(t6-4)*300,(t8-4)*300,?_,?_,?_,?_⟩
        rotate_left 2
        ·first
          |exact((((((k10.put 2 _).put 3 _).put 4 _).put 5 _).put 6 _).alloc _)
          |exact((((((k10.alloc _).put 2 _).put 3 _).put 4 _).put 5 _).put 6 _)
        ·first
          |exact(((((((vO.refl _ _ _).set 2 _).set 3 _).set 4 _).set 5 _).set 6 _).alloc av _)
          |exact(((((((vO.refl _ _ _).alloc (aH _) _).set 2 _).set 3 _).set 4 _).set 5 _).set 6 _)
        ·exact apN.out _ bL
      case rest=>
       obtain⟨px,py,vx,vy,im,hbo,kx,hax⟩:=hcut;have Hbo:=ah hbo;obtain⟨B,hBe⟩:∃B:yx,B=⟨r,zs,px,py,vx,vy,im,mA,nB⟩:=⟨_,rfl⟩
       have HB:=ah hBe;have hbx:aJ wr wc:=⟨hax.os.trans Vw.os,hax.tape.trans Vw.tape,hax.output.trans Vw.output,aS Vw.size hax.size,fun k hk=>(hax.block k (bH hk Vw.size) (by have:=ajO.out;omega)).trans (Vw.block k hk)⟩
       have k1x:=k1.later hbx;have c1x:=k1x.cell;unfold EZ at c1x;have cx:=kx.cell;unfold Yx at cx;simp only at cx;have lx:=kx.lt;have l1x:=k1x.lt;have hxA:aJ wr (wc.alloc (.cells (Yx ⟨r,zs,px,py,vx,vy,im,mA,nB⟩ (.slice sa sl sc)).toArray 126)):=hbx.alloc hbx.size _;have hoX:(wc.alloc (.cells (Yx ⟨r,zs,px,py,vx,vy,im,mA,nB⟩ (.slice sa sl sc)).toArray 126)).ownsRow Y 126 9 v j (Ls.flatMap (·.2)):=nC HL.out.own fun g e=>hxA.block g (gM HL.out.own g e).2;have k1A:=k1.later hxA;have H1A:=ah k1A;have hYx:Y≤(wc.alloc (.cells (Yx ⟨r,zs,px,py,vx,vy,im,mA,nB⟩ (.slice sa sl sc)).toArray 126)).heap.size:=aS HL.out.sz hxA.size;have HxA:=ah hxA;have Hax:=ah hax;have HYx:=ah hYx;clear i0 i1 i2 i3 i4 i5 i6 i7 i8 i9 i10 i11 i12;clear hbo hBe k10 c10 f10 l10 k1 k1x k1A hxA hax hYx y1 y2 y3 y4 y5 y6 y7 y8 y9 y10 d1 d2 hal bu kx;have apR:=ah hoX;clear hoX;go_wp2_with (refine qw rfl ?_;refine oh Tryz.afu (.tmp 154) (.tmp 156) rfl Y v j _ rfl apR.out wc.heap.size (Yx ⟨r,zs,px,py,vx,vy,im,mA,nB⟩ (.slice sa sl sc)) rfl rfl (fun jj uu hj=>by rw[World.cell?_alloc_new];simpa[Yx]using hj) (by simp[Yx,Value.oneCell']) HYx.out ae ?_;intro g5 cap5 w5 iE oK lJ;have k15:=H1A.out.keep oK.size (oK.block b1 H1A.out.lt (fun e=>by have:=(gM HL.out.own b1 e).1;omega));have c15:=k15.cell;unfold EZ at c15;have f15:=k15.free;have l15:=k15.lt;have H15:=ah k15;have C8:=ah iE;have mH:=ah oK;clear iE oK k15);have hY1:Below Y wr _:=HxA.out.mono HL.out.sz;have KJ:=mH.out.below HYx.out (fun k e=>(gM HL.out.own k e).1);have apS:g5≠b1:=ae;have abL:=mH.out.size;have apT:=HxA.out.size;have hdw:wr.drew.heap.size=wr.heap.size:=rfl;have atN:wr.heap.size≤wc.heap.size+1:=by simpa using apT
       have atO:wc.heap.size+1≤w5.heap.size:=by simpa using abL
       refine⟨⟨j+1,Ls++[(⟨r,zs,px,py,vx,vy,im,mA,nB⟩,Yx ⟨r,zs,px,py,vx,vy,im,mA,nB⟩ (.slice sa sl sc))],aZ g5 (j+1) cap5,ae,av,⟨?_,by simp[HL.out.len],((HL.out.al.below hY1).below KJ).set 1 _,?_,?_⟩,?_⟩,by simp[intOf];omega⟩
       ·have hh:=nC (w':=w5.setCell ⟨b1,1,none⟩ (aZ g5 (j+1) cap5)) C8.out fun g e=>by have e1:g5=g:=bD e;exact dI _ _ _ _ (by rw[←e1];exact apS)
        rw[List.flatMap_append];simpa using hh
       ·have:=HYx.out;simp only[World.size_setCell];omega
       ·intro x hx;rcases h_.1 hx with hx|hx
        ·refine(HL.out.bv x hx).keep (by simp only[World.size_setCell];omega) (fun p h1 h2 h3=>?_) (fun p e=>?_)
         ·exact(dI _ _ _ _ (show p≠b1 from ae)).trans ((mH.out.block p (by simp only[World.size_alloc];omega) h3).trans (HxA.out.block p h1))
         ·have e1:g5=p:=bD e;rcases mH.out.new with h|h
          ·exact .inl (by rw[←e1];exact h)
          ·exact .inr (by simp only[World.size_alloc]at h;omega)
        ·obtain rfl:x=_:=uH.1 hx;have hkk:∀p,wr.heap.size≤p→p<w1.heap.size→(w5.setCell ⟨b1,1,none⟩ (aZ g5 (j+1) cap5)).heap[p]?=w1.heap[p]?:=fun p h1 h2=>by
          have hq1:p<wc.heap.size:=by have:=Hax.out.size;omega
          have hq2:v.ownBlock≠some p:=fun e=>by have:=(gM HL.out.own p e).2;omega
          refine(dI _ _ _ _ (show p≠b1 by have:=HL.out.sz;omega)).trans ((mH.out.block p bU hq2).trans ((gV _ _ _ hq1).trans ((Hax.out.block p ae (by have:=ajO.out;omega)).trans (gK.block p h2))))
         refine⟨sa,sl,sc,rfl,pX Hsa.out fun q hq=>?_,?_,Hbo.out⟩
         ·rcases hso with h|⟨p,h,h1⟩
          ·rw[h]at hq;cases hq
          ·rw[h]at hq;obtain rfl:=bD hq;have h2:=Hsa.out;rw[h]at h2;exact hkk p ae (zS h2)
         ·rcases hso with h|⟨p,h,h1⟩
          ·exact .inl h
          ·have h2:=Hsa.out;rw[h]at h2;have h3:=zS h2;refine .inr ⟨p,h,by have:=Hax.out.size;simp only[World.size_setCell];simp only[World.size_alloc]at abL;omega,by have:=HL.out.sz;omega,fun e=>?_⟩;have e1:g5=p:=bD e;rcases mH.out.new with h4|h4
           ·have:=(gM HL.out.own g5 h4).2;omega
           ·simp only[World.size_alloc]at h4;have:=Hax.out.size;omega
       ·exact H15.out.put 1 _
     ·have axM:(j:Int)=1+p0+r2:=ae;obtain⟨g',cap',rfl,hgY,hgs,apU⟩:=jX hL.own ae;have k2r:aV wr b2 _:=apI.out.keep hL.al.size (hL.al.block b2 Ad.out.2.2.1 ajD);have⟨c2r,f2r,l2r⟩:=k2r;unfold EZ at c2r;simp only[List.set_cons_zero,List.set_cons_succ]at c2r;have Yy:aJ w wc:=hbw.trans (hbD.mono hbw.size);have apW:=ah k2r;clear hcg q3c HKc hL k1 k2r hbD;obtain⟨da,dl,dc,rfl⟩:∃a l c,dv=.slice a l c:=by rcases HD.out with⟨_,h|⟨_,h⟩⟩|⟨_,_,_,h,_⟩<;>exact⟨_,_,_,h⟩
      go_upto_region 14 with(fail);refine dD ?_;go_wp2;obtain⟨P,hP⟩:∃P:Nat,(P:Int)=1+p0:=⟨(1+p0).toNat,ae⟩
      have hD':=kZ.al HD.out (fun q l c e=>⟨(Ad.out.2.1 q l c e).1,(Ad.out.2.1 q l c e).2.1⟩) HL.out.al;have hRr:aV wr bR _:=HkR.out.keep HL.out.al.size (HL.out.al.block bR (Ad.out.1 bR _ _ rfl).1 afy);have hsz:=HL.out.sz;have hYs:=HL.out.al.size;have kF:=((((((((((((((((apW.out.put 0 (ag (1+p0))).put 1 (aZ g' j cap')).put 2 (ag (-12000))).put 3 (ag (-9000))).put 4 (ag 12000)).put 5 (ag 9000)).put 6 (aZ bR 3 3)).put 7 (.slice da dl dc)).put 8 (ag F)).put 9 (ag 0)).put 10 (ag GY)).put 11 (ag PU)).put 12 (ag DG)).put 13 (ag RE)).put 14 (ag RO)).put 15 (ag 60))
      simp only[EZ,List.set_cons_zero,List.set_cons_succ]at kF;refine bodyPost_ret (ajR kF.drew _ rfl) rfl ?_;clear kF;rw[←hP];refine⟨_,rfl,KG (b2:=b2) (Y:=Y) HL.out.own HL.out.len HL.out.bv ?_ Ad.out.2.2.1 hgY hRr (Ne.symm Ad.out.2.2.2) hD' (fun q l c e=>⟨by have:=(Ad.out.2.1 q l c e).1;omega,(Ad.out.2.1 q l c e).2.2⟩) hD2 HDo.out apU ae ae Vu.out.1 Vu.out.2.1 Vu.out.2.2.1 Vu.out.2.2.2.1 Vu.out.2.2.2.2.1 Vu.out.2.2.2.2.2,?_⟩
      ·(repeat(with_reducible first|refine vO.drew ?_|refine vO.set ?_ _ _));with_reducible exact vO.refl _ _ _
      ·have apX:aJ w wr:=⟨HL.out.al.os.trans Yy.os,HL.out.al.tape.trans Yy.tape,HL.out.al.output.trans Yy.output,aS Yy.size HL.out.al.size,fun x hx=>(HL.out.al.block x (by have:=Ad.out.2.2.1;have:=Hb2.out;omega) (by have:=hbw.size;omega)).trans (Yy.block x hx)⟩
       have axN:=Hb2.out;(repeat(with_reducible first|refine Below.drew ?_|refine Below.setCell ?_ aX _));with_reducible exact apX
end Se
end Go.Proofs.YtohpdonnpbjfdaaGreatDoor
