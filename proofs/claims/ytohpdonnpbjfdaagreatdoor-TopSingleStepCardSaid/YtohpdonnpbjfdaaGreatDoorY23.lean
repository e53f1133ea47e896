/- What is shown: package shape. Conditions: as each theorem states. -/
import Derived.BigRegion
import Derived.LoopTactic
import Derived.RegionTactic
import Derived.Test.YtohpdonnpbjfdaaGreatDoorY22
set_option maxHeartbeats 40000000
set_option maxRecDepth 100000
set_option linter.unusedVariables false
set_option linter.unusedSimpArgs false
open Go.Proofs.Tryz
namespace Go.Proofs.YtohpdonnpbjfdaaGreatDoor
theorem gD {P:Prop} (h:P:=by have:=hz i;omega):P:=h
namespace Sh
open Go.RowKit aN fO Qt Ve Go.Shelf
variable {W w W':World} {B3 B4 B6:Nat} {x y b0 b1 b2 b3:Int}
def qF (f:Nat→Int):Nat→Int
 |0=>f 0
 |k+1=>min (qF f k) (f (k+1))
def qG (f:Nat→Int):Nat→Int
 |0=>f 0
 |k+1=>max (qG f k) (f (k+1))
structure Xb (w W:World) (B3 B4 B6:Nat) (x y b0 b1 b2 b3:Int):Prop where
 below:aJ w W
 h4:w.heap.size≤B4
 h6:w.heap.size≤B6
 n36:B3≠B6
 n46:B4≠B6
 p0:W.cell? ⟨B3,0,none⟩=some (ag x)
 p1:W.cell? ⟨B3,1,none⟩=some (ag y)
 r0:W.cell? ⟨B4,0,none⟩=some (ag 0)
 r1:W.cell? ⟨B4,1,none⟩=some (ag 0)
 r2:W.cell? ⟨B4,2,none⟩=some (ag 0)
 r3:W.cell? ⟨B4,3,none⟩=some (ag 0)
 rf:∀i,W.frozen? ⟨B4,i,none⟩=false
 c0:W.cell? ⟨B6,0,none⟩=some (ag b0)
 c1:W.cell? ⟨B6,1,none⟩=some (ag b1)
 c2:W.cell? ⟨B6,2,none⟩=some (ag b2)
 c3:W.cell? ⟨B6,3,none⟩=some (ag b3)
 cf:∀i,W.frozen? ⟨B6,i,none⟩=false
theorem jv (hb:aJ W W') {b o i:Nat} {v:Value} (hc:W.cell? ⟨b,o,none⟩=some v) (hf:W.frozen? ⟨b,i,none⟩=false):W'.frozen? ⟨b,i,none⟩=false:=
 (hb.frozen (p:=⟨b,i,none⟩) (aU W ⟨b,o,none⟩ hc)).trans hf
theorem Xb.later (s:Xb w W B3 B4 B6 x y b0 b1 b2 b3) (hb:aJ W W'):Xb w W' B3 B4 B6 x y b0 b1 b2 b3:=
 ⟨s.below.trans (hb.mono s.below.size),s.h4,s.h6,s.n36,s.n46,ai hb s.p0,ai hb s.p1,ai hb s.r0,ai hb s.r1,ai hb s.r2,ai hb s.r3,fun i=>jv hb s.r0 (s.rf i),ai hb s.c0,ai hb s.c1,ai hb s.c2,ai hb s.c3,fun i=>jv hb s.c0 (s.cf i)⟩
theorem Xb.ai4 (s:Xb w W B3 B4 B6 x y b0 b1 b2 b3) (d d':Int):
  Xb w ((W.drew.setCell ⟨B6,0,none⟩ (ag d)).setCell ⟨B6,2,none⟩ (ag d')) B3 B4 B6 x y d b1 d' b3:=
 have s:=s.later (W':=W.drew) (aK _ _).drew
 ⟨(s.below.setCell (p:=⟨B6,0,none⟩) s.h6 _).setCell (p:=⟨B6,2,none⟩) s.h6 _,s.h4,s.h6,s.n36,s.n46,
  by simp only[au,s.n36,if_false,s.p0],by simp only[au,s.n36,if_false,s.p1],by simp only[au,s.n46,if_false,s.r0],by simp only[au,s.n46,if_false,s.r1],by simp only[au,s.n46,if_false,s.r2],by simp only[au,s.n46,if_false,s.r3],fun i=>by simpa using s.rf i,
  by simp[au,s.c0],by simp[au,s.c1],by simp[au,s.c2],by simp[au,s.c3],fun i=>by simpa using s.cf i⟩
theorem Xb.ai5 (s:Xb w W B3 B4 B6 x y b0 b1 b2 b3) (d d':Int):
  Xb w ((W.drew.setCell ⟨B6,1,none⟩ (ag d)).setCell ⟨B6,3,none⟩ (ag d')) B3 B4 B6 x y b0 d b2 d':=
 have s:=s.later (W':=W.drew) (aK _ _).drew
 ⟨(s.below.setCell (p:=⟨B6,1,none⟩) s.h6 _).setCell (p:=⟨B6,3,none⟩) s.h6 _,s.h4,s.h6,s.n36,s.n46,
  by simp only[au,s.n36,if_false,s.p0],by simp only[au,s.n36,if_false,s.p1],by simp only[au,s.n46,if_false,s.r0],by simp only[au,s.n46,if_false,s.r1],by simp only[au,s.n46,if_false,s.r2],by simp only[au,s.n46,if_false,s.r3],fun i=>by simpa using s.rf i,
  by simp[au,s.c0],by simp[au,s.c1],by simp[au,s.c2],by simp[au,s.c3],fun i=>by simpa using s.cf i⟩
theorem IL (r x y:Int) (a:Option Addr) (cap:Nat) (hr: -100000000≤r∧r≤100000000) (hx: -100000000≤x∧x≤100000000) (hy: -100000000≤y∧y≤100000000):
  dZ prog 136 #[.agg #[ag r,.slice a 0 cap],.agg #[ag x,ag y]] (.agg #[ag (x-r),ag (y-r),ag (x+r),ag (y+r)]):=by intro w;have Xa:=ah (uG r a cap);refine az ?_;intro hal bu;have cZ:=au;have gY:=results136;go_enter func136,ntmps136;go_wp2_with (first|((with_reducible refine(Xa.out _).mono ?_);refine df ?_;intro wB Io NB XE hcB hfB hsB));refine bodyPost_ret (v:=.agg #[ag (x-r),ag (y-r),ag (x+r),ag (y+r)]) (by simp[results,gY,go_sem,cZ,hcB,aQ,↓IntWalk.iteOmega]) rfl ⟨rfl,?_⟩;exact aG
theorem MS (r:Int) (a:Option Addr) (len cap:Nat) (zs:List (Int×Int)) (x y:Int) (w:World) (h:qp w a len cap zs) (h1:2≤len) (h2:len≤1000) (hz:Bd zs 50000) (hx: -100000000≤x∧x≤100000000) (hy: -100000000≤y∧y≤100000000):
  Calls prog 136 #[.agg #[ag r,.slice a len cap],.agg #[ag x,ag y]] w fun e w'=>e=.returned (.agg #[ag (qF (fun i=>x+vx zs i) (len-1)),ag (qF (fun i=>y+vy zs i) (len-1)),ag (qG (fun i=>x+vx zs i) (len-1)),ag (qG (fun i=>y+vy zs i) (len-1))])∧aJ w w':=by
 have Xa:=ah (wN r a len cap ae h2);have ca:=fun(i:Nat)=>jM x y (vx zs i) (vy zs i) gD gD gD gD;have ai6:=ah (ca 0);rcases h with⟨_,h0,_⟩|⟨b,o,rfl,hzl,hle,hcm,hcell⟩
 ·omega
 unfold maxLen at hcm;have v0:=(hcell 0 ae).1;have v1:=(hcell 0 ae).2;have lb:=aU w _ v0;simp only[Nat.zero_mul,Nat.add_zero]at lb v0 v1;have hcap:((cap:Int)==1)=false:=beq_eq_false_iff_ne.2 ae;have Hca:=ah ca;clear ca;refine az ?_;intro hal bu;have cZ:=au;have gY:=results136;go_enter func136,ntmps136;go_wp2_with (first|((with_reducible refine(Xa.out _).mono ?_);refine df ?_;intro wB Io NB XE hcB hfB hsB));refine fF 6 5 #[ag 0,ag 0] 29 rfl aL aL (fun o ho ev w=>by have ho':=bD ho;rw[←ho'];exact rfl) fun NL hL=>?_;obtain⟨dU,dV,hlf⟩:=hL;(try simp only[bf]at dU);simp only[dS];repeat((refine kI (fun K hK=>?_);go_simp;(repeat(simp only[↓IntWalk.iteOmega];(try go_simp))));first|(refine hK _ ?_;clear hK K)|(apply Exists.intro;refine⟨fun x=>?_,hK _ ?_⟩;(first|(with_reducible exact kJ (ai6.out _)));clear hK K))
 refine jq ?_;intro b5 w5 eY QD aoV ai7 aoW;(try simp only[bf]at ai7);simp only[Act.put,dH];clear dV hlf dU NL;obtain⟨N5,P7,sO,KE,KF⟩:=eB eY;(try simp only[bf]at P7);go_wp2;obtain⟨W0,lZ⟩:∃W0,W0=(((w5.setCell ⟨b5,0,none⟩ (ag (x+vx zs 0))).setCell ⟨b5,1,none⟩ (ag (y+vy zs 0))).alloc (.cells #[ag (x+vx zs 0),ag (y+vy zs 0),ag (x+vx zs 0),ag (y+vy zs 0)] 25)):=⟨_,rfl⟩
 have st0:Xb w W0 (w.heap.size+1) (w.heap.size+1+1) w5.heap.size x y (qF (fun i=>x+vx zs i) 0) (qF (fun i=>y+vy zs i) 0) (qG (fun i=>x+vx zs i) 0) (qG (fun i=>y+vy zs i) 0):=by
  rw[lZ];apply Xb.mk;case below=>exact aG
  case rf=>intro i;rw[dL,if_pos bU];simp[KE,hfB,dL,↓IntWalk.iteOmega]
  all_goals first|omega|(simp[qF,qG,hcB,sO,hfB,KE,au,aQ,dL,↓IntWalk.iteOmega];done)|(intro i;simp[hcB,sO,hfB,KE,aQ,dL,↓IntWalk.iteOmega];done)
 rw[←lZ];obtain⟨B6,hB6⟩:∃B6,B6=w5.heap.size:=⟨_,rfl⟩
 rw[←hB6]at st0⊢;clear lZ hB6 QD aoV ai7 aoW sO KE KF P7 eY hcB hfB hsB XE Io v0 v1 Xa ai6 hal bu cZ hcap;go_loopw [52] (fun i wr=>∃k:Nat,k≤len-1∧i=ag k∧Xb w wr (w.heap.size+1) (w.heap.size+1+1) B6 x y (qF (fun i=>x+vx zs i) k) (qF (fun i=>y+vy zs i) k) (qG (fun i=>x+vx zs i) k) (qG (fun i=>y+vy zs i) k))
  (fun i _=>len-1-(intOf i).toNat)
 case atStart=>exact⟨0,Nat.zero_le _,rfl,st0⟩
 case round=>
  obtain⟨k,hk,rfl,st⟩:=hrel;clear st0;by_cases hlt:k<len-1
  ·have v0:=ai st.below (hcell (k+1) ae).1;have v1:=ai st.below (hcell (k+1) ae).2;rw[show o+(k+1)*2=o+2+k*2 from ae]at v0 v1;have hws:=st.below.size;have aoX:=st.p0;have aoY:=st.p1;have l6:=aU _ _ st.c0;have l3:=aU _ _ st.p0;simp only at l6 l3;have ca:=Hca.out (k+1);have XL:=ah ca;clear ca;refine az ?_;intro hal bu;go_wp2_with (first|((with_reducible refine(XL.out _).mono ?_);refine df ?_;intro wC hbC NC hNC hcC hfC hsC));obtain⟨W2,mi⟩:∃W2,W2=wC.alloc (.cells #[ag (x+vx zs (k+1)),ag (y+vy zs (k+1))] 29):=⟨_,rfl⟩
   have st2:=st.later (show aJ wr W2 by rw[mi];exact aG);have d0:W2.cell? ⟨wC.heap.size,0,none⟩=some (ag (x+vx zs (k+1))):=by rw[mi];exact World.cell?_alloc_new wC _ _ 0
   have d1:W2.cell? ⟨wC.heap.size,1,none⟩=some (ag (y+vy zs (k+1))):=by rw[mi];exact World.cell?_alloc_new wC _ _ 1
   have n96:¬wC.heap.size=B6:=ae;rw[←mi];obtain⟨C9,hC9⟩:∃C9,C9=wC.heap.size:=⟨_,rfl⟩
   rw[←hC9]at d0 d1 n96⊢;clear st hal bu hcC hfC hsC hNC hbC mi hC9 aoX aoY XL;have abe:=st2.c0;have QE:=st2.c1;have abf:=st2.c2;have QF:=st2.c3;have ae9:=st2.cf;have l6':=aU _ _ st2.c0;have l9':=aU _ _ d0;simp only at l6' l9';have cZ:=au;have bk:=hz (k+1);obtain⟨e0,he0⟩:∃e,e=qF (fun i=>x+vx zs i) k:=⟨_,rfl⟩
   obtain⟨e1,he1⟩:∃e,e=qF (fun i=>y+vy zs i) k:=⟨_,rfl⟩
   obtain⟨e2,he2⟩:∃e,e=qG (fun i=>x+vx zs i) k:=⟨_,rfl⟩
   obtain⟨e3,he3⟩:∃e,e=qG (fun i=>y+vy zs i) k:=⟨_,rfl⟩
   rw[←he0]at abe;rw[←he1]at QE;rw[←he2]at abf;rw[←he3]at QF;have ao2:=ah he0;have abg:=ah he1;have U4:=ah he2;have ai9:=ah he3;clear he0 he1 he2 he3;obtain⟨px,hpx⟩:∃p,p=x+vx zs (k+1):=⟨_,rfl⟩
   obtain⟨py,hpy⟩:∃p,p=y+vy zs (k+1):=⟨_,rfl⟩
   rw[←hpx]at d0;rw[←hpy]at d1;have ao3:=ah hpx;have ao4:=ah hpy;clear hpx hpy;refine jF B6 [0,1,2,3,4,5,6,10] [7,8,9] [11,12,13] 11 aL aL fun NL hL IE=>?_;obtain⟨dU,dV,hlf⟩:=hL;obtain⟨_,P6⟩:=IE;simp only[jA];repeat(go_big_quiet_step (fail))
   refine wpQuiet_nil ?_;repeat(go_big_quiet_step (fail))
   refine wpQuiet_nil ?_;clear dV hlf P6 dU;have hO0:W2.grownBy (W2.drew.setCell ⟨B6,0,none⟩ (ag (min e0 px))) (some B6):=eQ (gm (aK _ _).drew B6) rfl _;refine dY (w1:=W2.drew.setCell ⟨B6,0,none⟩ (ag (min e0 px))) rfl bO ⟨⟨_,hO0⟩,rfl⟩ ?_;simp only[Act.put,dH];refine di (v:=.pointer (some ⟨B6,2,none⟩)) (w1:=W2.drew.setCell ⟨B6,0,none⟩ (ag (min e0 px))) rfl bO ⟨⟨_,hO0⟩,rfl⟩ ?_;simp only[Act.put,dH];have hO1:W2.grownBy ((W2.drew.setCell ⟨B6,0,none⟩ (ag (min e0 px))).setCell ⟨B6,2,none⟩ (ag (max e2 px))) (some B6):=eQ hO0 rfl _;refine dY (w1:=(W2.drew.setCell ⟨B6,0,none⟩ (ag (min e0 px))).setCell ⟨B6,2,none⟩ (ag (max e2 px))) rfl bO ⟨⟨_,hO1⟩,rfl⟩ ?_;simp only[Act.put,dH];refine fT ?_;clear hO0 hO1;obtain⟨W3,IM⟩:∃W3,W3=(W2.drew.setCell ⟨B6,0,none⟩ (ag (min e0 px))).setCell ⟨B6,2,none⟩ (ag (max e2 px)):=⟨_,rfl⟩
   have st3:=st2.ai4 (min e0 px) (max e2 px);have d1':W3.cell? ⟨C9,1,none⟩=some (ag py):=by rw[IM];simp[au,n96,d1]
   rw[←IM]at st3⊢;clear abe QE abf QF ae9 d0 d1 IM l6' l9' st2;have QE:=st3.c1;have QF:=st3.c3;have ae9:=st3.cf;rw[←abg.out]at QE;rw[←ai9.out]at QF;have l6':=aU _ _ st3.c0;have l9':=aU _ _ d1';simp only at l6' l9';go_wp2;refine jF B6 [0,1,2,3,4,5,6,10] [7,8,9] [11,12,13] 11 aL aL fun NL hL IE=>?_;obtain⟨dU,dV,hlf⟩:=hL;obtain⟨_,P6⟩:=IE;simp only[jA];repeat(go_big_quiet_step (fail))
   refine wpQuiet_nil ?_;repeat(go_big_quiet_step (fail))
   refine wpQuiet_nil ?_;clear dV hlf P6 dU;have hO0:W3.grownBy (W3.drew.setCell ⟨B6,1,none⟩ (ag (min e1 py))) (some B6):=eQ (gm (aK _ _).drew B6) rfl _;refine dY (w1:=W3.drew.setCell ⟨B6,1,none⟩ (ag (min e1 py))) rfl bO ⟨⟨_,hO0⟩,rfl⟩ ?_;simp only[Act.put,dH];refine di (v:=.pointer (some ⟨B6,3,none⟩)) (w1:=W3.drew.setCell ⟨B6,1,none⟩ (ag (min e1 py))) rfl bO ⟨⟨_,hO0⟩,rfl⟩ ?_;simp only[Act.put,dH];have hO1:W3.grownBy ((W3.drew.setCell ⟨B6,1,none⟩ (ag (min e1 py))).setCell ⟨B6,3,none⟩ (ag (max e3 py))) (some B6):=eQ hO0 rfl _;refine dY (w1:=(W3.drew.setCell ⟨B6,1,none⟩ (ag (min e1 py))).setCell ⟨B6,3,none⟩ (ag (max e3 py))) rfl bO ⟨⟨_,hO1⟩,rfl⟩ ?_;simp only[Act.put,dH];refine fT ?_;clear hO0 hO1;have st4:=st3.ai5 (min e1 py) (max e3 py);obtain⟨W4,Iq⟩:∃W4,W4=(W3.drew.setCell ⟨B6,1,none⟩ (ag (min e1 py))).setCell ⟨B6,3,none⟩ (ag (max e3 py)):=⟨_,rfl⟩
   rw[←Iq]at st4⊢;clear Iq QE QF ae9 st3 d1' cZ;go_wp2;go_roundw;case rel=>rw[ao2.out,abg.out,U4.out,ai9.out,ao3.out,ao4.out]at st4;exact⟨k+1,ae,by go_num,st4⟩
   case measure=>simp[intOf];omega
  ·obtain rfl:k=len-1:=ae;have abe:=st.c0;have QE:=st.c1;have abf:=st.c2;have QF:=st.c3;have ao6:=st.r0;have ao7:=st.r1;have ao8:=st.r2;have ao9:=st.r3;have awR:=st.rf;have cZ:=au;obtain⟨m0,hm0⟩:∃e,e=qF (fun i=>x+vx zs i) (len-1):=⟨_,rfl⟩
   obtain⟨m1,gp⟩:∃e,e=qF (fun i=>y+vy zs i) (len-1):=⟨_,rfl⟩
   obtain⟨m2,tF⟩:∃e,e=qG (fun i=>x+vx zs i) (len-1):=⟨_,rfl⟩
   obtain⟨m3,Tt⟩:∃e,e=qG (fun i=>y+vy zs i) (len-1):=⟨_,rfl⟩
   rw[←hm0]at abe;rw[←gp]at QE;rw[←tF]at abf;rw[←Tt]at QF;have ao_:=ah hm0;have apa:=ah gp;have apb:=ah tF;have apc:=ah Tt;clear hm0 gp tF Tt;go_wp2;refine bodyPost_ret (v:=.agg #[ag m0,ag m1,ag m2,ag m3]) (by simp[results,gY,go_sem,cZ,ao6,ao7,ao8,ao9]) rfl ⟨by rw[ao_.out,apa.out,apb.out,apc.out],?_⟩;have hbl:=st.below;repeat(refine Below.setCell ?_ bU _)
   exact hbl
def MQ (zs:List (Int×Int)) (x y ax ay:Int) (i:Nat):Int:=((x+vx zs i)*ax+(y+vy zs i)*ay)/1024
def loT (f:Nat→Int):Nat→Int
 |0=>0
 |k+1=>qF f k
def hiT (f:Nat→Int):Nat→Int
 |0=>0
 |k+1=>qG f k
theorem F8 (r x y ax ay:Int) (a:Option Addr) (cap:Nat) (hr: -100000000≤r∧r≤100000000) (hx: -100000000≤x∧x≤100000000) (hy: -100000000≤y∧y≤100000000) (hax: -100000000≤ax∧ax≤100000000) (Jt: -100000000≤ay∧ay≤100000000):
  dZ prog 180 #[.agg #[ag r,.slice a 0 cap],.agg #[ag x,ag y],.agg #[ag ax,ag ay]] (.tuple #[ag ((x*ax+y*ay)/1024-r),ag ((x*ax+y*ay)/1024+r)]):=by
 intro w;have MG:=ah (uG r a cap);have m1:=d_ hx.1 hx.2 hax.1 hax.2;have m2:=d_ hy.1 hy.2 Jt.1 Jt.2;have c2:=Fu x y ax ay ae ae ae ae;obtain⟨d,hd⟩:∃d,d=(x*ax+y*ay)/1024:=⟨_,rfl⟩
 have bd: -20000000000000≤d∧d≤20000000000000:=ae;rw[←hd]at c2⊢;clear m1 m2 hd;have Xa:=ah c2;clear c2;refine az ?_;intro hal bu;go_enter func180,ntmps180;go_wp2_with (first|((with_reducible refine(MG.out _).mono ?_);refine df ?_;intro wA kY NA F4 hcA hfA hsA)|((with_reducible refine(Xa.out _).mono ?_);refine df ?_;intro wB Io NB XE hcB hfB hsB));refine fG aL aL fun NL hL=>?_;obtain⟨dU,dV,hlf⟩:=hL;(try simp only[bf]at dU);repeat(go_big_quiet_step (fail))
 (refine wpQuiet_nil ?_;intro w1 iI;obtain⟨⟨w1,aO⟩,rfl⟩:=iI;clear dV hlf dU NL;obtain⟨N1,dA,bW,eu,eF⟩:=eB aO;(try simp only[bf]at dA));go_wp2;go_ret2;exact⟨rfl,by exact aG⟩
theorem KC (r:Int) (a:Option Addr) (len cap:Nat) (zs:List (Int×Int)) (x y ax ay:Int) (w:World) (h:qp w a len cap zs) (h1:1≤len) (h2:len≤1000) (hz:Bd zs 50000) (hx: -100000000≤x∧x≤100000000) (hy: -100000000≤y∧y≤100000000) (hax: -100000000≤ax∧ax≤100000000) (Jt: -100000000≤ay∧ay≤100000000):
  Calls prog 180 #[.agg #[ag r,.slice a len cap],.agg #[ag x,ag y],.agg #[ag ax,ag ay]] w fun e w'=>e=.returned (.tuple #[ag (qF (MQ zs x y ax ay) (len-1)),ag (qG (MQ zs x y ax ay) (len-1))])∧aJ w w':=by
 have MG:=ah (wN r a len cap h1 h2);have ca:=fun(i:Nat)=>jM x y (vx zs i) (vy zs i) gD gD gD gD;have m1:=fun(i:Nat)=>d_ (a:=x+vx zs i) (b:=ax) (A:=100050000) (B:=100000000) gD gD hax.1 hax.2;have m2:=fun(i:Nat)=>d_ (a:=y+vy zs i) (b:=ay) (A:=100050000) (B:=100000000) gD gD Jt.1 Jt.2;have cd:=fun(i:Nat)=>Fu (x+vx zs i) (y+vy zs i) ax ay (by have:=m1 i;omega) (by have:=m1 i;omega) (by have:=m2 i;omega) (by have:=m2 i;omega);clear m1 m2;rcases h with⟨_,h0,_⟩|⟨b,o,rfl,hzl,hle,hcm,hcell⟩
 ·omega
 unfold maxLen at hcm;have lb:=aU w _ (hcell 0 ae).1;simp only at lb;have Hca:=ah ca;have Hcd:=ah cd;clear ca cd;refine az ?_;intro hal bu;go_enter func180,ntmps180;go_wp2_with (first|((with_reducible refine(MG.out _).mono ?_);refine df ?_;intro wA kY NA F4 hcA hfA hsA));have st0:aJ w wA:=eG;have q0:wA.cell? ⟨w.heap.size+1,0,none⟩=some (ag x):=je;have q1:wA.cell? ⟨w.heap.size+1,1,none⟩=some (ag y):=je;have q2:wA.cell? ⟨w.heap.size+1+1,0,none⟩=some (ag ax):=je;have q3:wA.cell? ⟨w.heap.size+1+1,1,none⟩=some (ag ay):=je;clear hcA hfA hsA F4 kY hal bu MG;go_loopw [6,7,28] (fun lo hi i wr=>∃k:Nat,k≤len∧i=ag k∧lo=ag (loT (MQ zs x y ax ay) k)∧hi=ag (hiT (MQ zs x y ax ay) k)∧aJ wA wr)
  (fun _ _ i _=>len-(intOf i).toNat)
 case atStart=>exact⟨0,Nat.zero_le _,rfl,rfl,rfl,aK _ _⟩
 case round=>
  obtain⟨k,hk,rfl,rfl,rfl,hB⟩:=hrel;have hws:=hB.size;have hww:=st0.size;by_cases hlt:k<len
  ·have v0:=ai (st0.trans (hB.mono hww)) (hcell k hlt).1;have v1:=ai (st0.trans (hB.mono hww)) (hcell k hlt).2;have r0:=ai hB q0;have r1:=ai hB q1;have r2:=ai hB q2;have r3:=ai hB q3;have l3:=aU _ _ r2;simp only at l3;have ca:=Hca.out k;have cd:=Hcd.out k;obtain⟨d,hd⟩:∃d,d=MQ zs x y ax ay k:=⟨_,rfl⟩
   rw[show((x+vx zs k)*ax+(y+vy zs k)*ay)/1024=d from hd.symm]at cd;have XL:=ah ca;have ai3:=ah cd;clear ca cd;obtain⟨lo,hlo⟩:∃d,d=loT (MQ zs x y ax ay) k:=⟨_,rfl⟩
   obtain⟨hi,hhi⟩:∃d,d=hiT (MQ zs x y ax ay) k:=⟨_,rfl⟩
   rw[←hlo,←hhi];have Ju:=ah hd;have aoU:=ah hlo;have U3:=ah hhi;clear hd hlo hhi;by_cases Fq:k=0
   ·subst Fq;simp only[Nat.zero_mul,Nat.add_zero]at v0 v1;refine az ?_;intro hal bu;go_wp2;refine fG aL aL fun NL hL=>?_;obtain⟨dU,dV,hlf⟩:=hL;(try simp only[bf]at dU);repeat(go_big_quiet_step (first|(with_reducible exact aY (XL.out _))|(with_reducible exact aY (ai3.out _))))
    (refine wpQuiet_nil ?_;intro w1 iI;obtain⟨⟨w1,aO⟩,rfl⟩:=iI;clear dV hlf dU NL;obtain⟨N1,dA,bW,eu,eF⟩:=eB aO;(try simp only[bf]at dA));go_wp2;go_roundw;case rel=>exact⟨1,ae,by go_num,by rw[Ju.out];simp[loT,qF],by rw[Ju.out];simp[hiT,qG],by exact aG⟩
    case measure=>simp[intOf];omega
   ·have hkb:((k:Int)==0)=false:=beq_eq_false_iff_ne.2 ae;refine az ?_;intro hal bu;go_wp2;refine fG aL aL fun NL hL=>?_;obtain⟨dU,dV,hlf⟩:=hL;(try simp only[bf]at dU);repeat(go_big_quiet_step (first|(with_reducible exact aY (XL.out _))|(with_reducible exact aY (ai3.out _))))
    (refine wpQuiet_nil ?_;intro w1 iI;obtain⟨⟨w1,aO⟩,rfl⟩:=iI;clear dV hlf dU NL;obtain⟨N1,dA,bW,eu,eF⟩:=eB aO;(try simp only[bf]at dA));go_wp2;go_roundw;case rel=>
     obtain⟨j,rfl⟩:∃j,k=j+1:=⟨k-1,ae⟩
     exact⟨j+1+1,ae,by go_num,by rw[Ju.out,aoU.out];simp[loT,qF],by rw[Ju.out,U3.out];simp[hiT,qG],by exact aG⟩
    case measure=>simp[intOf];omega
  ·obtain rfl:k=len:=ae;obtain⟨j,rfl⟩:∃j,k=j+1:=⟨k-1,ae⟩
   simp only[loT,hiT,Nat.add_sub_cancel];go_wp2;go_ret2;exact⟨rfl,st0.trans (hB.mono hww)⟩
end Sh
end Go.Proofs.YtohpdonnpbjfdaaGreatDoor
