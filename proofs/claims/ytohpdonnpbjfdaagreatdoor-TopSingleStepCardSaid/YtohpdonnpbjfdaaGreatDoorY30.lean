/- What is shown: package toi, contacts. Conditions: as each theorem states. -/
import Derived.Deep.RegionHeld3
import Derived.Test.YtohpdonnpbjfdaaGreatDoorY15
import Derived.Test.YtohpdonnpbjfdaaGreatDoorY29
set_option maxHeartbeats 40000000
set_option maxRecDepth 100000
set_option linter.unusedVariables false
set_option linter.unusedSimpArgs false
open Go.Proofs.Tryz
namespace Go.Proofs.YtohpdonnpbjfdaaGreatDoor
theorem gJ {P:Prop} (h:P:=by rw[vI];simp[hal,↓IntWalk.iteOmega]):P:=h
namespace To
open Go.RowKit aN fO Qt Ve Sh Co Go.Shelf
attribute [local go_sem] Oper.semAt_some
def at8 (x u k:Int):Int:=x+u*k/8
theorem Bv {x u k:Int} (hu: -100000≤u∧u≤100000) (hk:0≤k∧k≤100):(-10000000≤u*k∧u*k≤10000000)∧x-1250001≤at8 x u k∧at8 x u k≤x+1250001:=by have m:=d_ (a:=u) (b:=k) (A:=100000) (B:=100) hu.1 hu.2 ae hk.2;unfold at8;omega
theorem amc (a:Int):eP a 8=a/8:=FB _ _ ae
theorem OI {P:Program} {c:Code} {Q:Exit→Act→World→Prop} {a:Act} {w:World} (h:∀W,W=w→Code.wp P c Q a W):Code.wp P c Q a w:=h w rfl
theorem J8 (x y u v k:Int) (hx: -100000000≤x∧x≤100000000) (hy: -100000000≤y∧y≤100000000) (hu: -100000≤u∧u≤100000) (hv: -100000≤v∧v≤100000) (hk:0≤k∧k≤100):
  dZ prog 150 #[.agg #[ag x,ag y],.agg #[ag u,ag v],ag k] (.agg #[ag (at8 x u k),ag (at8 y v k)]):=by
 intro w;have m1:=(Bv (x:=x) hu hk).1;have m2:=(Bv (x:=y) hv hk).1;have c1:=qP u v k 8 ae ae ae ae;rw[amc,amc]at c1;have c2:=jM x y (u*k/8) (v*k/8) ae ae ae ae;rw[show x+u*k/8=at8 x u k from rfl,show y+v*k/8=at8 y v k from rfl]at c2;generalize at8 x u k=X at*;generalize at8 y v k=Y at*;generalize u*k/8=p at*;generalize v*k/8=q at*;have MG:=ah c1;have Xa:=ah c2;clear c1 c2;clear m1 m2;refine az ?_;intro hal bu;have cZ:=au;have gY:=results150;go_enter func150,ntmps150;go_upto_region 1 with(fail);refine bq 5 aL aL fun NL hL=>?_;obtain⟨dU,dV,hlf⟩:=hL;(try simp only[bf]at dU);simp only[dS];repeat(go_big_quiet_step (first|(with_reducible exact aY (MG.out _))|(with_reducible exact aY (Xa.out _))))
 (refine wpQuiet_nil ?_;intro w1 iI;obtain⟨⟨w1,aO⟩,rfl⟩:=iI;clear dV hlf dU NL;obtain⟨N1,dA,bW,eu,eF⟩:=eB aO;(try simp only[bf]at dA));go_wp2;refine bodyPost_ret (v:=.agg #[ag X,ag Y]) mQ rfl ⟨rfl,?_⟩;exact aG
structure TB (w:World) (ra:Int) (aa:Option Addr) (la ca:Nat) (za:List (Int×Int)) (px py ux uy rb:Int) (ab:Option Addr) (lb cb:Nat) (zb:List (Int×Int)) (qx qy Bl Bu:Int) (B1 B2 B3 B4 B5 B6:Nat):Prop where
 a:iL w ra aa la ca za
 b:iL w rb ab lb cb zb
 c1:w.cell? ⟨B1,0,none⟩=some (ag ra)
 c2:w.cell? ⟨B1,1,none⟩=some (.slice aa la ca)
 c3:w.cell? ⟨B2,0,none⟩=some (ag px)
 c4:w.cell? ⟨B2,1,none⟩=some (ag py)
 c5:w.cell? ⟨B3,0,none⟩=some (ag ux)
 c6:w.cell? ⟨B3,1,none⟩=some (ag uy)
 c7:w.cell? ⟨B4,0,none⟩=some (ag rb)
 c8:w.cell? ⟨B4,1,none⟩=some (.slice ab lb cb)
 c9:w.cell? ⟨B5,0,none⟩=some (ag qx)
 c10:w.cell? ⟨B5,1,none⟩=some (ag qy)
 c11:w.cell? ⟨B6,0,none⟩=some (ag Bl)
 c12:w.cell? ⟨B6,1,none⟩=some (ag Bu)
structure TBd (px py ux uy qx qy Bl Bu:Int):Prop where
 p: -2000000≤px∧px≤2000000∧-2000000≤py∧py≤2000000
 u: -100000≤ux∧ux≤100000∧-100000≤uy∧uy≤100000
 q: -2000000≤qx∧qx≤2000000∧-2000000≤qy∧qy≤2000000
 v: -100000≤Bl∧Bl≤100000∧-100000≤Bu∧Bu≤100000
section
variable {w:World} {ra:Int} {aa:Option Addr} {la ca:Nat} {za:List (Int×Int)} {px py ux uy rb:Int} {ab:Option Addr} {lb cb:Nat} {zb:List (Int×Int)} {qx qy Bl Bu:Int} {B1 B2 B3 B4 B5 B6:Nat}
theorem TB.later (h:TB w ra aa la ca za px py ux uy rb ab lb cb zb qx qy Bl Bu B1 B2 B3 B4 B5 B6) {W:World} (hb:aJ w W):TB W ra aa la ca za px py ux uy rb ab lb cb zb qx qy Bl Bu B1 B2 B3 B4 B5 B6:=
 ⟨h.a.later hb,h.b.later hb,ai hb h.c1,ai hb h.c2,ai hb h.c3,ai hb h.c4,ai hb h.c5,ai hb h.c6,ai hb h.c7,ai hb h.c8,ai hb h.c9,ai hb h.c10,ai hb h.c11,ai hb h.c12⟩
def tch (ra:Int) (za:List (Int×Int)) (px py ux uy rb:Int) (zb:List (Int×Int)) (qx qy Bl Bu:Int) (k:Nat):Bool:=L8 ra za (at8 px ux k) (at8 py uy k) rb zb (at8 qx Bl k) (at8 qy Bu k)
theorem Ib (h:TB w ra aa la ca za px py ux uy rb ab lb cb zb qx qy Bl Bu B1 B2 B3 B4 B5 B6) (hbd:TBd px py ux uy qx qy Bl Bu) (k:Nat) (hk:k≤8) (W:World) (hW:aJ w W):
  Calls prog 149 #[ag k,aR B1,aR B2,aR B3,aR B4,aR B5,aR B6] W fun e w'=>
   e=.returned (.bool (tch ra za px py ux uy rb zb qx qy Bl Bu k))∧aJ W w':=by
 have g:=h.later hW;obtain⟨⟨p1,p2,p3,p4⟩,⟨u1,u2,u3,u4⟩,⟨q1,q2,q3,q4⟩,⟨v1,v2,v3,v4⟩⟩:=hbd;have cga:=J8 px py ux uy k ae ae ae ae ae;have cgb:=J8 qx qy Bl Bu k ae ae ae ae ae;have m1:=(Bv (x:=px) (u:=ux) (k:=k) ae ae).2;have m2:=(Bv (x:=py) (u:=uy) (k:=k) ae ae).2;have m3:=(Bv (x:=qx) (u:=Bl) (k:=k) ae ae).2;have m4:=(Bv (x:=qy) (u:=Bu) (k:=k) ae ae).2;have Hcc:=ah fun V (hV:aJ W V)=>Gj (g.a.later hV) (g.b.later hV) (px:=at8 px ux k) (py:=at8 py uy k) (qx:=at8 qx Bl k) (qy:=at8 qy Bu k) ae ae;unfold tch;clear m1 m2 m3 m4;generalize at8 px ux k=X at*;generalize at8 py uy k=Y at*;generalize at8 qx Bl k=P at*;generalize at8 qy Bu k=Q at*;generalize L8 ra za X Y rb zb P Q=i1 at*;generalize cdp ra za X Y rb zb P Q=d1 at*;generalize cnx ra za X Y rb zb P Q=x1 at*;generalize cny ra za X Y rb zb P Q=y1 at*;obtain⟨_,_,c1,c2,c3,c4,c5,c6,c7,c8,c9,c10,c11,c12⟩:=g;have st:∀V,aJ W V→V.cell? ⟨B1,0,none⟩=some (ag ra)∧V.cell? ⟨B1,1,none⟩=some (.slice aa la ca)∧V.cell? ⟨B2,0,none⟩=some (ag px)∧V.cell? ⟨B2,1,none⟩=some (ag py)∧V.cell? ⟨B3,0,none⟩=some (ag ux)∧V.cell? ⟨B3,1,none⟩=some (ag uy)∧V.cell? ⟨B4,0,none⟩=some (ag rb)∧V.cell? ⟨B4,1,none⟩=some (.slice ab lb cb)∧V.cell? ⟨B5,0,none⟩=some (ag qx)∧V.cell? ⟨B5,1,none⟩=some (ag qy)∧V.cell? ⟨B6,0,none⟩=some (ag Bl)∧V.cell? ⟨B6,1,none⟩=some (ag Bu):=
  fun V hV=>⟨ai hV c1,ai hV c2,ai hV c3,ai hV c4,ai hV c5,ai hV c6,ai hV c7,ai hV c8,ai hV c9,ai hV c10,ai hV c11,ai hV c12⟩
 have tC:=ah st;have Hca:=ah cga;have Hcb:=ah cgb;clear st c1 c2 c3 c4 c5 c6 c7 c8 c9 c10 c11 c12 cga cgb h hW;refine az ?_;intro hal bu;go_enter func149,ntmps149;go_upto_region 1 with(fail);go_region_held3 (fun V=>V.cell? ⟨B1,0,none⟩=some (ag ra)∧V.cell? ⟨B1,1,none⟩=some (.slice aa la ca)∧V.cell? ⟨B2,0,none⟩=some (ag px)∧V.cell? ⟨B2,1,none⟩=some (ag py)∧V.cell? ⟨B3,0,none⟩=some (ag ux)∧V.cell? ⟨B3,1,none⟩=some (ag uy)∧V.cell? ⟨B4,0,none⟩=some (ag rb)∧V.cell? ⟨B4,1,none⟩=some (.slice ab lb cb)∧V.cell? ⟨B5,0,none⟩=some (ag qx)∧V.cell? ⟨B5,1,none⟩=some (ag qy)∧V.cell? ⟨B6,0,none⟩=some (ag Bl)∧V.cell? ⟨B6,1,none⟩=some (ag Bu)) (exact tC.out _ aG)
  (first|((with_reducible refine(Hca.out _).mono ?_);refine df ?_;intro wA kY NA F4 hcA hfA hsA)|((with_reducible refine(Hcb.out _).mono ?_);refine df ?_;intro wB Io NB XE hcB hfB hsB)|((with_reducible refine(Hcc.out _ aG).mono ?_);refine df ?_;intro wC hbC NC hNC hcC hfC hsC))
 all_goals
  go_wp2
  go_ret
  exact⟨rfl,by exact aG⟩
def Xm (t:Nat→Bool):Int:=if t 0 then 1024 else if t 1 then 0 else if t 2 then 128 else if t 3 then 256 else if t 4 then 384 else if t 5 then 512 else if t 6 then 640 else if t 7 then 768 else if t 8 then 896 else 1024
theorem Z6 {t:Nat→Bool} (h:t 0=true):Xm t=1024:=by unfold Xm;rw[if_pos h]
theorem adi {t:Nat→Bool} {k:Nat} (hk:k<8) (h0:∀j,j≤k→t j=false) (h1:t (k+1)=true):Xm t=128*k:=by
 have a0:=h0 0 ae;unfold Xm;obtain rfl|rfl|rfl|rfl|rfl|rfl|rfl|rfl:k=0∨k=1∨k=2∨k=3∨k=4∨k=5∨k=6∨k=7:=ae;all_goals
  have a1:=h0 1
  have a2:=h0 2
  have a3:=h0 3
  have a4:=h0 4
  have a5:=h0 5
  have a6:=h0 6
  have a7:=h0 7
  simp at a1 a2 a3 a4 a5 a6 a7
  simp_all
theorem Z7 {t:Nat→Bool} (h0:∀j,j≤8→t j=false):Xm t=1024:=by unfold Xm;rw[h0 0 ae,h0 1 ae,h0 2 ae,h0 3 ae,h0 4 ae,h0 5 ae,h0 6 ae,h0 7 ae,h0 8 ae];rfl
theorem SB (hA:iL w ra aa la ca za) (hB:iL w rb ab lb cb zb) (hbd:TBd px py ux uy qx qy Bl Bu) (W:World) (hW:aJ w W):
  Calls prog 117 #[.agg #[ag ra,.slice aa la ca],.agg #[ag px,ag py],.agg #[ag ux,ag uy],.agg #[ag rb,.slice ab lb cb],.agg #[ag qx,ag qy],.agg #[ag (Bl),ag (Bu)]] W fun e w'=>
   e=.returned (ag (Xm (tch ra za px py ux uy rb zb qx qy Bl Bu)))∧aJ W w':=by
 have gA:=hA.later hW;have gB:=hB.later hW;obtain⟨t,ht⟩:∃t,t=tch ra za px py ux uy rb zb qx qy Bl Bu:=⟨_,rfl⟩
 rw[←ht];refine az ?_;intro hal bu;go_enter func117,ntmps117;go_upto_region 2 with(fail);refine OI fun W1 vI=>?_;have st0:aJ W W1:=by rw[vI];exact aG
 have q0:W1.cell? ⟨W.heap.size,0,none⟩=some (ag ra):=gJ;have q1:W1.cell? ⟨W.heap.size,1,none⟩=some (.slice aa la ca):=gJ;have q2:W1.cell? ⟨W.heap.size+1,0,none⟩=some (ag px):=gJ;have q3:W1.cell? ⟨W.heap.size+1,1,none⟩=some (ag py):=gJ;have q4:W1.cell? ⟨W.heap.size+1+1,0,none⟩=some (ag ux):=gJ;have q5:W1.cell? ⟨W.heap.size+1+1,1,none⟩=some (ag uy):=gJ;have q6:W1.cell? ⟨W.heap.size+1+1+1,0,none⟩=some (ag rb):=gJ;have q7:W1.cell? ⟨W.heap.size+1+1+1,1,none⟩=some (.slice ab lb cb):=gJ;have q8:W1.cell? ⟨W.heap.size+1+1+1+1,0,none⟩=some (ag qx):=gJ;have q9:W1.cell? ⟨W.heap.size+1+1+1+1,1,none⟩=some (ag qy):=gJ;have q10:W1.cell? ⟨W.heap.size+1+1+1+1+1,0,none⟩=some (ag Bl):=gJ;have q11:W1.cell? ⟨W.heap.size+1+1+1+1+1,1,none⟩=some (ag Bu):=gJ;have tb:TB W1 ra aa la ca za px py ux uy rb ab lb cb zb qx qy Bl Bu W.heap.size (W.heap.size+1) (W.heap.size+1+1) (W.heap.size+1+1+1) (W.heap.size+1+1+1+1) (W.heap.size+1+1+1+1+1):=
  ⟨gA.later st0,gB.later st0,q0,q1,q2,q3,q4,q5,q6,q7,q8,q9,q10,q11⟩
 have ct0:=Ib tb hbd 0 ae;have ct:∀k:Nat,k<8→∀V,aJ W1 V→Calls prog 149 #[ag ((k:Int)+1),aR W.heap.size,.pointer (some ⟨W.heap.size+1,0,none⟩),.pointer (some ⟨W.heap.size+1+1,0,none⟩),.pointer (some ⟨W.heap.size+1+1+1,0,none⟩),.pointer (some ⟨W.heap.size+1+1+1+1,0,none⟩),.pointer (some ⟨W.heap.size+1+1+1+1+1,0,none⟩)] V fun e w'=>
   e=.returned (.bool (t (k+1)))∧aJ V w':=fun k hk V hV=>by
  have:=Ib tb hbd (k+1) ae V hV
  rw[←ht]at this
  exact this
 rw[←ht]at ct0;simp only[Int.ofNat_eq_natCast,Int.natCast_zero]at ct0;have sz0:=st0.size;obtain⟨t0,Xp⟩:∃b,b=t 0:=⟨_,rfl⟩
 rw[←Xp]at ct0;have Hct:=ah ct;have ame:=ah ct0;have amf:=ah Xp;clear ct0 Xp;clear ct tb q0 q1 q2 q3 q4 q5 q6 q7 q8 q9 q10 q11 vI gA gB hA hB hW hbd ht;cases t0
 ·go_wp2_with (((with_reducible refine(ame.out _ aG).mono ?_);refine df ?_;intro wA kY NA F4 hcA hfA hsA));have hA1:aJ W1 wA:=eG;have ar4:=hA1.size;clear hal bu hcA hfA hsA F4 NA kY;go_loopw [18] (fun i wr=>∃k:Nat,k≤8∧i=ag k∧(∀j,j≤k→t j=false)∧aJ wA wr) (fun i _=>8-(intOf i).toNat);case atStart=>exact⟨0,ae,rfl,fun j hj=>by obtain rfl:j=0:=ae;exact amf.out.symm,aK _ _⟩
  case round=>
   obtain⟨k,hk,rfl,hno,hB⟩:=hrel;have hsB:=hB.size;have MZ:aJ W1 wr:=hA1.trans (hB.mono ar4);have Hno:=ah hno;clear hno;by_cases hlt:k<8
   ·have c:=Hct.out k hlt;obtain⟨tk,htk⟩:∃b,b=t (k+1):=⟨_,rfl⟩
    rw[←htk]at c;have Hc:=ah c;have zO:=ah htk;clear c htk;have pg:(k:Int)<8:=ae;refine az ?_;intro hal bu;cases tk
    ·go_wp2_with (((with_reducible refine(Hc.out _ aG).mono ?_);refine df ?_;intro wC hbC NC hNC hcC hfC hsC));go_roundw;case rel=>
      refine⟨k+1,ae,by go_num,fun j hj=>?_,hB.trans (Below.mono (?_:aJ wr _) hsB)⟩
      ·by_cases e:j=k+1
       ·rw[e];exact zO.out.symm
       ·exact Hno.out j ae
      ·exact aG
     case measure=>simp[intOf];omega
    ·have hf:=adi hlt Hno.out zO.out.symm;go_wp2_with (((with_reducible refine(Hc.out _ aG).mono ?_);refine df ?_;intro wC hbC NC hNC hcC hfC hsC));go_ret;refine⟨?_,st0.trans (Below.mono (MZ.trans (Below.mono (?_:aJ wr _) MZ.size)) sz0)⟩
     ·rw[hf];go_num
     ·exact aG
   ·obtain rfl:k=8:=ae;have hf:=Z7 Hno.out;go_wp2;go_ret;exact⟨by rw[hf];rfl,st0.trans (MZ.mono sz0)⟩
 ·have hf:=Z6 amf.out.symm;go_wp2_with (((with_reducible refine(ame.out _ aG).mono ?_);refine df ?_;intro wA kY NA F4 hcA hfA hsA));go_ret;refine⟨by rw[hf];rfl,st0.trans (Below.mono (?_:aJ W1 _) sz0)⟩;exact aG
end
end To
namespace Tc
open Go.RowKit aN fO Qt Ve Sh Co Rx
variable {w:World} {px py qx qy ra rb e:Int} {aa ab:Option Addr} {la ca lb cb:Nat} {za zb:List (Int×Int)}
theorem J7 {r:Int} {a:Option Addr} {len cap:Nat} {zs:List (Int×Int)} (h:iL w r a len cap zs) (x y ax ay:Int) (hx: -1048576≤x∧x≤1048576) (hy: -1048576≤y∧y≤1048576) (hax: -1024≤ax∧ax≤1024) (Jt: -1024≤ay∧ay≤1024):
  (-3000000≤plo r len zs x y ax ay∧plo r len zs x y ax ay≤3000000)∧-3000000≤phi r len zs x y ax ay∧phi r len zs x y ax ay≤3000000:=by
 have one:∀j,Bd zs 32768→-3000000≤MQ zs x y ax ay j∧MQ zs x y ax ay j≤3000000:=by intro j hb;have b:=hb j;have m1:=d_ (a:=x+vx zs j) (b:=ax) (A:=1090000) (B:=1024) ae ae hax.1 hax.2;have m2:=d_ (a:=y+vy zs j) (b:=ay) (A:=1090000) (B:=1024) ae ae Jt.1 Jt.2;unfold MQ;omega
 exact Cr
theorem Wu
  (hA:iL w ra aa la ca za) (hB:iL w rb ab lb cb zb) (hp:(-1048576≤px∧px≤1048576)∧-1048576≤py∧py≤1048576) (hq:(-1048576≤qx∧qx≤1048576)∧-1048576≤qy∧qy≤1048576) (n:Int×Int) (hn:Vo n):
  Jy ra za px py rb zb qx qy n≤6000000:=by obtain⟨a,b⟩:=n;obtain⟨n1,n2,n3,n4⟩:=hn;simp only at n1 n2 n3 n4;have b1:=J7 hA px py a b hp.1 hp.2 ⟨n1,n2⟩ ⟨n3,n4⟩;have b2:=J7 hB qx qy a b hq.1 hq.2 ⟨n1,n2⟩ ⟨n3,n4⟩;exact CQ
theorem acS
  (hA:iL w ra aa la ca za) (hB:iL w rb ab lb cb zb) (hp:(-1048576≤px∧px≤1048576)∧-1048576≤py∧py≤1048576) (hq:(-1048576≤qx∧qx≤1048576)∧-1048576≤qy∧qy≤1048576) (he:0≤e∧e≤1024) (hc:L8 ra za px py rb zb qx qy=true):
  Co (cnx ra za px py rb zb qx qy) (cny ra za px py rb zb qx qy) (cdp ra za px py rb zb qx qy) e:=by
 have hm:Vo (Yi ra za px py rb zb qx qy)∧0<Jy ra za px py rb zb qx qy (Yi ra za px py rb zb qx qy):=by
  unfold Yi;rcases Nj (Jy ra za px py rb zb qx qy) (Yg za zb (qx-px) (qy-py))with⟨h,_⟩|⟨y,hy,hm,_⟩
  ·exact absurd h (Yh _ _ _ _)
  ·rw[hy];refine⟨afq _ _ _ _ _ hm,?_⟩;unfold L8 at hc;rw[Bool.and_eq_true,List.all_eq_true]at hc;simpa using hc.2 y hm
 have hd:=Wu hA hB hp hq _ hm.1;obtain⟨⟨a0,a1,a2,a3⟩,h0⟩:=hm;unfold cnx cny cdp;rw[if_pos hc,if_pos hc,if_pos hc];refine⟨?_,?_,?_,?_,ae,ae,he.1,he.2⟩<;>(split<;>omega)
theorem ZL (n lo hi:Int) (h:lo≤hi):lo≤g_ n lo hi∧g_ n lo hi≤hi:=by unfold g_;split<;>(try split)<;>omega
theorem Sr {vx vy am ux uy bm nx ny d:Int} (A:Mo px py vx vy am) (B:Mo qx qy ux uy bm) (C:Co nx ny d e):
  ∃p0 p1 p2 p3 q0 q1 q2 q3,Mo p0 p1 p2 p3 am∧Mo q0 q1 q2 q3 bm∧dZ prog 115 #[.agg #[ag px,ag py,ag vx,ag vy,ag am],.agg #[ag qx,ag qy,ag ux,ag uy,ag bm],.agg #[ag nx,ag ny,ag d],ag e] (.tuple #[.agg #[ag p0,ag p1,ag p2,ag p3,ag am],.agg #[ag q0,ag q1,ag q2,ag q3,ag bm]]):=by have h:=OC px py vx vy am qx qy ux uy bm nx ny d e A B C _ _ _ _ _ rfl rfl rfl rfl rfl;have p:∀n,-1048576≤g_ n (-1048576) 1048576∧g_ n (-1048576) 1048576≤1048576:=fun n=>ZL n _ _ ae;have v:∀n,-16384≤g_ n (-16384) 16384∧g_ n (-16384) 16384≤16384:=fun n=>ZL n _ _ ae;exact⟨_,_,_,_,_,_,_,_,⟨(p _).1,(p _).2,(p _).1,(p _).2,(v _).1,(v _).2,(v _).1,(v _).2,A.m0,A.m1⟩,⟨(p _).1,(p _).2,(p _).1,(p _).2,(v _).1,(v _).2,(v _).1,(v _).2,B.m0,B.m1⟩,h⟩
end Tc
end Go.Proofs.YtohpdonnpbjfdaaGreatDoor
