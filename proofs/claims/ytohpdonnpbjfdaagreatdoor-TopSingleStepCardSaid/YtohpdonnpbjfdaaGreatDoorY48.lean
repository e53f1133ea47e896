/- What is shown: package machine. Conditions: as each theorem states. -/
import Derived.Test.YtohpdonnpbjfdaaGreatDoorY47
set_option maxHeartbeats 40000000
set_option maxRecDepth 100000
set_option linter.unusedVariables false
set_option linter.unusedSimpArgs false
open Go.Proofs.Tryz
namespace Go.Proofs.YtohpdonnpbjfdaaGreatDoor
namespace Mc
open Go.RowKit aN fO Qt Ro Bk Ce La Ha In Vm Ve To Sh Co
attribute [local go_sem] Oper.semAt_some
theorem Oq {S:Stp} (hS:mf S) {rm dr inp code:Value} {ab a_:Nat} {e0 e1 e2 cK:Int} {W0 w w0:World} {F0:Fp} {bt M C m i j k0:Nat} {L:Option Nat} {c:List Int} (BF:Wk S ⟨aZ ab S.bodies.length a_,rm,dr,code,e0,e1,e2,cK,inp,i,j,false,0,0,0,0,false⟩ W0 w0 F0 bt w M C L m c k0) (iY:fP W0 S (aZ ab S.bodies.length a_) rm dr) (hBA:∀i B,S.bodies[i]?=some B→wM W0 ab i B) (hr:m<999980500)
  {A B:yx} (hA:S.bodies[i]?=some A) (hB:S.bodies[j]?=some B) {px py vx vy qx qy ux uy:Int} (q0:cg c (48+4*S.ak+8*i)=px) (q1:cg c (48+4*S.ak+8*i+1)=py) (q2:cg c (48+4*S.ak+8*i+2)=vx) (q3:cg c (48+4*S.ak+8*i+3)=vy)
  (p0:cg c (48+4*S.ak+8*j)=qx) (p1:cg c (48+4*S.ak+8*j+1)=qy) (p2:cg c (48+4*S.ak+8*j+2)=ux) (p3:cg c (48+4*S.ak+8*j+3)=uy) (hp: -1048576≤px∧px≤1048576∧-1048576≤py∧py≤1048576) (hq: -1048576≤qx∧qx≤1048576∧-1048576≤qy∧qy≤1048576)
  {nx ny d:Int} {ok:Bool} (hnx:cnx A.r A.zs px py B.r B.zs qx qy=nx) (hny:cny A.r A.zs px py B.r B.zs qx qy=ny) (hd:cdp A.r A.zs px py B.r B.zs qx qy=d) (hok:L8 A.r A.zs px py B.r B.zs qx qy=ok) {r0 r1 r2 r3 s0 s1 s2 s3:Int}
  (hres:ok=true→dZ prog 115 #[.agg #[ag px,ag py,ag vx,ag vy,ag A.im],.agg #[ag qx,ag qy,ag ux,ag uy,ag B.im],.agg #[ag nx,ag ny,ag d],ag S.rest] (.tuple #[.agg #[ag r0,ag r1,ag r2,ag r3,ag A.im],.agg #[ag s0,ag s1,ag s2,ag s3,ag B.im]])):
  Calls prog 84 #[aR bt] w fun e w'=>e=.returned (.tuple #[])∧∃L' m',aD w' ⟨M,C,L',m'⟩ (if ok then cs (cs (Xl (Xl c (48+4*S.ak+8*i) r0 r1 r2 r3) (48+4*S.ak+8*j) s0 s1 s2 s3) (48+4*S.ak+8*i+6) (j+1)) (48+4*S.ak+8*j+6) (i+1)else c)∧Alt [] w ⟨M,C,L,m⟩ w' ⟨M,C,L',m'⟩ 10:=by
 have hw:=BF.base;clear BF;obtain⟨P1,P8,Pn,n24⟩:=And.intro hS.P1 (And.intro hS.P8 (And.intro hS.Pn hS.n24));have hil:i<S.bodies.length:=(List.getElem?_eq_some_iff.1 hA).1;have hjl:j<S.bodies.length:=(List.getElem?_eq_some_iff.1 hB).1;obtain⟨aA,lA,cA,sa0,sa1,shA⟩:=(hBA i A hA).shape;obtain⟨aB,lB,cB,sb0,sb1,shB⟩:=(hBA j B hB).shape;have hco:∀V,aJ W0 V→Calls prog 114 #[.agg #[ag A.r,.slice aA lA cA],.agg #[ag px,ag py],.agg #[ag B.r,.slice aB lB cB],.agg #[ag qx,ag qy]] V fun e w'=>e=.returned (.tuple #[.agg #[ag nx,ag ny,ag d],.bool ok])∧aJ V w':=fun V hV=>by have:=Gj (shA.later hV) (shB.later hV) (px:=px) (py:=py) (qx:=qx) (qy:=qy) ae ae;rwa[hnx,hny,hd,hok]at this
 have hbi:=oG (S.ak:Int) (i:Int) (some ⟨ab,0,none⟩) S.bodies.length a_ (ag S.x0) (ag S.y0) (ag S.x1) (ag S.y1) rm dr (ag S.ou) (ag S.gx) (ag S.gy) (ag S.push) (ag S.eO) (ag S.rest) (ag S.rounds) (ag S.fuel) ae ae;rw[show vP S.ak S.bodies.length i=48+4*S.ak+8*i by unfold vP;rw[if_pos ae]]at hbi;have hbj:=oG (S.ak:Int) (j:Int) (some ⟨ab,0,none⟩) S.bodies.length a_ (ag S.x0) (ag S.y0) (ag S.x1) (ag S.y1) rm dr (ag S.ou) (ag S.gx) (ag S.gy) (ag S.push) (ag S.eO) (ag S.rest) (ag S.rounds) (ag S.fuel) ae ae;rw[show vP S.ak S.bodies.length j=48+4*S.ak+8*j by unfold vP;rw[if_pos ae]]at hbj;have hh:∀k:Nat,k<S.bodies.length→Calls prog 86 #[aR bt,ag k] w fun e w'=>e=.returned (.bool true)∧w'=w:=fun k hk=>by have:=pJ hw.kT rfl n24 k;rwa[show decide (0≤(k:Int)∧(k:Int)<(S.bodies.length:Int))=true from bU]at this
 have U3:=ah (hh i hil);have acR:=ah (hh j hjl);have hmi:∀V,aJ w V→Calls prog 80 #[aR bt,ag i] V fun e w'=>e=.returned (.agg #[ag px,ag py,ag vx,ag vy,ag A.im])∧aJ V w':=fun V hV=>by exact D9
 have hmj:∀V,aJ w V→Calls prog 80 #[aR bt,ag j] V fun e w'=>e=.returned (.agg #[ag qx,ag qy,ag ux,ag uy,ag B.im])∧aJ V w':=fun V hV=>by exact D_
 refine o8 ?_;intro st;obtain⟨fi,hfi⟩:∃f:Int,f=48+4*(S.ak:Int)+8*(i:Int):=⟨_,rfl⟩
 obtain⟨fj,hfj⟩:∃f:Int,f=48+4*(S.ak:Int)+8*(j:Int):=⟨_,rfl⟩
 have hsi:∀(W:World) (L':Option Nat) (m':Nat) (c':List Int) (k':Nat),Wk S ⟨aZ ab S.bodies.length a_,rm,dr,code,e0,e1,e2,cK,inp,i,j,false,0,0,0,0,false⟩ W0 w ⟨M,C,L,m⟩ bt W M C L' m' c' k'→m'<999990000→Calls prog 116 #[aR bt,ag i,.agg #[ag r0,ag r1,ag r2,ag r3,ag A.im]] W fun e w'=>e=.returned (.tuple #[])∧∃OB m'',aD w' ⟨M,C,OB,m''⟩ (Xl c' fi r0 r1 r2 r3)∧Alt [] W ⟨M,C,L',m'⟩ w' ⟨M,C,OB,m''⟩ 4:=fun W L' m' c' k' h hm=>by rw[hfi];exact yX h.hm hm rfl P8 n24 h.kT i hil _ _ _ _ _
 have hsj:∀(W:World) (L':Option Nat) (m':Nat) (c':List Int) (k':Nat),Wk S ⟨aZ ab S.bodies.length a_,rm,dr,code,e0,e1,e2,cK,inp,i,j,false,0,0,0,0,false⟩ W0 w ⟨M,C,L,m⟩ bt W M C L' m' c' k'→m'<999990000→Calls prog 116 #[aR bt,ag j,.agg #[ag s0,ag s1,ag s2,ag s3,ag B.im]] W fun e w'=>e=.returned (.tuple #[])∧∃OB m'',aD w' ⟨M,C,OB,m''⟩ (Xl c' fj s0 s1 s2 s3)∧Alt [] W ⟨M,C,L',m'⟩ w' ⟨M,C,OB,m''⟩ 4:=fun W L' m' c' k' h hm=>by rw[hfj];exact yX h.hm hm rfl P8 n24 h.kT j hjl _ _ _ _ _
 have bi0:0≤fi∧fi≤1000:=ae;have bj0:0≤fj∧fj≤1000:=ae;rw[←hfi]at hbi⊢;rw[←hfj]at hbj⊢;clear q0 q1 q2 q3 p0 p1 p2 p3 hnx hny hd hok hBA hA hB shA shB iY hS hfi hfj hh hp hq;generalize A.r=ra at*;generalize B.r=rb at*;generalize A.im=ma at*;generalize B.im=mb at*;generalize S.bodies.length=nb at*;have hiI:(i:Int)<(nb:Int):=ae;have UL:(j:Int)<(nb:Int):=ae;have bZ:=hw.kT.bV;have b_:=hw.kT.blk.free;have Ut:=hw.kT.blk.lt;have hmk:=Tryz.nV M;have ZH:=ah hmi;have ZI:=ah hmj;have acd:=ah hco;have ar9:=ah hbi;have ar_:=ah hbj;have acC:=ah hsi;have asa:=ah hsj;have aeD:=ah hres;clear hmi hmj hco hbi hbj hsi hsj hres;have nP:aJ w w:=aK _ _;have hal:=aQ;have bu:=dL;have cZ:=au;have HST:=ah st;clear st;go_enter func84,ntmps84;go_upto_region 1 with(first|((with_reducible refine U3.out.mono ?_);rintro e w1 ⟨rfl,iI⟩;rw[iI];clear iI w1)|((with_reducible refine acR.out.mono ?_);rintro e w1 ⟨rfl,iI⟩;rw[iI];clear iI w1));go_cut [2,3] (fun s2 s3 wx=>(∃b2 b3,s2=aR b2∧s3=aR b3∧(wx.cell? ⟨b2,0,none⟩=some (ag px)∧wx.cell? ⟨b2,1,none⟩=some (ag py)∧wx.cell? ⟨b2,2,none⟩=some (ag vx)∧wx.cell? ⟨b2,3,none⟩=some (ag vy)∧wx.cell? ⟨b2,4,none⟩=some (ag ma)∧(∀q,wx.frozen? ⟨b2,q,none⟩=false))∧(wx.cell? ⟨b3,0,none⟩=some (ag qx)∧wx.cell? ⟨b3,1,none⟩=some (ag qy)∧wx.cell? ⟨b3,2,none⟩=some (ag ux)∧wx.cell? ⟨b3,3,none⟩=some (ag uy)∧wx.cell? ⟨b3,4,none⟩=some (ag mb)∧(∀q,wx.frozen? ⟨b3,q,none⟩=false))∧w.heap.size≤b2∧w.heap.size≤b3∧b2≠b3)∧aJ w wx);case first=>
  go_region_held3 (fun V=>∀q,V.cell? ⟨bt,q,none⟩=[iW M,ag S.ak,aZ ab nb a_,ag S.x0,ag S.y0,ag S.x1,ag S.y1,rm,dr,ag S.ou,ag S.gx,ag S.gy,ag S.push,ag S.eO,ag S.rest,ag S.rounds,ag S.fuel,code,ag e0,ag e1,ag e2,ag cK,inp,ag i,ag j,.bool false,ag 0,ag 0,ag 0,ag 0,.bool false][q]?) (exact HST.out _ aG)
   (first|((with_reducible refine(ZH.out _ aG).mono ?_);refine df ?_;intro wE Ws NE hNE J6 ZK hsE)|((with_reducible refine(ZI.out _ aG).mono ?_);refine df ?_;intro wF hbF NF hNF hcF hfF hsF))
  all_goals
   go_wp2
   go_meet
   refine⟨⟨_,_,rfl,rfl,⟨?_,?_,?_,?_,?_,?_⟩,⟨?_,?_,?_,?_,?_,?_⟩,?_,?_,?_⟩,?_⟩
   all_goals first
    |(simp[cZ,J6,hcF,hal,↓IntWalk.iteOmega];done)
    |(intro q;simp[ZK,hfF,bu,↓IntWalk.iteOmega];done)
    |(intro q;simp[ZK,hfF,bu,↓IntWalk.iteOmega];intro h1 h2;exfalso;omega)
    |((try simp only[bf]at*);omega)
    |(exact aG;done)
 obtain⟨⟨b2,b3,rfl,rfl,⟨x0,x1,x2,x3,x4,x5⟩,⟨y0,y1,y2,y3,y4,y5⟩,h2,h3,h23⟩,hbc⟩:=hcut;have k2:C5 wc ⟨M,C,L,m⟩ b2 px py vx vy ma:=⟨x0,x1,x2,x3,x4,x5,hw.hm.no h2⟩
 have k3:C5 wc ⟨M,C,L,m⟩ b3 qx qy ux uy mb:=⟨y0,y1,y2,y3,y4,y5,hw.hm.no h3⟩
 replace hw:=hw.below hbc;replace bZ:=hw.kT.bV;replace b_:=hw.kT.blk.free;clear hbc HST nP ZH ZI U3 acR;replace sa0:=hw.hs.cell sa0;replace sa1:=hw.hs.cell sa1;replace sb0:=hw.hs.cell sb0;replace sb1:=hw.hs.cell sb1;have hcw:∀V,aJ wc V→Calls prog 114 #[.agg #[ag ra,.slice aA lA cA],.agg #[ag px,ag py],.agg #[ag rb,.slice aB lB cB],.agg #[ag qx,ag qy]] V fun e w'=>e=.returned (.tuple #[.agg #[ag nx,ag ny,ag d],.bool ok])∧aJ V w':=fun V hV=>acd.out V (hw.hs.jQ.trans (hV.mono hw.hs.jQ.size));have nP:aJ wc wc:=aK _ _;clear acd;have amh:=ah hcw;clear hcw;go_upto_region 2 with(fail);go_cut [4,5] (fun s4 s5 wx=>s5=.bool ok∧(∃b4,s4=aR b4∧wx.cell? ⟨b4,0,none⟩=some (ag nx)∧wx.cell? ⟨b4,1,none⟩=some (ag ny)∧wx.cell? ⟨b4,2,none⟩=some (ag d))∧aJ wc wx);case first=>
  as_aux_lemma=>
  refine xz [0,1,2,3,4,5,6,7,8,9,10,11,12,13,14,15,16,17,18,19,20,21,22,23,24,25,26,27] [] 28 32 [29,30,31,33,34] [29,30,31,32,33,34] #[ag 0,ag 0,ag 0] 203 aL aL (fun o ho ev w=>by have ho':=bD ho;rw[←ho'];exact rfl) fun NL hL=>?_
  obtain⟨dU,dV,hlf⟩:=hL
  have SY:=k2.lt
  have lt3:=k3.lt
  have ltc:=hw.kT.blk.lt
  have lta:=aU _ _ sa0
  simp only at lta
  simp only[jA]
  repeat(go_big_quiet_step (fail))
  refine wpQuiet_nil ?_
  refine wpQuiet_nil ?_
  clear dV hlf dU NL
  refine⟨?_,?_⟩
  all_goals
   go_wp2_with (first|((with_reducible refine(amh.out _ aG).mono ?_);refine df ?_;intro w1 aO N1 dA bW eu eF))
   refine Qt.fq ?_
   go_wp2
   go_meet
   refine⟨rfl,⟨_,rfl,?_,?_,?_⟩,?_⟩
   ·simp[cZ,bW,hal,↓IntWalk.iteOmega]
   ·simp[cZ,bW,hal,↓IntWalk.iteOmega]
   ·simp[cZ,bW,hal,↓IntWalk.iteOmega]
   ·exact aG
 obtain⟨rfl,⟨b4,rfl,z0,z1,z2⟩,hbc⟩:=hcut;replace hw:=hw.below hbc;replace k2:=k2.below hbc;replace k3:=k3.below hbc;replace bZ:=hw.kT.bV;replace b_:=hw.kT.blk.free;clear hbc nP amh x0 x1 x2 x3 x4 x5 y0 y1 y2 y3 y4 y5 sa0 sa1 sb0 sb1;cases ok with
 |false=>go_wp2;exact rX
 |true=>
 have asb:=ah (aeD.out rfl);clear aeD;have SY:=k2.lt;have lt3:=k3.lt;have ltc:=hw.kT.blk.lt;have ltz:=aU _ _ z0;simp only at ltz;obtain⟨x0,x1,x2,x3,x4,x5,Z9⟩:=id k2;obtain⟨y0,y1,y2,y3,y4,y5,WQ⟩:=id k3;go_upto_region 4 with(fail);refine jG 9 aL aL fun NL hL=>?_;obtain⟨dU,dV,hlf⟩:=hL;(try simp only[bf]at dU);simp only[dS];repeat(go_big_quiet_step (first|(with_reducible exact aY (asb.out _))))
 refine wpQuiet_nil ?_;rintro w1 ⟨nq,hnq⟩;have aO:=nq.below;rw[←hnq]at aO;clear hnq nq dV hlf dU NL x0 x1 x2 x3 x4 x5 y0 y1 y2 y3 y4 y5 z0 z1 z2 ltz;replace hw:=hw.below aO;replace k2:=k2.below aO;replace k3:=k3.below aO;replace bZ:=hw.kT.bV;replace b_:=hw.kT.blk.free;clear aO SY lt3 ltc;have agW:=k2.c0;have agX:=k2.c1;have agY:=k2.c2;have agZ:=k2.c3;have ag0:=k2.c4;have fk2:=k2.fr;have ag1:=k3.c0;have ag2:=k3.c1;have ag3:=k3.c2;have ag4:=k3.c3;have ag5:=k3.c4;have Bz:=k3.fr;go_wp2;refine Qt.fq ?_;go_upto_region 5 with(fail);refine aP fun W hW=>?_;clear agW agX agY agZ ag0 fk2 ag1 ag2 ag3 ag4 ag5 Bz;replace hw:=hw.store' Z9 h2 0 (ag r0);replace hw:=hw.store' Z9 h2 1 (ag r1);replace hw:=hw.store' Z9 h2 2 (ag r2);replace hw:=hw.store' Z9 h2 3 (ag r3);replace hw:=hw.store' Z9 h2 4 (ag ma);replace hw:=hw.store' WQ h3 0 (ag s0);replace hw:=hw.store' WQ h3 1 (ag s1);replace hw:=hw.store' WQ h3 2 (ag s2);replace hw:=hw.store' WQ h3 3 (ag s3);replace hw:=hw.store' WQ h3 4 (ag mb);have h32:b3≠b2:=Ne.symm h23;replace k2:=((((((k2.put r0 r1 r2 r3 ma).other (p:=⟨b3,0,none⟩) h32 (ag s0)).other (p:=⟨b3,1,none⟩) h32 (ag s1)).other (p:=⟨b3,2,none⟩) h32 (ag s2)).other (p:=⟨b3,3,none⟩) h32 (ag s3)).other (p:=⟨b3,4,none⟩) h32 (ag mb))
 replace k3:=((((((k3.other (p:=⟨b2,0,none⟩) h23 (ag r0)).other (p:=⟨b2,1,none⟩) h23 (ag r1)).other (p:=⟨b2,2,none⟩) h23 (ag r2)).other (p:=⟨b2,3,none⟩) h23 (ag r3)).other (p:=⟨b2,4,none⟩) h23 (ag ma))).put s0 s1 s2 s3 mb;rw[←hW]at hw k2 k3;clear hW;replace bZ:=hw.kT.bV;replace b_:=hw.kT.blk.free;obtain⟨agW,agX,agY,agZ,ag0,fk2,Z9⟩:=id k2;refine bK 6 aL aL fun hL=>?_;have dV:=hL.cell;clear hL;simp only[dS];(repeat(go_big_quiet_step (fail)));refine wpQuiet_nil ?_;clear dV;go_upto_region 6 with(first|((with_reducible refine(acC.out _ _ _ _ _ (hw.below aG) ae).mono ?_);rintro e w1 ⟨rfl,L1,n1,gp,dG⟩;have eD:=dG.n;simp only at eD;replace k3:=(k3.below aG).step dG;replace hw:=(hw.below aG).step gp dG;replace bZ:=hw.kT.bV;replace b_:=hw.kT.blk.free;clear gp dG));obtain⟨ag1,ag2,ag3,ag4,ag5,Bz,WQ⟩:=id k3;refine bK 6 aL aL fun hL=>?_;have dV:=hL.cell;clear hL;simp only[dS];(repeat(go_big_quiet_step (fail)));refine wpQuiet_nil ?_;clear dV;go_upto_region 7 with(first|((with_reducible refine(asa.out _ _ _ _ _ (hw.below aG) ae).mono ?_);rintro e w1 ⟨rfl,L1,n1,gp,dG⟩;have eD:=dG.n;simp only at eD;replace k3:=(k3.below aG).step dG;replace hw:=(hw.below aG).step gp dG;replace bZ:=hw.kT.bV;replace b_:=hw.kT.blk.free;clear gp dG));clear agW agX agY agZ ag0 fk2 ag1 ag2 ag3 ag4 ag5 Bz;have hjb:(j:Int)+1≤100:=ae;have hib:(i:Int)+1≤100:=ae;have ltc:=hw.kT.blk.lt;refine bq 21 aL aL fun NL hL=>?_;obtain⟨dU,dV,hlf⟩:=hL;(try simp only[bf]at dU);simp only[dS];repeat(go_big_quiet_step (first|(with_reducible exact aY (ar9.out _))|(rw[hmk];exact⟨rfl,rfl⟩)))
 refine wpQuiet_nil ?_;rintro w1 ⟨nq,hnq⟩;have aO:=nq.below;rw[←hnq]at aO;clear hnq nq dV hlf dU NL;replace hw:=hw.below aO;replace bZ:=hw.kT.bV;replace b_:=hw.kT.blk.free;clear aO ltc;go_upto_region 8 with(first|(refine dz ?_;clear hw bZ b_;intro w1 L1 n1 eD hw bZ b_));have ltc:=hw.kT.blk.lt;refine bq 21 aL aL fun NL hL=>?_;obtain⟨dU,dV,hlf⟩:=hL;(try simp only[bf]at dU);simp only[dS];repeat(go_big_quiet_step (first|(with_reducible exact aY (ar_.out _))|(rw[hmk];exact⟨rfl,rfl⟩)))
 refine wpQuiet_nil ?_;rintro w1 ⟨nq,hnq⟩;have aO:=nq.below;rw[←hnq]at aO;clear hnq nq dV hlf dU NL;replace hw:=hw.below aO;replace bZ:=hw.kT.bV;replace b_:=hw.kT.blk.free;clear aO ltc;go_wp2_with (first|(refine dz ?_;clear hw bZ b_;intro w1 L1 n1 eD hw bZ b_));go_end0;exact⟨rfl,_,_,hw.hm,hw.hA.mono ae⟩
end Mc
end Go.Proofs.YtohpdonnpbjfdaaGreatDoor
