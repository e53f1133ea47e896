/- What is shown: package machine. Conditions: as each theorem states. -/
import Derived.Test.YtohpdonnpbjfdaaGreatDoorY30
import Derived.Test.YtohpdonnpbjfdaaGreatDoorY46
set_option maxHeartbeats 40000000
set_option maxRecDepth 100000
set_option linter.unusedVariables false
set_option linter.unusedSimpArgs false
open Go.Proofs.Tryz
namespace Go.Proofs.YtohpdonnpbjfdaaGreatDoor
theorem o8 {P Q:Prop} (q:Q) (h:Q→P:=by
 have st:∀V,aJ w V→∀q,V.cell? ⟨bt,q,none⟩=[iW M,ag S.ak,aZ ab S.bodies.length a_,ag S.x0,ag S.y0,ag S.x1,ag S.y1,rm,dr,ag S.ou,ag S.gx,ag S.gy,ag S.push,ag S.eO,ag S.rest,ag S.rounds,ag S.fuel,code,ag e0,ag e1,ag e2,ag cK,inp,ag i,ag j,.bool false,ag 0,ag 0,ag 0,ag 0,.bool false][q]?:=fun V hV q=>((hw.kT.below hV).bV q)
 intro kk;revert st;exact kk):P:=h q
theorem D9 {P:Prop} (h:P:=by have:=vz (hw.hm.below hV) (hw.hs.below hV) iY P8 n24 (hw.kT.below hV) i A hA;rwa[show Jh c S.ak i A.im=.agg #[ag px,ag py,ag vx,ag vy,ag A.im] by unfold Jh;rw[q0,q1,q2,q3]]at this):P:=h
theorem D_ {P:Prop} (h:P:=by have:=vz (hw.hm.below hV) (hw.hs.below hV) iY P8 n24 (hw.kT.below hV) j B hB;rwa[show Jh c S.ak j B.im=.agg #[ag qx,ag qy,ag ux,ag uy,ag B.im] by unfold Jh;rw[p0,p1,p2,p3]]at this):P:=h
theorem D8 {P:Prop} (h:P:=by
 have hx:aJ w x.out:=by rw[x.eq];exact(aK _ _).drew
 have:=oH (hw.hs.below hx) iY n24 (hw.kT.below hx) i;rw[hmv]at this;exact this.mono fun e w' ⟨he,hw⟩=>⟨he,x,hw⟩):P:=h
theorem D5 {P Q:Prop} (q:Q) (h:RowKit.Hid Q→P:=by first|(intro kk;(with_reducible refine(Uu.out _ _ _ _ (hw.below aG) ae).mono ?_);rintro e w1 ⟨rfl,L1,n1,gp,dG⟩;have eD:=dG.n;simp only at eD;replace hw:=(hw.below aG).step gp dG;replace bZ:=hw.kT.bV;replace b_:=hw.kT.blk.free;clear gp dG;revert b_ bZ hw eD n1 L1 w1;exact kk.out)|fail):P:=h (ah q)
theorem EO {P:Prop} (h:P:=by have:=pJ h.kT rfl n24 j;rwa[show decide (0≤(j:Int)∧(j:Int)<(S.bodies.length:Int))=false from bU]at this):P:=h
theorem D6 {P:Prop} (h:P:=by
 have n24:=hS.n24;have hha:∀(W:World) (L':Option Nat) (m':Nat) (c':List Int) (k':Nat),Wk S ⟨aZ ab S.bodies.length a_,rm,dr,code,e0,e1,e2,cK,inp,i,j,false,0,0,0,0,false⟩ W0 w ⟨M,C,L,m⟩ bt W M C L' m' c' k'→Calls prog 86 #[aR bt,ag j] W fun e w'=>e=.returned (.bool false)∧w'=W:=fun W L' m' c' k' h=>by exact EO
 have hmo:∀(W:World) (L':Option Nat) (m':Nat) (c':List Int) (k':Nat),Wk S ⟨aZ ab S.bodies.length a_,rm,dr,code,e0,e1,e2,cK,inp,i,j,false,0,0,0,0,false⟩ W0 w ⟨M,C,L,m⟩ bt W M C L' m' c' k'→Calls prog 79 #[aR bt,ag i] W fun e w'=>e=.returned (.bool true)∧w'=W:=fun W L' m' c' k' h=>by have:=oH h.hs iY n24 h.kT i;rwa[hmv]at this
 first
 |revert bP;intro bP
  refine ko ?_;intro yo
 |revert gu;intro gu
  refine j_ ?_;intro yo
 have hiI:(i:Int)+1≤100:=ae;clear iY hS hmv hj;generalize S.bodies.length=nb at*;have bZ:=hw.kT.bV;have b_:=hw.kT.blk.free;have hmk:=Tryz.nV M;have ZG:=ah hha;have Ff:=ah hmo;have Uu:=ah hsub;clear hha hmo hsub;go_enter func45,ntmps45;go_upto_region 5 with(first|((with_reducible refine(ZG.out _ _ _ _ _ (hw.below aG)).mono ?_);rintro e w1 ⟨rfl,rfl⟩)|((with_reducible refine(Ff.out _ _ _ _ _ (hw.below aG)).mono ?_);rintro e w1 ⟨rfl,rfl⟩)|(refine D5 ?_;clear hw bZ b_;intro w1 L1 n1 eD hw bZ b_));first
 |revert bP;intro bP
  refine dD ?_
  go_upto_region 6 with(fail)
  exact su
 |revert gu;intro gu
  exact yu):P:=h
theorem D7 {P:Prop} (h:P:=by
 have n24:=hS.n24;have hha:∀(W:World) (L':Option Nat) (m':Nat) (c':List Int) (k':Nat),Wk S ⟨aZ ab S.bodies.length a_,rm,dr,code,e0,e1,e2,cK,inp,i,j,false,0,0,0,0,false⟩ W0 w ⟨M,C,L,m⟩ bt W M C L' m' c' k'→Calls prog 86 #[aR bt,ag j] W fun e w'=>e=.returned (.bool false)∧w'=W:=fun W L' m' c' k' h=>by exact EO
 have hmo:∀(W:World) (L':Option Nat) (m':Nat) (c':List Int) (k':Nat),Wk S ⟨aZ ab S.bodies.length a_,rm,dr,code,e0,e1,e2,cK,inp,i,j,false,0,0,0,0,false⟩ W0 w ⟨M,C,L,m⟩ bt W M C L' m' c' k'→Calls prog 79 #[aR bt,ag i] W fun e w'=>e=.returned (.bool false)∧w'=W:=fun W L' m' c' k' h=>by have:=oH h.hs iY n24 h.kT i;rwa[hmv]at this
 first
 |revert bP;intro bP
  refine ko ?_;intro yo
 |revert gu;intro gu
  refine j_ ?_;intro yo
 have hiI:(i:Int)+1≤100:=ae;clear iY hS hmv hj;generalize S.bodies.length=nb at*;have bZ:=hw.kT.bV;have b_:=hw.kT.blk.free;have hmk:=Tryz.nV M;have ZG:=ah hha;have Ff:=ah hmo;clear hha hmo;go_enter func45,ntmps45;go_upto_region 5 with(first|((with_reducible refine(ZG.out _ _ _ _ _ (hw.below aG)).mono ?_);rintro e w1 ⟨rfl,rfl⟩)|((with_reducible refine(Ff.out _ _ _ _ _ (hw.below aG)).mono ?_);rintro e w1 ⟨rfl,rfl⟩));first
 |revert bP;intro bP
  refine dD ?_
  go_upto_region 6 with(fail)
  exact su
 |revert gu;intro gu
  exact yu):P:=h
theorem DK {P:Prop} (h:P:=by refine⟨c',htr,?_⟩;intro W0 w M C L m bt T h hr t;obtain⟨ab,a_,hbs,_⟩:=h.hS.bodies;have h':=h;have t':=t;obtain⟨bs,rm,dr,code,a0,a1,a2,v,inp,i',j',en',xx,yy,zz,rr,qq⟩:=T;obtain⟨g0,g1,g2,g3,g4,g5,g6,g7,g8,g9,g10,g11⟩:=t;simp only at g0 g1 g2 g3 g4 g5 g6 g7 g8 g9 g10 g11 hbs;rw[hi]at g4;rw[hj]at g5;subst g0 g1 g2 g3 g4 g5 g6 g7 g8 g9 g10 g11 hbs;refine(hfo h.wk h.hS hr).mono ?_;rintro e w' ⟨rfl,L',m',hm,hA⟩;exact⟨rfl,h'.fin t' hm hA ae⟩):P:=h
theorem x_ {P Q:Prop} (q:Q) (h:Q→P:=by
 have hget:∀W,aD W ⟨M,C,L,m⟩ c→Calls prog 31 #[aR M,ag 4] W fun e w'=>e=.returned (ag k)∧aJ W w':=fun W h=>(iZ h 4).mono fun e w' ⟨he,hw⟩=>⟨hk▸he,by rw[hw];exact aK _ _⟩
 intro kk;revert hget;exact kk):P:=h q
theorem yc {P Q:Prop} (q:Q) (h:Q→P:=by have hgx:∀V,aJ w V→Calls prog 31 #[aR M,ag 4] V fun e w'=>e=.returned (ag k)∧aJ V w':=fun V hV=>hget V (hw.hm.below hV);intro kk;revert hgx;exact kk):P:=h q
theorem Ee {P:Prop} (h:P:=by
 generalize S.bodies.length=nb at*;have bZ:=hw.kT.bV;have b_:=hw.kT.blk.free;have Ut:=hw.kT.blk.lt;have hmk:=Tryz.nV M;have nP:aJ w w:=aK _ _;have hal:=aQ;have bu:=dL;have cZ:=au;have HST:=ah st;clear st;have Z8:=ah hgx;clear hgx;go_enter func44,ntmps44;go_upto_region 0 with(fail);go_cut [2,3] (fun s2 s3 wx=>(∃b2 b3,s2=aR b2∧s3=aR b3∧wx.cell? ⟨b2,0,none⟩=some (ag nb)∧wx.cell? ⟨b3,0,none⟩=some (ag k)∧(∀q,wx.frozen? ⟨b3,q,none⟩=false)∧w.heap.size≤b2∧w.heap.size≤b3∧b2≠b3)∧aJ w wx);case first=>
  go_region_held3 (fun V=>∀q,V.cell? ⟨bt,q,none⟩=[iW M,ag S.ak,aZ ab nb a_,ag S.x0,ag S.y0,ag S.x1,ag S.y1,rm,dr,ag S.ou,ag S.gx,ag S.gy,ag S.push,ag S.eO,ag S.rest,ag S.rounds,ag S.fuel,code,ag e0,ag e1,ag e2,ag cK,inp,ag i,ag j,.bool false,ag 0,ag 0,ag 0,ag 0,.bool false][q]?) (exact HST.out _ aG)
   (first|((with_reducible refine(Z8.out _ aG).mono ?_);refine df ?_;intro wE Ws NE hNE J6 ZK hsE))
  all_goals
   go_wp2
   go_meet
   refine⟨⟨_,_,rfl,rfl,?_,?_,?_,?_,?_,?_⟩,?_⟩
   all_goals first
    |(simp[cZ,J6,hal,↓IntWalk.iteOmega];done)
    |(intro q;simp[ZK,bu,↓IntWalk.iteOmega];done)
    |(intro q;simp[ZK,bu,↓IntWalk.iteOmega];intro h1 h2;exfalso;omega)
    |((try simp only[bf]at*);omega)
    |(exact aG;done)
 obtain⟨⟨b2,b3,rfl,rfl,x2,x3,f3,h2,h3,h23⟩,hbc⟩:=hcut;have Z9:=hw.hm.no h2;have WQ:=hw.hm.no h3;replace hw:=hw.below hbc;replace bZ:=hw.kT.bV;replace b_:=hw.kT.blk.free;clear hbc HST nP Z8 hal bu;go_upto_region 1 with(fail);refine dD ?_;go_wp2_with (first|(refine mX ?_;clear hw bZ b_;intro w1 L1 n1 eD hw bZ b_)|(refine dz ?_;clear hw bZ b_;intro w1 L1 n1 eD hw bZ b_));refine bodyPost_ret (results_none rfl _ _ _) rfl ?_;exact⟨rfl,_,_,hw.hm,hw.hA.mono ae⟩):P:=h
namespace Mc
open Go.RowKit aN fO Qt Ro Bk Ce La Ha In Vm Ve
attribute [local go_sem] Oper.semAt_some
variable {S:Stp} {W0 w0 w:World} {F0:Fp} {bt M C m:Nat} {L:Option Nat} {c:List Int}
theorem Wk.base {T:IQ} {k:Nat} (h:Wk S T W0 w0 F0 bt w M C L m c k):Wk S T W0 w ⟨M,C,L,m⟩ bt w M C L m c 0:=
 ⟨h.hm,h.kT,h.hs,Alt.refl _ _ _,h.kT.blk.lt,h.hs.jQ.size⟩
theorem Ou (hS:mf S) {rm dr inp code:Value} {ab a_:Nat} {e0 e1 e2 cK j0:Int} {i k0:Nat} (BF:Wk S ⟨aZ ab S.bodies.length a_,rm,dr,code,e0,e1,e2,cK,inp,i,j0,false,0,0,0,0,false⟩ W0 w0 F0 bt w M C L m c k0) (iY:fP W0 S (aZ ab S.bodies.length a_) rm dr) (hi:i<S.bodies.length) (hr:m<999980500)
  {B:yx} (hB:S.bodies[i]?=some B) {f px py vx vy fr gx gy:Int} (hf:f=48+4*(S.ak:Int)+8*(i:Int)) (q0:cg c f=px) (q1:cg c (f+1)=py) (q2:cg c (f+2)=vx) (q3:cg c (f+3)=vy) (q5:cg c 5=fr)
  (hpx: -1048576≤px∧px≤1048576) (hpy: -1048576≤py∧py≤1048576) (Sv: -16384≤vx∧vx≤16384) (Sw: -16384≤vy∧vy≤16384) (hfr:0≤fr∧fr≤1024) (hgx:px+eP (vx*min 1024 (fr+128)) 1024=gx) (hgy:py+eP (vy*min 1024 (fr+128)) 1024=gy)
  (hv1: -16384≤cg (cs c f (g_ gx S.x0 S.x1)) (f+2)∧cg (cs c f (g_ gx S.x0 S.x1)) (f+2)≤16384)
  (hv2: -16384≤cg (cs (Xn c f (f+2) gx S.x0 S.x1 S.rest) (f+1) (g_ gy S.y0 S.y1)) (f+3)∧cg (cs (Xn c f (f+2) gx S.x0 S.x1 S.rest) (f+1) (g_ gy S.y0 S.y1)) (f+3)≤16384):
  Calls prog 88 #[aR bt] w fun e w'=>e=.returned (.tuple #[])∧∃L' m',aD w' ⟨M,C,L',m'⟩ (Xn (Xn c f (f+2) gx S.x0 S.x1 S.rest) (f+1) (f+3) gy S.y0 S.y1 S.rest)∧Alt [] w ⟨M,C,L,m⟩ w' ⟨M,C,L',m'⟩ 4:=by
 have hw:=BF.base;obtain⟨P1,P8,Pn,n24⟩:=And.intro hS.P1 (And.intro hS.P8 (And.intro hS.Pn hS.n24));have hrs:=hS.rest;refine x9 ?_;intro hbd;rw[show vP S.ak S.bodies.length i=48+4*S.ak+8*i by unfold vP;rw[if_pos ae],←hf]at hbd;have hmt:=vz hw.hm hw.hs iY P8 n24 hw.kT i B hB;rw[show Jh c S.ak i B.im=.agg #[ag px,ag py,ag vx,ag vy,ag B.im] by unfold Jh;rw[←hf,q0,q1,q2,q3]]at hmt;obtain⟨g,hg⟩:∃g,g=min 1024 (fr+128):=⟨_,rfl⟩
 have BC:0≤g∧g≤1024:=ae;have mx:=d_ (a:=vx) (b:=g) (A:=16384) (B:=1024) Sv.1 Sv.2 ae BC.2;have my:=d_ (a:=vy) (b:=g) (A:=16384) (B:=1024) Sw.1 Sw.2 ae BC.2;have hmd:=qP vx vy g 1024 ae ae ae ae;have bx: -16385≤eP (vx*g) 1024∧eP (vx*g) 1024≤16385:=by rw[FB _ _ ae];omega
 have by': -16385≤eP (vy*g) 1024∧eP (vy*g) 1024≤16385:=by rw[FB _ _ ae];omega
 have had:=jM px py (eP (vx*g) 1024) (eP (vy*g) 1024) ae ae ae ae;rw[←hg]at hgx hgy;rw[hgx,hgy]at had;have hget:∀W,aD W ⟨M,C,L,m⟩ c→Calls prog 31 #[aR M,ag 5] W fun e w'=>e=.returned (ag fr)∧w'=W:=fun W h=>q5▸iZ h 5;generalize eP (vx*g) 1024=dx at*;generalize eP (vy*g) 1024=dy at*;rw[hg]at hmd;have hf0:0≤f:=ae;have eu:f≤1000:=ae;clear hf hS hg mx my q0 q1 q2 q3 q5 hgx hgy BF hpx hpy Sv Sw;generalize S.bodies.length=nb at*;have bZ:=hw.kT.bV;have b_:=hw.kT.blk.free;have vQ:=ah hbd;have adj:=ah hmt;have ar5:=ah hmd;have YG:=ah had;have Uv:=ah hget;have ar6:=ah hv1;have ar7:=ah hv2;clear hbd hmt hmd had hget hv1 hv2;go_enter func88,ntmps88;go_upto_region 1 with(first|((with_reducible refine(adj.out).mono ?_);rintro e w1 ⟨rfl,aO⟩;replace hw:=hw.below (w':=w1) aG;replace bZ:=hw.kT.bV;replace b_:=hw.kT.blk.free;clear aO));refine aP fun W hW=>?_;refine Ec ?_;intro k3;replace hw:=hw.below (w':=W) aM;replace bZ:=hw.kT.bV;replace b_:=hw.kT.blk.free;clear hW;have⟨⟨Ic,Bz,_⟩,_⟩:=k3;go_upto_region 2 with(first|((with_reducible refine(Uv.out _ (hw.hm.below aG)).mono ?_);rintro e w1 ⟨rfl,rfl⟩));have Ut:=hw.kT.blk.lt;have lt3:=k3.blk.lt;have sJ:=hw.hA.size;refine fF 7 4 #[ag 0,ag 0] 29 rfl aL aL (fun o ho ev w=>by have ho':=bD ho;rw[←ho'];exact rfl) fun NL hL=>?_;obtain⟨dU,dV,hlf⟩:=hL;(try simp only[bf]at dU);simp only[dS];repeat((refine kI (fun K hK=>?_);go_simp;(repeat(simp only[↓IntWalk.iteOmega];(try go_simp))));first|(refine hK _ ?_;clear hK K)|(apply Exists.intro;refine⟨fun x=>?_,hK _ ?_⟩;(first|(with_reducible exact kJ (ar5.out _))|(with_reducible exact kJ (YG.out _)));clear hK K))
 (refine jq ?_;intro b1 w1 aO ek uX lU zn;(try simp only[bf]at lU);clear dV hlf dU NL;obtain⟨N1,dA,bW,eu,eF⟩:=eB aO;(try simp only[bf]at dA));refine Ed ?_;intro k4;have h4:w.heap.size≤b1:=aS sJ lU;replace hw:=hw.below aO;replace bZ:=hw.kT.bV;replace b_:=hw.kT.blk.free;clear ek uX aO bW eu eF dA N1 k3 Ic Bz Ut lt3 sJ lU zn;have⟨⟨iw,iB,_⟩,_⟩:=k4;simp only[Act.put,dH];go_upto_region 3 with(fail);refine aP fun W hW=>?_;replace hw:=hw.store k4 h4 0 (ag gx);replace k4:=k4.put 0 (ag gx);replace hw:=hw.store k4 h4 1 (ag gy);replace k4:=k4.put 1 (ag gy);rw[←hW]at hw k4;clear hW iw iB bZ b_;simp only[List.set_cons_zero,List.set_cons_succ]at k4;have bZ:=hw.kT.bV;have b_:=hw.kT.blk.free;have⟨⟨iw,iB,_⟩,_⟩:=k4;have Ut:=hw.kT.blk.lt;have lt4:=k4.blk.lt;obtain⟨b4,lY⟩:∃b4,b4=b1:=⟨_,rfl⟩
 rw[←lY]at k4 h4 iw iB lt4⊢;clear lY;have st:∀V,aJ W V→∀q,V.cell? ⟨bt,q,none⟩=[iW M,ag S.ak,aZ ab nb a_,ag S.x0,ag S.y0,ag S.x1,ag S.y1,rm,dr,ag S.ou,ag S.gx,ag S.gy,ag S.push,ag S.eO,ag S.rest,ag S.rounds,ag S.fuel,code,ag e0,ag e1,ag e2,ag cK,inp,ag i,ag j0,.bool false,ag 0,ag 0,ag 0,ag 0,.bool false][q]?:=fun V hV q=>((hw.kT.below hV).bV q)
 have tC:=ah st;clear st;have hal:=aQ;have bu:=dL;go_cut [5,6] (fun s5 s6 wx=>s5=ag f∧(∃b6,s6=aR b6∧wx.cell? ⟨b6,0,none⟩=some (ag S.x0)∧wx.cell? ⟨b6,1,none⟩=some (ag S.y0)∧wx.cell? ⟨b6,2,none⟩=some (ag S.x1)∧wx.cell? ⟨b6,3,none⟩=some (ag S.y1)∧W.heap.size≤b6)∧aJ W wx);case first=>
  go_region_held3 (fun V=>∀q,V.cell? ⟨bt,q,none⟩=[iW M,ag S.ak,aZ ab nb a_,ag S.x0,ag S.y0,ag S.x1,ag S.y1,rm,dr,ag S.ou,ag S.gx,ag S.gy,ag S.push,ag S.eO,ag S.rest,ag S.rounds,ag S.fuel,code,ag e0,ag e1,ag e2,ag cK,inp,ag i,ag j0,.bool false,ag 0,ag 0,ag 0,ag 0,.bool false][q]?) (exact tC.out _ aG)
   (first|((with_reducible refine(vQ.out _).mono ?_);refine df ?_;intro wE Ws NE hNE J6 ZK hsE))
  all_goals
   have cZ:=au
   go_wp2
   go_meet
   refine⟨rfl,⟨_,rfl,?_,?_,?_,?_,?_⟩,?_⟩
   ·simp[cZ,J6,hal,↓IntWalk.iteOmega]
   ·simp[cZ,J6,hal,↓IntWalk.iteOmega]
   ·simp[cZ,J6,hal,↓IntWalk.iteOmega]
   ·simp[cZ,J6,hal,↓IntWalk.iteOmega]
   ·first|exact aH _|(rw[←hNE];exact hsE)|omega
   ·exact aG
 obtain⟨rfl,⟨b6,rfl,x6,y6,x6',y6',h6⟩,hbc⟩:=hcut;have hmW:=hw.hm;have n6:=hmW.no h6;have l6:b6<wc.heap.size:=aU _ _ x6;replace hw:=hw.below hbc;replace k4:=k4.below hbc;replace bZ:=hw.kT.bV;replace b_:=hw.kT.blk.free;replace iw:=k4.blk.cell;replace iB:=k4.blk.free;clear hbc hmW tC hal bu;go_wp2_with (first|((with_reducible refine(J5 (hw.hm.below aG) ae (hw.kT.below aG) _ _ _ _ _ hrs ar6.out).mono ?_);rintro e w1 ⟨rfl,L1,n1,gp,dG⟩;have eD:=dG.n;simp only at eD;replace x6:=dG.cell n6 av x6;replace y6:=dG.cell n6 av y6;replace x6':=dG.cell n6 av x6';replace y6':=dG.cell n6 av y6';replace n6:=fun hh=>n6 (dG.has l6 hh);replace l6:=bH l6 dG.size;replace k4:=(k4.below aG).step dG;replace iw:=k4.blk.cell;replace iB:=k4.blk.free;replace hw:=(hw.below aG).step gp dG;replace bZ:=hw.kT.bV;replace b_:=hw.kT.blk.free;clear gp dG)|((with_reducible refine(J5 (hw.hm.below aG) ae (hw.kT.below aG) _ _ _ _ _ hrs ar7.out).mono ?_);rintro e w1 ⟨rfl,L1,n1,gp,dG⟩;have eD:=dG.n;simp only at eD;replace x6:=dG.cell n6 av x6;replace y6:=dG.cell n6 av y6;replace x6':=dG.cell n6 av x6';replace y6':=dG.cell n6 av y6';replace n6:=fun hh=>n6 (dG.has l6 hh);replace l6:=bH l6 dG.size;replace k4:=(k4.below aG).step dG;replace iw:=k4.blk.cell;replace iB:=k4.blk.free;replace hw:=(hw.below aG).step gp dG;replace bZ:=hw.kT.bV;replace b_:=hw.kT.blk.free;clear gp dG));go_end0;exact⟨rfl,_,_,hw.hm,hw.hA.mono ae⟩
open To Sh
variable {rm dr inp code:Value} {ab a_ bt M C m i j k0:Nat} {e0 e1 e2 cK:Int} {W0 w w0:World}
theorem acU (hS:mf S) (BF:Wk S ⟨aZ ab S.bodies.length a_,rm,dr,code,e0,e1,e2,cK,inp,i,j,false,0,0,0,0,false⟩ W0 w0 F0 bt w M C L m c k0) (iY:fP W0 S (aZ ab S.bodies.length a_) rm dr) (h:i=j∨(i≠j∧IU S i=false)):
  Calls prog 87 #[aR bt] w fun e w'=>e=.returned (.tuple #[])∧∃L' m',aD w' ⟨M,C,L',m'⟩ c∧Alt [] w ⟨M,C,L,m⟩ w' ⟨M,C,L',m'⟩ 1:=by
 have hw:=BF.base;clear BF;have n24:=hS.n24;have bZ:=hw.kT.bV;have b_:=hw.kT.blk.free;rcases h with rfl|⟨hne,hmv⟩
 ·go_enter func87,ntmps87;go_upto_region 0 with(fail);refine dD ?_;go_wp2;refine bodyPost_ret (results_none rfl _ _ _) rfl ?_;exact⟨rfl,_,_,hw.hm.below aG,(hw.hA.below aG).mono ae⟩
 ·have hne':((i:Int)==(j:Int))=false:=by have:(i:Int)≠(j:Int):=ae;simpa using this
  have hmo:∀x:One w.drew,Calls prog 79 #[aR bt,ag i] x.out fun e w''=>e=.returned (.bool false)∧∃y:One w.drew,w''=y.out:=fun x=>by exact D8
  have Ff:=ah hmo;clear hmo;go_enter func87,ntmps87;go_upto_region 0 with(fail);refine ll aL aL fun hL=>?_;have dV:=hL.cell;clear hL;(repeat(go_big_quiet_step ((with_reducible exact Ff.out _))));refine wpQuiet_nil ?_;clear dV;go_wp2;refine bodyPost_ret (results_none rfl _ _ _) rfl ?_;exact⟨rfl,_,_,hw.hm.below aG,(hw.hA.below aG).mono ae⟩
theorem acV (hS:mf S) (BF:Wk S ⟨aZ ab S.bodies.length a_,rm,dr,code,e0,e1,e2,cK,inp,i,j,false,0,0,0,0,false⟩ W0 w0 F0 bt w M C L m c k0) (iY:fP W0 S (aZ ab S.bodies.length a_) rm dr) (hBA:∀i B,S.bodies[i]?=some B→wM W0 ab i B) (hr:m<999980500) (hne:i≠j) (hmv:IU S i=true)
  {A B:yx} (hA:S.bodies[i]?=some A) (hB:S.bodies[j]?=some B) {px py vx vy qx qy ux uy fr r:Int} (q0:cg c (48+4*S.ak+8*i)=px) (q1:cg c (48+4*S.ak+8*i+1)=py) (q2:cg c (48+4*S.ak+8*i+2)=vx) (q3:cg c (48+4*S.ak+8*i+3)=vy)
  (p0:cg c (48+4*S.ak+8*j)=qx) (p1:cg c (48+4*S.ak+8*j+1)=qy) (p2:cg c (48+4*S.ak+8*j+2)=ux) (p3:cg c (48+4*S.ak+8*j+3)=uy) (q5:cg c 5=fr) (htb:TBd px py vx vy qx qy 0 0) (her:Xm (tch A.r A.zs px py vx vy B.r B.zs qx qy 0 0)=r):
  Calls prog 87 #[aR bt] w fun e w'=>e=.returned (.tuple #[])∧∃L' m',aD w' ⟨M,C,L',m'⟩ (if r<fr then cs c 5 r else c)∧Alt [] w ⟨M,C,L,m⟩ w' ⟨M,C,L',m'⟩ 1:=by
 have hw:=BF.base;clear BF;obtain⟨P1,P8,Pn,n24⟩:=And.intro hS.P1 (And.intro hS.P8 (And.intro hS.Pn hS.n24));have hil:i<S.bodies.length:=(List.getElem?_eq_some_iff.1 hA).1;have hjl:j<S.bodies.length:=(List.getElem?_eq_some_iff.1 hB).1;obtain⟨aA,lA,cA,sa0,sa1,shA⟩:=(hBA i A hA).shape;obtain⟨aB,lB,cB,sb0,sb1,shB⟩:=(hBA j B hB).shape;have hea:∀V,aJ W0 V→Calls prog 117 #[.agg #[ag A.r,.slice aA lA cA],.agg #[ag px,ag py],.agg #[ag vx,ag vy],.agg #[ag B.r,.slice aB lB cB],.agg #[ag qx,ag qy],.agg #[ag 0,ag 0]] V fun e w'=>e=.returned (ag r)∧aJ V w':=fun V hV=>her▸SB shA shB htb V hV;have hne':((i:Int)==(j:Int))=false:=by have:(i:Int)≠(j:Int):=ae;simpa using this
 have hmo:∀x:One w.drew,Calls prog 79 #[aR bt,ag i] x.out fun e w''=>e=.returned (.bool true)∧∃y:One w.drew,w''=y.out:=fun x=>by exact D8
 have hmi:∀V,aJ w V→Calls prog 80 #[aR bt,ag i] V fun e w'=>e=.returned (.agg #[ag px,ag py,ag vx,ag vy,ag A.im])∧aJ V w':=fun V hV=>by exact D9
 have hmj:∀V,aJ w V→Calls prog 80 #[aR bt,ag j] V fun e w'=>e=.returned (.agg #[ag qx,ag qy,ag ux,ag uy,ag B.im])∧aJ V w':=fun V hV=>by exact D_
 have hget:∀W,aD W ⟨M,C,L,m⟩ c→Calls prog 31 #[aR M,ag 5] W fun e w'=>e=.returned (ag fr)∧w'=W:=fun W h=>q5▸iZ h 5;refine o8 ?_;intro st;clear q0 q1 q2 q3 q5 p0 p1 p2 p3 htb her hBA hA hB hmv shA shB iY hS;generalize A.r=ra at*;generalize B.r=rb at*;generalize A.im=ma at*;generalize B.im=mb at*;generalize S.bodies.length=nb at*;have bZ:=hw.kT.bV;have b_:=hw.kT.blk.free;have Ut:=hw.kT.blk.lt;have tC:=ah st;clear st;have Ff:=ah hmo;have ZH:=ah hmi;have ZI:=ah hmj;have Uv:=ah hget;have ZJ:=ah hea;clear hmo hmi hmj hget hea;go_enter func87,ntmps87;go_upto_region 0 with(fail);refine ll aL aL fun hL=>?_;have dV:=hL.cell;clear hL;(repeat(go_big_quiet_step ((with_reducible exact Ff.out _))));refine wpQuiet_nil ?_;clear dV;go_upto_region 1 with(fail);have nP:aJ w w:=aK _ _;have hal:=aQ;have bu:=dL;refine aP fun W hW=>?_;have hbW:aJ w W:=by rw[hW];exact(aK _ _).drew
 have VF:=hbW.size;have st:∀V,aJ W V→∀q,V.cell? ⟨bt,q,none⟩=[iW M,ag S.ak,aZ ab nb a_,ag S.x0,ag S.y0,ag S.x1,ag S.y1,rm,dr,ag S.ou,ag S.gx,ag S.gy,ag S.push,ag S.eO,ag S.rest,ag S.rounds,ag S.fuel,code,ag e0,ag e1,ag e2,ag cK,inp,ag i,ag j,.bool false,ag 0,ag 0,ag 0,ag 0,.bool false][q]?:=fun V hV=>tC.out V (hbW.trans (hV.mono VF));clear tC;have tC:=ah st;have Hmi:=ah fun V hV=>ZH.out V (hbW.trans (Below.mono hV VF));have Hmj:=ah fun V hV=>ZI.out V (hbW.trans (Below.mono hV VF));clear st ZH ZI hW;have ltW:bt<W.heap.size:=ae;go_cut [2,3] (fun s2 s3 wx=>(∃b2 b3,s2=aR b2∧s3=aR b3∧wx.cell? ⟨b2,0,none⟩=some (ag px)∧wx.cell? ⟨b2,1,none⟩=some (ag py)∧wx.cell? ⟨b2,2,none⟩=some (ag vx)∧wx.cell? ⟨b2,3,none⟩=some (ag vy)∧wx.cell? ⟨b3,0,none⟩=some (ag qx)∧wx.cell? ⟨b3,1,none⟩=some (ag qy))∧aJ W wx);case first=>
  go_region_held3 (fun V=>∀q,V.cell? ⟨bt,q,none⟩=[iW M,ag S.ak,aZ ab nb a_,ag S.x0,ag S.y0,ag S.x1,ag S.y1,rm,dr,ag S.ou,ag S.gx,ag S.gy,ag S.push,ag S.eO,ag S.rest,ag S.rounds,ag S.fuel,code,ag e0,ag e1,ag e2,ag cK,inp,ag i,ag j,.bool false,ag 0,ag 0,ag 0,ag 0,.bool false][q]?) (exact tC.out _ aG)
   (first|((with_reducible refine(Hmi.out _ aG).mono ?_);refine df ?_;intro wE Ws NE hNE J6 ZK hsE)|((with_reducible refine(Hmj.out _ aG).mono ?_);refine df ?_;intro wF hbF NF hNF hcF hfF hsF))
  all_goals
   have cZ:=au
   go_wp2
   go_meet
   refine⟨⟨_,_,rfl,rfl,?_,?_,?_,?_,?_,?_⟩,?_⟩
   ·simp[cZ,J6,hcF,hal,↓IntWalk.iteOmega]
   ·simp[cZ,J6,hcF,hal,↓IntWalk.iteOmega]
   ·simp[cZ,J6,hcF,hal,↓IntWalk.iteOmega]
   ·simp[cZ,J6,hcF,hal,↓IntWalk.iteOmega]
   ·simp[cZ,J6,hcF,hal,↓IntWalk.iteOmega]
   ·simp[cZ,J6,hcF,hal,↓IntWalk.iteOmega]
   ·exact aG
 obtain⟨⟨b2,b3,rfl,rfl,x0,x1,x2,x3,y0,y1⟩,hbc⟩:=hcut;replace hw:=hw.below (hbW.trans (hbc.mono VF));replace bZ:=hw.kT.bV;replace b_:=hw.kT.blk.free;clear hbc hbW tC hal bu Hmi Hmj nP VF ltW;replace sa0:=hw.hs.cell sa0;replace sa1:=hw.hs.cell sa1;replace sb0:=hw.hs.cell sb0;replace sb1:=hw.hs.cell sb1;have hea:=ZJ.out wc.drew (hw.hs.jQ.trans ((aK _ _).drew));have hiI:(i:Int)<(nb:Int):=ae;have UL:(j:Int)<(nb:Int):=ae;clear ZJ;have ZJ:=ah hea;clear hea;go_upto_region 2 with(fail);refine bK 31 aL aL fun hL=>?_;have dV:=hL.cell;clear hL;simp only[dS];(repeat(go_big_quiet_step (fail)));refine wpQuiet_nil ?_;clear dV;by_cases hlt:r<fr
 ·go_wp2_with (first|((with_reducible refine(ZJ.out).mono ?_);rintro e w1 ⟨rfl,aO⟩;replace hw:=hw.below (w':=w1) aG;replace bZ:=hw.kT.bV;replace b_:=hw.kT.blk.free;clear aO)|((with_reducible refine(Uv.out _ (hw.hm.below aG)).mono ?_);rintro e w1 ⟨rfl,rfl⟩)|(refine dz ?_;clear hw bZ b_;intro w1 L1 n1 eD hw bZ b_));go_end0;exact⟨rfl,_,_,hw.hm,hw.hA.mono ae⟩
 ·go_wp2_with (first|((with_reducible refine(ZJ.out).mono ?_);rintro e w1 ⟨rfl,aO⟩;replace hw:=hw.below (w':=w1) aG;replace bZ:=hw.kT.bV;replace b_:=hw.kT.blk.free;clear aO)|((with_reducible refine(Uv.out _ (hw.hm.below aG)).mono ?_);rintro e w1 ⟨rfl,rfl⟩));go_end0;exact⟨rfl,_,_,hw.hm,hw.hA.mono ae⟩
variable {ab a_ bt M C m i j:Nat} {W0 w:World} {c c1:List Int}
theorem V8 (hS:mf S) (hw:Wk S ⟨aZ ab S.bodies.length a_,rm,dr,code,e0,e1,e2,cK,inp,i,j,false,0,0,0,0,false⟩ W0 w ⟨M,C,L,m⟩ bt w M C L m c 0) (iY:fP W0 S (aZ ab S.bodies.length a_) rm dr) (hr:m<999980000) (hj:j<S.bodies.length) (hsub:∀(W:World) (L':Option Nat) (m' k':Nat),Wk S ⟨aZ ab S.bodies.length a_,rm,dr,code,e0,e1,e2,cK,inp,i,j,false,0,0,0,0,false⟩ W0 w ⟨M,C,L,m⟩ bt W M C L' m' c k'→m'<999980500→Calls prog 87 #[aR bt] W fun e w'=>e=.returned (.tuple #[])∧∃OB m'',aD w' ⟨M,C,OB,m''⟩ c1∧Alt [] W ⟨M,C,L',m'⟩ w' ⟨M,C,OB,m''⟩ 4):
  Calls prog 45 #[aR bt] w fun e w'=>e=.returned (.tuple #[])∧∃L' m',aD w' ⟨M,C,L',m'⟩ (cs c1 3 (j+1))∧Alt [] w ⟨M,C,L,m⟩ w' ⟨M,C,L',m'⟩ 12:=by
 have n24:=hS.n24;have hha:∀(W:World) (L':Option Nat) (m':Nat) (c':List Int) (k':Nat),Wk S ⟨aZ ab S.bodies.length a_,rm,dr,code,e0,e1,e2,cK,inp,i,j,false,0,0,0,0,false⟩ W0 w ⟨M,C,L,m⟩ bt W M C L' m' c' k'→Calls prog 86 #[aR bt,ag j] W fun e w'=>e=.returned (.bool true)∧w'=W:=fun W L' m' c' k' h=>by have:=pJ h.kT rfl n24 j;rwa[show decide (0≤(j:Int)∧(j:Int)<(S.bodies.length:Int))=true from bU]at this
 clear iY hS;generalize S.bodies.length=nb at*;have bZ:=hw.kT.bV;have b_:=hw.kT.blk.free;have hmk:=Tryz.nV M;have ZG:=ah hha;have Uu:=ah hsub;clear hha hsub;go_enter func45,ntmps45;go_upto_region 2 with(first|((with_reducible refine(ZG.out _ _ _ _ _ (hw.below aG)).mono ?_);rintro e w1 ⟨rfl,rfl⟩)|(refine D5 ?_;clear hw bZ b_;intro w1 L1 n1 eD hw bZ b_));exact su
theorem acW (hS:mf S) (hw:Wk S ⟨aZ ab S.bodies.length a_,rm,dr,code,e0,e1,e2,cK,inp,i,j,false,0,0,0,0,false⟩ W0 w ⟨M,C,L,m⟩ bt w M C L m c 0) (iY:fP W0 S (aZ ab S.bodies.length a_) rm dr) (hr:m<999980000) (hj:j=S.bodies.length) (hi:i<S.bodies.length) (him:i+1<S.bodies.length) (hmv:IU S i=true) (hsub:∀(W:World) (L':Option Nat) (m' k':Nat),Wk S ⟨aZ ab S.bodies.length a_,rm,dr,code,e0,e1,e2,cK,inp,i,j,false,0,0,0,0,false⟩ W0 w ⟨M,C,L,m⟩ bt W M C L' m' c k'→m'<999980500→Calls prog 88 #[aR bt] W fun e w'=>e=.returned (.tuple #[])∧∃OB m'',aD w' ⟨M,C,OB,m''⟩ c1∧Alt [] W ⟨M,C,L',m'⟩ w' ⟨M,C,OB,m''⟩ 4):
  Calls prog 45 #[aR bt] w fun e w'=>e=.returned (.tuple #[])∧∃L' m',aD w' ⟨M,C,L',m'⟩ (cs (cs (cs c1 2 (i+1)) 3 0) 5 1024)∧Alt [] w ⟨M,C,L,m⟩ w' ⟨M,C,L',m'⟩ 12:=by have bP:=trivial;exact D6
theorem acX (hS:mf S) (hw:Wk S ⟨aZ ab S.bodies.length a_,rm,dr,code,e0,e1,e2,cK,inp,i,j,false,0,0,0,0,false⟩ W0 w ⟨M,C,L,m⟩ bt w M C L m c 0) (iY:fP W0 S (aZ ab S.bodies.length a_) rm dr) (hr:m<999980000) (hj:j=S.bodies.length) (hi:i<S.bodies.length) (him:¬(i+1<S.bodies.length)) (hmv:IU S i=true) (hsub:∀(W:World) (L':Option Nat) (m' k':Nat),Wk S ⟨aZ ab S.bodies.length a_,rm,dr,code,e0,e1,e2,cK,inp,i,j,false,0,0,0,0,false⟩ W0 w ⟨M,C,L,m⟩ bt W M C L' m' c k'→m'<999980500→Calls prog 88 #[aR bt] W fun e w'=>e=.returned (.tuple #[])∧∃OB m'',aD w' ⟨M,C,OB,m''⟩ c1∧Alt [] W ⟨M,C,L',m'⟩ w' ⟨M,C,OB,m''⟩ 4):
  Calls prog 45 #[aR bt] w fun e w'=>e=.returned (.tuple #[])∧∃L' m',aD w' ⟨M,C,L',m'⟩ (cs (AL c1 6 0) 5 0)∧Alt [] w ⟨M,C,L,m⟩ w' ⟨M,C,L',m'⟩ 12:=by have gu:=trivial;exact D6
theorem acY (hS:mf S) (hw:Wk S ⟨aZ ab S.bodies.length a_,rm,dr,code,e0,e1,e2,cK,inp,i,j,false,0,0,0,0,false⟩ W0 w ⟨M,C,L,m⟩ bt w M C L m c 0) (iY:fP W0 S (aZ ab S.bodies.length a_) rm dr) (hr:m<999980000) (hj:j=S.bodies.length) (hi:i<S.bodies.length) (him:i+1<S.bodies.length) (hmv:IU S i=false):
  Calls prog 45 #[aR bt] w fun e w'=>e=.returned (.tuple #[])∧∃L' m',aD w' ⟨M,C,L',m'⟩ (cs (cs (cs c 2 (i+1)) 3 0) 5 1024)∧Alt [] w ⟨M,C,L,m⟩ w' ⟨M,C,L',m'⟩ 12:=by have bP:=trivial;exact D7
theorem acZ (hS:mf S) (hw:Wk S ⟨aZ ab S.bodies.length a_,rm,dr,code,e0,e1,e2,cK,inp,i,j,false,0,0,0,0,false⟩ W0 w ⟨M,C,L,m⟩ bt w M C L m c 0) (iY:fP W0 S (aZ ab S.bodies.length a_) rm dr) (hr:m<999980000) (hj:j=S.bodies.length) (hi:i<S.bodies.length) (him:¬(i+1<S.bodies.length)) (hmv:IU S i=false):
  Calls prog 45 #[aR bt] w fun e w'=>e=.returned (.tuple #[])∧∃L' m',aD w' ⟨M,C,L',m'⟩ (cs (AL c 6 0) 5 0)∧Alt [] w ⟨M,C,L,m⟩ w' ⟨M,C,L',m'⟩ 12:=by have gu:=trivial;exact D7
open Co
variable {w w':World} {b k:Nat} {F:Fp} {v0 v1 v2 v3 v4:Int}
structure C5 (w:World) (F:Fp) (b:Nat) (v0 v1 v2 v3 v4:Int):Prop where
 c0:w.cell? ⟨b,0,none⟩=some (ag v0)
 c1:w.cell? ⟨b,1,none⟩=some (ag v1)
 c2:w.cell? ⟨b,2,none⟩=some (ag v2)
 c3:w.cell? ⟨b,3,none⟩=some (ag v3)
 c4:w.cell? ⟨b,4,none⟩=some (ag v4)
 fr:∀q,w.frozen? ⟨b,q,none⟩=false
 no:¬F.has b
theorem C5.lt (h:C5 w F b v0 v1 v2 v3 v4):b<w.heap.size:=aU _ _ h.c0
theorem C5.below (h:C5 w F b v0 v1 v2 v3 v4) (hb:aJ w w'):C5 w' F b v0 v1 v2 v3 v4:=
 ⟨ai hb h.c0,ai hb h.c1,ai hb h.c2,ai hb h.c3,ai hb h.c4,fun q=>(hb.frozen (p:=⟨b,q,none⟩) h.lt).trans (h.fr q),h.no⟩
theorem C5.step {F':Fp} (h:C5 w F b v0 v1 v2 v3 v4) (a:Alt [] w F w' F' k):C5 w' F' b v0 v1 v2 v3 v4:=
 ⟨a.cell h.no av h.c0,a.cell h.no av h.c1,a.cell h.no av h.c2,a.cell h.no av h.c3,a.cell h.no av h.c4,fun q=>(World.frozen?_of_block (a:=⟨b,q,none⟩) (a.block b h.lt h.no av)).trans (h.fr q),fun hh=>h.no (a.has h.lt hh)⟩
theorem Wk.store' {S:Stp} {T:IQ} {W0 w0:World} {F0:Fp} {bt M C m:Nat} {L:Option Nat} {c:List Int} (h:Wk S T W0 w0 F0 bt w M C L m c k) (no:¬(⟨M,C,L,m⟩:Fp).has b) (h0:w0.heap.size≤b) (i:Nat) (v:Value):Wk S T W0 w0 F0 bt (w.setCell ⟨b,i,none⟩ v) M C L m c k:=by have hl:=h.lt;have hle:=h.le;exact⟨h.hm.set no v,h.kT.other aX v,h.hs.set aX v,h.hA.set (.inr h0) v,h.lt,h.le⟩
theorem C5.put (h:C5 w F b v0 v1 v2 v3 v4) (u0 u1 u2 u3 u4:Int):
  C5 (((((w.setCell ⟨b,0,none⟩ (ag u0)).setCell ⟨b,1,none⟩ (ag u1)).setCell ⟨b,2,none⟩ (ag u2)).setCell ⟨b,3,none⟩ (ag u3)).setCell ⟨b,4,none⟩ (ag u4)) F b u0 u1 u2 u3 u4:=by have h0:=h.c0;have h1:=h.c1;have h2:=h.c2;have h3:=h.c3;have h4:=h.c4;exact⟨by simp[au,h0],by simp[au,h1],by simp[au,h2],by simp[au,h3],by simp[au,h4],fun q=>by simp[h.fr],h.no⟩
theorem C5.other (h:C5 w F b v0 v1 v2 v3 v4) {p:Addr} (hp:p.block≠b) (v:Value):C5 (w.setCell p v) F b v0 v1 v2 v3 v4:=by have e:=dI w p v b (Ne.symm hp);exact⟨(bg (a:=⟨b,0,none⟩) e).trans h.c0,(bg (a:=⟨b,1,none⟩) e).trans h.c1,(bg (a:=⟨b,2,none⟩) e).trans h.c2,(bg (a:=⟨b,3,none⟩) e).trans h.c3,(bg (a:=⟨b,4,none⟩) e).trans h.c4,fun q=>(World.frozen?_of_block (a:=⟨b,q,none⟩) e).trans (h.fr q),h.no⟩
theorem agK (t:Nat→Bool):0≤Xm t∧Xm t≤1024:=by unfold Xm;(repeat' split)<;>omega
theorem fP.body {W0:World} {S:Stp} {ab a_:Nat} {rm dr:Value} (h:fP W0 S (aZ ab S.bodies.length a_) rm dr):∀i B,S.bodies[i]?=some B→wM W0 ab i B:=by obtain⟨b,cap,e,h⟩:=h.bodies;injection e with e1 e2 e3;injection e1 with e1;injection e1 with e1;subst e1;exact h
theorem Zx {P:Nat} {c:List Int} (h:sM P c) {k:Nat} {g pos lo hi r:Int} (hg:g=0∨g=1) (hlo: -1048576≤lo) (hhi:hi≤1048576) (hlh:lo≤hi) (hr:0≤r∧r≤1024) {f:Int} (hf:f=48+4*P+8*k):
  sM P (Xn c (f+g) (f+(2+g)) pos lo hi r)∧(Xn c (f+g) (f+(2+g)) pos lo hi r).length=c.length∧(∀j:Int,j<48→cg (Xn c (f+g) (f+(2+g)) pos lo hi r) j=cg c j)∧(-16384≤cg (cs c (f+g) (g_ pos lo hi)) (f+(2+g))∧cg (cs c (f+g) (g_ pos lo hi)) (f+(2+g))≤16384):=by
 subst hf;have hc:=G_ pos lo hi hlh;have b1:sM P (cs c (48+4*P+8*k+g) (g_ pos lo hi)):=h.set (Cb.body ae ae (fun _=>ae) (fun h=>ae));have hv:=b1.X9 (k:=k) (f:=2+g) ae ae;refine⟨?_,?_,?_,hv⟩
 ·unfold Xn;split
  ·exact b1
  ·have hm:=(JY hv hr).2;exact b1.set (Cb.body ae ae (fun h=>ae) (fun _=>ae))
 ·unfold Xn;split<;>simp[aT]
 ·intro j hj;unfold Xn;split
  ·rw[aI,if_neg ae]
  ·rw[aI,if_neg ae,aI,if_neg ae]
section
variable {S:Stp} {c:List Int} {i j:Nat} {e0 e1 e2 cK:Int}
theorem V7 (hS:mf S) (hb:sM S.ak c) (hfr:0≤cg c 5∧cg c 5≤1024) (hi:i<S.bodies.length):∃c1:List Int,c1.length=c.length∧sM S.ak c1∧(∀q:Int,q<48→cg c1 q=cg c q)∧
  ∀{rm dr inp code:Value} {ab a_:Nat} {W0 w w0:World} {F0:Fp} {bt M C m k0:Nat} {L:Option Nat},Wk S ⟨aZ ab S.bodies.length a_,rm,dr,code,e0,e1,e2,cK,inp,i,j,false,0,0,0,0,false⟩ W0 w0 F0 bt w M C L m c k0→fP W0 S (aZ ab S.bodies.length a_) rm dr→m<999980500→
   Calls prog 88 #[aR bt] w fun e w'=>e=.returned (.tuple #[])∧∃L' m',aD w' ⟨M,C,L',m'⟩ c1∧Alt [] w ⟨M,C,L,m⟩ w' ⟨M,C,L',m'⟩ 4:=by
 obtain⟨B,hB⟩:∃B,S.bodies[i]?=some B:=⟨_,ik hi⟩
 obtain⟨f,hf⟩:∃f:Int,f=48+4*(S.ak:Int)+8*(i:Int):=⟨_,rfl⟩
 have p0:=hb.pos (k:=i) (f:=0) ae ae;have p1:=hb.pos (k:=i) (f:=1) ae ae;have p2:=hb.X9 (k:=i) (f:=2) ae ae;have p3:=hb.X9 (k:=i) (f:=3) ae ae;rw[←hf]at p0 p1 p2 p3;rw[Int.add_zero]at p0;obtain⟨gx,hgx⟩:∃gx,cg c f+eP (cg c (f+2)*min 1024 (cg c 5+128)) 1024=gx:=⟨_,rfl⟩
 obtain⟨gy,hgy⟩:∃gy,cg c (f+1)+eP (cg c (f+3)*min 1024 (cg c 5+128)) 1024=gy:=⟨_,rfl⟩
 obtain⟨a1,a2,a3,a4⟩:=Zx hb (k:=i) (g:=0) (pos:=gx) (.inl rfl) hS.x0 hS.x1 hS.xx hS.rest hf;simp only[Int.add_zero]at a1 a2 a3 a4;obtain⟨b1,b2,b3,b4⟩:=Zx a1 (k:=i) (g:=1) (pos:=gy) (.inr rfl) hS.y0 hS.y1 hS.yy hS.rest hf;rw[show(2:Int)+1=3 from rfl]at b1 b2 b3 b4;refine⟨_,b2.trans a2,b1,fun q hq=>(b3 q hq).trans (a3 q hq),?_⟩;intro rm dr inp code ab a_ W0 w w0 F0 bt M C m k0 L hw iY hr;exact Ou hS hw iY hi hr hB hf rfl rfl rfl rfl rfl p0 p1 p2 p3 hfr hgx hgy a4 b4
theorem acT (hS:mf S) (hb:sM S.ak c) (hfr:0≤cg c 5∧cg c 5≤1024) (hl:(48:Int)≤c.length) (hi:i<S.bodies.length) (hj:j<S.bodies.length):∃c1:List Int,c1.length=c.length∧sM S.ak c1∧(∀q:Int,q≠5→cg c1 q=cg c q)∧(0≤cg c1 5∧cg c1 5≤1024)∧
  ∀{rm dr inp code:Value} {ab a_:Nat} {W0 w w0:World} {F0:Fp} {bt M C m k0:Nat} {L:Option Nat},Wk S ⟨aZ ab S.bodies.length a_,rm,dr,code,e0,e1,e2,cK,inp,i,j,false,0,0,0,0,false⟩ W0 w0 F0 bt w M C L m c k0→fP W0 S (aZ ab S.bodies.length a_) rm dr→m<999980500→
   Calls prog 87 #[aR bt] w fun e w'=>e=.returned (.tuple #[])∧∃L' m',aD w' ⟨M,C,L',m'⟩ c1∧Alt [] w ⟨M,C,L,m⟩ w' ⟨M,C,L',m'⟩ 4:=by
 have weak:∀{w w':World} {M C m:Nat} {L:Option Nat} {c1:List Int} {e:Ending},(e=.returned (.tuple #[])∧∃L' m',aD w' ⟨M,C,L',m'⟩ c1∧Alt [] w ⟨M,C,L,m⟩ w' ⟨M,C,L',m'⟩ 1)→(e=.returned (.tuple #[])∧∃L' m',aD w' ⟨M,C,L',m'⟩ c1∧Alt [] w ⟨M,C,L,m⟩ w' ⟨M,C,L',m'⟩ 4):=by rintro w w' M C m L c1 e ⟨he,L',m',h1,h2⟩;exact⟨he,L',m',h1,h2.mono ae⟩
 by_cases h:i=j∨(i≠j∧IU S i=false)
 ·refine⟨c,rfl,hb,fun _ _=>rfl,hfr,?_⟩;intro rm dr inp code ab a_ W0 w w0 F0 bt M C m k0 L hw iY hr;exact(acU hS hw iY h).mono fun e w' h=>weak h
 ·have hne:i≠j:=fun e=>h (.inl e);have hmv:IU S i=true:=by
   cases hx:IU S i with
   |true=>rfl
   |false=>exact absurd (.inr ⟨hne,hx⟩) h
  obtain⟨A,hA⟩:∃B,S.bodies[i]?=some B:=⟨_,ik hi⟩
  obtain⟨B,hB⟩:∃B,S.bodies[j]?=some B:=⟨_,ik hj⟩
  have p0:=hb.pos (k:=i) (f:=0) ae ae;have p1:=hb.pos (k:=i) (f:=1) ae ae;have p2:=hb.X9 (k:=i) (f:=2) ae ae;have p3:=hb.X9 (k:=i) (f:=3) ae ae;have r0:=hb.pos (k:=j) (f:=0) ae ae;have r1:=hb.pos (k:=j) (f:=1) ae ae;rw[Int.add_zero]at p0 r0;obtain⟨r,hr0⟩:∃r,Xm (To.tch A.r A.zs (cg c (48+4*S.ak+8*i)) (cg c (48+4*S.ak+8*i+1)) (cg c (48+4*S.ak+8*i+2)) (cg c (48+4*S.ak+8*i+3)) B.r B.zs (cg c (48+4*S.ak+8*j)) (cg c (48+4*S.ak+8*j+1)) 0 0)=r:=⟨_,rfl⟩
  have hrb:0≤r∧r≤1024:=hr0▸agK _;refine⟨if r<cg c 5 then cs c 5 r else c,?_,?_,?_,?_,?_⟩
  ·split<;>simp[aT]
  ·split
   ·exact hb.set (Cb.free ae)
   ·exact hb
  ·intro q hq;split
   ·rw[aI,if_neg ae]
   ·rfl
  ·split
   ·rw[aI,if_pos ae];exact hrb
   ·exact hfr
  ·intro rm dr inp code ab a_ W0 w w0 F0 bt M C m k0 L hw iY hr;exact(acV hS hw iY (fP.body iY) hr hne hmv hA hB rfl rfl rfl rfl rfl rfl rfl rfl rfl ⟨ae,ae,ae,ae⟩ hr0).mono fun e w' h=>weak h
end
theorem acP {S:Stp} (hS:mf S) {c:List Int} (hI:Inv S c) (h1:cg c 1=5) (I:List (Int×Int)) (R:List (Int×Int×Int)) (e0 e1 e2 cK:Int):
  ∃c',oF S c c' false∧Does 45 S I R e0 e1 e2 cK c c' false 0 0 0 0 false:=by
 have Bh:=hI.ph;have Uy:0≤cg c 2∧cg c 2<S.bodies.length∧0≤cg c 3∧cg c 3≤S.bodies.length:=o7;clear Bh;obtain⟨i,hi⟩:∃k:Nat,cg c 2=k:=⟨(cg c 2).toNat,ae⟩
 obtain⟨j,hj⟩:∃k:Nat,cg c 3=k:=⟨(cg c 3).toNat,ae⟩
 have hil:i<S.bodies.length:=ae;have alT:=oq hS hI;have hfr:=hI.FW;have V6:=hI.fuel;have n24:=hS.n24;have P8:=hS.P8;have P1:=hS.P1;have iC:∀{c':List Int},oF S c c' false→(∀{rm dr inp code:Value} {ab a_:Nat} {W0 w:World} {M C:Nat} {L:Option Nat} {m bt:Nat},Wk S ⟨aZ ab S.bodies.length a_,rm,dr,code,e0,e1,e2,cK,inp,i,j,false,0,0,0,0,false⟩ W0 w ⟨M,C,L,m⟩ bt w M C L m c 0→fP W0 S (aZ ab S.bodies.length a_) rm dr→m<999980000→
     Calls prog 45 #[aR bt] w fun e w'=>e=.returned (.tuple #[])∧∃L' m',aD w' ⟨M,C,L',m'⟩ c'∧Alt [] w ⟨M,C,L,m⟩ w' ⟨M,C,L',m'⟩ 12)→
     ∃c',oF S c c' false∧Does 45 S I R e0 e1 e2 cK c c' false 0 0 0 0 false:=by
  intro c' htr hfo
  exact DK
 rcases Nat.lt_or_ge j S.bodies.length with hjl|hjg
 ·obtain⟨c1,l1,b1,g1,f1,ht⟩:=acT (e0:=e0) (e1:=e1) (e2:=e2) (cK:=cK) hS hI.bnd hfr alT hil hjl;refine iC (c':=cs c1 3 (j+1)) ?_ fun hw iY hr=>V8 hS hw iY hr hjl fun W L' m' k' hW hm=>ht hW iY hm;refine oF.on hI (p:=5) (i:=cg c 2) (j:=j+1) (k:=cg c 4) (f:=cg c 8) (by rw[aT,l1]) (b1.set (Cb.free ae)) ?_ ?_ ?_ ?_ ?_ ?_ ?_ V6 ?_ ?_
  ·rw[aI,if_neg ae,g1 _ ae]
  ·rw[aI,if_neg ae,g1 _ ae,h1]
  ·rw[aI,if_neg ae,g1 _ ae]
  ·rw[aI,if_pos (by rw[l1];omega)]
  ·rw[aI,if_neg ae,g1 _ ae]
  ·rw[aI,if_neg ae];exact f1
  ·rw[aI,if_neg ae,g1 _ ae]
  ·exact .inr (.inr (.inr (.inr (.inr (.inl ⟨rfl,ae,ae,ae,ae⟩)))))
  ·unfold mu Kr;rw[h1,hj];simp;omega
 ·have hje:j=S.bodies.length:=ae;have fin:∀c1:List Int,c1.length=c.length→sM S.ak c1→(∀q:Int,q<48→cg c1 q=cg c q)→(i+1<S.bodies.length→oF S c (cs (cs (cs c1 2 (i+1)) 3 0) 5 1024) false)∧(¬(i+1<S.bodies.length)→oF S c (cs (AL c1 6 0) 5 0) false):=by
   intro c1 l1 b1 g1;constructor
   ·intro hm;refine oF.on hI (p:=5) (i:=i+1) (j:=0) (k:=cg c 4) (f:=cg c 8) (by simp[aT,l1]) (((b1.set (Cb.free ae)).set (Cb.free ae)).set (Cb.free ae)) ?_ ?_ ?_ ?_ ?_ ?_ ?_ V6 ?_ ?_
    ·rw[aI,if_neg ae,aI,if_neg ae,aI,if_neg ae,g1 _ ae]
    ·rw[aI,if_neg ae,aI,if_neg ae,aI,if_neg ae,g1 _ ae,h1]
    ·rw[aI,if_neg ae,aI,if_neg ae,aI,if_pos (by rw[l1];omega)]
    ·rw[aI,if_neg ae,aI,if_pos (by rw[aT,l1];omega)]
    ·rw[aI,if_neg ae,aI,if_neg ae,aI,if_neg ae,g1 _ ae]
    ·rw[aI,if_pos (by rw[aT,aT,l1];omega)];omega
    ·rw[aI,if_neg ae,aI,if_neg ae,aI,if_neg ae,g1 _ ae]
    ·exact .inr (.inr (.inr (.inr (.inr (.inl ⟨rfl,ae,ae,ae,ae⟩)))))
    ·unfold mu Kr;rw[h1,hi,hj];simp;omega
   ·intro hm;unfold AL;refine oF.on hI (p:=6) (i:=0) (j:=0) (k:=cg c 4) (f:=cg c 8) (by simp[aT,l1]) ((((b1.set (Cb.free ae)).set (Cb.free ae)).set (Cb.free ae)).set (Cb.free ae)) ?_ ?_ ?_ ?_ ?_ ?_ ?_ V6 ?_ ?_
    ·rw[aI,if_neg ae,aI,if_neg ae,aI,if_neg ae,aI,if_neg ae,g1 _ ae]
    ·rw[aI,if_neg ae,aI,if_neg ae,aI,if_neg ae,aI,if_pos (by rw[l1];omega)]
    ·rw[aI,if_neg ae,aI,if_neg ae,aI,if_pos (by rw[aT,l1];omega)]
    ·rw[aI,if_neg ae,aI,if_pos (by rw[aT,aT,l1];omega)]
    ·rw[aI,if_neg ae,aI,if_neg ae,aI,if_neg ae,aI,if_neg ae,g1 _ ae]
    ·rw[aI,if_pos (by rw[aT,aT,aT,l1];omega)];omega
    ·rw[aI,if_neg ae,aI,if_neg ae,aI,if_neg ae,aI,if_neg ae,g1 _ ae]
    ·exact .inr (.inr (.inr (.inr (.inr (.inr (.inl ⟨rfl,ae,ae,.inl rfl⟩))))))
    ·unfold mu Kr;rw[h1,hi,hj];simp;omega
  by_cases hmv:IU S i=true
  ·obtain⟨c1,l1,b1,g1,ht⟩:=V7 (j:=j) (e0:=e0) (e1:=e1) (e2:=e2) (cK:=cK) hS hI.bnd hfr hil;by_cases hm:i+1<S.bodies.length
   ·exact iC ((fin c1 l1 b1 g1).1 hm) fun hw iY hr=>acW hS hw iY hr hje hil hm hmv fun W L' m' k' hW hm=>ht hW iY hm
   ·exact iC ((fin c1 l1 b1 g1).2 hm) fun hw iY hr=>acX hS hw iY hr hje hil hm hmv fun W L' m' k' hW hm=>ht hW iY hm
  ·have Zy:IU S i=false:=by simpa using hmv
   by_cases hm:i+1<S.bodies.length
   ·exact iC ((fin c rfl hI.bnd fun _ _=>rfl).1 hm) fun hw iY hr=>acY hS hw iY hr hje hil hm Zy
   ·exact iC ((fin c rfl hI.bnd fun _ _=>rfl).2 hm) fun hw iY hr=>acZ hS hw iY hr hje hil hm Zy
variable {w W0:World} {i j ab a_ bt M C m:Nat} {k e0 e1 e2 cK:Int}
def yT (n:Nat) (k:Int) (i j:Nat):Int:=if j+1<n then k else if i+2<n then k else k+1
def Mg (n:Nat) (i j:Nat):Int:=if j+1<n then i else if i+2<n then i+1 else 0
def Un (n:Nat) (i j:Nat):Int:=if j+1<n then j+1 else if i+2<n then i+2 else 1
theorem Lv {n b2 b3:Nat} (hi:i≤100) (hj:j≤100) (hk:0≤k∧k≤100) (h2:w.cell? ⟨b2,0,none⟩=some (ag n)) (h3:w.cell? ⟨b3,0,none⟩=some (ag k)):
  Calls prog 85 #[ag i,ag j,aR b2,aR b3] w fun e w'=>e=.returned (.tuple #[ag (yT n k i j),ag (Mg n i j),ag (Un n i j)])∧w'=w:=by
 by_cases h:j+1<n
 ·rw[show yT n k i j=k by unfold yT;rw[if_pos h],show Mg n i j=i by unfold Mg;rw[if_pos h],show Un n i j=j+1 by unfold Un;rw[if_pos h]];have hI:(j:Int)+1<(n:Int):=ae;go_enter func85,ntmps85;go_wp2;refine bodyPost_ret (v:=.tuple #[ag k,ag i,ag (j+1)]) (by simp[results,results85,go_sem]) rfl ⟨rfl,rfl⟩
 ·have hI:¬((j:Int)+1<(n:Int)):=ae;by_cases h':i+2<n
  ·rw[show yT n k i j=k by unfold yT;rw[if_neg h,if_pos h'],show Mg n i j=i+1 by unfold Mg;rw[if_neg h,if_pos h'],show Un n i j=i+2 by unfold Un;rw[if_neg h,if_pos h']];have hI':(i:Int)+2<(n:Int):=ae;go_enter func85,ntmps85;go_wp2;refine bodyPost_ret (v:=.tuple #[ag k,ag (i+1),ag (i+2)]) (by simp[results,results85,go_sem]) rfl ⟨rfl,rfl⟩
  ·rw[show yT n k i j=k+1 by unfold yT;rw[if_neg h,if_neg h'],show Mg n i j=0 by unfold Mg;rw[if_neg h,if_neg h'],show Un n i j=1 by unfold Un;rw[if_neg h,if_neg h']];have hI':¬((i:Int)+2<(n:Int)):=ae;go_enter func85,ntmps85;go_wp2;refine bodyPost_ret (v:=.tuple #[ag (k+1),ag 0,ag 1]) (by simp[results,results85,go_sem]) rfl ⟨rfl,rfl⟩
theorem Ot (hS:mf S) (hw:Wk S ⟨aZ ab S.bodies.length a_,rm,dr,code,e0,e1,e2,cK,inp,i,j,false,0,0,0,0,false⟩ W0 w ⟨M,C,L,m⟩ bt w M C L m c 0) (hr:m<999980000) (hi:i≤100) (hj:j≤100) (hk:cg c 4=k) (Fq:0≤k∧k≤100) (hn:S.bodies.length<2):
  Calls prog 44 #[aR bt] w fun e w'=>e=.returned (.tuple #[])∧∃L' m',aD w' ⟨M,C,L',m'⟩ (cs (AL c 5 0) 5 1024)∧Alt [] w ⟨M,C,L,m⟩ w' ⟨M,C,L',m'⟩ 20:=by have n24:=hS.n24;have hro:=hS.rounds;refine x_ ?_;intro hget;refine yc ?_;intro hgx;refine o8 ?_;intro st;clear hS hk hget;have Ml:(S.bodies.length:Int)<2:=ae;exact Ee
theorem Lg (hS:mf S) (hw:Wk S ⟨aZ ab S.bodies.length a_,rm,dr,code,e0,e1,e2,cK,inp,i,j,false,0,0,0,0,false⟩ W0 w ⟨M,C,L,m⟩ bt w M C L m c 0) (hr:m<999980000) (hi:i≤100) (hj:j≤100) (hk:cg c 4=k) (Fq:0≤k∧k≤100) (hn:¬S.bodies.length<2) (hko:S.rounds≤k):
  Calls prog 44 #[aR bt] w fun e w'=>e=.returned (.tuple #[])∧∃L' m',aD w' ⟨M,C,L',m'⟩ (cs (AL c 5 0) 5 1024)∧Alt [] w ⟨M,C,L,m⟩ w' ⟨M,C,L',m'⟩ 20:=by have n24:=hS.n24;have hro:=hS.rounds;refine x_ ?_;intro hget;refine yc ?_;intro hgx;refine o8 ?_;intro st;clear hS hk hget;have Ml:¬((S.bodies.length:Int)<2):=ae;exact Ee
theorem Su (hS:mf S) (hw:Wk S ⟨aZ ab S.bodies.length a_,rm,dr,code,e0,e1,e2,cK,inp,i,j,false,0,0,0,0,false⟩ W0 w ⟨M,C,L,m⟩ bt w M C L m c 0) (hr:m<999980000) (hi:i≤100) (hj:j≤100) (hk:cg c 4=k) (Fq:0≤k∧k≤100) (hn:¬S.bodies.length<2) (hko:¬S.rounds≤k) {c1:List Int} (hsub:∀(W:World),Wk S ⟨aZ ab S.bodies.length a_,rm,dr,code,e0,e1,e2,cK,inp,i,j,false,0,0,0,0,false⟩ W0 w ⟨M,C,L,m⟩ bt W M C L m c 0→Calls prog 84 #[aR bt] W fun e w'=>e=.returned (.tuple #[])∧∃OB m'',aD w' ⟨M,C,OB,m''⟩ c1∧Alt [] W ⟨M,C,L,m⟩ w' ⟨M,C,OB,m''⟩ 10):
  Calls prog 44 #[aR bt] w fun e w'=>e=.returned (.tuple #[])∧∃L' m',aD w' ⟨M,C,L',m'⟩ (cs (cs (cs c1 4 (yT S.bodies.length k i j)) 2 (Mg S.bodies.length i j)) 3 (Un S.bodies.length i j))∧Alt [] w ⟨M,C,L,m⟩ w' ⟨M,C,L',m'⟩ 20:=by
 have n24:=hS.n24;have hro:=hS.rounds;refine x_ ?_;intro hget;refine yc ?_;intro hgx;refine o8 ?_;intro st;clear hS hk hget;have Ml:¬((S.bodies.length:Int)<2):=ae;generalize S.bodies.length=nb at*;have bZ:=hw.kT.bV;have b_:=hw.kT.blk.free;have Ut:=hw.kT.blk.lt;have hmk:=Tryz.nV M;have nP:aJ w w:=aK _ _;have hal:=aQ;have bu:=dL;have cZ:=au;have HST:=ah st;clear st;have Z8:=ah hgx;clear hgx;go_enter func44,ntmps44;go_upto_region 0 with(fail);go_cut [2,3] (fun s2 s3 wx=>(∃b2 b3,s2=aR b2∧s3=aR b3∧wx.cell? ⟨b2,0,none⟩=some (ag nb)∧wx.cell? ⟨b3,0,none⟩=some (ag k)∧(∀q,wx.frozen? ⟨b3,q,none⟩=false)∧w.heap.size≤b2∧w.heap.size≤b3∧b2≠b3)∧aJ w wx);case first=>
  go_region_held3 (fun V=>∀q,V.cell? ⟨bt,q,none⟩=[iW M,ag S.ak,aZ ab nb a_,ag S.x0,ag S.y0,ag S.x1,ag S.y1,rm,dr,ag S.ou,ag S.gx,ag S.gy,ag S.push,ag S.eO,ag S.rest,ag S.rounds,ag S.fuel,code,ag e0,ag e1,ag e2,ag cK,inp,ag i,ag j,.bool false,ag 0,ag 0,ag 0,ag 0,.bool false][q]?) (exact HST.out _ aG)
   (first|((with_reducible refine(Z8.out _ aG).mono ?_);refine df ?_;intro wE Ws NE hNE J6 ZK hsE))
  all_goals
   go_wp2
   go_meet
   refine⟨⟨_,_,rfl,rfl,?_,?_,?_,?_,?_,?_⟩,?_⟩
   all_goals first
    |(simp[cZ,J6,hal,↓IntWalk.iteOmega];done)
    |(intro q;simp[ZK,bu,↓IntWalk.iteOmega];done)
    |(intro q;simp[ZK,bu,↓IntWalk.iteOmega];intro h1 h2;exfalso;omega)
    |((try simp only[bf]at*);omega)
    |(exact aG;done)
 obtain⟨⟨b2,b3,rfl,rfl,x2,x3,f3,h2,h3,h23⟩,hbc⟩:=hcut;have Z9:=hw.hm.no h2;have WQ:=hw.hm.no h3;replace hw:=hw.below hbc;replace bZ:=hw.kT.bV;replace b_:=hw.kT.blk.free;clear hbc HST nP Z8 hal bu;go_upto_region 1 with(fail);have Uu:=ah hsub;clear hsub;refine dD ?_;go_upto_region 4 with(fail);refine aP fun W hW=>?_;have hbW:aJ wc W:=aM;have l2:=aU _ _ x2;have l3:=aU _ _ x3;simp only at l2 l3;replace hw:=hw.below hbW;replace x2:=ai hbW x2;replace x3:=ai hbW x3;replace f3:=fun q=>(hbW.frozen (p:=⟨b3,q,none⟩) l3).trans (f3 q);replace l2:=bH l2 hbW.size;replace l3:=bH l3 hbW.size;replace bZ:=hw.kT.bV;replace b_:=hw.kT.blk.free;clear hbW hW;go_upto_region 5 with(first|((with_reducible refine(Uu.out _ hw).mono ?_);rintro e w1 ⟨rfl,L1,n1,gp,dG⟩;have eD:=dG.n;simp only at eD;replace x2:=dG.cell Z9 av x2;replace x3:=dG.cell WQ av x3;replace f3:=fun q=>(World.frozen?_of_block (a:=⟨b3,q,none⟩) (dG.block b3 l3 WQ av)).trans (f3 q);replace Z9:=fun hh=>Z9 (dG.has l2 hh);replace WQ:=fun hh=>WQ (dG.has l3 hh);replace l2:=bH l2 dG.size;replace l3:=bH l3 dG.size;replace hw:=hw.step gp dG;replace bZ:=hw.kT.bV;replace b_:=hw.kT.blk.free;clear gp dG));refine Eg ?_;intro hmf;go_upto_region 6 with(fail);have Ut:=hw.kT.blk.lt;have bW:∀x:dh w1,Calls prog 85 #[ag i,ag j,aR b2,aR b3] x.out fun e w'=>e=.returned (.tuple #[ag (yT nb k i j),ag (Mg nb i j),ag (Un nb i j)])∧∃y:dh w1,w'=y.out:=fun x=>
  (Lv hi hj Fq (fB x x2) (fB x x3)).mono fun e w' ⟨he,hw⟩=>⟨he,x,hw⟩
 have amg:=ah bW;clear bW;refine jG 10 aL aL fun NL hL=>?_;obtain⟨dU,dV,hlf⟩:=hL;(try simp only[bf]at dU);simp only[dS];repeat(go_big_quiet_step (first|(with_reducible exact amg.out _)))
 refine wpQuiet_nil ?_;rintro w2 ⟨nq,hnq⟩;have aO:=nq.below;rw[←hnq]at aO;clear hnq nq dV hlf dU NL amg;replace hw:=hw.below aO;replace x3:=ai aO x3;replace f3:=fun q=>(aO.frozen (p:=⟨b3,q,none⟩) l3).trans (f3 q);replace bZ:=hw.kT.bV;replace b_:=hw.kT.blk.free;clear aO x2;go_wp2;refine Qt.fq ?_;go_upto_region 7 with(fail);refine aP fun W2 mi=>?_;replace hw:=hw.store' WQ h3 0 (ag (yT nb k i j));have x3':(w2.setCell ⟨b3,0,none⟩ (ag (yT nb k i j))).cell? ⟨b3,0,none⟩=some (ag (yT nb k i j)):=by simp[au,x3]
 rw[←mi]at hw x3';clear mi x3 f3;replace bZ:=hw.kT.bV;replace b_:=hw.kT.blk.free;refine bK 5 aL aL fun hL=>?_;have dV:=hL.cell;clear hL;simp only[dS];(repeat(go_big_quiet_step (fail)));refine wpQuiet_nil ?_;clear dV;go_wp2_with (first|(refine dz ?_;clear hw bZ b_;intro w1 L1 n1 eD hw bZ b_));go_end0;exact⟨rfl,_,_,hw.hm,hw.hA.mono ae⟩
end Mc
end Go.Proofs.YtohpdonnpbjfdaaGreatDoor
