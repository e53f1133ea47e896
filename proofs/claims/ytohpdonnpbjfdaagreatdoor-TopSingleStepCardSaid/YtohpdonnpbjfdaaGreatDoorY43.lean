/- What is shown: package vm, package machine. Conditions: as each theorem states. -/
import Derived.Test.YtohpdonnpbjfdaaGreatDoorY42
set_option maxHeartbeats 40000000
set_option maxRecDepth 100000
set_option linter.unusedVariables false
set_option linter.unusedSimpArgs false
open Go.Proofs.Tryz
namespace Go.Proofs.YtohpdonnpbjfdaaGreatDoor
theorem mE {P:Prop} (h:P:=by rw[hv.kept 8 ae];simp only[aI,aT];simp;omega):P:=h
theorem mF {P:Prop} (h:P:=by rw[hv.len];simp only[aT]):P:=h
theorem qR {P:Prop} (h:P:=by simp[results,results109,go_sem,cZ,iX]):P:=h
theorem Eg {P Q:Prop} (q:Q) (h:Q→P:=by have hmf:∀(fn:Fn) (first cap:Array Value) (w:World),(Instr.makeFunc fn first cap).run prog w=.ok (.func fn first cap) w:=fun _ _ _ _=>rfl;intro kk;revert hmf;exact kk):P:=h q
theorem wQ {P Q:Prop} (q:Q) (h:Q→P:=by have k5:Kb W ⟨M,C,L,m⟩ (w.heap.size+1) [.slice ac I.length bY,ag e0,ag e1,ag e2]:=Kb.new hm ae fV;intro kk;revert k5;exact kk):P:=h q
theorem mq {P Q:Prop} (q:Q) (h:Q→P:=by intro kk;refine bK 9 (by kernel_rfl) (by kernel_rfl) fun hL=>?_;have dV:=hL.cell;clear hL;simp only[dS];(repeat(go_big_quiet_step (fail)));refine wpQuiet_nil ?_;clear dV;exact kk):P:=h q
theorem sj {P Q:Prop} (q:Q) (h:RowKit.Hid Q→P:=by first|(intro kk;(with_reducible refine(Gc (hm.below aG) _ _ ae).mono ?_);rintro e w1 ⟨rfl,L1,n1,gp,dG⟩;have eD:=dG.n;simp only at eD;replace kt:=(kt.below aG).step dG;replace MW:=kt.blk.cell;replace MX:=kt.blk.free;replace k5:=(k5.below aG).step dG;replace ck5:=k5.blk.cell;replace nK:=k5.blk.free;replace hA:=(hA.below aG).trans dG;replace hm:=gp;clear gp dG;revert hm hA nK ck5 k5 MX MW kt eD n1 L1 w1;exact kk.out)|fail):P:=h (ah q)
theorem mY {P Q:Prop} (q:Q) (h:RowKit.Hid Q→P:=by first|(intro kk;(with_reducible refine(Gc (hm.below aG) _ _ ae).mono ?_);rintro e w1 ⟨rfl,L1,n1,gp,dG⟩;have eD:=dG.n;simp only at eD;replace kT:=(kT.below aG).step dG;replace bZ:=kT.bV;replace b_:=kT.blk.free;replace hA:=(hA.below aG).trans dG;replace hm:=gp;clear gp dG;revert hm hA b_ bZ kT eD n1 L1 w1;exact kk.out)|fail):P:=h (ah q)
theorem r9 {P:Prop} (h:P:=by go_wp2_with (first|(refine mY ?_;clear kT bZ b_ hA hm;intro w1 L1 n1 eD kT bZ b_ hA hm));go_end0;exact⟨rfl,_,_,hm,hA.mono ae⟩):P:=h
theorem jl {P Q:Prop} (q:Q) (h:Q→P:=by intro kk;refine bK 11 (by kernel_rfl) (by kernel_rfl) fun hL=>?_;have dV:=hL.cell;clear hL;simp only[dS];(repeat(go_big_quiet_step ((rw[hmk];exact⟨rfl,rfl⟩))));refine wpQuiet_nil ?_;clear dV;exact kk):P:=h q
theorem dz {P Q:Prop} (q:Q) (h:RowKit.Hid Q→P:=by first|(intro kk;(with_reducible refine(Gc (hw.hm.below aG) _ _ ae).mono ?_);rintro e w1 ⟨rfl,L1,n1,gp,dG⟩;have eD:=dG.n;simp only at eD;replace hw:=(hw.below aG).step gp dG;replace bZ:=hw.kT.bV;replace b_:=hw.kT.blk.free;clear gp dG;revert b_ bZ hw eD n1 L1 w1;exact kk.out)|fail):P:=h (ah q)
theorem ni {P Q:Prop} (q:Q) (h:RowKit.Hid Q→P:=by first|(intro kk;(with_reducible refine(Gc (hw.hm.below aG) _ _ ae).mono ?_);rintro e w1 ⟨rfl,L1,n1,gp,dG⟩;have eD:=dG.n;simp only at eD;replace k3:=(k3.below aG).step dG;replace Ic:=k3.blk.cell;replace Bz:=k3.blk.free;replace hw:=(hw.below aG).step gp dG;replace bZ:=hw.kT.bV;replace b_:=hw.kT.blk.free;clear gp dG;revert b_ bZ hw Bz Ic k3 eD n1 L1 w1;exact kk.out)|fail):P:=h (ah q)
theorem mX {P Q:Prop} (q:Q) (h:RowKit.Hid Q→P:=by first|(intro kk;(with_reducible refine(qa (hw.hm.below aG) ae (hw.kT.below aG) _ _).mono ?_);rintro e w1 ⟨rfl,L1,n1,gp,dG⟩;have eD:=dG.n;simp only at eD;replace hw:=(hw.below aG).step gp dG;replace bZ:=hw.kT.bV;replace b_:=hw.kT.blk.free;clear gp dG;revert b_ bZ hw eD n1 L1 w1;exact kk.out)|fail):P:=h (ah q)
theorem gW {P Q:Prop} (q:Q) (h:RowKit.Hid Q→P:=by first|(intro kk;(with_reducible refine(Bj.out _).mono ?_);rintro e w1 ⟨rfl,aO⟩;replace hw:=hw.below (w':=w1) aG;replace bZ:=hw.kT.bV;replace b_:=hw.kT.blk.free;clear aO;revert b_ bZ hw w1;exact kk.out)|fail):P:=h (ah q)
theorem PK {P Q:Prop} (q:Q) (h:Q→P:=by have hpl:=zg (S.ak:Int) k (aZ ab S.bodies.length a_) (ag S.x0) (ag S.y0) (ag S.x1) (ag S.y1) T.rm T.dr (ag S.ou) (ag S.gx) (ag S.gy) (ag S.push) (ag S.eO) (ag S.rest) (ag S.rounds) (ag S.fuel) ae;intro kk;revert hpl;exact kk):P:=h q
theorem EK {P:Prop} (h:P:=by
 refine dn ?_;go_wp2_with (first|(refine gW ?_;clear hw bZ b_;intro w1 hw bZ b_));refine dD ?_;go_upto_region 5 with(fail);refine aP fun W hW=>?_;replace hw:=hw.below (w':=W) aM;replace bZ:=hw.kT.bV;replace b_:=hw.kT.blk.free;clear hW;have q0:=hw.hA.cell nF av x0;have q1:=hw.hA.cell nF av x1;have q2:=hw.hA.cell nF av x2;have hbl:=aU W _ q0;simp only at hbl;have Ut:=hw.kT.blk.lt;refine fF 10 3 #[ag 0,ag 0,ag 0] 128 rfl aL aL (fun o ho ev w=>by have ho':=bD ho;rw[←ho'];exact rfl) fun NL hL=>?_;obtain⟨dU,dV,hlf⟩:=hL;(try simp only[bf]at dU);simp only[dS];repeat((refine kI (fun K hK=>?_);go_simp;(repeat(simp only[↓IntWalk.iteOmega];(try go_simp))));first|(refine hK _ ?_;clear hK K)|(apply Exists.intro;refine⟨fun x=>?_,hK _ ?_⟩;(first|(with_reducible exact kJ (Bj.out _)));clear hK K))
 (refine jq ?_;intro b1 w1 aO ek uX lU zn;(try simp only[bf]at lU);clear dV hlf dU NL;obtain⟨N1,dA,bW,eu,eF⟩:=eB aO;(try simp only[bf]at dA));have k3:Kb w1 _ b1 [ag 0,ag 0,ag 0]:=Kb.new hw.hm lU ⟨fun i=>by rw[ek i];simp,uX,zn⟩;have h3:w.heap.size≤b1:=aS hw.hA.size lU;replace hw:=hw.below aO;replace bZ:=hw.kT.bV;replace b_:=hw.kT.blk.free;clear ek uX aO bW eu eF dA N1 q0 q1 q2 lU;have⟨⟨Ic,Bz,_⟩,_⟩:=k3;simp only[Act.put,dH];go_upto_region 6 with(fail);refine aP fun W hW=>?_;replace hw:=hw.store k3 h3 0 (ag x.1);replace k3:=k3.put 0 (ag x.1);replace hw:=hw.store k3 h3 1 (ag x.2.1);replace k3:=k3.put 1 (ag x.2.1);replace hw:=hw.store k3 h3 2 (ag x.2.2);replace k3:=k3.put 2 (ag x.2.2);rw[←hW]at hw k3;clear hW Ic Bz bZ b_;simp only[List.set_cons_zero,List.set_cons_succ]at k3;have bZ:=hw.kT.bV;have b_:=hw.kT.blk.free;have⟨⟨Ic,Bz,_⟩,_⟩:=k3;refine dn ?_;go_wp2_with (first|(refine ni ?_;clear k3 Ic Bz hw bZ b_;intro w1 L1 n1 eD k3 Ic Bz hw bZ b_));refine dn ?_;go_wp2_with (first|(refine ni ?_;clear k3 Ic Bz hw bZ b_;intro w1 L1 n1 eD k3 Ic Bz hw bZ b_));refine dn ?_;go_wp2_with (first|(refine ni ?_;clear k3 Ic Bz hw bZ b_;intro w1 L1 n1 eD k3 Ic Bz hw bZ b_));refine dD ?_;go_upto_region 10 with(fail);refine jl ?_;go_wp2_with (first|(refine dz ?_;clear hw bZ b_;intro w1 L1 n1 eD hw bZ b_));go_end0;exact⟨rfl,H0.out.fin HT.out hw.hm hw.hA ae⟩):P:=h
theorem EL {P:Prop} (h:P:=by
 refine dn ?_;go_wp2_with (first|(refine gW ?_;clear hw bZ b_;intro w1 hw bZ b_));refine dD ?_;go_upto_region 5 with(fail);refine aP fun W hW=>?_;replace hw:=hw.below (w':=W) aM;replace bZ:=hw.kT.bV;replace b_:=hw.kT.blk.free;clear hW;have q0:=hw.hA.cell nF av x0;have q1:=hw.hA.cell nF av x1;have q2:=hw.hA.cell nF av x2;have hbl:=aU W _ q0;simp only at hbl;have Ut:=hw.kT.blk.lt;refine fF 10 3 #[ag 0,ag 0,ag 0] 128 rfl aL aL (fun o ho ev w=>by have ho':=bD ho;rw[←ho'];exact rfl) fun NL hL=>?_;obtain⟨dU,dV,hlf⟩:=hL;(try simp only[bf]at dU);simp only[dS];repeat((refine kI (fun K hK=>?_);go_simp;(repeat(simp only[↓IntWalk.iteOmega];(try go_simp))));first|(refine hK _ ?_;clear hK K)|(apply Exists.intro;refine⟨fun x=>?_,hK _ ?_⟩;(first|(with_reducible exact kJ (Bj.out _)));clear hK K))
 (refine jq ?_;intro b1 w1 aO ek uX lU zn;(try simp only[bf]at lU);clear dV hlf dU NL;obtain⟨N1,dA,bW,eu,eF⟩:=eB aO;(try simp only[bf]at dA));have k3:Kb w1 _ b1 [ag 0,ag 0,ag 0]:=Kb.new hw.hm lU ⟨fun i=>by rw[ek i];simp,uX,zn⟩;have h3:w.heap.size≤b1:=aS hw.hA.size lU;replace hw:=hw.below aO;replace bZ:=hw.kT.bV;replace b_:=hw.kT.blk.free;clear ek uX aO bW eu eF dA N1 q0 q1 q2 lU;have⟨⟨Ic,Bz,_⟩,_⟩:=k3;simp only[Act.put,dH];go_upto_region 6 with(fail);refine aP fun W hW=>?_;replace hw:=hw.store k3 h3 0 (ag x.1);replace k3:=k3.put 0 (ag x.1);replace hw:=hw.store k3 h3 1 (ag x.2.1);replace k3:=k3.put 1 (ag x.2.1);replace hw:=hw.store k3 h3 2 (ag x.2.2);replace k3:=k3.put 2 (ag x.2.2);rw[←hW]at hw k3;clear hW Ic Bz bZ b_;simp only[List.set_cons_zero,List.set_cons_succ]at k3;have bZ:=hw.kT.bV;have b_:=hw.kT.blk.free;have⟨⟨Ic,Bz,_⟩,_⟩:=k3;refine dn ?_;go_wp2_with (first|(refine ni ?_;clear k3 Ic Bz hw bZ b_;intro w1 L1 n1 eD k3 Ic Bz hw bZ b_));refine dn ?_;go_wp2_with (first|(refine ni ?_;clear k3 Ic Bz hw bZ b_;intro w1 L1 n1 eD k3 Ic Bz hw bZ b_));refine dn ?_;go_wp2_with (first|(refine ni ?_;clear k3 Ic Bz hw bZ b_;intro w1 L1 n1 eD k3 Ic Bz hw bZ b_));refine dD ?_;go_wp2_with (first|(refine mX ?_;clear hw bZ b_;intro w1 L1 n1 eD hw bZ b_));go_end0;exact⟨rfl,H0.out.fin HT.out hw.hm hw.hA ae⟩):P:=h
theorem r_ {P:Prop} (h:P:=by
 intro W0 w M C L m bt T h Xp ht;have H0:=ah h;have HT:=ah ht;have hw:=h.wk;obtain⟨b,cap,tu,hrow⟩:=h.hin;obtain⟨ab,a_,hbs,_⟩:=h.hS.bodies;obtain⟨nF,nbt,x0,x1,x2⟩:=hrow k x hx;obtain⟨P1,P8,Pn,n24⟩:=And.intro hS.P1 (And.intro hS.P8 (And.intro hS.Pn hS.n24));refine PK ?_;intro hpl;rw[show WZ S.ak k=48+4*k by unfold WZ;rw[if_pos ae]]at hpl;have hi:=ht.i;rw[hk]at hi;have hve:=ht.cK;clear h ht hrow hx hI hS;obtain⟨bs,rm,dr,code,e0',e1',e2',aAx,inp,i',j',en',xx,yy,zz,rr,qq⟩:=T;simp only at hi hve tu hbs hpl;subst hi hve tu hbs;rw[hR]at*;have hnb:S.bodies.length=S.bodies.length:=rfl;generalize S.bodies.length=nb at*;have bZ:=hw.kT.bV;have b_:=hw.kT.blk.free;unfold OA Lh Oz;obtain⟨f,hf⟩:∃f:Int,f=48+4*(k:Int):=⟨_,rfl⟩
 have hf0:0≤f:=ae;have eu:f≤1000:=ae;rw[←hf]at hpl⊢;clear hf;first
 |(first|(revert bP;intro bP)|(revert gu;intro gu))
  have hz:(k:Int)=0:=ae
  rw[hz]at hpl
  clear hz
 |(first|(revert nL;intro nL)|(revert pq;intro pq))
 have Bj:=ah hpl;clear hpl;have hmk:=Tryz.nV M;first
 |revert bP;intro bP
  subst Fq
  rw[if_pos rfl]
  rw[if_pos h9]
  have h9q:(1:Int)<(S.ak:Int):=ae
 |revert gu;intro gu
  subst Fq
  rw[if_pos rfl]
  rw[if_neg h9]
  have h9q:¬((1:Int)<(S.ak:Int)):=ae
 |revert nL;intro nL
  rw[if_neg Fq]
  have h0:¬((k:Int)=0):=ae
  have asJ:(k:Int)<(S.ak:Int):=ae
  rw[if_pos h9]
  have h9q:(k:Int)+1<(S.ak:Int):=ae
 |revert pq;intro pq
  rw[if_neg Fq]
  have h0:¬((k:Int)=0):=ae
  have asJ:(k:Int)<(S.ak:Int):=ae
  rw[if_neg h9]
  have h9q:¬((k:Int)+1<(S.ak:Int)):=ae
 go_enter func40,ntmps40;first
 |revert bP;intro bP
  go_upto_region 1 with(fail)
  refine bK 10 aL aL fun hL=>?_;have dV:=hL.cell;clear hL;simp only[dS];(repeat(go_big_quiet_step ((rw[hmk];exact⟨rfl,rfl⟩))));refine wpQuiet_nil ?_;clear dV
  go_upto_region 3 with(first|(refine dz ?_;clear hw bZ b_;intro w1 L1 n1 eD hw bZ b_))
  exact EK
 |revert gu;intro gu
  go_upto_region 1 with(fail)
  refine bK 10 aL aL fun hL=>?_;have dV:=hL.cell;clear hL;simp only[dS];(repeat(go_big_quiet_step ((rw[hmk];exact⟨rfl,rfl⟩))));refine wpQuiet_nil ?_;clear dV
  go_upto_region 3 with(first|(refine dz ?_;clear hw bZ b_;intro w1 L1 n1 eD hw bZ b_))
  exact EL
 |revert nL;intro nL
  go_upto_region 3 with(fail)
  exact EK
 |revert pq;intro pq
  go_upto_region 3 with(fail)
  exact EL):P:=h
theorem yh {P Q:Prop} (q:Q) (h:Q→P:=by intro kk;refine bK 16 (by kernel_rfl) (by kernel_rfl) fun hL=>?_;have dV:=hL.cell;clear hL;simp only[dS];(repeat(go_big_quiet_step (fail)));refine wpQuiet_nil ?_;clear dV;exact kk):P:=h q
theorem OW {P Q:Prop} (q:Q) (h:RowKit.Hid Q→P:=by first|(intro kk;(with_reducible refine(asi.out).mono ?_);rintro e w1 ⟨rfl,L1,n1,gp,dG⟩;have eD:=dG.n;simp only at eD;replace kT:=(kT.below aG).step dG;replace bZ:=kT.bV;replace b_:=kT.blk.free;replace hA:=(hA.below aG).trans dG;replace hm:=gp;clear gp dG;revert hm hA b_ bZ kT eD n1 L1 w1;exact kk.out)|fail):P:=h (ah q)
theorem mZ {P:Prop} (h:P:=by have asi:=ah cZ;have lD:=ah he;clear cZ he;go_enter func78,ntmps78;go_upto_region 2 with(fail);refine yh ?_;go_wp2_with (first|(refine OW ?_;clear kT bZ b_ hA hm;intro w1 L1 n1 eD kT bZ b_ hA hm)|(refine mY ?_;clear kT bZ b_ hA hm;intro w1 L1 n1 eD kT bZ b_ hA hm));go_ret;exact⟨rfl,_,_,hm,hA.mono ae⟩):P:=h
theorem DZ {P:Prop} (h:P:=by have bZ:=kT.bV;have b_:=kT.blk.free;have⟨⟨iw,iB,_⟩,_⟩:=k4;have cZ:=au;go_upto_region 8 with(fail);refine aP fun W2 mi=>?_;have nT:=kT.no;replace hm:=((((hm.set nT (p:=⟨bt,26,none⟩) (ag x)).set nT (p:=⟨bt,27,none⟩) (ag y)).set nT (p:=⟨bt,28,none⟩) (ag z)).set nT (p:=⟨bt,29,none⟩) (ag r)).set nT (p:=⟨bt,30,none⟩) (.bool q);have hA2:=(((((hA.list (l':=[bt]) av).set (p:=⟨bt,26,none⟩) (.inl av) (ag x)).set (p:=⟨bt,27,none⟩) (.inl av) (ag y)).set (p:=⟨bt,28,none⟩) (.inl av) (ag z)).set (p:=⟨bt,29,none⟩) (.inl av) (ag r)).set (p:=⟨bt,30,none⟩) (.inl av) (.bool q);have kN:Kb (((((W.setCell ⟨bt,26,none⟩ (ag x)).setCell ⟨bt,27,none⟩ (ag y)).setCell ⟨bt,28,none⟩ (ag z)).setCell ⟨bt,29,none⟩ (ag r)).setCell ⟨bt,30,none⟩ (.bool q)) ⟨M,C,L1,n1⟩ bt (zi M S ⟨.slice ab nb a_,rm,dr,.slice ac nc bY,e0,e1,e2,cK,inp,i0,j0,false,x,y,z,r,q⟩):=((((kT.put 26 (ag x)).put 27 (ag y)).put 28 (ag z)).put 29 (ag r)).put 30 (.bool q);rw[←mi]at hm hA2 kN;clear mi;go_wp2;go_ret;exact⟨rfl,L1,n1,hm,kN,hA2.mono ae⟩):P:=h
namespace Vm
open Go.RowKit aN fO Qt Ro Bk Ce La Ha In
attribute [local go_sem] Oper.semAt_some
variable {c:List Int}
def Gf (w:World) (ac:Option Addr) (I:List (Int×Int)):Prop:=∀i,i<I.length→∃b,ac=some ⟨b,0,none⟩∧w.cell? ⟨b,i*2,none⟩=some (ag (I.getD i (0,0)).1)∧w.cell? ⟨b,i*2+1,none⟩=some (ag (I.getD i (0,0)).2)
theorem step_end {w:World} {M C:Nat} {L:Option Nat} {m:Nat} (hm:aD w ⟨M,C,L,m⟩ c) (S:Stp) (ab:Option Addr) (nb cap:Nat) (rm dr:Value) (ac:Option Addr) (I:List (Int×Int)) (bY:Nat) (hI:I.length≤1000000) (e0 e1 e2:Int) (hg:Kb w ⟨M,C,L,m⟩ 0 jH) (hc:Gf w ac I) (hsp:0≤cg c 7)
  (hx:cg c 8<1∨cg c 6<0∨(I.length:Int)≤cg c 6∨Jv (I.getD (cg c 6).toNat (0,0)).1 (I.getD (cg c 6).toNat (0,0)).2 (cg c 7)=false):
  Calls prog 109 #[iW M,dR S (.slice ab nb cap) rm dr,qQ (.slice ac I.length bY) e0 e1 e2] w fun e w'=>e=.returned (.tuple #[.bool true,jB 0 0 0 0,.bool false])∧∃L' m',aD w' ⟨M,C,L',m'⟩ c∧Alt [] w ⟨M,C,L,m⟩ w' ⟨M,C,L',m'⟩ 8:=by
 have hA:=Alt.refl [] w ⟨M,C,L,m⟩;by_cases h1:cg c 8<1
 ·clear hx hc;go_enter func109,ntmps109;go_upto_region 1 with(fail);refine aP fun W hW=>?_;have hb:aJ w W:=aM;refine wQ ?_;intro k5;refine gF ?_;intro k7;replace hm:=hm.below hb;replace hA:=hA.below hb;replace hg:=hg.below hb;clear hW hb;have⟨⟨ck5,nK,_⟩,_⟩:=k5;have⟨⟨iX,jP,_⟩,_⟩:=k7;refine gG ?_;intro h7;generalize eY:w.heap.size+1=b5 at*;generalize zP:b5+1=b7 at*;have cZ:=au;generalize Ml:I.length=nI at*;go_wp2_with (first|((with_reducible refine(iZ (hm.below aG) _).mono ?_);rintro e w1 ⟨rfl,rfl⟩));refine bodyPost_ret (v:=.tuple #[.bool true,jB 0 0 0 0,.bool false]) qR rfl ⟨rfl,_,_,iM hm hA k7.no h7 ae ?_⟩;exact jT
 by_cases h2:cg c 6<0
 ·clear hx hc;go_enter func109,ntmps109;go_upto_region 1 with(fail);refine aP fun W hW=>?_;have hb:aJ w W:=aM;refine wQ ?_;intro k5;refine gF ?_;intro k7;replace hm:=hm.below hb;replace hA:=hA.below hb;replace hg:=hg.below hb;clear hW hb;have⟨⟨ck5,nK,_⟩,_⟩:=k5;have⟨⟨iX,jP,_⟩,_⟩:=k7;refine gG ?_;intro h7;generalize eY:w.heap.size+1=b5 at*;generalize zP:b5+1=b7 at*;have cZ:=au;generalize Ml:I.length=nI at*;go_wp2_with (first|((with_reducible refine(iZ (hm.below aG) _).mono ?_);rintro e w1 ⟨rfl,rfl⟩));refine bodyPost_ret (v:=.tuple #[.bool true,jB 0 0 0 0,.bool false]) qR rfl ⟨rfl,_,_,iM hm hA k7.no h7 ae ?_⟩;exact jT
 by_cases h3:(I.length:Int)≤cg c 6
 ·clear hx hc;go_enter func109,ntmps109;go_upto_region 1 with(fail);refine aP fun W hW=>?_;have hb:aJ w W:=aM;refine wQ ?_;intro k5;refine gF ?_;intro k7;replace hm:=hm.below hb;replace hA:=hA.below hb;replace hg:=hg.below hb;clear hW hb;have⟨⟨ck5,nK,_⟩,_⟩:=k5;have⟨⟨iX,jP,_⟩,_⟩:=k7;refine gG ?_;intro h7;generalize eY:w.heap.size+1=b5 at*;generalize zP:b5+1=b7 at*;have cZ:=au;generalize Ml:I.length=nI at*;go_wp2_with (first|((with_reducible refine(iZ (hm.below aG) _).mono ?_);rintro e w1 ⟨rfl,rfl⟩));refine bodyPost_ret (v:=.tuple #[.bool true,jB 0 0 0 0,.bool false]) qR rfl ⟨rfl,_,_,iM hm hA k7.no h7 ae ?_⟩;exact jT
 ·have hx:Jv (I.getD (cg c 6).toNat (0,0)).1 (I.getD (cg c 6).toNat (0,0)).2 (cg c 7)=false:=by
   rcases hx with h|h|h|h
   ·exact absurd h h1
   ·exact absurd h h2
   ·exact absurd h h3
   ·exact h
  obtain⟨pc,hpc⟩:∃pc:Nat,cg c 6=pc:=⟨(cg c 6).toNat,ae⟩
  rw[hpc,Int.toNat_natCast]at hx;have hlt:pc<I.length:=ae;obtain⟨bc,rfl,o9,pK⟩:=hc pc hlt;clear hc;generalize I.getD pc (0,0)=In at*;obtain⟨op,n⟩:=In;simp only at hx o9 pK;have yL:=aU w _ o9;simp only at yL;have hex:=fun(V:World) (hV:aV V 0 jH)=>wR hV op n (cg c 7) hsp;rw[hx]at hex;have hX:=ah hex;clear hex hx;go_enter func109,ntmps109;go_upto_region 1 with(fail);refine aP fun W hW=>?_;have hb:aJ w W:=aM;have k5:Kb W ⟨M,C,L,m⟩ (w.heap.size+1) [aZ bc I.length bY,ag e0,ag e1,ag e2]:=Kb.new hm ae fV;refine gF ?_;intro k7;replace hm:=hm.below hb;replace hA:=hA.below hb;replace hg:=hg.below hb;replace o9:=(hb.cell (p:=⟨bc,pc*2,none⟩) yL).trans o9;replace pK:=(hb.cell (p:=⟨bc,pc*2+1,none⟩) yL).trans pK;clear hW hb;have⟨⟨ck5,nK,_⟩,_⟩:=k5;have⟨⟨iX,jP,_⟩,_⟩:=k7;refine gG ?_;intro h7;generalize eY:w.heap.size+1=b5 at*;generalize zP:b5+1=b7 at*;have cZ:=au;generalize Ml:I.length=nI at*;go_wp2_with (first|((with_reducible refine(iZ (hm.below aG) _).mono ?_);rintro e w1 ⟨rfl,rfl⟩)|((with_reducible refine(hX.out _ (hg.blk.later aG)).mono ?_);rintro e w1 ⟨rfl,aO⟩;replace hm:=hm.below aO;replace hA:=hA.below aO;replace k5:=k5.below aO;replace k7:=k7.below aO;replace ck5:=k5.blk.cell;replace nK:=k5.blk.free;replace iX:=k7.blk.cell;replace jP:=k7.blk.free;clear aO));refine bodyPost_ret (v:=.tuple #[.bool true,jB 0 0 0 0,.bool false]) qR rfl ⟨rfl,_,_,iM hm hA k7.no h7 ae ?_⟩;exact jT
structure Vms (P:Nat) (c c':List Int) (en:Bool):Prop where
 len:c'.length=c.length
 kept:∀i:Int,(i≤5∨i=13)→cg c' i=cg c i
 bnd:sM P c'
 fuel:cg c' 8≤cg c 8
 less:en=false→1≤cg c 8∧cg c' 8=cg c 8-1
theorem afd:∀k,k<22→1≤k→(iG.getD (k*3) 0=0∧iG.getD (k*3+1) 0=0)∨(iG.getD (k*3) 0=0∧iG.getD (k*3+1) 0=1)∨(iG.getD (k*3) 0=1∧iG.getD (k*3+1) 0=0)∨(iG.getD (k*3) 0=1∧iG.getD (k*3+1) 0=1)∨(iG.getD (k*3) 0=2∧iG.getD (k*3+1) 0=0)∨(iG.getD (k*3) 0=2∧iG.getD (k*3+1) 0=1):=bL
theorem Gg (S:Stp) (nb:Nat) (hP:S.ak≤8) (hnb:nb≤24) (hB:sM S.ak c) (hlen:48≤c.length) (ku:cg c 8≤1000000) (I:List (Int×Int)) (hI:I.length≤1000000):
  ∃(en:Bool) (x y z r:Int) (q:Bool) (c':List Int),Vms S.ak c c' en∧∀(w:World) (M C:Nat) (L:Option Nat) (m:Nat) (ab:Option Addr) (cap:Nat) (rm dr:Value) (ac:Option Addr) (bY:Nat) (e0 e1 e2:Int),aD w ⟨M,C,L,m⟩ c→m<999998000→Kb w ⟨M,C,L,m⟩ 0 jH→Gf w ac I→
   Calls prog 109 #[iW M,dR S (.slice ab nb cap) rm dr,qQ (.slice ac I.length bY) e0 e1 e2] w fun e w'=>e=.returned (.tuple #[.bool en,jB x y z r,.bool q])∧∃L' m',aD w' ⟨M,C,L',m'⟩ c'∧Alt [] w ⟨M,C,L,m⟩ w' ⟨M,C,L',m'⟩ 8:=by
 have hsp:=hB.sp;by_cases hx:cg c 8<1∨cg c 6<0∨(I.length:Int)≤cg c 6∨Jv (I.getD (cg c 6).toNat (0,0)).1 (I.getD (cg c 6).toNat (0,0)).2 (cg c 7)=false
 ·exact⟨true,0,0,0,0,false,c,⟨rfl,fun _ _=>rfl,hB,Int.le_refl _,fun h=>by cases h⟩,fun w M C L m ab cap rm dr ac bY e0 e1 e2 hm hr hg hc=>step_end hm S ab nb cap rm dr ac I bY hI e0 e1 e2 hg hc hsp.1 hx⟩
 obtain⟨pc,hpc⟩:∃pc:Nat,cg c 6=pc:=⟨(cg c 6).toNat,ae⟩
 have hf:1≤cg c 8:=ae;have hlt:pc<I.length:=ae;have hex:Jv (I.getD pc (0,0)).1 (I.getD pc (0,0)).2 (cg c 7)=true:=by have h:=fun e=>hx (.inr (.inr (.inr e)));rw[hpc,Int.toNat_natCast]at h;exact Bool.not_eq_false _▸h
 clear hx;obtain⟨⟨op,n⟩,hIn⟩:∃x,x=I.getD pc (0,0):=⟨_,rfl⟩
 rw[←hIn]at hex;simp only at hex;have hq:=hex;simp only[Jv,exq,decide_eq_true_eq]at hq;obtain⟨q1,q2,q3,q4,q5,q6⟩:=hq;obtain⟨k,rfl⟩:∃k:Nat,op=k:=⟨op.toNat,ae⟩
 rw[Int.toNat_natCast]at q4 q5 q6;have FX:(k:Int)=2∨(k:Int)=3→0≤n∧n≤15:=by intro h;have h:k=2∨k=3:=ae;rcases h with rfl|rfl<;>simp[iG]at q6<;>omega
 have XQ:(k:Int)=4∨(k:Int)=5→0≤n∧n≤7:=by intro h;have h:k=4∨k=5:=ae;rcases h with rfl|rfl<;>simp[iG]at q6<;>omega
 clear q6;have MZ:sM S.ak (cs (cs c 8 (cg c 8-1)) 6 (pc+1)):=(hB.set (Cb.free ae)).set (Cb.free ae);rcases afd k ae ae with⟨hp,hu⟩|⟨hp,hu⟩|⟨hp,hu⟩|⟨hp,hu⟩|⟨hp,hu⟩|⟨hp,hu⟩
 ·rw[hp]at q4 q5;rw[hu]at q5;obtain⟨v,x,y,z,r,q,c2,hv,hE⟩:=tY S nb hP hnb (c:=cs (cs c 8 (cg c 8-1)) 6 (pc+1)) MZ k n (0) (0) ⟨ae,ae⟩ FX XQ;have hcg:∀i:Int,i≤5∨i=13→cg c2 i=cg c i:=fun i hi=>by rw[hv.kept i ae];simp only[aI];rw[if_neg ae,if_neg ae]
  have h8:cg c2 8=cg c 8-1:=mE;have hl:c2.length=c.length:=mF;refine⟨(k:Int)==21,x,y,z,r,q,c2,⟨hl,hcg,hv.bnd,ae,fun _=>⟨hf,h8⟩⟩,fun w M C L m ab cap rm dr ac bY e0 e1 e2 hm hr hg hc=>?_⟩;obtain⟨bc,rfl,o9,pK⟩:=hc pc hlt;rw[←hIn]at o9 pK;exact QH hm hr S ab nb cap rm dr bc I.length bY hI e0 e1 e2 hg pc k n o9 pK hlt hpc hf ku hex hp hu ae ae hsp.2 v x y z r q (fun V Lx mx hV hl=>hE V M C Lx mx ab cap rm dr hV hl)
 ·rw[hp]at q4 q5;rw[hu]at q5;obtain⟨v,x,y,z,r,q,c2,hv,hE⟩:=tY S nb hP hnb (c:=cs (cs (cs c 8 (cg c 8-1)) 6 (pc+1)) 7 (cg c 7+1)) (MZ.set ⟨fun _=>ae,ae,ae,ae⟩) k n (0) (0) ⟨ae,ae⟩ FX XQ;have hcg:∀i:Int,i≤5∨i=13→cg c2 i=cg c i:=fun i hi=>by rw[hv.kept i ae];simp only[aI];rw[if_neg ae,if_neg ae,if_neg ae]
  have h8:cg c2 8=cg c 8-1:=mE;have hl:c2.length=c.length:=mF;refine⟨(k:Int)==21,x,y,z,r,q,cs c2 (16+cg c 7) v,⟨by rw[aT,hl],fun i hi=>by rw[aI,if_neg ae,hcg i hi],hv.bnd.set (Cb.free ae),by rw[aI,if_neg ae,h8];omega,fun _=>⟨hf,by rw[aI,if_neg ae,h8]⟩⟩,fun w M C L m ab cap rm dr ac bY e0 e1 e2 hm hr hg hc=>?_⟩;obtain⟨bc,rfl,o9,pK⟩:=hc pc hlt;rw[←hIn]at o9 pK;exact QI hm hr S ab nb cap rm dr bc I.length bY hI e0 e1 e2 hg pc k n o9 pK hlt hpc hf ku hex hp hu ae ae hsp.2 v x y z r q (fun V Lx mx hV hl=>hE V M C Lx mx ab cap rm dr hV hl)
 ·rw[hp]at q4 q5;rw[hu]at q5;obtain⟨v,x,y,z,r,q,c2,hv,hE⟩:=tY S nb hP hnb (c:=cs (cs (cs c 8 (cg c 8-1)) 6 (pc+1)) 7 (cg c 7-1)) (MZ.set ⟨fun _=>ae,ae,ae,ae⟩) k n (cg c (16+cg c 7-1)) (0) ⟨ae,ae⟩ FX XQ;have hcg:∀i:Int,i≤5∨i=13→cg c2 i=cg c i:=fun i hi=>by rw[hv.kept i ae];simp only[aI];rw[if_neg ae,if_neg ae,if_neg ae]
  have h8:cg c2 8=cg c 8-1:=mE;have hl:c2.length=c.length:=mF;refine⟨(k:Int)==21,x,y,z,r,q,c2,⟨hl,hcg,hv.bnd,ae,fun _=>⟨hf,h8⟩⟩,fun w M C L m ab cap rm dr ac bY e0 e1 e2 hm hr hg hc=>?_⟩;obtain⟨bc,rfl,o9,pK⟩:=hc pc hlt;rw[←hIn]at o9 pK;exact QJ hm hr S ab nb cap rm dr bc I.length bY hI e0 e1 e2 hg pc k n o9 pK hlt hpc hf ku hex hp hu ae ae hsp.2 v x y z r q (fun V Lx mx hV hl=>hE V M C Lx mx ab cap rm dr hV hl)
 ·rw[hp]at q4 q5;rw[hu]at q5;obtain⟨v,x,y,z,r,q,c2,hv,hE⟩:=tY S nb hP hnb (c:=cs (cs c 8 (cg c 8-1)) 6 (pc+1)) MZ k n (cg c (16+cg c 7-1)) (0) ⟨ae,ae⟩ FX XQ;have hcg:∀i:Int,i≤5∨i=13→cg c2 i=cg c i:=fun i hi=>by rw[hv.kept i ae];simp only[aI];rw[if_neg ae,if_neg ae]
  have h8:cg c2 8=cg c 8-1:=mE;have hl:c2.length=c.length:=mF;refine⟨(k:Int)==21,x,y,z,r,q,cs c2 (16+cg c 7-1) v,⟨by rw[aT,hl],fun i hi=>by rw[aI,if_neg ae,hcg i hi],hv.bnd.set (Cb.free ae),by rw[aI,if_neg ae,h8];omega,fun _=>⟨hf,by rw[aI,if_neg ae,h8]⟩⟩,fun w M C L m ab cap rm dr ac bY e0 e1 e2 hm hr hg hc=>?_⟩;obtain⟨bc,rfl,o9,pK⟩:=hc pc hlt;rw[←hIn]at o9 pK;exact QK hm hr S ab nb cap rm dr bc I.length bY hI e0 e1 e2 hg pc k n o9 pK hlt hpc hf ku hex hp hu ae ae hsp.2 v x y z r q (fun V Lx mx hV hl=>hE V M C Lx mx ab cap rm dr hV hl)
 ·rw[hp]at q4 q5;rw[hu]at q5;obtain⟨v,x,y,z,r,q,c2,hv,hE⟩:=tY S nb hP hnb (c:=cs (cs (cs c 8 (cg c 8-1)) 6 (pc+1)) 7 (cg c 7-2)) (MZ.set ⟨fun _=>ae,ae,ae,ae⟩) k n (cg c (16+cg c 7-2)) (cg c (16+cg c 7-2+1)) ⟨ae,ae⟩ FX XQ;have hcg:∀i:Int,i≤5∨i=13→cg c2 i=cg c i:=fun i hi=>by rw[hv.kept i ae];simp only[aI];rw[if_neg ae,if_neg ae,if_neg ae]
  have h8:cg c2 8=cg c 8-1:=mE;have hl:c2.length=c.length:=mF;refine⟨(k:Int)==21,x,y,z,r,q,c2,⟨hl,hcg,hv.bnd,ae,fun _=>⟨hf,h8⟩⟩,fun w M C L m ab cap rm dr ac bY e0 e1 e2 hm hr hg hc=>?_⟩;obtain⟨bc,rfl,o9,pK⟩:=hc pc hlt;rw[←hIn]at o9 pK;exact QL hm hr S ab nb cap rm dr bc I.length bY hI e0 e1 e2 hg pc k n o9 pK hlt hpc hf ku hex hp hu ae ae hsp.2 v x y z r q (fun V Lx mx hV hl=>hE V M C Lx mx ab cap rm dr hV hl)
 ·rw[hp]at q4 q5;rw[hu]at q5;obtain⟨v,x,y,z,r,q,c2,hv,hE⟩:=tY S nb hP hnb (c:=cs (cs (cs c 8 (cg c 8-1)) 6 (pc+1)) 7 (cg c 7-2+1)) (MZ.set ⟨fun _=>ae,ae,ae,ae⟩) k n (cg c (16+cg c 7-2)) (cg c (16+cg c 7-2+1)) ⟨ae,ae⟩ FX XQ;have hcg:∀i:Int,i≤5∨i=13→cg c2 i=cg c i:=fun i hi=>by rw[hv.kept i ae];simp only[aI];rw[if_neg ae,if_neg ae,if_neg ae]
  have h8:cg c2 8=cg c 8-1:=mE;have hl:c2.length=c.length:=mF;refine⟨(k:Int)==21,x,y,z,r,q,cs c2 (16+cg c 7-2) v,⟨by rw[aT,hl],fun i hi=>by rw[aI,if_neg ae,hcg i hi],hv.bnd.set (Cb.free ae),by rw[aI,if_neg ae,h8];omega,fun _=>⟨hf,by rw[aI,if_neg ae,h8]⟩⟩,fun w M C L m ab cap rm dr ac bY e0 e1 e2 hm hr hg hc=>?_⟩;obtain⟨bc,rfl,o9,pK⟩:=hc pc hlt;rw[←hIn]at o9 pK;exact QM hm hr S ab nb cap rm dr bc I.length bY hI e0 e1 e2 hg pc k n o9 pK hlt hpc hf ku hex hp hu ae ae hsp.2 v x y z r q (fun V Lx mx hV hl=>hE V M C Lx mx ab cap rm dr hV hl)
end Vm
namespace Mc
open Go.RowKit aN fO Qt Ro Bk Ce La Ha In Vm
attribute [local go_sem] Oper.semAt_some
variable {w W0 w':World} {F:Fp} {S:Stp} {M bt:Nat} {p:Addr} {k:Int}
structure Sub (W0 w:World) (F:Fp):Prop where
 jQ:aJ W0 w
 new:∀b,F.has b→W0.heap.size≤b
theorem Sub.below (h:Sub W0 w F) (hb:aJ w w'):Sub W0 w' F:=⟨h.jQ.trans (hb.mono h.jQ.size),h.new⟩
theorem Sub.step {F':Fp} {k:Nat} (h:Sub W0 w F) (a:Alt [] w F w' F' k):Sub W0 w' F':=by
 refine⟨⟨a.os.trans h.jQ.os,a.tape.trans h.jQ.tape,a.output.trans h.jQ.output,aS h.jQ.size a.size,fun b hb=>?_⟩,fun b hb=>?_⟩
 ·rw[a.block b (Nat.lt_of_lt_of_le hb h.jQ.size) (fun hF=>absurd (h.new b hF) ae) av];exact h.jQ.block b hb
 ·rcases Nat.lt_or_ge b w.heap.size with h1|h1
  ·exact h.new b (a.has h1 hb)
  ·exact aS h.jQ.size h1
theorem Sub.cell (h:Sub W0 w F) {v:Value} (e:W0.cell? p=some v):w.cell? p=some v:=ai h.jQ e
theorem Sub.set (h:Sub W0 w F) (hp:W0.heap.size≤p.block) (v:Value):Sub W0 (w.setCell p v) F:=
 ⟨⟨h.jQ.os,h.jQ.tape,h.jQ.output,by simpa[World.setCell]using h.jQ.size,fun b hb=>(dI _ _ _ _ ae).trans (h.jQ.block b hb)⟩,h.new⟩
structure IQ where
 bs:Value
 rm:Value
 dr:Value
 code:Value
 e0:Int
 e1:Int
 e2:Int
 cK:Int
 inp:Value
 i:Int
 j:Int
 en:Bool
 x:Int
 y:Int
 z:Int
 r:Int
 q:Bool
def zi (M:Nat) (S:Stp) (T:IQ):List Value:=[iW M,ag S.ak,T.bs,ag S.x0,ag S.y0,ag S.x1,ag S.y1,T.rm,T.dr,ag S.ou,ag S.gx,ag S.gy,ag S.push,ag S.eO,ag S.rest,ag S.rounds,ag S.fuel,
 T.code,ag T.e0,ag T.e1,ag T.e2,ag T.cK,T.inp,ag T.i,ag T.j,.bool T.en,ag T.x,ag T.y,ag T.z,ag T.r,.bool T.q]
def AL (c:List Int) (ph j:Int):List Int:=cs (cs (cs c 1 ph) 2 0) 3 j
theorem qa {C:Nat} {L:Option Nat} {m:Nat} {c:List Int} (hm:aD w ⟨M,C,L,m⟩ c) (hr:m<999990000) {T:IQ} (kt:Kb w ⟨M,C,L,m⟩ bt (zi M S T)) (ph j:Int):
  Calls prog 76 #[aR bt,ag ph,ag j] w fun e w'=>e=.returned (.tuple #[])∧∃L' m',aD w' ⟨M,C,L',m'⟩ (AL c ph j)∧Alt [] w ⟨M,C,L,m⟩ w' ⟨M,C,L',m'⟩ 3:=by have hA:=Alt.refl [] w ⟨M,C,L,m⟩;unfold zi at kt;have⟨⟨MW,MX,_⟩,_⟩:=kt;unfold AL;go_enter func76,ntmps76;go_wp2_with (first|((with_reducible refine(Gc (hm.below aG) _ _ ae).mono ?_);rintro e w1 ⟨rfl,L1,n1,gp,dG⟩;have eD:=dG.n;simp only at eD;replace kt:=(kt.below aG).step dG;replace MW:=kt.blk.cell;replace MX:=kt.blk.free;replace hA:=(hA.below aG).trans dG;replace hm:=gp;clear gp dG));go_end0;exact⟨rfl,_,_,hm,hA.mono ae⟩
theorem pJ {T:IQ} {ab:Option Addr} {nb cap:Nat} (kt:Kb w F bt (zi M S T)) (hb:T.bs=.slice ab nb cap) (hn:nb≤24) (k:Int):
  Calls prog 86 #[aR bt,ag k] w fun e w'=>e=.returned (.bool (decide (0≤k∧k<nb)))∧w'=w:=by
 unfold zi at kt;rw[hb]at kt;have⟨⟨MW,MX,_⟩,_⟩:=kt;by_cases h0:0≤k
 ·rw[show decide (0≤k∧k<(nb:Int))=decide (k<(nb:Int)) by simp[h0]];go_enter func86,ntmps86;go_wp2;go_ret;exact⟨rfl,rfl⟩
 ·rw[show decide (0≤k∧k<(nb:Int))=false from bU];go_enter func86,ntmps86;go_wp2;go_ret;exact⟨rfl,rfl⟩
def bdy (S:Stp) (k:Int):Option yx:=if 0≤k then S.bodies[k.toNat]? else none
def IU (S:Stp) (k:Int):Bool:=match bdy S k with|some B=>decide (0<B.im)|none=>false
theorem XO (h:bdy S k=none):¬(0≤k∧k<S.bodies.length):=by
 unfold bdy at h;split at h
 ·rw[List.getElem?_eq_none_iff]at h;omega
 ·omega
theorem XP {B:yx} (h:bdy S k=some B):∃n:Nat,k=n∧n<S.bodies.length∧S.bodies[n]?=some B:=by
 unfold bdy at h;split at h
 ·refine⟨k.toNat,ae,?_,h⟩;rw[List.getElem?_eq_some_iff]at h;exact h.1
 ·cases h
theorem oH {T:IQ} (hs:Sub W0 w F) (hS:fP W0 S T.bs T.rm T.dr) (hn:S.bodies.length≤24) (kt:Kb w F bt (zi M S T)) (k:Int):
  Calls prog 79 #[aR bt,ag k] w fun e w'=>e=.returned (.bool (IU S k))∧w'=w:=by
 obtain⟨b,cap,hb,hB⟩:=hS.bodies;have hh:=pJ kt hb hn k;unfold zi at kt;rw[hb]at kt;have⟨⟨MW,MX,_⟩,_⟩:=kt;unfold IU;cases he:bdy S k with
 |none=>rw[show decide (0≤k∧k<(S.bodies.length:Int))=false by simpa using XO he]at hh;simp only;have P9:=ah hh;clear hh;clear he;go_enter func79,ntmps79;go_wp2_with (first|((with_reducible refine(P9.out).mono ?_);rintro e w2 ⟨rfl,rfl⟩));go_ret;exact⟨rfl,rfl⟩
 |some B=>obtain⟨n,rfl,hlt,W_⟩:=XP he;have hc:=hs.cell (hB n B W_).c6;rw[show decide (0≤(n:Int)∧(n:Int)<(S.bodies.length:Int))=true from bU]at hh;simp only;have P9:=ah hh;clear hh;clear he hB W_;generalize S.bodies.length=nb at*;go_enter func79,ntmps79;go_wp2_with (first|((with_reducible refine(P9.out).mono ?_);rintro e w2 ⟨rfl,rfl⟩));go_ret;exact⟨rfl,rfl⟩
variable {w:World} {M C m bt:Nat} {L:Option Nat} {c:List Int} {T:IQ}
theorem Tryz.Wq (M:Nat) (w:World):Sem.run prog (method 470 46 (aR M) "Get") w=.ok (31,aR M) w:=aL
theorem si (hm:aD w ⟨M,C,L,m⟩ c) (i:Int) (x:One w.drew):
  Calls prog 31 #[aR M,ag i] x.out fun e w''=>e=.returned (ag (cg c i))∧∃y:One w.drew,w''=y.out:=by
 have h:aD x.out ⟨M,C,L,m⟩ c:=by rw[x.eq];exact hm.below ((aK _ _).drew)
 exact(iZ h i).mono fun e w' ⟨he,hw⟩=>⟨he,x,hw⟩
abbrev Jh (c:List Int) (P k:Nat) (im:Int):Value:=.agg #[ag (cg c (48+4*P+8*k)),ag (cg c (48+4*P+8*k+1)),ag (cg c (48+4*P+8*k+2)),ag (cg c (48+4*P+8*k+3)),ag im]
theorem vz {W0:World} (hm:aD w ⟨M,C,L,m⟩ c) (hs:Sub W0 w ⟨M,C,L,m⟩) (hS:fP W0 S T.bs T.rm T.dr) (hP:S.ak≤8) (hn:S.bodies.length≤24) (kt:Kb w ⟨M,C,L,m⟩ bt (zi M S T)) (k:Nat) (B:yx) (hB:S.bodies[k]?=some B):
  Calls prog 80 #[aR bt,ag k] w fun e w'=>e=.returned (Jh c S.ak k B.im)∧aJ w w':=by
 obtain⟨b,cap,hb,XH⟩:=hS.bodies;have hk:k<S.bodies.length:=(List.getElem?_eq_some_iff.1 hB).1;have hc:=hs.cell (XH k B hB).c6;have hbd:=oG (S.ak:Int) k (some ⟨b,0,none⟩) S.bodies.length cap (ag S.x0) (ag S.y0) (ag S.x1) (ag S.y1) T.rm T.dr (ag S.ou) (ag S.gx) (ag S.gy) (ag S.push) (ag S.eO) (ag S.rest) (ag S.rounds) (ag S.fuel) ae ae;rw[show vP S.ak S.bodies.length k=48+4*S.ak+8*k by unfold vP;rw[if_pos ae]]at hbd;have hbl:=aU w _ hc;simp only at hbl;unfold zi at kt;rw[hb]at kt;clear XH hB hS hs hb;generalize S.bodies.length=nb at*;generalize B.im=im at*;have vQ:=ah hbd;clear hbd;have gY:=results80;go_enter func80,ntmps80;go_upto_region 1 with(fail);refine aP fun W hW=>?_;have nP:aJ w W:=aM;have k4:aV W w.heap.size [ag 0,ag 0,ag 0,ag 0,ag 0]:=dm;have h4:bt≠w.heap.size:=by have:=kt.blk.lt;omega
 replace hc:=(nP.cell (p:=⟨b,k*9+6,none⟩) hbl).trans hc;replace hbl:=bH hbl nP.size;replace kt:=kt.below nP;replace hm:=hm.below nP;clear hW;have⟨⟨MW,MX,_⟩,_⟩:=kt;have⟨iw,iB,_⟩:=k4;go_wp2_with (first|((with_reducible refine(vQ.out _).mono ?_);rintro e w1 ⟨rfl,aO⟩;replace nP:=nP.trans (aO.mono nP.size);replace hm:=hm.below aO;replace kt:=kt.below aO;replace MW:=kt.blk.cell;replace MX:=kt.blk.free;replace k4:=k4.later aO;replace iw:=k4.cell;replace iB:=k4.free;replace hc:=(aO.cell (p:=⟨b,k*9+6,none⟩) hbl).trans hc;clear aO));have hmg:=Tryz.Wq M;have cZ:=au;refine bK 41 aL aL fun hL=>?_;have dV:=hL.cell;clear hL;simp only[dS];(repeat(go_big_quiet_step ((with_reducible exact si hm _ _))));refine wpQuiet_nil ?_;clear dV;go_wp2_with (first|fail);refine bodyPost_ret (v:=Jh c S.ak k im) (by simp[results,gY,go_sem,cZ,iw]) rfl ⟨rfl,?_⟩;exact aG
def Xl (c:List Int) (f px py vx vy:Int):List Int:=cs (cs (cs (cs c f px) (f+1) py) (f+2) vx) (f+3) vy
theorem yX (hm:aD w ⟨M,C,L,m⟩ c) (hr:m<999990000) {ab:Option Addr} {nb cap:Nat} (hb:T.bs=.slice ab nb cap) (hP:S.ak≤8) (hn:nb≤24) (kt:Kb w ⟨M,C,L,m⟩ bt (zi M S T)) (k:Nat) (hk:k<nb) (px py vx vy im:Int):
  Calls prog 116 #[aR bt,ag k,.agg #[ag px,ag py,ag vx,ag vy,ag im]] w fun e w'=>e=.returned (.tuple #[])∧∃L' m',aD w' ⟨M,C,L',m'⟩ (Xl c (48+4*S.ak+8*k) px py vx vy)∧Alt [] w ⟨M,C,L,m⟩ w' ⟨M,C,L',m'⟩ 4:=by have hA:=Alt.refl [] w ⟨M,C,L,m⟩;have hbd:=oG (S.ak:Int) k ab nb cap (ag S.x0) (ag S.y0) (ag S.x1) (ag S.y1) T.rm T.dr (ag S.ou) (ag S.gx) (ag S.gy) (ag S.push) (ag S.eO) (ag S.rest) (ag S.rounds) (ag S.fuel) ae ae;rw[show vP S.ak nb k=48+4*S.ak+8*k by unfold vP;rw[if_pos ae]]at hbd;unfold zi at kt;rw[hb]at kt;clear hb;have vQ:=ah hbd;clear hbd;unfold Xl;go_enter func116,ntmps116;go_upto_region 1 with(fail);refine aP fun W hW=>?_;have nP:aJ w W:=aM;have k5:Kb W ⟨M,C,L,m⟩ w.heap.size [ag px,ag py,ag vx,ag vy,ag im]:=Kb.new hm (aH _) dm;replace kt:=kt.below nP;replace hm:=hm.below nP;replace hA:=hA.below nP;clear hW nP;have⟨⟨MW,MX,_⟩,_⟩:=kt;have⟨⟨ck5,nK,_⟩,_⟩:=k5;go_wp2_with (first|((with_reducible refine(vQ.out _).mono ?_);rintro e w1 ⟨rfl,aO⟩;replace hm:=hm.below aO;replace hA:=hA.below aO;replace kt:=kt.below aO;replace MW:=kt.blk.cell;replace MX:=kt.blk.free;replace k5:=k5.below aO;replace ck5:=k5.blk.cell;replace nK:=k5.blk.free;clear aO));refine mq ?_;go_wp2_with (first|(refine sj ?_;clear kt MW MX k5 ck5 nK hA hm;intro w1 L1 n1 eD kt MW MX k5 ck5 nK hA hm));refine mq ?_;go_wp2_with (first|(refine sj ?_;clear kt MW MX k5 ck5 nK hA hm;intro w1 L1 n1 eD kt MW MX k5 ck5 nK hA hm));refine mq ?_;go_wp2_with (first|(refine sj ?_;clear kt MW MX k5 ck5 nK hA hm;intro w1 L1 n1 eD kt MW MX k5 ck5 nK hA hm));refine mq ?_;go_wp2_with (first|(refine sj ?_;clear kt MW MX k5 ck5 nK hA hm;intro w1 L1 n1 eD kt MW MX k5 ck5 nK hA hm));go_end0;exact⟨rfl,_,_,hm,hA.mono ae⟩
def Tv (P n:Nat) (fu rd:Int) (p i j k f:Int):Prop:=
 (p=0∧0≤i∧i<P)∨
 (p=1∧0≤i∧i≤P∧(j=0∨(j=1∧0≤f∧f≤fu)))∨
 (p=2∧(j=0∨(j=1∧0≤f∧f≤fu)))∨
 (p=3∧0≤i∧i<n)∨
 (p=4∧0≤k∧k≤rd∧0≤i∧0≤j∧i<n∧j<n+1)∨
 (p=5∧0≤i∧i<n∧0≤j∧j≤n)∨
 (p=6∧0≤i∧i≤n∧(j=0∨(j=1∧0≤f∧f≤fu)))∨
 (p=7∧0≤i∧i<n)
structure Inv (S:Stp) (c:List Int):Prop where
 len:c.length=qE S
 bnd:sM S.ak c
 fuel:cg c 8≤1000
 FW:0≤cg c 5∧cg c 5≤1024
 ph:Tv S.ak S.bodies.length S.fuel S.rounds (cg c 1) (cg c 2) (cg c 3) (cg c 4) (cg c 8)
def Kr (p i j k f:Int):Int:=(7-p)*100000+
 (if p=1∨p=6 then(30-i)*2000+(if j=0 then 1900 else f+1)
 else if p=2 then(if j=0 then 1900 else f+1)
 else if p=4 then(10-k)*1000-i*30-j
 else if p=5 then(30-i)*100-j
 else 30-i)
def mu (c:List Int):Int:=Kr (cg c 1) (cg c 2) (cg c 3) (cg c 4) (cg c 8)
structure mf (S:Stp):Prop where
 P1:1≤S.ak
 P8:S.ak≤8
 Pn:S.ak≤S.bodies.length
 n24:S.bodies.length≤24
 x0: -1048576≤S.x0
 x1:S.x1≤1048576
 xx:S.x0≤S.x1
 y0: -1048576≤S.y0
 y1:S.y1≤1048576
 yy:S.y0≤S.y1
 im:∀B∈S.bodies,0≤B.im∧B.im≤4096
 gx: -16384≤S.gx∧S.gx≤16384
 gy: -16384≤S.gy∧S.gy≤16384
 push:0≤S.push∧S.push≤16384
 eO:0≤S.eO∧S.eO≤1024
 rest:0≤S.rest∧S.rest≤1024
 rounds:1≤S.rounds∧S.rounds≤4
 fuel:0≤S.fuel∧S.fuel≤1000
structure Fin (S:Stp) (c:List Int):Prop where
 len:c.length=qE S
 bnd:sM S.ak c
 zero:∀i:Int,1≤i→i≤10→cg c i=0
theorem Fin.inv (hS:mf S) (h:Fin S c):Inv S c:=by refine⟨h.len,h.bnd,by rw[h.zero 8 ae ae];omega,by rw[h.zero 5 ae ae];omega,?_⟩;have:=hS.P1;refine .inl ⟨h.zero 1 ae ae,?_⟩;rw[h.zero 2 ae ae];omega
theorem adI (hS:mf S) (h:Inv S c):0≤mu c∧mu c≤900000:=by obtain⟨P1,P8,Pn,n24⟩:=And.intro hS.P1 (And.intro hS.P8 (And.intro hS.Pn hS.n24));have hr:=hS.rounds;have hfu:=hS.fuel;have ku:=h.fuel;have hp:=h.ph;unfold Tv at hp;unfold mu Kr;generalize cg c 1=p at*;generalize cg c 2=i at*;generalize cg c 3=j at*;generalize cg c 4=k at*;generalize cg c 8=f at*;rcases hp with hp|hp|hp|hp|hp|hp|hp|hp<;>(repeat' split)<;>omega
structure oF (S:Stp) (c c':List Int) (en:Bool):Prop where
 go:en=false→Inv S c'∧mu c'<mu c∧cg c' 0=cg c 0
 fin:en=true→Fin S c'∧cg c' 0=cg c 0+1
end Mc
namespace Ce
open Go.RowKit Bk La Vm Mc
theorem Kb.bV {w:World} {F:Fp} {bt M:Nat} {S:Stp} {bs rm dr code inp:Value} {e0 e1 e2 cK i0 j0 x y z r:Int} {en q:Bool} (h:Kb w F bt (zi M S ⟨bs,rm,dr,code,e0,e1,e2,cK,inp,i0,j0,en,x,y,z,r,q⟩)) (i:Nat):w.cell? ⟨bt,i,none⟩=[iW M,ag S.ak,bs,ag S.x0,ag S.y0,ag S.x1,ag S.y1,rm,dr,ag S.ou,ag S.gx,ag S.gy,ag S.push,ag S.eO,ag S.rest,ag S.rounds,ag S.fuel,
 code,ag e0,ag e1,ag e2,ag cK,inp,ag i0,ag j0,.bool en,ag x,ag y,ag z,ag r,.bool q][i]?:=h.blk.cell i
theorem Kb.uk {l:List Nat} {w w':World} {F F':Fp} {b k:Nat} {L:List Value} (h:Kb w F b L) (a:Alt l w F w' F' k) (hl:b∉l):Kb w' F' b L:=⟨aV.alt h.blk a h.no hl,fun hh=>h.no (a.has h.blk.lt hh)⟩
end Ce
namespace Mc
open Go.RowKit aN fO Qt Ro Bk Ce La Ha In Vm
attribute [local go_sem] Oper.semAt_some
theorem Sub.uk {l:List Nat} {W0 w w':World} {F F':Fp} {k:Nat} (h:Sub W0 w F) (a:Alt l w F w' F' k) (hl:∀b∈l,W0.heap.size≤b):Sub W0 w' F':=by
 refine⟨⟨a.os.trans h.jQ.os,a.tape.trans h.jQ.tape,a.output.trans h.jQ.output,aS h.jQ.size a.size,fun b hb=>?_⟩,fun b hb=>?_⟩
 ·rw[a.block b (Nat.lt_of_lt_of_le hb h.jQ.size) (fun hF=>absurd (h.new b hF) ae) (fun hm=>absurd (hl b hm) ae)];exact h.jQ.block b hb
 ·rcases Nat.lt_or_ge b w.heap.size with h1|h1
  ·exact h.new b (a.has h1 hb)
  ·exact aS h.jQ.size h1
def yV (w:World) (F:Fp) (bt:Nat) (v:Value) (I:List (Int×Int)):Prop:=
 ∃ac bY,v=.slice ac I.length bY∧∀i,i<I.length→∃b,ac=some ⟨b,0,none⟩∧¬F.has b∧b≠bt∧w.cell? ⟨b,i*2,none⟩=some (ag (I.getD i (0,0)).1)∧w.cell? ⟨b,i*2+1,none⟩=some (ag (I.getD i (0,0)).2)
theorem yV.below {w w':World} {F:Fp} {bt:Nat} {v:Value} {I:List (Int×Int)} (h:yV w F bt v I) (hb:aJ w w'):yV w' F bt v I:=by obtain⟨ac,bY,e,h⟩:=h;refine⟨ac,bY,e,fun i hi=>?_⟩;obtain⟨b,e,h0,hn,h1,h2⟩:=h i hi;exact⟨b,e,h0,hn,ai hb h1,ai hb h2⟩
theorem yV.uk {l:List Nat} {w w':World} {F F':Fp} {k bt:Nat} {v:Value} {I:List (Int×Int)} (h:yV w F bt v I) (a:Alt l w F w' F' k) (hl:∀b∈l,b=bt):yV w' F' bt v I:=by obtain⟨ac,bY,e,h⟩:=h;refine⟨ac,bY,e,fun i hi=>?_⟩;obtain⟨b,e,h0,hn,h1,h2⟩:=h i hi;have hbl:b∉l:=fun hm=>hn (hl b hm);exact⟨b,e,fun hh=>h0 (a.has (by have:=aU w _ h1;simpa using this) hh),hn,a.cell h0 hbl h1,a.cell h0 hbl h2⟩
theorem yV.at' {w:World} {F:Fp} {bt:Nat} {v:Value} {I:List (Int×Int)} (h:yV w F bt v I):∃ac bY,v=.slice ac I.length bY∧Gf w ac I:=by obtain⟨ac,bY,e,h⟩:=h;refine⟨ac,bY,e,fun i hi=>?_⟩;obtain⟨b,e,h0,hn,h1,h2⟩:=h i hi;exact⟨b,e,h1,h2⟩
def ZE (w:World) (v:Value) (R:List (Int×Int×Int)):Prop:=∃b cap,v=aZ b R.length cap∧∀i x,R[i]?=some x→w.cell? ⟨b,i*3,none⟩=some (ag x.1)∧w.cell? ⟨b,i*3+1,none⟩=some (ag x.2.1)∧w.cell? ⟨b,i*3+2,none⟩=some (ag x.2.2)
theorem ZE.later {w w':World} {v:Value} {R:List (Int×Int×Int)} (h:ZE w v R) (hb:aJ w w'):ZE w' v R:=by obtain⟨b,cap,e,h⟩:=h;exact⟨b,cap,e,fun i x hx=>⟨ai hb (h i x hx).1,ai hb (h i x hx).2.1,ai hb (h i x hx).2.2⟩⟩
def InK (w:World) (F:Fp) (bt:Nat) (v:Value) (R:List (Int×Int×Int)):Prop:=∃b cap,v=aZ b R.length cap∧∀i x,R[i]?=some x→¬F.has b∧b≠bt∧w.cell? ⟨b,i*3,none⟩=some (ag x.1)∧w.cell? ⟨b,i*3+1,none⟩=some (ag x.2.1)∧w.cell? ⟨b,i*3+2,none⟩=some (ag x.2.2)
theorem InK.uk {l:List Nat} {w w':World} {F F':Fp} {k bt:Nat} {v:Value} {R:List (Int×Int×Int)} (h:InK w F bt v R) (a:Alt l w F w' F' k) (hl:∀b∈l,b=bt):InK w' F' bt v R:=by obtain⟨b,cap,e,h⟩:=h;refine⟨b,cap,e,fun i x hx=>?_⟩;obtain⟨h0,hn,c0,c1,c2⟩:=h i x hx;have hb:b∉l:=fun hm=>hn (hl b hm);exact⟨fun hF=>h0 (a.has (aU _ _ c0) hF),hn,a.cell h0 hb c0,a.cell h0 hb c1,a.cell h0 hb c2⟩
structure Qg (S:Stp) (I:List (Int×Int)) (R:List (Int×Int×Int)) (W0:World) (bt:Nat) (T:IQ) (w:World) (F:Fp) (c:List Int):Prop where
 hm:aD w F c
 kT:Kb w F bt (zi F.M S T)
 kg:Kb w F 0 jH
 hc:yV w F bt T.code I
 hs:Sub W0 w F
 hS:fP W0 S T.bs T.rm T.dr
 hin:InK w F bt T.inp R
 hb:W0.heap.size≤bt
 h1:1≤W0.heap.size
theorem Qg.step {S:Stp} {I:List (Int×Int)} {R:List (Int×Int×Int)} {W0:World} {bt:Nat} {T:IQ} {w w':World} {F F':Fp} {c c':List Int} {k:Nat} (h:Qg S I R W0 bt T w F c) (hm:aD w' F' c') (a:Alt [] w F w' F' k):Qg S I R W0 bt T w' F' c':=
 ⟨hm,by rw[a.M];exact h.kT.uk a av,h.kg.uk a av,h.hc.uk a av,h.hs.uk a av,h.hS,h.hin.uk a av,h.hb,h.h1⟩
theorem Qg.stepT {S:Stp} {I:List (Int×Int)} {R:List (Int×Int×Int)} {W0:World} {bt:Nat} {T T':IQ} {w w':World} {F F':Fp} {c c':List Int} {k:Nat} (h:Qg S I R W0 bt T w F c) (hm:aD w' F' c') (a:Alt [bt] w F w' F' k) (kT:Kb w' F' bt (zi F'.M S T'))
  (e:T'.bs=T.bs∧T'.rm=T.rm∧T'.dr=T.dr∧T'.code=T.code∧T'.inp=T.inp):Qg S I R W0 bt T' w' F' c':=by obtain⟨e0,e1,e2,e3,e4⟩:=e;have hb:=h.hb;have h1:=h.h1;exact⟨hm,kT,h.kg.uk a bU,by rw[e3];exact h.hc.uk a av,h.hs.uk a bU,by rw[e0,e1,e2];exact h.hS,by rw[e4];exact h.hin.uk a av,h.hb,h.h1⟩
structure T0 (T:IQ) (c:List Int) (e0 e1 e2 cK:Int):Prop where
 e0:T.e0=e0
 e1:T.e1=e1
 e2:T.e2=e2
 cK:T.cK=cK
 i:T.i=cg c 2
 j:T.j=cg c 3
 en:T.en=false
 x:T.x=0
 y:T.y=0
 z:T.z=0
 r:T.r=0
 q:T.q=false
theorem T0.same {T:IQ} {c:List Int} {e0 e1 e2 cK:Int} (h:T0 T c e0 e1 e2 cK):{T with en:=false,x:=0,y:=0,z:=0,r:=0,q:=false}=T:=by obtain⟨bs,rm,dr,code,a0,a1,a2,v,inp,i,j,en,x,y,z,r,q⟩:=T;obtain⟨_,_,_,_,_,_,h1,h2,h3,h4,h5,h6⟩:=h;simp only at h1 h2 h3 h4 h5 h6;simp only[h1,h2,h3,h4,h5,h6]
def Does (f:FuncId) (S:Stp) (I:List (Int×Int)) (R:List (Int×Int×Int)) (e0 e1 e2 cK:Int) (c c':List Int) (en:Bool) (x y z r:Int) (q:Bool):Prop:=
 ∀(W0 w:World) (M C:Nat) (L:Option Nat) (m bt:Nat) (T:IQ),Qg S I R W0 bt T w ⟨M,C,L,m⟩ c→m<999980000→T0 T c e0 e1 e2 cK→
  Calls prog f #[aR bt] w fun e w'=>e=.returned (.tuple #[])∧∃L' m',Qg S I R W0 bt {T with en:=en,x:=x,y:=y,z:=z,r:=r,q:=q} w' ⟨M,C,L',m'⟩ c'∧Alt [bt] w ⟨M,C,L,m⟩ w' ⟨M,C,L',m'⟩ 40
theorem Qg.fin {S:Stp} {I:List (Int×Int)} {R:List (Int×Int×Int)} {W0:World} {bt:Nat} {T:IQ} {w w':World} {M C:Nat} {L L':Option Nat} {m m':Nat} {c c':List Int} {e0 e1 e2 cK:Int} {k:Nat} (h:Qg S I R W0 bt T w ⟨M,C,L,m⟩ c) (t:T0 T c e0 e1 e2 cK) (hm:aD w' ⟨M,C,L',m'⟩ c') (a:Alt [] w ⟨M,C,L,m⟩ w' ⟨M,C,L',m'⟩ k) (hk:k≤40):
  ∃L' m',Qg S I R W0 bt {T with en:=false,x:=0,y:=0,z:=0,r:=0,q:=false} w' ⟨M,C,L',m'⟩ c'∧Alt [bt] w ⟨M,C,L,m⟩ w' ⟨M,C,L',m'⟩ 40:=by rw[t.same];exact⟨_,_,h.step hm a,(a.mono hk).list av⟩
def Xn (c:List Int) (a s pos lo hi r:Int):List Int:=if g_ pos lo hi=pos then cs c a (g_ pos lo hi)else cs (cs c a (g_ pos lo hi)) s (-(eP (cg (cs c a (g_ pos lo hi)) s*r) 1024))
theorem Wp {w:World} {M C:Nat} {L:Option Nat} {m:Nat} {c:List Int} (hm:aD w ⟨M,C,L,m⟩ c) (i:Int) (x:dh w):
  Calls prog 31 #[aR M,ag i] x.out fun e w''=>e=.returned (ag (cg c i))∧∃y:dh w,w''=y.out:=
 (iZ (hm.below x.below) i).mono fun e w' ⟨he,hw⟩=>⟨he,x,hw⟩
theorem JY {a r:Int} (ha: -16384≤a∧a≤16384) (hr:0≤r∧r≤1024):(-9223372036854775806≤a*r∧a*r≤9223372036854775806)∧-16384≤eP (a*r) 1024∧eP (a*r) 1024≤16384:=by have:=d_ (a:=a) (b:=r) (A:=16384) (B:=1024) ha.1 ha.2 ae hr.2;rw[FB _ _ ae];omega
theorem J5 {w:World} {M C:Nat} {L:Option Nat} {m:Nat} {c:List Int} (hm:aD w ⟨M,C,L,m⟩ c) (hr:m<999990000) {bt:Nat} {S:Stp} {T:IQ} (kT:Kb w ⟨M,C,L,m⟩ bt (zi M S T)) (a s pos lo hi:Int) (hrs:0≤S.rest∧S.rest≤1024) (hv: -16384≤cg (cs c a (g_ pos lo hi)) s∧cg (cs c a (g_ pos lo hi)) s≤16384):
  Calls prog 119 #[aR bt,ag a,ag s,ag pos,ag lo,ag hi] w fun e w'=>e=.returned (.tuple #[])∧∃L' m',aD w' ⟨M,C,L',m'⟩ (Xn c a s pos lo hi S.rest)∧Alt [] w ⟨M,C,L,m⟩ w' ⟨M,C,L',m'⟩ 2:=by
 have hA:=Alt.refl [] w ⟨M,C,L,m⟩;have bZ:=kT.bV;have b_:=kT.blk.free;unfold Xn;have lH:=ah (mD pos lo hi);generalize g_ pos lo hi=v at*;have hb:=JY hv hrs;have arQ:=ah (jS fun w=>Fs (cg (cs c a v) s) S.rest w hb.1.1 hb.1.2);generalize eP (cg (cs c a v) s*S.rest) 1024=q at*;obtain⟨_,hq⟩:=hb;by_cases he:v=pos
 ·subst he;rw[if_pos rfl];go_enter func119,ntmps119;go_wp2_with (first|((with_reducible refine(lH.out _).mono ?_);rintro e w1 ⟨rfl,rfl⟩)|(refine mY ?_;clear kT bZ b_ hA hm;intro w1 L1 n1 eD kT bZ b_ hA hm));go_end0;exact⟨rfl,_,_,hm,hA.mono ae⟩
 ·rw[if_neg he];go_enter func119,ntmps119;go_upto_region 3 with(first|((with_reducible refine(lH.out _).mono ?_);rintro e w1 ⟨rfl,rfl⟩)|(refine mY ?_;clear kT bZ b_ hA hm;intro w1 L1 n1 eD kT bZ b_ hA hm));have hmg:=Tryz.Wq M;have hmk:=Tryz.nV M;have Ut:=kT.blk.lt;refine bq 20 aL aL fun NL hL=>?_;obtain⟨dU,dV,hlf⟩:=hL;(try simp only[bf]at dU);simp only[dS];repeat(go_big_quiet_step (first|(with_reducible exact Wp hm _ _)|(with_reducible exact aY (arQ.out _))|(rw[hmk];exact⟨rfl,rfl⟩)))
  (refine wpQuiet_nil ?_;intro w1 iI;obtain⟨⟨w1,aO⟩,rfl⟩:=iI;clear dV hlf dU NL;obtain⟨N1,dA,bW,eu,eF⟩:=eB aO;(try simp only[bf]at dA));exact r9
structure Wk (S:Stp) (T:IQ) (W0 w0:World) (F0:Fp) (bt:Nat) (w:World) (M C:Nat) (L:Option Nat) (m:Nat) (c:List Int) (k:Nat):Prop where
 hm:aD w ⟨M,C,L,m⟩ c
 kT:Kb w ⟨M,C,L,m⟩ bt (zi M S T)
 hs:Sub W0 w ⟨M,C,L,m⟩
 hA:Alt [] w0 F0 w ⟨M,C,L,m⟩ k
 lt:bt<w0.heap.size
 le:W0.heap.size≤w0.heap.size
section
variable {S:Stp} {T:IQ} {W0 w0 w w':World} {F0:Fp} {bt M C m m' k j:Nat} {L L':Option Nat} {c c':List Int}
theorem Qg.wk {I:List (Int×Int)} {R:List (Int×Int×Int)} (h:Qg S I R W0 bt T w ⟨M,C,L,m⟩ c):Wk S T W0 w ⟨M,C,L,m⟩ bt w M C L m c 0:=
 ⟨h.hm,h.kT,h.hs,Alt.refl _ _ _,h.kT.blk.lt,h.hs.jQ.size⟩
theorem Wk.below (h:Wk S T W0 w0 F0 bt w M C L m c k) (hb:aJ w w'):Wk S T W0 w0 F0 bt w' M C L m c k:=⟨h.hm.below hb,h.kT.below hb,h.hs.below hb,h.hA.below hb,h.lt,h.le⟩
theorem Wk.step (h:Wk S T W0 w0 F0 bt w M C L m c k) (hm:aD w' ⟨M,C,L',m'⟩ c') (a:Alt [] w ⟨M,C,L,m⟩ w' ⟨M,C,L',m'⟩ j):Wk S T W0 w0 F0 bt w' M C L' m' c' (k+j):=⟨hm,h.kT.step a,h.hs.step a,h.hA.trans a,h.lt,h.le⟩
theorem Wk.store {b:Nat} {l:List Value} (h:Wk S T W0 w0 F0 bt w M C L m c k) (kb:Kb w ⟨M,C,L,m⟩ b l) (h0:w0.heap.size≤b) (i:Nat) (v:Value):Wk S T W0 w0 F0 bt (w.setCell ⟨b,i,none⟩ v) M C L m c k:=by have hl:=h.lt;have hle:=h.le;exact⟨h.hm.set kb.no v,h.kT.other aX v,h.hs.set aX v,h.hA.set (.inr h0) v,h.lt,h.le⟩
end
theorem Cb.SA {P:Nat} {k f v:Int} (hk:0≤k∧k<P) (hf:0≤f∧f≤3) (h:f≤1→-1≤v∧v≤1):Cb P (48+4*k+f) v:=by have e:(48+4*k+f-48)%4=f:=ae;exact⟨ae,ae,fun _ _ h2=>h ae,fun _=>ae⟩
theorem oF.on {S:Stp} {c c':List Int} (hI:Inv S c) {p i j k f:Int} (hl:c'.length=c.length) (hb:sM S.ak c') (e0:cg c' 0=cg c 0) (e1:cg c' 1=p) (e2:cg c' 2=i) (e3:cg c' 3=j) (e4:cg c' 4=k) (e5:0≤cg c' 5∧cg c' 5≤1024) (e8:cg c' 8=f) (hf:f≤1000)
  (hp:Tv S.ak S.bodies.length S.fuel S.rounds p i j k f) (hm:Kr p i j k f<mu c):oF S c c' false:=
 ⟨fun _=>⟨⟨hl.trans hI.len,hb,ae,e5,by rw[e1,e2,e3,e4,e8];exact hp⟩,by unfold mu at*;rw[e1,e2,e3,e4,e8];exact hm,e0⟩,fun h=>by cases h⟩
def Oz (c:List Int) (cK:Int) (k:Nat):List Int:=if k=0 then cs (cs c 13 cK) 11 0 else c
def Lh (c:List Int) (cK:Int) (k:Nat) (x:Int×Int×Int):List Int:=cs (cs (cs (Oz c cK k) (48+4*k) x.1) (48+4*k+1) x.2.1) (48+4*k+2) x.2.2
def OA (c:List Int) (cK:Int) (k P:Nat) (x:Int×Int×Int):List Int:=if k+1<P then cs (Lh c cK k x) 2 (k+1)else AL (Lh c cK k x) 1 0
theorem V3 {S:Stp} {c:List Int} (hS:mf S) (hI:Inv S c) (h1:cg c 1=0) (cK:Int) {k:Nat} (hk:cg c 2=k) (x:Int×Int×Int) (hx: -1≤x.1∧x.1≤1∧-1≤x.2.1∧x.2.1≤1):oF S c (OA c cK k S.ak x) false:=by
 obtain⟨P1,P8,Pn,n24⟩:=And.intro hS.P1 (And.intro hS.P8 (And.intro hS.Pn hS.n24));have hln:=hI.len;unfold qE at hln;have hp:=hI.ph;have hfu:=hS.fuel;have Zt:k<S.ak:=by unfold Tv at hp;omega
 have b1:sM S.ak (Oz c cK k):=by
  unfold Oz;split
  ·exact(hI.bnd.set (Cb.free ae)).set (Cb.count ae)
  ·exact hI.bnd
 have b2:sM S.ak (Lh c cK k x):=by unfold Lh;have e:=Cb.SA (P:=S.ak) (k:=k) (f:=0) (v:=x.1) ae ae (fun _=>ae);rw[Int.add_zero]at e;exact((b1.set e).set (Cb.SA ae ae (fun _=>ae))).set (Cb.SA ae ae (fun h=>ae))
 have l1:(Oz c cK k).length=c.length:=by unfold Oz;split<;>simp[aT]
 have l2:(Lh c cK k x).length=c.length:=by unfold Lh;simp[aT,l1]
 have g1:∀j:Int,j≠13→j≠11→cg (Oz c cK k) j=cg c j:=by
  intro j h0 h1;unfold Oz;split
  ·rw[aI,if_neg ae,aI,if_neg ae]
  ·rfl
 have g2:∀j:Int,j<48→j≠13→j≠11→cg (Lh c cK k x) j=cg c j:=by intro j h h0 h1;unfold Lh;rw[aI,if_neg ae,aI,if_neg ae,aI,if_neg ae,g1 j h0 h1]
 have hfr:=hI.FW;have eu:=hI.fuel;unfold OA;split
 ·rename_i hlt;refine oF.on hI (p:=0) (i:=k+1) (j:=cg c 3) (k:=cg c 4) (f:=cg c 8) (by rw[aT,l2]) (b2.set (Cb.free ae)) ?_ ?_ ?_ ?_ ?_ ?_ ?_ hI.fuel (.inl ae) ?_
  ·rw[aI,if_neg ae,g2 _ ae ae ae]
  ·rw[aI,if_neg ae,g2 _ ae ae ae,h1]
  ·rw[aI,if_pos (by rw[l2];omega)]
  ·rw[aI,if_neg ae,g2 _ ae ae ae]
  ·rw[aI,if_neg ae,g2 _ ae ae ae]
  ·rw[aI,if_neg ae,g2 _ ae ae ae];exact hfr
  ·rw[aI,if_neg ae,g2 _ ae ae ae]
  ·unfold mu Kr;rw[h1,hk];simp;omega
 ·rename_i hlt;unfold AL;refine oF.on hI (p:=1) (i:=0) (j:=0) (k:=cg c 4) (f:=cg c 8) (by simp[aT,l2]) (((b2.set (Cb.free ae)).set (Cb.free ae)).set (Cb.free ae)) ?_ ?_ ?_ ?_ ?_ ?_ ?_ hI.fuel (.inr (.inl ae)) ?_
  ·rw[aI,if_neg ae,aI,if_neg ae,aI,if_neg ae,g2 _ ae ae ae]
  ·rw[aI,if_neg ae,aI,if_neg ae,aI,if_pos (by rw[l2];omega)]
  ·rw[aI,if_neg ae,aI,if_pos (by rw[aT,l2];omega)]
  ·rw[aI,if_pos (by rw[aT,aT,l2];omega)]
  ·rw[aI,if_neg ae,aI,if_neg ae,aI,if_neg ae,g2 _ ae ae ae]
  ·rw[aI,if_neg ae,aI,if_neg ae,aI,if_neg ae,g2 _ ae ae ae];exact hfr
  ·rw[aI,if_neg ae,aI,if_neg ae,aI,if_neg ae,g2 _ ae ae ae]
  ·unfold mu Kr;rw[h1,hk];simp;omega
theorem ac0 {S:Stp} {c:List Int} (hS:mf S) (hI:Inv S c) (I:List (Int×Int)) (R:List (Int×Int×Int)) (hR:R.length=S.ak) (e0 e1 e2 cK:Int) {k:Nat} (hk:cg c 2=k) (Zt:k<S.ak) (Fq:k=0) (h9:k+1<S.ak) (x:Int×Int×Int) (hx:R[k]?=some x):
  Does 40 S I R e0 e1 e2 cK c (OA c cK k S.ak x) false 0 0 0 0 false:=by have bP:=trivial;exact r_
theorem ac1 {S:Stp} {c:List Int} (hS:mf S) (hI:Inv S c) (I:List (Int×Int)) (R:List (Int×Int×Int)) (hR:R.length=S.ak) (e0 e1 e2 cK:Int) {k:Nat} (hk:cg c 2=k) (Zt:k<S.ak) (Fq:k=0) (h9:¬(k+1<S.ak)) (x:Int×Int×Int) (hx:R[k]?=some x):
  Does 40 S I R e0 e1 e2 cK c (OA c cK k S.ak x) false 0 0 0 0 false:=by have gu:=trivial;exact r_
theorem ac2 {S:Stp} {c:List Int} (hS:mf S) (hI:Inv S c) (I:List (Int×Int)) (R:List (Int×Int×Int)) (hR:R.length=S.ak) (e0 e1 e2 cK:Int) {k:Nat} (hk:cg c 2=k) (Zt:k<S.ak) (Fq:¬(k=0)) (h9:k+1<S.ak) (x:Int×Int×Int) (hx:R[k]?=some x):
  Does 40 S I R e0 e1 e2 cK c (OA c cK k S.ak x) false 0 0 0 0 false:=by have nL:=trivial;exact r_
theorem ac3 {S:Stp} {c:List Int} (hS:mf S) (hI:Inv S c) (I:List (Int×Int)) (R:List (Int×Int×Int)) (hR:R.length=S.ak) (e0 e1 e2 cK:Int) {k:Nat} (hk:cg c 2=k) (Zt:k<S.ak) (Fq:¬(k=0)) (h9:¬(k+1<S.ak)) (x:Int×Int×Int) (hx:R[k]?=some x):
  Does 40 S I R e0 e1 e2 cK c (OA c cK k S.ak x) false 0 0 0 0 false:=by have pq:=trivial;exact r_
theorem Sj {S:Stp} {c:List Int} (hS:mf S) (hI:Inv S c) (I:List (Int×Int)) (R:List (Int×Int×Int)) (hR:R.length=S.ak) (e0 e1 e2 cK:Int) {k:Nat} (hk:cg c 2=k) (Zt:k<S.ak) (x:Int×Int×Int) (hx:R[k]?=some x):
  Does 40 S I R e0 e1 e2 cK c (OA c cK k S.ak x) false 0 0 0 0 false:=by
 by_cases h0:k=0<;>by_cases h9:k+1<S.ak
 ·exact ac0 hS hI I R hR e0 e1 e2 cK hk Zt h0 h9 x hx
 ·exact ac1 hS hI I R hR e0 e1 e2 cK hk Zt h0 h9 x hx
 ·exact ac2 hS hI I R hR e0 e1 e2 cK hk Zt h0 h9 x hx
 ·exact ac3 hS hI I R hR e0 e1 e2 cK hk Zt h0 h9 x hx
variable {S:Stp} {rm dr inp bs:Value} {ac:Option Addr} {nc bY bt M C m k:Nat} {e0 e1 e2 cK i0 xx yy zz rr:Int} {en qq:Bool} {W0 w0 w:World} {F0:Fp} {L:Option Nat} {c:List Int}
theorem agM (hw:Wk S ⟨bs,rm,dr,.slice ac nc bY,e0,e1,e2,cK,inp,i0,0,en,xx,yy,zz,rr,qq⟩ W0 w0 F0 bt w M C L m c k) (hr:m<999981000) (self other:Int):
  Calls prog 78 #[aR bt,ag 0,ag self,ag other] w fun e w'=>e=.returned (.bool (!decide (0≤e0)))∧∃L' m',aD w' ⟨M,C,L',m'⟩ (if 0≤e0 then cs (QN c e0 self other S.fuel) 3 1 else c)∧Alt [] w ⟨M,C,L,m⟩ w' ⟨M,C,L',m'⟩ 6:=by
 have hA:=Alt.refl [] w ⟨M,C,L,m⟩;have hm:=hw.hm;have kT:=hw.kT;clear hw;have bZ:=kT.bV;have b_:=kT.blk.free;have hmk:=Tryz.nV M;have cZ:Calls prog 108 #[iW M,qQ (.slice ac nc bY) e0 e1 e2,ag 0,ag self,ag other,ag S.fuel] w.drew fun e w'=>e=.returned (.bool (decide (0≤e0)))∧∃L' m',aD w' ⟨M,C,L',m'⟩ (if 0≤e0 then QN c e0 self other S.fuel else c)∧Alt [] w.drew ⟨M,C,L,m⟩ w' ⟨M,C,L',m'⟩ 5:=
  QO (hm.below ((aK _ _).drew)) ae ac nc bY e0 e1 e2 self other S.fuel
 by_cases he:0≤e0
 ·rw[if_pos he]at cZ⊢;rw[show decide (0≤e0)=true by simpa using he]at cZ⊢;exact mZ
 ·rw[if_neg he]at cZ⊢;rw[show decide (0≤e0)=false by simpa using he]at cZ⊢;exact mZ
theorem ZC (hw:Wk S ⟨bs,rm,dr,.slice ac nc bY,e0,e1,e2,cK,inp,i0,0,en,xx,yy,zz,rr,qq⟩ W0 w0 F0 bt w M C L m c k) (hr:m<999981000) (self other:Int):
  Calls prog 78 #[aR bt,ag 1,ag self,ag other] w fun e w'=>e=.returned (.bool (!decide (0≤e1)))∧∃L' m',aD w' ⟨M,C,L',m'⟩ (if 0≤e1 then cs (QN c e1 self other S.fuel) 3 1 else c)∧Alt [] w ⟨M,C,L,m⟩ w' ⟨M,C,L',m'⟩ 6:=by
 have hA:=Alt.refl [] w ⟨M,C,L,m⟩;have hm:=hw.hm;have kT:=hw.kT;clear hw;have bZ:=kT.bV;have b_:=kT.blk.free;have hmk:=Tryz.nV M;have cZ:Calls prog 108 #[iW M,qQ (.slice ac nc bY) e0 e1 e2,ag 1,ag self,ag other,ag S.fuel] w.drew fun e w'=>e=.returned (.bool (decide (0≤e1)))∧∃L' m',aD w' ⟨M,C,L',m'⟩ (if 0≤e1 then QN c e1 self other S.fuel else c)∧Alt [] w.drew ⟨M,C,L,m⟩ w' ⟨M,C,L',m'⟩ 5:=
  QP (hm.below ((aK _ _).drew)) ae ac nc bY e0 e1 e2 self other S.fuel
 by_cases he:0≤e1
 ·rw[if_pos he]at cZ⊢;rw[show decide (0≤e1)=true by simpa using he]at cZ⊢;exact mZ
 ·rw[if_neg he]at cZ⊢;rw[show decide (0≤e1)=false by simpa using he]at cZ⊢;exact mZ
theorem agN (hw:Wk S ⟨bs,rm,dr,.slice ac nc bY,e0,e1,e2,cK,inp,i0,0,en,xx,yy,zz,rr,qq⟩ W0 w0 F0 bt w M C L m c k) (hr:m<999981000) (self other:Int):
  Calls prog 78 #[aR bt,ag 2,ag self,ag other] w fun e w'=>e=.returned (.bool (!decide (0≤e2)))∧∃L' m',aD w' ⟨M,C,L',m'⟩ (if 0≤e2 then cs (QN c e2 self other S.fuel) 3 1 else c)∧Alt [] w ⟨M,C,L,m⟩ w' ⟨M,C,L',m'⟩ 6:=by
 have hA:=Alt.refl [] w ⟨M,C,L,m⟩;have hm:=hw.hm;have kT:=hw.kT;clear hw;have bZ:=kT.bV;have b_:=kT.blk.free;have hmk:=Tryz.nV M;have cZ:Calls prog 108 #[iW M,qQ (.slice ac nc bY) e0 e1 e2,ag 2,ag self,ag other,ag S.fuel] w.drew fun e w'=>e=.returned (.bool (decide (0≤e2)))∧∃L' m',aD w' ⟨M,C,L',m'⟩ (if 0≤e2 then QN c e2 self other S.fuel else c)∧Alt [] w.drew ⟨M,C,L,m⟩ w' ⟨M,C,L',m'⟩ 5:=
  QQ (hm.below ((aK _ _).drew)) ae ac nc bY e0 e1 e2 self other S.fuel
 by_cases he:0≤e2
 ·rw[if_pos he]at cZ⊢;rw[show decide (0≤e2)=true by simpa using he]at cZ⊢;exact mZ
 ·rw[if_neg he]at cZ⊢;rw[show decide (0≤e2)=false by simpa using he]at cZ⊢;exact mZ
theorem J4 {ab:Option Addr} {nb a_:Nat} {j0:Int} {c':List Int} (hw:Wk S ⟨.slice ab nb a_,rm,dr,.slice ac nc bY,e0,e1,e2,cK,inp,i0,j0,false,0,0,0,0,false⟩ W0 w0 F0 bt w M C L m c k) (hj:(j0==0)=false) (h self other:Int)
  {x y z r:Int} {q:Bool} (hstep:∀W,aJ w W→Calls prog 109 #[iW M,dR S (.slice ab nb a_) rm dr,qQ (.slice ac nc bY) e0 e1 e2] W fun e w'=>e=.returned (.tuple #[.bool en,jB x y z r,.bool q])∧∃L' m',aD w' ⟨M,C,L',m'⟩ c'∧Alt [] W ⟨M,C,L,m⟩ w' ⟨M,C,L',m'⟩ 8):
  Calls prog 78 #[aR bt,ag h,ag self,ag other] w fun e w'=>e=.returned (.bool en)∧∃L' m',aD w' ⟨M,C,L',m'⟩ c'∧Kb w' ⟨M,C,L',m'⟩ bt (zi M S ⟨.slice ab nb a_,rm,dr,.slice ac nc bY,e0,e1,e2,cK,inp,i0,j0,false,x,y,z,r,q⟩)∧Alt [bt] w ⟨M,C,L,m⟩ w' ⟨M,C,L',m'⟩ 8:=by
 have hA:=Alt.refl [] w ⟨M,C,L,m⟩;have hm:=hw.hm;have kT:=hw.kT;clear hw;have bZ:=kT.bV;have b_:=kT.blk.free;have Ut:=kT.blk.lt;have nP:aJ w w:=aK _ _;have ZF:=ah hstep;clear hstep;go_enter func78,ntmps78;go_upto_region 6 with(fail);refine xz [0,1,2,3,4,5,6,7,8,9,10,11] [] 12 17 [13,14,15,16,18,19,20] [13,14,15,16,17,18,19,20] #[ag 0,ag 0,ag 0,ag 0] 66 aL aL (fun o ho ev w=>by have ho':=bD ho;rw[←ho'];exact rfl) fun NL hL=>?_;obtain⟨dU,dV,hlf⟩:=hL;simp only[jA];repeat(go_big_quiet_step (fail))
 refine wpQuiet_nil ?_;refine wpQuiet_nil ?_;clear dV hlf dU NL;refine⟨?_,?_⟩
 ·skip;go_wp2_with (first|((with_reducible refine(ZF.out _ aG).mono ?_);rintro e w1 ⟨rfl,L1,n1,gp,dG⟩;have eD:=dG.n;simp only at eD;replace kT:=(kT.below aG).step dG;replace bZ:=kT.bV;replace b_:=kT.blk.free;replace hA:=(hA.below aG).trans dG;replace hm:=gp;clear gp dG));refine Qt.fq ?_;go_upto_region 7 with(fail);refine aP fun W hW=>?_;have k4:Kb W ⟨M,C,L1,n1⟩ w1.heap.size [ag x,ag y,ag z,ag r]:=Kb.new hm (aH _) dm;replace kT:=kT.below (w':=W) aM;replace hm:=hm.below (w':=W) aM;replace hA:=hA.below (w:=W) aM;clear hW;exact DZ
 ·obtain⟨b4,lY⟩:∃b4,b4=w.heap.size:=⟨_,rfl⟩
  have k4:Kb (w.alloc (.cells #[ag 0,ag 0,ag 0,ag 0] 66)) ⟨M,C,L,m⟩ b4 [ag 0,ag 0,ag 0,ag 0]:=Kb.new hm ae (aV.new _ _ _ _ lY);have h4:b4≠bt:=ae;have h4':w.heap.size≤b4:=ae;rw[←lY];have Hb4:=ah lY;clear lY;have⟨⟨iw,iB,_⟩,_⟩:=k4;go_wp2_with (first|((with_reducible refine(ZF.out _ aG).mono ?_);rintro e w1 ⟨rfl,L1,n1,gp,dG⟩;have eD:=dG.n;simp only at eD;replace kT:=(kT.below aG).step dG;replace bZ:=kT.bV;replace b_:=kT.blk.free;replace k4:=(k4.below aG).step dG;replace iw:=k4.blk.cell;replace iB:=k4.blk.free;replace hA:=(hA.below aG).trans dG;replace hm:=gp;clear gp dG));refine Qt.fq ?_;go_upto_region 7 with(fail);refine aP fun W hW=>?_;have n4:=k4.no;replace hm:=(((hm.set n4 (p:=⟨b4,0,none⟩) (ag x)).set n4 (p:=⟨b4,1,none⟩) (ag y)).set n4 (p:=⟨b4,2,none⟩) (ag z)).set n4 (p:=⟨b4,3,none⟩) (ag r);replace kT:=(((kT.other (p:=⟨b4,0,none⟩) h4 (ag x)).other (p:=⟨b4,1,none⟩) h4 (ag y)).other (p:=⟨b4,2,none⟩) h4 (ag z)).other (p:=⟨b4,3,none⟩) h4 (ag r);replace hA:=(((hA.set (p:=⟨b4,0,none⟩) (.inr h4') (ag x)).set (p:=⟨b4,1,none⟩) (.inr h4') (ag y)).set (p:=⟨b4,2,none⟩) (.inr h4') (ag z)).set (p:=⟨b4,3,none⟩) (.inr h4') (ag r);replace k4:=(((k4.put 0 (ag x)).put 1 (ag y)).put 2 (ag z)).put 3 (ag r);rw[←hW]at hm kT hA k4;clear hW iw iB bZ b_;simp only[List.set_cons_zero,List.set_cons_succ]at k4;exact DZ
def vL (S:Stp) (p:Int) (N:Nat):Prop:=(p=1∧N=S.ak)∨(p=6∧N=S.bodies.length)
section
variable {S:Stp} {c c1:List Int}
theorem oq (hS:mf S) (hI:Inv S c):(48:Int)≤c.length:=by have:=hI.len;unfold qE at this;omega
theorem Ho (hI:Inv S c) {N:Nat} (hp:vL S (cg c 1) N):0≤cg c 2∧cg c 2≤N∧(cg c 3=0∨(cg c 3=1∧0≤cg c 8∧cg c 8≤S.fuel)):=by have:=hI.ph;unfold Tv at this;unfold vL at hp;omega
theorem Aw (hS:mf S) (hI:Inv S c) {N:Nat} (hp:vL S (cg c 1) N) (hi:cg c 2<N) (hj:cg c 3=0):oF S c (cs c 2 (cg c 2+1)) false:=by
 have hl:=oq hS hI;have hr:=Ho hI hp;have hfr:=hI.FW;refine oF.on hI (p:=cg c 1) (i:=cg c 2+1) (j:=0) (k:=cg c 4) (f:=cg c 8) (by rw[aT]) (hI.bnd.set (Cb.free ae)) ?_ ?_ ?_ ?_ ?_ ?_ ?_ hI.fuel ?_ ?_
 ·rw[aI,if_neg ae]
 ·rw[aI,if_neg ae]
 ·rw[aI,if_pos ae]
 ·rw[aI,if_neg ae,hj]
 ·rw[aI,if_neg ae]
 ·rw[aI,if_neg ae];exact hfr
 ·rw[aI,if_neg ae]
 ·unfold vL at hp;unfold Tv;omega
 ·unfold mu Kr;rw[hj];rcases hp with⟨hp,_⟩|⟨hp,_⟩<;>(rw[hp];simp;omega)
theorem Ox (hS:mf S) (hI:Inv S c) {N:Nat} (hp:vL S (cg c 1) N) (hi:cg c 2=N):oF S c (AL c (cg c 1+1) 0) false:=by
 have hl:=oq hS hI;have hr:=Ho hI hp;have hfr:=hI.FW;have hPn:=hS.Pn;have hP1:=hS.P1;have hP8:=hS.P8;have hn:=hS.n24;have hf:=hI.fuel;unfold AL;refine oF.on hI (p:=cg c 1+1) (i:=0) (j:=0) (k:=cg c 4) (f:=cg c 8) (by simp[aT]) (((hI.bnd.set (Cb.free ae)).set (Cb.free ae)).set (Cb.free ae)) ?_ ?_ ?_ ?_ ?_ ?_ ?_ hI.fuel ?_ ?_
 ·rw[aI,if_neg ae,aI,if_neg ae,aI,if_neg ae]
 ·rw[aI,if_neg ae,aI,if_neg ae,aI,if_pos ae]
 ·rw[aI,if_neg ae,aI,if_pos (by rw[aT];omega)]
 ·rw[aI,if_pos (by rw[aT,aT];omega)]
 ·rw[aI,if_neg ae,aI,if_neg ae,aI,if_neg ae]
 ·rw[aI,if_neg ae,aI,if_neg ae,aI,if_neg ae];exact hfr
 ·rw[aI,if_neg ae,aI,if_neg ae,aI,if_neg ae]
 ·unfold vL at hp;unfold Tv;omega
 ·unfold mu Kr;rcases hp with⟨hp,hN⟩|⟨hp,hN⟩<;>(rw[hp];simp;(repeat' split)<;>omega)
theorem Bi (hS:mf S) (hI:Inv S c) {N:Nat} (hp:vL S (cg c 1) N∨cg c 1=2) (hi:cg c 1≠2→cg c 2<N) (hj:cg c 3=0) (e self other:Int):oF S c (cs (QN c e self other S.fuel) 3 1) false:=by
 have hl:=oq hS hI;have hfr:=hI.FW;have hfu:=hS.fuel;have Bh:=hI.ph;unfold QN;refine oF.on hI (p:=cg c 1) (i:=cg c 2) (j:=1) (k:=cg c 4) (f:=S.fuel) (by simp[aT]) ((((((hI.bnd.set (Cb.free ae)).set ⟨fun _=>ae,ae,ae,ae⟩).set (Cb.free ae)).set (Cb.free ae)).set (Cb.free ae)).set (Cb.free ae)) ?_ ?_ ?_ ?_ ?_ ?_ ?_ ae ?_ ?_
 ·rw[aI,if_neg ae,aI,if_neg ae,aI,if_neg ae,aI,if_neg ae,aI,if_neg ae,aI,if_neg ae]
 ·rw[aI,if_neg ae,aI,if_neg ae,aI,if_neg ae,aI,if_neg ae,aI,if_neg ae,aI,if_neg ae]
 ·rw[aI,if_neg ae,aI,if_neg ae,aI,if_neg ae,aI,if_neg ae,aI,if_neg ae,aI,if_neg ae]
 ·rw[aI,if_pos (by simp only[aT];exact⟨trivial,ae,ae⟩)]
 ·rw[aI,if_neg ae,aI,if_neg ae,aI,if_neg ae,aI,if_neg ae,aI,if_neg ae,aI,if_neg ae]
 ·rw[aI,if_neg ae,aI,if_neg ae,aI,if_neg ae,aI,if_neg ae,aI,if_neg ae,aI,if_neg ae];exact hfr
 ·rw[aI,if_neg ae,aI,if_neg ae,aI,if_neg ae,aI,if_pos (by simp only[aT];exact⟨trivial,ae,ae⟩)]
 ·clear Bh;rcases hp with hp|hp
  ·have hr:=Ho hI hp;rcases hp with⟨hp,hN⟩|⟨hp,hN⟩
   ·exact .inr (.inl ⟨hp,hr.1,ae,.inr ⟨rfl,hfu.1,Int.le_refl _⟩⟩)
   ·exact .inr (.inr (.inr (.inr (.inr (.inr (.inl ⟨hp,hr.1,ae,.inr ⟨rfl,hfu.1,Int.le_refl _⟩⟩))))))
  ·exact .inr (.inr (.inl ⟨hp,.inr ⟨rfl,hfu.1,Int.le_refl _⟩⟩))
 ·unfold mu Kr;clear Bh;rw[hj];rcases hp with(⟨hp,hN⟩|⟨hp,hN⟩)|hp<;>(rw[hp];simp;omega)
theorem Sz (hS:mf S) (hI:Inv S c) {N:Nat} (hp:vL S (cg c 1) N∨cg c 1=2) (hj:cg c 3=1) (hv:Vms S.ak c c1 false):oF S c c1 false:=by
 have hfr:=hI.FW;have hfu:=hS.fuel;have Bh:=hI.ph;have hle:=hv.less rfl;have hf:=hI.fuel;refine oF.on hI (p:=cg c 1) (i:=cg c 2) (j:=1) (k:=cg c 4) (f:=cg c 8-1) hv.len hv.bnd (hv.kept 0 ae) (hv.kept 1 ae) (hv.kept 2 ae) ((hv.kept 3 ae).trans hj) (hv.kept 4 ae) (by rw[hv.kept 5 ae];exact hfr) hle.2 ae ?_ ?_
 ·rcases hp with hp|hp
  ·have hr:=Ho hI hp;clear Bh;rcases hp with⟨hp,hN⟩|⟨hp,hN⟩
   ·exact .inr (.inl ⟨hp,hr.1,ae,.inr ⟨rfl,ae,ae⟩⟩)
   ·exact .inr (.inr (.inr (.inr (.inr (.inr (.inl ⟨hp,hr.1,ae,.inr ⟨rfl,ae,ae⟩⟩))))))
  ·have hr:0≤cg c 8∧cg c 8≤S.fuel:=by unfold Tv at Bh;rw[hp]at Bh;omega
   clear Bh;exact .inr (.inr (.inl ⟨hp,.inr ⟨rfl,ae,ae⟩⟩))
 ·unfold mu Kr;clear Bh;rw[hj];rcases hp with(⟨hp,hN⟩|⟨hp,hN⟩)|hp<;>(rw[hp];simp;omega)
theorem Ur (hS:mf S) (hI:Inv S c) {N:Nat} (hp:vL S (cg c 1) N) (hi:cg c 2<N) (hj:cg c 3=1) (hv:Vms S.ak c c1 true):oF S c (cs (cs c1 3 0) 2 (cg c 2+1)) false:=by
 have hl:=oq hS hI;have Uk:=hv.len;have hr:=Ho hI hp;have hfr:=hI.FW;have hfu:=hv.fuel;have hf:=hI.fuel;refine oF.on hI (p:=cg c 1) (i:=cg c 2+1) (j:=0) (k:=cg c 4) (f:=cg c1 8) (by simp[aT,Uk]) ((hv.bnd.set (Cb.free ae)).set (Cb.free ae)) ?_ ?_ ?_ ?_ ?_ ?_ ?_ ae ?_ ?_
 ·rw[aI,if_neg ae,aI,if_neg ae,hv.kept 0 ae]
 ·rw[aI,if_neg ae,aI,if_neg ae,hv.kept 1 ae]
 ·rw[aI,if_pos (by rw[aT,Uk];omega)]
 ·rw[aI,if_neg ae,aI,if_pos (by rw[Uk];omega)]
 ·rw[aI,if_neg ae,aI,if_neg ae,hv.kept 4 ae]
 ·rw[aI,if_neg ae,aI,if_neg ae,hv.kept 5 ae];exact hfr
 ·rw[aI,if_neg ae,aI,if_neg ae]
 ·unfold vL at hp;unfold Tv;omega
 ·unfold mu Kr;rw[hj];rcases hp with⟨hp,_⟩|⟨hp,_⟩<;>(rw[hp];simp;omega)
theorem Ov (hS:mf S) (hI:Inv S c) (hp:cg c 1=2) (Uk:c1.length=c.length) (hb:sM S.ak c1) (hk:∀i:Int,i≤5→cg c1 i=cg c i) (V6:cg c1 8≤1000):oF S c (AL c1 3 0) false:=by
 have hl:=oq hS hI;have hfr:=hI.FW;have hPn:=hS.Pn;have hP1:=hS.P1;have Bh:=hI.ph;unfold AL;refine oF.on hI (p:=3) (i:=0) (j:=0) (k:=cg c 4) (f:=cg c1 8) (by simp[aT,Uk]) (((hb.set (Cb.free ae)).set (Cb.free ae)).set (Cb.free ae)) ?_ ?_ ?_ ?_ ?_ ?_ ?_ V6 ?_ ?_
 ·rw[aI,if_neg ae,aI,if_neg ae,aI,if_neg ae,hk 0 ae]
 ·rw[aI,if_neg ae,aI,if_neg ae,aI,if_pos ae]
 ·rw[aI,if_neg ae,aI,if_pos (by rw[aT];omega)]
 ·rw[aI,if_pos (by rw[aT,aT];omega)]
 ·rw[aI,if_neg ae,aI,if_neg ae,aI,if_neg ae,hk 4 ae]
 ·rw[aI,if_neg ae,aI,if_neg ae,aI,if_neg ae,hk 5 ae];exact hfr
 ·rw[aI,if_neg ae,aI,if_neg ae,aI,if_neg ae]
 ·unfold Tv;omega
 ·unfold mu Kr;unfold Tv at Bh;rw[hp];simp;split<;>omega
end
end Mc
end Go.Proofs.YtohpdonnpbjfdaaGreatDoor
