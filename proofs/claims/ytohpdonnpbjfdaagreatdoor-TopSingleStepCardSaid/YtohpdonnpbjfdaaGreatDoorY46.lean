/- What is shown: package machine. Conditions: as each theorem states. -/
import Derived.Test.YtohpdonnpbjfdaaGreatDoorY44
set_option maxHeartbeats 40000000
set_option maxRecDepth 100000
set_option linter.unusedVariables false
set_option linter.unusedSimpArgs false
open Go.Proofs.Tryz
namespace Go.Proofs.YtohpdonnpbjfdaaGreatDoor
theorem Ej {P Q:Prop} (q:Q) (h:Q→P:=by intro kk;refine bK 7 (by kernel_rfl) (by kernel_rfl) fun hL=>?_;have dV:=hL.cell;clear hL;simp only[dS];(repeat(go_big_quiet_step (fail)));refine wpQuiet_nil ?_;clear dV;exact kk):P:=h q
theorem El {P Q:Prop} (q:Q) (h:Q→P:=by intro kk;refine bK 11 (by kernel_rfl) (by kernel_rfl) fun hL=>?_;have dV:=hL.cell;clear hL;simp only[dS];(repeat(go_big_quiet_step ((first|(with_reducible exact JZ Hkx.out _)|(rw[hmk];exact⟨rfl,rfl⟩)))));refine wpQuiet_nil ?_;clear dV;exact kk):P:=h q
theorem Em {P Q:Prop} (q:Q) (h:Q→P:=by intro kk;refine bK 11 (by kernel_rfl) (by kernel_rfl) fun hL=>?_;have dV:=hL.cell;clear hL;simp only[dS];(repeat(go_big_quiet_step ((first|(with_reducible exact JZ Hky.out _)|(rw[hmk];exact⟨rfl,rfl⟩)))));refine wpQuiet_nil ?_;clear dV;exact kk):P:=h q
theorem sD {P Q:Prop} (q:Q) (h:RowKit.Hid Q→P:=by first|(intro kk;(with_reducible refine(Gc (hw.hm.below aG) _ _ ae).mono ?_);rintro e w1 ⟨rfl,L1,n1,gp,dG⟩;have eD:=dG.n;simp only at eD;replace k4:=(k4.below aG).step dG;replace iw:=k4.blk.cell;replace iB:=k4.blk.free;replace hw:=(hw.below aG).step gp dG;replace bZ:=hw.kT.bV;replace b_:=hw.kT.blk.free;clear gp dG;revert b_ bZ hw iB iw k4 eD n1 L1 w1;exact kk.out)|fail):P:=h (ah q)
theorem Er {P Q:Prop} (q:Q) (h:RowKit.Hid Q→P:=by first|(intro kk;(with_reducible refine(vQ.out _).mono ?_);rintro e w1 ⟨rfl,aO⟩;replace hw:=hw.below (w':=w1) aG;replace bZ:=hw.kT.bV;replace b_:=hw.kT.blk.free;clear aO;revert b_ bZ hw w1;exact kk.out)|fail):P:=h (ah q)
theorem sF {P Q:Prop} (q:Q) (h:RowKit.Hid Q→P:=by first|(intro kk;(with_reducible refine(amq.out _).mono ?_);rintro e w1 ⟨rfl,aO⟩;replace k4:=k4.below (w':=w1) aG;replace iw:=k4.blk.cell;replace iB:=k4.blk.free;replace hw:=hw.below (w':=w1) aG;replace bZ:=hw.kT.bV;replace b_:=hw.kT.blk.free;clear aO;revert b_ bZ hw iB iw k4 w1;exact kk.out)|fail):P:=h (ah q)
theorem Es {P Q:Prop} (q:Q) (h:RowKit.Hid Q→P:=by first|(intro kk;(with_reducible refine(RU.out _).mono ?_);rintro e w1 ⟨rfl,aO⟩;replace k4:=k4.below (w':=w1) aG;replace iw:=k4.blk.cell;replace iB:=k4.blk.free;replace hw:=hw.below (w':=w1) aG;replace bZ:=hw.kT.bV;replace b_:=hw.kT.blk.free;clear aO;revert b_ bZ hw iB iw k4 w1;exact kk.out)|fail):P:=h (ah q)
theorem Et {P Q:Prop} (q:Q) (h:RowKit.Hid Q→P:=by first|(intro kk;(with_reducible refine(vQ.out _).mono ?_);rintro e w1 ⟨rfl,aO⟩;replace k4:=k4.below (w':=w1) aG;replace iw:=k4.blk.cell;replace iB:=k4.blk.free;replace hw:=hw.below (w':=w1) aG;replace bZ:=hw.kT.bV;replace b_:=hw.kT.blk.free;clear aO;revert b_ bZ hw iB iw k4 w1;exact kk.out)|fail):P:=h (ah q)
theorem OZ {P Q:Prop} (q:Q) (h:RowKit.Hid Q→P:=by first|(intro kk;(with_reducible refine(adj.out _ _ _ _ (hw.below aG)).mono ?_);rintro e w1 ⟨rfl,aO⟩;replace hw:=hw.below (w':=w1) aG;replace bZ:=hw.kT.bV;replace b_:=hw.kT.blk.free;clear aO;revert b_ bZ hw w1;exact kk.out)|fail):P:=h (ah q)
theorem x9 {P Q:Prop} (q:Q) (h:Q→P:=by have hbd:=oG (S.ak:Int) (i:Int) (some ⟨ab,0,none⟩) S.bodies.length a_ (ag S.x0) (ag S.y0) (ag S.x1) (ag S.y1) rm dr (ag S.ou) (ag S.gx) (ag S.gy) (ag S.push) (ag S.eO) (ag S.rest) (ag S.rounds) (ag S.fuel) ae ae;intro kk;revert hbd;exact kk):P:=h q
theorem PI {P Q:Prop} (q:Q) (h:Q→P:=by have pG:=zg (S.ak:Int) (i:Int) (aZ ab S.bodies.length a_) (ag S.x0) (ag S.y0) (ag S.x1) (ag S.y1) rm dr (ag S.ou) (ag S.gx) (ag S.gy) (ag S.push) (ag S.eO) (ag S.rest) (ag S.rounds) (ag S.fuel) ae;intro kk;revert pG;exact kk):P:=h q
theorem Ec {P Q:Prop} (q:Q) (h:Q→P:=by have k3:Kb W _ w1.heap.size [ag px,ag py,ag vx,ag vy,ag B.im]:=Kb.new hw.hm (aH _) dm;intro kk;revert k3;exact kk):P:=h q
theorem Ed {P Q:Prop} (q:Q) (h:Q→P:=by have k4:Kb w1 _ b1 [ag 0,ag 0]:=Kb.new hw.hm lU ⟨fun i=>by rw[ek i];simp,uX,zn⟩;intro kk;revert k4;exact kk):P:=h q
theorem EM {P:Prop} (h:P:=by refine Ej ?_;go_upto_region 11 with(first|(refine Es ?_;clear k4 iw iB hw bZ b_;intro w1 k4 iw iB hw bZ b_));refine aP fun W hW=>?_;replace hw:=hw.store k4 h4 0 (ag sx);replace k4:=k4.put 0 (ag sx);replace hw:=hw.store k4 h4 1 (ag sy);replace k4:=k4.put 1 (ag sy);rw[←hW]at hw k4;clear hW iw iB bZ b_;simp only[List.set_cons_zero,List.set_cons_succ]at k4;have bZ:=hw.kT.bV;have b_:=hw.kT.blk.free;have⟨⟨iw,iB,_⟩,_⟩:=k4;refine dn ?_;go_upto_region 12 with(first|(refine Et ?_;clear k4 iw iB hw bZ b_;intro w1 k4 iw iB hw bZ b_));refine El ?_;go_upto_region 13 with(first|(refine sD ?_;clear k4 iw iB hw bZ b_;intro w1 L1 n1 eD k4 iw iB hw bZ b_));refine Em ?_;go_upto_region 14 with(first|(refine sD ?_;clear k4 iw iB hw bZ b_;intro w1 L1 n1 eD k4 iw iB hw bZ b_));refine dD ?_;go_upto_region 15 with(fail);refine jl ?_;go_wp2_with (first|(refine dz ?_;clear hw bZ b_;intro w1 L1 n1 eD hw bZ b_));refine bodyPost_ret (results_none rfl _ _ _) rfl ?_;exact⟨rfl,_,_,hw.hm,hw.hA.mono ae⟩):P:=h
theorem EN {P:Prop} (h:P:=by refine Ej ?_;go_upto_region 11 with(first|(refine Es ?_;clear k4 iw iB hw bZ b_;intro w1 k4 iw iB hw bZ b_));refine aP fun W hW=>?_;replace hw:=hw.store k4 h4 0 (ag sx);replace k4:=k4.put 0 (ag sx);replace hw:=hw.store k4 h4 1 (ag sy);replace k4:=k4.put 1 (ag sy);rw[←hW]at hw k4;clear hW iw iB bZ b_;simp only[List.set_cons_zero,List.set_cons_succ]at k4;have bZ:=hw.kT.bV;have b_:=hw.kT.blk.free;have⟨⟨iw,iB,_⟩,_⟩:=k4;refine dn ?_;go_upto_region 12 with(first|(refine Et ?_;clear k4 iw iB hw bZ b_;intro w1 k4 iw iB hw bZ b_));refine El ?_;go_upto_region 13 with(first|(refine sD ?_;clear k4 iw iB hw bZ b_;intro w1 L1 n1 eD k4 iw iB hw bZ b_));refine Em ?_;go_upto_region 14 with(first|(refine sD ?_;clear k4 iw iB hw bZ b_;intro w1 L1 n1 eD k4 iw iB hw bZ b_));refine dD ?_;go_wp2_with (first|(refine mX ?_;clear hw bZ b_;intro w1 L1 n1 eD hw bZ b_)|(refine dz ?_;clear hw bZ b_;intro w1 L1 n1 eD hw bZ b_));go_end0;exact⟨rfl,_,_,hw.hm,hw.hA.mono ae⟩):P:=h
theorem su {P:Prop} (h:P:=by refine jl ?_;go_wp2_with (first|(refine dz ?_;clear hw bZ b_;intro w1 L1 n1 eD hw bZ b_));refine bodyPost_ret (results_none rfl _ _ _) rfl ?_;exact⟨rfl,_,_,hw.hm,hw.hA.mono ae⟩):P:=h
theorem yu {P:Prop} (h:P:=by refine dD ?_;go_wp2_with (first|(refine mX ?_;clear hw bZ b_;intro w1 L1 n1 eD hw bZ b_)|(refine dz ?_;clear hw bZ b_;intro w1 L1 n1 eD hw bZ b_));go_end0;exact⟨rfl,_,_,hw.hm,hw.hA.mono ae⟩):P:=h
theorem PY {P:Prop} (h:P:=by have:=vz h.hm h.hs iY P8 n24 h.kT i B hB;rwa[show Jh (cs c ((48+4*(S.ak:Int)+8*(i:Int))+6) 0) S.ak i B.im=.agg #[ag px,ag py,ag vx,ag vy,ag B.im] by unfold Jh;rw[q0,q1,q2,q3]]at this):P:=h
theorem rY {P:Prop} (h:P:=by
 obtain⟨P1,P8,Pn,n24⟩:=And.intro hS.P1 (And.intro hS.P8 (And.intro hS.Pn hS.n24));refine x9 ?_;intro hbd;rw[show vP S.ak S.bodies.length i=48+4*S.ak+8*i by unfold vP;rw[if_pos ae]]at hbd;have hmo:∀(W:World) (L':Option Nat) (m':Nat) (c':List Int) (k':Nat),Wk S ⟨aZ ab S.bodies.length a_,rm,dr,code,e0,e1,e2,cK,inp,i,j0,false,0,0,0,0,false⟩ W0 w ⟨M,C,L,m⟩ bt W M C L' m' c' k'→Calls prog 79 #[aR bt,ag i] W fun e w'=>e=.returned (.bool true)∧w'=W:=fun W L' m' c' k' h=>by have:=oH h.hs iY n24 h.kT i;rwa[hmv]at this
 first
 |(first|(revert bP;intro bP)|(revert nL;intro nL))
  refine ko ?_;intro yo
 |(first|(revert gu;intro gu)|(revert pq;intro pq))
  refine j_ ?_;intro yo
 have hmt:∀(W:World) (L':Option Nat) (m':Nat) (k':Nat),Wk S ⟨aZ ab S.bodies.length a_,rm,dr,code,e0,e1,e2,cK,inp,i,j0,false,0,0,0,0,false⟩ W0 w ⟨M,C,L,m⟩ bt W M C L' m' (cs c ((48+4*(S.ak:Int)+8*(i:Int))+6) 0) k'→Calls prog 80 #[aR bt,ag i] W fun e w'=>e=.returned (.agg #[ag px,ag py,ag vx,ag vy,ag B.im])∧aJ W w':=fun W L' m' k' h=>by exact PY
 have hgx:=hS.gx;have hgy:=hS.gy;have hpu:=hS.push;have hdr:=hS.eO;have dG:=jM vx vy S.gx S.gy ae ae ae ae;obtain⟨ax,hax⟩:∃ax,ax=vx+S.gx:=⟨_,rfl⟩
 obtain⟨ay,Jt⟩:∃ay,ay=vy+S.gy:=⟨_,rfl⟩
 rw[←hax,←Jt]at dG;rw[←hax]at hkx;rw[←Jt]at Ma;have bax: -32768≤ax∧ax≤32768:=ae;have bay: -32768≤ay∧ay≤32768:=ae;clear hax Jt Sv Sw hgx hgy;refine PI ?_;intro pG;first
 |(first|(revert bP;intro bP)|(revert gu;intro gu))
  rw[show WZ S.ak i= -1 by unfold WZ;rw[if_neg ae]]at pG
  have bbx: -49152≤ax∧ax≤49152:=ae
  have bby: -49152≤ay∧ay≤49152:=ae
  have mx:=d_ (a:=ax) (b:=1024-S.eO) (A:=49152) (B:=1024) bbx.1 bbx.2 ae ae
  have my:=d_ (a:=ay) (b:=1024-S.eO) (A:=49152) (B:=1024) bby.1 bby.2 ae ae
  have RU:=ah (pY ax ay (1024-S.eO) ae ae ae ae)
  generalize eP (ax*(1024-S.eO)) 1024=sx at*
  generalize eP (ay*(1024-S.eO)) 1024=sy at*
 |(first|(revert nL;intro nL)|(revert pq;intro pq))
  rw[show WZ S.ak i=48+4*i by unfold WZ;rw[if_pos ae]]at pG
  obtain⟨p,hp⟩:∃p:Int,p=48+4*(i:Int):=⟨_,rfl⟩
  have yP:0≤p:=ae
  have aAw:p≤1000:=ae
  rw[←hp]at pG q4 q5
  clear hp
  have bx:=d_ (a:=dx) (b:=S.push) (A:=1) (B:=16384) Qa.1 Qa.2 ae hpu.2
  have by':=d_ (a:=dy) (b:=S.push) (A:=1) (B:=16384) hdy.1 hdy.2 ae hpu.2
  have ha2:=jM ax ay (dx*S.push) (dy*S.push) ae ae ae ae
  obtain⟨bx2,hbx⟩:∃bx,bx=ax+dx*S.push:=⟨_,rfl⟩
  obtain⟨by2,hby⟩:∃bx,bx=ay+dy*S.push:=⟨_,rfl⟩
  rw[←hbx,←hby]at ha2
  rw[←hbx]at hkx
  rw[←hby]at Ma
  have bbx: -49152≤bx2∧bx2≤49152:=ae
  have bby: -49152≤by2∧by2≤49152:=ae
  clear hbx hby Qa hdy
  have mx:=d_ (a:=bx2) (b:=1024-S.eO) (A:=49152) (B:=1024) bbx.1 bbx.2 ae ae
  have my:=d_ (a:=by2) (b:=1024-S.eO) (A:=49152) (B:=1024) bby.1 bby.2 ae ae
  have RU:=ah (pY bx2 by2 (1024-S.eO) ae ae ae ae)
  generalize eP (bx2*(1024-S.eO)) 1024=sx at*
  generalize eP (by2*(1024-S.eO)) 1024=sy at*
 clear mx my bbx bby;obtain⟨f,hf⟩:∃f:Int,f=48+4*(S.ak:Int)+8*(i:Int):=⟨_,rfl⟩
 have hf0:0≤f:=ae;have eu:f≤1000:=ae;first
 |(first|(revert bP;intro bP)|(revert gu;intro gu))
  rw[←hf]at hbd⊢
 |(first|(revert nL;intro nL)|(revert pq;intro pq))
  rw[←hf]at hbd q4 q5⊢
 simp only[←hf]at hmt;clear hf hS;generalize S.bodies.length=nb at*;have bZ:=hw.kT.bV;have b_:=hw.kT.blk.free;have hmk:=Tryz.nV M;have hmg:=Tryz.Wq M;first
 |(first|(revert bP;intro bP)|(revert gu;intro gu))
  have vQ:=ah hbd;have Ff:=ah hmo;have adj:=ah hmt;have amB:=ah dG;have amq:=ah pG;clear hbd hmo hmt dG pG
 |(first|(revert nL;intro nL)|(revert pq;intro pq))
  have vQ:=ah hbd;have Ff:=ah hmo;have adj:=ah hmt;have amB:=ah dG;have amq:=ah pG;have amC:=ah ha2;clear hbd hmo hmt dG pG ha2
  have Hq4:=ah q4
  have Hq5:=ah q5
  clear q4 q5
 have Hkx:=ah hkx;have Hky:=ah Ma;clear hkx Ma q0 q1 q2 q3;go_enter func43,ntmps43;go_upto_region 0 with(fail);refine dn ?_;go_upto_region 5 with(first|(refine Er ?_;clear hw bZ b_;intro w1 hw bZ b_)|((with_reducible refine(Ff.out _ _ _ _ _ (hw.below aG)).mono ?_);rintro e w1 ⟨rfl,rfl⟩)|(refine OZ ?_;clear hw bZ b_;intro w1 hw bZ b_)|(refine dz ?_;clear hw bZ b_;intro w1 L1 n1 eD hw bZ b_));refine aP fun W hW=>?_;refine Ec ?_;intro k3;replace hw:=hw.below (w':=W) aM;replace bZ:=hw.kT.bV;replace b_:=hw.kT.blk.free;clear hW;have⟨⟨Ic,Bz,_⟩,_⟩:=k3;have Ut:=hw.kT.blk.lt;have lt3:=k3.blk.lt;have sJ:=hw.hA.size;refine fF 8 4 #[ag 0,ag 0] 29 rfl aL aL (fun o ho ev w=>by have ho':=bD ho;rw[←ho'];exact rfl) fun NL hL=>?_;obtain⟨dU,dV,hlf⟩:=hL;(try simp only[bf]at dU);simp only[dS];repeat((refine kI (fun K hK=>?_);go_simp;(repeat(simp only[↓IntWalk.iteOmega];(try go_simp))));first|(refine hK _ ?_;clear hK K)|(apply Exists.intro;refine⟨fun x=>?_,hK _ ?_⟩;(first|(with_reducible exact kJ (amB.out _)));clear hK K))
 (refine jq ?_;intro b1 w1 aO ek uX lU zn;(try simp only[bf]at lU);clear dV hlf dU NL;obtain⟨N1,dA,bW,eu,eF⟩:=eB aO;(try simp only[bf]at dA));refine Ed ?_;intro k4;have h4:w.heap.size≤b1:=aS sJ lU;replace hw:=hw.below aO;replace bZ:=hw.kT.bV;replace b_:=hw.kT.blk.free;clear ek uX aO bW eu eF dA N1 k3 Ic Bz Ut lt3 sJ lU zn;have⟨⟨iw,iB,_⟩,_⟩:=k4;simp only[Act.put,dH];go_upto_region 6 with(fail);refine aP fun W hW=>?_;replace hw:=hw.store k4 h4 0 (ag ax);replace k4:=k4.put 0 (ag ax);replace hw:=hw.store k4 h4 1 (ag ay);replace k4:=k4.put 1 (ag ay);rw[←hW]at hw k4;clear hW iw iB bZ b_;simp only[List.set_cons_zero,List.set_cons_succ]at k4;have bZ:=hw.kT.bV;have b_:=hw.kT.blk.free;have⟨⟨iw,iB,_⟩,_⟩:=k4;refine dn ?_;first
 |revert bP;intro bP
  go_upto_region 10 with(first|(refine sF ?_;clear k4 iw iB hw bZ b_;intro w1 k4 iw iB hw bZ b_))
  exact EM
 |revert gu;intro gu
  go_upto_region 10 with(first|(refine sF ?_;clear k4 iw iB hw bZ b_;intro w1 k4 iw iB hw bZ b_))
  exact EN
 |revert nL;intro nL
  go_upto_region 8 with(first|(refine sF ?_;clear k4 iw iB hw bZ b_;intro w1 k4 iw iB hw bZ b_))
  have og4:=fun x=>si hw.hm p x
  rw[Hq4.out]at og4
  have og5:=fun x=>si hw.hm (p+1) x
  rw[Hq5.out]at og5
  have aai:=ah og4;have aaj:=ah og5;clear og4 og5
  refine bK 14 aL aL fun hL=>?_;have dV:=hL.cell;clear hL;simp only[dS];(repeat(go_big_quiet_step ((first|(with_reducible exact aai.out _)|(with_reducible exact aaj.out _)))));refine wpQuiet_nil ?_;clear dV
  go_upto_region 9 with(fail)
  clear aai aaj
  refine yh ?_
  go_upto_region 10 with(first|((with_reducible refine(amC.out _).mono ?_);rintro e w1 ⟨rfl,aO⟩;replace k4:=k4.below (w':=w1) aG;replace iw:=k4.blk.cell;replace iB:=k4.blk.free;replace hw:=hw.below (w':=w1) aG;replace bZ:=hw.kT.bV;replace b_:=hw.kT.blk.free;clear aO))
  refine aP fun W hW=>?_
  replace hw:=hw.store k4 h4 0 (ag bx2)
  replace k4:=k4.put 0 (ag bx2)
  replace hw:=hw.store k4 h4 1 (ag by2)
  replace k4:=k4.put 1 (ag by2)
  rw[←hW]at hw k4
  clear hW iw iB bZ b_
  simp only[List.set_cons_zero,List.set_cons_succ]at k4
  have bZ:=hw.kT.bV
  have b_:=hw.kT.blk.free
  have⟨⟨iw,iB,_⟩,_⟩:=k4
  exact EM
 |revert pq;intro pq
  go_upto_region 8 with(first|(refine sF ?_;clear k4 iw iB hw bZ b_;intro w1 k4 iw iB hw bZ b_))
  have og4:=fun x=>si hw.hm p x
  rw[Hq4.out]at og4
  have og5:=fun x=>si hw.hm (p+1) x
  rw[Hq5.out]at og5
  have aai:=ah og4;have aaj:=ah og5;clear og4 og5
  refine bK 14 aL aL fun hL=>?_;have dV:=hL.cell;clear hL;simp only[dS];(repeat(go_big_quiet_step ((first|(with_reducible exact aai.out _)|(with_reducible exact aaj.out _)))));refine wpQuiet_nil ?_;clear dV
  go_upto_region 9 with(fail)
  clear aai aaj
  refine yh ?_
  go_upto_region 10 with(first|((with_reducible refine(amC.out _).mono ?_);rintro e w1 ⟨rfl,aO⟩;replace k4:=k4.below (w':=w1) aG;replace iw:=k4.blk.cell;replace iB:=k4.blk.free;replace hw:=hw.below (w':=w1) aG;replace bZ:=hw.kT.bV;replace b_:=hw.kT.blk.free;clear aO))
  refine aP fun W hW=>?_
  replace hw:=hw.store k4 h4 0 (ag bx2)
  replace k4:=k4.put 0 (ag bx2)
  replace hw:=hw.store k4 h4 1 (ag by2)
  replace k4:=k4.put 1 (ag by2)
  rw[←hW]at hw k4
  clear hW iw iB bZ b_
  simp only[List.set_cons_zero,List.set_cons_succ]at k4
  have bZ:=hw.kT.bV
  have b_:=hw.kT.blk.free
  have⟨⟨iw,iB,_⟩,_⟩:=k4
  exact EN):P:=h
theorem DV {P:Prop} (h:P:=by
 obtain⟨P1,P8,Pn,n24⟩:=And.intro hS.P1 (And.intro hS.P8 (And.intro hS.Pn hS.n24));refine x9 ?_;intro hbd;rw[show vP S.ak S.bodies.length i=48+4*S.ak+8*i by unfold vP;rw[if_pos ae]]at hbd;have hmo:∀(W:World) (L':Option Nat) (m':Nat) (c':List Int) (k':Nat),Wk S ⟨aZ ab S.bodies.length a_,rm,dr,code,e0,e1,e2,cK,inp,i,j0,false,0,0,0,0,false⟩ W0 w ⟨M,C,L,m⟩ bt W M C L' m' c' k'→Calls prog 79 #[aR bt,ag i] W fun e w'=>e=.returned (.bool false)∧w'=W:=fun W L' m' c' k' h=>by have:=oH h.hs iY n24 h.kT i;rwa[hmv]at this
 first
 |revert bP;intro bP
  refine ko ?_;intro yo
 |revert gu;intro gu
  refine j_ ?_;intro yo
 obtain⟨f,hf⟩:∃f:Int,f=48+4*(S.ak:Int)+8*(i:Int):=⟨_,rfl⟩
 have hf0:0≤f:=ae;have eu:f≤1000:=ae;rw[←hf]at hbd⊢;clear hf hS;generalize S.bodies.length=nb at*;have bZ:=hw.kT.bV;have b_:=hw.kT.blk.free;have hmk:=Tryz.nV M;have hmg:=Tryz.Wq M;have vQ:=ah hbd;have Ff:=ah hmo;clear hbd hmo;go_enter func43,ntmps43;go_upto_region 0 with(fail);refine dn ?_;go_wp2_with (first|(refine Er ?_;clear hw bZ b_;intro w1 hw bZ b_)|((with_reducible refine(Ff.out _ _ _ _ _ (hw.below aG)).mono ?_);rintro e w1 ⟨rfl,rfl⟩)|(refine dz ?_;clear hw bZ b_;intro w1 L1 n1 eD hw bZ b_));first
 |revert bP;intro bP
  refine dD ?_
  go_upto_region 15 with(fail)
  exact su
 |revert gu;intro gu
  exact yu):P:=h
namespace Mc
open Go.RowKit aN fO Qt Ro Bk Ce La Ha In Vm Ve
attribute [local go_sem] Oper.semAt_some
variable {w W0:World} {S:Stp} {rm dr inp code:Value} {ab a_ bt M C m i:Nat} {e0 e1 e2 cK j0:Int} {L:Option Nat} {c:List Int}
theorem JZ {n lo hi v:Int} (h:g_ n lo hi=v) (x:One w):Calls prog 83 #[ag n,ag lo,ag hi] x.out fun e w''=>e=.returned (ag v)∧∃y:One w,w''=y.out:=by subst h;exact(mD n lo hi x.out).mono fun e w' ⟨he,hw⟩=>⟨he,x,hw.symm⟩
theorem Wj (hS:mf S) (hw:Wk S ⟨aZ ab S.bodies.length a_,rm,dr,code,e0,e1,e2,cK,inp,i,j0,false,0,0,0,0,false⟩ W0 w ⟨M,C,L,m⟩ bt w M C L m c 0) (iY:fP W0 S (aZ ab S.bodies.length a_) rm dr) (hi:i<S.bodies.length) (him:i+1<S.bodies.length) (hr:m<999980000) (hmv:IU S i=false):
  Calls prog 43 #[aR bt] w fun e w'=>e=.returned (.tuple #[])∧∃L' m',aD w' ⟨M,C,L',m'⟩ (cs (cs c ((48+4*(S.ak:Int)+8*(i:Int))+6) 0) 2 (i+1))∧Alt [] w ⟨M,C,L,m⟩ w' ⟨M,C,L',m'⟩ 9:=by have bP:=trivial;exact DV
theorem Wl (hS:mf S) (hw:Wk S ⟨aZ ab S.bodies.length a_,rm,dr,code,e0,e1,e2,cK,inp,i,j0,false,0,0,0,0,false⟩ W0 w ⟨M,C,L,m⟩ bt w M C L m c 0) (iY:fP W0 S (aZ ab S.bodies.length a_) rm dr) (hi:i<S.bodies.length) (him:¬(i+1<S.bodies.length)) (hr:m<999980000) (hmv:IU S i=false):
  Calls prog 43 #[aR bt] w fun e w'=>e=.returned (.tuple #[])∧∃L' m',aD w' ⟨M,C,L',m'⟩ (cs (AL (cs c ((48+4*(S.ak:Int)+8*(i:Int))+6) 0) 4 1) 4 0)∧Alt [] w ⟨M,C,L,m⟩ w' ⟨M,C,L',m'⟩ 9:=by have gu:=trivial;exact DV
variable {e0 e1 e2 cK j0 px py vx vy kx ky dx dy:Int} {W0 w:World} {B:yx}
theorem V_ (hS:mf S) (hw:Wk S ⟨aZ ab S.bodies.length a_,rm,dr,code,e0,e1,e2,cK,inp,i,j0,false,0,0,0,0,false⟩ W0 w ⟨M,C,L,m⟩ bt w M C L m c 0) (iY:fP W0 S (aZ ab S.bodies.length a_) rm dr) (hi:i<S.bodies.length) (him:i+1<S.bodies.length) (hr:m<999980000) (hmv:IU S i=true) (hB:S.bodies[i]?=some B) (q0:cg (cs c ((48+4*(S.ak:Int)+8*(i:Int))+6) 0) (48+4*(S.ak:Int)+8*(i:Int))=px) (q1:cg (cs c ((48+4*(S.ak:Int)+8*(i:Int))+6) 0) ((48+4*(S.ak:Int)+8*(i:Int))+1)=py) (q2:cg (cs c ((48+4*(S.ak:Int)+8*(i:Int))+6) 0) ((48+4*(S.ak:Int)+8*(i:Int))+2)=vx) (q3:cg (cs c ((48+4*(S.ak:Int)+8*(i:Int))+6) 0) ((48+4*(S.ak:Int)+8*(i:Int))+3)=vy) (Sv: -16384≤vx∧vx≤16384) (Sw: -16384≤vy∧vy≤16384) (hpl:i<S.ak) (q4:cg (cs c ((48+4*(S.ak:Int)+8*(i:Int))+6) 0) (48+4*(i:Int))=dx) (q5:cg (cs c ((48+4*(S.ak:Int)+8*(i:Int))+6) 0) (48+4*(i:Int)+1)=dy) (Qa: -1≤dx∧dx≤1) (hdy: -1≤dy∧dy≤1) (hkx:g_ (eP ((vx+S.gx+dx*S.push)*(1024-S.eO)) 1024) (-16384) 16384=kx) (Ma:g_ (eP ((vy+S.gy+dy*S.push)*(1024-S.eO)) 1024) (-16384) 16384=ky):
  Calls prog 43 #[aR bt] w fun e w'=>e=.returned (.tuple #[])∧∃L' m',aD w' ⟨M,C,L',m'⟩ (cs (cs (cs (cs c ((48+4*(S.ak:Int)+8*(i:Int))+6) 0) ((48+4*(S.ak:Int)+8*(i:Int))+2) kx) ((48+4*(S.ak:Int)+8*(i:Int))+3) ky) 2 (i+1))∧Alt [] w ⟨M,C,L,m⟩ w' ⟨M,C,L',m'⟩ 9:=by have nL:=trivial;exact rY
theorem Wd (hS:mf S) (hw:Wk S ⟨aZ ab S.bodies.length a_,rm,dr,code,e0,e1,e2,cK,inp,i,j0,false,0,0,0,0,false⟩ W0 w ⟨M,C,L,m⟩ bt w M C L m c 0) (iY:fP W0 S (aZ ab S.bodies.length a_) rm dr) (hi:i<S.bodies.length) (him:¬(i+1<S.bodies.length)) (hr:m<999980000) (hmv:IU S i=true) (hB:S.bodies[i]?=some B) (q0:cg (cs c ((48+4*(S.ak:Int)+8*(i:Int))+6) 0) (48+4*(S.ak:Int)+8*(i:Int))=px) (q1:cg (cs c ((48+4*(S.ak:Int)+8*(i:Int))+6) 0) ((48+4*(S.ak:Int)+8*(i:Int))+1)=py) (q2:cg (cs c ((48+4*(S.ak:Int)+8*(i:Int))+6) 0) ((48+4*(S.ak:Int)+8*(i:Int))+2)=vx) (q3:cg (cs c ((48+4*(S.ak:Int)+8*(i:Int))+6) 0) ((48+4*(S.ak:Int)+8*(i:Int))+3)=vy) (Sv: -16384≤vx∧vx≤16384) (Sw: -16384≤vy∧vy≤16384) (hpl:i<S.ak) (q4:cg (cs c ((48+4*(S.ak:Int)+8*(i:Int))+6) 0) (48+4*(i:Int))=dx) (q5:cg (cs c ((48+4*(S.ak:Int)+8*(i:Int))+6) 0) (48+4*(i:Int)+1)=dy) (Qa: -1≤dx∧dx≤1) (hdy: -1≤dy∧dy≤1) (hkx:g_ (eP ((vx+S.gx+dx*S.push)*(1024-S.eO)) 1024) (-16384) 16384=kx) (Ma:g_ (eP ((vy+S.gy+dy*S.push)*(1024-S.eO)) 1024) (-16384) 16384=ky):
  Calls prog 43 #[aR bt] w fun e w'=>e=.returned (.tuple #[])∧∃L' m',aD w' ⟨M,C,L',m'⟩ (cs (AL (cs (cs (cs c ((48+4*(S.ak:Int)+8*(i:Int))+6) 0) ((48+4*(S.ak:Int)+8*(i:Int))+2) kx) ((48+4*(S.ak:Int)+8*(i:Int))+3) ky) 4 1) 4 0)∧Alt [] w ⟨M,C,L,m⟩ w' ⟨M,C,L',m'⟩ 9:=by have pq:=trivial;exact rY
variable {e0 e1 e2 cK j0 px py vx vy kx ky:Int}
theorem We (hS:mf S) (hw:Wk S ⟨aZ ab S.bodies.length a_,rm,dr,code,e0,e1,e2,cK,inp,i,j0,false,0,0,0,0,false⟩ W0 w ⟨M,C,L,m⟩ bt w M C L m c 0) (iY:fP W0 S (aZ ab S.bodies.length a_) rm dr) (hi:i<S.bodies.length) (him:i+1<S.bodies.length) (hr:m<999980000) (hmv:IU S i=true) (hB:S.bodies[i]?=some B) (q0:cg (cs c ((48+4*(S.ak:Int)+8*(i:Int))+6) 0) (48+4*(S.ak:Int)+8*(i:Int))=px) (q1:cg (cs c ((48+4*(S.ak:Int)+8*(i:Int))+6) 0) ((48+4*(S.ak:Int)+8*(i:Int))+1)=py) (q2:cg (cs c ((48+4*(S.ak:Int)+8*(i:Int))+6) 0) ((48+4*(S.ak:Int)+8*(i:Int))+2)=vx) (q3:cg (cs c ((48+4*(S.ak:Int)+8*(i:Int))+6) 0) ((48+4*(S.ak:Int)+8*(i:Int))+3)=vy) (Sv: -16384≤vx∧vx≤16384) (Sw: -16384≤vy∧vy≤16384) (hpl:¬i<S.ak) (hkx:g_ (eP ((vx+S.gx)*(1024-S.eO)) 1024) (-16384) 16384=kx) (Ma:g_ (eP ((vy+S.gy)*(1024-S.eO)) 1024) (-16384) 16384=ky):
  Calls prog 43 #[aR bt] w fun e w'=>e=.returned (.tuple #[])∧∃L' m',aD w' ⟨M,C,L',m'⟩ (cs (cs (cs (cs c ((48+4*(S.ak:Int)+8*(i:Int))+6) 0) ((48+4*(S.ak:Int)+8*(i:Int))+2) kx) ((48+4*(S.ak:Int)+8*(i:Int))+3) ky) 2 (i+1))∧Alt [] w ⟨M,C,L,m⟩ w' ⟨M,C,L',m'⟩ 9:=by have bP:=trivial;exact rY
theorem Wi (hS:mf S) (hw:Wk S ⟨aZ ab S.bodies.length a_,rm,dr,code,e0,e1,e2,cK,inp,i,j0,false,0,0,0,0,false⟩ W0 w ⟨M,C,L,m⟩ bt w M C L m c 0) (iY:fP W0 S (aZ ab S.bodies.length a_) rm dr) (hi:i<S.bodies.length) (him:¬(i+1<S.bodies.length)) (hr:m<999980000) (hmv:IU S i=true) (hB:S.bodies[i]?=some B) (q0:cg (cs c ((48+4*(S.ak:Int)+8*(i:Int))+6) 0) (48+4*(S.ak:Int)+8*(i:Int))=px) (q1:cg (cs c ((48+4*(S.ak:Int)+8*(i:Int))+6) 0) ((48+4*(S.ak:Int)+8*(i:Int))+1)=py) (q2:cg (cs c ((48+4*(S.ak:Int)+8*(i:Int))+6) 0) ((48+4*(S.ak:Int)+8*(i:Int))+2)=vx) (q3:cg (cs c ((48+4*(S.ak:Int)+8*(i:Int))+6) 0) ((48+4*(S.ak:Int)+8*(i:Int))+3)=vy) (Sv: -16384≤vx∧vx≤16384) (Sw: -16384≤vy∧vy≤16384) (hpl:¬i<S.ak) (hkx:g_ (eP ((vx+S.gx)*(1024-S.eO)) 1024) (-16384) 16384=kx) (Ma:g_ (eP ((vy+S.gy)*(1024-S.eO)) 1024) (-16384) 16384=ky):
  Calls prog 43 #[aR bt] w fun e w'=>e=.returned (.tuple #[])∧∃L' m',aD w' ⟨M,C,L',m'⟩ (cs (AL (cs (cs (cs c ((48+4*(S.ak:Int)+8*(i:Int))+6) 0) ((48+4*(S.ak:Int)+8*(i:Int))+2) kx) ((48+4*(S.ak:Int)+8*(i:Int))+3) ky) 4 1) 4 0)∧Alt [] w ⟨M,C,L,m⟩ w' ⟨M,C,L',m'⟩ 9:=by have gu:=trivial;exact rY
theorem G_ (n lo hi:Int) (h:lo≤hi):lo≤g_ n lo hi∧g_ n lo hi≤hi:=by unfold g_;split<;>(try split)<;>omega
theorem Zu {S:Stp} (hS:mf S) {c:List Int} (hI:Inv S c) (h1:cg c 1=3) (I:List (Int×Int)) (R:List (Int×Int×Int)) (e0 e1 e2 cK:Int):
  ∃c',oF S c c' false∧Does 43 S I R e0 e1 e2 cK c c' false 0 0 0 0 false:=by
 have Bh:=hI.ph;have Uy:0≤cg c 2∧cg c 2<S.bodies.length:=o7;clear Bh;obtain⟨k,hk⟩:∃k:Nat,cg c 2=k:=⟨(cg c 2).toNat,ae⟩
 have hlt:k<S.bodies.length:=ae;have hln:=hI.len;unfold qE at hln;have hfr:=hI.FW;have V6:=hI.fuel;have n24:=hS.n24;have P8:=hS.P8;have P1:=hS.P1;obtain⟨f,hf⟩:∃f:Int,f=48+4*(S.ak:Int)+8*(k:Int):=⟨_,rfl⟩
 have hfin:∀c2:List Int,c2.length=c.length→sM S.ak c2→(∀j:Int,j<48→cg c2 j=cg c j)→(k+1<S.bodies.length→oF S c (cs c2 2 (k+1)) false)∧(¬(k+1<S.bodies.length)→oF S c (cs (AL c2 4 1) 4 0) false):=by
  intro c2 hl hb hg;constructor
  ·intro hm;refine oF.on hI (p:=3) (i:=k+1) (j:=cg c 3) (k:=cg c 4) (f:=cg c 8) (by rw[aT,hl]) (hb.set (Cb.free ae)) ?_ ?_ ?_ ?_ ?_ ?_ ?_ V6 ?_ ?_
   ·rw[aI,if_neg ae,hg _ ae]
   ·rw[aI,if_neg ae,hg _ ae,h1]
   ·rw[aI,if_pos (by rw[hl];omega)]
   ·rw[aI,if_neg ae,hg _ ae]
   ·rw[aI,if_neg ae,hg _ ae]
   ·rw[aI,if_neg ae,hg _ ae];exact hfr
   ·rw[aI,if_neg ae,hg _ ae]
   ·exact .inr (.inr (.inr (.inl ⟨rfl,ae,ae⟩)))
   ·unfold mu Kr;rw[h1,hk];simp;omega
  ·intro hm;unfold AL;refine oF.on hI (p:=4) (i:=0) (j:=1) (k:=0) (f:=cg c 8) (by simp[aT,hl]) ((((hb.set (Cb.free ae)).set (Cb.free ae)).set (Cb.free ae)).set (Cb.free ae)) ?_ ?_ ?_ ?_ ?_ ?_ ?_ V6 ?_ ?_
   ·rw[aI,if_neg ae,aI,if_neg ae,aI,if_neg ae,aI,if_neg ae,hg _ ae]
   ·rw[aI,if_neg ae,aI,if_neg ae,aI,if_neg ae,aI,if_pos (by rw[hl];omega)]
   ·rw[aI,if_neg ae,aI,if_neg ae,aI,if_pos (by rw[aT,hl];omega)]
   ·rw[aI,if_neg ae,aI,if_pos (by rw[aT,aT,hl];omega)]
   ·rw[aI,if_pos (by rw[aT,aT,aT,hl];omega)]
   ·rw[aI,if_neg ae,aI,if_neg ae,aI,if_neg ae,aI,if_neg ae,hg _ ae];exact hfr
   ·rw[aI,if_neg ae,aI,if_neg ae,aI,if_neg ae,aI,if_neg ae,hg _ ae]
   ·have:=hS.rounds;exact .inr (.inr (.inr (.inr (.inl ⟨rfl,ae,ae,ae,ae,ae,ae⟩))))
   ·unfold mu Kr;rw[h1,hk];simp;omega
 have c1l:(cs c (f+6) 0).length=c.length:=by rw[aT]
 have V9:sM S.ak (cs c (f+6) 0):=by rw[hf];exact hI.bnd.set (Cb.body ae ae ae ae)
 have Uo:∀j:Int,j<48→cg (cs c (f+6) 0) j=cg c j:=fun j hj=>by rw[aI,if_neg ae]
 have iC:∀{c':List Int},oF S c c' false→(∀{rm dr inp code:Value} {ab a_:Nat} {W0 w:World} {M C:Nat} {L:Option Nat} {m bt:Nat} {j0:Int},Wk S ⟨aZ ab S.bodies.length a_,rm,dr,code,e0,e1,e2,cK,inp,k,j0,false,0,0,0,0,false⟩ W0 w ⟨M,C,L,m⟩ bt w M C L m c 0→fP W0 S (aZ ab S.bodies.length a_) rm dr→m<999980000→
     Calls prog 43 #[aR bt] w fun e w'=>e=.returned (.tuple #[])∧∃L' m',aD w' ⟨M,C,L',m'⟩ c'∧Alt [] w ⟨M,C,L,m⟩ w' ⟨M,C,L',m'⟩ 9)→
     ∃c',oF S c c' false∧Does 43 S I R e0 e1 e2 cK c c' false 0 0 0 0 false:=by
  intro c' htr hfo
  refine⟨c',htr,?_⟩
  intro W0 w M C L m bt T h hr t
  obtain⟨ab,a_,hbs,_⟩:=h.hS.bodies
  have h':=h
  have t':=t
  obtain⟨bs,rm,dr,code,a0,a1,a2,v,inp,i,j,en',xx,yy,zz,rr,qq⟩:=T
  obtain⟨g0,g1,g2,g3,g4,g5,g6,g7,g8,g9,g10,g11⟩:=t
  simp only at g0 g1 g2 g3 g4 g5 g6 g7 g8 g9 g10 g11 hbs
  rw[hk]at g4
  subst g0 g1 g2 g3 g4 g6 g7 g8 g9 g10 g11 hbs
  refine(hfo h.wk h.hS hr).mono ?_
  rintro e w' ⟨rfl,L',m',hm,hA⟩
  exact⟨rfl,h'.fin t' hm hA ae⟩
 by_cases hmv:IU S k=true
 ·obtain⟨B,hB⟩:∃B,S.bodies[k]?=some B:=⟨_,ik hlt⟩
  have Sv:=V9.X9 (k:=k) (f:=2) ae ae;have Sw:=V9.X9 (k:=k) (f:=3) ae ae;have key:∀kx ky:Int,-16384≤kx∧kx≤16384→-16384≤ky∧ky≤16384→(cs (cs (cs c (f+6) 0) (f+2) kx) (f+3) ky).length=c.length∧sM S.ak (cs (cs (cs c (f+6) 0) (f+2) kx) (f+3) ky)∧∀j:Int,j<48→cg (cs (cs (cs c (f+6) 0) (f+2) kx) (f+3) ky) j=cg c j:=by intro kx ky hx hy;refine⟨by simp[aT],?_,fun j hj=>by rw[aI,if_neg ae,aI,if_neg ae,Uo j hj]⟩;rw[hf]at V9⊢;exact(V9.set (Cb.body ae ae ae (fun _=>hx))).set (Cb.body ae ae ae (fun _=>hy))
  by_cases hp:k<S.ak
  ·have hd:∀g:Int,(g=0∨g=1)→-1≤cg (cs c (f+6) 0) (48+4*(k:Int)+g)∧cg (cs c (f+6) 0) (48+4*(k:Int)+g)≤1:=fun g hg=>(V9 (48+4*(k:Int)+g)).2.2.1 ae ae ae;have Qa:=hd 0 (.inl rfl);have hdy:=hd 1 (.inr rfl);rw[Int.add_zero]at Qa;obtain⟨l2,b2,g2⟩:=key _ _ (G_ (eP ((cg (cs c (f+6) 0) (f+2)+S.gx+cg (cs c (f+6) 0) (48+4*(k:Int))*S.push)*(1024-S.eO)) 1024) (-16384) 16384 ae) (G_ (eP ((cg (cs c (f+6) 0) (f+3)+S.gy+cg (cs c (f+6) 0) (48+4*(k:Int)+1)*S.push)*(1024-S.eO)) 1024) (-16384) 16384 ae);rw[hf]at V9 Sv Sw Qa hdy l2 b2 g2;by_cases hm:k+1<S.bodies.length
   ·exact iC ((hfin _ l2 b2 g2).1 hm) fun hw iY hr=>V_ hS hw iY hlt hm hr hmv hB rfl rfl rfl rfl Sv Sw hp rfl rfl Qa hdy rfl rfl
   ·exact iC ((hfin _ l2 b2 g2).2 hm) fun hw iY hr=>Wd hS hw iY hlt hm hr hmv hB rfl rfl rfl rfl Sv Sw hp rfl rfl Qa hdy rfl rfl
  ·obtain⟨l2,b2,g2⟩:=key _ _ (G_ (eP ((cg (cs c (f+6) 0) (f+2)+S.gx)*(1024-S.eO)) 1024) (-16384) 16384 ae) (G_ (eP ((cg (cs c (f+6) 0) (f+3)+S.gy)*(1024-S.eO)) 1024) (-16384) 16384 ae);rw[hf]at V9 Sv Sw l2 b2 g2;by_cases hm:k+1<S.bodies.length
   ·exact iC ((hfin _ l2 b2 g2).1 hm) fun hw iY hr=>We hS hw iY hlt hm hr hmv hB rfl rfl rfl rfl Sv Sw hp rfl rfl
   ·exact iC ((hfin _ l2 b2 g2).2 hm) fun hw iY hr=>Wi hS hw iY hlt hm hr hmv hB rfl rfl rfl rfl Sv Sw hp rfl rfl
 ·have Zy:IU S k=false:=by simpa using hmv
  rw[hf]at c1l V9 Uo;by_cases hm:k+1<S.bodies.length
  ·exact iC ((hfin _ c1l V9 Uo).1 hm) fun hw iY hr=>Wj hS hw iY hlt hm hr Zy
  ·exact iC ((hfin _ c1l V9 Uo).2 hm) fun hw iY hr=>Wl hS hw iY hlt hm hr Zy
end Mc
end Go.Proofs.YtohpdonnpbjfdaaGreatDoor
