/- What is shown: package vm. Conditions: as each theorem states. -/
import Derived.Test.YtohpdonnpbjfdaaGreatDoorY40
set_option maxHeartbeats 40000000
set_option maxRecDepth 100000
set_option linter.unusedVariables false
set_option linter.unusedSimpArgs false
open Go.Proofs.Tryz
namespace Go.Proofs.YtohpdonnpbjfdaaGreatDoor
theorem OM {P Q:Prop} (q:Q) (h:Q→P:=by intro kk;refine bK 8 (by kernel_rfl) (by kernel_rfl) fun hL=>?_;have dV:=hL.cell;clear hL;simp only[dS];(repeat(go_big_quiet_step (first|(rw[hmk];exact⟨rfl,rfl⟩))));refine wpQuiet_nil ?_;clear dV;exact kk):P:=h q
theorem OP {P Q:Prop} (q:Q) (h:RowKit.Hid Q→P:=by first|(intro kk;(with_reducible refine(hX.out _ (hg.blk.later aG)).mono ?_);rintro e w1 ⟨rfl,aO⟩;replace o9:=(aO.cell (p:=⟨bc,pc*2,none⟩) yL).trans o9;replace pK:=(aO.cell (p:=⟨bc,pc*2+1,none⟩) yL).trans pK;replace g0:=(aO.cell (p:=⟨0,k*3,none⟩) hgl).trans g0;replace g1:=(aO.cell (p:=⟨0,k*3+1,none⟩) hgl).trans g1;replace yL:=bH yL aO.size;replace hgl:=bH hgl aO.size;replace hm:=hm.below aO;replace hA:=hA.below aO;replace hg:=hg.below aO;replace k4:=k4.below aO;replace k5:=k5.below aO;replace k7:=k7.below aO;replace iw:=k4.blk.cell;replace iB:=k4.blk.free;replace ck5:=k5.blk.cell;replace nK:=k5.blk.free;replace iX:=k7.blk.cell;replace jP:=k7.blk.free;clear aO;revert jP iX nK ck5 iB iw k7 k5 k4 hg hA hm hgl yL g1 g0 pK o9 w1;exact kk.out)|fail):P:=h (ah q)
theorem OQ {P Q:Prop} (q:Q) (h:RowKit.Hid Q→P:=by first|(intro kk;(with_reducible refine(Gc (hm.below aG) _ _ ae).mono ?_);rintro e w1 ⟨rfl,L1,n1,gp,dG⟩;have eD:=dG.n;simp only at eD;replace k4:=(k4.below aG).step dG;replace iw:=k4.blk.cell;replace iB:=k4.blk.free;replace k7:=(k7.below aG).step dG;replace iX:=k7.blk.cell;replace jP:=k7.blk.free;replace k12:=(k12.below aG).step dG;replace zG:=k12.blk.cell;replace zH:=k12.blk.free;replace k15:=(k15.below aG).step dG;replace Ji:=k15.blk.cell;replace Jj:=k15.blk.free;replace hA:=(hA.below aG).trans dG;replace hm:=gp;clear gp dG;revert hm hA Jj Ji k15 zH zG k12 jP iX k7 iB iw k4 eD n1 L1 w1;exact kk.out)|fail):P:=h (ah q)
theorem OT {P Q:Prop} (q:Q) (h:RowKit.Hid Q→P:=by first|(intro kk;(with_reducible refine(hE8.out _ _ _ (hm.below aG) ae).mono ?_);rintro e w1 ⟨rfl,L1,n1,gp,dG⟩;have eD:=dG.n;simp only at eD;replace k7:=(k7.below aG).step dG;replace iX:=k7.blk.cell;replace jP:=k7.blk.free;replace k12:=(k12.below aG).step dG;replace zG:=k12.blk.cell;replace zH:=k12.blk.free;replace hA:=(hA.below aG).trans dG;replace hm:=gp;clear dG gp;revert hm hA zH zG k12 jP iX k7 eD n1 L1 w1;exact kk.out)|fail):P:=h (ah q)
theorem OU {P Q:Prop} (q:Q) (h:RowKit.Hid Q→P:=by first|(intro kk;(with_reducible refine(Gc (hm.below aG) _ _ ae).mono ?_);rintro e w1 ⟨rfl,L1,n1,gp,dG⟩;have eD:=dG.n;simp only at eD;replace k7:=(k7.below aG).step dG;replace iX:=k7.blk.cell;replace jP:=k7.blk.free;replace k12:=(k12.below aG).step dG;replace zG:=k12.blk.cell;replace zH:=k12.blk.free;replace hA:=(hA.below aG).trans dG;replace hm:=gp;clear gp dG;revert hm hA zH zG k12 jP iX k7 eD n1 L1 w1;exact kk.out)|fail):P:=h (ah q)
theorem EG {P:Prop} (h:P:=by have:=k4.blk.lt;omega):P:=h
theorem EH {P:Prop} (h:P:=by have:=hA.size;omega):P:=h
theorem Pe {P:Prop} (h:P:=by rw[hW];exact(aV.new _ _ _ _ rfl).drew):P:=h
theorem PG {P:Prop} (h:P:=by have:=k12.blk.lt;omega):P:=h
theorem PM {P Q:Prop} (q:Q) (h:Q→P:=by have k5:Kb W ⟨M,C,L,m⟩ (w.heap.size+1) [aZ bc nI bY,ag e0,ag e1,ag e2]:=Kb.new hm ae fV;intro kk;revert k5;exact kk):P:=h q
theorem PN {P Q:Prop} (q:Q) (h:Q→P:=by have k15:Kb W3 ⟨M,C,L,m⟩ W2.heap.size [ag n,ag 0,ag 0]:=Kb.new hm (aH _) Pe;intro kk;revert k15;exact kk):P:=h q
theorem PO {P Q:Prop} (q:Q) (h:Q→P:=by have k12:Kb W2 ⟨M,C,L,m⟩ w1.heap.size [ag k,ag n]:=Kb.new hm (aH _) dm;intro kk;revert k12;exact kk):P:=h q
theorem PQ {P Q:Prop} (q:Q) (h:Q→P:=by have hex:=fun(V:World) (hV:aV V 0 jH)=>wR hV k n (cg c 7) ae;intro kk;revert hex;exact kk):P:=h q
theorem PV {P:Prop} (h:P:=by replace iw:=k4.blk.cell;replace iB:=k4.blk.free;replace iX:=k7.blk.cell;replace jP:=k7.blk.free;replace zG:=k12.blk.cell;replace zH:=k12.blk.free;replace Ji:=k15.blk.cell;replace Jj:=k15.blk.free;go_upto_region 20 with(first|(refine OQ ?_;clear k4 iw iB k7 iX jP k12 zG zH k15 Ji Jj hA hm;intro w1 L1 n1 eD k4 iw iB k7 iX jP k12 zG zH k15 Ji Jj hA hm)|(refine OT ?_;clear k7 iX jP k12 zG zH hA hm k4 iw iB k15 Ji Jj;intro w1 L1 n1 eD k7 iX jP k12 zG zH hA hm));refine aP fun W5 hW=>?_;have hb:W5=(((w1.setCell ⟨b7,0,none⟩ (ag x)).setCell ⟨b7,1,none⟩ (ag y)).setCell ⟨b7,2,none⟩ (ag z)).setCell ⟨b7,3,none⟩ (ag r):=hW;replace hm:=(((hm.set (p:=⟨b7,0,none⟩) k7.no (ag x)).set (p:=⟨b7,1,none⟩) k7.no (ag y)).set (p:=⟨b7,2,none⟩) k7.no (ag z)).set (p:=⟨b7,3,none⟩) k7.no (ag r);replace hA:=(((hA.set (p:=⟨b7,0,none⟩) (.inr h7) (ag x)).set (p:=⟨b7,1,none⟩) (.inr h7) (ag y)).set (p:=⟨b7,2,none⟩) (.inr h7) (ag z)).set (p:=⟨b7,3,none⟩) (.inr h7) (ag r);have aAm:b7≠b12:=n7;replace k12:=(((k12.other (p:=⟨b7,0,none⟩) n7 (ag x)).other (p:=⟨b7,1,none⟩) n7 (ag y)).other (p:=⟨b7,2,none⟩) n7 (ag z)).other (p:=⟨b7,3,none⟩) n7 (ag r);replace k7:=(((k7.put 0 (ag x)).put 1 (ag y)).put 2 (ag z)).put 3 (ag r);simp only[List.set_cons_zero,List.set_cons_succ]at k7;rw[←hb]at hm hA k12 k7;clear hW hb;replace iX:=k7.blk.cell;replace jP:=k7.blk.free;replace zG:=k12.blk.cell;replace zH:=k12.blk.free;go_upto_region 22 with(first|(refine OU ?_;clear k7 iX jP k12 zG zH hA hm;intro w1 L1 n1 eD k7 iX jP k12 zG zH hA hm));refine aP fun W6 hW=>?_;have h77:=k7.blk.lt;have h12:=k12.blk.lt;subst hW;refine wK [0,1,2,3] [4,5] [7] 6 aL aL fun NL hL=>?_;obtain⟨dU,dV,hlf⟩:=hL;simp only[jA];(repeat(go_big_quiet_step (fail)));refine wpQuiet_nil ?_;(repeat(go_big_quiet_step (fail)));refine wpQuiet_nil ?_;clear dV hlf dU NL;go_wp2_with (first|fail);refine Qt.fq ?_;go_wp2_with (first|fail);refine bodyPost_ret (v:=.tuple #[.bool ((k:Int)==21),jB x y z r,.bool q]) ru rfl ⟨rfl,_,_,iM hm hA k7.no h7 ae ?_⟩;(repeat(first|(refine eQ ?_ rfl _)|(refine qb ?_)));exact iJ _ _):P:=h
theorem wS {P:Prop} (h:P:=by unfold QN;go_enter func108,ntmps108;go_upto_region 1 with(fail);refine aP fun W hW=>?_;have hb:aJ w W:=aM;have k7:Kb W ⟨M,C,L,m⟩ w.heap.size [.slice ac nc cap,ag e0,ag e1,ag e2]:=Kb.new hm (aH _) dm;replace hm:=hm.below hb;replace hA:=hA.below hb;clear hW hb;have⟨⟨iX,jP,_⟩,_⟩:=k7;go_wp2_with (first|fail);refine OM ?_;go_wp2_with (first|(refine CW ?_;clear k7 iX jP hA hm;intro w1 L1 n1 eD k7 iX jP hA hm));go_ret;exact⟨rfl,_,_,hm,hA.mono ae⟩):P:=h
theorem wT {P:Prop} (h:P:=by go_enter func108,ntmps108;go_upto_region 1 with(fail);refine aP fun W hW=>?_;have hb:aJ w W:=aM;have k7:Kb W ⟨M,C,L,m⟩ w.heap.size [.slice ac nc cap,ag e0,ag e1,ag e2]:=Kb.new hm (aH _) dm;replace hm:=hm.below hb;replace hA:=hA.below hb;clear hW hb;have⟨⟨iX,jP,_⟩,_⟩:=k7;go_wp2_with (first|fail);go_ret;exact⟨rfl,_,_,hm,hA.mono ae⟩):P:=h
theorem mG {P:Prop} (h:P:=by
 have hA:=Alt.refl [] w ⟨M,C,L,m⟩;have cZ:=au;have hE8:=ah hE;clear hE;have g0:=wV hg.blk (k*3) ae;have g1:=wV hg.blk (k*3+1) ae;rw[hpk]at g0;rw[huk]at g1;have hgl:=hg.blk.lt;have yL:=aU w _ o9;simp only at yL;refine PQ ?_;intro hex;rw[hx]at hex;have hX:=ah hex;clear hex hx hpk huk;have gY:=results109;go_enter func109,ntmps109;go_upto_region 1 with(fail);refine aP fun W hW=>?_;have hb:aJ w W:=aM;refine jg ?_;intro k4;refine PM ?_;intro k5;refine gF ?_;intro k7;replace o9:=(hb.cell (p:=⟨bc,pc*2,none⟩) yL).trans o9;replace pK:=(hb.cell (p:=⟨bc,pc*2+1,none⟩) yL).trans pK;replace g0:=(hb.cell (p:=⟨0,k*3,none⟩) hgl).trans g0;replace g1:=(hb.cell (p:=⟨0,k*3+1,none⟩) hgl).trans g1;replace yL:=bH yL hb.size;replace hgl:=bH hgl hb.size;replace hm:=hm.below hb;replace hA:=hA.below hb;replace hg:=hg.below hb;clear hW hb;have⟨⟨iw,iB,_⟩,_⟩:=k4;have⟨⟨ck5,nK,_⟩,_⟩:=k5;have⟨⟨iX,jP,_⟩,_⟩:=k7;refine gG ?_;intro h7;generalize eY:w.heap.size+1=b5 at*;generalize zP:b5+1=b7 at*;go_upto_region 7 with(first|((with_reducible refine(iZ (hm.below aG) _).mono ?_);rintro e w1 ⟨rfl,rfl⟩)|(refine OP ?_;clear o9 pK g0 g1 yL hgl hm hA hg k4 k5 k7 iw iB ck5 nK iX jP;intro w1 o9 pK g0 g1 yL hgl hm hA hg k4 k5 k7 iw iB ck5 nK iX jP));refine aP fun W2 hW=>?_;have hb:aJ w1 W2:=aM;have hws:w.heap.size≤w1.heap.size:=EH;refine PO ?_;intro k12;have n4:w.heap.size≠w1.heap.size:=EG;have n7:b7≠w1.heap.size:=xe;replace g0:=(hb.cell (p:=⟨0,k*3,none⟩) hgl).trans g0;replace g1:=(hb.cell (p:=⟨0,k*3+1,none⟩) hgl).trans g1;replace k4:=k4.below hb;replace k7:=k7.below hb;replace hm:=hm.below hb;replace hA:=hA.below hb;have⟨⟨zG,zH,_⟩,_⟩:=k12;clear hW hb k5 ck5 nK hg o9 pK;have awe:w.heap.size≤w1.heap.size:=hws;generalize w1.heap.size=b12 at*;refine dD ?_;go_upto_region 9 with(fail);refine aP fun W3 hW=>?_;have hb:aJ W2 W3:=aM;refine PN ?_;intro k15;have n4b:w.heap.size≠W2.heap.size:=EG;have n7b:b7≠W2.heap.size:=xe;have n12:b12≠W2.heap.size:=PG;have aah:w.heap.size≤W2.heap.size:=EH;replace k4:=k4.below hb;replace k7:=k7.below hb;replace k12:=k12.below hb;replace hm:=hm.below hb;replace hA:=hA.below hb;replace zG:=k12.blk.cell;replace zH:=k12.blk.free;have⟨⟨Ji,Jj,_⟩,_⟩:=k15;clear hW hb g0 g1 hgl;generalize W2.heap.size=b15 at*;first
 |(first|(revert bP;intro bP)|(revert pq;intro pq))
  go_upto_region 15 with(first|((with_reducible refine(iZ (hm.below aG) _).mono ?_);rintro e w1 ⟨rfl,rfl⟩))
  refine aP fun W4 hW=>?_
  replace hm:=hm.set (p:=⟨b15,1,none⟩) k15.no (ag (cg c (16+cg c 7-1)))
  replace hA:=hA.set (p:=⟨b15,1,none⟩) (.inr aah) (ag (cg c (16+cg c 7-1)))
  replace k4:=k4.other (p:=⟨b15,1,none⟩) (Ne.symm n4b) (ag (cg c (16+cg c 7-1)))
  replace k7:=k7.other (p:=⟨b15,1,none⟩) (Ne.symm n7b) (ag (cg c (16+cg c 7-1)))
  replace k12:=k12.other (p:=⟨b15,1,none⟩) (Ne.symm n12) (ag (cg c (16+cg c 7-1)))
  replace k15:=k15.put 1 (ag (cg c (16+cg c 7-1)))
  simp only[List.set_cons_zero,List.set_cons_succ]at k15
  rw[←hW]at hm hA k4 k7 k12 k15
  clear hW
  replace Ji:=k15.blk.cell
  replace Jj:=k15.blk.free
 |(first|(revert gu;intro gu)|(revert nL;intro nL))
  go_upto_region 15 with(fail)
 |(first|(revert QZ;intro QZ)|(revert Q0;intro Q0))
  go_upto_region 14 with(first|((with_reducible refine(iZ (hm.below aG) _).mono ?_);rintro e w1 ⟨rfl,rfl⟩))
  refine aP fun W4 hW=>?_
  replace hm:=hm.set (p:=⟨b15,2,none⟩) k15.no (ag (cg c (16+cg c 7-2+1)))
  replace hA:=hA.set (p:=⟨b15,2,none⟩) (.inr aah) (ag (cg c (16+cg c 7-2+1)))
  replace k4:=k4.other (p:=⟨b15,2,none⟩) (Ne.symm n4b) (ag (cg c (16+cg c 7-2+1)))
  replace k7:=k7.other (p:=⟨b15,2,none⟩) (Ne.symm n7b) (ag (cg c (16+cg c 7-2+1)))
  replace k12:=k12.other (p:=⟨b15,2,none⟩) (Ne.symm n12) (ag (cg c (16+cg c 7-2+1)))
  replace k15:=k15.put 2 (ag (cg c (16+cg c 7-2+1)))
  simp only[List.set_cons_zero,List.set_cons_succ]at k15
  rw[←hW]at hm hA k4 k7 k12 k15
  clear hW
  replace Ji:=k15.blk.cell
  replace Jj:=k15.blk.free
  go_upto_region 15 with(first|((with_reducible refine(iZ (hm.below aG) _).mono ?_);rintro e w1 ⟨rfl,rfl⟩))
  refine aP fun W4 hW=>?_
  replace hm:=hm.set (p:=⟨b15,1,none⟩) k15.no (ag (cg c (16+cg c 7-2)))
  replace hA:=hA.set (p:=⟨b15,1,none⟩) (.inr aah) (ag (cg c (16+cg c 7-2)))
  replace k4:=k4.other (p:=⟨b15,1,none⟩) (Ne.symm n4b) (ag (cg c (16+cg c 7-2)))
  replace k7:=k7.other (p:=⟨b15,1,none⟩) (Ne.symm n7b) (ag (cg c (16+cg c 7-2)))
  replace k12:=k12.other (p:=⟨b15,1,none⟩) (Ne.symm n12) (ag (cg c (16+cg c 7-2)))
  replace k15:=k15.put 1 (ag (cg c (16+cg c 7-2)))
  simp only[List.set_cons_zero,List.set_cons_succ]at k15
  rw[←hW]at hm hA k4 k7 k12 k15
  clear hW
  replace Ji:=k15.blk.cell
  replace Jj:=k15.blk.free
 exact PV):P:=h
namespace Vm
open Go.RowKit aN fO Qt Ro Bk Ce La Ha In
attribute [local go_sem] Oper.semAt_some
variable {w:World}
def iG:List Int:=[0,0,0,0,1,0,0,1,16,1,0,16,1,1,8,2,0,8,0,1,0,0,1,0,0,1,0,2,1,0,2,1,0,2,1,0,2,1,0,1,1,0,2,1,0,2,1,0,2,1,0,1,1,0,0,0,0,1,0,0,2,0,0,0,0,0]
def jH:List Value:=iG.map (ag ·)
def exq (op n sp p u o:Int):Bool:=decide (1≤op∧op≤21∧sp≤16∧p≤sp∧sp-p+u≤16∧(o=0∨(0≤n∧n<o)))
def Jv (op n sp:Int):Bool:=exq op n sp (iG.getD (op.toNat*3) 0) (iG.getD (op.toNat*3+1) 0) (iG.getD (op.toNat*3+2) 0)
theorem wV (hg:aV w 0 jH) (k:Nat) (hk:k<66):w.cell? ⟨0,k,none⟩=some (ag (iG.getD k 0)):=by rw[hg.cell k];simp only[jH,List.getElem?_map,List.getD_eq_getElem?_getD];rw[List.getElem?_eq_getElem (by simpa[iG]using hk)];rfl
theorem wR (hg:aV w 0 jH) (op n sp:Int) (hs:0≤sp):
  Calls prog 132 #[.agg #[ag op,ag n],ag sp] w fun e w'=>e=.returned (.bool (Jv op n sp))∧aJ w w':=by
 have nP:aJ w w:=aK _ _;by_cases h1:op<1
 ·rw[show Jv op n sp=false by simp only[Jv,exq,decide_eq_false_iff_not];omega];go_enter func132,ntmps132;go_wp2;go_ret;exact⟨rfl,by exact aG⟩
 by_cases h2:21<op
 ·rw[show Jv op n sp=false by simp only[Jv,exq,decide_eq_false_iff_not];omega];go_enter func132,ntmps132;go_wp2;go_ret;exact⟨rfl,by exact aG⟩
 by_cases h3:16<sp
 ·rw[show Jv op n sp=false by simp only[Jv,exq,decide_eq_false_iff_not];omega];go_enter func132,ntmps132;go_wp2;go_ret;exact⟨rfl,by exact aG⟩
 obtain⟨k,rfl⟩:∃k:Nat,op=k:=⟨op.toNat,ae⟩
 have c0:=wV hg (k*3) ae;have c1:=wV hg (k*3+1) ae;have c2:=wV hg (k*3+2) ae;have hlt:=hg.lt;obtain⟨q,hq⟩:∃q,q=Jv (k:Int) n sp:=⟨_,rfl⟩
 rw[←hq];unfold Jv at hq;simp only[Int.toNat_natCast]at hq;have hp:0≤iG.getD (k*3) 0∧iG.getD (k*3) 0≤2∧0≤iG.getD (k*3+1) 0∧iG.getD (k*3+1) 0≤1∧0≤iG.getD (k*3+2) 0:=by have key:∀k,k<22→0≤iG.getD (k*3) 0∧iG.getD (k*3) 0≤2∧0≤iG.getD (k*3+1) 0∧iG.getD (k*3+1) 0≤1∧0≤iG.getD (k*3+2) 0:=bL;exact key k ae
 obtain⟨p0,p1,u0,u1,o0⟩:=hp;generalize iG.getD (k*3) 0=p at*;generalize iG.getD (k*3+1) 0=u at*;generalize iG.getD (k*3+2) 0=o at*;unfold exq at hq;by_cases h4:sp<p
 ·rw[hq,show decide _=false by simp only[decide_eq_false_iff_not];omega];clear hq;go_enter func132,ntmps132;go_wp2;go_ret;exact⟨rfl,by exact aG⟩
 by_cases h5:16<sp-p+u
 ·rw[hq,show decide _=false by simp only[decide_eq_false_iff_not];omega];clear hq;go_enter func132,ntmps132;go_wp2;go_ret;exact⟨rfl,by exact aG⟩
 by_cases h6:o=0
 ·rw[hq,show decide _=true by simp only[decide_eq_true_eq];omega];subst h6;clear hq;go_enter func132,ntmps132;go_wp2;go_ret;exact⟨rfl,by exact aG⟩
 have h6':(o==0)=false:=beq_eq_false_iff_ne.2 h6;by_cases h7:0≤n
 ·rw[hq,show(decide _:Bool)=decide (n<o) by congr 1;simp only[eq_iff_iff];omega];clear hq h6;go_enter func132,ntmps132;go_wp2;go_ret;exact⟨rfl,by exact aG⟩
 ·rw[hq,show decide _=false by simp only[decide_eq_false_iff_not];omega];clear hq h6;go_enter func132,ntmps132;go_wp2;go_ret;exact⟨rfl,by exact aG⟩
variable {M C m:Nat} {L:Option Nat} {c:List Int}
abbrev qQ (code:Value) (e0 e1 e2:Int):Value:=.agg #[code,ag e0,ag e1,ag e2]
def QN (c:List Int) (en self other fuel:Int):List Int:=cs (cs (cs (cs (cs c 6 en) 7 0) 8 fuel) 9 self) 10 other
theorem QO (hm:aD w ⟨M,C,L,m⟩ c) (hr:m<999999000) (ac:Option Addr) (nc cap:Nat) (e0 e1 e2 self other fuel:Int):
  Calls prog 108 #[iW M,qQ (.slice ac nc cap) e0 e1 e2,ag 0,ag self,ag other,ag fuel] w fun e w'=>e=.returned (.bool (decide (0≤e0)))∧∃L' m',aD w' ⟨M,C,L',m'⟩ (if 0≤e0 then QN c e0 self other fuel else c)∧Alt [] w ⟨M,C,L,m⟩ w' ⟨M,C,L',m'⟩ 5:=by
 have hA:=Alt.refl [] w ⟨M,C,L,m⟩;have hmk:=Tryz.nV M;have cZ:=au;by_cases he:0≤e0
 ·rw[if_pos he,show decide (0≤e0)=true by simpa using he];exact wS
 ·rw[if_neg he,show decide (0≤e0)=false by simpa using he];exact wT
theorem QP (hm:aD w ⟨M,C,L,m⟩ c) (hr:m<999999000) (ac:Option Addr) (nc cap:Nat) (e0 e1 e2 self other fuel:Int):
  Calls prog 108 #[iW M,qQ (.slice ac nc cap) e0 e1 e2,ag 1,ag self,ag other,ag fuel] w fun e w'=>e=.returned (.bool (decide (0≤e1)))∧∃L' m',aD w' ⟨M,C,L',m'⟩ (if 0≤e1 then QN c e1 self other fuel else c)∧Alt [] w ⟨M,C,L,m⟩ w' ⟨M,C,L',m'⟩ 5:=by
 have hA:=Alt.refl [] w ⟨M,C,L,m⟩;have hmk:=Tryz.nV M;have cZ:=au;by_cases he:0≤e1
 ·rw[if_pos he,show decide (0≤e1)=true by simpa using he];exact wS
 ·rw[if_neg he,show decide (0≤e1)=false by simpa using he];exact wT
theorem QQ (hm:aD w ⟨M,C,L,m⟩ c) (hr:m<999999000) (ac:Option Addr) (nc cap:Nat) (e0 e1 e2 self other fuel:Int):
  Calls prog 108 #[iW M,qQ (.slice ac nc cap) e0 e1 e2,ag 2,ag self,ag other,ag fuel] w fun e w'=>e=.returned (.bool (decide (0≤e2)))∧∃L' m',aD w' ⟨M,C,L',m'⟩ (if 0≤e2 then QN c e2 self other fuel else c)∧Alt [] w ⟨M,C,L,m⟩ w' ⟨M,C,L',m'⟩ 5:=by
 have hA:=Alt.refl [] w ⟨M,C,L,m⟩;have hmk:=Tryz.nV M;have cZ:=au;by_cases he:0≤e2
 ·rw[if_pos he,show decide (0≤e2)=true by simpa using he];exact wS
 ·rw[if_neg he,show decide (0≤e2)=false by simpa using he];exact wT
variable {c c2:List Int}
theorem QM (hm:aD w ⟨M,C,L,m⟩ c) (hr:m<999998000) (S:Stp) (ab:Option Addr) (nb cap:Nat) (rm dr:Value) (bc nI bY:Nat) (Ml:nI≤1000000) (e0 e1 e2:Int) (hg:Kb w ⟨M,C,L,m⟩ 0 jH) (pc k:Nat) (n:Int)
  (o9:w.cell? ⟨bc,pc*2,none⟩=some (ag k)) (pK:w.cell? ⟨bc,pc*2+1,none⟩=some (ag n)) (hpc:pc<nI) (XR:cg c 6=pc) (hf:1≤cg c 8) (ku:cg c 8≤1000000) (hx:Jv k n (cg c 7)=true) (hpk:iG.getD (k*3) 0=2) (huk:iG.getD (k*3+1) 0=1) (hk:k≤21) (XT:2≤cg c 7) (XU:cg c 7≤16)
  (v x y z r:Int) (q:Bool)
  (hE:∀(V:World) (Lx:Option Nat) (mx:Nat),aD V ⟨M,C,Lx,mx⟩ (cs (cs (cs c 8 (cg c 8-1)) 6 (pc+1)) 7 (cg c 7-2+1))→mx<999999000→Calls prog 133 #[ag k,iW M,dR S (.slice ab nb cap) rm dr,yN n (cg c (16+cg c 7-2)) (cg c (16+cg c 7-2+1))] V fun e w'=>e=.returned (.tuple #[ag v,jB x y z r,.bool q])∧∃L' m',aD w' ⟨M,C,L',m'⟩ c2∧Alt [] V ⟨M,C,Lx,mx⟩ w' ⟨M,C,L',m'⟩ 2):
  Calls prog 109 #[iW M,dR S (.slice ab nb cap) rm dr,qQ (aZ bc nI bY) e0 e1 e2] w fun e w'=>e=.returned (.tuple #[.bool ((k:Int)==21),jB x y z r,.bool q])∧∃L' m',aD w' ⟨M,C,L',m'⟩ (cs c2 (16+cg c 7-2) v)∧Alt [] w ⟨M,C,L,m⟩ w' ⟨M,C,L',m'⟩ 8:=by have QZ:=trivial;exact mG
theorem QL (hm:aD w ⟨M,C,L,m⟩ c) (hr:m<999998000) (S:Stp) (ab:Option Addr) (nb cap:Nat) (rm dr:Value) (bc nI bY:Nat) (Ml:nI≤1000000) (e0 e1 e2:Int) (hg:Kb w ⟨M,C,L,m⟩ 0 jH) (pc k:Nat) (n:Int)
  (o9:w.cell? ⟨bc,pc*2,none⟩=some (ag k)) (pK:w.cell? ⟨bc,pc*2+1,none⟩=some (ag n)) (hpc:pc<nI) (XR:cg c 6=pc) (hf:1≤cg c 8) (ku:cg c 8≤1000000) (hx:Jv k n (cg c 7)=true) (hpk:iG.getD (k*3) 0=2) (huk:iG.getD (k*3+1) 0=0) (hk:k≤21) (XT:2≤cg c 7) (XU:cg c 7≤16)
  (v x y z r:Int) (q:Bool)
  (hE:∀(V:World) (Lx:Option Nat) (mx:Nat),aD V ⟨M,C,Lx,mx⟩ (cs (cs (cs c 8 (cg c 8-1)) 6 (pc+1)) 7 (cg c 7-2))→mx<999999000→Calls prog 133 #[ag k,iW M,dR S (.slice ab nb cap) rm dr,yN n (cg c (16+cg c 7-2)) (cg c (16+cg c 7-2+1))] V fun e w'=>e=.returned (.tuple #[ag v,jB x y z r,.bool q])∧∃L' m',aD w' ⟨M,C,L',m'⟩ c2∧Alt [] V ⟨M,C,Lx,mx⟩ w' ⟨M,C,L',m'⟩ 2):
  Calls prog 109 #[iW M,dR S (.slice ab nb cap) rm dr,qQ (aZ bc nI bY) e0 e1 e2] w fun e w'=>e=.returned (.tuple #[.bool ((k:Int)==21),jB x y z r,.bool q])∧∃L' m',aD w' ⟨M,C,L',m'⟩ (c2)∧Alt [] w ⟨M,C,L,m⟩ w' ⟨M,C,L',m'⟩ 8:=by have Q0:=trivial;exact mG
theorem QK {w:World} {M C:Nat} {L:Option Nat} {m:Nat} {c c2:List Int} (hm:aD w ⟨M,C,L,m⟩ c) (hr:m<999998000) (S:Stp) (ab:Option Addr) (nb cap:Nat) (rm dr:Value) (bc nI bY:Nat) (Ml:nI≤1000000) (e0 e1 e2:Int) (hg:Kb w ⟨M,C,L,m⟩ 0 jH) (pc k:Nat) (n:Int)
  (o9:w.cell? ⟨bc,pc*2,none⟩=some (ag k)) (pK:w.cell? ⟨bc,pc*2+1,none⟩=some (ag n)) (hpc:pc<nI) (XR:cg c 6=pc) (hf:1≤cg c 8) (ku:cg c 8≤1000000) (hx:Jv k n (cg c 7)=true) (hpk:iG.getD (k*3) 0=1) (huk:iG.getD (k*3+1) 0=1) (hk:k≤21) (XT:1≤cg c 7) (XU:cg c 7≤16)
  (v x y z r:Int) (q:Bool)
  (hE:∀(V:World) (Lx:Option Nat) (mx:Nat),aD V ⟨M,C,Lx,mx⟩ (cs (cs c 8 (cg c 8-1)) 6 (pc+1))→mx<999999000→Calls prog 133 #[ag k,iW M,dR S (.slice ab nb cap) rm dr,yN n (cg c (16+cg c 7-1)) (0)] V fun e w'=>e=.returned (.tuple #[ag v,jB x y z r,.bool q])∧∃L' m',aD w' ⟨M,C,L',m'⟩ c2∧Alt [] V ⟨M,C,Lx,mx⟩ w' ⟨M,C,L',m'⟩ 2):
  Calls prog 109 #[iW M,dR S (.slice ab nb cap) rm dr,qQ (aZ bc nI bY) e0 e1 e2] w fun e w'=>e=.returned (.tuple #[.bool ((k:Int)==21),jB x y z r,.bool q])∧∃L' m',aD w' ⟨M,C,L',m'⟩ (cs c2 (16+cg c 7-1) v)∧Alt [] w ⟨M,C,L,m⟩ w' ⟨M,C,L',m'⟩ 8:=by have pq:=trivial;exact mG
end Vm
end Go.Proofs.YtohpdonnpbjfdaaGreatDoor
