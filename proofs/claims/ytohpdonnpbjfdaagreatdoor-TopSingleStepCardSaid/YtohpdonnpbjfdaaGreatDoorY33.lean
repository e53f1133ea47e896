/- What is shown: package compile. Conditions: as each theorem states. -/
import Derived.Defers
import Derived.Test.YtohpdonnpbjfdaaGreatDoorY32
set_option maxHeartbeats 40000000
set_option maxRecDepth 100000
set_option linter.unusedVariables false
set_option linter.unusedSimpArgs false
open Go.Proofs.Tryz
namespace Go.Proofs.YtohpdonnpbjfdaaGreatDoor
theorem xU {P:Prop} (h:P:=by clear h1 h2;have lD:=ah he;clear he;go_enter func164,ntmps164;go_wp2_with (first|((with_reducible refine(lD.out _ _ aG).mono ?_);rintro e w1 ⟨rfl,bW,ek⟩));refine bodyPost_end (results_none rfl _ _ _) rfl ⟨rfl,bW,?_⟩;exact(Kc.below (b:=b) aG H.out.blt).trans ek):P:=h
theorem xS {P:Prop} (h:P:=by refine bodyPost_end (results_none rfl _ _ _) rfl ⟨rfl,bW,?_⟩;exact(Kc.below (b:=b) aG H.out.blt).trans ek):P:=h
theorem O0 {P Q:Prop} (q:Q) (h:RowKit.Hid Q→P:=by first|(intro kk;(with_reducible refine G8.out.mono ?_);rintro e w1 ⟨rfl,bW,ek⟩;revert ek bW w1;exact kk.out)|fail):P:=h (ah q)
theorem j4 {P Q:Prop} (q:Q) (h:Q→P:=by have hkd:=jy hT hi hx hl hc (hk.keep hK.size (fun q hq _=>h0.old hK q hq)) k v s;intro kk;revert hkd;exact kk):P:=h q
theorem j5 {P:Prop} (h:P:=by go_wp2_with (first|(refine O0 ?_;intro w1 bW ek));exact bodyPost_end (results_none rfl _ _ _) rfl ⟨rfl,bW,ek⟩):P:=h
theorem DL {P:Prop} (h:P:=by go_wp2_with (first|((with_reducible refine lD.out.mono ?_);rintro e w1 ⟨rfl,bW,ek⟩));exact bodyPost_end (results_none rfl _ _ _) rfl ⟨rfl,bW,ek⟩):P:=h
theorem En {P Q:Prop} (q:Q) (h:Q→P:=by intro kk;refine bK 4 (by kernel_rfl) (by kernel_rfl) fun hL=>?_;have dV:=hL.cell;clear hL;simp only[dS];(repeat(go_big_quiet_step ((with_reducible exact acA _ _))));refine wpQuiet_nil ?_;clear dV;exact kk):P:=h q
theorem yj {P Q:Prop} (q:Q) (h:RowKit.Hid Q→P:=by first|(intro kk;(with_reducible refine(Ar.out _ aG).mono ?_);rintro e w1 ⟨rfl,bW,ek⟩;have zy:=(Kc.below (b:=b) aG H.out.blt).trans ek;have s2:=H.out.jk (V:=(w.alloc (.cells #[aR b] 284)).alloc (.cells #[ag k,ag v,.string s,.slice a n c] 183)) (x:=w.heap.size) aG (aH _) bU;have s3:=H.out.jk (V:=(w.alloc (.cells #[aR b] 284)).alloc (.cells #[ag k,ag v,.string s,.slice a n c] 183)) (x:=w.heap.size+1) aG (Nat.le_succ _) av;have b2:=ek.blk s2 ((aV.new w [aR b] _ _ rfl).alloc _);have b3:=ek.blk s3 (aV.new (w.alloc _) [ag k,ag v,.string s,.slice a n c] _ _ av);replace s2:=(ek.sf s2).1;replace s3:=(ek.sf s3).1;have c2:=b2.cell;have c3:=b3.cell;revert c3 c2 s3 s2 b3 b2 zy ek bW w1;exact kk.out)|fail):P:=h (ah q)
theorem oU {P Q:Prop} (q:Q) (h:RowKit.Hid Q→P:=by first|(intro kk;(with_reducible refine(VS.out _ zy bW).mono ?_);rintro e w2 ⟨rfl,gX,iO⟩;replace b2:=iO.blk s2 b2;replace b3:=iO.blk s3 b3;replace s2:=(iO.sf s2).1;replace s3:=(iO.sf s3).1;have d2:=b2.cell;have d3:=b3.cell;revert d3 d2 s3 s2 b3 b2 iO gX w2;exact kk.out)|fail):P:=h (ah q)
theorem oQ {P:Prop} (h:P:=by rw[List.length_append];omega):P:=h
theorem rT {P:Prop} (h:P:=by simpa[List.length_append,Nat.add_assoc]using vT):P:=h
theorem rU {P:Prop} (h:P:=by rw[List.length_append];exact vT):P:=h
theorem o5 {P Q:Prop} (q:Q) (h:Q→P:=by have h3:(s.toList==[62,61])=eH s ⟨#[62,61]⟩:=dP;intro kk;revert h3;exact kk):P:=h q
theorem o6 {P Q:Prop} (q:Q) (h:Q→P:=by have h4:(s.toList==[33,61])=eH s ⟨#[33,61]⟩:=dP;intro kk;revert h4;exact kk):P:=h q
theorem oW {P Q:Prop} (q:Q) (h:Q→P:=by have h1:(s.toList==[124,124])=eH s Iw:=dP;intro kk;revert h1;exact kk):P:=h q
theorem oV {P Q:Prop} (q:Q) (h:Q→P:=by have h0:(s.toList==[38,38])=eH s qA:=dP;intro kk;revert h0;exact kk):P:=h q
theorem oZ {P Q:Prop} (q:Q) (h:Q→P:=by have h2:(s.toList==[62])=eH s ⟨#[62]⟩:=dP;intro kk;revert h2;exact kk):P:=h q
theorem PS {P Q:Prop} (q:Q) (h:Q→P:=by have iO:=fun(V:World) (hK:Kc b w V) (hV:eZ V B b m vs e0 e1 e2 (cd++L1))=>jy hT hi (cd:=cd++L1) (L:=L2) rU oQ hV (hk.keep hK.size (fun q hq _=>h.old hK q hq)) k v s;intro kk;revert iO;exact kk):P:=h q
theorem DJ {P:Prop} (h:P:=by have ek:=fun(V:World) (hV:aJ w V)=>jy hT hi mg ae (h.on hV) (hk.on hV) k v s;have iO:=fun(V:World) (hK:Kc b w V) (hV:eZ V B b m vs e0 e1 e2 (cd++L1))=>jy hT (i:=0) ae (cd:=cd++L1) (L:=L2) rU oQ hV (hk.keep hK.size (fun q hq _=>h.old hK q hq)) k v s;simp only[show((0:Nat):Int)=0 from rfl,show((1:Nat):Int)=1 from rfl]at ek iO;have lD:=ah fun(op:Int) (V:World) (hV:eZ V B b m vs e0 e1 e2 (cd++L1++L2))=>fK hV bU op 0;have U4:=ah fun(op p:Int) (V:World) (hV:eZ V B b m vs e0 e1 e2 (cd++L1++L2++[(p,0)]))=>fK hV bU op 0;have H:=ah h;clear hi;clear h hk mg vT hT;have Ar:=ah ek;have VS:=ah iO;clear ek iO;have hal:=aQ;have bu:=dL;go_enter func166,ntmps166;go_upto_region 13 with(first|(refine yj ?_;intro w1 bW ek zy b2 b3 s2 s3 c2 c3)|(refine oU ?_;intro w2 gX iO b2 b3 s2 s3 d2 d3));refine En ?_;go_wp2_with (first|((with_reducible refine(lD.out _ _ (gX.on aG)).mono ?_);rintro e w3 ⟨rfl,jK,nG⟩));refine bodyPost_end (results_none rfl _ _ _) rfl ⟨rfl,jK,?_⟩;exact((zy.trans iO).trans (Kc.below (b:=b) aG gX.blt)).trans nG):P:=h
theorem De {P:Prop} (h:P:=by
 refine oV ?_;intro h0;refine oW ?_;intro h1;refine oZ ?_;intro h2;refine o5 ?_;intro h3;refine o6 ?_;intro h4;rw[g0]at h0;rw[g1]at h1;rw[g2]at h2;rw[g3]at h3;rw[g4]at h4;have ek:=fun(V:World) (hV:aJ w V)=>jy hT ae mg ae (h.on hV) (hk.on hV) k v s;refine PS ?_;intro iO;simp only[show((0:Nat):Int)=0 from rfl,show((1:Nat):Int)=1 from rfl]at ek iO;have lD:=ah fun(op:Int) (V:World) (hV:eZ V B b m vs e0 e1 e2 (cd++L1++L2))=>fK hV bU op 0;have U4:=ah fun(op p:Int) (V:World) (hV:eZ V B b m vs e0 e1 e2 (cd++L1++L2++[(p,0)]))=>fK hV bU op 0;have H:=ah h;clear hi;clear h hk mg vT hT;have Ar:=ah ek;have VS:=ah iO;clear ek iO;refine az ?_;intro hal bu;go_enter func166,ntmps166;first
 |revert bP;intro bP
  go_upto_region 4 with(first|(refine yj ?_;intro w1 bW ek zy b2 b3 s2 s3 c2 c3)|(refine oU ?_;intro w2 gX iO b2 b3 s2 s3 d2 d3))
  refine En ?_
  go_wp2_with (first|((with_reducible refine(lD.out _ _ (gX.on aG)).mono ?_);rintro e w3 ⟨rfl,jK,nG⟩))
  refine bodyPost_end (results_none rfl _ _ _) rfl ⟨rfl,jK,?_⟩
  exact((zy.trans iO).trans (Kc.below (b:=b) aG gX.blt)).trans nG
 |revert gu;intro gu
  go_wp2_with (first|(refine yj ?_;intro w1 bW ek zy b2 b3 s2 s3 c2 c3)|(refine oU ?_;intro w2 gX iO b2 b3 s2 s3 d2 d3)|((with_reducible refine(lD.out _ _ gX).mono ?_);rintro e w3 ⟨rfl,jK,nG⟩;replace b2:=nG.blk s2 b2;have f2:=b2.cell)|((with_reducible refine(U4.out _ _ _ jK).mono ?_);rintro e w4 ⟨rfl,nJ,yU⟩))
  refine bodyPost_end (results_none rfl _ _ _) rfl ⟨rfl,nJ,?_⟩
  exact((zy.trans iO).trans nG).trans yU):P:=h
theorem oP {P:Prop} (h:P:=by refine bodyPost_end (results_none rfl _ _ _) rfl ⟨rfl,by simpa using bW,?_⟩;exact(Kc.below (b:=b) aG H.out.blt).trans ek):P:=h
theorem OY {P Q:Prop} (q:Q) (h:RowKit.Hid Q→P:=by first|(intro kk;(with_reducible refine(uO.out _ aG).mono ?_);rintro e w1 ⟨rfl,bW,ek⟩;revert ek bW w1;exact kk.out)|fail):P:=h (ah q)
theorem iA {P:Prop} (h:P:=by have H:=ah h;clear h;have uO:=ah hc;clear hc;have hal:=aQ;have bu:=dL;go_enter func126,ntmps126;go_wp2_with (first|(refine OY ?_;intro w1 bW ek));refine bodyPost_end (results_none rfl _ _ _) rfl ⟨rfl,by simpa using bW,?_⟩;exact(Kc.below (b:=b) aG H.out.blt).trans ek):P:=h
namespace Pa
open Go.RowKit aN Qt Bk Mp
attribute [local go_sem] Oper.semAt_some
variable {B b m:Nat} {vs:List ByteArray} {e0 e1 e2:Int} {cd L:Cd} {w:World} {g:FuncId} {lb:Array Value}
theorem RX (cd:Cd) (x y:Int×Int) (R:Cd):(cd++x::R).set cd.length y=cd++y::R:=by simp[List.set_append]
def Qe (B b m:Nat) (vs:List ByteArray) (e0 e1 e2:Int) (W0:World) (g:FuncId) (lb:Array Value) (cd L:Cd):Prop:=
 (∀args w,(callFunc g args).run prog w=.ok (.enter g args) w)∧∀w,Kc b W0 w→eZ w B b m vs e0 e1 e2 cd→Calls prog g lb w fun e w'=>e=.returned (.tuple #[])∧eZ w' B b m vs e0 e1 e2 (cd++L)∧Kc b w w'
theorem VO (h:eZ w B b m vs e0 e1 e2 cd) (hT:Qe B b m vs e0 e1 e2 w g lb (cd++[(19,0)]) L) (hl:cd.length+L.length≤4000):
  Calls prog 246 #[aR b,.func (.func g) #[] lb] w fun e w'=>∃Bt Ba,e=.returned (.func (.func 256) #[] #[aR Bt,aR Ba])∧eZ w' B b m vs e0 e1 e2 (cd++[(19,((cd.length+L.length+2:Nat):Int))]++L++[(18,0)])∧Kc b w w'∧(aV w' Bt [aR b]∧Sf b w' Bt)∧(aV w' Ba [ag (cd.length+1+L.length:Nat)]∧Sf b w' Ba):=by
 have arb:=ah (G5 h ae 19);obtain⟨hg,hT⟩:=hT;have arc:=ah fun(V:World) (hV:eZ V B b m vs e0 e1 e2 (cd++[(19,0)]++L))=>G5 hV bU 18;have HhT:=ah hT;clear hT;refine az ?_;intro hal bu;refine calls_of_wp_defers func246 rfl ?_;simp only[ntmps246,List.size_toArray,List.length_cons,List.length_nil,Nat.reduceAdd,Nat.reduceSub,Array.replicate_succ,Array.replicate_zero,List.push_toArray,List.append_toArray,List.nil_append,List.cons_append];go_wp2_with (first|((with_reducible refine arb.out.mono ?_);rintro e w1 ⟨Bt,Ba,rfl,bW,ek,⟨t1,s1⟩,a1,z1⟩)|((with_reducible refine(HhT.out _ ek bW).mono ?_);rintro e w2 ⟨rfl,gX,iO⟩)|((with_reducible refine(arc.out _ gX).mono ?_);rintro e w3 ⟨Ct,Ca,rfl,jK,nG,⟨t3,s3⟩,a3,z3⟩));have agi:=iO.trans nG;have hp:=Bg (i:=cd.length) (op:=19) (n:=0) jK bU av (agi.blk s1 t1) (agi.blk z1 a1);refine⟨av,_,_,256,#[aR Bt,aR Ba],rfl,by simp[go_sem],?_⟩;refine(hp .returning).mono ?_;rintro e u' w4 ⟨rfl,rfl,nJ,yU⟩;refine⟨_,results_tmp rfl _ _ _,Ct,Ca,rfl,?_,ek.trans (agi.trans yU),⟨yU.blk s3 t3,(yU.sf s3).1⟩,?_,(yU.sf z3).1⟩
 ·have e:(cd++[(19,0)]++L++[(18,0)]).set cd.length (19,((cd++[((19:Int),(0:Int))]++L++[(18,0)]).length:Int))=cd++[(19,((cd.length+L.length+2:Nat):Int))]++L++[(18,0)]:=by have h1:=RX cd (19,0) (19,((cd.length+L.length+2:Nat):Int)) (L++[(18,0)]);have h2:(cd++[((19:Int),(0:Int))]++L++[(18,0)]).length=cd.length+L.length+2:=bU;rw[h2];simp
  rw[e]at nJ;exact nJ
 ·have h1:=yU.blk z3 a3;have h2:(cd++[((19:Int),(0:Int))]++L).length=cd.length+1+L.length:=bU;rw[h2]at h1;exact h1
theorem Qe.on {W0 W1:World} (h:Qe B b m vs e0 e1 e2 W0 g lb cd L) (k:Kc b W0 W1):Qe B b m vs e0 e1 e2 W1 g lb cd L:=⟨h.1,fun w hk hc=>h.2 w (k.trans hk) hc⟩
theorem vw {c t o:Cd} {gc gt go:FuncId} {lc lt lo:Array Value} (h:eZ w B b m vs e0 e1 e2 cd) (hC:Qe B b m vs e0 e1 e2 w gc lc cd c) (hT:Qe B b m vs e0 e1 e2 w gt lt (cd++c++[(19,0)]) t)
  (hO:Qe B b m vs e0 e1 e2 w go lo (cd++c++[(19,(((cd++c).length+t.length+2:Nat):Int))]++t++[(18,0)]) o) (hl:cd.length+c.length+t.length+o.length≤3000):
  Calls prog 198 #[aR b,.func (.func gc) #[] lc,.func (.func gt) #[] lt,.func (.func go) #[] lo] w fun e w'=>e=.returned (.tuple #[])∧eZ w' B b m vs e0 e1 e2 (cd++RA cd.length c t o)∧Kc b w w':=by
 have hgc:=hC.1;have hgt:=hT.1;have hgo:=hO.1;have uO:=ah (hC.2 w (Kc.refl _ _) h);have Hhf:=ah fun(V:World) (hk:Kc b w V) (hV:eZ V B b m vs e0 e1 e2 (cd++c))=>VO hV (hT.on hk) bU;have ho:=hO.2;clear hC hT hO;have KL:=ah ho;clear ho;refine az ?_;intro hal bu;refine calls_of_wp_defers func198 rfl ?_;simp only[ntmps198,List.size_toArray,List.length_cons,List.length_nil,Nat.reduceAdd,Nat.reduceSub,Array.replicate_succ,Array.replicate_zero,List.push_toArray,List.append_toArray,List.nil_append,List.cons_append];go_wp2_with (first|((with_reducible refine uO.out.mono ?_);rintro e w1 ⟨rfl,bW,ek⟩)|((with_reducible refine(Hhf.out _ ek bW).mono ?_);rintro e w2 ⟨Ct,Ca,rfl,gX,iO,⟨t3,s3⟩,a3,z3⟩)|((with_reducible refine(KL.out _ (ek.trans iO) gX).mono ?_);rintro e w3 ⟨rfl,jK,nG⟩));have hp:=Bg (i:=(cd++c).length+1+t.length) (op:=18) (n:=0) jK bU ?_ (nG.blk s3 t3) (nG.blk z3 a3)
 ·refine⟨av,_,_,256,#[aR Ct,aR Ca],rfl,by simp[go_sem],?_⟩;refine(hp .returning).mono ?_;rintro e u' w4 ⟨rfl,rfl,nJ,yU⟩;refine⟨_,results_none rfl _ _ _,rfl,?_,ek.trans (iO.trans (nG.trans yU))⟩;have h1:=RX (cd++c++[(19,(((cd++c).length+t.length+2:Nat):Int))]++t) (18,0) (18,((cd.length+c.length+t.length+o.length+2:Nat):Int)) o;have h2:(cd++c++[((19:Int),(((cd++c).length+t.length+2:Nat):Int))]++t).length=(cd++c).length+1+t.length:=bU;have h3:(cd++c++[((19:Int),(((cd++c).length+t.length+2:Nat):Int))]++t++[((18:Int),(0:Int))]++o).length=cd.length+c.length+t.length+o.length+2:=bU;rw[h2]at h1;rw[h3]at nJ;have h4:cd++c++[((19:Int),(((cd++c).length+t.length+2:Nat):Int))]++t++[((18:Int),(0:Int))]++o=cd++c++[((19:Int),(((cd++c).length+t.length+2:Nat):Int))]++t++(18,0)::o:=av;rw[h4,h1]at nJ;have h5:cd++c++[((19:Int),(((cd++c).length+t.length+2:Nat):Int))]++t++(18,((cd.length+c.length+t.length+o.length+2:Nat):Int))::o=cd++RA cd.length c t o:=by unfold RA;simp only[List.length_append,List.append_assoc,List.cons_append,List.nil_append]
  rw[h5]at nJ;exact nJ
 ·have h2:(cd++c++[((19:Int),(((cd++c).length+t.length+2:Nat):Int))]++t).length=(cd++c).length+1+t.length:=bU;rw[←h2];simp only[List.append_assoc (cd++c++[((19:Int),(((cd++c).length+t.length+2:Nat):Int))]++t),List.cons_append,List.nil_append];rw[List.getElem?_append_right (Nat.le_refl _),Nat.sub_self];rfl
theorem R9 (s:ByteArray) (w:World):Calls prog 205 #[.string s] w fun e w'=>e=.returned (ag (opc s))∧w'=w:=by
 have h0:(s.toList==[43])=eH s xD:=dP;have h1:(s.toList==[45])=eH s iP:=dP;have h2:(s.toList==[42])=eH s qB:=dP;have h3:(s.toList==[47])=eH s xE:=dP;have h4:(s.toList==[60])=eH s ⟨#[60]⟩:=dP;have h5:(s.toList==[62])=eH s ⟨#[62]⟩:=dP;have h6:(s.toList==[60,61])=eH s ⟨#[60,61]⟩:=dP;have h7:(s.toList==[62,61])=eH s ⟨#[62,61]⟩:=dP;unfold opc;generalize eH s xD=x0 at*;generalize eH s iP=x1 at*;generalize eH s qB=x2 at*;generalize eH s xE=x3 at*;generalize eH s ⟨#[60]⟩=x4 at*;generalize eH s ⟨#[62]⟩=x5 at*;generalize eH s ⟨#[60,61]⟩=x6 at*;generalize eH s ⟨#[62,61]⟩=x7 at*;cases x0
 case true=>go_enter func205,ntmps205;go_wp2;go_ret;exact⟨av,rfl⟩
 cases x1
 case true=>go_enter func205,ntmps205;go_wp2;go_ret;exact⟨av,rfl⟩
 cases x2
 case true=>go_enter func205,ntmps205;go_wp2;go_ret;exact⟨av,rfl⟩
 cases x3
 case true=>go_enter func205,ntmps205;go_wp2;go_ret;exact⟨av,rfl⟩
 cases x4
 case true=>go_enter func205,ntmps205;go_wp2;go_ret;exact⟨av,rfl⟩
 cases x5
 case true=>go_enter func205,ntmps205;go_wp2;go_ret;exact⟨av,rfl⟩
 cases x6
 case true=>go_enter func205,ntmps205;go_wp2;go_ret;exact⟨av,rfl⟩
 cases x7
 case true=>go_enter func205,ntmps205;go_wp2;go_ret;exact⟨av,rfl⟩
 go_enter func205,ntmps205;go_wp2;go_ret;exact⟨av,rfl⟩
theorem Zk {w:World} {B b m:Nat} {vs:List ByteArray} {e0 e1 e2:Int} {cd:Cd} (h:eZ w B b m vs e0 e1 e2 cd) (hl:cd.length≤5000) (k n:Int) (s:ByteArray) (a:Option Addr) (l c:Nat):
  Calls prog 164 #[aR b,.agg #[ag k,ag n,.string s,.slice a l c]] w fun e w'=>e=.returned (.tuple #[])∧eZ w' B b m vs e0 e1 e2 (cd++[(if eH s GK then 6 else if eH s zw then 7 else 8,0)])∧Kc b w w':=by
 have he:=fun(op:Int) (V:World) (hV:aJ w V)=>fK (h.on hV) hl op 0;have H:=ah h;clear h;have h1:(s.toList==[115,101,108,102])=eH s GK:=dP;have h2:(s.toList==[111,116,104,101,114])=eH s zw:=dP;refine az ?_;intro hal bu;cases x1:eH s GK
 case true=>rw[x1]at h1;have g1:=h1;clear x1;exact xU
 cases x2:eH s zw
 case true=>rw[x1]at h1;rw[x2]at h2;have g1:=h1;have g2:=h2;clear x1 x2;exact xU
 case false=>rw[x1]at h1;rw[x2]at h2;have g1:=h1;have g2:=h2;clear x1 x2;exact xU
def arz:Array MapEntry:=⟨uj ab5 0⟩
theorem G7 (t:ByteArray):∀(l:List ByteArray) (b i:Nat),(∀j,l.findIdx? (fun x=>eH x t)=some j→∃k,Instr.findNow .string (.string t) (uj l b) i=some (some (k,ag (b+j:Nat))))∧(l.findIdx? (fun x=>eH x t)=none→Instr.findNow .string (.string t) (uj l b) i=some none)
 |[],b,i=>⟨av,fun _=>rfl⟩
 |k::l,b,i=>by
  have ih:=G7 t l (b+1) (i+1)
  have hb:(t==k)=eH k t:=by rw[Ai,qz]
  simp only[uj,Instr.findNow,Instr.sameNow,hb,List.findIdx?_cons]
  cases eH k t with
  |true=>exact⟨fun j h=>by simp at h;subst h;exact⟨i,rfl⟩,av⟩
  |false=>
   refine⟨fun j h=>?_,fun h=>?_⟩
   ·simp only[Bool.false_eq_true,if_false,Option.map_eq_some_iff]at h
    obtain⟨j',h1,rfl⟩:=h
    obtain⟨k',h2⟩:=ih.1 j' h1
    exact⟨k',by rw[show b+(j'+1)=b+1+j' from ae];exact h2⟩
   ·simp only[Bool.false_eq_true,if_false,Option.map_eq_none_iff]at h
    exact ih.2 h
theorem JS (s:ByteArray) (w:World):Calls prog 163 #[.string s] w fun e w'=>e=.returned (ag (fIx s))∧aJ w w':=by
 have hf:=G7 s ab5 0 0;have m0:=uQ (P:=prog) 220 w;have m1:=qZ underlying220 underlying9 rfl w #[] 0 (.string ⟨#[120]⟩) (ag 0) aL;simp only[nu,Nat.reduceAdd]at m1;have m2:=bJ m1 underlying220 underlying9 rfl (.string ⟨#[121]⟩) (ag 1) aL;simp only[nu,Nat.reduceAdd]at m2;have m3:=bJ m2 underlying220 underlying9 rfl (.string ⟨#[118,120]⟩) (ag 2) aL;simp only[nu,Nat.reduceAdd]at m3;have m4:=bJ m3 underlying220 underlying9 rfl (.string ⟨#[118,121]⟩) (ag 3) aL;simp only[nu,Nat.reduceAdd]at m4;have m5:=bJ m4 underlying220 underlying9 rfl (.string ⟨#[97]⟩) (ag 4) aL;simp only[nu,Nat.reduceAdd]at m5;have m6:=bJ m5 underlying220 underlying9 rfl (.string ⟨#[98]⟩) (ag 5) aL;simp only[nu,Nat.reduceAdd]at m6;have m7:=bJ m6 underlying220 underlying9 rfl (.string ⟨#[104,105,116]⟩) (ag 6) aL;simp only[nu,Nat.reduceAdd]at m7;have m8:=bJ m7 underlying220 underlying9 rfl (.string ⟨#[115,116,105,108,108]⟩) (ag 7) aL;simp only[nu,Nat.reduceAdd]at m8;have hh:(w.alloc (.map #[⟨.string ⟨#[120]⟩,ag 0,0⟩,⟨.string ⟨#[121]⟩,ag 1,1⟩,⟨.string ⟨#[118,120]⟩,ag 2,2⟩,⟨.string ⟨#[118,121]⟩,ag 3,3⟩,⟨.string ⟨#[97]⟩,ag 4,4⟩,⟨.string ⟨#[98]⟩,ag 5,5⟩,⟨.string ⟨#[104,105,116]⟩,ag 6,6⟩,⟨.string ⟨#[115,116,105,108,108]⟩,ag 7,7⟩] 8)).heap[w.heap.size]?=some (.map arz 8):=alloc_at rfl;unfold fIx;cases hx:ab5.findIdx? (fun x=>eH x s)with
 |none=>have hlk:=ug (P:=prog) underlying220 underlying9 rfl hh (hf.2 hx) (Am _) true;clear hf hx hh;go_enter func163,ntmps163;go_wp2;go_ret;exact⟨rfl,by exact aG⟩
 |some j=>obtain⟨k,hk⟩:=hf.1 j hx;have hlk:=tZ (P:=prog) underlying220 underlying9 rfl hh hk true;rw[Nat.zero_add]at hlk;clear hf hx hh hk;go_enter func163,ntmps163;go_wp2;go_ret;exact⟨av,by exact aG⟩
def AO (vs:List ByteArray) (f:Nat):Prop:=∀(x:Nd) (L cd:Cd),lh vs f cd.length x=some L→cd.length+L.length≤2000→∀(w:World) (B b m:Nat) (e0 e1 e2:Int) (a:Option Addr) (n c:Nat),eZ w B b m vs e0 e1 e2 cd→ig w (fun k=>k<B) x.kids a n c→
 Calls prog 126 #[aR b,.agg #[ag x.kind,ag x.num,.string x.str,.slice a n c]] w fun e w'=>e=.returned (.tuple #[])∧eZ w' B b m vs e0 e1 e2 (cd++L)∧Kc b w w'
theorem jy {vs:List ByteArray} {f:Nat} (hT:AO vs f) {x:Nd} {i:Nat} (hi:i<x.kids.length) {L cd:Cd} (hx:lh vs f cd.length (dF x.kids i)=some L) (hl:cd.length+L.length≤2000) {w:World} {B b m:Nat} {e0 e1 e2:Int} {a:Option Addr} {n c:Nat} (h:eZ w B b m vs e0 e1 e2 cd) (hk:ig w (fun k=>k<B) x.kids a n c) (k v:Int) (s:ByteArray):
  Calls prog 162 #[aR b,.agg #[ag k,ag v,.string s,.slice a n c],ag i] w fun e w'=>e=.returned (.tuple #[])∧eZ w' B b m vs e0 e1 e2 (cd++L)∧Kc b w w':=by
 have hin:i<n:=by rw[hk.len.1];exact hi
 have hiI:(i:Int)<(n:Int):=ae;obtain⟨g,rfl,hg,hget⟩:=hk.get ae;obtain⟨a',n',c',⟨d0,d1,d2,d3⟩,hkk⟩:=hget i hin;change w.cell? _=some (Value.int .i64 (dF x.kids i).kind)at d0;change w.cell? _=some (Value.int .i64 (dF x.kids i).num)at d1;change w.cell? _=some (Value.string (dF x.kids i).str)at d2;change ig w _ (dF x.kids i).kids _ _ _ at hkk;have uo:=ah fun(V:World) (hV:aJ w V)=>hT (dF x.kids i) L cd hx hl V B b m e0 e1 e2 a' n' c' (h.on hV) (hkk.on hV);have H:=ah h;clear h hk hkk hget hx hT;generalize dF x.kids i=y at*;refine az ?_;intro hal bu;go_enter func162,ntmps162;go_wp2_with (first|((with_reducible refine(uo.out _ aG).mono ?_);rintro e w1 ⟨rfl,bW,ek⟩));exact xS
theorem yD {vs:List ByteArray} {f:Nat} (hT:AO vs f) {x:Nd} (hi:0<x.kids.length) {L cd:Cd} (hx:lh vs f cd.length (dF x.kids 0)=some L) (hl:cd.length+L.length+1≤2000) {w:World} {B b m:Nat} {e0 e1 e2:Int} {a:Option Addr} {n c:Nat} (h:eZ w B b m vs e0 e1 e2 cd) (hk:ig w (fun k=>k<B) x.kids a n c) (k v:Int) (s:ByteArray):
  Calls prog 165 #[aR b,.agg #[ag k,ag v,.string s,.slice a n c]] w fun e w'=>e=.returned (.tuple #[])∧eZ w' B b m vs e0 e1 e2 (cd++L++[(if eH s iP then 13 else 17,0)])∧Kc b w w':=by
 have hkd:=fun(V:World) (hV:aJ w V)=>jy hT hi hx ae (h.on hV) (hk.on hV) k v s;simp only[show((0:Nat):Int)=0 from rfl]at hkd;have lD:=ah fun(op:Int) (V:World) (hV:eZ V B b m vs e0 e1 e2 (cd++L))=>fK hV bU op 0;have h1:(s.toList==[45])=eH s iP:=dP;have H:=ah h;clear h hk hx hT;have G8:=ah hkd;clear hkd;refine az ?_;intro hal bu;have go:∀y:Bool,eH s iP=y→Calls prog 165 #[aR b,.agg #[ag k,ag v,.string s,.slice a n c]] w fun e w'=>e=.returned (.tuple #[])∧eZ w' B b m vs e0 e1 e2 (cd++L++[(if y then 13 else 17,0)])∧Kc b w w':=by
  intro y hy;rw[hy]at h1;clear hy;cases y
  all_goals
   go_enter func165,ntmps165
   go_wp2_with (first|((with_reducible refine(G8.out _ aG).mono ?_);rintro e w1 ⟨rfl,bW,ek⟩;have kb:=ek.blk (H.out.jk (x:=w.heap.size) aG (aH _) av) (aV.new w [ag k,ag v,.string s,.slice a n c] _ _ rfl);have cb:=kb.cell)|((with_reducible refine(lD.out _ _ bW).mono ?_);rintro e w2 ⟨rfl,gX,iO⟩))
   refine bodyPost_end (results_none rfl _ _ _) rfl ⟨rfl,by simpa using gX,?_⟩
   exact((Kc.below (b:=b) aG H.out.blt).trans ek).trans iO
 exact go _ rfl
variable {cd L Gy:Cd} {W0:World} {B b m Bt f Bn n c:Nat} {e0 e1 e2 k v:Int} {x:Nd} {a:Option Addr} {s:ByteArray}
theorem alq (hT:AO vs f) (hi:0<x.kids.length) (hx:lh vs f cd.length (dF x.kids 0)=some L) (hl:cd.length+L.length≤2000) (h0:eZ W0 B b m vs e0 e1 e2 Gy) (hk:ig W0 (fun k=>k<B) x.kids a n c)
  (kt:aV W0 Bt [aR b]) (st:Sf b W0 Bt) (kn:aV W0 Bn [ag k,ag v,.string s,.slice a n c]) (sn:Sf b W0 Bn):Qe B b m vs e0 e1 e2 W0 199 #[aR Bt,aR Bn] cd L:=by refine⟨enters_of func199 aL rfl,fun w hK hc=>?_⟩;have ct:=(hK.blk st kt).cell;have cn:=(hK.blk sn kn).cell;refine j4 ?_;intro hkd;simp only[show((0:Nat):Int)=0 from rfl]at hkd;clear hT hx hk kt st kn sn hc hK h0;have G8:=ah hkd;clear hkd;go_enter func199,ntmps199;exact j5
theorem alr (hT:AO vs f) (hi:1<x.kids.length) (hx:lh vs f cd.length (dF x.kids 1)=some L) (hl:cd.length+L.length≤2000) (h0:eZ W0 B b m vs e0 e1 e2 Gy) (hk:ig W0 (fun k=>k<B) x.kids a n c)
  (kt:aV W0 Bt [aR b]) (st:Sf b W0 Bt) (kn:aV W0 Bn [ag k,ag v,.string s,.slice a n c]) (sn:Sf b W0 Bn):Qe B b m vs e0 e1 e2 W0 200 #[aR Bt,aR Bn] cd L:=by refine⟨enters_of func200 aL rfl,fun w hK hc=>?_⟩;have ct:=(hK.blk st kt).cell;have cn:=(hK.blk sn kn).cell;refine j4 ?_;intro hkd;simp only[show((1:Nat):Int)=1 from rfl]at hkd;clear hT hx hk kt st kn sn hc hK h0;have G8:=ah hkd;clear hkd;go_enter func200,ntmps200;exact j5
theorem alu (hT:AO vs f) (hi:0<x.kids.length) (hx:lh vs f cd.length (dF x.kids 0)=some L) (hl:cd.length+L.length≤2000) (h0:eZ W0 B b m vs e0 e1 e2 Gy) (hk:ig W0 (fun k=>k<B) x.kids a n c)
  (kt:aV W0 Bt [aR b]) (st:Sf b W0 Bt) (kn:aV W0 Bn [ag k,ag v,.string s,.slice a n c]) (sn:Sf b W0 Bn):Qe B b m vs e0 e1 e2 W0 202 #[aR Bt,aR Bn] cd L:=by refine⟨enters_of func202 aL rfl,fun w hK hc=>?_⟩;have ct:=(hK.blk st kt).cell;have cn:=(hK.blk sn kn).cell;refine j4 ?_;intro hkd;simp only[show((0:Nat):Int)=0 from rfl]at hkd;clear hT hx hk kt st kn sn hc hK h0;have G8:=ah hkd;clear hkd;go_enter func202,ntmps202;exact j5
theorem alx (hT:AO vs f) (hi:1<x.kids.length) (hx:lh vs f cd.length (dF x.kids 1)=some L) (hl:cd.length+L.length≤2000) (h0:eZ W0 B b m vs e0 e1 e2 Gy) (hk:ig W0 (fun k=>k<B) x.kids a n c)
  (kt:aV W0 Bt [aR b]) (st:Sf b W0 Bt) (kn:aV W0 Bn [ag k,ag v,.string s,.slice a n c]) (sn:Sf b W0 Bn):Qe B b m vs e0 e1 e2 W0 204 #[aR Bt,aR Bn] cd L:=by refine⟨enters_of func204 aL rfl,fun w hK hc=>?_⟩;have ct:=(hK.blk st kt).cell;have cn:=(hK.blk sn kn).cell;refine j4 ?_;intro hkd;simp only[show((1:Nat):Int)=1 from rfl]at hkd;clear hT hx hk kt st kn sn hc hK h0;have G8:=ah hkd;clear hkd;go_enter func204,ntmps204;exact j5
theorem aln (hT:AO vs f) (hi:0<x.kids.length) (hx:lh vs f cd.length (dF x.kids 0)=some L) (hl:cd.length+L.length≤2000) (h0:eZ W0 B b m vs e0 e1 e2 Gy) (hk:ig W0 (fun k=>k<B) x.kids a n c)
  (kt:aV W0 Bt [aR b]) (st:Sf b W0 Bt) (kn:aV W0 Bn [ag k,ag v,.string s,.slice a n c]) (sn:Sf b W0 Bn):Qe B b m vs e0 e1 e2 W0 206 #[aR Bt,aR Bn] cd L:=by refine⟨enters_of func206 aL rfl,fun w hK hc=>?_⟩;have ct:=(hK.blk st kt).cell;have cn:=(hK.blk sn kn).cell;refine j4 ?_;intro hkd;simp only[show((0:Nat):Int)=0 from rfl]at hkd;clear hT hx hk kt st kn sn hc hK h0;have G8:=ah hkd;clear hkd;go_enter func206,ntmps206;exact j5
theorem alo (hT:AO vs f) (hi:1<x.kids.length) (hx:lh vs f cd.length (dF x.kids 1)=some L) (hl:cd.length+L.length≤2000) (h0:eZ W0 B b m vs e0 e1 e2 Gy) (hk:ig W0 (fun k=>k<B) x.kids a n c)
  (kt:aV W0 Bt [aR b]) (st:Sf b W0 Bt) (kn:aV W0 Bn [ag k,ag v,.string s,.slice a n c]) (sn:Sf b W0 Bn):Qe B b m vs e0 e1 e2 W0 207 #[aR Bt,aR Bn] cd L:=by refine⟨enters_of func207 aL rfl,fun w hK hc=>?_⟩;have ct:=(hK.blk st kt).cell;have cn:=(hK.blk sn kn).cell;refine j4 ?_;intro hkd;simp only[show((1:Nat):Int)=1 from rfl]at hkd;clear hT hx hk kt st kn sn hc hK h0;have G8:=ah hkd;clear hkd;go_enter func207,ntmps207;exact j5
theorem alp (hT:AO vs f) (hi:2<x.kids.length) (hx:lh vs f cd.length (dF x.kids 2)=some L) (hl:cd.length+L.length≤2000) (h0:eZ W0 B b m vs e0 e1 e2 Gy) (hk:ig W0 (fun k=>k<B) x.kids a n c)
  (kt:aV W0 Bt [aR b]) (st:Sf b W0 Bt) (kn:aV W0 Bn [ag k,ag v,.string s,.slice a n c]) (sn:Sf b W0 Bn):Qe B b m vs e0 e1 e2 W0 208 #[aR Bt,aR Bn] cd L:=by refine⟨enters_of func208 aL rfl,fun w hK hc=>?_⟩;have ct:=(hK.blk st kt).cell;have cn:=(hK.blk sn kn).cell;refine j4 ?_;intro hkd;simp only[show((2:Nat):Int)=2 from rfl]at hkd;clear hT hx hk kt st kn sn hc hK h0;have G8:=ah hkd;clear hkd;go_enter func208,ntmps208;exact j5
theorem als (hl:cd.length≤5000) (kt:aV W0 Bt [aR b]) (st:Sf b W0 Bt):Qe B b m vs e0 e1 e2 W0 201 #[aR Bt] cd [(1,0)]:=by refine⟨enters_of func201 aL rfl,fun w hK hc=>?_⟩;have ct:=(hK.blk st kt).cell;have lD:=ah (fK hc hl 1 0);clear kt st hc hK;go_enter func201,ntmps201;exact DL
theorem alv (hl:cd.length≤5000) (kt:aV W0 Bt [aR b]) (st:Sf b W0 Bt):Qe B b m vs e0 e1 e2 W0 203 #[aR Bt] cd [(1,1)]:=by refine⟨enters_of func203 aL rfl,fun w hK hc=>?_⟩;have ct:=(hK.blk st kt).cell;have lD:=ah (fK hc hl 1 1);clear kt st hc hK;go_enter func203,ntmps203;exact DL
variable {f B b m n c:Nat} {L1 L2 cd:Cd}
theorem acA (s:ByteArray) (x:One w.drew):Calls prog 205 #[.string s] x.out fun e w''=>e=.returned (ag (opc s))∧∃y:One w.drew,w''=y.out:=(R9 s x.out).mono fun e w' ⟨he,hw⟩=>⟨he,x,hw⟩
theorem acv (hT:AO vs f) (hi:1<x.kids.length) (mg:lh vs f (cd.length) (dF x.kids 0)=some L1) (vT:lh vs f (cd.length+L1.length) (dF x.kids 1)=some L2) (hl:cd.length+L1.length+L2.length≤1999) (h:eZ w B b m vs e0 e1 e2 cd) (hk:ig w (fun k=>k<B) x.kids a n c) (k v:Int) (s:ByteArray) (g0:eH s qA=false) (g1:eH s Iw=false) (g2:eH s ⟨#[62]⟩=false) (g3:eH s ⟨#[62,61]⟩=false) (g4:eH s ⟨#[33,61]⟩=false):
  Calls prog 166 #[aR b,.agg #[ag k,ag v,.string s,.slice a n c]] w fun e w'=>e=.returned (.tuple #[])∧eZ w' B b m vs e0 e1 e2 (cd++L1++L2++[(opc s,0)])∧Kc b w w':=by have bP:=trivial;exact De
theorem agk (hT:AO vs f) (hi:1<x.kids.length) (mg:lh vs f (cd.length) (dF x.kids 1)=some L1) (vT:lh vs f (cd.length+L1.length) (dF x.kids 0)=some L2) (hl:cd.length+L1.length+L2.length≤1999) (h:eZ w B b m vs e0 e1 e2 cd) (hk:ig w (fun k=>k<B) x.kids a n c) (k v:Int) (s:ByteArray) (g0:eH s qA=false) (g1:eH s Iw=false) (g2:eH s ⟨#[62]⟩=true):
  Calls prog 166 #[aR b,.agg #[ag k,ag v,.string s,.slice a n c]] w fun e w'=>e=.returned (.tuple #[])∧eZ w' B b m vs e0 e1 e2 (cd++L1++L2++[(opc s,0)])∧Kc b w w':=by refine oV ?_;intro h0;refine oW ?_;intro h1;refine oZ ?_;intro h2;refine o5 ?_;intro h3;refine o6 ?_;intro h4;rw[g0]at h0;rw[g1]at h1;rw[g2]at h2;exact DJ
theorem agl (hT:AO vs f) (hi:1<x.kids.length) (mg:lh vs f (cd.length) (dF x.kids 1)=some L1) (vT:lh vs f (cd.length+L1.length) (dF x.kids 0)=some L2) (hl:cd.length+L1.length+L2.length≤1999) (h:eZ w B b m vs e0 e1 e2 cd) (hk:ig w (fun k=>k<B) x.kids a n c) (k v:Int) (s:ByteArray) (g0:eH s qA=false) (g1:eH s Iw=false) (g2:eH s ⟨#[62]⟩=false) (g3:eH s ⟨#[62,61]⟩=true):
  Calls prog 166 #[aR b,.agg #[ag k,ag v,.string s,.slice a n c]] w fun e w'=>e=.returned (.tuple #[])∧eZ w' B b m vs e0 e1 e2 (cd++L1++L2++[(opc s,0)])∧Kc b w w':=by refine oV ?_;intro h0;refine oW ?_;intro h1;refine oZ ?_;intro h2;refine o5 ?_;intro h3;refine o6 ?_;intro h4;rw[g0]at h0;rw[g1]at h1;rw[g2]at h2;rw[g3]at h3;exact DJ
theorem agm (hT:AO vs f) (hi:1<x.kids.length) (mg:lh vs f (cd.length) (dF x.kids 0)=some L1) (vT:lh vs f (cd.length+L1.length) (dF x.kids 1)=some L2) (hl:cd.length+L1.length+L2.length≤1999) (h:eZ w B b m vs e0 e1 e2 cd) (hk:ig w (fun k=>k<B) x.kids a n c) (k v:Int) (s:ByteArray) (g0:eH s qA=false) (g1:eH s Iw=false) (g2:eH s ⟨#[62]⟩=false) (g3:eH s ⟨#[62,61]⟩=false) (g4:eH s ⟨#[33,61]⟩=true):
  Calls prog 166 #[aR b,.agg #[ag k,ag v,.string s,.slice a n c]] w fun e w'=>e=.returned (.tuple #[])∧eZ w' B b m vs e0 e1 e2 (cd++L1++L2++[(16,0)]++[(17,0)])∧Kc b w w':=by have gu:=trivial;exact De
theorem acu (hT:AO vs f) (hi:1<x.kids.length) (mg:lh vs f (cd.length) (dF x.kids 0)=some L1) (vT:lh vs f (cd.length+L1.length+1) (dF x.kids 1)=some L2) (hl:cd.length+L1.length+L2.length≤1997) (h:eZ w B b m vs e0 e1 e2 cd) (hk:ig w (fun k=>k<B) x.kids a n c) (k v:Int) (s:ByteArray) (g0:eH s qA=true):
  Calls prog 166 #[aR b,.agg #[ag k,ag v,.string s,.slice a n c]] w fun e w'=>e=.returned (.tuple #[])∧eZ w' B b m vs e0 e1 e2 (cd++RA cd.length L1 L2 [(1,0)])∧Kc b w w':=by
 refine oV ?_;intro h0;refine oW ?_;intro h1;refine oZ ?_;intro h2;refine o5 ?_;intro h3;refine o6 ?_;intro h4;rw[g0]at h0;have hcall:∀V:World,aJ w V→aV V w.heap.size [aR b]→aV V (w.heap.size+1) [ag k,ag v,.string s,.slice a n c]→Calls prog 198 #[aR b,.func (.func 199) #[] #[aR w.heap.size,.pointer (some ⟨w.heap.size+1,0,none⟩)],.func (.func 200) #[] #[aR w.heap.size,.pointer (some ⟨w.heap.size+1,0,none⟩)],.func (.func 201) #[] #[aR w.heap.size]] V fun e w'=>e=.returned (.tuple #[])∧eZ w' B b m vs e0 e1 e2 (cd++RA cd.length L1 L2 [(1,0)])∧Kc b V w':=fun V hV kt kn=>by have hc:=h.on hV;have hkV:=hk.on hV;have st:=h.jk hV (aH _) kt.lt;have sn:=h.jk hV (Nat.le_succ _) kn.lt;exact vw hc (alq hT ae mg ae hc hkV kt st kn sn) (alr hT hi rT bU hc hkV kt st kn sn) (als bU kt st) bU
 have H:=ah h;clear h hk mg vT hT hi;have vo:=ah hcall;clear hcall;refine az ?_;intro hal bu;go_enter func166,ntmps166;go_wp2_with (first|((with_reducible refine(vo.out _ aG ((aV.new w [aR b] _ _ rfl).alloc _) (aV.new (w.alloc _) [ag k,ag v,.string s,.slice a n c] _ _ av)).mono ?_);rintro e w1 ⟨rfl,bW,ek⟩));exact xS
theorem agj (hT:AO vs f) (hi:1<x.kids.length) (mg:lh vs f (cd.length) (dF x.kids 0)=some L1) (vT:lh vs f (cd.length+L1.length+3) (dF x.kids 1)=some L2) (hl:cd.length+L1.length+L2.length≤1997) (h:eZ w B b m vs e0 e1 e2 cd) (hk:ig w (fun k=>k<B) x.kids a n c) (k v:Int) (s:ByteArray) (g0:eH s qA=false) (g1:eH s Iw=true):
  Calls prog 166 #[aR b,.agg #[ag k,ag v,.string s,.slice a n c]] w fun e w'=>e=.returned (.tuple #[])∧eZ w' B b m vs e0 e1 e2 (cd++RA cd.length L1 [(1,1)] L2)∧Kc b w w':=by
 refine oV ?_;intro h0;refine oW ?_;intro h1;refine oZ ?_;intro h2;refine o5 ?_;intro h3;refine o6 ?_;intro h4;rw[g0]at h0;rw[g1]at h1;have hcall:∀V:World,aJ w V→aV V w.heap.size [aR b]→aV V (w.heap.size+1) [ag k,ag v,.string s,.slice a n c]→Calls prog 198 #[aR b,.func (.func 202) #[] #[aR w.heap.size,.pointer (some ⟨w.heap.size+1,0,none⟩)],.func (.func 203) #[] #[aR w.heap.size],.func (.func 204) #[] #[aR w.heap.size,.pointer (some ⟨w.heap.size+1,0,none⟩)]] V fun e w'=>e=.returned (.tuple #[])∧eZ w' B b m vs e0 e1 e2 (cd++RA cd.length L1 [(1,1)] L2)∧Kc b V w':=fun V hV kt kn=>by have hc:=h.on hV;have hkV:=hk.on hV;have st:=h.jk hV (aH _) kt.lt;have sn:=h.jk hV (Nat.le_succ _) kn.lt;exact vw hc (alu hT ae mg ae hc hkV kt st kn sn) (alv bU kt st) (alx hT hi rT bU hc hkV kt st kn sn) bU
 have H:=ah h;clear h hk mg vT hT hi;have vo:=ah hcall;clear hcall;refine az ?_;intro hal bu;go_enter func166,ntmps166;go_wp2_with (first|((with_reducible refine(vo.out _ aG ((aV.new w [aR b] _ _ rfl).alloc _) (aV.new (w.alloc _) [ag k,ag v,.string s,.slice a n c] _ _ av)).mono ?_);rintro e w1 ⟨rfl,bW,ek⟩));exact xS
theorem acz (vs:List ByteArray) (f c:Nat):lh vs f c nd0=none:=by
 cases f with
 |zero=>rfl
 |succ f=>rfl
theorem jJ {vs:List ByteArray} {f c i:Nat} {l:List Nd} {L:Cd} (h:lh vs f c (dF l i)=some L):i<l.length:=by
 rcases Nat.lt_or_ge i l.length with h1|h1
 ·exact h1
 ·have h2:dF l i=nd0:=by simp[dF,h1]
  rw[h2,acz]at h;cases h
def R7 (vs:List ByteArray) (f c:Nat) (o:Option Cd) (x:Nd):Option Cd:=o.bind fun a=>(lh vs f (c+a.length) x).map (a++·)
theorem JV (vs:List ByteArray) (f c:Nat):∀l:List Nd,l.foldl (R7 vs f c) none=none
 |[]=>rfl
 |x::l=>JV vs f c l
theorem JU (vs:List ByteArray) (f c:Nat):∀(l:List Nd) (a0 L:Cd),l.foldl (R7 vs f c) (some a0)=some L→
  ∃As:Nat→Cd,As 0=a0∧As l.length=L∧(∀i,i≤l.length→(As i).length≤L.length)∧∀i,i<l.length→∃K,lh vs f (c+(As i).length) (dF l i)=some K∧As (i+1)=As i++K
 |[],a0,L,h=>by
  simp only[List.foldl_nil,Option.some.injEq]at h
  subst h
  exact⟨fun _=>a0,rfl,rfl,fun _ _=>aH _,av⟩
 |x::l,a0,L,h=>by
  simp only[List.foldl_cons]at h
  cases hx:lh vs f (c+a0.length) x with
  |none=>
   have h1:R7 vs f c (some a0) x=none:=by simp[R7,hx]
   rw[h1,JV]at h
   cases h
  |some K=>
   have h1:R7 vs f c (some a0) x=some (a0++K):=by simp[R7,hx]
   rw[h1]at h
   obtain⟨As,p1,p2,p3,p4⟩:=JU vs f c l _ _ h
   refine⟨fun i=>match i with|0=>a0|i+1=>As i,rfl,by simpa using p2,fun i hi=>?_,fun i hi=>?_⟩
   ·cases i with
    |zero=>
     have:=p3 0 (Nat.zero_le _)
     rw[p1]at this
     simp at this
     show a0.length≤L.length
     omega
    |succ i=>exact p3 i (by simpa using hi)
   ·cases i with
    |zero=>exact⟨K,hx,p1⟩
    |succ i=>exact p4 i (by simpa using hi)
variable {m B b n f c:Nat} {cd L1 L2 L3:Cd}
theorem acx (h:w.heap[m]?=some (.map (uZ vs) n)) (s:ByteArray):Sem.run prog (Instr.lookup 220 (.map (some m)) (.string s) false) w=.ok (ag (vIx vs s)) w:=by
 have hf:=G7 s vs 0 0;unfold vIx;cases hx:vs.findIdx? (fun x=>eH x s)with
 |none=>have h1:=ug (P:=prog) underlying220 underlying9 rfl h (hf.2 hx) (Am _) false;simpa using h1
 |some j=>obtain⟨k,hk⟩:=hf.1 j hx;have h1:=tZ (P:=prog) underlying220 underlying9 rfl h hk false;rw[Nat.zero_add]at h1;simpa using h1
theorem eZ.map (h:eZ w B b m vs e0 e1 e2 cd):w.cell? ⟨b,1,none⟩=some (.map (some m)):=by obtain⟨a,cap,k,_,_⟩:=h.ex;exact k.cell 1
theorem eZ.look {V:World} (h:eZ w B b m vs e0 e1 e2 cd) (hb:aJ w V) (s:ByteArray):Sem.run prog (Instr.lookup 220 (.map (some m)) (.string s) false) V=.ok (ag (vIx vs s)) V:=acx (h.on hb).mp s
theorem VR (s:ByteArray) (x:dh w):Calls prog 163 #[.string s] x.out fun e w'=>e=.returned (ag (fIx s))∧∃y:dh w,w'=y.out:=(JS s x.out).mono fun e w' ⟨he,hb⟩=>⟨he,⟨w',(x.below).trans (hb.mono x.below.size)⟩,rfl⟩
theorem Zl (hT:AO vs f) {L3:Cd} (mg:lh vs f (cd.length) (dF x.kids 0)=some L1) (vT:lh vs f (cd.length+L1.length+1) (dF x.kids 1)=some L2) (hl:cd.length+L1.length+L2.length≤1998) (h:eZ w B b m vs e0 e1 e2 cd) (hk:ig w (fun k=>k<B) x.kids a n c) (k:Int) (v:Int) (s:ByteArray):
  Calls prog 209 #[aR b,.agg #[ag k,ag v,.string s,.slice a n c]] w fun e w'=>e=.returned (.tuple #[])∧eZ w' B b m vs e0 e1 e2 (cd++(L1++[(19,((cd.length+L1.length+L2.length+2:Nat):Int))]++L2++[(18,(cd.length:Int))]))∧Kc b w w':=by have o9:=jJ mg;have pK:=jJ vT;have ek:=fun(V:World) (hV:aJ w V)=>jy hT o9 mg ae (h.on hV) (hk.on hV) k v s;have Hhj:=ah fun(V:World) (hV:eZ V B b m vs e0 e1 e2 (cd++L1))=>G5 hV bU 19;have iO:=fun(V:World) (hK:Kc b w V) (hV:eZ V B b m vs e0 e1 e2 (cd++L1++[(19,0)]))=>jy hT pK (cd:=cd++L1++[(19,0)]) (L:=L2) rT bU hV (hk.keep hK.size (fun q hq _=>h.old hK q hq)) k v s;have lD:=ah fun(V:World) (hV:eZ V B b m vs e0 e1 e2 (cd++L1++[(19,0)]++L2))=>fK hV bU 18 cd.length;obtain⟨a',cap,kA,own,ne⟩:=h.ex;have ck:=kA.cell;have lk:=kA.lt;simp only[show((0:Nat):Int)=0 from rfl,show((1:Nat):Int)=1 from rfl]at ek iO;clear kA own ne o9 pK;have H:=ah h;clear h hk mg vT hT;have Ar:=ah ek;have VS:=ah iO;clear ek iO;refine az ?_;intro hal bu;refine calls_of_wp_defers func209 rfl ?_;simp only[ntmps209,List.size_toArray,List.length_cons,List.length_nil,Nat.reduceAdd,Nat.reduceSub,Array.replicate_succ,Array.replicate_zero,List.push_toArray,List.append_toArray,List.nil_append,List.cons_append];go_wp2_with (first|((with_reducible refine(Ar.out _ aG).mono ?_);rintro e w1 ⟨rfl,bW,ek⟩;have zy:=(Kc.below (b:=b) aG H.out.blt).trans ek;have s2:=H.out.jk (V:=(w.alloc (.cells #[ag k,ag v,.string s,.slice a n c] 183))) (x:=w.heap.size) aG (aH _) av;have b2:=ek.blk s2 (aV.new w [ag k,ag v,.string s,.slice a n c] _ _ rfl);replace s2:=(ek.sf s2).1;have c2:=b2.cell)|((with_reducible refine(Hhj.out _ bW).mono ?_);rintro e w2 ⟨Bt,Ba,rfl,gX,iO,⟨t1,z1⟩,a1,y1⟩;replace b2:=iO.blk s2 b2;replace s2:=(iO.sf s2).1;have d2:=b2.cell)|((with_reducible refine(VS.out _ (zy.trans iO) gX).mono ?_);rintro e w3 ⟨rfl,jK,nG⟩)|((with_reducible refine(lD.out _ jK).mono ?_);rintro e w4 ⟨rfl,nJ,yU⟩));have agn:=nG.trans yU;have hp:=Bg (i:=(cd++L1).length) (op:=19) (n:=0) nJ bU av (agn.blk z1 t1) (agn.blk y1 a1);refine⟨av,_,_,256,#[aR Bt,aR Ba],rfl,by simp[go_sem],?_⟩;refine(hp .returning).mono ?_;rintro e u' w5 ⟨rfl,rfl,sO,QD⟩;refine⟨_,results_none rfl _ _ _,rfl,?_,zy.trans (iO.trans (agn.trans QD))⟩;have h1:=RX (cd++L1) (19,0) (19,((cd.length+L1.length+L2.length+2:Nat):Int)) (L2++[(18,(cd.length:Int))]);have h3:(cd++L1++[((19:Int),(0:Int))]++L2++[((18:Int),(cd.length:Int))]).length=cd.length+L1.length+L2.length+2:=bU;rw[h3]at sO;have h4:cd++L1++[((19:Int),(0:Int))]++L2++[((18:Int),(cd.length:Int))]=cd++L1++(19,0)::(L2++[(18,(cd.length:Int))]):=av;rw[h4,h1]at sO;simpa using sO
theorem ars (hT:AO vs f) {L2 L3:Cd} (mg:lh vs f (cd.length) (dF x.kids 0)=some L1) (hl:cd.length+L1.length≤1999) (h:eZ w B b m vs e0 e1 e2 cd) (hk:ig w (fun k=>k<B) x.kids a n c) (v:Int) (s:ByteArray):
  Calls prog 167 #[aR b,.agg #[ag 1,ag v,.string s,.slice a n c]] w fun e w'=>e=.returned (.tuple #[])∧eZ w' B b m vs e0 e1 e2 (cd++(L1++[(3,vIx vs s)]))∧Kc b w w':=by have ek:=fun(V:World) (hV:aJ w V)=>jy hT (jJ mg) mg ae (h.on hV) (hk.on hV) 1 v s;have lD:=ah fun(n:Int) (V:World) (hV:eZ V B b m vs e0 e1 e2 (cd++L1))=>fK hV bU 3 n;simp only[show((0:Nat):Int)=0 from rfl,show((1:Nat):Int)=1 from rfl]at ek;have H:=ah h;clear h hk mg hT;have Ar:=ah ek;clear ek;refine az ?_;intro hal bu;go_enter func167,ntmps167;go_upto_region 4 with(first|((with_reducible refine(Ar.out _ aG).mono ?_);rintro e w1 ⟨rfl,bW,ek⟩;have zy:=(Kc.below (b:=b) aG H.out.blt).trans ek;have s2:=H.out.jk (V:=((w.alloc (.cells #[aR b] 284)).alloc (.cells #[ag 1,ag v,.string s,.slice a n c] 183))) (x:=w.heap.size) aG (aH _) bU;have s3:=H.out.jk (V:=((w.alloc (.cells #[aR b] 284)).alloc (.cells #[ag 1,ag v,.string s,.slice a n c] 183))) (x:=w.heap.size+1) aG (Nat.le_succ _) av;have b2:=ek.blk s2 ((aV.new w [aR b] _ _ rfl).alloc _);have b3:=ek.blk s3 (aV.new (w.alloc _) [ag 1,ag v,.string s,.slice a n c] _ _ av);replace s2:=(ek.sf s2).1;replace s3:=(ek.sf s3).1;have c2:=b2.cell;have c3:=b3.cell));have hmp:=bW.map;have hlk:=fun x:One w1.drew=>bW.look (V:=x.out) (by rw[x.2];exact(aK _ _).drew) s;refine dn ?_;go_wp2_with (first|((with_reducible refine(lD.out _ _ (bW.on aG)).mono ?_);rintro e w3 ⟨rfl,jK,nG⟩));refine bodyPost_end (results_none rfl _ _ _) rfl ⟨rfl,by simpa using jK,?_⟩;exact(zy.trans (Kc.below (b:=b) aG bW.blt)).trans nG
theorem art (hT:AO vs f) {L3:Cd} (mg:lh vs f (cd.length) (dF x.kids 0)=some L1) (vT:lh vs f (cd.length+L1.length) (dF x.kids 1)=some L2) (hl:cd.length+L1.length+L2.length≤1999) (h:eZ w B b m vs e0 e1 e2 cd) (hk:ig w (fun k=>k<B) x.kids a n c) (v:Int) (s:ByteArray):
  Calls prog 167 #[aR b,.agg #[ag 2,ag v,.string s,.slice a n c]] w fun e w'=>e=.returned (.tuple #[])∧eZ w' B b m vs e0 e1 e2 (cd++(L1++L2++[(5,fIx s)]))∧Kc b w w':=by
 have ek:=fun(V:World) (hV:aJ w V)=>jy hT (jJ mg) mg ae (h.on hV) (hk.on hV) 2 v s;have iO:=fun(V:World) (hK:Kc b w V) (hV:eZ V B b m vs e0 e1 e2 (cd++L1))=>jy hT (jJ vT) (cd:=cd++L1) (L:=L2) rU oQ hV (hk.keep hK.size (fun q hq _=>h.old hK q hq)) 2 v s;have lD:=ah fun(n:Int) (V:World) (hV:eZ V B b m vs e0 e1 e2 (cd++L1++L2))=>fK hV bU 5 n;simp only[show((0:Nat):Int)=0 from rfl,show((1:Nat):Int)=1 from rfl]at ek iO;have H:=ah h;clear h hk mg vT hT;have Ar:=ah ek;have VS:=ah iO;clear ek iO;refine az ?_;intro hal bu;go_enter func167,ntmps167;go_upto_region 8 with(first|((with_reducible refine(Ar.out _ aG).mono ?_);rintro e w1 ⟨rfl,bW,ek⟩;have zy:=(Kc.below (b:=b) aG H.out.blt).trans ek;have s2:=H.out.jk (V:=((w.alloc (.cells #[aR b] 284)).alloc (.cells #[ag 2,ag v,.string s,.slice a n c] 183))) (x:=w.heap.size) aG (aH _) bU;have s3:=H.out.jk (V:=((w.alloc (.cells #[aR b] 284)).alloc (.cells #[ag 2,ag v,.string s,.slice a n c] 183))) (x:=w.heap.size+1) aG (Nat.le_succ _) av;have b2:=ek.blk s2 ((aV.new w [aR b] _ _ rfl).alloc _);have b3:=ek.blk s3 (aV.new (w.alloc _) [ag 2,ag v,.string s,.slice a n c] _ _ av);replace s2:=(ek.sf s2).1;replace s3:=(ek.sf s3).1;have c2:=b2.cell;have c3:=b3.cell)|(refine oU ?_;intro w2 gX iO b2 b3 s2 s3 d2 d3));have l2:=b2.lt;have l3:=b3.lt;refine jG 4 aL aL fun NL hL=>?_;obtain⟨dU,dV,hlf⟩:=hL;(try simp only[bf]at dU);simp only[dS];repeat(go_big_quiet_step (first|(with_reducible exact VR s _)))
 refine wpQuiet_nil ?_;rintro w3 ⟨nq,hnq⟩;have gK:=nq.below;rw[←hnq]at gK;clear hnq nq dV hlf dU NL;go_wp2_with (first|((with_reducible refine(lD.out _ _ (gX.on gK)).mono ?_);rintro e w4 ⟨rfl,nJ,yU⟩));refine Qt.fq ?_;go_wp2;refine bodyPost_end (results_none rfl _ _ _) rfl ⟨rfl,by simpa using nJ,?_⟩;exact((zy.trans iO).trans (Kc.below (b:=b) gK gX.blt)).trans yU
theorem aru (hT:AO vs f) (mg:lh vs f (cd.length) (dF x.kids 0)=some L1) (vT:lh vs f (cd.length+L1.length+1) (dF x.kids 1)=some L2) (hx3:lh vs f (cd.length+L1.length+L2.length+2) (dF x.kids 2)=some L3) (hl:cd.length+L1.length+L2.length+L3.length≤1998) (h:eZ w B b m vs e0 e1 e2 cd) (hk:ig w (fun k=>k<B) x.kids a n c) (v:Int) (s:ByteArray):
  Calls prog 167 #[aR b,.agg #[ag 3,ag v,.string s,.slice a n c]] w fun e w'=>e=.returned (.tuple #[])∧eZ w' B b m vs e0 e1 e2 (cd++(RA cd.length L1 L2 L3))∧Kc b w w':=by
 have hcall:∀V:World,aJ w V→aV V w.heap.size [aR b]→aV V (w.heap.size+1) [ag 3,ag v,.string s,.slice a n c]→Calls prog 198 #[aR b,.func (.func 206) #[] #[aR w.heap.size,.pointer (some ⟨w.heap.size+1,0,none⟩)],.func (.func 207) #[] #[aR w.heap.size,.pointer (some ⟨w.heap.size+1,0,none⟩)],.func (.func 208) #[] #[aR w.heap.size,.pointer (some ⟨w.heap.size+1,0,none⟩)]] V fun e w'=>e=.returned (.tuple #[])∧eZ w' B b m vs e0 e1 e2 (cd++RA cd.length L1 L2 L3)∧Kc b V w':=fun V hV kt kn=>by have hc:=h.on hV;have hkV:=hk.on hV;have st:=h.jk hV (aH _) kt.lt;have sn:=h.jk hV (Nat.le_succ _) kn.lt;exact vw hc (aln hT (jJ mg) mg ae hc hkV kt st kn sn) (alo hT (jJ vT) rT bU hc hkV kt st kn sn) (alp hT (jJ hx3) (by rw[show(cd++L1++[((19:Int),(((cd++L1).length+L2.length+2:Nat):Int))]++L2++[((18:Int),(0:Int))]).length=cd.length+L1.length+L2.length+2 from bU];exact hx3) bU hc hkV kt st kn sn) ae
 have H:=ah h;clear h hk mg vT hx3 hT;have vo:=ah hcall;clear hcall;refine az ?_;intro hal bu;go_enter func167,ntmps167;go_wp2_with (first|((with_reducible refine(vo.out _ aG ((aV.new w [aR b] _ _ rfl).alloc _) (aV.new (w.alloc _) [ag 3,ag v,.string s,.slice a n c] _ _ av)).mono ?_);rintro e w1 ⟨rfl,bW,ek⟩));exact oP
theorem arv (hT:AO vs f) {L3:Cd} (mg:lh vs f (cd.length) (dF x.kids 0)=some L1) (vT:lh vs f (cd.length+L1.length+1) (dF x.kids 1)=some L2) (hl:cd.length+L1.length+L2.length≤1998) (h:eZ w B b m vs e0 e1 e2 cd) (hk:ig w (fun k=>k<B) x.kids a n c) (v:Int) (s:ByteArray):
  Calls prog 167 #[aR b,.agg #[ag 4,ag v,.string s,.slice a n c]] w fun e w'=>e=.returned (.tuple #[])∧eZ w' B b m vs e0 e1 e2 (cd++(L1++[(19,((cd.length+L1.length+L2.length+2:Nat):Int))]++L2++[(18,(cd.length:Int))]))∧Kc b w w':=by have ek:=fun(V:World) (hV:aJ w V)=>Zl hT (L3:=[]) mg vT hl (h.on hV) (hk.on hV) 4 v s;have H:=ah h;clear h hk mg vT hT;have Ar:=ah ek;clear ek;refine az ?_;intro hal bu;go_enter func167,ntmps167;go_wp2_with (first|((with_reducible refine(Ar.out _ aG).mono ?_);rintro e w1 ⟨rfl,bW,ek⟩));exact oP
theorem arw (hT:AO vs f) {L3:Cd} (mg:lh vs f (cd.length) (dF x.kids 0)=some L1) (vT:lh vs f (cd.length+L1.length) (dF x.kids 1)=some L2) (hl:cd.length+L1.length+L2.length≤1999) (h:eZ w B b m vs e0 e1 e2 cd) (hk:ig w (fun k=>k<B) x.kids a n c) (v:Int) (s:ByteArray):
  Calls prog 167 #[aR b,.agg #[ag 5,ag v,.string s,.slice a n c]] w fun e w'=>e=.returned (.tuple #[])∧eZ w' B b m vs e0 e1 e2 (cd++(L1++L2++[(20,0)]))∧Kc b w w':=by have ek:=fun(V:World) (hV:aJ w V)=>jy hT (jJ mg) mg ae (h.on hV) (hk.on hV) 5 v s;have iO:=fun(V:World) (hK:Kc b w V) (hV:eZ V B b m vs e0 e1 e2 (cd++L1))=>jy hT (jJ vT) (cd:=cd++L1) (L:=L2) rU oQ hV (hk.keep hK.size (fun q hq _=>h.old hK q hq)) 5 v s;have lD:=ah fun(n:Int) (V:World) (hV:eZ V B b m vs e0 e1 e2 (cd++L1++L2))=>fK hV bU 20 n;simp only[show((0:Nat):Int)=0 from rfl,show((1:Nat):Int)=1 from rfl]at ek iO;have H:=ah h;clear h hk mg vT hT;have Ar:=ah ek;have VS:=ah iO;clear ek iO;refine az ?_;intro hal bu;go_enter func167,ntmps167;go_wp2_with (first|((with_reducible refine(Ar.out _ aG).mono ?_);rintro e w1 ⟨rfl,bW,ek⟩;have zy:=(Kc.below (b:=b) aG H.out.blt).trans ek;have s2:=H.out.jk (V:=((w.alloc (.cells #[aR b] 284)).alloc (.cells #[ag 5,ag v,.string s,.slice a n c] 183))) (x:=w.heap.size) aG (aH _) bU;have s3:=H.out.jk (V:=((w.alloc (.cells #[aR b] 284)).alloc (.cells #[ag 5,ag v,.string s,.slice a n c] 183))) (x:=w.heap.size+1) aG (Nat.le_succ _) av;have b2:=ek.blk s2 ((aV.new w [aR b] _ _ rfl).alloc _);have b3:=ek.blk s3 (aV.new (w.alloc _) [ag 5,ag v,.string s,.slice a n c] _ _ av);replace s2:=(ek.sf s2).1;replace s3:=(ek.sf s3).1;have c2:=b2.cell;have c3:=b3.cell)|(refine oU ?_;intro w2 gX iO b2 b3 s2 s3 d2 d3)|((with_reducible refine(lD.out _ _ gX).mono ?_);rintro e w4 ⟨rfl,nJ,yU⟩));refine bodyPost_end (results_none rfl _ _ _) rfl ⟨rfl,by simpa using nJ,?_⟩;exact(zy.trans iO).trans yU
theorem arx (hT:AO vs f) {L1 L2 L3:Cd} (hl:cd.length≤1999) (h:eZ w B b m vs e0 e1 e2 cd) (hk:ig w (fun k=>k<B) x.kids a n c) (v:Int) (s:ByteArray):
  Calls prog 167 #[aR b,.agg #[ag 6,ag v,.string s,.slice a n c]] w fun e w'=>e=.returned (.tuple #[])∧eZ w' B b m vs e0 e1 e2 (cd++([(21,0)]))∧Kc b w w':=by have lD:=ah fun(V:World) (hV:aJ w V)=>fK (h.on hV) ae 21 0;have H:=ah h;clear h hk hT;refine az ?_;intro hal bu;go_enter func167,ntmps167;go_wp2_with (first|((with_reducible refine(lD.out _ aG).mono ?_);rintro e w1 ⟨rfl,bW,ek⟩));exact oP
theorem ary (hT:AO vs f) {L2 L3:Cd} (hx:x.kids.foldl (R7 vs f cd.length) (some [])=some L1) (hn:x.kids.length≤1000) (hl:cd.length+L1.length≤2000) (h:eZ w B b m vs e0 e1 e2 cd) (hk:ig w (fun k=>k<B) x.kids a n c) (v:Int) (s:ByteArray):
  Calls prog 167 #[aR b,.agg #[ag 7,ag v,.string s,.slice a n c]] w fun e w'=>e=.returned (.tuple #[])∧eZ w' B b m vs e0 e1 e2 (cd++(L1))∧Kc b w w':=by
 obtain⟨As,p1,p2,p3,p4⟩:=JU _ _ _ _ _ _ hx;have hnl:=hk.len.1;rw[←hnl]at p2 p3 p4 hn;have hkd:∀i,i<n→∀V:World,Kc b w V→eZ V B b m vs e0 e1 e2 (cd++As i)→Calls prog 162 #[aR b,.agg #[ag 7,ag v,.string s,.slice a n c],ag i] V fun e w'=>e=.returned (.tuple #[])∧eZ w' B b m vs e0 e1 e2 (cd++As (i+1))∧Kc b V w':=fun i hi V hK hV=>by obtain⟨K,mg,vT⟩:=p4 i hi;have h3:=p3 (i+1) hi;rw[vT,List.length_append]at h3;rw[vT,←List.append_assoc];exact jy hT ae (cd:=cd++As i) (L:=K) (by rw[List.length_append];exact mg) oQ hV (hk.keep hK.size (fun q hq _=>h.old hK q hq)) 7 v s
 rw[←p2];have h0:eZ w B b m vs e0 e1 e2 (cd++As 0):=by rw[p1,List.append_nil];exact h
 clear p1 p2 p3 p4;have H:=ah h;clear h hk hx hnl hT;have G8:=ah hkd;have Hh0:=ah h0;clear hkd h0;refine az ?_;intro hal bu;go_enter func167,ntmps167;go_upto_region 1 with(fail);refine aP fun W hW=>?_;have k1:aV W w.heap.size [aR b]:=rV;have k2:aV W (w.heap.size+1) [ag 7,ag v,.string s,.slice a n c]:=eX;have hbW:aJ w W:=aM;have s1:=H.out.jk hbW (aH _) k1.lt;have s2:=H.out.jk hbW (Nat.le_succ _) k2.lt;have hK0:=Kc.below (b:=b) hbW H.out.blt;have hC0:=Hh0.out.on hbW;generalize w.heap.size=z at*;clear hW hbW Hh0;have ck1:=k1.cell;have ck2:=k2.cell;go_wp2;go_loopw [65] (fun i wr=>∃q:Nat,q≤n∧i=ag q∧Kc b w wr∧eZ wr B b m vs e0 e1 e2 (cd++As q)∧aV wr z [aR b]∧aV wr (z+1) [ag 7,ag v,.string s,.slice a n c]∧Sf b wr z∧Sf b wr (z+1)) (fun i _=>n-(intOf i).toNat);case atStart=>exact⟨0,ae,rfl,hK0,hC0,k1,k2,s1,s2⟩
 case round=>
  clear ck1 ck2 k1 k2 s1 s2 hK0 hC0;obtain⟨q,hq,rfl,hK,hC,k1,k2,s1,s2⟩:=hrel;have ck1:=k1.cell;have ck2:=k2.cell;by_cases hlt:q<n
  ·have pg:(q:Int)<(n:Int):=ae;go_wp2_with (first|((with_reducible refine(G8.out q hlt _ hK hC).mono ?_);rintro e w1 ⟨rfl,bW,ek⟩));refine⟨⟨q+1,ae,av,hK.trans ek,bW,ek.blk s1 k1,ek.blk s2 k2,(ek.sf s1).1,(ek.sf s2).1⟩,by simp[intOf];omega⟩
  ·have pg:¬(q:Int)<(n:Int):=ae;have hqn:q=n:=ae;subst hqn;go_wp2;refine bodyPost_end (results_none rfl _ _ _) rfl ⟨rfl,hC,hK⟩
variable {B b m n c f:Nat} {α β:Type} {o:Option α} {y:β}
theorem arf (h:eZ w B b m vs e0 e1 e2 cd) (hl:cd.length≤1999) (v:Int) (s:ByteArray):
  Calls prog 126 #[aR b,.agg #[ag 8,ag v,.string s,.slice a n c]] w fun e w'=>e=.returned (.tuple #[])∧eZ w' B b m vs e0 e1 e2 (cd++([(1,v)]))∧Kc b w w':=by have lD:=ah fun(V:World) (hV:aJ w V)=>fK (h.on hV) ae 1 v;have H:=ah h;clear h;refine az ?_;intro hal bu;go_enter func126,ntmps126;go_wp2_with (first|((with_reducible refine(lD.out _ aG).mono ?_);rintro e w1 ⟨rfl,bW,ek⟩));exact oP
theorem arh (h:eZ w B b m vs e0 e1 e2 cd) (hl:cd.length≤1999) (v:Int) (s:ByteArray):
  Calls prog 126 #[aR b,.agg #[ag 9,ag v,.string s,.slice a n c]] w fun e w'=>e=.returned (.tuple #[])∧eZ w' B b m vs e0 e1 e2 (cd++([(1,v)]))∧Kc b w w':=by have lD:=ah fun(V:World) (hV:aJ w V)=>fK (h.on hV) ae 1 v;have H:=ah h;clear h;refine az ?_;intro hal bu;go_enter func126,ntmps126;go_wp2_with (first|((with_reducible refine(lD.out _ aG).mono ?_);rintro e w1 ⟨rfl,bW,ek⟩));exact oP
theorem alh (h:eZ w B b m vs e0 e1 e2 cd) (hl:cd.length≤1999) (v:Int) (s:ByteArray):
  Calls prog 126 #[aR b,.agg #[ag 10,ag v,.string s,.slice a n c]] w fun e w'=>e=.returned (.tuple #[])∧eZ w' B b m vs e0 e1 e2 (cd++([(2,vIx vs s)]))∧Kc b w w':=by
 have lD:=ah fun(n:Int) (V:World) (hV:aJ w V)=>fK (h.on hV) ae 2 n;have H:=ah h;have hmp:=h.map;have lb:=h.blt;clear h;refine az ?_;intro hal bu;go_enter func126,ntmps126;go_upto_region 7 with(fail);refine aP fun W hW=>?_;have hbW:aJ w W:=aM;have cb:∀i,W.cell? ⟨w.heap.size,i,none⟩=[ag 10,ag v,.string s,.slice a n c][i]?:=by rw[hW];exact(aV.new w [ag 10,ag v,.string s,.slice a n c] _ _ rfl).cell
 replace hmp:=ai hbW hmp;have zy:=Kc.below (b:=b) hbW H.out.blt;have hlk:=fun x:One W.drew=>H.out.look (V:=x.out) (by rw[x.2];exact hbW.drew) s;have HW:=ah hbW;clear hW hbW;refine dn ?_;go_wp2_with (first|((with_reducible refine(lD.out _ _ (HW.out.trans aG)).mono ?_);rintro e w1 ⟨rfl,bW,ek⟩));refine bodyPost_end (results_none rfl _ _ _) rfl ⟨rfl,by simpa using bW,?_⟩;exact(zy.trans (Kc.below (b:=b) aG (H.out.on HW.out).blt)).trans ek
theorem ali (h:eZ w B b m vs e0 e1 e2 cd) (hT:AO vs f) {x:Nd} {L1:Cd} (mg:lh vs f cd.length (dF x.kids 0)=some L1) (hl:cd.length+L1.length≤1999) (hk:ig w (fun k=>k<B) x.kids a n c) (v:Int) (s:ByteArray):
  Calls prog 126 #[aR b,.agg #[ag 11,ag v,.string s,.slice a n c]] w fun e w'=>e=.returned (.tuple #[])∧eZ w' B b m vs e0 e1 e2 (cd++(L1++[(4,fIx s)]))∧Kc b w w':=by have ek:=fun(V:World) (hV:aJ w V)=>jy hT (jJ mg) mg ae (h.on hV) (hk.on hV) 11 v s;have lD:=ah fun(n:Int) (V:World) (hV:eZ V B b m vs e0 e1 e2 (cd++L1))=>fK hV bU 4 n;simp only[show((0:Nat):Int)=0 from rfl]at ek;have H:=ah h;clear h hk mg hT;have Ar:=ah ek;clear ek;refine az ?_;intro hal bu;go_enter func126,ntmps126;go_wp2_with (first|((with_reducible refine(Ar.out _ aG).mono ?_);rintro e w1 ⟨rfl,bW,ek⟩;have zy:=(Kc.below (b:=b) aG H.out.blt).trans ek;have s2:=H.out.jk (V:=(w.alloc (.cells #[ag 11,ag v,.string s,.slice a n c] 183))) (x:=w.heap.size) aG (aH _) av;have b2:=ek.blk s2 (aV.new w [ag 11,ag v,.string s,.slice a n c] _ _ rfl);replace s2:=(ek.sf s2).1;have c2:=b2.cell)|((with_reducible refine(JS s _).mono ?_);rintro e w3 ⟨rfl,gK⟩)|((with_reducible refine(lD.out _ _ (bW.on gK)).mono ?_);rintro e w4 ⟨rfl,nJ,yU⟩));refine bodyPost_end (results_none rfl _ _ _) rfl ⟨rfl,by simpa using nJ,?_⟩;exact(zy.trans (Kc.below (b:=b) gK bW.blt)).trans yU
theorem alj (h:eZ w B b m vs e0 e1 e2 cd) (v:Int) (s:ByteArray) (hc:∀V:World,aJ w V→Calls prog 164 #[aR b,.agg #[ag 12,ag v,.string s,.slice a n c]] V fun e w'=>e=.returned (.tuple #[])∧eZ w' B b m vs e0 e1 e2 (cd++L)∧Kc b V w'):
  Calls prog 126 #[aR b,.agg #[ag 12,ag v,.string s,.slice a n c]] w fun e w'=>e=.returned (.tuple #[])∧eZ w' B b m vs e0 e1 e2 (cd++(L))∧Kc b w w':=by exact iA
theorem alk (h:eZ w B b m vs e0 e1 e2 cd) (v:Int) (s:ByteArray) (hc:∀V:World,aJ w V→Calls prog 165 #[aR b,.agg #[ag 13,ag v,.string s,.slice a n c]] V fun e w'=>e=.returned (.tuple #[])∧eZ w' B b m vs e0 e1 e2 (cd++L)∧Kc b V w'):
  Calls prog 126 #[aR b,.agg #[ag 13,ag v,.string s,.slice a n c]] w fun e w'=>e=.returned (.tuple #[])∧eZ w' B b m vs e0 e1 e2 (cd++(L))∧Kc b w w':=by exact iA
theorem alm (h:eZ w B b m vs e0 e1 e2 cd) (v:Int) (s:ByteArray) (hc:∀V:World,aJ w V→Calls prog 166 #[aR b,.agg #[ag 14,ag v,.string s,.slice a n c]] V fun e w'=>e=.returned (.tuple #[])∧eZ w' B b m vs e0 e1 e2 (cd++L)∧Kc b V w'):
  Calls prog 126 #[aR b,.agg #[ag 14,ag v,.string s,.slice a n c]] w fun e w'=>e=.returned (.tuple #[])∧eZ w' B b m vs e0 e1 e2 (cd++(L))∧Kc b w w':=by exact iA
theorem ari (h:eZ w B b m vs e0 e1 e2 cd) (v:Int) (s:ByteArray) (hc:∀V:World,aJ w V→Calls prog 167 #[aR b,.agg #[ag 1,ag v,.string s,.slice a n c]] V fun e w'=>e=.returned (.tuple #[])∧eZ w' B b m vs e0 e1 e2 (cd++L)∧Kc b V w'):
  Calls prog 126 #[aR b,.agg #[ag 1,ag v,.string s,.slice a n c]] w fun e w'=>e=.returned (.tuple #[])∧eZ w' B b m vs e0 e1 e2 (cd++(L))∧Kc b w w':=by exact iA
theorem arj (h:eZ w B b m vs e0 e1 e2 cd) (v:Int) (s:ByteArray) (hc:∀V:World,aJ w V→Calls prog 167 #[aR b,.agg #[ag 2,ag v,.string s,.slice a n c]] V fun e w'=>e=.returned (.tuple #[])∧eZ w' B b m vs e0 e1 e2 (cd++L)∧Kc b V w'):
  Calls prog 126 #[aR b,.agg #[ag 2,ag v,.string s,.slice a n c]] w fun e w'=>e=.returned (.tuple #[])∧eZ w' B b m vs e0 e1 e2 (cd++(L))∧Kc b w w':=by exact iA
theorem ark (h:eZ w B b m vs e0 e1 e2 cd) (v:Int) (s:ByteArray) (hc:∀V:World,aJ w V→Calls prog 167 #[aR b,.agg #[ag 3,ag v,.string s,.slice a n c]] V fun e w'=>e=.returned (.tuple #[])∧eZ w' B b m vs e0 e1 e2 (cd++L)∧Kc b V w'):
  Calls prog 126 #[aR b,.agg #[ag 3,ag v,.string s,.slice a n c]] w fun e w'=>e=.returned (.tuple #[])∧eZ w' B b m vs e0 e1 e2 (cd++(L))∧Kc b w w':=by exact iA
theorem arl (h:eZ w B b m vs e0 e1 e2 cd) (v:Int) (s:ByteArray) (hc:∀V:World,aJ w V→Calls prog 167 #[aR b,.agg #[ag 4,ag v,.string s,.slice a n c]] V fun e w'=>e=.returned (.tuple #[])∧eZ w' B b m vs e0 e1 e2 (cd++L)∧Kc b V w'):
  Calls prog 126 #[aR b,.agg #[ag 4,ag v,.string s,.slice a n c]] w fun e w'=>e=.returned (.tuple #[])∧eZ w' B b m vs e0 e1 e2 (cd++(L))∧Kc b w w':=by exact iA
theorem arn (h:eZ w B b m vs e0 e1 e2 cd) (v:Int) (s:ByteArray) (hc:∀V:World,aJ w V→Calls prog 167 #[aR b,.agg #[ag 5,ag v,.string s,.slice a n c]] V fun e w'=>e=.returned (.tuple #[])∧eZ w' B b m vs e0 e1 e2 (cd++L)∧Kc b V w'):
  Calls prog 126 #[aR b,.agg #[ag 5,ag v,.string s,.slice a n c]] w fun e w'=>e=.returned (.tuple #[])∧eZ w' B b m vs e0 e1 e2 (cd++(L))∧Kc b w w':=by exact iA
theorem arp (h:eZ w B b m vs e0 e1 e2 cd) (v:Int) (s:ByteArray) (hc:∀V:World,aJ w V→Calls prog 167 #[aR b,.agg #[ag 6,ag v,.string s,.slice a n c]] V fun e w'=>e=.returned (.tuple #[])∧eZ w' B b m vs e0 e1 e2 (cd++L)∧Kc b V w'):
  Calls prog 126 #[aR b,.agg #[ag 6,ag v,.string s,.slice a n c]] w fun e w'=>e=.returned (.tuple #[])∧eZ w' B b m vs e0 e1 e2 (cd++(L))∧Kc b w w':=by exact iA
theorem arq (h:eZ w B b m vs e0 e1 e2 cd) (v:Int) (s:ByteArray) (hc:∀V:World,aJ w V→Calls prog 167 #[aR b,.agg #[ag 7,ag v,.string s,.slice a n c]] V fun e w'=>e=.returned (.tuple #[])∧eZ w' B b m vs e0 e1 e2 (cd++L)∧Kc b V w'):
  Calls prog 126 #[aR b,.agg #[ag 7,ag v,.string s,.slice a n c]] w fun e w'=>e=.returned (.tuple #[])∧eZ w' B b m vs e0 e1 e2 (cd++(L))∧Kc b w w':=by exact iA
theorem uf {g:α→Option β} (h:o.bind g=some y):∃x,o=some x∧g x=some y:=by
 cases o with
 |none=>cases h
 |some x=>exact⟨x,rfl,h⟩
theorem vJ {g:α→β} (h:o.map g=some y):∃x,o=some x∧g x=y:=by
 cases o with
 |none=>cases h
 |some x=>exact⟨x,rfl,by simpa using h⟩
theorem acs (hT:AO vs f) {v:Int} {s:ByteArray} {l:List Nd} (hx:lh vs (f+1) cd.length (.mk 14 v s l)=some L) (hl:cd.length+L.length≤2000) (h:eZ w B b m vs e0 e1 e2 cd) (hk:ig w (fun k=>k<B) l a n c):
  Calls prog 166 #[aR b,.agg #[ag 14,ag v,.string s,.slice a n c]] w fun e w'=>e=.returned (.tuple #[])∧eZ w' B b m vs e0 e1 e2 (cd++L)∧Kc b w w':=by
 simp only[lh,show¬((14:Int)=8∨(14:Int)=9)from bL,show¬((14:Int)=10)from bL,show¬((14:Int)=11)from bL,show¬((14:Int)=12)from bL,show¬((14:Int)=13)from bL,if_true,if_false]at hx;by_cases g0:eH s qA=true
 ·rw[if_pos g0]at hx;obtain⟨A,hA,hx⟩:=uf hx;obtain⟨D,hD,rfl⟩:=vJ hx;simp only[RA,List.length_append,List.length_cons,List.length_nil]at hl;exact acu hT (x:=.mk 14 v s l) (jJ hD) hA hD ae h hk 14 v s g0
 rw[if_neg g0]at hx;replace g0:eH s qA=false:=by simpa using g0
 by_cases g1:eH s Iw=true
 ·rw[if_pos g1]at hx;obtain⟨A,hA,hx⟩:=uf hx;obtain⟨D,hD,rfl⟩:=vJ hx;simp only[RA,List.length_append,List.length_cons,List.length_nil]at hl;exact agj hT (x:=.mk 14 v s l) (jJ hD) hA hD ae h hk 14 v s g0 g1
 rw[if_neg g1]at hx;replace g1:eH s Iw=false:=by simpa using g1
 by_cases g2:eH s ⟨#[62]⟩=true
 ·rw[if_pos (.inl g2)]at hx;obtain⟨A,hA,hx⟩:=uf hx;obtain⟨D,hD,rfl⟩:=vJ hx;simp only[List.length_append,List.length_cons,List.length_nil]at hl;have:=agk hT (x:=.mk 14 v s l) (jJ hA) hA hD ae h hk 14 v s g0 g1 g2;simpa only[List.append_assoc]using this
 replace g2:eH s ⟨#[62]⟩=false:=by simpa using g2
 by_cases g3:eH s ⟨#[62,61]⟩=true
 ·rw[if_pos (.inr g3)]at hx;obtain⟨A,hA,hx⟩:=uf hx;obtain⟨D,hD,rfl⟩:=vJ hx;simp only[List.length_append,List.length_cons,List.length_nil]at hl;have:=agl hT (x:=.mk 14 v s l) (jJ hA) hA hD ae h hk 14 v s g0 g1 g2 g3;simpa only[List.append_assoc]using this
 replace g3:eH s ⟨#[62,61]⟩=false:=by simpa using g3
 rw[if_neg (by rw[g2,g3];simp)]at hx;obtain⟨A,hA,hx⟩:=uf hx;obtain⟨D,hD,hx⟩:=vJ hx;by_cases g4:eH s ⟨#[33,61]⟩=true
 ·rw[if_pos g4]at hx;subst hx;simp only[List.length_append,List.length_cons,List.length_nil]at hl;have:=agm hT (x:=.mk 14 v s l) (jJ hD) hA hD ae h hk 14 v s g0 g1 g2 g3 g4;simpa only[List.append_assoc,List.cons_append,List.nil_append]using this
 rw[if_neg g4]at hx;replace g4:eH s ⟨#[33,61]⟩=false:=by simpa using g4
 subst hx;simp only[List.length_append,List.length_cons,List.length_nil]at hl;have:=acv hT (x:=.mk 14 v s l) (jJ hD) hA hD ae h hk 14 v s g0 g1 g2 g3 g4;simpa only[List.append_assoc]using this
theorem acw (hT:AO vs f):AO vs (f+1):=by
 rintro⟨k,v,s,l⟩ L cd hx hl w B b m e0 e1 e2 a n c h hk;have UX:=hx;simp only[Nd.kids]at hk;simp only[Nd.kind,Nd.num,Nd.str];simp only[lh]at hx;by_cases k8:k=8
 ·subst k8;simp at hx;subst hx;exact arf h (by simp at hl;omega) v s
 by_cases k9:k=9
 ·subst k9;simp at hx;subst hx;exact arh h (by simp at hl;omega) v s
 rw[if_neg (by simp[k8,k9])]at hx;by_cases k10:k=10
 ·subst k10;rw[if_pos rfl]at hx;injection hx with hx;subst hx;exact alh h (by simp at hl;omega) v s
 rw[if_neg k10]at hx;by_cases k11:k=11
 ·subst k11;rw[if_pos rfl]at hx;obtain⟨A,hA,rfl⟩:=vJ hx;simp only[List.length_append,List.length_cons,List.length_nil]at hl;exact ali h hT (x:=.mk 11 v s l) hA ae hk v s
 rw[if_neg k11]at hx;by_cases k12:k=12
 ·subst k12;rw[if_pos rfl]at hx;injection hx with hx;subst hx;simp at hl;exact alj h v s fun V hV=>Zk (h.on hV) ae 12 v s a n c
 rw[if_neg k12]at hx;by_cases k13:k=13
 ·subst k13;rw[if_pos rfl]at hx;obtain⟨A,hA,rfl⟩:=vJ hx;simp only[List.length_append,List.length_cons,List.length_nil]at hl;exact alk h v s fun V hV=>by have:=yD hT (x:=.mk 13 v s l) (jJ hA) hA ae (h.on hV) (hk.on hV) 13 v s;simpa only[List.append_assoc]using this
 rw[if_neg k13]at hx;by_cases k14:k=14
 ·subst k14;exact alm h v s fun V hV=>acs hT UX hl (h.on hV) (hk.on hV)
 clear UX;rw[if_neg k14]at hx;by_cases k1:k=1
 ·subst k1;rw[if_pos rfl]at hx;obtain⟨A,hA,rfl⟩:=vJ hx;simp only[List.length_append,List.length_cons,List.length_nil]at hl;exact ari h v s fun V hV=>ars hT (x:=.mk 1 v s l) (L2:=[]) (L3:=[]) hA ae (h.on hV) (hk.on hV) v s
 rw[if_neg k1]at hx;by_cases k2:k=2
 ·subst k2;rw[if_pos rfl]at hx;obtain⟨A,hA,hx⟩:=uf hx;obtain⟨D,hD,rfl⟩:=vJ hx;simp only[List.length_append,List.length_cons,List.length_nil]at hl;exact arj h v s fun V hV=>art hT (x:=.mk 2 v s l) (L3:=[]) hA hD ae (h.on hV) (hk.on hV) v s
 rw[if_neg k2]at hx;by_cases k3:k=3
 ·subst k3;rw[if_pos rfl]at hx;obtain⟨A,hA,hx⟩:=uf hx;obtain⟨D,hD,hx⟩:=uf hx;obtain⟨E,hE,rfl⟩:=vJ hx;simp only[RA,List.length_append,List.length_cons,List.length_nil]at hl;exact ark h v s fun V hV=>aru hT (x:=.mk 3 v s l) hA hD hE ae (h.on hV) (hk.on hV) v s
 rw[if_neg k3]at hx;by_cases k4:k=4
 ·subst k4;rw[if_pos rfl]at hx;obtain⟨A,hA,hx⟩:=uf hx;obtain⟨D,hD,rfl⟩:=vJ hx;simp only[List.length_append,List.length_cons,List.length_nil]at hl;exact arl h v s fun V hV=>arv hT (x:=.mk 4 v s l) (L3:=[]) hA hD ae (h.on hV) (hk.on hV) v s
 rw[if_neg k4]at hx;by_cases k5:k=5
 ·subst k5;rw[if_pos rfl]at hx;obtain⟨A,hA,hx⟩:=uf hx;obtain⟨D,hD,rfl⟩:=vJ hx;simp only[List.length_append,List.length_cons,List.length_nil]at hl;exact arn h v s fun V hV=>arw hT (x:=.mk 5 v s l) (L3:=[]) hA hD ae (h.on hV) (hk.on hV) v s
 rw[if_neg k5]at hx;by_cases k6:k=6
 ·subst k6;rw[if_pos rfl]at hx;injection hx with hx;subst hx;simp at hl;exact arp h v s fun V hV=>arx hT (x:=.mk 6 v s l) (L1:=[]) (L2:=[]) (L3:=[]) ae (h.on hV) (hk.on hV) v s
 rw[if_neg k6]at hx;by_cases k7:k=7∧l.length≤1000
 ·rw[if_pos k7]at hx;obtain⟨rfl,hn⟩:=k7;exact arq h v s fun V hV=>ary hT (x:=.mk 7 v s l) (L2:=[]) (L3:=[]) hx hn hl (h.on hV) (hk.on hV) v s
 rw[if_neg k7]at hx;cases hx
theorem Zf (vs:List ByteArray):∀f,AO vs f
 |0=>by
  intro x L cd hx
  simp[lh]at hx
 |f+1=>acw (Zf vs f)
end Pa
end Go.Proofs.YtohpdonnpbjfdaaGreatDoor
