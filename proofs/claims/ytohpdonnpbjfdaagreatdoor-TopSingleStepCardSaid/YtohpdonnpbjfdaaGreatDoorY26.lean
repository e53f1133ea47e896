/- What is shown: package collide. Conditions: as each theorem states. -/
import Derived.Deep.Cut
import Derived.Deep.CutRange
import Derived.Deep.DeepCutAuto
import Derived.Test.YtohpdonnpbjfdaaGreatDoorY24
set_option maxHeartbeats 40000000
set_option maxRecDepth 100000
set_option linter.unusedVariables false
set_option linter.unusedSimpArgs false
open Go.Proofs.Tryz
namespace Go.Proofs.YtohpdonnpbjfdaaGreatDoor
theorem xc {P:Prop} (h:P:=by simp[results,results177,go_sem,cZ,hcA,aQ,↓IntWalk.iteOmega]):P:=h
theorem CV {P:Prop} (h:P:=by go_wp2_with (first|((with_reducible refine(MG.out _).mono ?_);refine df ?_;intro wA kY NA F4 hcA hfA hsA)|((with_reducible refine(Xa.out _).mono ?_);refine df ?_;intro wB Io NB XE hcB hfB hsB));go_ret;exact⟨rfl,by exact aG⟩):P:=h
theorem CR {P:Prop} (h:P:=by
 have Fq:(0:Int)≤(k:Int):=ae;have HY2:=ah KJ;have Gp:=ah sS;have amz:=ah hstop;have HJk:=ah Yo;have HBk:=ah hBk;have Hca:=ah ca;clear ca;clear hu hv hed henc sS hstop KJ Yo hS hlen hbd hcell hJs hB;obtain⟨bk0,bk1,bk2,bk3⟩:=bk;obtain⟨bm0,bm1,bm2,bm3⟩:=bm;have hal:=aQ;have bu:=dL;gi_wp2_with (first|((refine⟨trivial,?_⟩;with_reducible refine(callsIn_wide.2 (Hca.out _)).mono ?_);rintro e wA ⟨rfl,kY⟩;obtain⟨fn,tmps,assign,body,hy,hR⟩:=HY2.out wA (Fz HAb.out HJk.out aG)));have hAr:aJ wr wA:=eG;refine hR.mono ?_;rintro e W3 (⟨rfl,LY,nG⟩|⟨rfl,EY⟩)
 ·gi_wp2;go_roundw;case rel=>exact⟨k+1,ae,by go_num,by rw[Gp.out,←List.append_assoc];exact LY,HKp.out _ _ (HL.out _ _ HBk.out hAr) nG⟩
  case measure=>simp[intOf];omega
 ·gi_wp2;refine bodyPost_ret (results_none rfl _ _ _) rfl ?_;exact⟨⟨_,rfl⟩,.inr ⟨_,amz.out,by rw[Gp.out,←List.append_assoc];exact EY⟩⟩):P:=h
theorem CU {P:Prop} (h:P:=by
 gi_wp2_with (first|((refine⟨trivial,?_⟩;with_reducible refine(callsIn_wide.2 (Nn.out _)).mono ?_);refine df ?_;intro wA kY NA F4 hcA hfA hsA)|((refine⟨trivial,?_⟩;with_reducible refine(callsIn_wide.2 (Fj.out _)).mono ?_);refine df ?_;intro wB Io NB XE hcB hfB hsB)|((refine⟨trivial,?_⟩;with_reducible refine(callsIn_wide.2 (Hcs.out _ aG)).mono ?_);refine df ?_;intro wC hbC NC hNC hcC hfC hsC)|((refine⟨trivial,?_⟩;with_reducible refine(callsIn_wide.2 (Hcu.out _)).mono ?_);rintro e wU ⟨rfl,hbU⟩;obtain⟨fn,tmps,assign,body,hy,hR⟩:=HY2.out wU (Fz HAb.out HJs.out aG)));refine hR.mono ?_;rintro e W3 (⟨rfl,LY,nG⟩|⟨rfl,EY⟩)
 ·gi_wp2;go_end0;exact⟨⟨_,rfl⟩,.inl ⟨_,rfl,by rw[CS.out];exact LY⟩⟩
 ·gi_wp2;go_end0;exact⟨⟨_,rfl⟩,.inr ⟨_,List.prefix_refl _,by rw[CS.out];exact EY⟩⟩):P:=h
theorem w_ {P:Prop} (h:P:=by rw[hcx]at hAl;rw[List.length_append];unfold iU;rw[jf,jf];simp at hAl;omega):P:=h
namespace Co
open Go.RowKit aN fO Qt Ve Sh Go.Shelf
theorem TK {x:Int} (h0: -100000000≤x) (h1:x≤100000000):x*x≤10000000000000000:=(d_ (A:=100000000) (B:=100000000) h0 h1 h0 h1).2
theorem abE (x y p q:Int) (c:dZ prog 235 #[.agg #[ag x,ag y]] (.agg #[ag p,ag q])):dZ prog 177 #[.agg #[ag x,ag y]] (.agg #[ag (if p=0∧q=0 then 1024 else p),ag (if p=0∧q=0 then 0 else q)]):=by
 intro w;have Hc:=ah c;clear c;refine az ?_;intro hal bu;have cZ:=au;by_cases hp:p=0
 ·by_cases hq:q=0
  ·subst hp hq;rw[if_pos ⟨rfl,rfl⟩,if_pos ⟨rfl,rfl⟩];go_enter func177,ntmps177;go_wp2_with (first|((with_reducible refine(Hc.out _).mono ?_);refine df ?_;intro wA kY NA F4 hcA hfA hsA));refine bodyPost_ret (v:=.agg #[ag 1024,ag 0]) xc rfl ⟨rfl,?_⟩;exact aG
  ·rw[if_neg ae,if_neg ae];subst hp;go_enter func177,ntmps177;go_wp2_with (first|((with_reducible refine(Hc.out _).mono ?_);refine df ?_;intro wA kY NA F4 hcA hfA hsA));refine bodyPost_ret (v:=.agg #[ag 0,ag q]) xc rfl ⟨rfl,?_⟩;exact aG
 ·rw[if_neg ae,if_neg ae];go_enter func177,ntmps177;go_wp2_with (first|((with_reducible refine(Hc.out _).mono ?_);refine df ?_;intro wA kY NA F4 hcA hfA hsA));refine bodyPost_ret (v:=.agg #[ag p,ag q]) xc rfl ⟨rfl,?_⟩;exact aG
theorem wZ (x y:Int) (hx: -100000000≤x∧x≤100000000) (hy: -100000000≤y∧y≤100000000):dZ prog 177 #[.agg #[ag x,ag y]] (.agg #[ag (Np x y),ag (Nq x y)]):=
 abE x y (nmx x y) (nmy x y) (IK x y ae ae ae ae (by have:=TK hx.1 hx.2;omega) (by have:=TK hy.1 hy.2;omega))
theorem Nt (a0 a1 b0 b1:Int):dZ prog 175 #[ag a0,ag a1,ag b0,ag b1] (.bool (decide (a0≤b1)&&decide (b0≤a1))):=by
 intro w;have key:∀e,e=(decide (a0≤b1)&&decide (b0≤a1))→Calls prog 175 #[ag a0,ag a1,ag b0,ag b1] w fun r w'=>r=.returned (.bool e)∧aJ w w':=by
  intro e he;by_cases h1:a0≤b1
  ·by_cases h2:b0≤a1
   ·rw[decide_eq_true h1,decide_eq_true h2]at he;subst he;go_enter func175,ntmps175;go_wp2;go_ret;exact⟨rfl,by exact aG⟩
   ·rw[decide_eq_true h1,decide_eq_false h2]at he;subst he;go_enter func175,ntmps175;go_wp2;go_ret;exact⟨rfl,by exact aG⟩
  ·rw[decide_eq_false h1]at he;subst he;go_enter func175,ntmps175;go_wp2;go_ret;exact⟨rfl,by exact aG⟩
 exact key _ rfl
theorem Ng (a0 a1 a2 a3 b0 b1 b2 b3:Int):dZ prog 135 #[.agg #[ag a0,ag a1,ag a2,ag a3],.agg #[ag b0,ag b1,ag b2,ag b3]] (.bool (decide (a0≤b2)&&decide (b0≤a2)&&(decide (a1≤b3)&&decide (b1≤a3)))):=by
 intro w;have MG:=ah (Nt a0 a2 b0 b2);have Xa:=ah (Nt a1 a3 b1 b3);generalize (decide (a0≤b2)&&decide (b0≤a2))=e at*;generalize (decide (a1≤b3)&&decide (b1≤a3))=f at*;refine az ?_;intro hal bu;cases e
 ·go_enter func135,ntmps135;exact CV
 ·go_enter func135,ntmps135;exact CV
theorem rq (r:Int) (a:Option Addr) (cap:Nat):dZ prog 178 #[.agg #[ag r,.slice a 0 cap]] (.bool true):=by intro w;go_enter func178,ntmps178;go_wp2;go_ret;exact⟨rfl,by exact aG⟩
theorem uW (r:Int) (a:Option Addr) (len cap:Nat) (h:1≤len) (h2:len≤1000):dZ prog 178 #[.agg #[ag r,.slice a len cap]] (.bool false):=by intro w;have hb:((len:Int)==0)=false:=beq_eq_false_iff_ne.2 ae;go_enter func178,ntmps178;go_wp2;go_ret;exact⟨rfl,by exact aG⟩
section
variable {w:World} {ra:Int} {aa:Option Addr} {la ca:Nat} {za:List (Int×Int)} {rb:Int} {ab:Option Addr} {lb cb:Nat} {zb:List (Int×Int)}
theorem TL {r:Int} {len:Nat} {zs:List (Int×Int)} (h:zs.length=len) (x y a b:Int):phi r len zs x y a b=ph r zs x y (a,b)∧plo r len zs x y a b=pl r zs x y (a,b):=by subst h;exact⟨rfl,rfl⟩
theorem abB (hA:iL w ra aa la ca za) (hB:iL w rb ab lb cb zb) (px py qx qy a b:Int) (hp: -10000000≤px∧px≤10000000∧-10000000≤py∧py≤10000000) (hq: -10000000≤qx∧qx≤10000000∧-10000000≤qy∧qy≤10000000) (hn:Vo (a,b)) (W:World) (hW:aJ w W):
  Calls prog 138 #[.agg #[ag ra,.slice aa la ca],.agg #[ag px,ag py],.agg #[ag rb,.slice ab lb cb],.agg #[ag qx,ag qy],.agg #[ag a,ag b]] W fun e w'=>e=.returned (ag (Jy ra za px py rb zb qx qy (a,b)))∧aJ W w':=by obtain⟨n1,n2,n3,n4⟩:=hn;simp only at n1 n2 n3 n4;have c1:=Js hA px py a b ae ae ae ae;have c2:=Js hB qx qy a b ae ae ae ae;have b1:=KD hA px py a b ae ae ae ae;have b2:=KD hB qx qy a b ae ae ae ae;obtain⟨e1,e2⟩:=TL (r:=ra) hA.poly.len px py a b;obtain⟨e3,e4⟩:=TL (r:=rb) hB.poly.len qx qy a b;rw[e1,e2]at c1 b1;rw[e3,e4]at c2 b2;unfold Jy;generalize ph ra za px py (a,b)=h1 at*;generalize pl ra za px py (a,b)=l1 at*;generalize ph rb zb qx qy (a,b)=h2 at*;generalize pl rb zb qx qy (a,b)=l2 at*;have Hd1:=ah fun V (hV:aJ W V)=>c1 V (hW.trans (hV.mono hW.size));have Hd2:=ah fun V (hV:aJ W V)=>c2 V (hW.trans (hV.mono hW.size));obtain⟨⟨b10,b11⟩,b12,b13⟩:=b1;obtain⟨⟨b20,b21⟩,b22,b23⟩:=b2;clear c1 c2 hA hB e1 e2 e3 e4 hW;refine az ?_;intro hal bu;go_enter func138,ntmps138;go_wp2_with (first|((with_reducible refine(Hd1.out _ aG).mono ?_);refine df ?_;intro wA kY NA F4 hcA hfA hsA)|((with_reducible refine(Hd2.out _ aG).mono ?_);refine df ?_;intro wB Io NB XE hcB hfB hsB));go_ret;exact⟨rfl,by exact aG⟩
end
theorem IX (x y ox oy:Int) (B:Nat) (w:World) (c0:w.cell? ⟨B,0,none⟩=some (ag ox)) (c1:w.cell? ⟨B,1,none⟩=some (ag oy)) (hx: -50000000≤x∧x≤50000000) (hy: -50000000≤y∧y≤50000000) (hox: -50000000≤ox∧ox≤50000000) (hoy: -50000000≤oy∧oy≤50000000):
  Calls prog 237 #[.agg #[ag x,ag y],aR B] w fun e w'=>e=.returned (ag ((ox+x)*(ox+x)+(oy+y)*(oy+y)))∧aJ w w':=by
 have ca:=jM ox oy x y ae ae ae ae;have l0:=aU w _ c0;simp only at l0;obtain⟨u,hu⟩:∃u,u=ox+x:=⟨_,rfl⟩
 obtain⟨v,hv⟩:∃v,v=oy+y:=⟨_,rfl⟩
 rw[←hu,←hv]at ca⊢;have m1:=TK (x:=u) ae ae;have m2:=TK (x:=v) ae ae;have m3:=sq0 u;have m4:=sq0 v;clear hu hv hx hy hox hoy;have Hca:=ah ca;clear ca;refine az ?_;intro hal bu;go_enter func237,ntmps237;go_wp2_with (first|((with_reducible refine(Hca.out _).mono ?_);refine df ?_;intro wA kY NA F4 hcA hfA hsA));go_ret;exact⟨rfl,by exact aG⟩
theorem Vr (a:Option Addr) (len cap:Nat) (zs:List (Int×Int)) (ox oy:Int) (B:Nat) (w:World) (h:qp w a len cap zs) (h1:2≤len) (h2:len≤1000) (hz:Bd zs 32768) (c0:w.cell? ⟨B,0,none⟩=some (ag ox)) (c1:w.cell? ⟨B,1,none⟩=some (ag oy)) (hox: -40000000≤ox∧ox≤40000000) (hoy: -40000000≤oy∧oy≤40000000):
  Calls prog 236 #[.slice a len cap,.func (.func 237) #[] #[aR B]] w fun e w'=>e=.returned (.agg #[ag (vx zs (TM zs ox oy)),ag (vy zs (TM zs ox oy))])∧aJ w w':=by
 have hl:=h.len;rcases h with⟨_,h0,_⟩|⟨b,o,rfl,hzl,hle,hcm,hcell⟩
 ·omega
 unfold maxLen at hcm;have lb:=aU w _ (hcell 0 ae).1;have lB:=aU w _ c0;simp only at lb lB;have cm:∀i W,aJ w W→Calls prog 237 #[.agg #[ag (vx zs i),ag (vy zs i)],aR B] W fun e w'=>e=.returned (ag (sqd zs ox oy i))∧aJ W w':=fun i W hW=>by have bi:=hz i;exact IX _ _ ox oy B W (ai hW c0) (ai hW c1) ae ae ae ae
 have q0:w.cell? ⟨b,o,none⟩=some (ag (vx zs 0)):=by have:=(hcell 0 ae).1;rwa[Nat.zero_mul,Nat.add_zero]at this
 have q1:w.cell? ⟨b,o+1,none⟩=some (ag (vy zs 0)):=by have:=(hcell 0 ae).2;rwa[Nat.zero_mul,Nat.add_zero]at this
 have hl0:(0:Int)<(len:Int):=ae;have hcb:((cap:Int)==1)=false:=beq_eq_false_iff_ne.2 ae;have hc1':¬cap=1:=ae;have ajs:=ah (cm 0);generalize Nk:sqd zs ox oy 0=s0 at*;refine az ?_;intro hal bu;have gY:=results236;go_enter func236,ntmps236;go_upto_region 1 with(fail);refine Qm.fF 8 5 #[ag 0,ag 0] 29 rfl aL aL (fun o ho ev w=>by have ho':=bD ho;rw[←ho'];exact rfl) fun NL hL=>?_;obtain⟨dU,dV,hlf⟩:=hL;(try simp only[bf]at dU);simp only[dS];repeat((refine kI (fun K hK=>?_);go_simp;(repeat(simp only[↓IntWalk.iteOmega];(try go_simp))));first|(refine hK _ ?_;clear hK K)|(apply Exists.intro;refine⟨fun x=>?_,hK _ ?_⟩;(first|(with_reducible exact kJ (ajs.out _ lu)));clear hK K))
 (refine jq ?_;intro b1 w1 aO ek uX lU zn;(try simp only[bf]at lU);clear dV hlf dU NL;obtain⟨N1,dA,bW,eu,eF⟩:=eB aO;(try simp only[bf]at dA));have cZ:=au;simp only[Act.put,dH];go_upto_region 3 with(fail);refine QC fun W1 vI=>?_;obtain⟨WA,QX⟩:∃WA,WA=w.alloc (.cells #[ag 0,ag 0] 29):=⟨_,rfl⟩
 have hsA:WA.heap.size=w.heap.size+1:=by rw[QX];simp
 have hwA:aJ w WA:=by rw[QX];exact aG
 have a0:WA.cell? ⟨w.heap.size,0,none⟩=some (ag 0):=by rw[QX];simp[aQ]
 have a1:WA.cell? ⟨w.heap.size,1,none⟩=some (ag 0):=by rw[QX];simp[aQ]
 have af:∀i,WA.frozen? ⟨w.heap.size,i,none⟩=false:=fun i=>by rw[QX];simp[dL]
 have hb1':aJ WA w1:=by rw[QX];exact aO
 have hBase:aJ WA W1:=by rw[vI];exact(hb1'.setCell (p:=⟨b1,0,none⟩) bU _).setCell (p:=⟨b1,1,none⟩) bU _
 have k0:W1.cell? ⟨b1,0,none⟩=some (ag (vx zs 0)):=by rw[vI];simp[au,ek]
 have k1:W1.cell? ⟨b1,1,none⟩=some (ag (vy zs 0)):=by rw[vI];simp[au,ek]
 have kf:∀i,W1.frozen? ⟨b1,i,none⟩=false:=fun i=>by rw[vI];simp[uX]
 have lb1:=aU _ _ k0;simp only at lb1;clear vI QX aO hb1' ek uX bW eu dA eF cZ hal bu ajs;obtain⟨g,hg⟩:∃g,g=sqd zs ox oy:=⟨_,rfl⟩
 have cm2:∀i W,aJ w W→Calls prog 237 #[.agg #[ag (vx zs i),ag (vy zs i)],aR B] W fun e w'=>e=.returned (ag (g i))∧aJ W w':=fun i W hW=>by rw[hg];exact cm i W hW
 have ajt:s0=g (Ac g 0):=by rw[hg];exact Nk.symm
 have Hg:=ah hg;have apv:=ah cm2;have UK:=ah ajt;clear hg cm cm2 Nk ajt;go_loopw [6,21] (fun s i wr=>∃k:Nat,k≤len-1∧i=ag k∧s=ag (g (Ac g k))∧aJ WA wr∧b1<wr.heap.size∧wr.cell? ⟨b1,0,none⟩=some (ag (vx zs (Ac g k)))∧wr.cell? ⟨b1,1,none⟩=some (ag (vy zs (Ac g k)))∧∀i,wr.frozen? ⟨b1,i,none⟩=false) (fun _ i _=>len-1-(intOf i).toNat);case atStart=>exact⟨0,Nat.zero_le _,rfl,by rw[UK.out],hBase,lb1,k0,k1,kf⟩
 case round=>
  obtain⟨k,hk,rfl,rfl,hB,lB1,r0,r1,rf⟩:=hrel;have hws:=hB.size;by_cases hlt:k<len-1
  ·have hbw:aJ w wr:=hwA.trans (hB.mono ae);have v0:wr.cell? ⟨b,o+2+k*2,none⟩=some (ag (vx zs (k+1))):=by have:=ai hbw (hcell (k+1) ae).1;rwa[show o+(k+1)*2=o+2+k*2 from ae]at this
   have v1:wr.cell? ⟨b,o+2+k*2+1,none⟩=some (ag (vy zs (k+1))):=by have:=ai hbw (hcell (k+1) ae).2;rwa[show o+(k+1)*2+1=o+2+k*2+1 from ae]at this
   have aju:=ah fun W (hW:aJ wr W)=>apv.out (k+1) W (hbw.trans (hW.mono hbw.size));have sS:Ac g (k+1)=if g (k+1)<g (Ac g k)then k+1 else Ac g k:=rfl
   have hlI:(k:Int)<((len-1:Nat):Int):=ae;have Fq:(0:Int)≤(k:Int):=ae;have hcl:len-1≤cap-1:=ae;have Hr0:=ah r0;have Hr1:=ah r1;have Hrf:=ah rf;have HB:=ah hB;generalize hxn:vx zs (k+1)=xn at*;generalize hyn:vy zs (k+1)=yn at*;generalize hgn:g (k+1)=gn at*;generalize hgo:g (Ac g k)=go at*;have Hxn:=ah hxn;have Hyn:=ah hyn;have Hgn:=ah hgn;have Hgo:=ah hgo;have Gp:=ah sS;clear hxn hyn hgn hgo sS hB hbw;refine az ?_;intro hal bu;by_cases hc:gn<go
   ·go_wp2_with (first|((with_reducible refine(aju.out _ aG).mono ?_);refine df ?_;intro wA kY NA F4 hcA hfA hsA));have hAr:aJ wr wA:=eG;have hBA:aJ WA wA:=HB.out.trans (hAr.mono hws);have s0c:wA.cell? ⟨b1,0,none⟩=some (ag (vx zs (Ac g k))):=ai hAr Hr0.out;have s1c:wA.cell? ⟨b1,1,none⟩=some (ag (vy zs (Ac g k))):=ai hAr Hr1.out;have sfc:∀i,wA.frozen? ⟨b1,i,none⟩=false:=fun i=>(hAr.frozen (p:=⟨b1,i,none⟩) lB1).trans (Hrf.out i);go_roundw;case rel=>
     refine⟨k+1,ae,by go_num,?_,(hBA.setCell (p:=⟨b1,0,none⟩) bU _).setCell (p:=⟨b1,1,none⟩) bU _,?_,?_,?_,fun i=>?_⟩
     ·rw[Gp.out,if_pos hc,Hgn.out]
     ·have:=hAr.size;simp;omega
     ·rw[Gp.out,if_pos hc,Hxn.out];simp[au,s0c]
     ·rw[Gp.out,if_pos hc,Hyn.out];simp[au,s1c]
     ·simp[sfc]
    case measure=>simp[intOf];omega
   ·go_wp2_with (first|((with_reducible refine(aju.out _ aG).mono ?_);refine df ?_;intro wA kY NA F4 hcA hfA hsA));have hAr:aJ wr wA:=eG;have hcn:¬gn<go:=ae;go_roundw;case rel=>exact⟨k+1,ae,by go_num,by rw[Gp.out,if_neg hcn,Hgo.out],HB.out.trans (hAr.mono hws),by have:=hAr.size;omega,by rw[Gp.out,if_neg hcn];exact ai hAr Hr0.out,by rw[Gp.out,if_neg hcn];exact ai hAr Hr1.out,fun i=>(hAr.frozen (p:=⟨b1,i,none⟩) lB1).trans (Hrf.out i)⟩
    case measure=>simp[intOf];omega
  ·obtain rfl:k=len-1:=ae;have e0:=ai hB a0;have e1:=ai hB a1;have ef:∀i,wr.frozen? ⟨w.heap.size,i,none⟩=false:=fun i=>(hB.frozen (p:=⟨w.heap.size,i,none⟩) bU).trans (af i);have hnr:TM zs ox oy=Ac g (len-1):=by unfold TM;rw[Hg.out,hl]
   rw[←hnr]at r0 r1⊢;obtain⟨X,hX⟩:∃X,X=vx zs (TM zs ox oy):=⟨_,rfl⟩
   obtain⟨Y,hY⟩:∃Y,Y=vy zs (TM zs ox oy):=⟨_,rfl⟩
   rw[←hX]at r0;rw[←hY]at r1;have HX:=ah hX;have HY:=ah hY;have cZ:=au;have hne:¬w.heap.size=b1:=ae;clear hnr hX hY;go_wp2;refine bodyPost_ret (v:=.agg #[ag X,ag Y]) (by simp[results,gY,go_sem,cZ,r0,r1,e0,e1,hne]) rfl ⟨by rw[HX.out,HY.out],?_⟩;exact((hwA.trans (hB.mono ae)).setCell (p:=⟨w.heap.size,0,none⟩) (aH _) _).setCell (p:=⟨w.heap.size,1,none⟩) (aH _) _
theorem TJ {zs:List (Int×Int)} (hz:Bd zs 32768) (ox oy:Int):(ox-32768≤AZ zs ox oy∧AZ zs ox oy≤ox+32768)∧oy-32768≤A7 zs ox oy∧A7 zs ox oy≤oy+32768:=by have:=hz (TM zs ox oy);unfold AZ A7;omega
theorem Gn {w:World} {r:Int} {a:Option Addr} {len cap:Nat} {zs:List (Int×Int)} (h:iL w r a len cap zs) (h1:1≤len) (cx cy px py:Int) (hx: -30000000≤px-cx∧px-cx≤30000000) (hy: -30000000≤py-cy∧py-cy≤30000000) (W:World) (hW:aJ w W):
  Calls prog 179 #[.agg #[ag cx,ag cy],.agg #[ag r,.slice a len cap],.agg #[ag px,ag py]] W fun e w'=>e=.returned (.agg #[ag (AZ zs (px-cx) (py-cy)),ag (A7 zs (px-cx) (py-cy))])∧aJ W w':=by
 have g:=h.later hW;rcases g.kind with⟨h0,_⟩|⟨_,h3,h6,hz,_⟩
 ·omega
 have Hcs:=ah (uK px py cx cy ae ae ae ae);have ca:∀x y,dZ prog 81 #[.agg #[ag (px-cx),ag (py-cy)],.agg #[ag (vx zs x),ag (vy zs y)]] (.agg #[ag (px-cx+vx zs x),ag (py-cy+vy zs y)]):=fun x y=>by have bx:=hz x;have by':=hz y;exact jM _ _ _ _ ae ae ae ae
 have cl:∀V B,aJ W V→V.cell? ⟨B,0,none⟩=some (ag (px-cx))→V.cell? ⟨B,1,none⟩=some (ag (py-cy))→Calls prog 236 #[.slice a len cap,.func (.func 237) #[] #[aR B]] V fun e w'=>e=.returned (.agg #[ag (vx zs (TM zs (px-cx) (py-cy))),ag (vy zs (TM zs (px-cx) (py-cy)))])∧aJ V w':=
  fun V B hV c0 c1=>Vr a len cap zs (px-cx) (py-cy) B V (g.poly.later hV) ae ae hz c0 c1 ae ae
 have apx:=ah (ca (TM zs (px-cx) (py-cy)) (TM zs (px-cx) (py-cy)));unfold AZ A7;generalize TM zs (px-cx) (py-cy)=j at*;generalize vx zs j=X at*;generalize vy zs j=Y at*;generalize px-cx=ox at*;generalize py-cy=oy at*;have Hcl:=ah cl;clear cl;clear g h hz ca hW;refine az ?_;intro hal bu;have cZ:=au;have gY:=results179;go_enter func179,ntmps179;go_wp2_with (first|((with_reducible refine(Hcs.out _).mono ?_);refine df ?_;intro wA kY NA F4 hcA hfA hsA)|((with_reducible refine(Hcl.out _ _ aG je je).mono ?_);refine df ?_;intro wB Io NB XE hcB hfB hsB)|((with_reducible refine(apx.out _).mono ?_);refine df ?_;intro wC hbC NC hNC hcC hfC hsC));refine bodyPost_ret (v:=.agg #[ag (ox+X),ag (oy+Y)]) (by simp[results,gY,go_sem,cZ,hcA,hcB,hcC,aQ,↓IntWalk.iteOmega]) rfl ⟨rfl,?_⟩;exact aG
attribute [local go_sem] Oper.semAt_some
abbrev P_:={n:Int×Int//Vo n}
def Nl (x:P_):Array Value:=#[.agg #[ag (x.1.1),ag (x.1.2)]]
def qH (zs:List (Int×Int)) (i:Nat):P_:=⟨edn zs i,uV _ _⟩
def L9 (x y:Int):P_:=⟨(Np x y,Nq x y),uV x y⟩
def iU (zs:List (Int×Int)):List P_:=upto (qH zs) zs.length
def Gl (za zb:List (Int×Int)) (dx dy:Int):List P_:=
 if za.length=0 then(if zb.length=0 then[L9 dx dy]else[L9 (AZ zb dx dy) (A7 zb dx dy)])
 else if zb.length=0 then[L9 (AZ za (-dx) (-dy)) (A7 za (-dx) (-dy))]else[]
def lL (za zb:List (Int×Int)) (dx dy:Int):List P_:=iU za++(iU zb++Gl za zb dx dy)
theorem Ab (za zb:List (Int×Int)) (dx dy:Int):(lL za zb dx dy).map (·.1)=Yg za zb dx dy:=by
 have e:∀zs,(iU zs).map (·.1)=eax zs:=fun zs=>by unfold iU eax upto;rw[List.map_map];rfl
 unfold lL Yg Gl cax;rw[List.map_append,List.map_append,e,e];congr 2;by_cases h1:za.length=0
 ·by_cases h2:zb.length=0
  ·simp[h1,h2,L9]
  ·simp[h1,h2,L9]
 ·by_cases h2:zb.length=0
  ·simp[h1,h2,L9]
  ·simp[h1,h2]
theorem JA {α:Type} (f:Nat→α) {k n:Nat} (h:k≤n):upto f k<+:upto f n:=by
 have:upto f k=(upto f n).take k:=by simp[upto,←List.map_take,List.take_range,Nat.min_eq_left h]
 rw[this];exact List.take_prefix _ _
theorem Fz {J:List P_→World→Prop} {B:Nat} (h:AbidesFrom B J) {pre:List P_} {W W':World} (hj:J pre W) (hb:aJ W W'):J pre W':=
 h pre W W' none hj ⟨hb.os,hb.tape,hb.output,hb.size,fun k hk _=>hb.block k hk⟩ (fun r e=>by cases e)
theorem Yj (ra:Int) (aa:Option Addr) (la ca:Nat) (px py rb:Int) (ab:Option Addr) (lb cb:Nat) (qx qy:Int) (w:World):
  Calls prog 137 #[.agg #[ag ra,.slice aa la ca],.agg #[ag px,ag py],.agg #[ag rb,.slice ab lb cb],.agg #[ag qx,ag qy]] w fun e w'=>
   e=.returned (.func (.func 176) #[] #[aR w.heap.size,.pointer (some ⟨w.heap.size+1+1,0,none⟩),.pointer (some ⟨w.heap.size+1+1+1,0,none⟩),.pointer (some ⟨w.heap.size+1,0,none⟩)])∧
   w'=(((w.alloc (.cells #[ag ra,.slice aa la ca] 122)).alloc (.cells #[ag px,ag py] 29)).alloc (.cells #[ag rb,.slice ab lb cb] 122)).alloc (.cells #[ag qx,ag qy] 29):=by go_enter func137,ntmps137;go_wp2;go_ret;exact⟨av,rfl⟩
structure AxG (w:World) (ra:Int) (aa:Option Addr) (la ca:Nat) (za:List (Int×Int)) (rb:Int) (ab:Option Addr) (lb cb:Nat) (zb:List (Int×Int)) (px py qx qy:Int) (Ba Bb Bq Bp:Nat):Prop where
 hA:iL w ra aa la ca za
 hB:iL w rb ab lb cb zb
 cA0:w.cell? ⟨Ba,0,none⟩=some (ag ra)
 cA1:w.cell? ⟨Ba,1,none⟩=some (.slice aa la ca)
 cB0:w.cell? ⟨Bb,0,none⟩=some (ag rb)
 cB1:w.cell? ⟨Bb,1,none⟩=some (.slice ab lb cb)
 cQ0:w.cell? ⟨Bq,0,none⟩=some (ag qx)
 cQ1:w.cell? ⟨Bq,1,none⟩=some (ag qy)
 cP0:w.cell? ⟨Bp,0,none⟩=some (ag px)
 cP1:w.cell? ⟨Bp,1,none⟩=some (ag py)
theorem Yl (n:Nat) (hn:1≤n) (ra:Int) (aa:Option Addr) (la ca:Nat) (za:List (Int×Int)) (rb:Int) (ab:Option Addr) (lb cb:Nat) (zb:List (Int×Int)) (px py qx qy dx dy:Int) (Ba Bb Bq Bp:Nat)
  (hp: -10000000≤px∧px≤10000000∧-10000000≤py∧py≤10000000) (hq: -10000000≤qx∧qx≤10000000∧-10000000≤qy∧qy≤10000000) (Qa:dx=qx-px) (hdy:dy=qy-py)
  (Gd:World→Prop) (Kp:World→World→Prop) (hG:∀V,Gd V→AxG V ra aa la ca za rb ab lb cb zb px py qx qy Ba Bb Bq Bp) (hL:∀V V',Gd V→aJ V V'→Gd V') (hKp:∀V V',Gd V→Kp V V'→Gd V')
  (N:Nat) (hN:(lL za zb dx dy).length≤N) (l:Nat) (J Jx:List P_→World→Prop) (Bs:Nat) (hAb:AbidesFrom Bs J)
  (hY:∀pre x W1,J pre W1→pre.length<N→YieldAt Fence.wide (n-1) prog l (Nl x) W1 fun e W'=>
   (e=.returned (.bool true)∧J (pre++[x]) W'∧Kp W1 W')∨(e=.returned (.bool false)∧Jx (pre++[x]) W'))
  (W:World) (hW:Gd W) (h0:J [] W):
  CallsIn Fence.wide n prog 176 #[.func (.yield l) #[] #[],aR Ba,aR Bb,aR Bq,aR Bp] W fun e W'=>(∃v,e=.returned v)∧
   ((∃ys,ys=lL za zb dx dy∧J ys W')∨(∃pre,pre<+:lL za zb dx dy∧Jx pre W')):=by
 have hla:=(hG W hW).hA.poly.len;have hlb:=(hG W hW).hB.poly.len;have hAl:(lL za zb dx dy).length=la+(lb+(Gl za zb dx dy).length):=by unfold lL iU;rw[List.length_append,List.length_append,jf,jf,hla,hlb]
 have HAb:=ah hAb;refine callsIn_of_wp func176 rfl trivial ?_ rfl;have HG:=ah hG;have HL:=ah hL;have HKp:=ah hKp;have apo:=(hG W hW).cA1;have apq:=(hG W hW).cB1;clear hG hL hKp;simp only[ntmps176,List.size_toArray,List.length_cons,List.length_nil,Nat.reduceAdd,Nat.reduceSub,Array.replicate_succ,Array.replicate_zero,List.push_toArray,List.append_toArray,List.nil_append,List.cons_append];gi_wp2;clear apo apq;gi_loopw [16] (fun i wr=>∃p:Nat,p≤2∧i=ag p∧J (if p=0 then[]else if p=1 then iU za else iU za++iU zb) wr∧Gd wr) (fun i _=>2-(intOf i).toNat);case atStart=>exact⟨0,bL,rfl,h0,hW⟩
 case round=>
  obtain⟨p,tH,rfl,hJs,hB⟩:=hrel;have o9:∀W:World,Sem.run prog (Instr.index 299 (.agg #[.slice aa la ca,.slice ab lb cb]) (ag 0)) W=.ok (.slice aa la ca) W:=fun W=>by kernel_rfl
  have pK:∀W:World,Sem.run prog (Instr.index 299 (.agg #[.slice aa la ca,.slice ab lb cb]) (ag 1)) W=.ok (.slice ab lb cb) W:=fun W=>by kernel_rfl
  rcases(show p=0∨p=1∨p=2 from ae)with rfl|rfl|rfl
  ·
   gi_wp2
   gi_loopw [21] (fun i wi=>∃k:Nat,k≤la∧i=ag k∧J ([]++upto (qH za) k) wi∧Gd wi) (fun i _=>la-(intOf i).toNat)
   case atStart=>exact⟨0,Nat.zero_le _,rfl,by simpa[upto]using hJs,hB⟩
   case round=>
    obtain⟨k,hk,rfl,Yo,hBk⟩:=hrel
    by_cases hlt:k<la
    ·have hS:=(HG.out _ hBk).hA
     have kind:=hS.kind
     rcases kind with⟨h0,-⟩|⟨-,h3,h6,hbd,-⟩
     ·omega
     have Nr:=hS.poly
     have hzl:za.length=la:=Nr.len
     rcases Nr with⟨-,h0,-⟩|⟨b,o,rfl,-,hle,hcm,hcell⟩
     ·omega
     unfold maxLen at hcm
     have hm:(k+1)%la<la:=Nat.mod_lt _ ae
     have v0:=(hcell k hlt).1
     have v1:=(hcell k hlt).2
     have v2:=(hcell ((k+1)%la) hm).1
     have v3:=(hcell ((k+1)%la) hm).2
     have hblt:=aU _ _ v0
     simp only at hblt
     have bk:=hbd k
     have bm:=hbd ((k+1)%la)
     have hmod:((k:Int)+1)%(la:Int)=(((k+1)%la:Nat):Int):=av
     have ca:=wZ (vy za ((k+1)%la)-vy za k) (vx za k-vx za ((k+1)%la)) ae ae
     have hed:qH za k=⟨(Np (vy za ((k+1)%la)-vy za k) (vx za k-vx za ((k+1)%la)),Nq (vy za ((k+1)%la)-vy za k) (vx za k-vx za ((k+1)%la))),uV _ _⟩:=by
      apply Subtype.ext
      simp only[qH,edn,edx,edy,hzl]
     have sS:=yB (qH za) k
     have hlen:([]++upto (qH za) k).length<N:=by
      rw[List.length_append,jf]
      rw[List.length_nil];omega
     have KJ:=fun W1 Xe=>hY ([]++upto (qH za) k) (qH za k) W1 Xe hlen
     have hstop:([]++upto (qH za) (k+1))<+:lL za zb dx dy:=by rw[List.nil_append];unfold lL iU;exact((JA (qH za) ae).trans (List.prefix_append _ _))
     generalize ((k+1)%la:Nat)=m at*
     have hmI:(m:Int)<(la:Int):=ae
     have hm0:(0:Int)≤(m:Int):=ae
     generalize vx za k=x0 at*
     generalize vy za k=y0 at*
     generalize vx za m=x1 at*
     generalize vy za m=y1 at*
     obtain⟨u,hu⟩:∃u,u=Np (y1-y0) (x0-x1):=⟨_,rfl⟩
     obtain⟨v,hv⟩:∃v,v=Nq (y1-y0) (x0-x1):=⟨_,rfl⟩
     rw[←hu,←hv]at ca
     have henc:Nl (qH za k)=#[.agg #[ag u,ag v]]:=by rw[hed,hu,hv];rfl
     rw[henc]at KJ
     have hL0:((la:Int)==0)=false:=beq_eq_false_iff_ne.2 ae
     have hlI:(k:Int)<(la:Int):=ae
     exact CR
    ·obtain rfl:k=la:=ae
     clear hJs hB
     gi_wp2
     go_roundw
     case rel=>exact⟨1,bL,rfl,by rw[List.nil_append]at Yo;show J (iU za) wr;unfold iU;rw[hla];exact Yo,hBk⟩
     case measure=>simp[intOf]
  ·
   gi_wp2
   gi_loopw [21] (fun i wi=>∃k:Nat,k≤lb∧i=ag k∧J (iU za++upto (qH zb) k) wi∧Gd wi) (fun i _=>lb-(intOf i).toNat)
   case atStart=>exact⟨0,Nat.zero_le _,rfl,by simpa[upto]using hJs,hB⟩
   case round=>
    obtain⟨k,hk,rfl,Yo,hBk⟩:=hrel
    by_cases hlt:k<lb
    ·have hS:=(HG.out _ hBk).hB
     have kind:=hS.kind
     rcases kind with⟨h0,-⟩|⟨-,h3,h6,hbd,-⟩
     ·omega
     have Nr:=hS.poly
     have hzl:zb.length=lb:=Nr.len
     rcases Nr with⟨-,h0,-⟩|⟨b,o,rfl,-,hle,hcm,hcell⟩
     ·omega
     unfold maxLen at hcm
     have hm:(k+1)%lb<lb:=Nat.mod_lt _ ae
     have v0:=(hcell k hlt).1
     have v1:=(hcell k hlt).2
     have v2:=(hcell ((k+1)%lb) hm).1
     have v3:=(hcell ((k+1)%lb) hm).2
     have hblt:=aU _ _ v0
     simp only at hblt
     have bk:=hbd k
     have bm:=hbd ((k+1)%lb)
     have hmod:((k:Int)+1)%(lb:Int)=(((k+1)%lb:Nat):Int):=av
     have ca:=wZ (vy zb ((k+1)%lb)-vy zb k) (vx zb k-vx zb ((k+1)%lb)) ae ae
     have hed:qH zb k=⟨(Np (vy zb ((k+1)%lb)-vy zb k) (vx zb k-vx zb ((k+1)%lb)),Nq (vy zb ((k+1)%lb)-vy zb k) (vx zb k-vx zb ((k+1)%lb))),uV _ _⟩:=by
      apply Subtype.ext
      simp only[qH,edn,edx,edy,hzl]
     have sS:=yB (qH zb) k
     have hlen:(iU za++upto (qH zb) k).length<N:=by
      rw[List.length_append,jf]
      show(upto _ _).length+k<N;rw[jf];omega
     have KJ:=fun W1 Xe=>hY (iU za++upto (qH zb) k) (qH zb k) W1 Xe hlen
     have hstop:(iU za++upto (qH zb) (k+1))<+:lL za zb dx dy:=by
      obtain⟨t,ht⟩:=((JA (qH zb) (k:=k+1) (n:=zb.length) ae).trans (List.prefix_append _ (Gl za zb dx dy)))
      exact⟨t,by unfold lL;rw[List.append_assoc,ht];rfl⟩
     generalize ((k+1)%lb:Nat)=m at*
     have hmI:(m:Int)<(lb:Int):=ae
     have hm0:(0:Int)≤(m:Int):=ae
     generalize vx zb k=x0 at*
     generalize vy zb k=y0 at*
     generalize vx zb m=x1 at*
     generalize vy zb m=y1 at*
     obtain⟨u,hu⟩:∃u,u=Np (y1-y0) (x0-x1):=⟨_,rfl⟩
     obtain⟨v,hv⟩:∃v,v=Nq (y1-y0) (x0-x1):=⟨_,rfl⟩
     rw[←hu,←hv]at ca
     have henc:Nl (qH zb k)=#[.agg #[ag u,ag v]]:=by rw[hed,hu,hv];rfl
     rw[henc]at KJ
     have hL0:((lb:Int)==0)=false:=beq_eq_false_iff_ne.2 ae
     have hlI:(k:Int)<(lb:Int):=ae
     exact CR
    ·obtain rfl:k=lb:=ae
     clear hJs hB
     gi_wp2
     go_roundw
     case rel=>exact⟨2,bL,rfl,by show J (iU za++iU zb) wr;rw[show iU zb=upto (qH zb) zb.length from rfl,hlb];exact Yo,hBk⟩
     case measure=>simp[intOf]
  ·
   have Xf:J (iU za++iU zb) wr:=hJs
   have HJs:=ah Xf
   have e1:=(HG.out _ hB).cA0
   have e2:=(HG.out _ hB).cA1
   have e3:=(HG.out _ hB).cB0
   have e4:=(HG.out _ hB).cB1
   have e5:=(HG.out _ hB).cQ0
   have e6:=(HG.out _ hB).cQ1
   have e7:=(HG.out _ hB).cP0
   have e8:=(HG.out _ hB).cP1
   have g1:Ba<wr.heap.size:=aU _ _ e1
   have g2:Bb<wr.heap.size:=aU _ _ e3
   have g3:Bq<wr.heap.size:=aU _ _ e5
   have g4:Bp<wr.heap.size:=aU _ _ e7
   obtain⟨pG,axa,pQ,Ns⟩:=hp
   obtain⟨hq1,hq2,hq3,hq4⟩:=hq
   have iY:=(HG.out _ hB).hA
   have hSB:=(HG.out _ hB).hB
   clear hJs Xf hB
   by_cases hza:la=0
   ·by_cases hzb:lb=0
    ·have k1:=rq ra aa ca
     have k2:=rq rb ab cb
     subst hza hzb
     have hcx:Gl za zb dx dy=[L9 dx dy]:=by unfold Gl;rw[if_pos hla,if_pos hlb]
     have hlen:(iU za++iU zb).length<N:=by
      exact w_
     have hfull:lL za zb dx dy=(iU za++iU zb)++[L9 dx dy]:=by unfold lL;rw[hcx,List.append_assoc]
     have KJ:=fun W1 Xe=>hY (iU za++iU zb) (L9 dx dy) W1 Xe hlen
     rw[show Nl (L9 dx dy)=#[.agg #[ag (Np dx dy),ag (Nq dx dy)]]from rfl]at KJ
     have cs:=uK qx qy px py ae ae ae ae
     have cu:=wZ (qx-px) (qy-py) ae ae
     rw[←Qa,←hdy]at cs cu
     have Nn:=ah k1;have Fj:=ah k2;have Hcs:=ah cs;have Hcu:=ah cu;clear k1 k2 cs cu
     clear iY hSB
     have HY2:=ah KJ
     have CS:=ah hfull
     clear KJ hfull hcx hlen hAl o9 pK Qa hdy
     refine az ?_;intro hal bu
     gi_wp2_with (first|((refine⟨trivial,?_⟩;with_reducible refine(callsIn_wide.2 (Nn.out _)).mono ?_);refine df ?_;intro wA kY NA F4 hcA hfA hsA)|((refine⟨trivial,?_⟩;with_reducible refine(callsIn_wide.2 (Fj.out _)).mono ?_);refine df ?_;intro wB Io NB XE hcB hfB hsB)|((refine⟨trivial,?_⟩;with_reducible refine(callsIn_wide.2 (Hcs.out _)).mono ?_);refine df ?_;intro wC hbC NC hNC hcC hfC hsC)|((refine⟨trivial,?_⟩;with_reducible refine(callsIn_wide.2 (Hcu.out _)).mono ?_);rintro e wU ⟨rfl,hbU⟩;obtain⟨fn,tmps,assign,body,hy,hR⟩:=HY2.out wU (Fz HAb.out HJs.out aG)))
     refine hR.mono ?_
     rintro e W3 (⟨rfl,LY,nG⟩|⟨rfl,EY⟩)
     ·gi_wp2
      go_end0
      exact⟨⟨_,rfl⟩,.inl ⟨_,rfl,by rw[CS.out];exact LY⟩⟩
     ·gi_wp2
      go_end0
      exact⟨⟨_,rfl⟩,.inr ⟨_,List.prefix_refl _,by rw[CS.out];exact EY⟩⟩
    ·have k1:=rq ra aa ca
     have k2:=uW rb ab lb cb ae (by rcases hSB.kind with⟨h,-⟩|⟨-,-,h,-⟩<;>omega)
     subst hza
     have hcx:Gl za zb dx dy=[L9 (AZ zb dx dy) (A7 zb dx dy)]:=by unfold Gl;rw[if_pos hla,if_neg ae]
     have hlen:(iU za++iU zb).length<N:=by
      exact w_
     have hfull:lL za zb dx dy=(iU za++iU zb)++[L9 (AZ zb dx dy) (A7 zb dx dy)]:=by unfold lL;rw[hcx,List.append_assoc]
     have KJ:=fun W1 Xe=>hY (iU za++iU zb) (L9 (AZ zb dx dy) (A7 zb dx dy)) W1 Xe hlen
     rw[show Nl (L9 (AZ zb dx dy) (A7 zb dx dy))=#[.agg #[ag (Np (AZ zb dx dy) (A7 zb dx dy)),ag (Nq (AZ zb dx dy) (A7 zb dx dy))]]from rfl]at KJ
     have cs:=Gn hSB ae px py qx qy ae ae
     have hbz:Bd zb 32768:=by
      rcases hSB.kind with⟨h,-⟩|⟨-,-,-,h,-⟩
      ·exact absurd h hzb
      ·exact h
     have nb:=TJ hbz dx dy
     have cu:=wZ (AZ zb dx dy) (A7 zb dx dy) ae ae
     rw[←Qa,←hdy]at cs
     generalize AZ zb dx dy=tx at*
     generalize A7 zb dx dy=ty at*
     have Nn:=ah k1;have Fj:=ah k2;have Hcs:=ah cs;have Hcu:=ah cu;clear k1 k2 cs cu
     clear iY hSB nb hbz
     have HY2:=ah KJ
     have CS:=ah hfull
     clear KJ hfull hcx hlen hAl o9 pK Qa hdy
     refine az ?_;intro hal bu
     exact CU
   ·by_cases hzb:lb=0
    ·have k1:=uW ra aa la ca ae (by rcases iY.kind with⟨h,-⟩|⟨-,-,h,-⟩<;>omega)
     have k2:=rq rb ab cb
     subst hzb
     have hcx:Gl za zb dx dy=[L9 (AZ za (-dx) (-dy)) (A7 za (-dx) (-dy))]:=by unfold Gl;rw[if_neg ae,if_pos hlb]
     have hlen:(iU za++iU zb).length<N:=by
      exact w_
     have hfull:lL za zb dx dy=(iU za++iU zb)++[L9 (AZ za (-dx) (-dy)) (A7 za (-dx) (-dy))]:=by unfold lL;rw[hcx,List.append_assoc]
     have KJ:=fun W1 Xe=>hY (iU za++iU zb) (L9 (AZ za (-dx) (-dy)) (A7 za (-dx) (-dy))) W1 Xe hlen
     rw[show Nl (L9 (AZ za (-dx) (-dy)) (A7 za (-dx) (-dy)))=#[.agg #[ag (Np (AZ za (-dx) (-dy)) (A7 za (-dx) (-dy))),ag (Nq (AZ za (-dx) (-dy)) (A7 za (-dx) (-dy)))]]from rfl]at KJ
     have cs:=Gn iY ae qx qy px py ae ae
     have hbz:Bd za 32768:=by
      rcases iY.kind with⟨h,-⟩|⟨-,-,-,h,-⟩
      ·exact absurd h hza
      ·exact h
     have nb:=TJ hbz (-dx) (-dy)
     have cu:=wZ (AZ za (-dx) (-dy)) (A7 za (-dx) (-dy)) ae ae
     rw[show px-qx= -dx from ae,show py-qy= -dy from ae]at cs
     generalize AZ za (-dx) (-dy)=tx at*
     generalize A7 za (-dx) (-dy)=ty at*
     have Nn:=ah k1;have Fj:=ah k2;have Hcs:=ah cs;have Hcu:=ah cu;clear k1 k2 cs cu
     clear iY hSB nb hbz
     have HY2:=ah KJ
     have CS:=ah hfull
     clear KJ hfull hcx hlen hAl o9 pK Qa hdy
     refine az ?_;intro hal bu
     gi_wp2_with (first|((refine⟨trivial,?_⟩;with_reducible refine(callsIn_wide.2 (Nn.out _)).mono ?_);refine df ?_;intro wA kY NA F4 hcA hfA hsA))
     refine⟨trivial,?_⟩
     exact CU
    ·have k1:=uW ra aa la ca ae (by rcases iY.kind with⟨h,-⟩|⟨-,-,h,-⟩<;>omega)
     have k2:=uW rb ab lb cb ae (by rcases hSB.kind with⟨h,-⟩|⟨-,-,h,-⟩<;>omega)
     have hfull:lL za zb dx dy=iU za++iU zb:=by unfold lL Gl;rw[if_neg ae,if_neg ae,List.append_nil]
     have CS:=ah hfull
     have Nn:=ah k1;have Fj:=ah k2;clear k1 k2
     clear iY hSB hfull hAl o9 pK Qa hdy
     refine az ?_;intro hal bu
     gi_wp2_with (first|((refine⟨trivial,?_⟩;with_reducible refine(callsIn_wide.2 (Nn.out _)).mono ?_);refine df ?_;intro wA kY NA F4 hcA hfA hsA))
     refine⟨trivial,?_⟩
     gi_wp2_with (first|((refine⟨trivial,?_⟩;with_reducible refine(callsIn_wide.2 (Nn.out _)).mono ?_);refine df ?_;intro wA kY NA F4 hcA hfA hsA)|((refine⟨trivial,?_⟩;with_reducible refine(callsIn_wide.2 (Fj.out _)).mono ?_);refine df ?_;intro wB Io NB XE hcB hfB hsB))
     go_end0
     exact⟨⟨_,rfl⟩,.inl ⟨_,rfl,by rw[CS.out];exact Fz HAb.out HJs.out aG⟩⟩
end Co
end Go.Proofs.YtohpdonnpbjfdaaGreatDoor
