/- What is shown: setups and rows. Conditions: as each theorem states. -/
import Derived.Test.YtohpdonnpbjfdaaGreatDoorY5
import Derived.Test.YtohpdonnpbjfdaaGreatDoorY28
set_option maxHeartbeats 40000000
set_option maxRecDepth 100000
set_option linter.unusedVariables false
set_option linter.unusedSimpArgs false
open Go.Proofs.Tryz
namespace Go.Proofs.YtohpdonnpbjfdaaGreatDoor
theorem C_ {P Q:Prop} (q:Q) (h:Q→P:=by have k3:aV W w.heap.size [ag S.ak,bs,ag S.x0,ag S.y0,ag S.x1,ag S.y1,rm,dr,ag S.ou,ag S.gx,ag S.gy,ag S.push,ag S.eO,ag S.rest,ag S.rounds,ag S.fuel]:=dm;intro kk;revert k3;exact kk):P:=h q
namespace Se
open Go.RowKit aN fO Qt Ro Bk Sh Cl La
attribute [local go_sem] Oper.semAt_some
variable {w w':World} {a:Option Addr} {len cap:Nat} {z:List Int} {x c:Int} {S:Stp} {bs rm dr:Value}
theorem td (h:0≤x):x.tdiv c=x/c:=afA h
theorem tm (h:0≤x):x.tmod c=x%c:=afB h
theorem row_in (h:Fr.tK .i64 w a len cap z) (hl:0<len):∃b o,a=some ⟨b,o,none⟩∧len≤cap∧cap≤maxLen∧∀k,k<len→∃x,w.cell? ⟨b,o+k,none⟩=some (ag x)∧-9223372036854775808≤x∧x≤9223372036854775807:=by
 rcases h with⟨_,h,_⟩|⟨⟨b,o,spot⟩,e,h1,h2,h3,h4,h5⟩
 ·omega
 ·have hs:spot=none:=by simpa[Addr.add]using World.cell?_spot (h4 0 ae)
  subst hs;refine⟨b,o,e,h1,h2,fun k hk=>⟨z.getD k 0,?_,?_⟩⟩
  ·have:=h4 k ae;have e2:(⟨b,o,none⟩:Addr).add k=⟨b,o+k,none⟩:=by
    unfold Addr.add;by_cases h0:k=0
    ·subst h0;simp
    ·simp[h0]
   rwa[e2]at this
  ·have hm:z.getD k 0∈z:=by rw[List.getD_eq_getElem?_getD,List.getElem?_eq_getElem ae];exact List.getElem_mem _
   exact J_ (h5 _ hm)
theorem qJ (h:Fr.tK .i64 w a len cap z) (hb:aJ w w'):Fr.tK .i64 w' a len cap z:=by
 rcases h with h|⟨x,e,h1,h2,h3,h4,h5⟩
 ·exact .inl h
 ·exact .inr ⟨x,e,h1,h2,h3,fun i hi=>ai hb (h4 i hi),h5⟩
def Ir (x:Int×Int×Int):List Value:=[ag x.1,ag x.2.1,ag x.2.2]
theorem TP:∀R:List (Int×Int×Int),(R.flatMap Ir).length=R.length*3
 |[]=>rfl
 |x::l=>by rw[List.flatMap_cons,List.length_append,TP l,List.length_cons,show(Ir x).length=3 from rfl];omega
def abN (x:Int×Int×Int):Prop:=-1≤x.1∧x.1≤1∧-1≤x.2.1∧x.2.1≤1∧0≤x.2.2∧x.2.2≤3
def Yz (P:Nat) (R:List (Int×Int×Int)):Prop:=R.length=P∧∀x∈R,abN x
def Ae (w:World) (Z:Nat) (u:Value) (R:List (Int×Int×Int)):Prop:=∃ib iD,u=aZ ib R.length iD∧Z≤ib∧ib<w.heap.size∧∀i x,R[i]?=some x→w.cell? ⟨ib,i*3,none⟩=some (ag x.1)∧w.cell? ⟨ib,i*3+1,none⟩=some (ag x.2.1)∧w.cell? ⟨ib,i*3+2,none⟩=some (ag x.2.2)
theorem Ae.keep {Z:Nat} {u:Value} {R:List (Int×Int×Int)} (h:Ae w Z u R) (hs:w.heap.size≤w'.heap.size) (hk:∀ib l c,u=aZ ib l c→w'.heap[ib]?=w.heap[ib]?):Ae w' Z u R:=by obtain⟨ib,iD,e,h1,h2,h3⟩:=h;have hb:=hk ib _ _ e;have hc:∀o,w'.cell? ⟨ib,o,none⟩=w.cell? ⟨ib,o,none⟩:=fun o=>bg (a:=⟨ib,o,none⟩) hb;exact⟨ib,iD,e,h1,ae,fun i x hx=>by rw[hc,hc,hc];exact h3 i x hx⟩
def afC (Z P:Nat) (u:Value) (w:World):Prop:=∃R:List (Int×Int×Int),Yz P R∧Ae w Z u R
def TQ (Z P n:Nat) (u:Value) (w:World):Prop:=∃(rb cp:Nat) (rows:List (List (Int×Int×Int))),u=aZ rb n cp∧rows.length=n∧(∀R∈rows,Yz P R)∧Z≤rb∧∀t R,rows[t]?=some R→∃u,w.cell? ⟨rb,t,none⟩=some u∧Ae w Z u R
theorem Tryz.ajS:Inf prog 56 128 (.agg #[ag 0,ag 0,ag 0]) 3 24:=⟨info_parts aL,underlying56,rfl,bL,bL⟩
theorem abO (hl:Fr.tK .i64 w a len cap z) (hP:1≤S.ak∧S.ak≤8) {t:Nat} (ht:t<20):
  Calls prog 24 #[dR S bs rm dr,.slice a len cap,ag t] w fun e w'=>∃u,e=.returned u∧afC w.heap.size S.ak u w'∧aJ w w':=by
 obtain⟨P,hPe⟩:∃P,P=S.ak:=⟨_,rfl⟩
 rw[←hPe]at hP⊢;obtain⟨m,hm,hm0⟩:∃m:Int,(t:Int)*(P:Int)=m∧0≤m∧m≤160:=by
  refine⟨_,rfl,?_,?_⟩
  ·exact_mod_cast Nat.zero_le (t*P)
  ·have:t*P≤20*8:=Nat.mul_le_mul ae hP.2;exact_mod_cast this
 have IA:=ah fun(x:Int) (V:World) (h0: -9223372036854775808≤x) (h1:x≤9223372036854775807)=>nR x 1000000 V h0 h1 bL bL;have hIn:=row_in hl;have hlen:len=0∨0<len∧(len:Int)≤9223372036854775807:=by
  rcases Nat.eq_zero_or_pos len with h|h
  ·exact .inl h
  ·obtain⟨_,_,_,h1,h2,_⟩:=hIn h;simp only[maxLen]at h2;omega
 clear hl;have gY:=results24;go_enter func24,ntmps24;go_upto_region 2 with(fail);refine aP fun W hW=>?_;refine C_ ?_;intro k3;have hbW:aJ w W:=aM;have hzW:w.heap.size<W.heap.size:=k3.lt;have q0:=k3.cell 0;rw[←hPe]at q0;clear hW k3;have HIn:=ah hIn;have Hq0:=ah q0;obtain⟨b3,gK⟩:∃b,b=w.heap.size:=⟨_,rfl⟩
 rw[←gK]at Hq0 hzW⊢;clear hIn q0 gK hPe;have cZ:=au;obtain⟨Z,hZ⟩:∃Z,Z=W.heap.size:=⟨_,rfl⟩
 have HZ:=ah hZ;clear hZ;go_wp2;go_loopw [7,8] (fun v i wr=>∃(j:Nat) (R:List (Int×Int×Int)),j≤P∧R.length=j∧(∀x∈R,abN x)∧i=ag j∧wr.ownsRow Z 128 3 v j (R.flatMap Ir)∧Z≤wr.heap.size∧Below Z W wr) (fun _ i _=>P-(intOf i).toNat);case atStart=>exact⟨0,[],ae,rfl,av,rfl,jw _ _ _ _,by rw[HZ.out];exact aH _,aK _ _⟩
 case round=>
  obtain⟨j,R,hj,hRl,hRv,rfl,own,hZr,hbr⟩:=hrel;have Gt:Below W.heap.size W wr:=by rw[←HZ.out];exact hbr
  have c0:=ai Gt Hq0.out;have jO:=ah own;have HRv:=ah hRv;have Hbr:=ah hbr;have l3:b3<wr.heap.size:=by have:=HZ.out;omega
  by_cases hjP:j<P
  ·have UL:(j:Int)<(P:Int):=ae;clear own hRv hbr;go_upto_if 19 with(fail);go_cut [9] (fun v9 wx=>wx=wr∧∃n:Int,v9=ag n∧0≤n∧n<1000000);case first=>
    rcases hlen with hl0|hl0
    ·subst hl0;go_wp2;go_meet;exact⟨rfl,0,rfl,ae,ae⟩
    ·obtain⟨b,o,rfl,_,_,hc⟩:=HIn.out hl0.1;have hgt:(len:Int)>0:=ae;have hne:((len:Int)==0)=false:=bU;obtain⟨q,hq,hq0⟩:∃q:Nat,(m+(j:Int)).tmod (len:Int)=(q:Int)∧q<len:=by have h1:=Int.emod_nonneg (m+(j:Int)) (show(len:Int)≠0 from ae);have h2:=Int.emod_lt_of_pos (m+(j:Int)) (show(0:Int)<(len:Int)from ae);exact⟨((m+(j:Int))%(len:Int)).toNat,by rw[tm ae];omega,ae⟩
     obtain⟨x,hx,UX,mg⟩:=hc q hq0;have hx':=ai (hbW.trans (Gt.mono hbW.size)) hx;have hbl:b<wr.heap.size:=by have:=aU _ _ hx';simpa using this
     have hqI:(q:Int)<(len:Int):=ae;have ha:=AQ x 1000000 bL;have hr:=IA.out x wr UX mg;clear hc hx UX mg;have U5:=ah hr;clear hr;go_wp2_with (first|((with_reducible refine(U5.out).mono ?_);rintro e w1 ⟨rfl,rfl⟩));go_meet;exact⟨rfl,_,rfl,ae,ae⟩
   case rest=>
    obtain⟨hwx,n,rfl,n0,n1⟩:=hcut;obtain rfl:=hwx.symm;obtain⟨x0,e0,g0⟩:∃x,n.tmod 3=x∧0≤x∧x≤2:=⟨_,rfl,by rw[tm n0];omega⟩
    obtain⟨y,e1,g1⟩:∃x,n.tdiv 3=x∧0≤x∧x≤1000000:=⟨_,rfl,by rw[td n0];omega⟩
    obtain⟨y0,e2,g2⟩:∃x,y.tmod 3=x∧0≤x∧x≤2:=⟨_,rfl,by rw[tm g1.1];omega⟩
    obtain⟨u,e3,g3⟩:∃x,n.tdiv 9=x∧0≤x∧x≤1000000:=⟨_,rfl,by rw[td n0];omega⟩
    obtain⟨u0,e4,g4⟩:∃x,u.tmod 3=x∧0≤x∧x≤2:=⟨_,rfl,by rw[tm g3.1];omega⟩
    obtain⟨s,e5,g5⟩:∃x,n.tdiv 27=x∧0≤x∧x≤1000000:=⟨_,rfl,by rw[td n0];omega⟩
    obtain⟨s0,e6,g6⟩:∃x,s.tmod 4=x∧0≤x∧x≤3:=⟨_,rfl,by rw[tm g5.1];omega⟩
    have fin:∀(s1:Int),0≤s1∧s1≤3→abN (x0-1,y0-1,s1):=fun s1 h=>by unfold abN;simp only;omega
    have pI:=ah fin;clear fin;have Cy:∀V,aJ wr V→V.ownsRow Z 128 3 u7 j (R.flatMap Ir):=fun V hV=>nC jO.out fun g e=>hV.block g (gM jO.out g e).2;have HO2:=ah Cy;clear Cy;go_upto_region 9 with(fail);refine aP fun W2 mi=>?_;have k10:aV W2 wr.heap.size (Ir (x0-1,y0-1,0)):=oJ;have dW:aJ wr W2:=iK;clear mi;have⟨c10,f10,l10⟩:=k10;obtain⟨b10,Vx⟩:∃b,b=wr.heap.size:=⟨_,rfl⟩
    rw[←Vx]at k10 c10 f10 l10⊢;have h10:wr.heap.size≤b10:=ae;clear Vx;unfold Ir at c10;simp only at c10;go_upto_if 44 with(fail);go_cut [] (fun wx=>∃s1:Int,0≤s1∧s1≤3∧aV wx b10 (Ir (x0-1,y0-1,s1))∧aJ wr wx);case first=>
     by_cases hu:u0=0
     ·subst hu;go_wp2;go_meet;exact⟨s0,g6.1,g6.2,k10.put 2 _,dW.setCell h10 _⟩
     ·have hu':(u0==0)=false:=by simpa using hu
      go_wp2;go_meet;exact⟨0,ae,ae,k10,dW⟩
    case rest=>
     obtain⟨s1,s10,s11,k11,gK⟩:=hcut;have hin:=pI.out s1 ⟨s10,s11⟩;clear k10 dW c10 f10 l10 e0 e1 e2 e3 e4 e5 e6 g0 g1 g2 g3 g4 g5 g6;have c10:=k11.cell;have l10:=k11.lt;unfold Ir at c10;simp only at c10;go_upto_region 11 with(fail);have apY:=ah (HO2.out (wc.alloc (.cells #[ag (x0-1),ag (y0-1),ag s1] 128)) (gK.alloc gK.size _));have Hin:=ah hin;go_wp2_with (refine qw rfl ?_;refine oh Tryz.ajS (.tmp 49) (.tmp 51) rfl Z _ j (R.flatMap Ir) rfl apY.out wc.heap.size (Ir (x0-1,y0-1,s1)) rfl rfl (fun jj uu hj=>by rw[World.cell?_alloc_new];simpa[Ir]using hj) (by simp[Ir,Value.oneCell']) bU ae ?_;intro g cap w5 iE oK lJ;have C8:=ah iE;have mH:=ah oK;clear iE oK);refine⟨⟨j+1,R++[(x0-1,y0-1,s1)],ae,by simp[hRl],?_,av,?_,?_,?_⟩,by simp[intOf];omega⟩
     ·intro x hx;rcases h_.1 hx with h|h
      ·exact HRv.out x h
      ·obtain rfl:x=_:=uH.1 h;exact Hin.out
     ·rw[List.flatMap_append];simpa using C8.out
     ·have:=mH.out.size;simp at this;omega
     ·exact(Hbr.out.trans ((gK.alloc gK.size (.cells #[ag (x0-1),ag (y0-1),ag s1] 128)).mono hZr)).trans (mH.out.below (by have:=gK.size;simp;omega) fun k e=>(gM jO.out k e).1)
  ·obtain rfl:j=P:=ae;have UL:¬((j:Int)<(j:Int)):=ae;obtain⟨g,cp,rfl,BB,hg2,hg3⟩:=jX own ae;clear own hRv hbr;go_wp2;refine bodyPost_ret (v:=aZ g j cp) eU rfl ?_;have hbw:aJ w wr:=hbW.trans (Gt.mono hbW.size);refine⟨_,rfl,⟨R,⟨hRl,HRv.out⟩,g,cp,by rw[hRl],by have:=hbW.size;have:=HZ.out;omega,hg2,fun i x hx=>?_⟩,hbw⟩;have hi:=(List.getElem?_eq_some_iff.1 hx).1;have hm:∀r,r<3→(R.flatMap Ir)[i*3+r]?=(Ir x)[r]?:=fun r hr=>Qt.flat_get (m:=3) R (fun _ _=>rfl) i r x hr hx;exact⟨kL jO.out _ _ (hm 0 ae),kL jO.out _ _ (hm 1 ae),kL jO.out _ _ (hm 2 ae)⟩
theorem Tryz.afD:Inf prog 35 56 (.slice none 0 0) 1 24:=⟨info_parts aL,underlying35,rfl,bL,bL⟩
theorem Xt (hl:Fr.tK .i64 w a len cap z) (hP:1≤S.ak∧S.ak≤8) {n:Nat} (hn:1≤n∧n≤20):
  Calls prog 6 #[dR S bs rm dr,.slice a len cap,ag n] w fun e w'=>∃u,e=.returned u∧TQ w.heap.size S.ak n u w'∧aJ w w':=by
 have hrow:=fun(V:World) (hV:aJ w V) (t:Nat) (ht:t<20)=>abO (S:=S) (bs:=bs) (rm:=rm) (dr:=dr) (qJ hl hV) hP ht;obtain⟨P,hPe⟩:∃P,P=S.ak:=⟨_,rfl⟩
 rw[←hPe];simp only[←hPe]at hrow;clear hl hP;unfold dR at*;have gY:=results6;go_enter func6,ntmps6;go_upto_region 2 with(fail);refine aP fun W hW=>?_;refine C_ ?_;intro k3;have hbW:aJ w W:=aM;have hzW:w.heap.size<W.heap.size:=k3.lt;clear hW;have Xu:=ah k3;obtain⟨b3,gK⟩:∃b,b=w.heap.size:=⟨_,rfl⟩
 rw[←gK]at Xu hzW⊢;clear k3 gK;have ajV:=ah hrow;have axQ:=ah hPe;clear hrow hPe;obtain⟨Z,hZ⟩:∃Z,Z=W.heap.size:=⟨_,rfl⟩
 have HZ:=ah hZ;clear hZ;go_wp2;go_loopw [7,8] (fun v i wr=>∃(j:Nat) (rows:List (List (Int×Int×Int))) (us:List Value),j≤n∧rows.length=j∧(∀R∈rows,Yz P R)∧i=ag j∧wr.ownsRow Z 56 1 v j us∧Z≤wr.heap.size∧Below Z W wr∧(∀u∈us,u.oneCell'=true)∧∀(t:Nat) (R:List (Int×Int×Int)),rows[t]?=some R→∃u:Value,us[t]?=some u∧Ae wr Z u R∧∀ib l c,u=aZ ib l c→v.ownBlock≠some ib) (fun _ i _=>n-(intOf i).toNat);case atStart=>exact⟨0,[],[],ae,rfl,av,rfl,jw _ _ _ _,by rw[HZ.out];exact aH _,aK _ _,av,av⟩
 case round=>
  obtain⟨j,rows,us,hj,hRl,hRv,rfl,own,hZr,hbr,hone,hrs⟩:=hrel;have Gt:Below W.heap.size W wr:=by rw[←HZ.out];exact hbr
  have k3:=Xu.out.later Gt;have c3:=k3.cell;have l3:=k3.lt;have jO:=ah own;have HRv:=ah hRv;have Hrs:=ah hrs;have afE:=ah hone;have hbw:aJ w wr:=hbW.trans (Gt.mono hbW.size);by_cases hjP:j<n
  ·have UL:(j:Int)<(n:Int):=ae;have axR:(j:Int)<20:=ae;have U5:=ah fun(V:World) (hV:aJ wr V)=>ajV.out V (hbw.trans (hV.mono hbw.size)) j ae;have KL:=ah fun(V:World) (hV:aJ wr V)=>(nC own fun g e=>hV.block g (gM own g e).2:V.ownsRow Z 56 1 u7 j us)
   clear own hRv hrs hone k3;go_upto_region 5 with(fail);go_wp2_with (first
    |((with_reducible refine(U5.out _ aG).mono ?_);rintro e w1 ⟨u,rfl,⟨R,hRo,hIR⟩,aO⟩;obtain⟨ib0,YA,hu0,hI1⟩:=id hIR;subst hu0;clear hI1;have hO1:=KL.out _ (aO.alloc aO.size (.cells #[aZ ib0 R.length YA] 56));have HO1:=ah hO1;have zo:(Value.slice (some ⟨ib0,0,none⟩) R.length YA).oneCell'=true:=rfl;have HIR:=ah hIR;have HRo:=ah hRo;clear hO1 hIR hRo)
    |(refine qw rfl ?_;refine oh Tryz.afD (.tmp 18) (.tmp 23) rfl Z _ j us rfl HO1.out w1.heap.size [.slice (some ⟨ib0,0,none⟩) R.length YA] rfl rfl (fun jj uu hj=>by rw[World.cell?_alloc_new];simpa using hj) (by simpa using zo) (by have:=aO.size;simp;omega) ae ?_;intro g cap w5 iE oK lJ;have C8:=ah iE;have mH:=ah oK;clear iE oK))
   have kY:aJ wr (w1.alloc (.cells #[aZ ib0 R.length YA] 56)):=aO.alloc aO.size _;have KF:=mH.out.size;have hsA:=kY.size;simp only[World.size_alloc]at KF hsA;have eY:Below Z wr w5:=(kY.mono hZr).trans (mH.out.below bU fun k e=>(gM jO.out k e).1);obtain⟨u,hu⟩:∃u,u=Value.slice (some ⟨ib0,0,none⟩) R.length YA:=⟨_,rfl⟩
   (try simp only[aZ]at zo HIR C8 mH kY);rw[←hu]at zo HIR C8 mH kY;refine⟨⟨j+1,rows++[R],us++[u],ae,by simp[hRl],?_,av,by simpa using C8.out,ae,hbr.trans eY,?_,?_⟩,by simp[intOf];omega⟩
   ·intro R' hR';rcases h_.1 hR' with h|h
    ·exact HRv.out R' h
    ·obtain rfl:R'=R:=uH.1 h;exact HRo.out
   ·intro u' hu';rcases h_.1 hu' with h|h
    ·exact afE.out u' h
    ·obtain rfl:u'=u:=uH.1 h;exact zo
   ·intro t R' hR';have hul:us.length=j:=by have:=jO.out.1;simpa using this
    by_cases htj:t<j
    ·rw[List.getElem?_append_left ae]at hR';obtain⟨u',h1,h2,h3⟩:=Hrs.out t R' hR';have h4:∀ib l c,u'=aZ ib l c→ib<wr.heap.size:=fun ib l c e=>by obtain⟨ib',iD,e',_,h5,_⟩:=h2;rw[e]at e';injection e' with e' _ _;injection e' with e';injection e' with e';omega
     refine⟨u',by rw[List.getElem?_append_left ae];exact h1,h2.keep ae fun ib l c e=>?_,fun ib l c e e9=>?_⟩
     ·exact(mH.out.block ib (by have:=h4 ib l c e;simp;omega) (h3 ib l c e)).trans (kY.block ib (h4 ib l c e))
     ·have e10:g=ib:=bD e9;rcases mH.out.new with h6|h6
      ·exact h3 ib l c e (h6.trans (congrArg some e10))
      ·have:=h4 ib l c e;simp at h6;omega
    ·have htl:t<(rows++[R]).length:=(List.getElem?_eq_some_iff.1 hR').1;simp[hRl]at htl;obtain rfl:t=j:=ae;rw[List.getElem?_append_right ae,show t-rows.length=0 from ae]at hR';obtain rfl:R=R':=by simpa using hR'
     obtain⟨ib,iD,e,h5,h6,h7⟩:=HIR.out;have hn5:∀x,u7.ownBlock=some x→x<wr.heap.size:=fun x e=>(gM jO.out x e).2;refine⟨u,by rw[List.getElem?_append_right ae,show t-us.length=0 from ae];rfl,Ae.keep (show Ae w1 Z u R from⟨ib,iD,e,ae,h6,h7⟩) ae fun ib' l c e'=>?_,fun ib' l c e' e9=>?_⟩
     ·have e11:ib=ib':=by rw[e]at e';injection e' with e' _ _;injection e' with e';injection e'
      subst e11;exact(mH.out.block ib bU (fun e12=>by have:=hn5 ib e12;omega)).trans (gV _ _ _ h6)
     ·have e11:ib=ib':=by rw[e]at e';injection e' with e' _ _;injection e' with e';injection e'
      subst e11;have e10:g=ib:=bD e9;rcases mH.out.new with h8|h8
      ·have:=hn5 g h8;omega
      ·simp at h8;omega
  ·obtain rfl:j=n:=ae;have UL:¬((j:Int)<(j:Int)):=ae;obtain⟨g,cp,rfl,BB,hg2,hg3⟩:=jX own ae;clear own hRv hrs hone k3;go_wp2;refine bodyPost_ret (v:=aZ g j cp) eU rfl ?_;refine⟨_,rfl,⟨g,cp,rows,rfl,hRl,HRv.out,by have:=hbW.size;have:=HZ.out;omega,fun t R hR=>?_⟩,hbw⟩;obtain⟨u,h1,⟨ib,iD,e,h2,h3⟩,_⟩:=Hrs.out t R hR;exact⟨u,kL jO.out _ _ h1,ib,iD,e,by have:=hbW.size;have:=HZ.out;omega,h3⟩
variable {Z b:Nat} {dv:Value}
theorem vO.drew {u:World} (h:vO Z b u w):vO Z b u w.drew:=h.below (aK _ _).drew
def EZ (P:Int) (bs rm dr:Value) (f gy pu dg re ro fu:Int):List Value:=[ag P,bs,ag (-12000),ag (-9000),ag 12000,ag 9000,rm,dr,ag f,ag 0,ag gy,ag pu,ag dg,ag re,ag ro,ag fu]
def K4 (w:World) (g:Nat):Prop:=∀i,i<24→∃x:Int,w.cell? ⟨g,i,none⟩=some (ag x)∧0≤x∧x<1000000
theorem kZ.al {L:List (Int×Int)} (h:kZ w dv L) (hl:∀q l c,dv=aZ q l c→q<Z∧q≠b) (k:vO Z b w w'):kZ w' dv L:=by
 rcases h with h|⟨h0,g,cp,e,h⟩
 ·exact .inl h
 ·have hg:=hl g _ _ e;have hc:∀o,w'.cell? ⟨g,o,none⟩=w.cell? ⟨g,o,none⟩:=fun o=>bg (a:=⟨g,o,none⟩) (k.block g hg.1 hg.2);exact .inr ⟨h0,g,cp,e,fun i x hx=>by rw[hc,hc];exact h i x hx⟩
theorem sV.al {L:List (Int×Int×Int×Int)} (h:sV w dv L) (hl:∀q l c,dv=aZ q l c→q<Z∧q≠b) (k:vO Z b w w'):sV w' dv L:=by
 rcases h with h|⟨h0,g,cp,e,h⟩
 ·exact .inl h
 ·have hg:=hl g _ _ e;have hc:∀o,w'.cell? ⟨g,o,none⟩=w.cell? ⟨g,o,none⟩:=fun o=>bg (a:=⟨g,o,none⟩) (k.block g hg.1 hg.2);exact .inr ⟨h0,g,cp,e,fun i x hx=>by rw[hc,hc,hc,hc];exact h i x hx⟩
def Yx (B:yx) (sl:Value):List Value:=[ag B.r,sl,ag B.px,ag B.py,ag B.vx,ag B.vy,ag B.im,ag B.A,ag B.B]
structure BOk (B:yx):Prop where
 px: -5400≤B.px∧B.px≤5400
 py: -4000≤B.py∧B.py≤4000
 vx: -1200≤B.vx∧B.vx≤1200
 vy: -1200≤B.vy∧B.vy≤1200
 im:0≤B.im∧B.im≤4096
 A:0≤B.A∧B.A≤49
 B:0≤B.B∧B.B≤6
def BV (w:World) (x:List Value) (B:yx) (Z:Nat) (v:Value):Prop:=∃a len cap,x=Yx B (.slice a len cap)∧iL w B.r a len cap B.zs∧(a=none∨∃p,a=some ⟨p,0,none⟩∧p<w.heap.size∧Z≤p∧v.ownBlock≠some p)∧BOk B
theorem BV.keep {x:List Value} {B:yx} {v v':Value} (h:BV w x B Z v) (hs:w.heap.size≤w'.heap.size) (hk:∀p,p<w.heap.size→Z≤p→v.ownBlock≠some p→w'.heap[p]?=w.heap[p]?) (hv:∀p,v'.ownBlock=some p→v.ownBlock=some p∨w.heap.size≤p):BV w' x B Z v':=by
 obtain⟨a,len,cap,e,h1,h2,h3⟩:=h;refine⟨a,len,cap,e,pX h1 fun p hp=>?_,?_,h3⟩
 ·rcases h2 with h2|⟨q,e1,g1,g2,g3⟩
  ·rw[h2]at hp;cases hp
  ·rw[e1]at hp;obtain rfl:=bD hp;exact hk q g1 g2 g3
 ·rcases h2 with h2|⟨q,e1,g1,g2,g3⟩
  ·exact .inl h2
  ·refine .inr ⟨q,e1,ae,g2,fun e2=>?_⟩;rcases hv q e2 with h4|h4
   ·exact g3 h4
   ·omega
structure Lp (W2 wr:World) (Z b1:Nat) (e:TypeId) (v:Value) (j:Nat) (Ls:List (yx×List Value)):Prop where
 own:wr.ownsRow Z e 9 v j (Ls.flatMap (·.2))
 len:Ls.length=j
 al:vO Z b1 W2 wr
 sz:Z≤wr.heap.size
 bv:∀x∈Ls,BV wr x.2 x.1 Z v
def Yw (u:Value) (w:World):Prop:=∃S b cap rm dr,u=dR S (aZ b S.bodies.length cap) rm dr∧lK w S (aZ b S.bodies.length cap) rm dr∧ql S∧S.ak≤3∧S.bodies.length≤5∧S.bodies.length≤cap
def rms:List (Int×Int×Int×Int):=[(-12000,-9000,-1,9000),(0,0,12000,9000),(0,-9000,12000,-1)]
theorem abM {g:Nat} (k:aV w g [ag (-12000),ag (-9000),ag (-1),ag 9000,ag 0,ag 0,ag 12000,ag 9000,ag 0,ag (-9000),ag 12000,ag (-1)]):sV w (aZ g 3 3) rms:=by
 refine .inr ⟨by simp[rms],g,3,rfl,fun i x hx=>?_⟩;have hi:i<3:=by have:=(List.getElem?_eq_some_iff.1 hx).1;simpa[rms]using this
 obtain rfl|rfl|rfl:i=0∨i=1∨i=2:=ae;all_goals
  obtain rfl:=bD hx
  exact⟨k.cell _,k.cell _,k.cell _,k.cell _⟩
theorem KG {wr wF:World} {Y g' cap' bR b2 P j:Nat} {e:TypeId} {Ls:List (yx×List Value)} {D:List (Int×Int)} {F GY PU DG RE RO:Int}
  (own:wr.ownsRow Y e 9 (aZ g' j cap') j (Ls.flatMap (·.2))) (len:Ls.length=j) (bv:∀x∈Ls,BV wr x.2 x.1 Y (aZ g' j cap')) (k:vO wr.heap.size b2 wr wF) (h2:b2<Y) (hgY:Y≤g')
  (kR:aV wr bR [ag (-12000),ag (-9000),ag (-1),ag 9000,ag 0,ag 0,ag 12000,ag 9000,ag 0,ag (-9000),ag 12000,ag (-1)]) (hbR:bR≠b2)
  (hD:kZ wr dv D) (hd:∀q l c,dv=aZ q l c→q<wr.heap.size∧q≠b2) (hD2:D.length≤2) (hDo:∀d∈D,d.1≠d.2∧0≤d.1∧d.1<3∧0≤d.2∧d.2<3)
  (hcap:j≤cap') (hP:1≤P∧P≤3) (hj:P≤j∧j≤5) (hF:0≤F∧F≤4194304) (hGY: -16384≤GY∧GY≤16384) (hPU:0≤PU∧PU≤16384) (hDG:0≤DG∧DG≤1024) (hRE:0≤RE∧RE≤1024) (hRO:1≤RO∧RO≤4):
  Yw (.agg #[ag P,aZ g' j cap',ag (-12000),ag (-9000),ag 12000,ag 9000,aZ bR 3 3,dv,ag F,ag 0,ag GY,ag PU,ag DG,ag RE,ag RO,ag 60]) wF:=by
 have hlen:(Ls.map (·.1)).length=j:=by rw[List.length_map,len]
 have hgs:=(own.lt g' rfl).2;have h9:∀x∈Ls,(x.2).length=9:=fun x hx=>by obtain⟨a,l,c,e,_⟩:=bv x hx;rw[e];rfl
 have hbd:∀B∈Ls.map (·.1),BOk B:=fun B hB=>by obtain⟨x,hx,rfl⟩:=List.mem_map.1 hB;obtain⟨a,l,c,_,_,_,h⟩:=bv x hx;exact h
 refine⟨⟨P,Ls.map (·.1),-12000,-9000,12000,9000,rms,D,F,0,GY,PU,DG,RE,RO,60⟩,g',cap',aZ bR 3 3,dv,by simp only[hlen],⟨⟨g',cap',rfl,fun i B hB=>?_⟩,?_,?_⟩,⟨?_,?_,?_,?_⟩,hP.2,by simp only[hlen];exact hj.2,by simp only[hlen];exact hcap⟩
 ·simp only at hB;rw[List.getElem?_map]at hB;cases hx:Ls[i]? with
  |none=>rw[hx]at hB;cases hB
  |some x=>
   rw[hx]at hB;obtain rfl:x.1=B:=by simpa using hB
   obtain⟨a,l,c,e1,s1,s2,s3⟩:=bv x (qo hx);have hc:∀r u,r<9→(Yx x.1 (.slice a l c))[r]?=some u→wF.cell? ⟨g',i*9+r,none⟩=some u:=fun r u hr hu=>by have h1:=flat_get Ls h9 i r x hr hx;rw[e1,hu]at h1;exact(bg (a:=⟨g',i*9+r,none⟩) (k.block g' hgs ae)).trans (kL own _ _ h1)
   have hsh:iL wF x.1.r a l c x.1.zs:=pX s1 fun p hp=>by
    rcases s2 with s2|⟨q,e2,g1,g2,g3⟩
    ·rw[s2]at hp;cases hp
    ·rw[e2]at hp;obtain rfl:=bD hp;exact k.block q g1 ae
   refine⟨⟨a,l,c,hc 0 _ ae rfl,hc 1 _ ae rfl,hsh,?_⟩,hc 2 _ ae rfl,hc 3 _ ae rfl,hc 4 _ ae rfl,hc 5 _ ae rfl,hc 6 _ ae rfl,hc 7 _ ae rfl,hc 8 _ ae rfl⟩;rcases s2 with s2|⟨q,e2,_⟩
   ·exact .inl s2
   ·exact .inr ⟨q,e2,av⟩
 ·exact sV.al (abM kR) (fun q l c e=>by injection e with e _ _;injection e with e;injection e with e;subst e;exact⟨kR.lt,hbR⟩) k
 ·exact kZ.al hD hd k
 ·exact⟨hP.1,by simp only;omega,by simp only;rw[hlen];exact hj.1,by simp only;rw[hlen];omega,hF.1,hF.2,by simp only;omega,by simp only;omega,hGY.1,hGY.2,hPU.1,hPU.2,hDG.1,hDG.2,hRE.1,hRE.2,hRO.1,hRO.2,by simp only;omega,by simp only;omega⟩
 ·refine⟨by simp only[rms,List.length_cons,List.length_nil];omega,by simp only;omega,by simp[rms],fun d hd'=>?_⟩;have:=hDo d hd';simp only[rms,List.length_cons,List.length_nil];omega
 ·intro B hB;have h:=hbd B hB;obtain⟨⟨p1,p2⟩,⟨p3,p4⟩,⟨p5,p6⟩,⟨p7,p8⟩,⟨p9,pa⟩,⟨pb,pc⟩,⟨pd,pe⟩⟩:=h;exact⟨p9,pa,ae,ae,ae,ae,by simp only;omega,by simp only;omega,by simp only;omega,by simp only;omega,ae,ae,ae,ae⟩
 ·simp only;omega
theorem ajR {w:World} {b:Nat} {v0 v1 v2 v3 v4 v5 v6 v7 v8 v9 v10 v11 v12 v13 v14 v15:Value} (k:aV w b [v0,v1,v2,v3,v4,v5,v6,v7,v8,v9,v10,v11,v12,v13,v14,v15]) (tm:Array Value) (h2:tm[2]?.getD undef=aR b):
  (results Tryz.f20 tm).run prog w=.ok (.agg #[v0,v1,v2,v3,v4,v5,v6,v7,v8,v9,v10,v11,v12,v13,v14,v15]) w:=by have c:=k.cell;simp[results,results20,go_sem,h2,c]
end Se
end Go.Proofs.YtohpdonnpbjfdaaGreatDoor
