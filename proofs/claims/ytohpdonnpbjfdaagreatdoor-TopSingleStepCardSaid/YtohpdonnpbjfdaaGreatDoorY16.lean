/- What is shown: package cellmem, copies. Conditions: as each theorem states. -/
import Derived.LoopTactic
import Derived.Test.YtohpdonnpbjfdaaGreatDoorY10
import Derived.Test.YtohpdonnpbjfdaaGreatDoorY14
set_option maxHeartbeats 40000000
set_option maxRecDepth 100000
set_option linter.unusedVariables false
set_option linter.unusedSimpArgs false
open Go.Proofs.Tryz
namespace Go.Proofs.YtohpdonnpbjfdaaGreatDoor
theorem dD {P Q:Prop} (q:Q) (h:Q→P:=by intro kk;refine ll (by kernel_rfl) (by kernel_rfl) fun hL=>?_;have dV:=hL.cell;clear hL;(repeat(go_big_quiet_step (fail)));refine wpQuiet_nil ?_;clear dV;exact kk):P:=h q
theorem mJ {P:Prop} (h:P:=by unfold maxLen;omega):P:=h
theorem mK {P:Prop} (h:P:=by intro v' w1 hown hg;have hnew:=Q9 (w:=w) av hn hown;have hbl:aJ w w1:=((aK w.heap.size w).alloc (aH _) _).grown hg av av;have H:=ah (And.intro hnew hbl);clear hown hg hnew hbl;go_wp2;go_ret;exact⟨v',rfl,H.out.1,H.out.2⟩):P:=h
namespace Ce
open Go.RowKit aN fO Qt Ro Bk
attribute [local go_sem] Oper.semAt_some
variable {w w':World} {c:List Int} {F:Fp} {β:Int} {k:Nat} {yK:Value} {L':Option Nat}
theorem Tryz.Ty:(prog.info? 3).map (fun i=>(i.zero,i.size,i.bytes))=some (some (ag 0),1,8):=aL
theorem Cs {wr:World} {b:Nat} (hk:k<c.length) (h:Row .i64 wr b (sofar c k)) (hw:aJ w wr) (hb:w.heap.size≤b):
  Row .i64 (wr.setCell ⟨b,k,none⟩ (ag (c.getD k 0))) b (sofar c (k+1))∧aJ w (wr.setCell ⟨b,k,none⟩ (ag (c.getD k 0))):=by have:=h.put k (by rw[uM _ _ ae];exact hk) (c.getD k 0);rw[QG c k hk]at this;exact⟨this,hw.setCell hb _⟩
theorem mo (h:aD w F c):
  Calls prog 13 #[aR F.M] w fun e w'=>∃b,e=.returned (aZ b c.length c.length)∧Row .i64 w' b c∧w.heap.size≤b∧aJ w w':=by
 obtain⟨n,hn⟩:∃n,n=c.length:=⟨_,rfl⟩
 have hlen:=h.len;have hl:∀W:World,aJ w W→Calls prog 30 #[aR F.M] W fun e w'=>e=.returned (ag n)∧w'=W:=fun W hb=>by have:=Fv (h.below hb);rwa[←hn]at this
 have hg:∀(W:World) (k:Nat),aJ w W→Calls prog 31 #[aR F.M,ag k] W fun e w'=>e=.returned (ag (c.getD k 0))∧w'=W:=by
  intro W k hb;have:=Tz (h.below hb) k;have e:cg c k=c.getD k 0:=by unfold cg;simp
  rwa[e]at this
 have TA:=ah hl;have MU:=ah hg;clear hl hg;clear h;have Hn:=ah hn;rw[←hn]at hlen⊢;clear hn;obtain⟨i0,hii,sN,nk,nD⟩:=info_parts Tryz.Ty;obtain⟨eD,FX⟩:=hlen;go_enter func13,ntmps13;go_wp2_with (first
  |((with_reducible refine(TA.out _ (aK _ _)).mono ?_);rintro e w' ⟨rfl,rfl⟩)
  |(at_make;refine wpList_make_row _ .i64 rfl _ _ _ rfl 3 i0 8 underlying22 hii sN nk nD .i64 .i64 n n n rfl rfl rfl rfl ae ae ?c1))
 case c1=>
  intro w1 hrow aO;obtain⟨b,hb⟩:∃b,b=w'.heap.size:=⟨_,rfl⟩
  have Hb:=ah hb;rw[←hb]at hrow⊢;clear hb;go_wp2_with (((with_reducible refine(TA.out _ fw).mono ?_);rintro e w2 ⟨rfl,rfl⟩));have vM:=ah hrow;clear hrow;go_loopw [10] (fun i wr=>∃k:Nat,k≤n∧i=ag k∧Row .i64 wr b (sofar c k)∧aJ w' wr) (fun i _=>n-(intOf i).toNat);case atStart=>exact⟨0,Nat.zero_le _,rfl,by rw[F9,←Hn.out];exact vM.out,aO⟩
  case round=>
   obtain⟨k,hk,rfl,hr,hB⟩:=hrel;by_cases hlt:k<n
   ·have pg:(k:Int)<(n:Int):=ae;have fr:=hr.free k;have hlt':k<(sofar c k).length:=by rw[uM _ _ (by rw[←Hn.out];omega),←Hn.out];exact hlt
    have cr:=hr.cells k hlt';have fin:=Cs gQ hr hB (by rw[Hb.out];exact aH _);have hg:=MU.out wr k hB;generalize c.getD k 0=v at fin hg;generalize (sofar c k).getD k 0=v0 at cr;have pI:=ah fin;have MU:=ah hg;have ai_:=ah hlt';have U5:=ah hr;clear fin hg hlt' hr;go_wp2_with (((with_reducible refine(MU.out).mono ?_);rintro e w2 ⟨rfl,rfl⟩));exact⟨⟨k+1,ae,av,pI.out.1,pI.out.2⟩,by simp[intOf];omega⟩
   ·obtain rfl:k=n:=ae;have hnl:¬((k:Int)<(k:Int)):=ae;have hr':Row .i64 wr b c:=by have:=hr;rwa[Hn.out,F_]at this
    have U5:=ah hr;have apd:=ah hr';clear hr hr';go_wp2;go_ret;exact⟨b,rfl,apd.out,by rw[Hb.out];exact aH _,hB⟩
theorem uw {b0 cap:Nat} (h:Row .i64 w b0 c) (hlen:1≤c.length∧c.length≤1000):
  Calls prog 12 #[aZ b0 c.length cap] w fun e w'=>∃F,e=.returned (aR F.M)∧aD w' F c∧(∀b,F.has b→w.heap.size≤b)∧F.n=0∧F.L=none∧aJ w w':=by
 obtain⟨n,hn⟩:∃n,n=c.length:=⟨_,rfl⟩
 have Hn:=ah hn;rw[←hn]at hlen⊢;clear hn;have H0:=ah h;clear h;obtain⟨i0,hii,sN,nk,nD⟩:=info_parts Tryz.Ty;obtain⟨eD,FX⟩:=hlen;go_enter func12,ntmps12;go_wp2_with (first
  |(at_make;refine wpList_make_row _ .i64 rfl _ _ _ rfl 3 i0 8 underlying22 hii sN nk nD .i64 .i64 n n n rfl rfl rfl rfl ae ae ?c1))
 case c1=>
  intro w1 hrow aO;obtain⟨b,hb⟩:∃b,b=w.heap.size:=⟨_,rfl⟩
  have Hb:=ah hb;rw[←hb]at hrow⊢;clear hb;have vM:=ah hrow;clear hrow;go_wp2;refine aP fun W hW=>?_;have hM:aV W w1.heap.size [aZ b n n,.slice none 0 0,ag 0]:=dm;have hR:Row .i64 W b (sofar c 0):=by rw[hW,F9,←Hn.out];exact vM.out.alloc _
  have hbW:aJ w W:=by rw[hW];exact aO.alloc aO.size _
  have hbM:w.heap.size≤w1.heap.size:=aO.size;have hne:b<w1.heap.size:=vM.out.lt;clear vM aO hW;generalize w1.heap.size=M at*;go_loopw [12] (fun i wr=>∃k:Nat,k≤n∧i=ag k∧Row .i64 wr b (sofar c k)∧aV wr M [aZ b n n,.slice none 0 0,ag 0]∧aJ w wr) (fun i _=>n-(intOf i).toNat);case atStart=>exact⟨0,Nat.zero_le _,rfl,hR,hM,hbW⟩
  case round=>
   obtain⟨k,hk,rfl,hr,hM',hB⟩:=hrel;have Hr:=ah hr;have HM:=ah hM';have HB:=ah hB;clear hM hR hbW hr hM' hB;by_cases hlt:k<n
   ·have pg:(k:Int)<(n:Int):=ae;have fr:=Hr.out.free k;have hlt':k<(sofar c k).length:=by rw[uM _ _ (by rw[←Hn.out];omega),←Hn.out];exact hlt
    have cr:=Hr.out.cells k hlt';have fin:=Cs gQ Hr.out.drew HB.out.drew (by rw[Hb.out];exact aH _);have c0:=(H0.out.below HB.out H0.out.lt).cells k gQ;have cM:=HM.out.cell;generalize c.getD k 0=v at fin c0;generalize (sofar c k).getD k 0=v0 at cr;have pI:=ah fin;have ai_:=ah hlt';clear fin hlt';go_wp2;refine bK 10 aL aL fun hL=>?_;have dV:=hL.cell;clear hL;simp only[dS];(repeat(go_big_quiet_step (fail)));refine wpQuiet_nil ?_;clear dV;go_wp2;exact⟨⟨k+1,ae,av,⟨pI.out.1.cells,pI.out.1.free,pI.out.1.lt⟩,(HM.out.drew.other aX _),pI.out.2⟩,by simp[intOf];omega⟩
   ·obtain rfl:k=n:=ae;have hnl:¬((k:Int)<(k:Int)):=ae;go_wp2;go_ret;have hr':Row .i64 wr b c:=by have:=Hr.out;rwa[Hn.out,F_]at this
    have e:=HM.out.cell;refine⟨⟨M,b,none,0⟩,rfl,⟨?_,⟨0,0,.slice none 0 0,[],?_,jw _ _ _ _,rfl,?_,ae,by simp only;omega⟩,hr'.cells,HM.out.free,hr'.free,⟨?_,av,av⟩,by rw[←Hn.out];omega,by simp only;omega⟩,?_,rfl,rfl,HB.out⟩
    ·simpa[Hn.out]using e 0
    ·simpa using e 1
    ·simpa using e 2
    ·simp only;omega
    ·rintro x (rfl|rfl|hx)
     ·exact hbM
     ·rw[Hb.out];exact aH _
     ·cases hx
theorem p_ {e size:Nat} {lv:Value} {n:Nat} {xs:List Value} (h:w.ownsRow 0 e size lv n xs):∃a cap,lv=.slice a n cap∧n≤cap∧(a=none→n=0∧cap=0):=by
 rcases h.2 with⟨rfl,rfl⟩|⟨g,cap,cur,rfl,_,_,h2,_⟩
 ·exact⟨none,0,rfl,aH _,fun _=>⟨rfl,rfl⟩⟩
 ·exact⟨_,cap,rfl,h2,fun e=>by cases e⟩
theorem zV.below (h:zV w F β k) (b:aJ w w') (lM:F.M<w.heap.size):zV w' F β k:=by obtain⟨lv,vals,h1,h2,h3,h4,h5⟩:=h;have e:∀o,w'.cell? ⟨F.M,o,none⟩=w.cell? ⟨F.M,o,none⟩:=fun o=>bg (a:=⟨F.M,o,none⟩) (b.block _ lM);exact⟨lv,vals,(e 1).trans h1,nZ h2 (fun g hg=>b.block g (h2.lt g hg).2),h3,(e 2).trans h4,h5⟩
theorem zW (h:aD w F c) (sQ:zV w F β k):
  Calls prog 33 #[aR F.M] w fun e w'=>e=.returned (ag (β+k))∧w'=w.drew:=by obtain⟨lv,vals,s1,hown,hl,hβ,h0,h1⟩:=sQ;obtain⟨a,cap,rfl,hc,_⟩:=p_ hown;have hr:=h.room;have HF:=ah h;clear h hown hl;go_enter func33,ntmps33;go_wp2;refine dD ?_;go_wp2;go_ret;exact⟨rfl,rfl⟩
theorem tV (h:aD w F c) (sQ:zV w F β k):
  Calls prog 72 #[aR F.M,ag (β+k)] w fun e w'=>e=.returned (ag 0)∧w'=w.drew:=by have TC:=ah (zW h sQ);have hr:=h.room;obtain⟨lv,vals,s1,hown,hl,hβ,h0,h1⟩:=sQ;have HF:=ah h;have eD:¬(β+(k:Int)<β):=ae;have FX:¬(β+(k:Int)>β+(k:Int)):=ae;clear h hown;go_enter func72,ntmps72;go_wp2_with ((with_reducible refine(TC.out).mono ?_);rintro e w2 ⟨rfl,rfl⟩);go_ret;exact⟨rfl,rfl⟩
theorem Cu (h:aD w F c) (h0:0≤β) (h1:β≤F.n) (hl:yK=.slice none 0 0∧L'=none∨(∃vals,w.ownsRow 0 160 2 yK 0 vals∧yK.ownBlock=F.L)∧L'=F.L)
  (hs:w.heap.size≤w'.heap.size) (hw:Below 0 w w') (hb:∀b,b<w.heap.size→b≠F.M→w'.heap[b]?=w.heap[b]?) (e0:w'.cell? ⟨F.M,0,none⟩=w.cell? ⟨F.M,0,none⟩) (e1:w'.cell? ⟨F.M,1,none⟩=some yK) (e2:w'.cell? ⟨F.M,2,none⟩=some (ag β)) (ef:∀i,w'.frozen? ⟨F.M,i,none⟩=false):
  aD w' ⟨F.M,F.C,L',F.n⟩ c∧Alt [] w F w' ⟨F.M,F.C,L',F.n⟩ 0:=by
 have lC:=h.lt (.inr (.inl rfl):F.has F.C);have bC:=hb F.C lC (Ne.symm h.ne.1);constructor
 ·have nP:β+((0:Nat):Int)≤F.n:=ae;refine⟨e0.trans h.s0,?_,fun i hi=>(bg (a:=⟨F.C,i,none⟩) bC).trans (h.cells i hi),ef,fun i=>(World.frozen?_of_block (a:=⟨F.C,i,none⟩) bC).trans (h.fC i),⟨h.ne.1,?_,?_⟩,h.len,h.room⟩
  ·rcases hl with⟨rfl,rfl⟩|⟨⟨vals,a2,a3⟩,rfl⟩
   ·exact⟨β,0,_,[],e1,jw _ _ _ _,rfl,e2,h0,nP⟩
   ·exact⟨β,0,_,vals,e1,nZ a2 (fun g hg=>hb g (h.lt (.inr (.inr (a3.symm.trans hg)))) (fun e=>h.ne.2.1 (by rw[←e];exact a3.symm.trans hg))),a3,e2,h0,nP⟩
  ·rcases hl with⟨rfl,rfl⟩|⟨_,rfl⟩
   ·simp
   ·exact h.ne.2.1
  ·rcases hl with⟨rfl,rfl⟩|⟨_,rfl⟩
   ·simp
   ·exact h.ne.2.2
 ·refine⟨hw.os,hw.tape,hw.output,hs,fun b hb' hF _=>hb b hb' (fun e=>hF (.inl e)),rfl,rfl,?_,by simp only;omega⟩;intro g hg;rcases hl with⟨rfl,rfl⟩|⟨_,rfl⟩
  ·cases hg
  ·exact .inl hg
theorem zX (h:aD w F c) (h0:0≤β) (h1:β≤F.n) (hl:yK=.slice none 0 0∧L'=none∨(∃vals,w.ownsRow 0 160 2 yK 0 vals∧yK.ownBlock=F.L)∧L'=F.L)
  (w':World) (hw':(∃x,w'=(((w.setCell ⟨F.M,2,none⟩ (ag β)).setCell ⟨F.M,1,none⟩ x).setCell ⟨F.M,1,none⟩ yK).drew)∨w'=((w.setCell ⟨F.M,2,none⟩ (ag β)).setCell ⟨F.M,1,none⟩ yK).drew):
  aD w' ⟨F.M,F.C,L',F.n⟩ c∧Alt [] w F w' ⟨F.M,F.C,L',F.n⟩ 0:=by
 obtain⟨_,_,lv,vals,a1,_,_,b1,_⟩:=h.s1;have s0:=h.s0;rcases hw' with⟨x,rfl⟩|rfl
 ·refine Cu h h0 h1 hl (by simp[World.setCell,World.drew]) ⟨rfl,rfl,rfl,by simp[World.setCell,World.drew],fun k hk=>ae⟩ (fun b hb hne=>?_) ?_ ?_ ?_ (fun i=>?_)
  ·exact(dI _ _ _ _ hne).trans ((dI _ _ _ _ hne).trans (dI _ _ _ _ hne))
  ·show World.cell? (((w.setCell _ _).setCell _ _).setCell _ _) _=_;simp[au]
  ·show World.cell? (((w.setCell _ _).setCell _ _).setCell _ _) _=_;simp[au,a1]
  ·show World.cell? (((w.setCell _ _).setCell _ _).setCell _ _) _=_;simp[au,b1]
  ·show World.frozen? (((w.setCell _ _).setCell _ _).setCell _ _) _=_;simp[h.fM]
 ·refine Cu h h0 h1 hl (by simp[World.setCell,World.drew]) ⟨rfl,rfl,rfl,by simp[World.setCell,World.drew],fun k hk=>ae⟩ (fun b hb hne=>?_) ?_ ?_ ?_ (fun i=>?_)
  ·exact(dI _ _ _ _ hne).trans (dI _ _ _ _ hne)
  ·show World.cell? ((w.setCell _ _).setCell _ _) _=_;simp[au]
  ·show World.cell? ((w.setCell _ _).setCell _ _) _=_;simp[au,a1]
  ·show World.cell? ((w.setCell _ _).setCell _ _) _=_;simp[au,b1]
  ·show World.frozen? ((w.setCell _ _).setCell _ _) _=_;simp[h.fM]
theorem wO (L':Option Nat) (h:aD w F c) (h0:0≤β) (h1:β≤F.n) (hl:yK=.slice none 0 0∧L'=none∨(∃vals,w.ownsRow 0 160 2 yK 0 vals∧yK.ownBlock=F.L)∧L'=F.L)
  (hw':(∃x,w'=(((w.setCell ⟨F.M,2,none⟩ (ag β)).setCell ⟨F.M,1,none⟩ x).setCell ⟨F.M,1,none⟩ yK).drew)∨w'=((w.setCell ⟨F.M,2,none⟩ (ag β)).setCell ⟨F.M,1,none⟩ yK).drew):
  ∃F',aD w' F' c∧Alt [] w F w' F' 0:=⟨_,(zX h h0 h1 hl w' hw').1,(zX h h0 h1 hl w' hw').2⟩
theorem Cv (h:aD w F c) (sQ:zV w F β k):
  Calls prog 57 #[aR F.M,ag (β+k)] w fun e w'=>e=.returned (ag 0)∧∃F',aD w' F' c∧Alt [] w F w' F' 0:=by
 have TC:=ah (tV h sQ);obtain⟨lv,vals,s1,hown,hl,hβ,h0,h1⟩:=sQ;obtain⟨a,cap,rfl,hc,ha⟩:=p_ hown;have s0:=h.s0;have fM:=h.fM;have hr:=h.room;have HF:=ah h;have jO:=ah (And.intro hown hl);clear h hown hl;have hsub:β+(k:Int)-β=k:=ae;have hsn:k-k=0:=Nat.sub_self _;by_cases hz:k=0
 ·have Hz:=ah hz;subst hz;clear hsn hsub;simp only[show((0:Nat):Int)=0 from rfl,Int.add_zero]at*;have hsub:β-β=0:=ae;cases a with
  |none=>
   obtain⟨_,rfl⟩:=ha rfl;go_enter func57,ntmps57;go_wp2_with (first
    |((with_reducible refine(TC.out).mono ?_);rintro e w2 ⟨rfl,rfl⟩))
   go_ret;exact⟨rfl,wO F.L HF.out h0 ae (.inr ⟨⟨vals,jO.out⟩,rfl⟩) (.inr rfl)⟩
  |some ad=>
   go_enter func57,ntmps57;go_wp2_with (first
    |((with_reducible refine(TC.out).mono ?_);rintro e w2 ⟨rfl,rfl⟩))
   all_goals
    go_ret
    exact⟨rfl,wO F.L HF.out h0 ae (.inr ⟨⟨vals,jO.out⟩,rfl⟩) (.inr rfl)⟩
 ·cases a with
  |none=>exact absurd (ha rfl).1 hz
  |some ad=>
   have hlt:((0:Nat):Int)<(k:Int):=ae;go_enter func57,ntmps57;go_wp2_with (first
    |((with_reducible refine(TC.out).mono ?_);rintro e w2 ⟨rfl,rfl⟩))
   all_goals
    go_ret
    exact⟨rfl,wO none HF.out ae ae (.inl ⟨rfl,rfl⟩) (.inl ⟨_,rfl⟩)⟩
end Ce
namespace Cl
open Go.RowKit Qt Bk Ro
attribute [local go_sem] Oper.semAt_some
variable {w:World} {n b cap:Nat} {xs:List Value}
theorem add0 (g j:Nat):(⟨g,0,none⟩:Addr).add j=⟨g,j,none⟩:=by
 unfold Addr.add;by_cases h:j=0
 ·subst h;simp
 ·simp[h]
structure New (w w':World) (v:Value) (n:Nat) (xs:List Value):Prop where
 ex:∃g cap,v=aZ g n cap∧w.heap.size≤g∧(∀j u,xs[j]?=some u→w'.cell? ⟨g,j,none⟩=some u)∧(∀j,w'.frozen? ⟨g,j,none⟩=false)∧n≤cap∧cap≤maxLen
theorem Q9 {w':World} {B:Nat} (hB:w.heap.size≤B) {e:TypeId} {size:Nat} {v:Value} (hn:1≤n) (h:w'.ownsRow B e size v n xs):New w w' v n xs:=by
 rcases h.2 with⟨_,h0⟩|⟨g,cap,cur,ev,hb,hg,h3⟩
 ·omega
 ·refine⟨g,cap,ev,aS hB hb,fun j u hj=>?_,fun j=>?_,h3.1,h3.2.1⟩
  ·have:=h.cells (g:=g) (by rw[ev];rfl) j u hj;rwa[add0]at this
  ·simp[World.frozen?,hg]
theorem Tryz.KQ:(prog.info? 110).map (fun i=>(i.zero,i.size,i.bytes))=some (some (.agg #[ag 0,ag 0]),2,16):=aL
theorem KR (w:World):Calls prog 39 #[.slice none 0 0] w fun e w'=>e=.returned (.slice none 0 0)∧w'=w:=by have hb:Sem.run prog (binOp .eql 59 (.slice none 0 0) (.slice none 0 0)) w=.ok (.bool true) w:=aL;go_enter func39,ntmps39;go_wp2;go_ret;exact⟨rfl,rfl⟩
theorem KS (hn:1≤n) (FX:n≤1000) (hl:xs.length=n*2) (hc:∀j u,xs[j]?=some u→w.cell? ⟨b,j,none⟩=some u) (h1:∀u∈xs,u.oneCell'=true):
  Calls prog 39 #[aZ b n cap] w fun e w'=>∃v,e=.returned v∧New w w' v n xs∧aJ w w':=by
 obtain⟨i0,hii,sN,nk,nD⟩:=info_parts Tryz.KQ;have H1:=ah h1;have HC:=ah hc;have HL:=ah hl;have hb:Sem.run prog (binOp .eql 59 (aZ b n cap) (.slice none 0 0)) w=.ok (.bool false) w:=aL;clear h1 hc hl;go_enter func39,ntmps39;go_upto_region 3 with(fail);go_wp2_with (first|(refine wpList_append_grows _ rfl (.tmp 5) (.tmp 6) 59 rfl 110 i0 (.agg #[ag 0,ag 0]) 2 16 underlying59 hii sN nk nD bL bL _ 0 0 [] rfl av rfl av ⟨b,0,none⟩ n cap xs rfl HL.out ?c2 H1.out ae mJ ae ?c1));case c2=>intro j u hj;rw[add0];exact jr (HC.out j u hj)
 case c1=>exact mK
theorem Tryz.Vz:(prog.info? 128).map (fun i=>(i.zero,i.size,i.bytes))=some (some (.agg #[ag 0,ag 0,ag 0]),3,24):=aL
theorem Gw (hn:1≤n) (FX:n≤1000) (hl:xs.length=n*3) (hc:∀j u,xs[j]?=some u→w.cell? ⟨b,j,none⟩=some u) (h1:∀u∈xs,u.oneCell'=true):
  Calls prog 59 #[aZ b n cap] w fun e w'=>∃v,e=.returned v∧New w w' v n xs∧aJ w w':=by
 obtain⟨i0,hii,sN,nk,nD⟩:=info_parts Tryz.Vz;have H1:=ah h1;have HC:=ah hc;have HL:=ah hl;have hb:Sem.run prog (binOp .eql 56 (aZ b n cap) (.slice none 0 0)) w=.ok (.bool false) w:=aL;clear h1 hc hl;go_enter func59,ntmps59;go_upto_region 3 with(fail);go_wp2_with (first|(refine wpList_append_grows _ rfl (.tmp 5) (.tmp 6) 56 rfl 128 i0 (.agg #[ag 0,ag 0,ag 0]) 3 24 underlying56 hii sN nk nD bL bL _ 0 0 [] rfl av rfl av ⟨b,0,none⟩ n cap xs rfl HL.out ?c2 H1.out ae mJ ae ?c1));case c2=>intro j u hj;rw[add0];exact jr (HC.out j u hj)
 case c1=>exact mK
theorem Tryz.YB:(prog.info? 126).map (fun i=>(i.zero,i.size,i.bytes))=some (some (.agg #[ag 0,.slice none 0 0,ag 0,ag 0,ag 0,ag 0,ag 0,ag 0,ag 0]),9,88):=aL
theorem IY (hn:1≤n) (FX:n≤1000) (hl:xs.length=n*9) (hc:∀j u,xs[j]?=some u→w.cell? ⟨b,j,none⟩=some u) (h1:∀u∈xs,u.oneCell'=true):
  Calls prog 66 #[aZ b n cap] w fun e w'=>∃v,e=.returned v∧New w w' v n xs∧aJ w w':=by
 obtain⟨i0,hii,sN,nk,nD⟩:=info_parts Tryz.YB;have H1:=ah h1;have HC:=ah hc;have HL:=ah hl;have hb:Sem.run prog (binOp .eql 23 (aZ b n cap) (.slice none 0 0)) w=.ok (.bool false) w:=aL;clear h1 hc hl;go_enter func66,ntmps66;go_upto_region 3 with(fail);go_wp2_with (first|(refine wpList_append_grows _ rfl (.tmp 5) (.tmp 6) 23 rfl 126 i0 (.agg #[ag 0,.slice none 0 0,ag 0,ag 0,ag 0,ag 0,ag 0,ag 0,ag 0]) 9 88 underlying23 hii sN nk nD bL bL _ 0 0 [] rfl av rfl av ⟨b,0,none⟩ n cap xs rfl HL.out ?c2 H1.out ae mJ ae ?c1));case c2=>intro j u hj;rw[add0];exact jr (HC.out j u hj)
 case c1=>exact mK
theorem Tryz.abQ:(prog.info? 29).map (fun i=>(i.zero,i.size,i.bytes))=some (some (.agg #[ag 0,ag 0]),2,16):=aL
theorem KM (w:World):Calls prog 67 #[.slice none 0 0] w fun e w'=>e=.returned (.slice none 0 0)∧w'=w:=by have hb:Sem.run prog (binOp .eql 120 (.slice none 0 0) (.slice none 0 0)) w=.ok (.bool true) w:=aL;go_enter func67,ntmps67;go_wp2;go_ret;exact⟨rfl,rfl⟩
theorem KN (hn:1≤n) (FX:n≤1000) (hl:xs.length=n*2) (hc:∀j u,xs[j]?=some u→w.cell? ⟨b,j,none⟩=some u) (h1:∀u∈xs,u.oneCell'=true):
  Calls prog 67 #[aZ b n cap] w fun e w'=>∃v,e=.returned v∧New w w' v n xs∧aJ w w':=by
 obtain⟨i0,hii,sN,nk,nD⟩:=info_parts Tryz.abQ;have H1:=ah h1;have HC:=ah hc;have HL:=ah hl;have hb:Sem.run prog (binOp .eql 120 (aZ b n cap) (.slice none 0 0)) w=.ok (.bool false) w:=aL;clear h1 hc hl;go_enter func67,ntmps67;go_upto_region 3 with(fail);go_wp2_with (first|(refine wpList_append_grows _ rfl (.tmp 5) (.tmp 6) 120 rfl 29 i0 (.agg #[ag 0,ag 0]) 2 16 underlying120 hii sN nk nD bL bL _ 0 0 [] rfl av rfl av ⟨b,0,none⟩ n cap xs rfl HL.out ?c2 H1.out ae mJ ae ?c1));case c2=>intro j u hj;rw[add0];exact jr (HC.out j u hj)
 case c1=>exact mK
theorem Tryz.abR:(prog.info? 25).map (fun i=>(i.zero,i.size,i.bytes))=some (some (.agg #[ag 0,ag 0,ag 0,ag 0]),4,32):=aL
theorem KO (w:World):Calls prog 68 #[.slice none 0 0] w fun e w'=>e=.returned (.slice none 0 0)∧w'=w:=by have hb:Sem.run prog (binOp .eql 26 (.slice none 0 0) (.slice none 0 0)) w=.ok (.bool true) w:=aL;go_enter func68,ntmps68;go_wp2;go_ret;exact⟨rfl,rfl⟩
theorem KP (hn:1≤n) (FX:n≤1000) (hl:xs.length=n*4) (hc:∀j u,xs[j]?=some u→w.cell? ⟨b,j,none⟩=some u) (h1:∀u∈xs,u.oneCell'=true):
  Calls prog 68 #[aZ b n cap] w fun e w'=>∃v,e=.returned v∧New w w' v n xs∧aJ w w':=by
 obtain⟨i0,hii,sN,nk,nD⟩:=info_parts Tryz.abR;have H1:=ah h1;have HC:=ah hc;have HL:=ah hl;have hb:Sem.run prog (binOp .eql 26 (aZ b n cap) (.slice none 0 0)) w=.ok (.bool false) w:=aL;clear h1 hc hl;go_enter func68,ntmps68;go_upto_region 3 with(fail);go_wp2_with (first|(refine wpList_append_grows _ rfl (.tmp 5) (.tmp 6) 26 rfl 25 i0 (.agg #[ag 0,ag 0,ag 0,ag 0]) 4 32 underlying26 hii sN nk nD bL bL _ 0 0 [] rfl av rfl av ⟨b,0,none⟩ n cap xs rfl HL.out ?c2 H1.out ae mJ ae ?c1));case c2=>intro j u hj;rw[add0];exact jr (HC.out j u hj)
 case c1=>exact mK
theorem Tryz.YC:(prog.info? 134).map (fun i=>(i.zero,i.size,i.bytes))=some (some (.agg #[ag 0,ag 0]),2,16):=aL
theorem I4 (w:World):Calls prog 69 #[.slice none 0 0] w fun e w'=>e=.returned (.slice none 0 0)∧w'=w:=by have hb:Sem.run prog (binOp .eql 27 (.slice none 0 0) (.slice none 0 0)) w=.ok (.bool true) w:=aL;go_enter func69,ntmps69;go_wp2;go_ret;exact⟨rfl,rfl⟩
theorem I5 (hn:1≤n) (FX:n≤1000) (hl:xs.length=n*2) (hc:∀j u,xs[j]?=some u→w.cell? ⟨b,j,none⟩=some u) (h1:∀u∈xs,u.oneCell'=true):
  Calls prog 69 #[aZ b n cap] w fun e w'=>∃v,e=.returned v∧New w w' v n xs∧aJ w w':=by
 obtain⟨i0,hii,sN,nk,nD⟩:=info_parts Tryz.YC;have H1:=ah h1;have HC:=ah hc;have HL:=ah hl;have hb:Sem.run prog (binOp .eql 27 (aZ b n cap) (.slice none 0 0)) w=.ok (.bool false) w:=aL;clear h1 hc hl;go_enter func69,ntmps69;go_upto_region 3 with(fail);go_wp2_with (first|(refine wpList_append_grows _ rfl (.tmp 5) (.tmp 6) 27 rfl 134 i0 (.agg #[ag 0,ag 0]) 2 16 underlying27 hii sN nk nD bL bL _ 0 0 [] rfl av rfl av ⟨b,0,none⟩ n cap xs rfl HL.out ?c2 H1.out ae mJ ae ?c1));case c2=>intro j u hj;rw[add0];exact jr (HC.out j u hj)
 case c1=>exact mK
theorem Gu (w:World) (b cap:Nat):Calls prog 69 #[aZ b 0 cap] w fun e w'=>∃g,e=.returned (aZ g 0 0)∧aJ w w':=by have hb:Sem.run prog (binOp .eql 27 (aZ b 0 cap) (.slice none 0 0)) w=.ok (.bool false) w:=aL;go_enter func69,ntmps69;go_wp2;go_ret;exact⟨_,rfl,by exact aG⟩
theorem IZ (w:World) (b cap:Nat):Calls prog 68 #[aZ b 0 cap] w fun e w'=>∃g,e=.returned (aZ g 0 0)∧aJ w w':=by have hb:Sem.run prog (binOp .eql 26 (aZ b 0 cap) (.slice none 0 0)) w=.ok (.bool false) w:=aL;go_enter func68,ntmps68;go_wp2;go_ret;exact⟨_,rfl,by exact aG⟩
theorem I6 (w:World) (b cap:Nat):Calls prog 39 #[aZ b 0 cap] w fun e w'=>∃g,e=.returned (aZ g 0 0)∧aJ w w':=by have hb:Sem.run prog (binOp .eql 59 (aZ b 0 cap) (.slice none 0 0)) w=.ok (.bool false) w:=aL;go_enter func39,ntmps39;go_wp2;go_ret;exact⟨_,rfl,by exact aG⟩
end Cl
end Go.Proofs.YtohpdonnpbjfdaaGreatDoor
