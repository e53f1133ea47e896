/- What is shown: package cellmem. Conditions: as each theorem states. -/
import Derived.Deep.Cut
import Derived.Deep.CutRange
import Derived.Deep.DeepCutAuto
import Derived.Test.YtohpdonnpbjfdaaGreatDoorY7
import Derived.Test.YtohpdonnpbjfdaaGreatDoorY9
set_option maxHeartbeats 40000000
set_option maxRecDepth 100000
set_option linter.unusedVariables false
set_option linter.unusedSimpArgs false
open Go.Proofs.Tryz
namespace Go.Proofs.YtohpdonnpbjfdaaGreatDoor
theorem Cw {P:Prop} (h:P:=by have P9:=ah hh;clear hh;go_enter func31,ntmps31;go_wp2_with ((with_reducible refine P9.out.mono ?_);rintro e w' ⟨rfl,rfl⟩);go_ret;exact⟨rfl,rfl⟩):P:=h
namespace Ce
open Go.RowKit aN fO Qt
attribute [local go_sem] Oper.semAt_some
variable {w w' u v:World} {c:List Int} {l:List Nat} {k b:Nat} {p:Addr} {xs:List Value}
def cg (c:List Int) (i:Int):Int:=if 0≤i then c.getD i.toNat 0 else 0
def cs (c:List Int) (i v:Int):List Int:=if 0≤i then c.set i.toNat v else c
theorem aT (c:List Int) (i v:Int):(cs c i v).length=c.length:=by unfold cs;split<;>simp
theorem afa (c:List Int) (i:Int) (h:¬(0≤i∧i<c.length)):cg c i=0:=by
 unfold cg;split
 ·rw[List.getD_eq_getElem?_getD,List.getElem?_eq_none ae];rfl
 ·rfl
theorem afb (c:List Int) (i v:Int) (h:¬(0≤i∧i<c.length)):cs c i v=c:=by
 unfold cs;split
 ·rw[List.set_eq_of_length_le ae]
 ·rfl
structure Fp where
 M:Nat
 C:Nat
 L:Option Nat
 n:Nat
def Fp.has (F:Fp) (b:Nat):Prop:=b=F.M∨b=F.C∨F.L=some b
def zV (w:World) (F:Fp) (β:Int) (k:Nat):Prop:=
 ∃lv vals,w.cell? ⟨F.M,1,none⟩=some lv∧w.ownsRow 0 160 2 lv k vals∧lv.ownBlock=F.L∧w.cell? ⟨F.M,2,none⟩=some (ag β)∧0≤β∧β+k≤F.n
structure aD (w:World) (F:Fp) (c:List Int):Prop where
 s0:w.cell? ⟨F.M,0,none⟩=some (aZ F.C c.length c.length)
 s1:∃β k,zV w F β k
 cells:∀i,i<c.length→w.cell? ⟨F.C,i,none⟩=some (ag (c.getD i 0))
 fM:∀i,w.frozen? ⟨F.M,i,none⟩=false
 fC:∀i,w.frozen? ⟨F.C,i,none⟩=false
 ne:F.M≠F.C∧F.L≠some F.M∧F.L≠some F.C
 len:1≤c.length∧c.length≤1000
 room:F.n≤1000000000
theorem aD.lt {F:Fp} (h:aD w F c) (hb:F.has b):b<w.heap.size:=by
 rcases hb with rfl|rfl|hb
 ·exact aU _ _ h.s0
 ·exact aU _ _ (h.cells 0 (by have:=h.len;omega))
 ·obtain⟨β,k,lv,vals,_,ho,hl,_⟩:=h.s1;exact(ho.lt b (by rw[hl,hb])).2
structure Alt (l:List Nat) (w:World) (F:Fp) (w':World) (F':Fp) (k:Nat):Prop where
 os:w'.os=w.os
 tape:w'.tape=w.tape
 output:w'.output=w.output
 size:w.heap.size≤w'.heap.size
 block:∀b,b<w.heap.size→¬F.has b→b∉l→w'.heap[b]?=w.heap[b]?
 M:F'.M=F.M
 C:F'.C=F.C
 L:∀g,F'.L=some g→F.L=some g∨w.heap.size≤g
 n:F'.n≤F.n+k
theorem Alt.refl (l:List Nat) (w:World) (F:Fp):Alt l w F w F 0:=⟨rfl,rfl,rfl,aH _,fun _ _ _ _=>rfl,rfl,rfl,fun _ h=>.inl h,aH _⟩
theorem Alt.mono {F F':Fp} {k':Nat} (h:Alt l w F w' F' k) (hk:k≤k'):Alt l w F w' F' k':=⟨h.os,h.tape,h.output,h.size,h.block,h.M,h.C,h.L,aS h.n ae⟩
theorem Alt.list {l':List Nat} {F F':Fp} (h:Alt l w F w' F' k) (hl:∀x∈l,x∈l'):Alt l' w F w' F' k:=⟨h.os,h.tape,h.output,h.size,fun b hb hF hn=>h.block b hb hF (fun hx=>hn (hl b hx)),h.M,h.C,h.L,h.n⟩
theorem Alt.has {F F':Fp} (h:Alt l w F w' F' k) (hb:b<w.heap.size) (hF:F'.has b):F.has b:=by
 rcases hF with e|e|e
 ·exact .inl (e.trans h.M)
 ·exact .inr (.inl (e.trans h.C))
 ·rcases h.L _ e with hL|hs
  ·exact .inr (.inr hL)
  ·omega
theorem Alt.trans {F G H:Fp} {m:Nat} (h:Alt l u F v G k) (h':Alt l v G w H m):Alt l u F w H (k+m):=
 ⟨h'.os.trans h.os,h'.tape.trans h.tape,h'.output.trans h.output,aS h.size h'.size,
  fun b hb hF hn=>(h'.block b (bH hb h.size) (fun hG=>hF (h.has hb hG)) hn).trans (h.block b hb hF hn),
  h'.M.trans h.M,h'.C.trans h.C,fun g hg=>by
   rcases h'.L g hg with e|hs
   ·exact h.L g e
   ·exact .inr (aS h.size hs),by have:=h.n;have:=h'.n;omega⟩
theorem Alt.below {F G:Fp} (h:Alt l u F v G k) (b:aJ v w):Alt l u F w G k:=
 ⟨b.os.trans h.os,b.tape.trans h.tape,b.output.trans h.output,aS h.size b.size,fun x hx hF hn=>(b.block x (bH hx h.size)).trans (h.block x hx hF hn),h.M,h.C,h.L,h.n⟩
theorem Alt.after {F G:Fp} (b:aJ u v) (h:Alt l v F w G k):Alt l u F w G k:=
 ⟨h.os.trans b.os,h.tape.trans b.tape,h.output.trans b.output,aS b.size h.size,fun x hx hF hn=>(h.block x (bH hx b.size) hF hn).trans (b.block x hx),h.M,h.C,fun g hg=>by
  rcases h.L g hg with e|hs
  ·exact .inl e
  ·exact .inr (aS b.size hs),h.n⟩
theorem Alt.set {F G:Fp} (h:Alt l u F v G k) (hp:p.block∈l∨u.heap.size≤p.block) (x:Value):Alt l u F (v.setCell p x) G k:=
 ⟨h.os,h.tape,h.output,by simpa[World.setCell]using h.size,fun b hb hF hn=>(dI _ _ _ _ (fun e=>Or.elim hp (fun hp=>hn (by rw[e];exact hp)) (fun hp=>ae))).trans (h.block b hb hF hn),h.M,h.C,h.L,h.n⟩
theorem Alt.aja {F G:Fp} (h:Alt l u F v G k) (hp:F.has p.block) (x:Value):Alt l u F (v.setCell p x) G k:=
 ⟨h.os,h.tape,h.output,by simpa[World.setCell]using h.size,fun b hb hF hn=>(dI _ _ _ _ (fun e=>hF (by rw[e];exact hp))).trans (h.block b hb hF hn),h.M,h.C,h.L,h.n⟩
theorem Alt.cell {F F':Fp} (h:Alt l w F w' F' k) {o:Nat} {v:Value} (hF:¬F.has b) (hn:b∉l) (e:w.cell? ⟨b,o,none⟩=some v):w'.cell? ⟨b,o,none⟩=some v:=
 (bg (h.block b (aU _ _ e) hF hn)).trans e
theorem nZ {base:Nat} {e:TypeId} {size:Nat} {v:Value} {n:Nat} (h:w.ownsRow base e size v n xs) (hb:∀g,v.ownBlock=some g→w'.heap[g]?=w.heap[g]?):w'.ownsRow base e size v n xs:=by
 refine⟨h.1,?_⟩;rcases h.2 with hn|⟨g,cap,cur,rfl,hbg,hgg,r⟩
 ·exact .inl hn
 ·exact .inr ⟨g,cap,cur,rfl,hbg,(hb g rfl).trans hgg,r⟩
theorem aD.keep {F:Fp} (h:aD w F c) (hb:∀b,F.has b→w'.heap[b]?=w.heap[b]?):aD w' F c:=by have bM:=hb F.M (.inl rfl);have bC:=hb F.C (.inr (.inl rfl));refine⟨(bg bM).trans h.s0,?_,fun i hi=>(bg bC).trans (h.cells i hi),fun i=>(World.frozen?_of_block bM).trans (h.fM i),fun i=>(World.frozen?_of_block bC).trans (h.fC i),h.ne,h.len,h.room⟩;obtain⟨β,k,lv,vals,h1,h2,h3,h4,h5⟩:=h.s1;exact⟨β,k,lv,vals,(bg bM).trans h1,nZ h2 (fun g hg=>hb g (.inr (.inr (h3.symm.trans hg)))),h3,(bg bM).trans h4,h5⟩
theorem aD.below {F:Fp} (h:aD w F c) (b:aJ w w'):aD w' F c:=h.keep fun x hx=>b.block x (h.lt hx)
theorem aD.set {F:Fp} (h:aD w F c) (hp:¬F.has p.block) (x:Value):aD (w.setCell p x) F c:=h.keep fun b hb=>dI _ _ _ _ (fun e=>hp (e▸hb))
theorem pJ {F:Fp} (h:aD w F c) (i:Int):
  Calls prog 71 #[aR F.M,ag i] w fun e w'=>e=.returned (.bool (decide (0≤i∧i<c.length)))∧w'=w:=by
 have s0:=h.s0;by_cases h0:0≤i
 ·by_cases h1:i<c.length
  ·rw[decide_eq_true (And.intro h0 h1)];go_enter func71,ntmps71;go_wp2;go_ret;exact⟨rfl,rfl⟩
  ·rw[decide_eq_false (fun h=>h1 h.2)];go_enter func71,ntmps71;go_wp2;go_ret;exact⟨rfl,rfl⟩
 ·rw[decide_eq_false (fun h=>h0 h.1)];go_enter func71,ntmps71;go_wp2;go_ret;exact⟨rfl,rfl⟩
theorem Fv {F:Fp} (h:aD w F c):
  Calls prog 30 #[aR F.M] w fun e w'=>e=.returned (ag c.length)∧w'=w:=by have s0:=h.s0;go_enter func30,ntmps30;go_wp2;go_ret;exact⟨rfl,rfl⟩
theorem Tz {F:Fp} (h:aD w F c) (i:Int):
  Calls prog 31 #[aR F.M,ag i] w fun e w'=>e=.returned (ag (cg c i))∧w'=w:=by
 have s0:=h.s0;have hh:=pJ h i;by_cases hi:0≤i∧i<c.length
 ·rw[decide_eq_true hi]at hh;have hc:=h.cells i.toNat ae;have e:cg c i=c.getD i.toNat 0:=by unfold cg;rw[if_pos hi.1]
  rw[e];obtain⟨k,rfl⟩:∃k:Nat,i=k:=⟨i.toNat,ae⟩
  rw[Int.toNat_natCast]at hc⊢;generalize c.getD k 0=v at*;obtain⟨h0,h1⟩:=hi;exact Cw
 ·rw[decide_eq_false hi]at hh;rw[afa c i hi];exact Cw
theorem Tryz.ajb:(prog.info? 160).map (fun i=>(i.zero,i.size,i.bytes))=some (some (.agg #[ag 0,ag 0]),2,16):=aL
theorem vH (o:Obj) {v:Value} (h:w.cell? p=some v):(w.drew.alloc o).cell? p=some v:=by have lt:=aU _ _ h;exact(((aK w.heap.size w).drew.alloc (aH _) o).cell lt).trans h
theorem zY (o:Obj) {b:Bool} (lt:p.block<w.heap.size) (h:w.frozen? p=b):(w.drew.alloc o).frozen? p=b:=
 (((aK w.heap.size w).drew.alloc (aH _) o).frozen lt).trans h
theorem U6 {w1:World} {F:Fp} {lv v':Value} (o:Obj) (hl:lv.ownBlock=F.L) (hg:(w.drew.alloc o).grownBy w1 lv.ownBlock) (hv:v'.ownBlock=lv.ownBlock∨∃g,v'.ownBlock=some g∧(w.drew.alloc o).heap.size≤g):
  Alt [] w F w1 ⟨F.M,F.C,v'.ownBlock,F.n+1⟩ 1:=
 ⟨hg.os,hg.tape,hg.output,aS av hg.size,fun b hb hF _=>(hg.block b bU (fun e=>hF (.inr (.inr (hl.symm.trans e.symm))))).trans (((aK w.heap.size w).drew.alloc (aH _) o).block b hb),rfl,rfl,fun g0 h0=>by
  rcases hv with e|⟨g,e,h⟩
  ·exact .inl (hl.symm.trans (e.symm.trans h0))
  ·have:g=g0:=bD (e.symm.trans h0);subst this;exact .inr (aS av h),aH _⟩
theorem XN (l:List Oper) (i:Nat):l.toArray.getD i default=l.getD i default:=congrFun (iT l) i
theorem abk (b:Nat) (x y:Value) (t:TypeId) (hb:w.heap.size=b) (j:Nat) (u:Value) (h:[x,y][j]?=some u):(w.drew.alloc (.cells #[x,y] t)).cell? ((⟨b,0,none⟩:Addr).add j)=some u:=by
 subst hb;have e:(⟨w.heap.size,0,none⟩:Addr).add j=⟨w.heap.size,j,none⟩:=by unfold Addr.add;split<;>simp_all
 rw[e];have:=World.cell?_alloc_new w.drew #[x,y] t j;rw[show w.drew.heap.size=w.heap.size from rfl]at this;rw[this];simpa using h
theorem KG {w2:World} {F:Fp} {g cap q:Nat} {β:Int} (h:aD w F c) (hq:zV w F β q) (k:Nat) (hk:k<c.length) (v:Int) (hn:F.n<1000000000)
  (hb:∀b,b=F.M∨b=F.C→w2.heap[b]?=w.heap[b]?) (A:Alt [] w F w2 ⟨F.M,F.C,some g,F.n+1⟩ 1) (MV:w2.ownsRow 0 160 2 (aZ g (q+1) cap) (q+1) xs):
  aD ((w2.setCell ⟨F.M,1,none⟩ (aZ g (q+1) cap)).setCell ⟨F.C,k,none⟩ (ag v)) ⟨F.M,F.C,some g,F.n+1⟩ (c.set k v)∧
   Alt [] w F ((w2.setCell ⟨F.M,1,none⟩ (aZ g (q+1) cap)).setCell ⟨F.C,k,none⟩ (ag v)) ⟨F.M,F.C,some g,F.n+1⟩ 1:=by
 have bM:=hb F.M (.inl rfl);have bC:=hb F.C (.inr rfl);have lM:=h.lt (.inl rfl:F.has F.M);have lC:=h.lt (.inr (.inl rfl):F.has F.C);have Xc:=h.ne.1;have hg:g≠F.M∧g≠F.C:=by
  rcases A.L g rfl with e|hs
  ·exact⟨fun x=>h.ne.2.1 (by rw[←x];exact e),fun x=>h.ne.2.2 (by rw[←x];exact e)⟩
  ·exact⟨ae,ae⟩
 have cM:∀o,w2.cell? ⟨F.M,o,none⟩=w.cell? ⟨F.M,o,none⟩:=fun o=>bg (a:=⟨F.M,o,none⟩) bM;have cC:∀o,w2.cell? ⟨F.C,o,none⟩=w.cell? ⟨F.C,o,none⟩:=fun o=>bg (a:=⟨F.C,o,none⟩) bC;have fM:∀o,w2.frozen? ⟨F.M,o,none⟩=w.frozen? ⟨F.M,o,none⟩:=fun o=>World.frozen?_of_block (a:=⟨F.M,o,none⟩) bM;have fC:∀o,w2.frozen? ⟨F.C,o,none⟩=w.frozen? ⟨F.C,o,none⟩:=fun o=>World.frozen?_of_block (a:=⟨F.C,o,none⟩) bC;obtain⟨lv,vals,eF,_,_,lI,hβ,hβq⟩:=hq;refine⟨⟨?_,⟨β,q+1,_,xs,?_,nZ MV ?_,rfl,?_,hβ,by simp only;omega⟩,fun i hi=>?_,fun i=>?_,fun i=>?_,⟨Xc,fun e=>hg.1 (by simpa using e),fun e=>hg.2 (by simpa using e)⟩,?_,by simp only;omega⟩,(A.aja (.inl rfl) _).aja (.inr (.inl rfl)) _⟩
 ·simp[au,Xc,cM,h.s0]
 ·simp[au,Xc,cM,eF]
 ·intro g' hg';simp only[Value.ownBlock,Option.some.injEq]at hg';subst hg';rw[Below.heap_setCell _ _ _ _ hg.2,Below.heap_setCell _ _ _ _ hg.1]
 ·simp[au,Xc,cM,lI]
 ·simp only[List.length_set]at hi;have:=h.cells i hi;by_cases e:i=k
  ·subst e;simp[au,Xc,Ne.symm Xc,cC,this,List.getD_eq_getElem?_getD,hi]
  ·simp[au,Xc,Ne.symm Xc,cC,this,List.getD_eq_getElem?_getD,e,Ne.symm e]
 ·simp[fM,h.fM]
 ·simp[fC,h.fC]
 ·simpa using h.len
theorem abl {F:Fp} (h:aD w F c) (i v:Int) (hn:F.n<1000000000):
  Calls prog 102 #[aR F.M,ag i,ag v] w fun e w'=>e=.returned (.tuple #[])∧∃F',aD w' F' (cs c i v)∧Alt [] w F w' F' 1:=by
 have s0:=h.s0;have hh:=pJ h i;by_cases hi:0≤i∧i<c.length
 ·rw[decide_eq_true hi]at hh;obtain⟨k,rfl⟩:∃k:Nat,i=k:=⟨i.toNat,ae⟩
  have hc:=h.cells k ae;have fM:=h.fM;have fC:=h.fC;obtain⟨h0,h1⟩:=hi;have h1':k<c.length:=ae;obtain⟨β,q,sQ⟩:=h.s1;have ape:=ah sQ;obtain⟨lv,vals,s1,hown,hl,_,hβ0,hβq⟩:=sQ;have hqn:q<1000000000:=ae;have Hβ:=ah (And.intro hβ0 hβq);clear hβ0 hβq;have lM:=aU _ _ s0;have lC:=aU _ _ hc;simp only at lM lC;have hM:=h.ne;have HF:=ah h;have P9:=ah hh;have jO:=ah hown;have Hl:=ah hl;have HM:=ah hM;clear h hh hown hl hM;generalize hu:c.getD k 0=u at*;go_enter func102,ntmps102;go_upto_region 1 with((with_reducible refine P9.out.mono ?_);rintro e w' ⟨rfl,rfl⟩);refine iR [1,2,3,4,5,6,7,8,9,10,11,12,13] [0] [14,15,16,17,18] 15 aL aL fun NL hL=>?_;obtain⟨dU,dV,hlf⟩:=hL;simp only[jA];repeat(go_big_quiet_step (fail))
  refine wpQuiet_nil ?_;repeat(go_big_quiet_step (fail))
  refine wpQuiet_nil ?_;clear dV hlf dU NL;refine gN (v:=aZ w'.heap.size 1 1) (w1:=w'.drew.alloc (.cells #[ag k,ag u] 160)) bL rfl rfl bO ⟨⟨_,(aK _ w').drew.alloc (aH _) _⟩,rfl⟩ ?_;simp only[Act.put,dH];refine kH rfl rfl ?_;obtain⟨i0,hii,sN,nk,nD⟩:=info_parts Tryz.ajb;refine gq (.tmp 14) (.tmp 24) 91 rfl 160 i0 (.agg #[ag 0,ag 0]) 2 16 underlying91 hii sN nk nD rfl bL lv q vals rfl (jO.out.drew.alloc _) ⟨w'.heap.size,0,none⟩ 1 1 [ag k,ag u] rfl rfl (fun j x hx=>abk _ _ _ _ rfl j x hx) il iq ae ?_;intro v' w2 hown2 wP hv';simp only[Act.put,dH];simp only[jA];have hne:F.L≠some F.M:=HM.out.2.1;have ajc:F.L≠some F.C:=HM.out.2.2;have A1:=U6 (F:=F) _ Hl.out wP hv';have e0:w2.cell? ⟨F.M,0,none⟩=some (aZ F.C c.length c.length):=wP.cell (vH _ s0) (by rw[Hl.out];exact fun e=>hne e.symm);have e1:w2.cell? ⟨F.M,1,none⟩=some lv:=wP.cell (vH _ s1) (by rw[Hl.out];exact fun e=>hne e.symm);have f1:w2.frozen? ⟨F.M,1,none⟩=false:=(World.frozen?_of_block (a:=⟨F.M,1,none⟩) (wP.block F.M bU (by rw[Hl.out];exact fun e=>hne e.symm))).trans (zY _ lM (fM 1));have HA1:=ah A1;have Cy:=ah hown2;have ajd:=ah wP;have Hv':=ah hv';clear A1 hown2 wP hv';refine di (v:=aR F.M) (w1:=w2) rfl bO trivial ?_;simp only[Act.put,dH];refine di (v:=.pointer (some ⟨F.M,1,none⟩)) (w1:=w2) rfl bO trivial ?_;simp only[Act.put,dH];obtain⟨w3,Mm⟩:∃X,X=w2.setCell ⟨F.M,1,none⟩ v':=⟨_,rfl⟩
  obtain⟨g,cap,cur,rfl,afc⟩:∃g cap cur,v'=aZ g (q+1) cap∧w2.heap[g]?=some (.cells cur 160 (0,0)):=by
   rcases Cy.out.2 with⟨_,e⟩|⟨g,cap,cur,e,_,e',_⟩
   ·omega
   ·exact⟨g,cap,cur,e,e'⟩
  refine dY (w1:=w3) rfl (by rw[Mm];go_simp) trivial ?_;simp only[XN,List.getD_cons_zero,List.getD_cons_succ];simp only[Act.put,dH];refine fT ?_;have bb:∀b,b=F.M∨b=F.C→w2.heap[b]?=w'.heap[b]?:=by
   intro b hb;have lt:b<w'.heap.size:=by rcases hb with rfl|rfl<;>assumption
   refine(ajd.out.block b bU ?_).trans (((aK w'.heap.size w').drew.alloc (aH _) _).block b lt);rw[Hl.out];rcases hb with rfl|rfl
   ·exact fun e=>hne e.symm
   ·exact fun e=>ajc e.symm
  have fin:=KG HF.out ape.out k h1' v hn bb HA1.out Cy.out;rw[←Mm]at fin;have pI:=ah fin;have Xc:=HM.out.1;have e03:w3.cell? ⟨F.M,0,none⟩=some (aZ F.C c.length c.length):=by rw[Mm];simp[au,e0]
  have e0C:w3.cell? ⟨F.C,k,none⟩=some (ag u):=by rw[Mm];simp only[au,Ne.symm Xc,if_false,if_neg (Ne.symm Xc)];exact(bg (a:=⟨F.C,k,none⟩) (bb F.C (.inr rfl))).trans hc
  have f0C:w3.frozen? ⟨F.C,k,none⟩=false:=by rw[Mm];simp only[World.frozen?_setCell];exact(World.frozen?_of_block (a:=⟨F.C,k,none⟩) (bb F.C (.inr rfl))).trans (fC k)
  clear fin bb HA1 Cy Hv' ajd e0 e1 f1 Mm afc HM hne ajc Xc s0 s1 hc fM fC;go_wp2;refine bodyPost_end (v:=.tuple #[]) (by simp[results,results102,go_sem]) rfl ⟨rfl,_,?_,pI.out.2⟩;have e:cs c k v=c.set k v:=by unfold cs;simp
  rw[e];exact pI.out.1
 ·rw[decide_eq_false hi]at hh;rw[afb c i v hi];have HF:=ah h;have P9:=ah hh;clear hh;clear h s0;go_enter func102,ntmps102;go_wp2_with ((with_reducible refine P9.out.mono ?_);rintro e w' ⟨rfl,rfl⟩);refine bodyPost_ret (v:=.tuple #[]) (by simp[results,results102,go_sem]) rfl ?_;exact⟨rfl,F,HF.out,(Alt.refl _ _ _).mono ae⟩
end Ce
end Go.Proofs.YtohpdonnpbjfdaaGreatDoor
