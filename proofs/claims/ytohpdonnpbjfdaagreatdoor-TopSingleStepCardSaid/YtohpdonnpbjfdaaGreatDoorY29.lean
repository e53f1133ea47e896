/- What is shown: package collide. Conditions: as each theorem states. -/
import Derived.Maps.AppendAt
import Derived.RangeFuncBox
import Derived.Test.YtohpdonnpbjfdaaGreatDoorY26
set_option maxHeartbeats 40000000
set_option maxRecDepth 100000
set_option linter.unusedVariables false
set_option linter.unusedSimpArgs false
open Go.Proofs.Tryz
namespace Go.Proofs.YtohpdonnpbjfdaaGreatDoor
theorem gH {P:Prop} (h:P:=by rw[lZ];simp[aQ,bW,dA,↓IntWalk.iteOmega]):P:=h
theorem CQ {P:Prop} (h:P:=by obtain⟨e1,e2⟩:=TL (r:=ra) hA.poly.len px py a b;obtain⟨e3,e4⟩:=TL (r:=rb) hB.poly.len qx qy a b;rw[e1,e2]at b1;rw[e3,e4]at b2;unfold Jy;omega):P:=h
namespace Co
open Go.RowKit aN fO Qt Ve Sh Go.Shelf
attribute [local go_sem] Oper.semAt_some
abbrev Yk (Ba Bb Bq Bp:Nat):Array Value:=#[aR Ba,aR Bb,aR Bq,aR Bp]
variable {C B la lb n b o ca cb Dd:Nat} {w W W':World} {ra rb px py qx qy x y d:Int} {za zb:List (Int×Int)} {row:Option Nat} {aa ab:Option Addr}
theorem Vn (ha:za.length=la) (hb:zb.length=lb) (px py qx qy:Int):
  dZ prog 135 #[.agg #[ag (bx0 ra la za px),ag (by0 ra la za py),ag (bx1 ra la za px),ag (by1 ra la za py)],.agg #[ag (bx0 rb lb zb qx),ag (by0 rb lb zb qy),ag (bx1 rb lb zb qx),ag (by1 rb lb zb qy)]] (.bool (ovl ra za px py rb zb qx qy)):=by subst ha hb;exact Ng _ _ _ _ _ _ _ _
structure But (C B:Nat) (w W:World):Prop where
 os:W.os=w.os
 tape:W.tape=w.tape
 output:W.output=w.output
 size:w.heap.size≤W.heap.size
 block:∀k,k<B→k≠C→W.heap[k]?=w.heap[k]?
theorem But.refl (C B:Nat) (w:World):But C B w w:=⟨rfl,rfl,rfl,aH _,fun _ _ _=>rfl⟩
theorem But.trans {u v:World} (h:But C B u v) (k:But C B v w):But C B u w:=
 ⟨k.os.trans h.os,k.tape.trans h.tape,k.output.trans h.output,aS h.size k.size,fun i hi hc=>(k.block i hi hc).trans (h.block i hi hc)⟩
theorem But.of (h:Below n w W) (hn:B≤n):But C B w W:=⟨h.os,h.tape,h.output,h.size,fun k hk _=>h.block k ae⟩
theorem But.set (C B o:Nat) (W:World) (v:Value):But C B W (W.setCell ⟨C,o,none⟩ v):=
 ⟨rfl,rfl,rfl,by simp[World.setCell],fun k _ hc=>by simp[World.setCell,Array.getElem?_modify,Ne.symm hc]⟩
theorem But.grown (h:But C B w W) (hg:W.grownBy W' row) (hB:B≤W.heap.size) (hr:∀k,row=some k→B≤k):But C B w W':=
 h.trans ⟨hg.os,hg.tape,hg.output,hg.size,fun k hk _=>hg.block k ae (fun e=>by have:=hr k e.symm;omega)⟩
theorem But.below {w0:World} (h:But C B w W) (hb:Below n w0 w) (h1:n≤C) (h2:n≤B):Below n w0 W:=
 hb.trans ⟨h.os,h.tape,h.output,h.size,fun k hk=>h.block k ae ae⟩
theorem But.cell {v:Value} (h:But C B w W) (hb:b<B) (hc:b≠C) (e:w.cell? ⟨b,o,none⟩=some v):W.cell? ⟨b,o,none⟩=some v:=
 (bg (h.block b hb hc)).trans e
theorem But.abt (h:But C B w W) (hb:b<B) (hc:b≠C) (e:w.frozen? ⟨b,o,none⟩=false):W.frozen? ⟨b,o,none⟩=false:=
 (World.frozen?_of_block (h.block b hb hc)).trans e
structure Ye (C:Nat) (W:World) (x y d:Int):Prop where
 c0:W.cell? ⟨C,0,none⟩=some (ag x)
 c1:W.cell? ⟨C,1,none⟩=some (ag y)
 c2:W.cell? ⟨C,2,none⟩=some (ag d)
 f:∀i,W.frozen? ⟨C,i,none⟩=false
theorem Ye.later (h:Ye C W x y d) (hb:aJ W W'):Ye C W' x y d:=
 ⟨ai hb h.c0,ai hb h.c1,ai hb h.c2,fun i=>(hb.frozen (p:=⟨C,i,none⟩) (by have:=aU W _ h.c0;exact this)).trans (h.f i)⟩
theorem Ye.kept (h:Ye C W x y d) (hg:W.grownBy W' row) (hr:∀r,row=some r→∃o:Obj,W.heap[r]?=some o∧o.isCells=false):Ye C W' x y d:=
 ⟨cell_kept h.c0 hg hr,cell_kept h.c1 hg hr,cell_kept h.c2 hg hr,fun i=>(World.frozen?_of_block (by obtain⟨o,ho,hc⟩:=cells_of_cell h.c0;exact grownBy_keeps_cells hg hr ho hc)).trans (h.f i)⟩
theorem Ye.apg (h:Ye C W x y d) (u v e:Int):Ye C (((W.setCell ⟨C,0,none⟩ (ag u)).setCell ⟨C,1,none⟩ (ag v)).setCell ⟨C,2,none⟩ (ag e)) u v e:=
 ⟨by simp[au,h.c0],by simp[au,h.c1],by simp[au,h.c2],fun i=>by simp[h.f]⟩
def bs0 (f:Int×Int→Int) (l:List P_):Int:=match QV f (l.map (·.1))with|none=>0|some y=>y.1
def bs1 (f:Int×Int→Int) (l:List P_):Int:=match QV f (l.map (·.1))with|none=>0|some y=>y.2
def Nh (f:Int×Int→Int) (l:List P_):Int:=match QV f (l.map (·.1))with|none=>9223372036854775807|some y=>f y
theorem abw (f:Int×Int→Int) (l:List P_) (x:P_) (h:f x.1<9223372036854775807):
  bs0 f (l++[x])=(if f x.1<Nh f l then x.1.1 else bs0 f l)∧bs1 f (l++[x])=(if f x.1<Nh f l then x.1.2 else bs1 f l)∧Nh f (l++[x])=(if f x.1<Nh f l then f x.1 else Nh f l):=by
 unfold bs0 bs1 Nh;rw[List.map_append,show[x].map (·.1)=[x.1]from rfl,Ni];cases hb:QV f (l.map (·.1))with
 |none=>simp[stp,h]
 |some y=>
  simp only[stp];by_cases hlt:f x.1<f y
  ·simp[hlt]
  ·simp[hlt]
theorem afh
  (hA:iL w ra aa la ca za) (hB:iL w rb ab lb cb zb) (hp: -10000000≤px∧px≤10000000∧-10000000≤py∧py≤10000000) (hq: -10000000≤qx∧qx≤10000000∧-10000000≤qy∧qy≤10000000) (n:Int×Int) (hn:Vo n):
  -80000000000000≤Jy ra za px py rb zb qx qy n∧Jy ra za px py rb zb qx qy n≤80000000000000:=by obtain⟨a,b⟩:=n;obtain⟨n1,n2,n3,n4⟩:=hn;simp only at n1 n2 n3 n4;have b1:=KD hA px py a b ae ae ae ae;have b2:=KD hB qx qy a b ae ae ae ae;exact CQ
theorem ajk (x a:Int) (hx: -20000000≤x∧x≤20000000) (ha: -1024≤a∧a≤1024): -20480000000≤x*a∧x*a≤20480000000:=by
 have h:(x*a).natAbs≤20000000*1024:=by rw[Int.natAbs_mul];exact Nat.mul_le_mul ae ae
 omega
theorem aby (f:Int×Int→Int) (l:List P_) (hne:l.map (·.1)≠[]):
  bs0 f l=((QV f (l.map (·.1))).getD (0,0)).1∧bs1 f l=((QV f (l.map (·.1))).getD (0,0)).2∧Nh f l=f ((QV f (l.map (·.1))).getD (0,0))∧Vo (bs0 f l,bs1 f l):=by
 rcases Nj f (l.map (·.1))with⟨h,_⟩|⟨y,hy,hm,_⟩
 ·exact absurd h hne
 ·obtain⟨x,_,rfl⟩:=List.mem_map.1 hm;unfold bs0 bs1 Nh;rw[hy];exact⟨rfl,rfl,rfl,x.2⟩
theorem abz (ho:ovl ra za px py rb zb qx qy=true) (h:∀x∈lL za zb (qx-px) (qy-py),0<Jy ra za px py rb zb qx qy x.1):
  L8 ra za px py rb zb qx qy=true:=by unfold L8;rw[ho,Bool.true_and,List.all_eq_true];intro n hn;rw[←Ab]at hn;obtain⟨x,hx,rfl⟩:=List.mem_map.1 hn;exact decide_eq_true (h x hx)
theorem Yf {pre:List P_} (hp:pre<+:lL za zb (qx-px) (qy-py)) (h:∃x∈pre,Jy ra za px py rb zb qx qy x.1≤0):
  L8 ra za px py rb zb qx qy=false:=by
 obtain⟨x,hx,hd⟩:=h;have hm:x.1∈Yg za zb (qx-px) (qy-py):=by rw[←Ab];exact List.mem_map.2 ⟨x,hp.subset hx,rfl⟩
 unfold L8;have:((Yg za zb (qx-px) (qy-py)).all fun n=>decide (0<Jy ra za px py rb zb qx qy n))=false:=by rw[List.all_eq_false];exact⟨x.1,hm,bU⟩
 rw[this,Bool.and_false]
theorem abA (ho:ovl ra za px py rb zb qx qy=true) (h:∀x∈lL za zb (qx-px) (qy-py),0<Jy ra za px py rb zb qx qy x.1)
  (s0 s1 s2:Int) (h0:s0=bs0 (Jy ra za px py rb zb qx qy) (lL za zb (qx-px) (qy-py))) (h1:s1=bs1 (Jy ra za px py rb zb qx qy) (lL za zb (qx-px) (qy-py))) (h2:s2=Nh (Jy ra za px py rb zb qx qy) (lL za zb (qx-px) (qy-py))):
  L8 ra za px py rb zb qx qy=true∧cnx ra za px py rb zb qx qy=(if((qx-px)*s0+(qy-py)*s1)/1024<0 then-s0 else s0)∧cny ra za px py rb zb qx qy=(if((qx-px)*s0+(qy-py)*s1)/1024<0 then-s1 else s1)∧cdp ra za px py rb zb qx qy=s2∧Vo (s0,s1):=by have hc:=abz ho h;have hv:=aby (Jy ra za px py rb zb qx qy) (lL za zb (qx-px) (qy-py)) (by rw[Ab];exact Yh _ _ _ _);rw[Ab,←h0,←h1,←h2]at hv;obtain⟨v0,v1,v2,v3⟩:=hv;unfold cnx cny cdp afi Yi;rw[hc,←v0,←v1,←v2];simp[v3]
theorem zm {V:World} (h:Below n w V) (hn:n≤w.heap.size) (hD:n≤Dd) (o:Obj):Below n w (V.putObj Dd o):=h.grown (grownBy_putObj' _ _ _) (aS hn h.size) (fun k e=>by cases e;exact hD)
theorem yG (h:b≠Dd) (V:World) (o:Obj) (i:Nat):(V.putObj Dd o).cell? ⟨b,i,none⟩=V.cell? ⟨b,i,none⟩:=bg (World.putObj_heap_other h)
theorem Gj
  (hA:iL w ra aa la ca za) (hB:iL w rb ab lb cb zb) (hp: -10000000≤px∧px≤10000000∧-10000000≤py∧py≤10000000) (hq: -10000000≤qx∧qx≤10000000∧-10000000≤qy∧qy≤10000000):
  Calls prog 114 #[.agg #[ag ra,.slice aa la ca],.agg #[ag px,ag py],.agg #[ag rb,.slice ab lb cb],.agg #[ag qx,ag qy]] w fun e w'=>e=.returned (.tuple #[.agg #[ag (cnx ra za px py rb zb qx qy),ag (cny ra za px py rb zb qx qy),ag (cdp ra za px py rb zb qx qy)],.bool (L8 ra za px py rb zb qx qy)])∧aJ w w':=by
 have hla:=hA.poly.len;have hlb:=hB.poly.len;have MG:=ah (MR hA px py ae ae);have Xa:=ah (MR hB qx qy ae ae);have c3:=Vn (ra:=ra) (rb:=rb) hla hlb px py qx qy;have Hcd:=ah fun n (hn:Vo n)=>abB hA hB px py qx qy n.1 n.2 hp hq hn;have ajl:=ah fun V=>Yj ra aa la ca px py rb ab lb cb qx qy V;generalize bx0 ra la za px=A0 at*;generalize by0 ra la za py=A1 at*;generalize bx1 ra la za px=A2 at*;generalize by1 ra la za py=A3 at*;generalize bx0 rb lb zb qx=B0 at*;generalize by0 rb lb zb qy=B1 at*;generalize bx1 rb lb zb qx=B2 at*;generalize by1 rb lb zb qy=B3 at*;obtain⟨ov,hov⟩:∃ov,ov=ovl ra za px py rb zb qx qy:=⟨_,rfl⟩
 rw[←hov]at c3;have Hov:=ah hov;clear hov;have Hc3:=ah c3;clear c3;refine(callsIn_wide (n:=8)).1 ?_;refine callsIn_of_wp_marks func114 rfl trivial ?_ rfl;simp only[ntmps114,List.size_toArray,List.length_cons,List.length_nil,Nat.reduceAdd,Nat.reduceSub,Array.replicate_succ,Array.replicate_zero,List.push_toArray,List.append_toArray,List.nil_append,List.cons_append];refine az ?_;intro hal bu;gi_wp2;refine Qn.nA 7 aL aL aL fun NL hL=>?_;obtain⟨dU,dV,hlf⟩:=hL;(try simp only[bf]at dU);simp only[dS];repeat(go_big_quiet_step (first|(with_reducible exact aY (MG.out _ lu))|(with_reducible exact aY (Xa.out _ lu))|(with_reducible exact aY (Hc3.out _))))
 (refine wpQuiet_nil ?_;intro w1 iI;obtain⟨⟨w1,aO⟩,rfl⟩:=iI;clear dV hlf dU NL;obtain⟨N1,dA,bW,eu,eF⟩:=eB aO;(try simp only[bf]at dA));cases ov
 ·go_wp2;refine Qn.sU ?_;gi_wp2;have afj:L8 ra za px py rb zb qx qy=false:=by unfold L8;rw[←Hov.out];rfl
  refine⟨_,by simp[results,Tryz.f114,go_sem,au,bW,dA,hal,↓IntWalk.iteOmega];rfl,?_,?_⟩
  ·simp only[cnx,cny,cdp,afj];rfl
  ·exact aG
 ·go_wp2;refine Qn.sU ?_;gi_wp2_with ((refine⟨trivial,?_⟩;with_reducible refine(callsIn_wide.2 (ajl.out _)).mono ?_);rintro e w2 ⟨rfl,rfl⟩);obtain⟨W0,lZ⟩:∃W0,W0=((((w1.alloc (.cells #[ag 0,ag 0,ag 9223372036854775807] 203)).alloc (.cells #[ag ra,.slice aa la ca] 122)).alloc (.cells #[ag px,ag py] 29)).alloc (.cells #[ag rb,.slice ab lb cb] 122)).alloc (.cells #[ag qx,ag qy] 29):=⟨_,rfl⟩
  rw[←lZ];have Nk:W0.heap.size=w1.heap.size+5:=by rw[lZ];simp
  have hbw:aJ w w1:=eG;have MZ:aJ w1 W0:=by rw[lZ];clear aO hbw;exact aG
  have hct:Ye w1.heap.size W0 0 0 9223372036854775807:=⟨by rw[lZ];simp[aQ,↓IntWalk.iteOmega],by rw[lZ];simp[aQ,↓IntWalk.iteOmega],by rw[lZ];simp[aQ,↓IntWalk.iteOmega],fun i=>by rw[lZ];simp[dL,↓IntWalk.iteOmega]<;>(intros;omega)⟩
  have d0:W0.cell? ⟨w1.heap.size+1,0,none⟩=some (ag ra):=gT;have d1:W0.cell? ⟨w1.heap.size+1,1,none⟩=some (.slice aa la ca):=gT;have d2:W0.cell? ⟨w1.heap.size+1+1+1,0,none⟩=some (ag rb):=gT;have d3:W0.cell? ⟨w1.heap.size+1+1+1,1,none⟩=some (.slice ab lb cb):=gT;have d4:W0.cell? ⟨w1.heap.size+1+1+1+1,0,none⟩=some (ag qx):=gT;have d5:W0.cell? ⟨w1.heap.size+1+1+1+1,1,none⟩=some (ag qy):=gT;have d6:W0.cell? ⟨w1.heap.size+1+1,0,none⟩=some (ag px):=gT;have d7:W0.cell? ⟨w1.heap.size+1+1,1,none⟩=some (ag py):=gT;have u0:W0.cell? ⟨w.heap.size,0,none⟩=some (ag ra):=gH;have u1:W0.cell? ⟨w.heap.size,1,none⟩=some (.slice aa la ca):=gH;have u2:W0.cell? ⟨w.heap.size+1,0,none⟩=some (ag px):=gH;have u3:W0.cell? ⟨w.heap.size+1,1,none⟩=some (ag py):=gH;have u4:W0.cell? ⟨w.heap.size+1+1,0,none⟩=some (ag rb):=gH;have u5:W0.cell? ⟨w.heap.size+1+1,1,none⟩=some (.slice ab lb cb):=gH;have u6:W0.cell? ⟨w.heap.size+1+1+1,0,none⟩=some (ag qx):=gH;have u7:W0.cell? ⟨w.heap.size+1+1+1,1,none⟩=some (ag qy):=gH;have u8:W0.cell? ⟨w.heap.size+1+1+1+1,0,none⟩=some (ag 0):=gH;have u9:W0.cell? ⟨w.heap.size+1+1+1+1,1,none⟩=some (ag 0):=gH;have u10:W0.cell? ⟨w.heap.size+1+1+1+1,2,none⟩=some (ag 0):=gH;have u11:W0.cell? ⟨w.heap.size+1+1+1+1+1,0,none⟩=some (.bool false):=gH;have g4:∀i,W0.frozen? ⟨w.heap.size+1+1+1+1,i,none⟩=false:=fun i=>by rw[lZ];simp[dL,eu,dA,↓IntWalk.iteOmega]<;>(intros;omega)
  have g5:∀i,W0.frozen? ⟨w.heap.size+1+1+1+1+1,i,none⟩=false:=fun i=>by rw[lZ];simp[dL,eu,dA,↓IntWalk.iteOmega]<;>(intros;omega)
  have hsz:w.heap.size+6≤w1.heap.size:=ae;have hBW:aJ w W0:=hbw.trans (MZ.mono hbw.size);clear aO bW eu eF dA N1 lZ hal bu Hc3 ajl MZ hbw;generalize w1.heap.size=C at*;clear w1;obtain⟨D,hD⟩:∃D,D=Jy ra za px py rb zb qx qy:=⟨_,rfl⟩
  have cd2:∀u v,Vo (u,v)→∀V,aJ w V→Calls prog 138 #[.agg #[ag ra,.slice aa la ca],.agg #[ag px,ag py],.agg #[ag rb,.slice ab lb cb],.agg #[ag qx,ag qy],.agg #[ag u,ag v]] V fun e w'=>e=.returned (ag (D (u,v)))∧aJ V w':=fun u v hn=>by rw[hD];exact Hcd.out (u,v) hn
  have hDb:∀n,Vo n→-80000000000000≤D n∧D n≤80000000000000:=fun n hn=>by rw[hD];exact afh hA hB hp hq n hn
  have HDb:=ah hDb;have HD:=ah hD;have ajm:=ah cd2;have HA:=ah hA;have HB:=ah hB;have Hp:=ah hp;have Hq:=ah hq;clear hD hDb cd2 Hcd hA hB hp hq;refine wpIn_rangeFunc_ownH rfl bL (gf:=176) (lb:=Yk (C+1) (C+1+1+1) (C+1+1+1+1) (C+1+1)) rfl trivial (enters_of func176 aL rfl)
   (encs:=Nl) (Kp:=But C W0.heap.size) (S:=fun ys=>ys=lL za zb (qx-px) (qy-py)) (Sp:=fun pre=>pre<+:lL za zb (qx-px) (qy-py)) (N:=(lL za zb (qx-px) (qy-py)).length) (w0:=W0) ?seq But.trans (fun W l o o' hl ho _ _=>(But.refl _ _ W).grown (grownBy_putObj' W l o') wY (fun k e=>by cases e;exact hl)) (aK _ W0) (fun _=>rfl)
   (fun pre W=>((∀x∈pre,0<D x.1)∧Ye C W (bs0 D pre) (bs1 D pre) (Nh D pre))∧But C W0.heap.size W0 W)
   (fun c pre W=>(c=.ret∧(∃x∈pre,D x.1≤0)∧W.cell? ⟨w.heap.size+1+1+1+1,0,none⟩=some (ag 0)∧W.cell? ⟨w.heap.size+1+1+1+1,1,none⟩=some (ag 0)∧W.cell? ⟨w.heap.size+1+1+1+1,2,none⟩=some (ag 0)∧W.cell? ⟨w.heap.size+1+1+1+1+1,0,none⟩=some (.bool false))∧aJ w W)
   (fun s A B row hs hg hr=>⟨⟨hs.1.1,hs.1.2.kept hg (fun r e=>(hr r e).2)⟩,hs.2.grown hg hs.2.size (fun k e=>(hr k e).1)⟩)
   (fun c=>OwnFrom.and (Own.from (fun s A B row hs hg hr=>⟨hs.1,hs.2.1,cell_kept hs.2.2.1 hg hr,cell_kept hs.2.2.2.1 hg hr,cell_kept hs.2.2.2.2.1 hg hr,cell_kept hs.2.2.2.2.2 hg hr⟩) _) (ownFrom_below (aH _) ae))
   ⟨⟨av,hct⟩,But.refl _ _ _⟩
   (fun x a' W=>∃Bx,W0.heap.size≤Bx∧W.heap[Bx]?=some (.cells #[ag x.1.1,ag x.1.2] 29 (0,0))∧a'={tmps:=#[.agg #[ag ra,.slice aa la ca],.agg #[ag px,ag py],.agg #[ag rb,.slice ab lb cb],.agg #[ag qx,ag qy],aR w.heap.size,.pointer (some ⟨w.heap.size+1,0,none⟩),.pointer (some ⟨w.heap.size+1+1,0,none⟩),.pointer (some ⟨w.heap.size+1+1+1,0,none⟩),.pointer (some ⟨w.heap.size+1+1+1+1,0,none⟩),.pointer (some ⟨w.heap.size+1+1+1+1+1,0,none⟩),aR C,aR Bx,undef,.agg #[ag ra,.slice aa la ca],.agg #[ag px,ag py],.agg #[ag A0,ag A1,ag A2,ag A3],.agg #[ag rb,.slice ab lb cb],.agg #[ag qx,ag qy],.agg #[ag B0,ag B1,ag B2,ag B3],.bool true,.bool false,undef,.agg #[ag 0,ag 0,ag 9223372036854775807],.agg #[ag ra,.slice aa la ca],.agg #[ag px,ag py],.agg #[ag rb,.slice ab lb cb],.agg #[ag qx,ag qy],.func (.func 176) #[] (Yk (C+1) (C+1+1+1) (C+1+1+1+1) (C+1+1)),.agg #[ag (x.1.1),ag (x.1.2)],undef,undef,undef,undef,undef,undef,undef,undef,undef,undef,undef,undef,undef,undef,undef,undef,undef,undef,undef,undef,undef,undef,undef,undef,undef,undef,undef,undef],defers:=[]})
   (fun x a' _ X Y row hs hg hr=>by
    obtain⟨Bx,h1,h2,h3⟩:=hs
    refine⟨Bx,h1,(hg.block Bx (Array.getElem?_eq_some_iff.1 h2).1 (fun e=>?_)).trans h2,h3⟩
    obtain⟨_,o,ho,hc⟩:=hr Bx e.symm
    rw[h2]at ho
    cases ho
    cases hc)
   ?assign ?body ?done ?stop
  case seq=>
   intro l J Jx W hW hJ _ hY h0;exact Yl 7 bL ra aa la ca za rb ab lb cb zb px py qx qy _ _ (C+1) (C+1+1+1) (C+1+1+1+1) (C+1+1) Hp.out Hq.out rfl rfl (fun V=>But C W0.heap.size W0 V) (But C W0.heap.size)
    (fun V hV=>⟨HA.out.later (hV.below hBW ae ae),HB.out.later (hV.below hBW ae ae),hV.cell ae ae d0,hV.cell ae ae d1,hV.cell ae ae d2,hV.cell ae ae d3,hV.cell ae ae d4,hV.cell ae ae d5,hV.cell ae ae d6,hV.cell ae ae d7⟩) (fun _ _ hV hb=>hV.trans (But.of hb hV.size)) (fun _ _ hV hb=>hV.trans hb) _ (aH _) l J Jx _ hJ hY W (But.of hW (aH _)) h0
  case assign=>rintro l pre x W K ⟨⟨hp,hcx⟩,hB⟩ hK;dsimp only[Nl]at*;have AY:aJ W (W.alloc (.cells #[ag x.1.1,ag x.1.2] 29)):=eG;gi_wp2;exact hK _ _ ((KeepsOthers.alloc _ _).from _) (But.of AY hB.size) ⟨⟨hp,hcx.later AY⟩,hB.trans (But.of AY hB.size)⟩ ⟨W.heap.size,hB.size,World.alloc_heap_new W _,rfl⟩
  case body=>
   rintro l pre ⟨⟨u,v⟩,hn⟩ a' W hl ⟨r,hr⟩ ⟨⟨hp,hcx⟩,hB⟩ ⟨Bx,hBx,bX,rfl⟩ hlt;dsimp only at*;have x0:W.cell? ⟨Bx,0,none⟩=some (ag u):=by simp[World.cell?,bX]
   have x1:W.cell? ⟨Bx,1,none⟩=some (ag v):=by simp[World.cell?,bX]
   have awY:Bx<W.heap.size:=(Array.getElem?_eq_some_iff.1 bX).1;have hws:=hB.size;have hBw:aJ w W:=hB.below hBW ae ae;have c4:=ajm.out u v hn;obtain⟨db0,db1⟩:=HDb.out (u,v) hn;obtain⟨e0,e1,e2⟩:=abw D pre ⟨(u,v),hn⟩ (by show D (u,v)<_;omega);dsimp only at e0 e1 e2;have yP:∀d,d=D (u,v)→0<d→∀x∈pre++[⟨(u,v),hn⟩],0<D x.1:=fun d hd h0 x hx=>(h_.1 hx).elim (hp x) (fun h=>by rw[List.mem_singleton.1 h];rw[←hd];exact h0);have hnn:∀d,d=D (u,v)→d≤0→∃x∈pre++[⟨(u,v),hn⟩],D x.1≤0:=fun d hd h0=>⟨_,h_.2 (.inr (uH.2 rfl)),by rw[←hd];exact h0⟩
   obtain⟨d,hd⟩:∃d,d=D (u,v):=⟨_,rfl⟩
   rw[←hd]at c4 db0 db1 e0 e1 e2;have Hpp:=ah (yP d hd);have Hnn:=ah (hnn d hd);have k0:=hcx.c0;have k1:=hcx.c1;have k2:=hcx.c2;have kf:=hcx.f;have Hcx:=ah hcx;have HBW:=ah hB;have HBw:=ah hBw;have v0:=hB.cell ae ae u0;have v1:=hB.cell ae ae u1;have v2:=hB.cell ae ae u2;have v3:=hB.cell ae ae u3;have v4:=hB.cell ae ae u4;have v5:=hB.cell ae ae u5;have v6:=hB.cell ae ae u6;have v7:=hB.cell ae ae u7;have v8:=hB.cell ae ae u8;have v9:=hB.cell ae ae u9;have v10:=hB.cell ae ae u10;have v11:=hB.cell ae ae u11;have f4:=fun i=>hB.abt ae ae (g4 i);have f5:=fun i=>hB.abt ae ae (g5 i);obtain⟨s2,lI⟩:∃s2,s2=Nh D pre:=⟨_,rfl⟩
   rw[←lI]at k2 e0 e1 e2;have He0:=ah e0;have He1:=ah e1;have He2:=ah e2;have Hs2:=ah lI;have Hc4:=ah c4;clear e0 e1 e2 lI c4 hcx hB hBw hp yP hnn hd hct u0 u1 u2 u3 u4 u5 u6 u7 u8 u9 u10 u11 d0 d1 d2 d3 d4 d5 d6 d7 g4 g5;gi_wp2_with (((refine⟨trivial,?_⟩;with_reducible refine(CallsIn.inRound l (callsIn_wide.2 (Hc4.out _ HBw.out))).mono ?_);rintro e w5 ⟨rfl,eY⟩;have KF:=eY.size;have y0:=ai eY x0;have y1:=ai eY x1;have y2:=ai eY k2;have y3:=ai eY k0;have y4:=ai eY k1;have z8:=ai eY v8;have z9:=ai eY v9;have z10:=ai eY v10;have z11:=ai eY v11;have ff4:=fun i=>(eY.frozen (p:=⟨w.heap.size+1+1+1+1,i,none⟩) bU).trans (f4 i);have ff5:=fun i=>(eY.frozen (p:=⟨w.heap.size+1+1+1+1+1,i,none⟩) bU).trans (f5 i);have ffC:=fun i=>(eY.frozen (p:=⟨C,i,none⟩) bU).trans (kf i);have HBb:=ah eY;clear eY x0 x1 k0 k1 k2 v8 v9 v10 v11 f4 f5 kf))
   ·have eY:=HBb.out;have hBw:=HBw.out;have QD:=gU eY;have h6:=hBw.trans (eY.mono hBw.size);have hle:d≤0:=fw;exact⟨((((QD.trans (KeepsOthers.setCell _ _ _)).trans (KeepsOthers.setCell _ _ _)).trans (KeepsOthers.setCell _ _ _)).trans (KeepsOthers.setCell _ _ _)).from _,⟨rfl,Hnn.out hle,by simp[au,z8],by simp[au,z9],by simp[au,z10],by simp[au,z11]⟩,
     Below.setCell (Below.setCell (Below.setCell (Below.setCell h6 bU _) bU _) bU _) bU _⟩
   ·have eY:=HBb.out;have sO:=Hcx.out.later eY;have QW:d<s2:=fw;have Vp:=(((But.of (C:=C) eY hws).trans (But.set C W0.heap.size 0 _ (ag u))).trans (But.set C W0.heap.size 1 _ (ag v))).trans (But.set C W0.heap.size 2 _ (ag d));exact⟨((((gU eY).trans (KeepsOthers.setCell _ _ _)).trans (KeepsOthers.setCell _ _ _)).trans (KeepsOthers.setCell _ _ _)).from _,Vp,⟨Hpp.out ae,by rw[He0.out,He1.out,He2.out,if_pos QW,if_pos QW,if_pos QW];exact sO.apg u v d⟩,HBW.out.trans Vp⟩
   ·have eY:=HBb.out;have sO:=Hcx.out.later eY;have QW:¬d<s2:=ae;have Vp:=But.of (C:=C) eY hws;exact⟨(gU eY).from _,Vp,⟨Hpp.out ae,by rw[He0.out,He1.out,He2.out,if_neg QW,if_neg QW,if_neg QW,Hs2.out];exact sO⟩,HBW.out.trans Vp⟩
  case done=>
   rintro Dd ys W hD' rfl ⟨⟨hp,hcx⟩,hB⟩ hK;have hws:=hB.size;have hBw:aJ w W:=hB.below hBW ae ae;obtain⟨p1,p2,p3,p4⟩:=Hp.out;obtain⟨q1,q2,q3,q4⟩:=Hq.out;obtain⟨s0,h0⟩:∃s0,s0=bs0 D (lL za zb (qx-px) (qy-py)):=⟨_,rfl⟩
   obtain⟨s1,h1⟩:∃s1,s1=bs1 D (lL za zb (qx-px) (qy-py)):=⟨_,rfl⟩
   obtain⟨s2,h2⟩:∃s2,s2=Nh D (lL za zb (qx-px) (qy-py)):=⟨_,rfl⟩
   rw[←h0,←h1,←h2]at hcx;have hfin:=abA (Hov.out.symm) (by rw[←HD.out];exact hp) s0 s1 s2 (by rw[←HD.out];exact h0) (by rw[←HD.out];exact h1) (by rw[←HD.out];exact h2);obtain⟨f0,f1,f2,f3,f4⟩:=hfin;have HF:=ah (show Ending.returned (.tuple #[.agg #[ag (cnx ra za px py rb zb qx qy),ag (cny ra za px py rb zb qx qy),ag (cdp ra za px py rb zb qx qy)],.bool (L8 ra za px py rb zb qx qy)])=.returned (.tuple #[.agg #[ag (if((qx-px)*s0+(qy-py)*s1)/1024<0 then-s0 else s0),ag (if((qx-px)*s0+(qy-py)*s1)/1024<0 then-s1 else s1),ag s2],.bool true]) by rw[f0,f1,f2,f3]);obtain⟨a1,a2,a3,a4⟩:=f4;dsimp only at a1 a2 a3 a4;have m1:=ajk (qx-px) s0 ae ae;have m2:=ajk (qy-py) s1 ae ae;obtain⟨m11,m12⟩:=m1;obtain⟨m21,m22⟩:=m2;have Hcs:=ah (uK qx qy px py ae ae ae ae);have apl:=ah (Fu (qx-px) (qy-py) s0 s1 ae ae ae ae);have Hcn:=ah (aba s0 s1 ae ae ae ae);generalize ((qx-px)*s0+(qy-py)*s1)/1024=dt at*;have k0:=hcx.c0;have k1:=hcx.c1;have k2:=hcx.c2;have kf:=hcx.f;have v0:=hB.cell ae ae u0;have v1:=hB.cell ae ae u1;have v2:=hB.cell ae ae u2;have v3:=hB.cell ae ae u3;have v4:=hB.cell ae ae u4;have v5:=hB.cell ae ae u5;have v6:=hB.cell ae ae u6;have v7:=hB.cell ae ae u7;have v8:=hB.cell ae ae u8;have v9:=hB.cell ae ae u9;have v10:=hB.cell ae ae u10;have v11:=hB.cell ae ae u11;have f4:=fun i=>hB.abt ae ae (g4 i);have f5:=fun i=>hB.abt ae ae (g5 i);have pv4:=fun V o i=>yG (b:=w.heap.size+1+1+1+1) (Dd:=Dd) ae V o i;have pv5:=fun V o i=>yG (b:=w.heap.size+1+1+1+1+1) (Dd:=Dd) ae V o i;have HK:=ah hK;have HBw:=ah hBw;clear h0 h1 h2 f0 f1 f2 f3 hp hcx hK hBw hB hct ajm HDb Hov HA HB Hp Hq HD u0 u1 u2 u3 u4 u5 u6 u7 u8 u9 u10 u11 d0 d1 d2 d3 d4 d5 d6 d7 g4 g5 m11 m12 m21 m22;refine az ?_;intro hal bu;gi_wp2;refine Qn.nA 6 aL aL aL fun NL hL=>?_;obtain⟨dU,dV,hlf⟩:=hL;(try simp only[bf]at dU);simp only[dS];repeat(go_big_quiet_step (first|(with_reducible exact aY (Hcs.out _))|(with_reducible exact aY (apl.out _))))
   (refine wpQuiet_nil ?_;intro w1 iI;obtain⟨⟨w1,aO⟩,rfl⟩:=iI;clear dV hlf dU NL;obtain⟨N1,dA,bW,eu,eF⟩:=eB aO;(try simp only[bf]at dA));have y0:=ai aO k0;have y1:=ai aO k1;have y2:=ai aO k2;have yf:∀i,w1.frozen? ⟨C,i,none⟩=false:=fun i=>(aO.frozen (p:=⟨C,i,none⟩) bU).trans (kf i);have z8:=ai aO v8;have z9:=ai aO v9;have z10:=ai aO v10;have z11:=ai aO v11;have z4:∀i,w1.frozen? ⟨w.heap.size+1+1+1+1,i,none⟩=false:=fun i=>(aO.frozen (p:=⟨w.heap.size+1+1+1+1,i,none⟩) bU).trans (f4 i);have z5:∀i,w1.frozen? ⟨w.heap.size+1+1+1+1+1,i,none⟩=false:=fun i=>(aO.frozen (p:=⟨w.heap.size+1+1+1+1+1,i,none⟩) bU).trans (f5 i);have ek:=gU aO;have afl:=HBw.out.trans (aO.mono HBw.out.size);have Nn:=ah ek;have afm:=ah afl;clear aO ek afl bW eu v0 v1 v2 v3 v4 v5 v6 v7 v8 v9 v10 v11 f4 f5 k0 k1 k2 kf;go_wp2;refine Qn.sU ?_;gi_wp2_with (((refine⟨trivial,?_⟩;with_reducible refine(callsIn_wide.2 (Hcn.out _)).mono ?_);rintro e w6 ⟨rfl,ow⟩;have x0:=ai ow y0;have x1:=ai ow y1;have x2:=ai ow y2;have xf:∀i,w6.frozen? ⟨C,i,none⟩=false:=(fun i=>(ow.frozen (p:=⟨C,i,none⟩) bU).trans (yf i));have t8:=ai ow z8;have t9:=ai ow z9;have t10:=ai ow z10;have t11:=ai ow z11;have t4:∀i,w6.frozen? ⟨w.heap.size+1+1+1+1,i,none⟩=false:=(fun i=>(ow.frozen (p:=⟨w.heap.size+1+1+1+1,i,none⟩) bU).trans (z4 i));have t5:∀i,w6.frozen? ⟨w.heap.size+1+1+1+1+1,i,none⟩=false:=(fun i=>(ow.frozen (p:=⟨w.heap.size+1+1+1+1+1,i,none⟩) bU).trans (z5 i));have Vq:=Nn.out.trans (gU ow);have afn:=afm.out.trans (ow.mono afm.out.size);have hsi:=au;have Hk6:=ah Vq;have apm:=ah afn;clear ow Vq afn y0 y1 y2 yf z8 z9 z10 z11 z4 z5))
   ·have hdt:dt<0:=fw;refine⟨av,.inl ⟨_,_,rfl,run_takeDeferred (KeepsOthers.same (W:=W) ?_ Dd _ HK.out rfl),?_⟩⟩
    ·repeat(with_reducible refine KeepsOthers.trans ?_ (KeepsOthers.setCell _ _ _))
     exact Hk6.out
    have nc4:¬(w.heap.size+1+1+1+1=C):=ae;have nc5:¬(w.heap.size+1+1+1+1+1=C):=ae;refine⟨_,by simp[results,Tryz.f114,go_sem,au,nc4,nc5,pv4,pv5,t8,t9,t10,t11];rfl,?_,?_⟩
    ·rw[HF.out,if_pos hdt,if_pos hdt]
    ·refine zm ?_ (aH _) ae _;have afn:=apm.out;exact aG
   ·have hdt:¬dt<0:=ae;refine⟨av,.inl ⟨_,_,rfl,run_takeDeferred (KeepsOthers.same (W:=W) ?_ Dd _ HK.out rfl),?_⟩⟩
    ·repeat(with_reducible refine KeepsOthers.trans ?_ (KeepsOthers.setCell _ _ _))
     exact Nn.out
    refine⟨_,by simp[results,Tryz.f114,go_sem,au,pv4,pv5,z8,z9,z10,z11];rfl,?_,?_⟩
    ·rw[HF.out,if_neg hdt,if_neg hdt]
    ·refine zm ?_ (aH _) ae _;have afl:=afm.out;exact aG
  case stop=>rintro Dd c pre W hD' hpre ⟨⟨rfl,hx,r0,r1,r2,r3⟩,hB⟩ hK;gi_wp2;have afj:=Yf hpre (by rw[←HD.out];exact hx);have pv4:=fun V o i=>yG (b:=w.heap.size+1+1+1+1) (Dd:=Dd) ae V o i;have pv5:=fun V o i=>yG (b:=w.heap.size+1+1+1+1+1) (Dd:=Dd) ae V o i;refine⟨av,.inl ⟨_,_,rfl,run_takeDeferred hK,?_⟩⟩;refine⟨_,by simp[results,Tryz.f114,go_sem,pv4,pv5,r0,r1,r2,r3];rfl,?_,zm hB (aH _) ae _⟩;simp only[cnx,cny,cdp,afj];rfl
end Co
end Go.Proofs.YtohpdonnpbjfdaaGreatDoor
