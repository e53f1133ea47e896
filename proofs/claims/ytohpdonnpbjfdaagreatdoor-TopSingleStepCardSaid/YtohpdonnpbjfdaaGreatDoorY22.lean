/- What is shown: package shape. Conditions: as each theorem states. -/
import Derived.LoopIn
import Derived.LoopNIn
import Derived.OwnWalkIn
import Derived.RangeFuncBound
import Derived.RangeFuncLeaves
import Derived.RangeFuncNested
import Derived.Shelf.Abstract
import Derived.Shelf.RegionOpen
import Derived.TacticsInMore
import Derived.Test.YtohpdonnpbjfdaaGreatDoorY8
import Derived.Test.YtohpdonnpbjfdaaGreatDoorY13
set_option maxHeartbeats 40000000
set_option maxRecDepth 100000
set_option linter.unusedVariables false
set_option linter.unusedSimpArgs false
open Go.Proofs.Tryz
namespace Go.Proofs.YtohpdonnpbjfdaaGreatDoor
theorem je {P:Prop} (h:P:=by simp[hcA,aQ,↓IntWalk.iteOmega]):P:=h
theorem gT {P:Prop} (h:P:=by rw[lZ];simp[aQ,↓IntWalk.iteOmega]):P:=h
namespace Sh
open Go.RowKit aN fO Qt Ve Go.Shelf
attribute [local go_sem] Oper.semAt_some
variable {w:World} {a:Option Addr} {cap:Nat} {zs:List (Int×Int)} {α:Type}
def vx (zs:List (Int×Int)) (i:Nat):Int:=(zs.getD i (0,0)).1
def vy (zs:List (Int×Int)) (i:Nat):Int:=(zs.getD i (0,0)).2
def qp (w:World) (a:Option Addr) (len cap:Nat) (zs:List (Int×Int)):Prop:=
 (a=none∧len=0∧cap=0∧zs=[])∨
 ∃b o,a=some ⟨b,o,none⟩∧zs.length=len∧len≤cap∧cap≤maxLen∧∀i,i<len→w.cell? ⟨b,o+i*2,none⟩=some (ag (vx zs i))∧w.cell? ⟨b,o+i*2+1,none⟩=some (ag (vy zs i))
theorem qp.len {len:Nat} (h:qp w a len cap zs):zs.length=len:=by
 rcases h with⟨_,h2,_,h4⟩|⟨b,o,_,h,_⟩
 ·rw[h4,h2];rfl
 ·exact h
theorem qp.later {W:World} {len:Nat} (h:qp w a len cap zs) (hb:aJ w W):qp W a len cap zs:=by
 rcases h with h|⟨b,o,h1,h2,h3,h4,h5⟩
 ·exact .inl h
 ·exact .inr ⟨b,o,h1,h2,h3,h4,fun i hi=>⟨ai hb (h5 i hi).1,ai hb (h5 i hi).2⟩⟩
def Bd (zs:List (Int×Int)) (B:Int):Prop:=∀i,-B≤vx zs i∧vx zs i≤B∧-B≤vy zs i∧vy zs i≤B
def XF (vx vy wx wy px py:Int):Int:=(wx-vx)*(py-vy)-(wy-vy)*(px-vx)
theorem uG (r:Int) (a:Option Addr) (cap:Nat):dZ prog 103 #[.agg #[ag r,.slice a 0 cap]] (.bool true):=by intro w;go_enter func103,ntmps103;go_wp2;go_ret;exact⟨rfl,by exact aG⟩
theorem wN (r:Int) (a:Option Addr) (len cap:Nat) (h:1≤len) (h2:len≤1000):dZ prog 103 #[.agg #[ag r,.slice a len cap]] (.bool false):=by intro w;have hb:((len:Int)==0)=false:=beq_eq_false_iff_ne.2 ae;go_enter func103,ntmps103;go_wp2;go_ret;exact⟨rfl,by exact aG⟩
theorem UU (n:Int) (w:World):Calls prog 130 #[ag n] w fun e w'=>e=.returned (.func (.func 169) #[] #[aR w.heap.size])∧w'=w.alloc (.cells #[ag n] 3):=by go_enter func130,ntmps130;go_wp2;go_ret;exact⟨rfl,rfl⟩
theorem XG (x y a b:Int) (w:World):Calls prog 131 #[.agg #[ag x,ag y],.agg #[ag a,ag b]] w fun e w'=>e=.returned (.func (.func 170) #[] #[.pointer (some ⟨w.heap.size+1,0,none⟩),aR w.heap.size])∧w'=(w.alloc (.cells #[ag x,ag y] 29)).alloc (.cells #[ag a,ag b] 29):=by go_enter func131,ntmps131;go_wp2;go_ret;exact⟨av,rfl⟩
theorem ae4 {x y a b p q:Int} (hx: -100000000≤x∧x≤100000000) (hy: -100000000≤y∧y≤100000000) (ha: -100000000≤a∧a≤100000000) (hb: -100000000≤b∧b≤100000000) (hp: -100000000≤p∧p≤100000000) (hq: -100000000≤q∧q≤100000000):
  (-40000000000000000≤(a-x)*(q-y)∧(a-x)*(q-y)≤40000000000000000)∧-40000000000000000≤(b-y)*(p-x)∧(b-y)*(p-x)≤40000000000000000:=
 ⟨d_ (A:=200000000) (B:=200000000) ae ae ae ae,d_ (A:=200000000) (B:=200000000) ae ae ae ae⟩
theorem UW (x y a b p q:Int) (B1 B2:Nat) (w:World) (c0:w.cell? ⟨B2,0,none⟩=some (ag x)) (c1:w.cell? ⟨B2,1,none⟩=some (ag y)) (c2:w.cell? ⟨B1,0,none⟩=some (ag a)) (c3:w.cell? ⟨B1,1,none⟩=some (ag b))
  (hx: -100000000≤x∧x≤100000000) (hy: -100000000≤y∧y≤100000000) (ha: -100000000≤a∧a≤100000000) (hb: -100000000≤b∧b≤100000000) (hp: -100000000≤p∧p≤100000000) (hq: -100000000≤q∧q≤100000000):
  Calls prog 170 #[.agg #[ag p,ag q],aR B1,aR B2] w fun e w'=>e=.returned (ag (XF x y a b p q))∧aJ w w':=by obtain⟨⟨m0,m1⟩,m2,m3⟩:=ae4 hx hy ha hb hp hq;obtain⟨UX,mg⟩:=hx;obtain⟨hy0,hy1⟩:=hy;obtain⟨ha0,dG⟩:=ha;obtain⟨nP,aO⟩:=hb;obtain⟨hp0,pG⟩:=hp;obtain⟨hq0,hq1⟩:=hq;have l0:=aU w _ c0;have l2:=aU w _ c2;simp only at l0 l2;refine az ?_;intro hal bu;go_enter func170,ntmps170;go_wp2;go_ret;exact⟨by unfold XF;rfl,by exact aG⟩
theorem F5 (n:Int) (h0: -32768≤n) (h1:n≤32768):dZ prog 104 #[ag n] (.bool true):=by intro w;go_enter func104,ntmps104;go_wp2;go_ret;exact⟨rfl,by exact aG⟩
abbrev Edg (m:Nat):={x:Nat×Nat//x.1<m∧x.2<m}
def edg (m:Nat) (hm:1≤m) (i:Nat):Edg m:=⟨(i%m,(i+1)%m),Nat.mod_lt _ hm,Nat.mod_lt _ hm⟩
def upto {α:Type} (f:Nat→α) (k:Nat):List α:=(List.range k).map f
theorem yB (f:Nat→α) (k:Nat):upto f (k+1)=upto f k++[f k]:=by simp[upto,List.range_succ]
theorem jf (f:Nat→α) (k:Nat):(upto f k).length=k:=by simp[upto]
theorem UY (F:Fence) (n:Nat) (hF:F.fn 169) (hro:F.round=none) (hn:1≤n) (l Bs n₀ m:Nat) (gp:1≤m) (tF:m≤1000) (hb:Bs<n₀) (J Jx:List (Edg m)→World→Prop)
  (hY:∀pre x W,J pre W→pre.length<m→YieldAt F (n-1) prog l #[ag (x.1.1:Int),ag (x.1.2:Int)] W fun e W'=>
   (e=.returned (.bool true)∧J (pre++[x]) W'∧Below n₀ W W')∨(e=.returned (.bool false)∧Jx (pre++[x]) W'))
  (W:World) (XH:W.cell? ⟨Bs,0,none⟩=some (ag (m:Int))) (h0:J [] W):
  CallsIn F n prog 169 #[.func (.yield l) #[] #[],aR Bs] W fun e W'=>(∃v,e=.returned v)∧
   ((∃ys,ys=upto (edg m gp) m∧J ys W')∨(∃pre,(∃k,k≤m∧pre=upto (edg m gp) k)∧Jx pre W')):=by
 refine callsIn_of_wp func169 rfl hF ?_ hro;simp only[ntmps169,List.size_toArray,List.length_cons,List.length_nil,Nat.reduceAdd,Nat.reduceSub,Array.replicate_succ,Array.replicate_zero,List.push_toArray,List.append_toArray,List.nil_append,List.cons_append];gi_wp2;gi_loopw [5] (fun i wr=>∃k:Nat,k≤m∧i=ag k∧J (upto (edg m gp) k) wr∧Below n₀ W wr)
  (fun i _=>m-(intOf i).toNat)
 case atStart=>exact⟨0,Nat.zero_le _,rfl,h0,aK _ _⟩
 case round=>
  obtain⟨k,hk,rfl,hJs,hnx⟩:=hrel;have hcx:wr.cell? ⟨Bs,0,none⟩=some (ag (m:Int)):=(hnx.cell (p:=⟨Bs,0,none⟩) hb).trans XH;by_cases hlt:k<m
  ·obtain⟨fn,tmps,assign,body,hy,hR⟩:=hY _ (edg m gp k) wr hJs (by rw[jf];exact hlt);have hmod:(((k+1)%m:Nat):Int)=((k:Int)+1)%(m:Int):=av;dsimp only[edg]at hy;rw[Nat.mod_eq_of_lt hlt,hmod]at hy;clear hmod;have aoT:(1:Int)≤(m:Int):=ae;have hlt':(k:Int)<(m:Int):=ae;have hm0:((m:Int)==0)=false:=beq_eq_false_iff_ne.2 ae;gi_wp2;refine hR.mono ?_;rintro e W3 (⟨rfl,LY,nG⟩|⟨rfl,EY⟩)
   ·gi_wp2;go_roundw;case rel=>exact⟨k+1,ae,av,by rw[yB];exact LY,hnx.trans nG⟩
    case measure=>simp[intOf];omega
   ·gi_wp2;refine bodyPost_ret (results_none rfl _ _ _) rfl ?_;exact⟨⟨_,rfl⟩,.inr ⟨_,⟨k+1,ae,(yB _ _).symm⟩,EY⟩⟩
  ·obtain rfl:k=m:=ae;gi_wp2;go_end0;exact⟨⟨_,rfl⟩,.inl ⟨_,rfl,hJs⟩⟩
theorem MJ (F:Fence) (n:Nat) (hF:F.fn 169) (hro:F.round=none) (hn:1≤n) (Bs n₀ m:Nat) (gp:1≤m) (tF:m≤1000) (w:World) (XH:Bs<w.heap.size) (hb:Bs<n₀)
  (hc:w.cell? ⟨Bs,0,none⟩=some (ag (m:Int))):
  SeqStopsK F n prog 169 #[aR Bs] (fun x:Edg m=>#[Value.int .i64 (x.1.1:Int),Value.int .i64 (x.1.2:Int)]) (Below n₀) (fun ys=>ys=upto (edg m gp) m)
   (fun pre=>∃k,k≤m∧pre=upto (edg m gp) k) m w:=fun l J Jx W hW _ _ hY h0=>
 UY F n hF hro hn l Bs n₀ m gp tF hb J Jx hY W ((hW.cell (p:=⟨Bs,0,none⟩) XH).trans hc) h0
theorem gU {W W':World} (h:aJ W W'):KeepsOthers W W':=⟨h.size,fun k o hk _=>(h.block k (Array.getElem?_eq_some_iff.1 hk).1).trans hk⟩
variable {zs:List (Int×Int)} {i j:Nat}
def KA (zs:List (Int×Int)) (i j:Nat):Bool:=decide (0<XF (vx zs i) (vy zs i) (vx zs j) (vy zs j) 0 0)&&(List.range zs.length).all fun k=>decide (k=i)||decide (k=j)||decide (0<XF (vx zs i) (vy zs i) (vx zs j) (vy zs j) (vx zs k) (vy zs k))
def cvx (zs:List (Int×Int)):Bool:=(List.range zs.length).all fun i=>KA zs i ((i+1)%zs.length)
theorem UT (h0:0<XF (vx zs i) (vy zs i) (vx zs j) (vy zs j) 0 0) (h:∀k,k<zs.length→k≠i→k≠j→0<XF (vx zs i) (vy zs i) (vx zs j) (vy zs j) (vx zs k) (vy zs k)):KA zs i j=true:=by
 unfold KA;rw[Bool.and_eq_true,List.all_eq_true];refine⟨by simpa using h0,fun k hk=>?_⟩;have hk':=List.mem_range.1 hk;by_cases h1:k=i
 ·simp[h1]
 ·by_cases h2:k=j
  ·simp[h2]
  ·simp[h k hk' h1 h2]
theorem MH (h0:XF (vx zs i) (vy zs i) (vx zs j) (vy zs j) 0 0≤0):KA zs i j=false:=by unfold KA;rw[show decide (0<XF (vx zs i) (vy zs i) (vx zs j) (vy zs j) 0 0)=false by simpa using h0];rfl
theorem MI {k:Nat} (hk:k<zs.length) (h1:k≠i) (h2:k≠j) (h:XF (vx zs i) (vy zs i) (vx zs j) (vy zs j) (vx zs k) (vy zs k)≤0):KA zs i j=false:=by
 unfold KA;have:(List.range zs.length).all (fun k=>decide (k=i)||decide (k=j)||decide (0<XF (vx zs i) (vy zs i) (vx zs j) (vy zs j) (vx zs k) (vy zs k)))=false:=by rw[List.all_eq_false];exact⟨k,List.mem_range.2 hk,by simp[h1,h2];omega⟩
 rw[this,Bool.and_false]
theorem Kz (a:Option Addr) (len cap:Nat) (zs:List (Int×Int)) (w:World) (h:qp w a len cap zs) (h1:1≤len) (h2:len≤1000) (hz:Bd zs 50000):
  Calls prog 105 #[.slice a len cap] w fun e w'=>e=.returned (.bool (cvx zs))∧aJ w w':=by
 refine(callsIn_wide (n:=5)).1 ?_;refine callsIn_of_wp_marks func105 rfl trivial ?_ rfl;simp only[ntmps105,List.size_toArray,List.length_cons,List.length_nil,Nat.reduceAdd,Nat.reduceSub,Array.replicate_succ,Array.replicate_zero,List.push_toArray,List.append_toArray,List.nil_append,List.cons_append];refine az ?_;intro hal bu;gi_wp2_with (first|((refine⟨trivial,?_⟩;gi_at_call 130;refine(callsIn_wide.2 (UU _ _)).mono ?_);rintro e w1 ⟨rfl,rfl⟩));rcases h with⟨_,h0,_⟩|⟨b,o,rfl,hzl,dV,hcm,hcell⟩
 ·omega
 unfold maxLen at hcm;obtain⟨W0,lZ⟩:∃W0,W0=((w.alloc (.cells #[.slice (some ⟨b,o,none⟩) len cap] 120)).alloc (.cells #[.bool false] 4)).alloc (.cells #[ag (len:Int)] 3):=⟨_,rfl⟩
 have hsz:W0.heap.size=w.heap.size+1+1+1:=by rw[lZ];simp
 have W_:aJ w W0:=by rw[lZ];exact aG
 have e1:W0.cell? ⟨w.heap.size+1+1,0,none⟩=some (ag (len:Int)):=gT;have eS:W0.cell? ⟨w.heap.size,0,none⟩=some (.slice (some ⟨b,o,none⟩) len cap):=gT;have eR:W0.cell? ⟨w.heap.size+1,0,none⟩=some (.bool false):=gT;have fR:W0.frozen? ⟨w.heap.size+1,0,none⟩=false:=by rw[lZ];simp[dL,↓IntWalk.iteOmega]
 rw[←lZ];clear hal bu lZ;refine' wpIn_rangeFunc_ownF rfl bL (gf:=169) (lb:=#[.pointer (some ⟨w.heap.size+1+1,0,none⟩)]) rfl trivial (enters_of func169 aL rfl)
  (MJ Fence.wide 4 trivial rfl bL (w.heap.size+1+1) W0.heap.size len h1 h2 _ ae ae e1) belowK_t (belowK_b (aH _)) (aK _ _) (fun _=>rfl)
  (fun pre W=>(∀e∈pre,KA zs e.1.1 e.1.2=true)∧aJ W0 W)
  (fun c pre W=>(c=.ret∧(∃e∈pre,KA zs e.1.1 e.1.2=false)∧W.cell? ⟨w.heap.size+1,0,none⟩=some (.bool false))∧aJ w W)
  (OwnFrom.and (ownFrom_pure _ _) (ownFrom_below (aH _) (aH _)))
  (fun c=>OwnFrom.and (Own.from (fun s A B row hs hg hr=>⟨hs.1,hs.2.1,cell_kept hs.2.2 hg hr⟩) _) (ownFrom_below (aH _) W_.size))
  ⟨av,aK _ _⟩
  _ ?assign ?body ?done ?stop
 case assign=>intro l x W K hK;gi_wp2;exact hK
 case body=>
  rintro l pre ⟨⟨i,j⟩,hi,hj⟩ W ⟨hp,hB⟩ _;dsimp only at hi hj⊢;have hBw:aJ w W:=W_.trans (hB.mono W_.size);have u0:=ai hB eS;have v0:=ai hBw (hcell i hi).1;have v1:=ai hBw (hcell i hi).2;have v2:=ai hBw (hcell j hj).1;have v3:=ai hBw (hcell j hj).2;have hiI:(i:Int)<(len:Int):=ae;have UL:(j:Int)<(len:Int):=ae;have o9:(0:Int)≤(i:Int):=ae;have hj0:(0:Int)≤(j:Int):=ae;have hWs:=hB.size;have lb:=aU w _ (hcell i hi).1;simp only at lb;gi_wp2;refine EW [0,1,2,3,4,5,6,7] [8,9] aL aL aL fun NL hL=>?_;obtain⟨dU,dV,hlf⟩:=hL;simp only[jA];repeat(go_big_quiet_step (fail))
  refine wpQuiet_nil ?_;clear dV hlf dU u0 v0 v1 v2 v3;refine yM (f:=131) (args:=#[.agg #[ag (vx zs i),ag (vy zs i)],.agg #[ag (vx zs j),ag (vy zs j)]]) (w1:=W.drew) rfl bO (XG _ _ _ _ _) ?_;rintro e1 w1' ⟨rfl,rfl⟩;obtain⟨W4,Iq⟩:∃W4,W4=(W.drew.alloc (.cells #[ag (vx zs i),ag (vy zs i)] 29)).alloc (.cells #[ag (vx zs j),ag (vy zs j)] 29):=⟨_,rfl⟩
  have lY:aJ W W4:=by rw[Iq];exact aG
  have c0:W4.cell? ⟨W.heap.size,0,none⟩=some (ag (vx zs i)):=by rw[Iq];simp[aQ]
  have c1:W4.cell? ⟨W.heap.size,1,none⟩=some (ag (vy zs i)):=by rw[Iq];simp[aQ]
  have c2:W4.cell? ⟨W.heap.size+1,0,none⟩=some (ag (vx zs j)):=by rw[Iq];simp[aQ]
  have c3:W4.cell? ⟨W.heap.size+1,1,none⟩=some (ag (vy zs j)):=by rw[Iq];simp[aQ]
  rw[←Iq];clear Iq;refine⟨_,rfl,⟨⟨W4,lY⟩,rfl⟩,?_⟩;simp only[Act.put,dH];refine di (v:=.func (.func 170) #[] #[.pointer (some ⟨W.heap.size+1,0,none⟩),aR W.heap.size]) (w1:=W4) rfl bO ⟨⟨W4,lY⟩,rfl⟩ ?_;simp only[Act.put,dH];refine fT ?_;obtain⟨q,hq⟩:∃q:Int→Int→Int,q=fun x y=>XF (vx zs i) (vy zs i) (vx zs j) (vy zs j) x y:=⟨_,rfl⟩
  have bi:=hz i;have bj:=hz j;have hcall:∀(x y:Int) (W':World),aJ W4 W'→-100000000≤x∧x≤100000000→-100000000≤y∧y≤100000000→Calls prog 170 #[.agg #[ag x,ag y],.pointer (some ⟨W.heap.size+1,0,none⟩),aR W.heap.size] W' fun e w'=>e=.returned (ag (q x y))∧aJ W' w':=by intro x y W' hb hx hy;rw[hq];exact UW (vx zs i) (vy zs i) (vx zs j) (vy zs j) x y _ _ W' (ai hb c0) (ai hb c1) (ai hb c2) (ai hb c3) ae ae ae ae hx hy
  have aoR:=ah (hcall 0 0 W4 (aK _ _) ae ae);have HQ:=ah hq;have aiX:=ah hcall;clear hq hcall c0 c1 c2 c3 bi bj;have eR4:=ai lY (ai hB eR);have lR4:=aU _ _ eR4;have fR4:W4.frozen? ⟨w.heap.size+1,0,none⟩=false:=(lY.frozen (p:=⟨w.heap.size+1,0,none⟩) bU).trans ((hB.frozen (p:=⟨w.heap.size+1,0,none⟩) bU).trans fR);have eS4:=ai lY (ai hB eS);simp only at lR4;gi_wp2_with (((refine⟨trivial,?_⟩;with_reducible refine(CallsIn.inRound l (callsIn_wide.2 aoR.out)).mono ?_);rintro e w5 ⟨rfl,eY⟩;have eR5:=ai eY eR4;have fR5:w5.frozen? ⟨w.heap.size+1,0,none⟩=false:=((eY.frozen (p:=⟨w.heap.size+1,0,none⟩) lR4).trans fR4);have eS5:=ai eY eS4))
  ·have hneg:q 0 0≤0:=fw;rw[HQ.out]at hneg;have QA:=lY.trans (eY.mono lY.size);exact⟨(gU QA).trans (KeepsOthers.setCell _ _ _),⟨rfl,⟨_,h_.2 (.inr (uH.2 rfl)),MH hneg⟩,World.cell?_setCell_same' _ _ _ (by rw[eR5];rfl)⟩,(hBw.trans (QA.mono hBw.size)).setCell (p:=⟨w.heap.size+1,0,none⟩) av _⟩
  have hpos:0<q 0 0:=fw;have QA:=lY.trans (eY.mono lY.size);have l5:=QA.size;gi_loopw [28] (fun i28 wr=>∃k:Nat,k≤len∧i28=ag (k:Int)∧(∀k',k'<k→k'≠i→k'≠j→0<q (vx zs k') (vy zs k'))∧aJ w5 wr)
   (fun i28 _=>len-(intOf i28).toNat)
  case atStart=>exact⟨0,Nat.zero_le _,rfl,by intro k' hk';omega,aK _ _⟩
  case round=>
   obtain⟨k,hk,rfl,hks,hnx⟩:=hrel;have lr:=hnx.size;by_cases hlt:k<len
   ·have hB6:aJ w wr:=hBw.trans ((QA.trans (hnx.mono l5)).mono hBw.size);have v0:=ai hB6 (hcell k hlt).1;have v1:=ai hB6 (hcell k hlt).2;have pg:(k:Int)<(len:Int):=ae;have Fq:(0:Int)≤(k:Int):=ae;have eR6:=ai hnx eR5;have fR6:wr.frozen? ⟨w.heap.size+1,0,none⟩=false:=((hnx.frozen (p:=⟨w.heap.size+1,0,none⟩) bU).trans fR5)
    have bk:=hz k;have hsk:∀W':World,aJ wr W'→(k≠i→k≠j→0<q (vx zs k) (vy zs k))→(∀k',k'<k+1→k'≠i→k'≠j→0<q (vx zs k') (vy zs k'))∧aJ w5 W':=by
     intro W' hW' hq';refine⟨fun k' hk' h1' h2'=>?_,hnx.trans (hW'.mono lr)⟩;by_cases he:k'=k
     ·rw[he]at h1' h2'⊢;exact hq' h1' h2'
     ·exact hks k' ae h1' h2'
    by_cases hki:k=i
    ·have b1:((k:Int) !=(i:Int))=false:=by rw[hki];simp
     have aa3:=ah hki;clear hki;gi_wp2;refine⟨fun _ h=>(by cases h),?_⟩;gi_wp2;go_roundw;case rel=>exact⟨k+1,ae,av,hsk _ aG (fun h=>absurd aa3.out h)⟩
     case measure=>simp[intOf];omega
    ·by_cases hkj:k=j
     ·have b1:((k:Int) !=(i:Int))=true:=bU;have b2:((k:Int) !=(j:Int))=false:=by rw[hkj];simp
      have aa3:=ah hki;have ae3:=ah hkj;clear hki hkj;gi_wp2;refine⟨fun _ h=>(by cases h),?_⟩;gi_wp2;go_roundw;case rel=>exact⟨k+1,ae,av,hsk _ aG (fun _ h=>absurd ae3.out h)⟩
      case measure=>simp[intOf];omega
     ·have b1:((k:Int) !=(i:Int))=true:=bU;have b2:((k:Int) !=(j:Int))=true:=bU;have hbW:aJ W4 wr:=eY.trans (hnx.mono eY.size);have aa3:=ah hki;have ae3:=ah hkj;clear hki hkj;gi_wp2_with (((refine⟨trivial,?_⟩;with_reducible refine(CallsIn.inRound l (callsIn_wide.2 (aiX.out (vx zs k) (vy zs k) _ (hbW.trans (Below.mono aG hbW.size)) ae ae))).mono ?_);rintro e w7 ⟨rfl,zP⟩;have hb8:aJ wr w7:=Below.trans aG (zP.mono av);clear zP;have eR7:=ai hb8 eR6;have fR7:w7.frozen? ⟨w.heap.size+1,0,none⟩=false:=((hb8.frozen (p:=⟨w.heap.size+1,0,none⟩) bU).trans fR6)))
      ·have hneg:q (vx zs k) (vy zs k)≤0:=fw;rw[HQ.out]at hneg;have Cn:aJ W w7:=QA.trans ((hnx.trans (hb8.mono lr)).mono l5);exact⟨(gU Cn).trans (KeepsOthers.setCell _ _ _),⟨rfl,⟨_,h_.2 (.inr (uH.2 rfl)),MI ae aa3.out ae3.out hneg⟩,World.cell?_setCell_same' _ _ _ (by rw[eR7];rfl)⟩,(hBw.trans (Cn.mono hBw.size)).setCell (p:=⟨w.heap.size+1,0,none⟩) av _⟩
      ·have hps:0<q (vx zs k) (vy zs k):=fw;exact⟨⟨k+1,ae,av,hsk _ hb8 (fun _ _=>hps)⟩,by simp[intOf];omega⟩
   ·obtain rfl:k=len:=ae;gi_wp2;have Cn:aJ W wr:=QA.trans (hnx.mono l5);refine⟨gU Cn,Cn.mono hWs,fun e he=>(h_.1 he).elim (hp e) (fun h=>by rw[List.mem_singleton.1 h];exact UT (by rw[HQ.out]at hpos;exact hpos) (fun k' h1' h2' h3'=>by have:=hks k' ae h2' h3';rw[HQ.out]at this;exact this)),hB.trans (Cn.mono hWs)⟩
 case done=>
  rintro D ys W hD rfl ⟨hp,hB⟩ hK;have uR:=ai hB eR;have gR:=(hB.frozen (p:=⟨w.heap.size+1,0,none⟩) bU).trans fR;gi_wp2;have hK':=(KeepsOthers.setCell W ⟨w.heap.size+1,0,none⟩ (.bool true)).same D _ hK rfl;refine⟨av,.inl ⟨_,_,rfl,run_takeDeferred hK',?_⟩⟩;have sO:=cell_kept (World.cell?_setCell_same' W ⟨w.heap.size+1,0,none⟩ (.bool true) (by rw[uR];rfl)) (grownBy_putObj' _ D (.deferred none)) (fun r e=>by cases e;exact⟨_,hK',rfl⟩);have hcv:cvx zs=true:=by unfold cvx;rw[List.all_eq_true];intro i hi;rw[List.mem_range,hzl]at hi;have:=hp (edg len h1 i) (by unfold upto;exact List.mem_map.2 ⟨i,List.mem_range.2 hi,rfl⟩);simp only[edg,Nat.mod_eq_of_lt hi]at this;rw[hzl];exact this
  have hBw:aJ w W:=W_.trans (hB.mono W_.size);refine⟨.bool true,?_,by rw[hcv],(hBw.setCell (p:=⟨w.heap.size+1,0,none⟩) av _).trans (belowK_b (w:=w) (aH _) _ D _ _ (by have:=W_.size;omega) hK' rfl rfl)⟩;simp[results,Tryz.f105,go_sem,sO]
 case stop=>
  rintro D c pre W hD ⟨k,hk,rfl⟩ ⟨⟨rfl,hx,hc⟩,hB⟩ hK;gi_wp2;refine⟨av,.inl ⟨_,_,rfl,run_takeDeferred hK,?_⟩⟩;have sO:=cell_kept hc (grownBy_putObj' _ D (.deferred none)) (fun r e=>by cases e;exact⟨_,hK,rfl⟩);have hcv:cvx zs=false:=by
   unfold cvx;rw[List.all_eq_false];obtain⟨e,he,hn⟩:=hx;unfold upto at he;obtain⟨i,hi,rfl⟩:=List.mem_map.1 he;have hi':i<len:=by have:=List.mem_range.1 hi;omega
   simp only[edg,Nat.mod_eq_of_lt hi']at hn;exact⟨i,List.mem_range.2 ae,by rw[hzl,hn];decide⟩
  refine⟨.bool false,?_,by rw[hcv],hB.trans (belowK_b (w:=w) (aH _) W D _ _ (by have:=W_.size;omega) hK rfl rfl)⟩;simp[results,Tryz.f105,go_sem,sO]
theorem EX (r:Int) (a:Option Addr) (cap:Nat) (hr:1≤r∧r≤32768):
  dZ prog 61 #[.agg #[ag r,.slice a 0 cap]] (ag 0):=by intro w;have MG:=ah (uG r a cap);obtain⟨h0,h1⟩:=hr;refine az ?_;intro hal bu;have cZ:=au;go_enter func61,ntmps61;go_wp2_with (first|((with_reducible refine(MG.out _).mono ?_);refine df ?_;intro wA kY NA F4 hcA hfA hsA));go_ret;exact⟨rfl,by exact aG⟩
theorem IG (a:Option Addr) (len cap:Nat) (zs:List (Int×Int)) (w:World) (h:qp w a len cap zs) (h1:3≤len) (h2:len≤6) (hz:Bd zs 32768):
  Calls prog 61 #[.agg #[ag 0,.slice a len cap]] w fun e w'=>e=.returned (ag (if cvx zs then 0 else 10))∧aJ w w':=by
 have MG:=ah (wN 0 a len cap ae ae);have cx:=fun(i:Nat)=>F5 (vx zs i) (hz i).1 (hz i).2.1;have cy:=fun(i:Nat)=>F5 (vy zs i) (hz i).2.2.1 (hz i).2.2.2;have cv:=fun(W:World) (hW:aJ w W)=>Kz a len cap zs W (h.later hW) ae ae (fun i=>by have:=hz i;omega);obtain⟨c,hc⟩:∃c,c=cvx zs:=⟨_,rfl⟩
 rw[←hc]at cv⊢;clear hc;rcases h with⟨_,h0,_⟩|⟨b,o,rfl,hzl,hle,hcm,hcell⟩
 ·omega
 unfold maxLen at hcm;have lb:=aU w _ (hcell 0 ae).1;simp only at lb;have Hcx:=ah cx;have Hcy:=ah cy;have Hcv:=ah cv;clear cx cy cv;have g1:((len:Int)<3)=False:=bU;have g2:(6<(len:Int))=False:=bU;refine az ?_;intro hal bu;go_enter func61,ntmps61;go_wp2_with (first|((with_reducible refine(MG.out _).mono ?_);refine df ?_;intro wA kY NA F4 hcA hfA hsA));have st0:aJ w wA:=eG;have q0:wA.cell? ⟨w.heap.size,0,none⟩=some (ag 0):=je;have q1:wA.cell? ⟨w.heap.size,1,none⟩=some (.slice (some ⟨b,o,none⟩) len cap):=je;clear hcA hfA hsA F4 kY hal bu MG;go_wp2;go_loopw [33] (fun i wr=>∃k:Nat,k≤len∧i=ag k∧aJ wA wr)
  (fun i _=>len-(intOf i).toNat)
 case atStart=>exact⟨0,Nat.zero_le _,rfl,aK _ _⟩
 case round=>
  obtain⟨k,hk,rfl,hB⟩:=hrel;have hws:=hB.size;have hww:=st0.size;have r1:=ai hB q1;by_cases hlt:k<len
  ·have v0:=ai (st0.trans (hB.mono hww)) (hcell k hlt).1;have v1:=ai (st0.trans (hB.mono hww)) (hcell k hlt).2;have cx:=Hcx.out k;have cy:=Hcy.out k;have hlI:(k:Int)<(len:Int):=ae;have Hcx:=ah cx;have Hcy:=ah cy;clear cx cy;refine az ?_;intro hal bu;go_wp2_with (first|((with_reducible refine(Hcx.out _).mono ?_);refine df ?_;intro wB Io NB XE hcB hfB hsB)|((with_reducible refine(Hcy.out _).mono ?_);refine df ?_;intro wC hbC NC hNC hcC hfC hsC));go_roundw;case rel=>exact⟨k+1,ae,by go_num,hB.trans aG⟩
   case measure=>simp[intOf];omega
  ·obtain rfl:k=len:=ae;have cv:=Hcv.out wr (st0.trans (hB.mono hww));have Hcv:=ah cv;clear cv;cases c
   ·go_wp2_with (((with_reducible refine(Hcv.out).mono ?_);rintro e wD ⟨rfl,hbD⟩));go_ret;exact⟨rfl,(st0.trans (hB.mono hww)).trans (hbD.mono ae)⟩
   ·go_wp2_with (((with_reducible refine(Hcv.out).mono ?_);rintro e wD ⟨rfl,hbD⟩));go_ret;exact⟨rfl,(st0.trans (hB.mono hww)).trans (hbD.mono ae)⟩
end Sh
end Go.Proofs.YtohpdonnpbjfdaaGreatDoor
