/- What is shown: package merkle. Conditions: as each theorem states. -/
import Derived.Laws.CopyOwn
import Derived.Test.YtohpdonnpbjfdaaGreatDoorY31
set_option maxHeartbeats 40000000
set_option maxRecDepth 100000
set_option linter.unusedVariables false
set_option linter.unusedSimpArgs false
open Go.Proofs.Tryz
namespace Go.Proofs.YtohpdonnpbjfdaaGreatDoor
namespace Me
open Go.RowKit aN fO Qt Ro Bk Co Ha
attribute [local go_sem] Oper.semAt_some
variable {w:World} {b cap:Nat} {c:List Int}
def hgt (n:Nat):Nat:=Lib.bitLen (n-1)
theorem afr (n:Nat) (h2:2≤n) (h3:n≤1000):n≤2^hgt n∧1≤hgt n∧hgt n≤10:=by have hb:=Lib.bitLenAux_bounds 64 (n-1) ae ae;have hl:=Lib.bitLen_le (n-1) 10 ae ae;unfold hgt;refine⟨?_,hb.1,hl⟩;have:=hb.2.2;rw[show Lib.bitLenAux 64 (n-1)=Lib.bitLen (n-1)from rfl]at this;omega
theorem QY (n:Nat) (w:World) (h2:2≤n) (h3:n≤1000):Calls prog 89 #[ag n] w fun e w'=>e=.returned (ag (hgt n))∧w'=w:=by have hb:=bits_Len ((n:Int)-1) w ae ae;have e:((n:Int)-1).toNat=n-1:=ae;rw[e]at hb;have hn:¬((n:Int)≤1):=ae;unfold hgt;generalize Lib.bitLen (n-1)=h at*;have LZ:=ah hb;clear hb;go_enter func89,ntmps89;go_wp2_with ((refine LZ.out.mono ?_);rintro e w' ⟨rfl,rfl⟩);go_ret;exact⟨rfl,rfl⟩
theorem Tryz.XB:(prog.info? 3).map (fun i=>(i.zero,i.size,i.bytes))=some (some (ag 0),1,8):=aL
theorem Tryz.ajx:(prog.info? 48).map (fun i=>(i.zero,i.size,i.bytes))=some (some (.int .u64 0),1,8):=aL
theorem run_mk {k:IntKind} {t e:TypeId} {i:TypeInfo} (h1:prog.underlying t=some (.slice e)) (h2:prog.info? e=some i) (h3:i.zero=some (.int k 0)) (h4:i.size=1) (h5:i.bytes=8) (n:Nat) (hn:n≤1000000) (W:World):
  Sem.run prog (Instr.makeSlice t (ag n) (ag n)) W=.ok (aZ W.heap.size n n) (W.alloc (.cells (madeCells #[.int k 0] n) e)):=by have:=run_make (P:=prog) W t e i (.int k 0) h1 h2 h3 .i64 .i64 n n ae (Int.le_refl _) (by rw[h5];omega) ae;simpa[h4,Value.cells]using this
theorem afs (g:Nat) (h0:1≤g) (h:g≤10):2≤2^g∧2^g≤1024:=by rcases(show g=1∨g=2∨g=3∨g=4∨g=5∨g=6∨g=7∨g=8∨g=9∨g=10 from ae)with h|h|h|h|h|h|h|h|h|h<;>subst h<;>decide
theorem Yu (g:Nat) (h:g≤10):wrap64 (2^g)=((2^g:Nat):Int):=by have e:(2:Int)^g=((2^g:Nat):Int):=av;have b:2^g≤1024:=Nat.pow_le_pow_right (n:=2) bL h;rw[e];generalize 2^g=x at b;unfold wrap64;omega
def emf:Int:=Vl QU []
def L1 (c:List Int) (s:Nat):Nat→List Int
 |0=>List.replicate (2*s) 0
 |k+1=>(L1 c s k).set (s+k) (lff k (c.getD k 0))
def L2 (c:List Int) (s:Nat):Nat→List Int
 |0=>L1 c s c.length
 |k+1=>(L2 c s k).set (s+(c.length+k)) emf
def L3 (N:List Int) (s:Nat):Nat→List Int
 |0=>N
 |j+1=>(L3 N s j).set (s-1-j) (prf ((L3 N s j).getD (2*(s-1-j)) 0) ((L3 N s j).getD (2*(s-1-j)+1) 0))
theorem JB (c:List Int) (s k:Nat):(L1 c s k).length=2*s:=by induction k<;>simp_all [L1]
theorem A8 (c:List Int) (s k:Nat):(L2 c s k).length=2*s:=by induction k<;>simp_all [L2,JB]
theorem JC (N:List Int) (s k:Nat):(L3 N s k).length=N.length:=by induction k<;>simp_all [L3]
def Ka (c:List Int):Int:=(L3 (L2 c (2^hgt c.length) (2^hgt c.length-c.length)) (2^hgt c.length) (2^hgt c.length-1)).getD 1 0
def Yv (W:World) (g n m:Nat) (bT bC bN:Nat) (wx:World):Prop:=
 aV wx bT [ag g,aZ bC n n,aZ bN m m]∧(∃cur:Array Value,wx.heap[bC]?=some (.cells cur 3 (0,0))∧cur.size=n)∧Row .u64 wx bN (List.replicate m 0)∧(W.heap.size≤bT∧W.heap.size≤bC∧W.heap.size≤bN)∧(bT≠bC∧bT≠bN∧bC≠bN)∧aJ W wx
theorem abH (W:World) (g n m:Nat):Yv W g n m (W.heap.size+1+1) (W.heap.size+1) W.heap.size (((W.alloc (.cells (madeCells #[.int .u64 0] m) 48)).alloc (.cells (madeCells #[ag 0] n) 3)).alloc (.cells #[ag g,.slice (some ⟨W.heap.size+1,0,none⟩) n n,aZ W.heap.size m m] 174)).drew:=by
 refine⟨?_,⟨madeCells #[ag 0] n,?_,size_madeCells _ _⟩,?_,⟨ae,ae,ae⟩,⟨ae,ae,ae⟩,?_⟩
 ·exact(aV.new _ _ _ _ av).drew
 ·refine(gV _ _ _ av).trans ?_;have:=World.alloc_heap_new (W.alloc (.cells (madeCells #[.int .u64 0] m) 48)) (.cells (madeCells #[ag 0] n) 3);simpa using this
 ·exact(((Gb .u64 W m 48).alloc _).alloc _).drew
 ·exact aG
theorem abI (W:World) (g n m:Nat):Yv W g n m (W.heap.size+1+1) W.heap.size (W.heap.size+1) (((W.alloc (.cells (madeCells #[ag 0] n) 3)).alloc (.cells (madeCells #[.int .u64 0] m) 48)).alloc (.cells #[ag g,aZ W.heap.size n n,.slice (some ⟨W.heap.size+1,0,none⟩) m m] 174)).drew:=by
 refine⟨?_,⟨madeCells #[ag 0] n,?_,size_madeCells _ _⟩,?_,⟨ae,ae,ae⟩,⟨ae,ae,ae⟩,?_⟩
 ·exact(aV.new _ _ _ _ av).drew
 ·refine(gV _ _ _ bU).trans ((gV _ _ _ av).trans ?_);exact World.alloc_heap_new W _
 ·have:=Gb .u64 (W.alloc (.cells (madeCells #[ag 0] n) 3)) m 48;simp only[World.size_alloc]at this;exact(this.alloc _).drew
 ·exact aG
theorem sum_nil (s:ByteArray) (gp:1≤s.size) (tF:s.size≤8) (w:World):
  Calls prog 91 #[.string s,.slice none 0 0] w fun e w'=>e=.returned (.int .u64 (Vl s []))∧aJ w w':=by
 have LZ:=ah fun V=>qa s 0 gp tF V;have TC:=ah fun a b V=>Fx a b V;have e:Vl s []=uT (bgf s 0) 0:=rfl;rw[e];generalize bgf s 0=g at*;go_enter func91,ntmps91;go_wp2_with (with_reducible refine(LZ.out _).mono ?_;refine df ?_;intro w1 aO N1 dA bW eu eF);clear bW eu;go_loopw [5,14] (fun u i wr=>i=ag 0∧u=.int .u64 g∧wr=w1) (fun _ i _=>0);case atStart=>exact⟨rfl,rfl,rfl⟩
 case round=>obtain⟨rfl,rfl,rfl⟩:=hrel;go_wp2_with ((with_reducible refine(TC.out _ _ _).mono ?_);rintro e w2 ⟨rfl,rfl⟩);go_ret;exact⟨rfl,aO⟩
theorem uw (h:Row .i64 w b c) (h2:2≤c.length) (h3:c.length≤1000):
  Calls prog 48 #[aZ b c.length cap] w fun e w'=>∃bT bN l1 l2 v0 v1 m N,e=.returned (aR bT)∧aV w' bT [v0,v1,aZ bN m m]∧Row .u64 w' bN N∧N.length=m∧2≤m∧N.getD 1 0=Ka c∧m≤10000∧l1=0∧l2=0∧aJ w w':=by
 obtain⟨n,hn⟩:∃n,n=c.length:=⟨_,rfl⟩
 rw[←hn]at h2 h3⊢;have hh:=fun V=>QY n V h2 h3;obtain⟨b1,b2,b3⟩:=afr n h2 h3;have Hn:=ah hn;have Hh:=ah h;obtain⟨g,hg⟩:∃g,g=hgt n:=⟨_,rfl⟩
 have Hg:=ah hg;rw[←hg]at hh b1 b2 b3;obtain⟨s1,s2⟩:=afs g b2 b3;have hp:=Yu g b3;obtain⟨s,hs⟩:∃s,s=2^g:=⟨_,rfl⟩
 rw[←hs]at b1 s1 s2 hp;have Hs:=ah hs;obtain⟨i0,hii,sN,nk,nD⟩:=info_parts Tryz.XB;obtain⟨i1,ajy,hz0',hz1',hz2'⟩:=info_parts Tryz.ajx;have hsz:(prog.info? 3).map (·.size)=some 1:=by rw[hii];simp[nk]
 have Hsz:=ah hsz;have mk1:=run_mk underlying22 hii sN nk nD n ae;have mk2:=run_mk underlying172 ajy hz0' hz1' hz2' (2*s) ae;have e2:((2*s:Nat):Int)=2*(s:Int):=ae;rw[e2]at mk2;have P9:=ah hh;clear hh;clear hn h hg hs e2 hii sN nk nD ajy hz0' hz1' hz2' i0 i1 hsz;go_enter func48,ntmps48;go_upto_region 3 with((refine(P9.out _).mono ?_);rintro e w' ⟨rfl,rfl⟩);go_cut [5] (fun s5 wx=>∃bT bC bN,s5=aR bT∧Yv w' g n (2*s) bT bC bN wx);case first=>
  go_region;all_goals
   go_wp2
   go_meet
   first
    |exact⟨_,_,_,rfl,abH _ _ _ _⟩
    |exact⟨_,_,_,rfl,abI _ _ _ _⟩
 case rest=>
  obtain⟨bT,bC,bN,rfl,hT,⟨cur,ajz,hcs⟩,hN,⟨l1,l2,l3⟩,⟨d1,d2,d3⟩,hB⟩:=hcut;rw[hp];have apz:=ah fun a b V=>Yd a b V;have apA:=ah fun a b V=>Yc a b V;have c0:=fun i hi=>(Hh.out.below hB Hh.out.lt).cells i hi;have Hc0:=ah c0;have cT:=hT.cell;have HT:=ah hT;have HN:=ah hN;have HB:=ah hB;clear c0 hT hN hB mk1 mk2 P9 hp;have hcp:=run_copy_row (P:=prog) wc 22 22 3 3 bC 0 n n ⟨b,0,none⟩ n cap cur 3 (c.map (Value.int .i64)) underlying22 Hsz.out ajz (by rw[List.length_map,←Hn.out];exact(Nat.min_self n).symm) (by
   intro j v hv;rw[List.getElem?_map,Option.map_eq_some_iff]at hv;obtain⟨x,hx,rfl⟩:=hv;obtain⟨hj,rfl⟩:=List.getElem?_eq_some_iff.1 hx;have:=Hc0.out j hj;rw[List.getD_eq_getElem?_getD,List.getElem?_eq_getElem hj]at this;have e:(⟨b,0,none⟩:Addr).add j=⟨b,j,none⟩:=by unfold Addr.add;split<;>simp_all
   rw[e];exact this) (by rw[List.length_map,←Hn.out];omega) (by intro v hv;obtain⟨x,_,rfl⟩:=List.mem_map.1 hv;rfl)
  obtain⟨w4,hw4⟩:∃X,X=wc.setRow bC (cur.toList.take 0++c.map (Value.int .i64)++cur.toList.drop (0+(c.map (Value.int .i64)).length)).toArray:=⟨_,rfl⟩
  rw[←hw4]at hcp;have ho:∀k,k≠bC→w4.heap[k]?=wc.heap[k]?:=fun k hk=>by rw[hw4];exact setRow_other _ _ _ _ hk
  have Im:w4.heap.size=wc.heap.size:=by rw[hw4];simp[World.setRow]
  have hB4:aJ w' w4:=by rw[hw4];exact below_setRow HB.out l2 _
  have hT4:=HT.out.keep (w':=w4) ae (ho _ d1);have BG:=HN.out.keep (w':=w4) ae (ho _ (Ne.symm d3));have HT4:=ah hT4;have HN4:=ah BG;have HB4:=ah hB4;clear hT4 BG hB4 HT HN HB ho Im hw4 ajz hcs Hsz Hc0;go_wp2;go_loopw [33] (fun i wr=>∃k:Nat,k≤n∧i=ag k∧Row .u64 wr bN (L1 c s k)∧aV wr bT [ag g,aZ bC n n,aZ bN (2*s) (2*s)]∧aJ w' wr) (fun i _=>n-(intOf i).toNat);case atStart=>exact⟨0,Nat.zero_le _,rfl,HN4.out,HT4.out,HB4.out⟩
  case round=>
   obtain⟨k,hk,rfl,hr,hT,hB⟩:=hrel;have Hr:=ah hr;have HT:=ah hT;have HB:=ah hB;clear hr hT hB cT hcp;by_cases hlt:k<n
   ·have pg:(k:Int)<(n:Int):=ae;have c0:=(Hh.out.below HB.out Hh.out.lt).cells k gQ;have cT:=HT.out.cell;have hlt':s+k<(L1 c s k).length:=by rw[JB];omega
    have cr:=Hr.out.cells (s+k) hlt';have fr:=Hr.out.free (s+k);have lN:=Hr.out.lt;have lb:=aU _ _ c0;have lT:=HT.out.lt;simp only at lb;generalize hv:c.getD k 0=v at*;generalize (L1 c s k).getD (s+k) 0=v0 at*;have aft:=ah hlt';have Hv:=ah hv;have apB:(0:Int)≤(s:Int)+(k:Int):=ae;have apC:(s:Int)+(k:Int)<2*(s:Int):=ae;have abJ:((s:Int)+(k:Int)).toNat=s+k:=ae;clear hlt' hv;go_wp2;refine bq 11 aL aL fun NL hL=>?_;obtain⟨dU,dV,hlf⟩:=hL;(try simp only[bf]at dU);simp only[dS];repeat(go_big_quiet_step ((with_reducible exact aY (apz.out _ _ _))))
    (refine wpQuiet_nil ?_;intro w1 iI;obtain⟨⟨w1,aO⟩,rfl⟩:=iI;clear dV hlf dU NL;obtain⟨N1,dA,bW,eu,eF⟩:=eB aO;(try simp only[bf]at dA));go_wp2;have hr2:=(Hr.out.below aO lN).put (s+k) aft.out (lff k v);refine⟨⟨k+1,ae,av,?_,(HT.out.later aO).other d2.symm _,(HB.out.trans (aO.mono HB.out.size)).setCell l3 _⟩,by simp[intOf];omega⟩;rw[show L1 c s (k+1)=(L1 c s k).set (s+k) (lff k v) by rw[L1,Hv.out]];exact hr2
   ·obtain rfl:k=n:=ae;have hnl:¬((k:Int)<(k:Int)):=ae;have Yt:=ah fun V=>sum_nil QU bL bL V;have cT:=HT.out.cell;have lT:=HT.out.lt;go_wp2_with ((refine(Yt.out _).mono ?_);rintro e w5 ⟨rfl,eY⟩);have HT5:=ah (HT.out.later eY);have HN5:=ah (Hr.out.below eY Hr.out.lt);have HB5:=ah (HB.out.trans (eY.mono HB.out.size));clear HT Hr HB cT lT eY;have ajB:Vl QU []=emf:=rfl;rw[ajB];clear ajB;go_loopw [9] (fun i wi=>∃j:Nat,k+j≤s∧i=ag ((k:Int)+j)∧Row .u64 wi bN (L2 c s j)∧aV wi bT [ag g,aZ bC k k,aZ bN (2*s) (2*s)]∧aJ w' wi) (fun i _=>s-(intOf i).toNat);case atStart=>exact⟨0,ae,av,by rw[L2,←Hn.out];exact HN5.out,HT5.out,HB5.out⟩
    case round=>
     obtain⟨j,hj,rfl,hr,hT,hB⟩:=hrel;have Hr:=ah hr;have HT:=ah hT;have HB:=ah hB;clear hr hT hB HT5 HN5 HB5;have cT:=HT.out.cell;by_cases hjl:k+j<s
     ·have UL:(k:Int)+(j:Int)<(s:Int):=ae;have hlt':s+(k+j)<(L2 c s j).length:=by rw[A8];omega
      have cr:=Hr.out.cells _ hlt';have fr:=Hr.out.free (s+(k+j));have aft:=ah hlt';generalize (L2 c s j).getD (s+(k+j)) 0=v0 at*;have apB:(0:Int)≤(s:Int)+((k:Int)+(j:Int)):=ae;have apC:(s:Int)+((k:Int)+(j:Int))<2*(s:Int):=ae;have abJ:((s:Int)+((k:Int)+(j:Int))).toNat=s+(k+j):=ae;clear hlt';go_wp2;have hr2:=Hr.out.put _ aft.out emf;refine⟨⟨j+1,ae,bU,?_,HT.out.other d2.symm _,HB.out.setCell l3 _⟩,by simp[intOf];omega⟩;rw[show L2 c s (j+1)=(L2 c s j).set (s+(k+j)) emf by rw[L2,←Hn.out]];exact hr2
     ·have hje:k+j=s:=ae;have UL:¬((k:Int)+(j:Int)<(s:Int)):=ae;have hjs:j=s-k:=ae;have HTr:=HT;have HBr:=HB;have HNr:Hid (Row .u64 wr bN (L3 (L2 c s j) s 0)):=Hr;have axp:(1:Int)≤(s:Int):=ae;go_wp2;clear HT HB Hr cT;go_loopw [10] (fun i wi=>∃q:Nat,q+1≤s∧i=ag ((s:Int)-1-q)∧Row .u64 wi bN (L3 (L2 c s j) s q)∧aV wi bT [ag g,aZ bC k k,aZ bN (2*s) (2*s)]∧aJ w' wi) (fun i _=>(intOf i).toNat);case atStart=>exact⟨0,ae,av,HNr.out,HTr.out,HBr.out⟩
      case round=>
       obtain⟨q,hq,rfl,hr,hT,hB⟩:=hrel;have Hr:=ah hr;have HT:=ah hT;have HB:=ah hB;clear hr hT hB HTr HNr HBr;have cT:=HT.out.cell;by_cases hql:q+1<s
       ·obtain⟨m,hm⟩:∃m,m=s-1-q:=⟨_,rfl⟩
        have hmI:(s:Int)-1-(q:Int)=(m:Int):=ae;have gp:1≤m:=ae;have hms:m<s:=ae;have Hm:=ah hm;rw[hmI];have len:(L3 (L2 c s j) s q).length=2*s:=by rw[JC,A8]
        have c1:=Hr.out.cells (2*m) (by rw[len];omega);have c2:=Hr.out.cells (2*m+1) (by rw[len];omega);have c3:=Hr.out.cells m (by rw[len];omega);have fr:=Hr.out.free m;have lN:=Hr.out.lt;have lT:=HT.out.lt;have cZ:L3 (L2 c s j) s (q+1)=(L3 (L2 c s j) s q).set m (prf ((L3 (L2 c s j) s q).getD (2*m) 0) ((L3 (L2 c s j) s q).getD (2*m+1) 0)):=by rw[L3,←hm]
        generalize (L3 (L2 c s j) s q).getD (2*m) 0=x1 at*;generalize (L3 (L2 c s j) s q).getD (2*m+1) 0=x2 at*;generalize (L3 (L2 c s j) s q).getD m 0=x3 at*;have tC:=ah cZ;have Hlen:=ah len;clear cZ len hmI hm;have axq:(1:Int)≤(m:Int):=ae;have axr:(m:Int)<2*(s:Int):=ae;have axt:2*(m:Int)<2*(s:Int):=ae;have atE:2*(m:Int)+1<2*(s:Int):=ae;have t1:(2*(m:Int)).toNat=2*m:=ae;have t2:(2*(m:Int)+1).toNat=2*m+1:=ae;go_wp2;refine bq 24 aL aL fun NL hL=>?_;obtain⟨dU,dV,hlf⟩:=hL;(try simp only[bf]at dU);simp only[dS];repeat(go_big_quiet_step ((with_reducible exact aY (apA.out _ _ _))))
        (refine wpQuiet_nil ?_;intro w1 iI;obtain⟨⟨w1,aO⟩,rfl⟩:=iI;clear dV hlf dU NL;obtain⟨N1,dA,bW,eu,eF⟩:=eB aO;(try simp only[bf]at dA));go_wp2;have hr2:=(Hr.out.below aO lN).put m (by rw[Hlen.out];omega) (prf x1 x2);refine⟨⟨q+1,ae,by have:=Hm.out;simp;omega,by rw[tC.out];exact hr2,(HT.out.later aO).other d2.symm _,(HB.out.trans (aO.mono HB.out.size)).setCell l3 _⟩,by simp[intOf];omega⟩
       ·have hqe:q=s-1:=ae;have hz:(s:Int)-1-(q:Int)=0:=ae;rw[hz];go_wp2;go_ret;refine⟨bT,bN,0,0,_,_,2*s,_,rfl,HT.out,Hr.out,by rw[JC,A8],ae,?_,ae,rfl,rfl,HB.out⟩;unfold Ka;rw[←Hn.out,←Hg.out,←Hs.out,←hjs,←hqe]
theorem Vt {bT bN m:Nat} {v0 v1:Value} {N:List Int} (hT:aV w bT [v0,v1,aZ bN m m]) (hN:Row .u64 w bN N) (hm:N.length=m) (h2:2≤m) (h3:m≤10000):
  Calls prog 49 #[aR bT] w fun e w'=>e=.returned (.int .u64 (N.getD 1 0))∧w'=w:=by have c0:=hT.cell;have c1:=hN.cells 1 ae;have hmI:(1:Int)<(m:Int):=ae;generalize N.getD 1 0=r at*;clear hT hN hm;go_enter func49,ntmps49;go_wp2;go_ret;exact⟨rfl,rfl⟩
theorem tN (h:Row .i64 w b c) (h2:2≤c.length) (h3:c.length≤1000):
  Calls prog 17 #[aZ b c.length cap] w fun e w'=>e=.returned (.int .u64 (Ka c))∧aJ w w':=by
 have Hhn:=ah (uw (cap:=cap) h h2 h3);generalize hr:Ka c=r at*;go_enter func17,ntmps17;go_wp2_with (first
  |((with_reducible refine Hhn.out.mono ?_);rintro e w1 ⟨bT,bN,l1,l2,v0,v1,m,N,rfl,hT,hN,hm,tF,dA,Tt,rfl,rfl,aO⟩;have ht:=Vt hT hN hm tF Tt;rw[dA]at ht;have uo:=ah ht;have Hb1:=ah aO;clear hT hN hm tF dA Tt ht aO)
  |((with_reducible refine uo.out.mono ?_);rintro e w2 ⟨rfl,rfl⟩))
 go_ret;exact⟨rfl,Hb1.out⟩
end Me
end Go.Proofs.YtohpdonnpbjfdaaGreatDoor
