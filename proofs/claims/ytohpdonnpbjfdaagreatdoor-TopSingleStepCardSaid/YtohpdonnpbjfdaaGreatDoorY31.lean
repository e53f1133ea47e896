/- What is shown: hash64. Conditions: as each theorem states. -/
import Derived.Test.YtohpdonnpbjfdaaGreatDoorY16
import Derived.Test.YtohpdonnpbjfdaaGreatDoorY29
set_option maxHeartbeats 40000000
set_option maxRecDepth 100000
set_option linter.unusedVariables false
set_option linter.unusedSimpArgs false
open Go.Proofs.Tryz
namespace Go.Proofs.YtohpdonnpbjfdaaGreatDoor
theorem CP {P:Prop} (h:P:=by go_wp2_with (refine(um.out).mono ?_;refine df ?_;intro w1 aO N1 dA bW eu eF);go_ret;exact⟨rfl,((aK _ _).alloc (aH _) _).trans (aO.mono av)⟩):P:=h
namespace Ha
open Go.RowKit aN fO Qt Ro Bk Co
attribute [local go_sem] Oper.semAt_some
def uT (a b:Int):Int:=bits BinOp.xor IntKind.u64 (IntKind.u64.wrap (bits BinOp.xor IntKind.u64 a b*11400714819323198485)) (IntKind.u64.wrap (bits BinOp.xor IntKind.u64 a b*11400714819323198485)/4294967296)
theorem Fx (a b:Int) (w:World):Calls prog 122 #[.int .u64 a,.int .u64 b] w fun e w'=>e=.returned (.int .u64 (uT a b))∧w'=w:=by go_enter func122,ntmps122;go_wp2;go_ret;exact⟨rfl,rfl⟩
def Vi (s:ByteArray):Nat→Int
 |0=>0
 |k+1=>bits BinOp.or IntKind.u64 (Vi s k) (IntKind.u64.wrap (IntKind.u64.wrap ((s[k]?.getD 0).toNat:Int)*2^(8*k)))
theorem Vj (F:Fence) (n:Nat) (hF:F.fn 184) (hro:F.round=none) (hn:1≤n) (l Bs:Nat) (Kp:World→World→Prop) (hKr:∀V,Kp V V) (hKt:∀{A B C:World},Kp A B→Kp B C→Kp A C) (s:ByteArray) (gp:1≤s.size) (tF:s.size≤8) (hKc:∀V V',Kp V V'→V.cell? ⟨Bs,0,none⟩=some (.string s)→V'.cell? ⟨Bs,0,none⟩=some (.string s)) (J Jx:List Int→World→Prop)
  (hY:∀pre x W,J pre W→pre.length<1→YieldAt F (n-1) prog l #[.int .u64 x] W fun e W'=>
   (e=.returned (.bool true)∧J (pre++[x]) W'∧Kp W W')∨(e=.returned (.bool false)∧Jx (pre++[x]) W'))
  (W:World) (XH:W.cell? ⟨Bs,0,none⟩=some (.string s)) (h0:J [] W):
  CallsIn F n prog 184 #[.func (.yield l) #[] #[],aR Bs] W fun e W'=>(∃v,e=.returned v)∧
   ((∃ys,ys=[Vi s s.size]∧J ys W')∨(∃pre,(∃k,k≤1∧pre=([Vi s s.size]:List Int).take k)∧Jx pre W')):=by
 refine callsIn_of_wp func184 rfl hF ?_ hro;simp only[ntmps184,List.size_toArray,List.length_cons,List.length_nil,Nat.reduceAdd,Nat.reduceSub,Array.replicate_succ,Array.replicate_zero,List.push_toArray,List.append_toArray,List.nil_append,List.cons_append];gi_wp2;gi_loopw [3] (fun i wr=>(i=ag 0∧J [] wr∧Kp W wr)∨(i=ag 8∧J [Vi s s.size] wr∧Kp W wr)) (fun i _=>8-(intOf i).toNat);case atStart=>exact .inl ⟨rfl,h0,hKr _⟩
 case round=>
  rcases hrel with⟨rfl,hJs,hnx⟩|⟨rfl,hJs,hnx⟩
  ·have hcx:wr.cell? ⟨Bs,0,none⟩=some (.string s):=hKc _ _ hnx XH;have aoT:(0:Int)<(s.size:Int):=ae;have aaP:(s.size:Int)≤8:=ae;gi_wp2;gi_loopw [4,5] (fun u i wi=>∃k:Nat,k≤s.size∧i=ag k∧u=.int .u64 (Vi s k)∧wi=wr) (fun _ i _=>s.size-(intOf i).toNat);case atStart=>exact⟨0,Nat.zero_le _,rfl,rfl,rfl⟩
   case round=>
    obtain⟨k,hk,rfl,rfl,rfl⟩:=hrel;by_cases hlt:k<s.size
    ·have awU:(k:Int)<8:=ae;have awV:(k:Int)<(s.size:Int):=ae;have ate:(0:Int)+(k:Int)<(s.size:Int):=ae;have hlts:k<s.size:=ae;have sS:Vi s (k+1)=bits BinOp.or IntKind.u64 (Vi s k) (IntKind.u64.wrap (IntKind.u64.wrap ((s[k]?.getD 0).toNat:Int)*2^(8*k))):=rfl;have hix:s[k]?=some s[k]:=by simp[hlts]
     have adW:Vi s (k+1)=bits BinOp.or IntKind.u64 (Vi s k) (IntKind.u64.wrap (IntKind.u64.wrap (s[k].toNat:Int)*2^(8*k))):=by rw[sS,hix];rfl
     have Hs:=ah adW;clear sS adW;gi_wp2;exact⟨⟨k+1,ae,av,by rw[Hs.out],trivial⟩,by simp[intOf];omega⟩
    ·obtain rfl:k=s.size:=ae;have hnl:¬((s.size:Int)<(s.size:Int)):=ae;have awW:¬((0:Int)+(s.size:Int)<(s.size:Int)):=ae;obtain⟨fn,tmps,assign,body,hy,hR⟩:=hY [] (Vi s s.size) wr hJs av;gi_wp2;all_goals
      refine hR.mono ?_
      rintro e W3 (⟨rfl,LY,nG⟩|⟨rfl,EY⟩)
      ·gi_wp2
       exact⟨.inr ⟨rfl,LY,hKt hnx nG⟩,by simp[intOf]⟩
      ·gi_wp2
       refine bodyPost_ret (results_none rfl _ _ _) rfl ?_
       exact⟨⟨_,rfl⟩,.inr ⟨_,⟨1,aH _,rfl⟩,EY⟩⟩
  ·have hcx:wr.cell? ⟨Bs,0,none⟩=some (.string s):=hKc _ _ hnx XH;have aaP:¬((8:Int)<(s.size:Int)):=ae;gi_wp2;go_end0;exact⟨⟨_,rfl⟩,.inl hJs⟩
theorem Nf (F:Fence) (n:Nat) (hF:F.fn 184) (hro:F.round=none) (hn:1≤n) (Bs:Nat) (Kp:World→World→Prop) (hKr:∀V,Kp V V) (hKt:∀{A B C:World},Kp A B→Kp B C→Kp A C) (s:ByteArray) (gp:1≤s.size) (tF:s.size≤8) (w:World) (hKc:∀V V',Kp V V'→V.cell? ⟨Bs,0,none⟩=some (.string s)→V'.cell? ⟨Bs,0,none⟩=some (.string s))
  (hc:w.cell? ⟨Bs,0,none⟩=some (.string s)):
  SeqStopsK F n prog 184 #[aR Bs] (fun x:Int=>#[Value.int .u64 x]) Kp (fun ys=>ys=[Vi s s.size])
   (fun pre=>∃k,k≤1∧pre=([Vi s s.size]:List Int).take k) 1 w:=fun l J Jx W hW _ _ hY h0=>
 Vj F n hF hro hn l Bs Kp hKr (fun h k=>hKt h k) s gp tF hKc J Jx hY W ((hW.cell (p:=⟨Bs,0,none⟩) (aU _ _ hc)).trans hc) h0
theorem Vk (s:ByteArray) (w:World):Calls prog 154 #[.string s] w fun e w'=>e=.returned (.func (.func 184) #[] #[aR w.heap.size])∧w'=w.alloc (.cells #[.string s] 9):=by go_enter func154,ntmps154;go_wp2;go_ret;exact⟨av,rfl⟩
def bgf (s:ByteArray) (c:Int):Int:=uT (uT (uT 0 (Vi s s.size)) (s.size:Int)) (IntKind.u64.wrap c)
theorem qa (s:ByteArray) (c:Int) (gp:1≤s.size) (tF:s.size≤8) (w:World):Calls prog 121 #[.string s,ag c] w fun e w'=>e=.returned (.int .u64 (bgf s c))∧aJ w w':=by
 refine(callsIn_wide (n:=5)).1 ?_;refine callsIn_of_wp_marks func121 rfl trivial ?_ rfl;simp only[ntmps121,List.size_toArray,List.length_cons,List.length_nil,Nat.reduceAdd,Nat.reduceSub,Array.replicate_succ,Array.replicate_zero,List.push_toArray,List.append_toArray,List.nil_append,List.cons_append];gi_wp2_with (((refine⟨trivial,?_⟩;gi_at_call 154;refine(callsIn_wide.2 (Vk _ _)).mono ?_);rintro e w1 ⟨rfl,rfl⟩));obtain⟨W0,lZ⟩:∃W0,W0=(w.alloc (.cells #[.int .u64 0] 48)).alloc (.cells #[.string s] 9):=⟨_,rfl⟩
 have hsz:W0.heap.size=w.heap.size+1+1:=by rw[lZ];simp
 have W_:aJ w W0:=by rw[lZ];exact aG
 have e0:W0.cell? ⟨w.heap.size,0,none⟩=some (.int .u64 0):=by rw[lZ];simp[aQ]
 have f0:∀i,W0.frozen? ⟨w.heap.size,i,none⟩=false:=by intro i;rw[lZ];simp[dL]
 have e1:W0.cell? ⟨w.heap.size+1,0,none⟩=some (.string s):=by rw[lZ];simp[aQ]
 rw[←lZ];clear lZ;obtain⟨C,hC⟩:∃C,C=w.heap.size:=⟨_,rfl⟩
 have HC:=ah hC;rw[←hC]at hsz e0 f0 e1⊢;clear hC;refine' wpIn_rangeFunc_ownF rfl bL (gf:=184) (lb:=#[.pointer (some ⟨C+1,0,none⟩)]) rfl trivial (enters_of func184 aL rfl)
  (Nf Fence.wide 4 trivial rfl bL (C+1) (But C (C+1+1)) (But.refl _ _) But.trans s gp tF _ (fun V V' h e=>h.cell ae ae e) e1) But.trans (fun W l o o' hl ho _ _=>(But.refl _ _ W).grown (grownBy_putObj' W l o') wY (fun k e=>by cases e;omega)) (aK _ _) (fun _=>rfl)
  (fun pre W=>(W.cell? ⟨C,0,none⟩=some (.int .u64 (pre.foldl uT 0))∧W.frozen? ⟨C,0,none⟩=false)∧But C (C+1+1) W0 W)
  (fun c pre W=>False)
  (fun s A B row hs hg hr=>⟨⟨cell_kept hs.1.1 hg (fun r e=>(hr r e).2),(frozen_kept hs.1.1 hg (fun r e=>(hr r e).2)).trans hs.1.2⟩,hs.2.grown hg (by have:=hs.2.size;omega) (fun k e=>by have:=(hr k e).1;omega)⟩)
  (fun c s A B row hs hg hr=>hs)
  ⟨⟨e0,f0 0⟩,But.refl _ _ _⟩
  _ ?assign ?body ?done ?stop
 case assign=>intro l x W K hK;gi_wp2;exact hK
 case body=>rintro l pre x W ⟨⟨hx,hf⟩,hB⟩ _;have hm:=fun a b V=>Fx a b V;have TC:=ah hm;clear hm;have hfo:(pre++[x]).foldl uT 0=uT (pre.foldl uT 0) x:=av;have Hfo:=ah hfo;clear hfo;generalize pre.foldl uT 0=g at*;gi_wp2_with (((refine⟨trivial,?_⟩;with_reducible refine(CallsIn.inRound l (callsIn_wide.2 (TC.out _ _ _))).mono ?_);rintro e w5 ⟨rfl,rfl⟩));have h1:=But.set C (C+1+1) 0 w5 (.int .u64 (uT g x));exact⟨KeepsOthers.setCell _ _ _,h1,⟨by rw[Hfo.out];exact World.cell?_setCell_same _ _ _ hx,by simp[hf]⟩,hB.trans h1⟩
 case done=>rintro D ys W hD rfl ⟨⟨hx,hf⟩,hB⟩ hK;have hm:=fun a b V=>Fx a b V;have TC:=ah hm;clear hm;simp only[List.foldl_cons,List.foldl_nil]at hx;gi_wp2_with (((refine⟨trivial,?_⟩;with_reducible refine(callsIn_wide.2 (TC.out _ _ _)).mono ?_);rintro e w5 ⟨rfl,rfl⟩));refine⟨av,.inl ⟨_,_,rfl,run_takeDeferred hK,?_⟩⟩;have uU:aJ w w5:=hB.below W_ (by rw[HC.out];exact aH _) (by rw[HC.out];omega);refine⟨.int .u64 (bgf s c),by simp[results,Tryz.f121,bgf],rfl,?_⟩;exact uU.grown (grownBy_putObj' w5 D (.deferred none)) uU.size (fun k e=>by cases e;have:=HC.out;omega)
 case stop=>rintro D c pre W hD _ h _;exact h.elim
def Vl (s:ByteArray) (c:List Int):Int:=uT (c.foldl (fun h n=>uT h (IntKind.u64.wrap n)) (bgf s c.length)) 0
theorem KI {w:World} {b cap:Nat} {c:List Int} (s:ByteArray) (gp:1≤s.size) (tF:s.size≤8) (h:Row .i64 w b c) (hc:c.length≤1000):
  Calls prog 91 #[.string s,aZ b c.length cap] w fun e w'=>e=.returned (.int .u64 (Vl s c))∧aJ w w':=by
 have hb:=fun V=>qa s c.length gp tF V;have TC:=ah fun a b V=>Fx a b V;unfold Vl;obtain⟨g,hg⟩:∃g,g=bgf s c.length:=⟨_,rfl⟩
 rw[←hg]at hb⊢;obtain⟨G,hG⟩:∃G,G=c.foldl (fun h n=>uT h (IntKind.u64.wrap n)) g:=⟨_,rfl⟩
 have HG:=ah hG;rw[←hG];clear hG;obtain⟨n,hn⟩:∃n,n=c.length:=⟨_,rfl⟩
 have Hn:=ah hn;have Hh:=ah h;have LZ:=ah hb;clear hb;rw[←hn]at LZ hc⊢;clear hn h hg;go_enter func91,ntmps91;go_wp2_with (with_reducible refine(LZ.out _).mono ?_;refine df ?_;intro w1 aO N1 dA bW eu eF);clear bW eu;go_loopw [5,14] (fun u i wr=>∃k:Nat,k≤n∧i=ag k∧u=.int .u64 ((c.take k).foldl (fun h n=>uT h (IntKind.u64.wrap n)) g)∧wr=w1) (fun _ i _=>n-(intOf i).toNat);case atStart=>exact⟨0,Nat.zero_le _,rfl,rfl,rfl⟩
 case round=>
  obtain⟨k,hk,rfl,rfl,rfl⟩:=hrel;by_cases hlt:k<n
  ·have pg:(k:Int)<(n:Int):=ae;have hcx:=(Hh.out.below aO Hh.out.lt).cells k gQ;have sS:(c.take (k+1)).foldl (fun h n=>uT h (IntKind.u64.wrap n)) g=uT ((c.take k).foldl (fun h n=>uT h (IntKind.u64.wrap n)) g) (IntKind.u64.wrap (c.getD k 0)):=by rw[List.take_add_one,List.foldl_append];have:k<c.length:=gQ;simp[List.getElem?_eq_getElem this,List.getD_eq_getElem?_getD]
   have Hs:=ah sS;clear sS;generalize c.getD k 0=v at*;generalize hG:(c.take k).foldl (fun h n=>uT h (IntKind.u64.wrap n)) g=G at*;go_wp2_with ((with_reducible refine(TC.out _ _ _).mono ?_);rintro e w2 ⟨rfl,rfl⟩);exact⟨⟨k+1,ae,av,by rw[Hs.out],trivial⟩,by simp[intOf];omega⟩
  ·obtain rfl:k=n:=ae;have hnl:¬((k:Int)<(k:Int)):=ae;have e:c.take k=c:=by rw[Hn.out,List.take_length]
   rw[e,←HG.out];go_wp2_with ((with_reducible refine(TC.out _ _ _).mono ?_);rintro e w2 ⟨rfl,rfl⟩);go_ret;exact⟨rfl,aO⟩
theorem TI (w:World) (a b:Int) (t:TypeId):Row .i64 (w.alloc (.cells #[ag a,ag b] t)) w.heap.size [a,b]:=by
 refine⟨fun i hi=>?_,fun i=>World.frozen?_alloc_new w _ t i,av⟩;rw[World.cell?_alloc_new];rcases i with _|_|i
 ·rfl
 ·rfl
 ·simp only[List.length_cons,List.length_nil]at hi;omega
def Ya:ByteArray:=⟨#[112,97,105,114]⟩
def Yb:ByteArray:=⟨#[108,101,97,102]⟩
def QU:ByteArray:=⟨#[101,109,112,116,121]⟩
def Fy:ByteArray:=⟨#[101,102,102,101,99,116]⟩
def prf (a b:Int):Int:=Vl Ya [wrap64 a,wrap64 b]
theorem Yc (a b:Int) (w:World):Calls prog 92 #[.int .u64 a,.int .u64 b] w fun e w'=>e=.returned (.int .u64 (prf a b))∧aJ w w':=by have hs:=KI (cap:=2) Ya bL bL (TI w (wrap64 a) (wrap64 b) 3) av;simp only[List.length_cons,List.length_nil,Nat.zero_add,Nat.reduceAdd]at hs;unfold prf;generalize Vl Ya [wrap64 a,wrap64 b]=g at*;have um:=ah hs;clear hs;go_enter func92,ntmps92;exact CP
def lff (i v:Int):Int:=Vl Yb [i,v]
theorem Yd (a b:Int) (w:World):Calls prog 90 #[ag a,ag b] w fun e w'=>e=.returned (.int .u64 (lff a b))∧aJ w w':=by have hs:=KI (cap:=2) Yb bL bL (TI w a b 3) av;simp only[List.length_cons,List.length_nil,Nat.zero_add,Nat.reduceAdd]at hs;unfold lff;generalize Vl Yb [a,b]=g at*;have um:=ah hs;clear hs;go_enter func90,ntmps90;exact CP
end Ha
end Go.Proofs.YtohpdonnpbjfdaaGreatDoor
