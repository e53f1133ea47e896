/- What is shown: packages parser, typecheck. Conditions: as each theorem states. -/
import Derived.LoopIn
import Derived.LoopNIn
import Derived.OwnWalkIn
import Derived.RangeFuncBound
import Derived.RangeFuncBox
import Derived.RangeFuncLeaves
import Derived.RangeFuncNested
import Derived.TacticsInMore
import Derived.Test.YtohpdonnpbjfdaaGreatDoorY20
set_option maxHeartbeats 40000000
set_option maxRecDepth 100000
set_option linter.unusedVariables false
set_option linter.unusedSimpArgs false
open Go.Proofs.Tryz
namespace Go.Proofs.YtohpdonnpbjfdaaGreatDoor
theorem oO {P:Prop} (h:P:=by rw[mi];simp[au,ek]):P:=h
theorem rQ {P:Prop} (h:P:=by simp[ByteArray.size_extract];omega):P:=h
namespace Pa
open Go.RowKit aN Qt Bk Mp
attribute [local go_sem] Oper.semAt_some
variable {s:ByteArray}
theorem Y5 {i:Nat} {t:Tk} (h:scM s i=some t) (hi:i≤s.size):t.pos=i∧t.kind≠6∧(t.kind=0→t.text=eS∧i=s.size)∧(t.kind≠0→1≤t.text.size∧i+t.text.size≤s.size):=by
 unfold scM at h;by_cases he:i=s.size
 ·rw[if_pos he]at h;injection h with h;subst h;exact⟨rfl,av,fun _=>⟨rfl,he⟩,fun h=>absurd rfl h⟩
 rw[if_neg he]at h;by_cases hL:Xh (ch s i)=true
 ·rw[if_pos hL]at h;obtain⟨h1,h2,h3,h4⟩:=xJ s vS s.size i ae ae;have hlt:i<zJ s vS s.size i:=by
   rcases Nat.lt_or_ge i (zJ s vS s.size i)with h5|h5
   ·exact h5
   ·have e:zJ s vS s.size i=i:=ae;rw[e]at h4;have:=h4 ae;simp[vS,hL]at this
  have hsz:(s.extract i (zJ s vS s.size i)).size=zJ s vS s.size i-i:=rQ;cases hk:look (s.extract i (zJ s vS s.size i))with
  |some k=>
   simp only[hk]at h;injection h with h;subst h;have iO:k=2∨k=3:=by unfold look at hk;rw[Option.map_eq_some_iff]at hk;obtain⟨x,hx,rfl⟩:=hk;have:=List.mem_of_find?_eq_some hx;simp only[afQ,List.mem_cons,List.not_mem_nil,or_false]at this;rcases this with rfl|rfl|rfl|rfl|rfl|rfl|rfl|rfl|rfl|rfl|rfl|rfl|rfl|rfl|rfl|rfl|rfl|rfl|rfl|rfl<;>simp
   exact⟨rfl,by simp only;omega,fun h=>by simp only at h;omega,fun _=>by simp only;omega⟩
  |none=>simp only[hk]at h;replace h:=fe h;obtain⟨h8,h⟩:=h;injection h with h;subst h;exact⟨rfl,av,fun h=>by simp only at h;omega,fun _=>by simp only;omega⟩
 rw[if_neg hL]at h;by_cases hD:Dt (ch s i)=true
 ·rw[if_pos hD]at h;simp only at h;replace h:=fe h;obtain⟨hV,h⟩:=h;injection h with h;subst h;obtain⟨h1,h2,h3,h4⟩:=xJ s Dt s.size i ae ae;have hlt:i<zJ s Dt s.size i:=by
   rcases Nat.lt_or_ge i (zJ s Dt s.size i)with h5|h5
   ·exact h5
   ·have e:zJ s Dt s.size i=i:=ae;rw[e]at h4;have:=h4 ae;rw[hD]at this;cases this
  have hsz:(s.extract i (zJ s Dt s.size i)).size=zJ s Dt s.size i-i:=rQ;exact⟨rfl,av,fun h=>by simp only at h;omega,fun _=>by simp only;omega⟩
 rw[if_neg hD]at h;split at h
 ·rename_i hp;injection h with h;subst h;have hsz:(s.extract i (i+2)).size=2:=rQ;exact⟨rfl,av,fun h=>by simp only at h;omega,fun _=>by simp only;omega⟩
 ·replace h:=fe h;obtain⟨_,h⟩:=h;injection h with h;subst h;have hsz:(s.extract i (i+1)).size=1:=rQ;exact⟨rfl,av,fun h=>by simp only at h;omega,fun _=>by simp only;omega⟩
theorem RF:∀(f i j:Nat),i≤s.size→skE s f i=some j→i≤j∧j≤s.size∧(∀k,i≤k→k<j→ch s k=32)∧(j<s.size→ch s j≠10∧ch s j≠32∧ch s j≠9∧ch s j≠35)
 |0,i,j,h0,h=>by simp[skE]at h
 |f+1,i,j,h0,h=>by
  simp only[skE]at h
  by_cases h1:i=s.size
  ·rw[if_pos h1]at h
   injection h with h
   exact⟨ae,ae,fun k a b=>ae,fun a=>ae⟩
  rw[if_neg h1]at h
  by_cases h2:ch s i=32
  ·rw[if_pos h2]at h
   obtain⟨a,b,c,d⟩:=RF f (i+1) j ae h
   refine⟨ae,b,fun k h3 h4=>?_,d⟩
   by_cases e:k=i
   ·subst e;exact h2
   ·exact c k ae h4
  rw[if_neg h2]at h
  split at h
  ·cases h
  ·rename_i h3
   injection h with h
   subst h
   exact⟨aH _,h0,fun k a b=>ae,fun _=>ae⟩
theorem u_ {A B:World} (h:aJ A B):A.grownBy B none:=⟨h.os,h.tape,h.output,h.size,fun k hk _=>h.block k hk⟩
theorem RI (n l Bt bl:Nat) (Kp:World→World→Prop) (s:ByteArray) (hn:s.size≤2000) (T:List Tk) (hT:K6 s (s.size+1) 0=some T)
  (Gd:World→Prop) (hKc:∀V V',Gd V→Kp V V'→V.cell? ⟨Bt,0,none⟩=some (aR bl)→Lx V bl s→V'.cell? ⟨Bt,0,none⟩=some (aR bl)∧Lx V' bl s) (B:Nat) (J Jx:List Tk→World→Prop) (hJ:AbidesFrom B J)
  (hG0:∀A V,Gd A→aJ A V→Gd V) (hGk:∀A V,Gd A→Kp A V→Gd V) (hKn:∀A V V' b o v,Gd A→aJ A V→A.heap.size≤b→V.cell? ⟨b,o,none⟩=some v→Kp V V'→V'.cell? ⟨b,o,none⟩=some v)
  (hY:∀pre x W,J pre W→pre.length<s.size+1→YieldAt Fence.wide (n-1) prog l #[yH x] W fun e W'=>
   (e=.returned (.bool true)∧J (pre++[x]) W'∧Kp W W')∨(e=.returned (.bool false)∧Jx (pre++[x]) W'))
  (W:World) (Vp:W.cell? ⟨Bt,0,none⟩=some (aR bl)) (hLx:Lx W bl s) (hGW:Gd W) (h0:J [] W):
  Calls prog 185 #[.func (.yield l) #[] #[],aR Bt] W fun e W'=>(∃v,e=.returned v)∧
   ((∃ys,ys=T∧J ys W')∨(∃pre,True∧Jx pre W')):=by
 have Hh0:=ah h0;have HhT:=ah hT;have HLx:=ah hLx;have HGW:=ah hGW;clear h0 hT hLx hGW;go_enter func185,ntmps185;go_wp2;go_loopw [3] (fun i wr=>∃(pre rest:List Tk) (k f:Nat),i=ag k∧k≤s.size∧Hid (T=pre++rest∧K6 s f k=some rest∧pre.length≤k)∧wr.cell? ⟨Bt,0,none⟩=some (aR bl)∧Hid (Lx wr bl s)∧Hid (Gd wr)∧Hid (J pre wr)) (fun i _=>s.size+1-(intOf i).toNat);case atStart=>exact⟨[],T,0,s.size+1,rfl,Nat.zero_le _,ah ⟨rfl,HhT.out,Nat.zero_le _⟩,Vp,HLx,HGW,Hh0⟩
 case round=>
  clear HLx Hh0 HhT Vp HGW;obtain⟨pre,rest,k,f,rfl,hk,hT,Vp,hLx,hGr,hJp⟩:=hrel;obtain⟨hTe,hf,hpl⟩:=hT.out;cases f with
  |zero=>simp[K6]at hf
  |succ f=>
   simp only[K6]at hf;replace hf:=bind_some hf;obtain⟨j,hj,hf⟩:=hf;replace hf:=bind_some hf;obtain⟨t,ht,hf⟩:=hf;obtain⟨b1,b2,b3,b4⟩:=RF _ _ _ hk hj;have hsk:∀V:World,aJ wr V→Calls prog 187 #[aR bl,ag k] V fun e w'=>e=.returned (ag j)∧aJ V w':=fun V hV=>(Y1 (w:=V) (ai hV hLx.out.c0) hn k j b1 b2 b3 b4).mono (fun e w' h=>⟨h.1,by rw[h.2];exact aK _ _⟩);have hsc:=fun(V:World) (hV:aJ wr V)=>Y_ (hLx.out.later hV) hn b2 ht;have hbd:=Y5 ht b2;have Hbd:=ah hbd;clear hbd;unfold yH at hsc;have Hf:=ah hf;have HTe:=ah hTe;have lt:=aU _ _ Vp;simp only at lt;clear hf hj ht hT hTe b3 b4;have akT:=ah hsk;have RU:=ah hsc;clear hsk hsc;refine az ?_;intro hal bu;go_upto_region 1 with(fail);refine fF 5 4 #[ag 0,.string ⟨#[]⟩,ag 0,ag 0,ag 0] 273 rfl aL aL (fun o ho ev w=>by have ho':=bD ho;rw[←ho'];exact rfl) fun NL hL=>?_;obtain⟨dU,dV,hlf⟩:=hL;(try simp only[bf]at dU);simp only[dS];repeat((refine kI (fun K hK=>?_);go_simp;(repeat(simp only[↓IntWalk.iteOmega];(try go_simp))));first|(refine hK _ ?_;clear hK K)|(apply Exists.intro;refine⟨fun x=>?_,hK _ ?_⟩;(first|(with_reducible exact kJ (akT.out _ lu))|(with_reducible exact kJ (RU.out _ lu)));clear hK K))
   (refine jq ?_;intro b1 w1 aO ek uX lU zn;(try simp only[bf]at lU);clear dV hlf dU NL;obtain⟨N1,dA,bW,eu,eF⟩:=eB aO;(try simp only[bf]at dA));have cZ:=au;simp only[Act.put,dH];go_upto_region 2 with(fail);refine aP fun W2 mi=>?_;have dW:aJ wr W2:=iK;have q0:W2.cell? ⟨b1,0,none⟩=some (ag t.kind):=oO;have q1:W2.cell? ⟨b1,1,none⟩=some (.string t.text):=oO;have q2:W2.cell? ⟨b1,2,none⟩=some (ag t.pos):=oO;have q3:W2.cell? ⟨b1,3,none⟩=some (ag t.val):=oO;have q4:W2.cell? ⟨b1,4,none⟩=some (ag 0):=oO;have uU:=ai dW Vp;have IE:=hLx.out.later dW;have Xf:=hJ pre wr W2 none hJp.out (u_ dW) av;obtain⟨fn,tmps,assign,body,hy,hR⟩:=hY pre t W2 Xf ae;have Hb2:=ah dW;have hnb:wr.heap.size≤b1:=lU;clear mi ek uX lU zn aO bW eu eF dA N1 dW Xf cZ hal bu w1 akT RU;unfold yH at hy;have HR:=ah hR;have HL2:=ah IE;clear hR IE;refine(wpIn_wide (n:=n)).1 ?_;gi_wp2;refine⟨(by intro hh;cases hh),?_⟩;refine HR.out.mono ?_;rintro e W3 (⟨rfl,LY,nG⟩|⟨rfl,EY⟩)
   ·have r0:=hKn wr W2 W3 b1 0 _ hGr.out Hb2.out hnb q0 nG;have r1:=hKn wr W2 W3 b1 1 _ hGr.out Hb2.out hnb q1 nG;have r2:=hKn wr W2 W3 b1 2 _ hGr.out Hb2.out hnb q2 nG;obtain⟨Vw,hL3⟩:=hKc W2 W3 (hG0 wr W2 hGr.out Hb2.out) nG uU HL2.out;have HL3:=ah hL3;have HG3:=ah (hGk W2 W3 (hG0 wr W2 hGr.out Hb2.out) nG);have HJ3:=ah LY;obtain⟨e1,e2,e3,e4⟩:=Hbd.out;have hf:=Hf.out;by_cases h0:t.kind=0
    ·rw[if_pos h0]at hf;injection hf with hf;have hTT:T=pre++[t]:=by rw[HTe.out,←hf]
     have nP:(t.kind==0)=true:=by simp[h0]
     have HTT:=ah hTT;clear hf hTT q0 q1 q2 q3 q4 uU nG hy hL3 LY e1 e2 e3 e4 h0;gi_wp2;go_wp2;refine bodyPost_ret (results_none rfl _ _ _) rfl ?_;exact⟨⟨_,rfl⟩,.inl ⟨T,rfl,by rw[HTT.out];exact HJ3.out⟩⟩
    ·rw[if_neg h0]at hf;rw[Option.map_eq_some_iff]at hf;obtain⟨rest',hr',hre⟩:=hf;obtain⟨e5,e6⟩:=e4 h0;have nP:(t.kind==0)=false:=by simp[h0]
     have ow:(t.kind==6)=false:=by simp[e2]
     have hTT:T=(pre++[t])++rest':=by rw[HTe.out,←hre,List.append_assoc];rfl
     have HTT:=ah hTT;have Hr':=ah hr';have He1:=ah e1;rw[e1]at r2;clear hTT hr' hre q0 q1 q2 q3 q4 uU nG hy hL3 LY e1 e2 e3 e4 h0;gi_wp2;go_wp2;exact⟨⟨pre++[t],rest',j+t.text.size,f,av,e6,ah ⟨HTT.out,Hr'.out,bU⟩,Vw,HL3,HG3,HJ3⟩,by simp[intOf];omega⟩
   ·have HJx:=ah EY;clear EY;gi_wp2;go_wp2;refine bodyPost_ret (results_none rfl _ _ _) rfl ?_;exact⟨⟨_,rfl⟩,.inr ⟨_,trivial,HJx.out⟩⟩
end Pa
end Go.Proofs.YtohpdonnpbjfdaaGreatDoor
