/- What is shown: packages parser, typecheck. Conditions: as each theorem states. -/
import Derived.Test.YtohpdonnpbjfdaaGreatDoorY21
import Derived.Test.YtohpdonnpbjfdaaGreatDoorY25
set_option maxHeartbeats 40000000
set_option maxRecDepth 100000
set_option linter.unusedVariables false
set_option linter.unusedSimpArgs false
open Go.Proofs.Tryz
namespace Go.Proofs.YtohpdonnpbjfdaaGreatDoor
namespace Pa
open Go.RowKit aN Qt Bk Mp
attribute [local go_sem] Oper.semAt_some
variable {X:Nat→Prop} {n f cap B N:Nat} {l L:List Nd} {w:World} {a:Option Addr} {x:Nd} {Kp:World→World→Prop} {Gd:World→Prop} {J Jx:List It→World→Prop}
theorem ig.keep {w':World} (h:ig w X l a n cap) (hs:w.heap.size≤w'.heap.size) (hk:∀b,X b→b<w.heap.size→w'.heap[b]?=w.heap[b]?):ig w' X l a n cap:=by
 induction h with
 |nil=>exact .nil
 |row l b n cap f hn h1 hX hb hcap cells sub ih=>have e:∀o v,w.cell? ⟨b,o,none⟩=some v→w'.cell? ⟨b,o,none⟩=some v:=fun o v h=>(bg (a:=⟨b,o,none⟩) (hk b hX hb)).trans h;refine .row l b n cap f hn h1 hX (bH hb hs) hcap (fun i hi=>?_) ih;obtain⟨c0,c1,c2,c3⟩:=cells i hi;exact⟨e _ _ c0,e _ _ c1,e _ _ c2,e _ _ c3⟩
theorem ig.aqK (h:ig w X l a n cap) (h1:1≤n):∃b,a=some ⟨b,0,none⟩∧X b∧b<w.heap.size∧∀i,i<n→∃a' n' m',(w.cell? ⟨b,i*4,none⟩=some (ag (l.getD i nd0).kind)∧w.cell? ⟨b,i*4+1,none⟩=some (ag (l.getD i nd0).num)∧w.cell? ⟨b,i*4+2,none⟩=some (.string (l.getD i nd0).str)∧w.cell? ⟨b,i*4+3,none⟩=some (.slice a' n' m'))∧ig w X (l.getD i nd0).kids a' n' m':=by
 cases h with
 |nil=>omega
 |row _ b _ _ f hn h1 hX hb hc cells sub=>exact⟨b,rfl,hX,hb,fun i hi=>⟨_,_,_,cells i hi,sub i hi⟩⟩
def allL (f:Nat) (l:List Nd):Option (List Nd):=l.foldr (fun x o=>(allM f x).bind fun a=>o.map (a++·)) (some [])
theorem JO (h:allL f (x::l)=some L):∃a b,allM f x=some a∧allL f l=some b∧L=a++b:=by unfold allL at h;simp only[List.foldr_cons]at h;obtain⟨a,ha,h⟩:=bind_some h;rw[Option.map_eq_some_iff]at h;obtain⟨b,hb,h⟩:=h;exact⟨a,b,ha,hb,h.symm⟩
theorem Za (h:allM f x=some L):1≤L.length:=by
 cases f with
 |zero=>cases h
 |succ f=>obtain⟨k,v,s,l⟩:=x;simp only[allM,Option.map_eq_some_iff]at h;obtain⟨a,_,rfl⟩:=h;simp
theorem Ob:∀(l L:List Nd),allL f l=some L→l.length≤L.length
 |[],L,h=>by simp
 |x::l,L,h=>by
  obtain⟨a,b,ha,hb,rfl⟩:=JO h
  have h1:=Za ha
  have h2:=Ob l b hb
  simp only[List.length_cons,List.length_append]
  omega
theorem VL (l:List Nd) (k:Nat) (h:k<l.length):l.drop k=l.getD k nd0::l.drop (k+1):=by rw[List.drop_eq_getElem_cons h,List.getD_eq_getElem?_getD,List.getElem?_eq_getElem h];rfl
def itV (x:It):Value:=.agg #[ag x.1.kind,ag x.1.num,.string x.1.str,.slice x.2.1 x.2.2.1 x.2.2.2]
structure Vis (n l:Nat) (X:Nat→Prop) (Kp:World→World→Prop) (Gd:World→Prop) (B N:Nat) (J Jx:List It→World→Prop):Prop where
 hJ:AbidesFrom B J
 hX:∀V V',Gd V→Kp V V'→V.heap.size≤V'.heap.size∧∀b,X b→b<V.heap.size→V'.heap[b]?=V.heap[b]?
 g0:∀A V,Gd A→aJ A V→Gd V
 gk:∀A V,Gd A→Kp A V→Gd V
 kn:∀A V V' b o v,Gd A→aJ A V→A.heap.size≤b→V.cell? ⟨b,o,none⟩=some v→Kp V V'→V'.cell? ⟨b,o,none⟩=some v
 kb:∀A V,Gd A→aJ A V→Kp A V
 kt:∀A V W,Kp A V→Kp V W→Kp A W
 hN:N≤100000
 y:∀pre x W,J pre W→pre.length<N→YieldAt Fence.wide (n-1) prog l #[itV x] W fun e W'=>(e=.returned (.bool true)∧J (pre++[x]) W'∧Kp W W')∨(e=.returned (.bool false)∧Jx (pre++[x]) W')
def af9 (f n l:Nat) (X:Nat→Prop) (Kp:World→World→Prop) (Gd:World→Prop) (N:Nat) (J Jx:List It→World→Prop):Prop:=
 ∀(x:Nd) (L:List Nd),allM f x=some L→∀(pre:List It) (W:World) (a:Option Addr) (m c:Nat),ig W X x.kids a m c→Gd W→J pre W→pre.length+L.length≤N→Calls prog 197 #[.agg #[ag x.kind,ag x.num,.string x.str,.slice a m c],.func (.yield l) #[] #[]] W fun e W'=>(e=.returned (.bool true)∧∃Ls:List It,Ls.map (·.1)=L∧J (pre++Ls) W'∧Kp W W'∧Gd W')∨(e=.returned (.bool false)∧∃pre',Jx pre' W')
theorem Zb {l:Nat} (V:Vis n l X Kp Gd B N J Jx) (ih:af9 f n l X Kp Gd N J Jx):af9 (f+1) n l X Kp Gd N J Jx:=by
 rintro⟨k,v,s,l'⟩ L hL pre W a m c hk hg h0 hN;simp only[allM,Option.map_eq_some_iff]at hL;obtain⟨L',hL',rfl⟩:=hL;change allL f l'=some L' at hL';simp only[Nd.kind,Nd.num,Nd.str,Nd.kids]at hk⊢;simp only[List.length_cons]at hN;have hm:=hk.len;have HL:=ah hL';have Hk:=ah hk;have Hg:=ah hg;have H0:=ah h0;have HN:=ah hN;have Hm:=ah hm;clear hL' hk hg h0 hN hm;refine az ?_;intro hal bu;go_enter func197,ntmps197;go_upto_region 1 with(fail);refine aP fun W1 vI=>?_;have aO:aJ W W1:=by rw[vI];exact aG
 have k2:aV W1 W.heap.size [ag k,ag v,.string s,.slice a m c]:=by rw[vI];exact aV.new _ _ _ _ rfl
 have Xe:=V.hJ pre W W1 none H0.out (u_ aO) av;obtain⟨fn,tmps,assign,body,hy,hR⟩:=V.y pre ((.mk k v s l'),a,m,c) W1 Xe (by have:=HN.out;omega);have HR:=ah hR;have Hb1:=ah aO;simp only[itV,Nd.kind,Nd.num,Nd.str]at hy;have c2:=k2.cell;have SY:=k2.lt;obtain⟨t2,h2⟩:∃t2,t2=W.heap.size:=⟨_,rfl⟩
 rw[←h2]at c2 SY⊢;have H2:=ah h2;clear vI hR Xe aO k2 h2 hal bu;refine(wpIn_wide (n:=n)).1 ?_;gi_wp2;refine⟨(by intro hh;cases hh),?_⟩;refine HR.out.mono ?_;rintro e W2 (⟨rfl,Xf,iO⟩|⟨rfl,vT⟩);case inr=>have HX2:=ah vT;clear vT HR hy c2 SY;gi_wp2;go_wp2;go_ret;exact .inr ⟨rfl,_,HX2.out⟩
 have Xj:=V.g0 _ _ Hg.out Hb1.out;have hG2:=V.gk _ _ Xj iO;have mi:=V.kt _ _ _ (V.kb _ _ Hg.out Hb1.out) iO;have d3:=V.kn W W1 W2 t2 3 _ Hg.out Hb1.out (by rw[H2.out];exact aH _) (c2 3) iO;obtain⟨lI,hX2⟩:=V.hX _ _ Hg.out mi;have akW:=Hk.out.keep lI hX2;have HJ2:=ah Xf;have HG2:=ah hG2;have HW2:=ah mi;have akX:=ah akW;have akY:=aU _ _ d3;simp only at akY;clear Xf iO Xj hG2 mi lI hX2 akW hy c2 SY;gi_wp2;go_wp2;have gp:m≤100000:=by have h1:=Ob _ _ HL.out;have h2:=HN.out;have h3:=Hm.out.1;have h4:=V.hN;omega
 go_loopw [14] (fun e wr=>∃(j:Nat) (Ls:List It) (R:List Nd),e=ag j∧j≤m∧Hid (J (pre++((.mk k v s l'),a,m,c)::Ls) wr∧Kp W wr∧Gd wr∧ig wr X l' a m c)∧Hid (allL f (l'.drop j)=some R∧Ls.map (·.1)++R=L')) (fun e _=>m-(intOf e).toNat);case atStart=>exact⟨0,[],L',rfl,Nat.zero_le _,ah ⟨HJ2.out,HW2.out,HG2.out,akX.out⟩,ah ⟨HL.out,rfl⟩⟩
 case round=>
  clear HJ2 HG2 HW2 akX d3 akY HR;obtain⟨j,Ls,R,rfl,hj,hs,hR⟩:=hrel;by_cases hjm:j<m
  ·have hji:(j:Int)<(m:Int):=ae;obtain⟨hJ,hKw,hG,hK⟩:=hs.out;obtain⟨hR1,Zc⟩:=hR.out;rw[VL l' j (by rw[←Hm.out.1];exact hjm)]at hR1;obtain⟨A,R',hA,hR',rfl⟩:=JO hR1;obtain⟨b,rfl,hXb,hb,hg⟩:=hK.aqK ae;obtain⟨a',m',c',⟨e0,e1,e2,e3⟩,hkk⟩:=hg j hjm;have hlen:pre.length+(Ls.length+1)+A.length≤N:=by have h1:=HN.out;rw[←Zc]at h1;simp only[List.length_append,List.length_map]at h1;omega
   have lH:=ah fun(Z:World) (hZ:aJ wr Z)=>ih (l'.getD j nd0) A hA (pre++((.mk k v s l'),some ⟨b,0,none⟩,m,c)::Ls) Z a' m' c' (hkk.on hZ) (V.g0 _ _ hG hZ) (V.hJ _ wr Z none hJ (u_ hZ) av) (by simp only[List.length_append,List.length_cons];omega);have HA:=ah hR';have HR2:=ah Zc;have HG:=ah hG;have HKw:=ah hKw;have HK:=ah hK;clear hJ hKw hG hK hR1 Zc hR' hA hg hkk hs hR hXb;generalize l'.getD j nd0=x at*;refine az ?_;intro hal bu;go_wp2_with (first|((with_reducible refine(lH.out _ aG).mono ?_);rintro e w3 (⟨rfl,Ls',hL3,LY,hK3,hG3⟩|⟨rfl,hx3⟩)));rotate_left
   ·go_ret;exact .inr ⟨rfl,hx3⟩
   have hbz:aJ wr (wr.alloc (.cells #[ag x.kind,ag x.num,.string x.str,.slice a' m' c'] 183)):=eG;have hKz:=V.kt _ _ _ (V.kb _ _ HG.out hbz) hK3;obtain⟨sJ,S_⟩:=V.hX _ _ HG.out hKz;refine⟨⟨j+1,Ls++Ls',R',av,ae,ah ⟨by simpa[List.append_assoc]using LY,V.kt _ _ _ HKw.out hKz,hG3,HK.out.keep sJ S_⟩,ah ⟨HA.out,?_⟩⟩,by simp[intOf];omega⟩;rw[←HR2.out,List.map_append,hL3,List.append_assoc]
  ·obtain rfl:j=m:=ae;obtain⟨hJ,hKw,hG,hK⟩:=hs.out;obtain⟨hR1,Zc⟩:=hR.out;rw[List.drop_of_length_le (by rw[←Hm.out.1];exact aH _)]at hR1;have hR0:R=[]:=by unfold allL at hR1;simpa using hR1.symm
   subst hR0;have hres:List.map (·.1) ((Nd.mk k v s l',a,j,c)::Ls)=Nd.mk k v s l'::L':=by simpa using Zc
   have HJ:=ah hJ;have HKw:=ah hKw;have HG:=ah hG;have aqM:=ah hres;clear hJ hKw hG hK hR1 Zc hs hR hres;go_wp2;go_ret;exact .inl ⟨rfl,_,aqM.out,HJ.out,HKw.out,HG.out⟩
theorem JM {l:Nat} (V:Vis n l X Kp Gd B N J Jx):∀f,af9 f n l X Kp Gd N J Jx
 |0=>fun x L h=>by cases h
 |f+1=>Zb V (JM V f)
end Pa
end Go.Proofs.YtohpdonnpbjfdaaGreatDoor
