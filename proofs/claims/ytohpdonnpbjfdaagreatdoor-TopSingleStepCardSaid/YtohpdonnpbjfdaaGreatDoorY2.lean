/- What is shown: laws of regions, blocks, setups and rows. Conditions: as each theorem states. -/
import Derived.Deep.Quiet
import Derived.Deep.QuietTactic
import Derived.StillTail
import Derived.Test.YtohpdonnpbjfdaaGreatDoorY1
set_option maxHeartbeats 40000000
set_option maxRecDepth 100000
set_option linter.unusedVariables false
set_option linter.unusedSimpArgs false
namespace Go.Proofs.YtohpdonnpbjfdaaGreatDoor
theorem jd {P:Prop} (h:P:=by simp only[List.length_cons]at hk;omega):P:=h
theorem gz {P:Prop} (h:P:=by rw[h]at hr;cases hr):P:=h
theorem fQ {P:Prop} (h:P:=by simpa using hr):P:=h
theorem qN {P:Prop} (h:P:=by rw[getD_replicate_false]at hl;cases hl):P:=h
theorem qO {P:Prop} (h:P:=by rw[htl]at hj;exact hj):P:=h
theorem wJ {P:Prop} (h:P:=by
 refine⟨hjn,?_⟩;by_cases hji:j=i
 ·subst hji;exact hy.qOp hi H
 ·have h1:=(H.2 j (ready_mono hj hji)).2;obtain⟨hjun,oj,hoj,hall⟩:=mem_ready.1 hj;have hnot:∀e∈oj.after,Region.binds md e=true→e.on≠i:=fun e he hb heq=>by have h1:=hall e he hb;rw[heq,getD_both hun]at h1;cases h1
  have h2:=qOp_put hoj (hfree j oj hoj hji hjun hnot) (fun cs b=>hsel i oi cs b hi) (fun cs b=>hsel j oj cs b hoj) hy h1;have hfree':∀k ok,ops[k]?=some ok→k≠i→(aj.setIfInBounds j true).getD k true=false→
    (∀e∈ok.after,Region.binds md e=true→e.on≠i)→oi.apart ops ok=true:=fun k ok hk hki hun hno=>by
   refine hfree k ok hk hki ?_ hno
   by_cases hjk:j=k
   ·subst hjk;exact hjun
   ·rw[getD_set_ne true hjk]at hun;exact hun
  refine qOp_mono (fun a' h3=>ih (aj.setIfInBounds j true) a' (inv.set hj hjn) hfree' (ready_mono hr (Ne.symm hji)) h3.1 ?_) h2;rw[Array.setIfInBounds_comm _ _ hji];exact h3.2):P:=h
theorem BI {P:Prop} (h:P:=by have:=nz (Q':=Q) (g:=l.toArray.size-n) (fun aj a' w' hw' hL=>by have:=wpAny_of_seq (md:=.any) (Q':=Q) (l.drop n) n aj a' w' (fun j=>by simp[List.getElem?_drop]) (by rw[hdl];exact hL.1) (hL.2 w' hw');rwa[hdl]at this) _ _ _ _ hC H;rw[htl,show n+(l.toArray.size-n)=l.toArray.size from ae]at this;exact this):P:=h
theorem wI {P:Prop} (h:P:=by
 refine⟨hjn,?_⟩;by_cases hji:j=i
 ·subst hji;exact hy.qOp hi H
 ·have:=hdone _ _ H j (ready_mono hj hji);omega):P:=h
theorem qL {P:Prop} (h:P:=by
 refine hfree k ok hk hki ?_ hno;by_cases hjk:j=k
 ·subst hjk;exact hjun
 ·rw[getD_set_ne true hjk]at hun;exact hun):P:=h
theorem B_ {P:Prop} (h:P:=by
 simp only[Bool.or_eq_true,decide_eq_true_eq]at h1;rcases h1 with h1|h1
 ·omega
 ·obtain⟨o',ho',e,he,hb,hon⟩:=Region.waitsFor_spec h1;have:o'=ot:=bD (ho'.symm.trans hot);subst this;have h2:=hall e he hb;rw[hon,getD_both (FV (t-1) ae ae)]at h2;cases h2):P:=h
theorem Cc {P:Prop} (h:P:=by
 intro aj a inv _ hr hy H;have hun:=(mem_ready.1 hr).1;refine⟨fun h=>gz,fun j hj=>?_⟩;have hjn:j<n:=inv.lt hs hin hN hun hj;refine⟨hjn,?_⟩;by_cases hji:j=i
 ·subst hji;exact hy.Jp hi H
 ·have:=hdone _ _ H j (ready_mono hj hji);omega):P:=h
theorem BZ {P:Prop} (h:P:=by
 have hun':=(mem_ready.1 hi).1;have hir:i∈rem:=by
  have hm:i∈List.range' n (N-n):=List.mem_range'_1.2 ⟨hin,ae⟩;rcases h_.1 (hR.perm.mem_iff.2 hm)with hx|hx
  ·obtain⟨x,mg,vT⟩:=List.mem_map.1 hx;have:=hR.done x mg;rw[vT,hun']at this;cases this
  ·exact hx
 obtain⟨o,ho,hgd,haf⟩:=hl.there i hin hiN;have hrun:=hl.run i o hin hiN ho (iF ops ps a).eval w;have hnd:(ps.map (·.1)++rem).Nodup:=hR.perm.nodup_iff.2 List.nodup_range';have asA:rem.Nodup:=(List.nodup_append.1 hnd).2.1;unfold wpOp;simp only[ho];have hw:Region.wanted o (yielded ops (iF ops ps a).tmps)=true:=by simp[Region.wanted,hgd]
 rw[if_pos hw];refine .inl ?_;unfold Oper.wp;rw[hrun];show wpAny P md ops Q' (s+g) (aj.setIfInBounds i true) ((iF ops ps a).put o.dst (ptrTo w.heap.size)) (w.alloc (O i));have hd:oD ops i=o.dst:=by simp[oD,ho]
 rw[←hd,←Ms];have hlen:rem.length=(rem.erase i).length+1:=by rw[List.length_erase_of_mem hir];have:0<rem.length:=List.length_pos_of_mem hir;omega
 refine ih f _ dM _ _ (ps++[(i,w.heap.size)]) (rem.erase i) ae ⟨by simp[hR.size],fun j b hj=>?_,fun x hx=>?_,fun j hj=>?_,?_,hR.laid.lay i⟩ inv h
 ·rw[getD_set_ne b ae];exact hR.same j b hj
 ·rcases h_.1 hx with mg|mg
  ·by_cases hxi:i=x.1
   ·have h1:x.1<aj.size:=by rw[hR.size];have:=(hps x mg).2;omega
    simp[hxi,h1]
   ·rw[getD_set_ne true hxi];exact hR.done x mg
  ·have:x=(i,w.heap.size):=by simpa using mg
   subst this;have h1:i<aj.size:=by rw[hR.size];omega
   simp[h1]
 ·have hj1:=List.mem_of_mem_erase hj;have hji:i≠j:=by intro e;subst e;exact(List.Nodup.not_mem_erase asA) hj
  rw[getD_set_ne true hji];exact hR.todo j hj1
 ·refine List.Perm.trans ?_ hR.perm;rw[List.map_append,List.append_assoc];exact List.Perm.append_left _ (List.perm_cons_erase hir).symm):P:=h
theorem BN {P:Prop} (h:P:=by
 intro f aj dM a w ps rem FU hR inv h;obtain rfl:f=0:=ae;obtain rfl:rem=[]:=List.eq_nil_of_length_eq_zero ae;have e:aj=dM:=by
  refine Array.ext (by rw[hR.size,inv.size]) fun j h1 h2=>?_;have hg:∀(l:Array Bool) (hj:j<l.size),l[j]=l.getD j true:=fun l hj=>by simp[hj]
  rw[hg _ h1,hg _ h2];rcases Nat.lt_or_ge j n with hj|hj
  ·exact hR.same j true (.inl hj)
  ·rcases Nat.lt_or_ge j N with hj'|hj'
   ·rw[inv.mid j hj hj'];have hm:j∈List.range' n (N-n):=List.mem_range'_1.2 ⟨hj,ae⟩;have hm':=hR.perm.mem_iff.2 hm;rw[List.append_nil]at hm';obtain⟨x,hx,rfl⟩:=List.mem_map.1 hm';exact hR.done x hx
   ·exact hR.same j true (.inr hj')
 subst e;rw[Nat.zero_add];exact hT _ _ _ _ (by simpa using hR.perm) hR.laid h.2.1 h.2.2):P:=h
theorem BU {P:Prop} (h:P:=by
 rw[Qw v ps (fun x hx=>(hap x hx).2) a];refine ih f' _ (dM.setIfInBounds i true) _ _ ps rem ae ⟨by simp[hR.size],fun j b hj=>?_,fun x hx=>?_,fun j hj=>?_,hR.perm,hR.laid.later hb⟩ adF hk
 ·by_cases hij:i=j
  ·subst hij;have h1:i<aj.size:=by rw[hR.size];omega
   have h2:i<dM.size:=by rw[inv.size];omega
   simp[h1,h2]
  ·rw[getD_set_ne b hij,getD_set_ne b hij];exact hR.same j b hj
 ·rw[getD_set_ne true (by have:=(hps x hx).1;omega)];exact hR.done x hx
 ·rw[getD_set_ne true (by have:=(hmid j hj).1;omega)];exact hR.todo j hj):P:=h
theorem BR {P:Prop} (h:P:=by
 cases rem with
 |cons j rem=>exact⟨j,(hmid j (List.mem_cons_self ..)).2,getD_both (hR.todo j (List.mem_cons_self ..)),aiO j (List.mem_cons_self ..)⟩
 |nil=>
  obtain⟨f',rfl⟩:∃f',f=f'+1:=⟨f-1,by simp at FU;omega⟩
  obtain⟨hne,hall⟩:=h;obtain⟨i,hi⟩:=List.exists_mem_of_ne_nil _ hne;have hin:=(hall i hi).1;exact⟨i,ae,getD_both ((mem_ready.1 (Xz i hin hi)).1),Xz i hin hi⟩):P:=h
theorem BX {P:Prop} (h:P:=by
 unfold Jp at hh;simp only[ho]at hh;unfold wpOp;simp only[ho];rw[hsame.2];split
 ·rename_i hw;simp only[hw,if_true]at hh;obtain⟨v,hv,hk⟩:=hh;refine .inl (Oper.Qx (v:=v) ?_ fun w' hb=>next v w' hb hk);have:=hv w hR.laid.1;unfold wu Oper.quietAt at*;rw[hsame.1];exact this
 ·rename_i hw;simp only[hw]at hh;exact next undef w (aK _ _) hh):P:=h
theorem BO {P:Prop} (h:P:=by
 rw[mem_ready]at*;obtain⟨h0,o,ho,hall⟩:=hr;refine⟨(hR.same i true (.inl hi)).symm.trans h0,o,ho,fun e he hb=>?_⟩;have h2:=hall e he hb;by_cases hm:n≤e.on∧e.on<N
 ·exact absurd hm (hl.free i o hi ho e he hb)
 ·rw[←hR.same e.on false ae];exact h2):P:=h
theorem BP {P:Prop} (h:P:=by
 rw[mem_ready]at*;obtain⟨h0,o,ho,hall⟩:=hr;refine⟨(hR.same i true (.inl hi)).trans h0,o,ho,fun e he hb=>?_⟩;have h2:=hall e he hb;by_cases hm:n≤e.on∧e.on<N
 ·exact absurd hm (hl.free i o hi ho e he hb)
 ·rw[hR.same e.on false ae];exact h2):P:=h
theorem BS {P:Prop} (h:P:=by obtain⟨ox,hox,_⟩:=hl.there x.1 (hps x hx).1 (hps x hx).2;have:=hl.apart x.1 ox (hps x hx).1 (hps x hx).2 hox i o hin ho;simp only[oD,hox,Option.bind_some];exact this):P:=h
theorem BQ {P:Prop} (h:P:=by obtain⟨o,ho,_,haf⟩:=hl.there j (hmid j hj).1 (hmid j hj).2;exact mem_ready.2 ⟨hR.todo j hj,o,ho,fun e he hb=>by rw[haf e he]at hb;cases hb⟩):P:=h
theorem BK {P:Prop} (h:P:=by
 have H:=uE (md:=.any) (g:=l.toArray.size-N) hsel hs hN (l.take n) 0 dM a (fun j hj=>by have hj':j<n:=qO;simp[hj']) (by simpa using htl) inv (by rw[htl];exact hlex) h;refine wp_region_any hm ?_;have htodo:∀j∈List.range' n (N-n),(Array.replicate l.toArray.size false).getD j true=false:=by intro j hj;rw[List.mem_range'_1]at hj;have hlt:j<l.toArray.size:=ae;simp only[Array.getD_eq_getD_getElem?,Array.getElem?_replicate,hlt,if_true,Option.getD_some]
 have hlaid:Laid w O [] {w with drawn:=w.drawn+1}:=⟨(aK w.heap.size w).drew,(fun x hx=>by cases hx),av⟩
 have R:Real l.toArray w O n N (Array.replicate l.toArray.size false) dM {w with drawn:=w.drawn+1} [] (List.range' n (N-n)):=
  ⟨av,hsame,(fun x hx=>by cases hx),htodo,av,hlaid⟩
 have:=FT (Q':=Q) (g:=l.toArray.size-N) (Lq:=fun a'=>∀ps w',(ps.map (·.1)).Perm (List.range' n (N-n))→Laid w O ps w'→wpList P l.toArray Q (l.drop N) (iF l.toArray ps a') w') (Region.noSelect_spec hsel) hs hN (Nat.le_of_lt hNs) (Tm (P:=P) hlB hr)
  (fun aj a' w' ps hp hl hsq hLq=>by
   have:=wpAny_of_seq (md:=.any) (Q':=Q) (l.drop N) N aj (iF l.toArray ps a') w' (fun j=>by simp[List.getElem?_drop]) (by rw[hdl];exact hsq) (hLq ps w' hp hl)
   rwa[hdl]at this) (n+(N-n)) n _ dM a _ [] (List.range' n (N-n)) av R inv (by rw[htl]at H;exact H)
 rw[show n+(N-n)+(l.toArray.size-N)=l.toArray.size from ae]at this;exact this):P:=h
theorem BL {P:Prop} (h:P:=by
 have hs:n<l.toArray.size:=by simp only[BJ,Bool.and_eq_true,decide_eq_true_eq]at hB;have:=hB.1.1.1.2;omega
 obtain⟨inv,same⟩:=aeT l.toArray n hs;refine wo n (n+1) (fun _=>.cells c t) _ (Nat.le_succ _) hm hB inv same (fun j o h1 h2 ho=>hr o (by rw[←ho,show j=n from ae])) ?_;refine wG (fun a' ha ps w' hp hl=>?_) _ _ (h _ (rules w _ rfl));rw[show n+1-n=1 from ae]at hp;obtain⟨x,rfl⟩:∃x,ps=[x]:=by
  have:=hp.length_eq;match ps,this with
  |[x],_=>exact⟨x,rfl⟩
 have hx:x.1=n:=by simpa using hp.mem_iff.1 (by simp:x.1∈[x].map (·.1))
 obtain⟨j,b⟩:=x;obtain rfl:j=n:=hx;have hb:=hl.2.1 (j,b) av;obtain⟨g1,g2,g3⟩:=Mq hb.1;have:=ha b w' hl.1 g1 g2 hb.2 g3;rw[←hd]at this;exact this):P:=h
namespace Qt
open Go Go.RowKit
section
variable {P:Program} {ops:Array Oper} {md:Region.Mode} {C:World→Prop}
def qj (P:Program) (md:Region.Mode) (ops:Array Oper) (C:World→Prop) (n:Nat) (L:Array Bool→Act→Prop):Nat→Array Bool→Act→Prop
 |0,aj,a=>L aj a
 |f+1,aj,a=>
  Region.ready md ops aj≠[]∧∀i∈Region.ready md ops aj,i<n∧qOp P ops C i (qj P md ops C n L f (aj.setIfInBounds i true)) a
theorem nz {n g:Nat} {L:Array Bool→Act→Prop} {Q':Exit→Act→World→Prop} (hL:∀aj a w,C w→L aj a→wpAny P md ops Q' g aj a w):
  ∀(f:Nat) (aj:Array Bool) (a:Act) (w:World),C w→qj P md ops C n L f aj a→wpAny P md ops Q' (f+g) aj a w
 |0,aj,a,w,hw,h=>by rw[Nat.zero_add];exact hL _ _ _ hw h
 |f+1,aj,a,w,hw,h=>by
  rw[show f+1+g=(f+g)+1 from ae]
  exact⟨fun h0=>absurd h0 h.1,fun i hi=>wpOp_of_qOp hw (fun a' w' hw' h'=>nz hL f _ a' w' hw' h') (h.2 i hi).2⟩
theorem Kn {n i:Nat} {oi:Oper} {v:Value} {L:Array Bool→Act→Prop} (hi:ops[i]?=some oi) (hsel:∀(j:Nat) (o:Oper) cs b,ops[j]?=some o→o.op≠.select cs b)
  (hs:Region.sinkB md ops n=true) (hc:Region.chainB md ops n=true) (hn:n<ops.size) (hin:i<n)
  (hdone:∀aj a,L aj a→∀j∈Region.ready md ops aj,n≤j):
  ∀(f:Nat) (aj:Array Bool) (a:Act),HeadInv md ops n aj→
   (∀j oj,ops[j]?=some oj→j≠i→aj.getD j true=false→(∀e∈oj.after,Region.binds md e=true→e.on≠i)→oi.apart ops oj=true)→
   i∈Region.ready md ops aj→YieldsIn P ops C oi v a→
   qj P md ops C n L f (aj.setIfInBounds i true) (a.put oi.dst v)→qj P md ops C n L (f+1) aj a:=by
 intro f;induction f with
 |zero=>
  intro aj a inv _ hr hy H;have hun:=(mem_ready.1 hr).1;refine⟨fun h=>gz,fun j hj=>?_⟩;have hjn:j<n:=by
   rcases Nat.lt_or_ge j n with h|h
   ·exact h
   ·exact absurd hj (tail_waits hs hc hn inv _ i rfl hin hun j h)
  exact wI
 |succ f ih=>
  intro aj a inv hfree hr hy H;have hun:=(mem_ready.1 hr).1;refine⟨fun h=>gz,fun j hj=>?_⟩;have hjn:j<n:=by
   rcases Nat.lt_or_ge j n with h|h
   ·exact h
   ·exact absurd hj (tail_waits hs hc hn inv _ i rfl hin hun j h)
  exact wJ
theorem zf {n g:Nat} {Lq:Act→Prop} (hsel:Region.noSelect ops=true) (hs:Region.sinkB md ops n=true) (hc:Region.chainB md ops n=true) (hn:n<ops.size):
  ∀(l:List Oper) (k:Nat) (aj:Array Bool) (a:Act),(∀j,j<l.length→l[j]?=ops[k+j]?)→k+l.length=n→HeadInv md ops n aj→
  Region.lexHead md ops g l.length k aj=true→wpQuiet P ops C Lq l a→
  qj P md ops C n (fun listed' a'=>Region.seqB md ops g n listed'=true∧Lq a') l.length aj a
 |[],k,aj,a,_,hk,_,hB,h=>by
  have:k=n:=by simpa using hk
  subst this
  exact⟨by simpa[Region.lexHead]using hB,h⟩
 |o::l,k,aj,a,hl,hk,inv,hB,h=>by
  have h0:ops[k]?=some o:=by simpa using(hl 0 av).symm
  simp only[List.length_cons,Region.lexHead,Bool.and_eq_true]at hB
  obtain⟨⟨hr,hf⟩,hB'⟩:=hB
  have hkn:k<n:=jd
  have hr':k∈Region.ready md ops aj:=fQ
  have cZ:qOp P ops C k (wpQuiet P ops C Lq l) a:=by unfold qOp;simp only[h0];exact h
  obtain⟨v,hy,hK⟩:=yieldsIn_of_qOp h0 cZ
  exact Kn h0 (Region.noSelect_spec hsel) hs hc hn hkn (fun listed' a' hL=>seqB_ready hL.1) l.length aj a inv (Region.free_spec h0 hf) hr' hy
   (zf hsel hs hc hn l (k+1) _ _ (fun j hj=>by have:=hl (j+1) bU;simpa[Nat.add_assoc,Nat.add_comm 1 j]using this) jd (inv.set hr' hkn) hB' hK)
theorem oz {id:Nat} {Q:Exit→Act→World→Prop} {a:Act} {w:World} {l:List Oper} (n:Nat) (hm:P.follows .mixedOrders=true) (hB:Region.lexTailB .any l.toArray n=true)
  (hC:C {w with drawn:=w.drawn+1})
  (h:wpQuiet P l.toArray C (fun a'=>∀w',C w'→wpList P l.toArray Q (l.drop n) a' w') (l.take n) a):(Code.region id l.toArray true).wp P Q a w:=by
 simp only[Region.lexTailB,Bool.and_eq_true,decide_eq_true_eq]at hB;obtain⟨⟨⟨⟨hsel,hn⟩,hs⟩,hc⟩,hlex⟩:=hB;have hn':n<l.length:=by simpa using hn
 have htl:(l.take n).length=n:=bU;have hdl:(l.drop n).length=l.toArray.size-n:=av;have inv0:HeadInv .any l.toArray n (Array.replicate l.toArray.size false):=
  ⟨av,fun j oj _ hl=>qN,fun t _ ht=>getD_in (by simpa using ht) (getD_replicate_false _ _)⟩
 have H:=zf (C:=C) (md:=.any) (g:=l.toArray.size-n) hsel hs hc hn (l.take n) 0 _ a (fun j hj=>by have hj':j<n:=qO;simp[hj']) (by simpa using htl) inv0 (by rw[htl];exact hlex) h;refine wp_region_any hm ?_;exact BI
end
structure dh (w:World) where
 out:World
 below:aJ w out
instance (w:World):Inhabited (dh w):=⟨⟨w,aK _ _⟩⟩
def Ti (w:World) (b o:Nat):Option Value:=w.cell? ⟨b,o,none⟩
def XA (w:World) (b o:Nat):Bool:=w.frozen? ⟨b,o,none⟩
theorem Tq {W w1:World} (hb:aJ W w1) (N:Nat) (hN:N=W.heap.size) (b o:Nat):w1.cell? ⟨b,o,none⟩=if b<N then W.cell? ⟨b,o,none⟩else Ti w1 b o:=by
 subst hN;split
 ·exact hb.cell (p:=⟨b,o,none⟩) ‹_›
 ·rfl
theorem Jq {W w1:World} (hb:aJ W w1) (N:Nat) (hN:N=W.heap.size) (b o:Nat):w1.frozen? ⟨b,o,none⟩=if b<N then W.frozen? ⟨b,o,none⟩else XA w1 b o:=by
 subst hN;split
 ·exact hb.frozen (p:=⟨b,o,none⟩) ‹_›
 ·rfl
theorem aQ (w:World) (c:Array Value) (t:TypeId) (b i:Nat):(w.alloc (.cells c t)).cell? ⟨b,i,none⟩=if b<w.heap.size then w.cell? ⟨b,i,none⟩else if b=w.heap.size then c[i]? else none:=by
 split
 ·exact World.cell?_alloc_lt _ _ _ ‹_›
 ·split
  ·rename_i h;subst h;exact World.cell?_alloc_new w c t i
  ·have h:(w.alloc (.cells c t)).heap[b]?=none:=by simp only[World.alloc,Array.getElem?_eq_none_iff,Array.size_push];omega
   simp[World.cell?,h]
theorem dL (w:World) (c:Array Value) (t:TypeId) (b i:Nat):(w.alloc (.cells c t)).frozen? ⟨b,i,none⟩=if b<w.heap.size then w.frozen? ⟨b,i,none⟩else if b=w.heap.size then false else XA (w.alloc (.cells c t)) b i:=by
 split
 ·exact World.frozen?_alloc_old _ _ _ (Nat.ne_of_lt ‹_›)
 ·split
  ·rename_i h;subst h;exact World.frozen?_alloc_new w c t i
  ·rfl
theorem au (w:World) (b o b' o':Nat) (v:Value):(w.setCell ⟨b,o,none⟩ v).cell? ⟨b',o',none⟩=if b'=b then(if o'=o then(w.cell? ⟨b,o,none⟩).map (fun _=>v)else w.cell? ⟨b',o',none⟩)else w.cell? ⟨b',o',none⟩:=by
 by_cases hb:b'=b
 ·subst hb;rw[if_pos rfl];by_cases ho:o'=o
  ·subst ho;rw[if_pos rfl];cases h:w.cell? ⟨b',o',none⟩with
   |some u=>exact World.cell?_setCell_same w _ v h
   |none=>
    have hh:((w.setCell ⟨b',o',none⟩ v).cell? ⟨b',o',none⟩).isSome=false:=by
     simp only[World.setCell,World.cell?,Array.getElem?_modify]at h⊢;cases hk:w.heap[b']? with
     |none=>simp
     |some x=>rw[hk]at h;cases x<;>simp_all
    simpa using hh
  ·rw[if_neg ho];exact World.cell?_setCell_other w _ _ _ (fun e=>ho (by injection e with _ e;exact e.symm))
 ·rw[if_neg hb];exact World.cell?_setCell_other w _ _ _ (fun e=>hb (by injection e with e;exact e.symm))
theorem below_drewN {B:Nat} {a w:World} (h:Below B a w) (n:Nat):Below B a (w.drewN n):=⟨h.os,h.tape,h.output,h.size,h.block⟩
abbrev dZ (P:Program) (f:FuncId) (args:Array Value) (v:Value):Prop:=∀w:World,Calls P f args w fun e w'=>e=.returned v∧aJ w w'
theorem Qy {P:Program} {f:FuncId} {args:Array Value} {v:Value} (h:∀w:World,Calls P f args w fun e w'=>e=.returned v∧w=w'):dZ P f args v:=
 fun w=>(h w).mono fun _ _ ⟨he,hw⟩=>⟨he,by subst hw;exact aK _ _⟩
theorem jS {P:Program} {f:FuncId} {args:Array Value} {v:Value} (h:∀w:World,Calls P f args w fun e w'=>e=.returned v∧∃n,w'=w.drewN n):dZ P f args v:=
 fun w=>(h w).mono fun _ _ ⟨he,n,hw⟩=>⟨he,by subst hw;exact below_drewN (aK _ _) n⟩
theorem fB {w:World} (x:dh w) {p:Addr} {v:Value} (h:w.cell? p=some v):x.out.cell? p=some v:=
 (x.below.cell (aU w p h)).trans h
theorem jr {w:World} {o:Obj} {p:Addr} {v:Value} (h:w.cell? p=some v):(w.alloc o).cell? p=some v:=
 (World.cell?_alloc_lt _ _ _ (aU w p h)).trans h
theorem ai {w w1:World} (hb:aJ w w1) {p:Addr} {v:Value} (h:w.cell? p=some v):w1.cell? p=some v:=
 (hb.cell (aU w p h)).trans h
structure qd (w:World) (N:Nat):Prop where
 eq:N=w.heap.size
 cell:∀(x:dh w) (b o:Nat),x.out.cell? ⟨b,o,none⟩=if b<N then w.cell? ⟨b,o,none⟩else Ti x.out b o
 frozen:∀(x:dh w) (b o:Nat),x.out.frozen? ⟨b,o,none⟩=if b<N then w.frozen? ⟨b,o,none⟩else XA x.out b o
theorem rules (w:World) (N:Nat) (hN:N=w.heap.size):qd w N:=⟨hN,fun x=>Tq x.below N hN,fun x=>Jq x.below N hN⟩
theorem bq {P:Program} {id:Nat} {Q:Exit→Act→World→Prop} {a:Act} {w:World} {l:List Oper} (n:Nat) (hm:P.follows .mixedOrders=true) (hB:Region.lexTailB .any l.toArray n=true)
  (h:∀N,qd w N→wpQuiet P l.toArray (fun w'=>∃x:dh w,w'=x.out) (fun a'=>∀w',(∃x:dh w,w'=x.out)→wpList P l.toArray Q (l.drop n) a' w') (l.take n) a):(Code.region id l.toArray true).wp P Q a w:=
 oz (C:=fun w'=>∃x:dh w,w'=x.out) n hm hB ⟨⟨w.drew,(aK _ _).drew⟩,rfl⟩ (h _ (rules w _ rfl))
theorem fG {P:Program} {id:Nat} {Q:Exit→Act→World→Prop} {a:Act} {w:World} {l:List Oper} (hm:P.follows .mixedOrders=true) (hB:Region.lexB .any l.toArray=true)
  (h:∀N,qd w N→wpQuiet P l.toArray (fun w'=>∃x:dh w,w'=x.out) (fun a'=>∀w',(∃x:dh w,w'=x.out)→Q .normal a' w') l a):(Code.region id l.toArray true).wp P Q a w:=
 wp_region_quiet (C:=fun w'=>∃x:dh w,w'=x.out) hm hB ⟨⟨w.drew,(aK _ _).drew⟩,rfl⟩ (by simpa using h _ (rules w _ rfl))
theorem aY {P:Program} {f:FuncId} {args:Array Value} {v:Value} {w:World} {x:dh w} (h:Calls P f args x.out fun e w'=>e=.returned v∧Below x.out.heap.size x.out w'):
  Calls P f args x.out fun e w''=>e=.returned v∧∃y:dh w,w''=y.out:=
 h.mono fun _ w' ⟨he,hb⟩=>⟨he,⟨w',x.below.trans (hb.mono x.below.size)⟩,rfl⟩
theorem eB {W w1:World} (hb:aJ W w1):∃N,N=W.heap.size∧(∀b o,w1.cell? ⟨b,o,none⟩=if b<N then W.cell? ⟨b,o,none⟩else Ti w1 b o)∧(∀b o,w1.frozen? ⟨b,o,none⟩=if b<N then W.frozen? ⟨b,o,none⟩else XA w1 b o)∧N≤w1.heap.size:=
 ⟨W.heap.size,rfl,Tq hb _ rfl,Jq hb _ rfl,hb.size⟩
section
variable {P:Program} {ops:Array Oper} {md:Region.Mode} {w0:World}
def wu (P:Program) (o:Oper) (a:Act) (w:World) (v:Value):Prop:=o.quietAt P a (fun w''=>aJ w w'') w v
def Calm (P:Program) (w0:World) (o:Oper) (a:Act) (K:Act→Prop):Prop:=∃v,(∀w,aJ w0 w→wu P o a w v)∧K (a.put o.dst v)
def jI (P:Program) (ops:Array Oper) (w0:World) (Q:Act→Prop):List Oper→Act→Prop
 |[],a=>Q a
 |o::rest,a=>if Region.wanted o (yielded ops a.tmps)then Calm P w0 o a (jI P ops w0 Q rest)else jI P ops w0 Q rest (a.put o.dst undef)
theorem jq {Q:Act→Prop} {a:Act} (h:Q a):jI P ops w0 Q [] a:=h
theorem Mr {Q:Act→Prop} {a:Act} {o:Oper} {rest:List Oper}
  (h:∀K:Act→Prop,(∀a,jI P ops w0 Q rest a→K a)→if Region.wanted o (yielded ops a.tmps)then Calm P w0 o a K else K (a.put o.dst undef)):jI P ops w0 Q (o::rest) a:=
 h _ (fun _ h=>h)
def Jp (P:Program) (ops:Array Oper) (w0:World) (i:Nat) (K:Act→Prop) (a:Act):Prop:=
 match ops[i]? with
 |none=>K a
 |some o=>if Region.wanted o (yielded ops a.tmps)then Calm P w0 o a K else K (a.put o.dst undef)
theorem Calm.mono {o:Oper} {a:Act} {K K':Act→Prop} (h:∀a,K a→K' a) (hh:Calm P w0 o a K):Calm P w0 o a K':=
 let⟨v,h1,h2⟩:=hh
 ⟨v,h1,h _ h2⟩
theorem Mv {i:Nat} {a:Act} {K K':Act→Prop} (h:∀a,K a→K' a) (hh:Jp P ops w0 i K a):Jp P ops w0 i K' a:=by
 unfold Jp at*;split
 ·exact h _ (by simpa[*]using hh)
 ·rename_i o ho;simp only[ho]at hh;split
  ·rename_i hw;simp only[hw,if_true]at hh;exact hh.mono h
  ·rename_i hw;simp only[hw]at hh;exact h _ hh
theorem wG {Q Q':Act→Prop} (h:∀a,Q a→Q' a):∀(l:List Oper) (a:Act),jI P ops w0 Q l a→jI P ops w0 Q' l a
 |[],_,hh=>h _ hh
 |o::l,a,hh=>by
  unfold jI at*
  split
  ·rename_i hw;rw[if_pos hw]at hh;exact hh.mono (wG h l)
  ·rename_i hw;rw[if_neg hw]at hh;exact wG h l _ hh
def kK (P:Program) (ops:Array Oper) (w0:World) (o:Oper) (v:Value) (a:Act):Prop:=
 (Region.wanted o (yielded ops a.tmps)=true∧∀w,aJ w0 w→wu P o a w v)∨
 (Region.wanted o (yielded ops a.tmps)=false∧v=undef)
theorem kK.Jp {i:Nat} {o:Oper} {v:Value} {a:Act} (hi:ops[i]?=some o) (hy:kK P ops w0 o v a) {K:Act→Prop} (h:K (a.put o.dst v)):Jp P ops w0 i K a:=by
 unfold Qt.Jp;simp only[hi];rcases hy with⟨hw,hv⟩|⟨hw,rfl⟩
 ·simp only[hw,if_true];exact⟨v,hv,h⟩
 ·simp only[hw,Bool.false_eq_true,if_false];exact h
theorem kK.of_same {o:Oper} {v:Value} {a a':Act} (hy:kK P ops w0 o v a) (he:execOp a'.eval o=execOp a.eval o)
  (hw:Region.wanted o (yielded ops a'.tmps)=Region.wanted o (yielded ops a.tmps)):kK P ops w0 o v a':=by unfold kK wu Oper.quietAt at*;rw[he,hw];exact hy
theorem wH {i:Nat} {o:Oper} {a:Act} {K:Act→Prop} (hi:ops[i]?=some o) (h:Jp P ops w0 i K a):∃v,kK P ops w0 o v a∧K (a.put o.dst v):=by
 unfold Jp at h;simp only[hi]at h;by_cases hw:Region.wanted o (yielded ops a.tmps)=true
 ·simp only[hw,if_true]at h;obtain⟨v,h1,h2⟩:=h;exact⟨v,.inl ⟨hw,h1⟩,h2⟩
 ·simp only[hw]at h;exact⟨undef,.inr ⟨by simpa using hw,rfl⟩,h⟩
theorem Tn {j:Nat} {oi oj:Oper} {v:Value} (hj:ops[j]?=some oj) (hap:oi.apart ops oj=true)
  (hsi:∀cs b,oi.op≠.select cs b) (hsj:∀cs b,oj.op≠.select cs b) {K:Act→Prop} {a:Act}
  (hy:kK P ops w0 oi v a) (h:Jp P ops w0 j K (a.put oi.dst v)):
  Jp P ops w0 j (fun a'=>kK P ops w0 oi v a'∧K (a'.put oi.dst v)) a:=by
 obtain⟨h1,h2,h3⟩:=Oper.apart_spec hap;have keep:∀(a:Act),kK P ops w0 oi v a→∀u,kK P ops w0 oi v (a.put oj.dst u):=fun a hy u=>
  hy.of_same (execOp_put oi hsi a oj.dst u h3) (wanted_put oi a oj.dst u h3)
 unfold Jp at*;simp only[hj]at*;rw[wanted_put oj a oi.dst v h1]at h;split
 ·rename_i hw;simp only[hw,if_true]at h;obtain⟨u,hu,hn⟩:=h;refine⟨u,fun w hw'=>?_,keep a hy u,by rw[←Act.put_comm a v u h2];exact hn⟩;have:=hu w hw';unfold wu Oper.quietAt at*;rwa[execOp_put oj hsj a oi.dst v h1]at this
 ·rename_i hw;simp only[hw]at h;exact⟨keep a hy _,by rw[←Act.put_comm a v undef h2];exact h⟩
def qi (P:Program) (md:Region.Mode) (ops:Array Oper) (w0:World) (n:Nat) (L:Array Bool→Act→Prop):Nat→Array Bool→Act→Prop
 |0,aj,a=>L aj a
 |f+1,aj,a=>
  Region.ready md ops aj≠[]∧∀i∈Region.ready md ops aj,i<n∧Jp P ops w0 i (qi P md ops w0 n L f (aj.setIfInBounds i true)) a
def qh (md:Region.Mode) (ops:Array Oper) (N:Nat):Bool:=((List.range N).all fun i=>Region.waitsFor md ops N i)&&Region.chainB md ops N
theorem tO {N:Nat} (hs:qh md ops N=true) {aj:Array Bool} (FV:∀t,N≤t→t<ops.size→aj.getD t true=false) {i:Nat} (hi:i<N) (hun:aj.getD i false=false):
  ∀t,N≤t→t∉Region.ready md ops aj:=by
 intro t ht hr;simp only[qh,Bool.and_eq_true]at hs;obtain⟨_,ot,hot,hall⟩:=mem_ready.1 hr;have htlt:t<ops.size:=(Array.getElem?_eq_some_iff.1 hot).1;by_cases htn:t=N
 ·subst htn;have h1:=List.all_eq_true.1 hs.1 i (List.mem_range.2 hi);obtain⟨o',ho',e,he,hb,hon⟩:=Region.waitsFor_spec h1;have:o'=ot:=bD (ho'.symm.trans hot);subst this;have h2:=hall e he hb;rw[hon,hun]at h2;cases h2
 ·have h1:=List.all_eq_true.1 hs.2 t (List.mem_range.2 htlt);exact B_
structure CInv (ops:Array Oper) (n N:Nat) (aj:Array Bool):Prop where
 size:aj.size=ops.size
 mid:∀j,n≤j→j<N→aj.getD j true=true
 tail:∀t,N≤t→t<ops.size→aj.getD t true=false
theorem CInv.set {n N i:Nat} {aj:Array Bool} (inv:CInv ops n N aj) (hi:i<n) (hN:n≤N):CInv ops n N (aj.setIfInBounds i true):=
 ⟨by simp[inv.size],fun j h1 h2=>by rw[getD_set_ne true ae];exact inv.mid j h1 h2,fun t h1 h2=>by rw[getD_set_ne true ae];exact inv.tail t h1 h2⟩
theorem CInv.lt {n N:Nat} {aj:Array Bool} (inv:CInv ops n N aj) (hs:qh md ops N=true) {i:Nat} (hi:i<n) (hN:n≤N) (hun:aj.getD i true=false) {j:Nat} (hj:j∈Region.ready md ops aj):j<n:=by
 rcases Nat.lt_or_ge j n with h|h
 ·exact h
 ·rcases Nat.lt_or_ge j N with h'|h'
  ·have:=(mem_ready.1 hj).1;rw[inv.mid j h h']at this;cases this
  ·exact absurd hj (tO hs inv.tail (i:=i) ae (getD_both hun) j h')
theorem uC {n N i:Nat} {oi:Oper} {v:Value} {L:Array Bool→Act→Prop} (hi:ops[i]?=some oi) (hsel:∀(j:Nat) (o:Oper) cs b,ops[j]?=some o→o.op≠.select cs b)
  (hs:qh md ops N=true) (hN:n≤N) (hin:i<n)
  (hdone:∀aj a,L aj a→∀j∈Region.ready md ops aj,n≤j):
  ∀(f:Nat) (aj:Array Bool) (a:Act),CInv ops n N aj→
   (∀j oj,ops[j]?=some oj→j≠i→aj.getD j true=false→(∀e∈oj.after,Region.binds md e=true→e.on≠i)→oi.apart ops oj=true)→
   i∈Region.ready md ops aj→kK P ops w0 oi v a→
   qi P md ops w0 n L f (aj.setIfInBounds i true) (a.put oi.dst v)→qi P md ops w0 n L (f+1) aj a:=by
 intro f;induction f with
 |zero=>exact Cc
 |succ f ih=>
  intro aj a inv hfree hr hy H;have hun:=(mem_ready.1 hr).1;refine⟨fun h=>gz,fun j hj=>?_⟩;have hjn:j<n:=inv.lt hs hin hN hun hj;refine⟨hjn,?_⟩;by_cases hji:j=i
  ·subst hji;exact hy.Jp hi H
  ·have h1:=(H.2 j (ready_mono hj hji)).2;obtain⟨hjun,oj,hoj,hall⟩:=mem_ready.1 hj;have hnot:∀e∈oj.after,Region.binds md e=true→e.on≠i:=fun e he hb heq=>by have h1:=hall e he hb;rw[heq,getD_both hun]at h1;cases h1
   have h2:=Tn hoj (hfree j oj hoj hji hjun hnot) (fun cs b=>hsel i oi cs b hi) (fun cs b=>hsel j oj cs b hoj) hy h1;have hfree':∀k ok,ops[k]?=some ok→k≠i→(aj.setIfInBounds j true).getD k true=false→
     (∀e∈ok.after,Region.binds md e=true→e.on≠i)→oi.apart ops ok=true:=fun k ok hk hki hun hno=>by
    exact qL
   refine Mv (fun a' h3=>ih (aj.setIfInBounds j true) a' (inv.set hjn hN) hfree' (ready_mono hr (Ne.symm hji)) h3.1 ?_) h2;rw[Array.setIfInBounds_comm _ _ hji];exact h3.2
def Km (md:Region.Mode) (ops:Array Oper) (N g:Nat):Nat→Nat→Array Bool→Bool
 |0,_,aj=>Region.seqB md ops g N aj
 |f+1,k,aj=>(Region.ready md ops aj).contains k&&Region.free md ops aj k&&Km md ops N g f (k+1) (aj.setIfInBounds k true)
theorem uE {n N g:Nat} {Lq:Act→Prop} (hsel:Region.noSelect ops=true) (hs:qh md ops N=true) (hN:n≤N):
  ∀(l:List Oper) (k:Nat) (aj:Array Bool) (a:Act),(∀j,j<l.length→l[j]?=ops[k+j]?)→k+l.length=n→CInv ops n N aj→
  Km md ops N g l.length k aj=true→jI P ops w0 Lq l a→
  qi P md ops w0 n (fun listed' a'=>CInv ops n N listed'∧Region.seqB md ops g N listed'=true∧Lq a') l.length aj a
 |[],k,aj,a,_,_,inv,hB,h=>⟨inv,by simpa[Km]using hB,h⟩
 |o::l,k,aj,a,hl,hk,inv,hB,h=>by
  have h0:ops[k]?=some o:=by simpa using(hl 0 av).symm
  simp only[List.length_cons,Km,Bool.and_eq_true]at hB
  obtain⟨⟨hr,hf⟩,hB'⟩:=hB
  have hkn:k<n:=jd
  have hr':k∈Region.ready md ops aj:=fQ
  have cZ:Jp P ops w0 k (jI P ops w0 Lq l) a:=by unfold Jp;simp only[h0];exact h
  obtain⟨v,hy,hK⟩:=wH h0 cZ
  exact uC h0 (Region.noSelect_spec hsel) hs hN hkn (fun listed' a' hL j hj=>aS hN (seqB_ready hL.2.1 j hj)) l.length aj a inv (Region.free_spec h0 hf) hr' hy
   (uE hsel hs hN l (k+1) _ _ (fun j hj=>by have:=hl (j+1) bU;simpa[Nat.add_assoc,Nat.add_comm 1 j]using this) jd (inv.set hkn hN) hB' hK)
end
section
variable {P:Program} {ops:Array Oper} {md:Region.Mode} {w0:World}
def oD (ops:Array Oper) (j:Nat):Option Tmp:=(ops[j]?).bind (·.dst)
def ptrTo (b:Nat):Value:=aR b
def iF (ops:Array Oper) (ps:List (Nat×Nat)) (a:Act):Act:=ps.foldl (fun a x=>a.put (oD ops x.1) (ptrTo x.2)) a
theorem Ms (ps:List (Nat×Nat)) (j b:Nat) (a:Act):iF ops (ps++[(j,b)]) a=(iF ops ps a).put (oD ops j) (ptrTo b):=by simp[iF,List.foldl_append]
structure Lays (P:Program) (md:Region.Mode) (ops:Array Oper) (n N:Nat) (O:Nat→Obj):Prop where
 run:∀j o,n≤j→j<N→ops[j]?=some o→∀(ev:Operand→Value) (w:World),(execOp ev o).run P w=.ok (.value (ptrTo w.heap.size)) (w.alloc (O j))
 there:∀j,n≤j→j<N→∃o,ops[j]?=some o∧o.guard=none∧∀e∈o.after,Region.binds md e=false
 apart:∀j o,n≤j→j<N→ops[j]?=some o→∀i oi,i<n→ops[i]?=some oi→(∀d,o.dst=some d→d∉oi.looksAt ops)∧(∀d,o.dst=some d→oi.dst≠some d)
 free:∀i oi,i<n→ops[i]?=some oi→∀e∈oi.after,Region.binds md e=true→¬(n≤e.on∧e.on<N)
def Laid (w0:World) (O:Nat→Obj) (ps:List (Nat×Nat)) (w:World):Prop:=
 aJ w0 w∧(∀x∈ps,w.heap[x.2]?=some (O x.1)∧w0.heap.size≤x.2)∧(ps.map (·.2)).Nodup
theorem Laid.later {O:Nat→Obj} {ps:List (Nat×Nat)} {w w':World} (h:Laid w0 O ps w) (hb:aJ w w'):Laid w0 O ps w':=by refine⟨h.1.trans (hb.mono h.1.size),fun x hx=>?_,h.2.2⟩;obtain⟨h1,h2⟩:=h.2.1 x hx;have hlt:x.2<w.heap.size:=(Array.getElem?_eq_some_iff.1 h1).1;exact⟨(hb.block _ hlt).trans h1,h2⟩
theorem Laid.lay {O:Nat→Obj} {ps:List (Nat×Nat)} {w:World} (h:Laid w0 O ps w) (j:Nat):Laid w0 O (ps++[(j,w.heap.size)]) (w.alloc (O j)):=by
 have hb:aJ w (w.alloc (O j)):=(aK _ _).alloc (aH _) _;have h':=h.later hb;refine⟨h'.1,fun x hx=>?_,?_⟩
 ·rcases h_.1 hx with hx|hx
  ·exact h'.2.1 x hx
  ·have:x=(j,w.heap.size):=by simpa using hx
   subst this;exact⟨by show(w.heap.push (O j))[w.heap.size]?=some (O j);simp,h.1.size⟩
 ·rw[List.map_append,List.nodup_append];refine⟨h.2.2,av,?_⟩;intro b hb' c hc;have:c=w.heap.size:=by simpa using hc
  subst this;obtain⟨x,hx,rfl⟩:=List.mem_map.1 hb';have hlt:x.2<w.heap.size:=(Array.getElem?_eq_some_iff.1 (h.2.1 x hx).1).1;omega
theorem BM {o:Oper} (hs:∀cs b,o.op≠.select cs b) (ps:List (Nat×Nat)) (h:∀x∈ps,∀d,oD ops x.1=some d→d∉o.looksAt ops):
  ∀a:Act,execOp (iF ops ps a).eval o=execOp a.eval o∧Region.wanted o (yielded ops (iF ops ps a).tmps)=Region.wanted o (yielded ops a.tmps):=by
 induction ps with
 |nil=>exact fun a=>⟨rfl,rfl⟩
 |cons x ps ih=>intro a;have h1:=ih (fun y hy=>h y (List.mem_cons_of_mem _ hy)) (a.put (oD ops x.1) (ptrTo x.2));have h2:=h x (List.mem_cons_self ..);exact⟨h1.1.trans (execOp_put o hs a _ _ h2),h1.2.trans (wanted_put o a _ _ h2)⟩
theorem Qw {d':Option Tmp} (v:Value) (ps:List (Nat×Nat)) (h:∀x∈ps,∀d,oD ops x.1=some d→d'≠some d):
  ∀a:Act,(iF ops ps a).put d' v=iF ops ps (a.put d' v):=by
 induction ps with
 |nil=>exact fun _=>rfl
 |cons x ps ih=>intro a;have h1:=ih (fun y hy=>h y (List.mem_cons_of_mem _ hy)) (a.put (oD ops x.1) (ptrTo x.2));have h2:=h x (List.mem_cons_self ..);show(iF ops ps (a.put (oD ops x.1) (ptrTo x.2))).put d' v=iF ops ps ((a.put d' v).put (oD ops x.1) (ptrTo x.2));rw[h1,Act.put_comm a _ v h2]
structure Real (ops:Array Oper) (w0:World) (O:Nat→Obj) (n N:Nat) (aj dM:Array Bool) (w:World) (ps:List (Nat×Nat)) (rem:List Nat):Prop where
 size:aj.size=ops.size
 same:∀j b,(j<n∨N≤j)→aj.getD j b=dM.getD j b
 done:∀x∈ps,aj.getD x.1 true=true
 todo:∀j∈rem,aj.getD j true=false
 perm:(ps.map (·.1)++rem).Perm (List.range' n (N-n))
 laid:Laid w0 O ps w
theorem Oper.Qx {o:Oper} {a:Act} {v:Value} {w:World} {K':Act→World→Prop} {Q':Exit→Act→World→Prop} (h3:wu P o a w v) (h:∀w',aJ w w'→K' (a.put o.dst v) w'):o.wp P a w K' Q':=by
 unfold wu Oper.quietAt at h3;unfold Oper.wp;generalize (execOp a.eval o).run P w=r at*;cases r with
 |ok n w'=>
  cases n<;>simp only[Oper.quietUpon]at h3<;>simp only[Oper.upon]
  case value u=>obtain⟨e1,e2⟩:=h3;rw[e1,e2];exact h _ (aK _ _)
  case skip=>obtain⟨e1,e2⟩:=h3;rw[e1,←e2];exact h _ (aK _ _)
  case enter f args=>obtain⟨e1,hc⟩:=h3;rw[e1];exact hc.mono fun e w'' ⟨he,hw''⟩=>by subst he;exact h _ hw''
 |halt x w'=>simp only[Oper.quietUpon]at h3
theorem FT {Q':Exit→Act→World→Prop} {O:Nat→Obj} {n N g:Nat} {Lq:Act→Prop} (hsel:∀(j:Nat) (o:Oper) cs b,ops[j]?=some o→o.op≠.select cs b) (hs:qh md ops N=true) (hN:n≤N) (hNs:N≤ops.size) (hl:Lays P md ops n N O)
  (hT:∀aj a w ps,(ps.map (·.1)).Perm (List.range' n (N-n))→Laid w0 O ps w→Region.seqB md ops g N aj=true→Lq a→wpAny P md ops Q' g aj (iF ops ps a) w):
  ∀(s f:Nat) (aj dM:Array Bool) (a:Act) (w:World) (ps:List (Nat×Nat)) (rem:List Nat),s=f+rem.length→Real ops w0 O n N aj dM w ps rem→CInv ops n N dM→
   qi P md ops w0 n (fun listed' a'=>CInv ops n N listed'∧Region.seqB md ops g N listed'=true∧Lq a') f dM a→wpAny P md ops Q' (s+g) aj (iF ops ps a) w:=by
 intro s;induction s with
 |zero=>exact BN
 |succ s ih=>
  intro f aj dM a w ps rem FU hR inv h;have hmid:∀j∈rem,n≤j∧j<N:=fun j hj=>by have:=hR.perm.mem_iff.1 (List.mem_append_right _ hj);rw[List.mem_range'_1]at this;omega
  have hps:∀x∈ps,n≤x.1∧x.1<N:=fun x hx=>by have:=hR.perm.mem_iff.1 (List.mem_append_left _ (List.mem_map_of_mem hx));rw[List.mem_range'_1]at this;omega
  have FV:∀t,N≤t→t<ops.size→aj.getD t true=false:=fun t h1 h2=>(hR.same t true (.inr h1)).trans (inv.tail t h1 h2);have toM:∀i,i<n→i∈Region.ready md ops aj→i∈Region.ready md ops dM:=fun i hi hr=>by exact BO
  have Xz:∀i,i<n→i∈Region.ready md ops dM→i∈Region.ready md ops aj:=fun i hi hr=>by exact BP
  have aiO:∀j∈rem,j∈Region.ready md ops aj:=fun j hj=>by exact BQ
  have hun:∃i,i<N∧aj.getD i false=false∧i∈Region.ready md ops aj:=by exact BR
  rw[show s+1+g=(s+g)+1 from ae];refine⟨fun h0=>?_,fun i hi=>?_⟩
  ·obtain⟨i,_,_,hr⟩:=hun;rw[h0]at hr;cases hr
  ·rcases Nat.lt_or_ge i n with hin|hin
   ·
    obtain⟨f',rfl⟩:∃f',f=f'+1:=by
     cases f with
     |zero=>
      have:=seqB_ready h.2.1 i (toM i hin hi)
      omega
     |succ f'=>exact⟨f',rfl⟩
    obtain⟨o,ho,_⟩:=(mem_ready.1 hi).2
    have hh:=(h.2 i (toM i hin hi)).2
    have hap:∀x∈ps,(∀d,oD ops x.1=some d→d∉o.looksAt ops)∧(∀d,oD ops x.1=some d→o.dst≠some d):=fun x hx=>by
     exact BS
    have hsame:=BM (ops:=ops) (o:=o) (fun cs b=>hsel i o cs b ho) ps (fun x hx=>(hap x hx).1) a
    have adF:=inv.set hin hN
    have next:∀(v:Value) (w':World),aJ w w'→qi P md ops w0 n (fun listed' a'=>CInv ops n N listed'∧Region.seqB md ops g N listed'=true∧Lq a') f' (dM.setIfInBounds i true) (a.put o.dst v)→
      wpAny P md ops Q' (s+g) (aj.setIfInBounds i true) ((iF ops ps a).put o.dst v) w':=fun v w' hb hk=>by
     exact BU
    exact BX
   ·rcases Nat.lt_or_ge i N with hiN|hiN
    ·
     exact BZ
    ·
     obtain⟨i',hi',hu,_⟩:=hun
     exact absurd hi (tO hs FV hi' hu i hiN)
end
section
variable {P:Program} {md:Region.Mode}
def Tj (md:Region.Mode) (ops:Array Oper) (n N:Nat):Bool:=
 ((List.range n).all fun i=>match ops[i]? with
  |some oi=>(oi.after.all fun e=> !Region.binds md e|| !(decide (n≤e.on)&&decide (e.on<N)))&&(List.range N).all fun j=>decide (j<n)||match ops[j]? with
   |some o=>o.apart ops oi
   |none=>true
  |none=>true)&&
 (List.range N).all fun j=>decide (j<n)||match ops[j]? with
  |some o=>o.guard.isNone&&o.after.all fun e=> !Region.binds md e
  |none=>false
theorem Tm {ops:Array Oper} {n N:Nat} {O:Nat→Obj} (h:Tj md ops n N=true) (hr:∀j o,n≤j→j<N→ops[j]?=some o→∀(ev:Operand→Value) (w:World),(execOp ev o).run P w=.ok (.value (ptrTo w.heap.size)) (w.alloc (O j))):Lays P md ops n N O:=by
 simp only[Tj,Bool.and_eq_true]at h;obtain⟨h1,h2⟩:=h;have g1:∀i oi,i<n→ops[i]?=some oi→(∀e∈oi.after,Region.binds md e=true→¬(n≤e.on∧e.on<N))∧∀j o,n≤j→j<N→ops[j]?=some o→o.apart ops oi=true:=fun i oi hi ho=>by
  have:=List.all_eq_true.1 h1 i (List.mem_range.2 hi);simp only[ho,Bool.and_eq_true]at this;refine⟨fun e he hb hc=>?_,fun j o hj hjN hjo=>?_⟩
  ·have:=Array.all_eq_true_iff_forall_mem.1 this.1 e he;simp[hb,hc.1,hc.2]at this
  ·have:=List.all_eq_true.1 this.2 j (List.mem_range.2 hjN);simp only[hjo,Bool.or_eq_true,decide_eq_true_eq]at this;exact this.resolve_left ae
 have g2:∀j,n≤j→j<N→∃o,ops[j]?=some o∧o.guard=none∧∀e∈o.after,Region.binds md e=false:=fun j hj hjN=>by
  have:=List.all_eq_true.1 h2 j (List.mem_range.2 hjN);simp only[Bool.or_eq_true,decide_eq_true_eq]at this;have:=this.resolve_left ae;split at this
  ·rename_i o ho;simp only[Bool.and_eq_true,Option.isNone_iff_eq_none]at this;exact⟨o,ho,this.1,fun e he=>by have:=Array.all_eq_true_iff_forall_mem.1 this.2 e he;simpa using this⟩
  ·cases this
 exact⟨hr,g2,fun j o hj hjN ho i oi hi hoi=>by have:=Oper.apart_spec ((g1 i oi hi hoi).2 j o hj hjN ho);exact⟨this.1,this.2.1⟩,fun i oi hi hoi=>(g1 i oi hi hoi).1⟩
def BJ (md:Region.Mode) (ops:Array Oper) (n N:Nat) (dM:Array Bool):Bool:=
 Region.noSelect ops&&decide (N<ops.size)&&qh md ops N&&Tj md ops n N&&Km md ops N (ops.size-N) n 0 dM
theorem wo {id:Nat} {Q:Exit→Act→World→Prop} {a:Act} {w:World} {l:List Oper} (n N:Nat) (O:Nat→Obj) (dM:Array Bool) (hN:n≤N) (hm:P.follows .mixedOrders=true) (hB:BJ .any l.toArray n N dM=true)
  (inv:CInv l.toArray n N dM) (hsame:∀j b,(j<n∨N≤j)→(Array.replicate l.toArray.size false).getD j b=dM.getD j b)
  (hr:∀j o,n≤j→j<N→l.toArray[j]?=some o→∀(ev:Operand→Value) (w:World),(execOp ev o).run P w=.ok (.value (ptrTo w.heap.size)) (w.alloc (O j)))
  (h:jI P l.toArray w (fun a'=>∀ps w',(ps.map (·.1)).Perm (List.range' n (N-n))→Laid w O ps w'→wpList P l.toArray Q (l.drop N) (iF l.toArray ps a') w') (l.take n) a):(Code.region id l.toArray true).wp P Q a w:=by
 simp only[BJ,Bool.and_eq_true,decide_eq_true_eq]at hB;obtain⟨⟨⟨⟨hsel,hNs⟩,hs⟩,hlB⟩,hlex⟩:=hB;have hNl:N<l.length:=by simpa using hNs
 have htl:(l.take n).length=n:=bU;have hdl:(l.drop N).length=l.toArray.size-N:=av;exact BK
theorem aeT (ops:Array Oper) (n:Nat) (h:n<ops.size):CInv ops n (n+1) ((Array.replicate ops.size false).setIfInBounds n true)∧∀j b,(j<n∨n+1≤j)→(Array.replicate ops.size false).getD j b=((Array.replicate ops.size false).setIfInBounds n true).getD j b:=by
 refine⟨⟨av,fun j h1 h2=>?_,fun t h1 h2=>?_⟩,fun j b hj=>?_⟩
 ·obtain rfl:j=n:=ae;simp[h]
 ·rw[getD_set_ne true ae];simp only[Array.getD_eq_getD_getElem?,Array.getElem?_replicate,h2,if_true,Option.getD_some]
 ·rw[getD_set_ne b ae]
theorem Mq {w:World} {b:Nat} {c:Array Value} {t:TypeId} (h:w.heap[b]?=some (.cells c t)):(∀i,w.cell? ⟨b,i,none⟩=c[i]?)∧(∀i,w.frozen? ⟨b,i,none⟩=false)∧b<w.heap.size:=by
 refine⟨fun i=>?_,fun i=>?_,(Array.getElem?_eq_some_iff.1 h).1⟩
 ·simp[World.cell?,h]
 ·simp[World.frozen?,h]
theorem fF {id:Nat} {Q:Exit→Act→World→Prop} {a:Act} {w:World} {l:List Oper} (n:Nat) (d:Tmp) (c:Array Value) (t:TypeId) (hd:oD l.toArray n=some d) (hm:P.follows .mixedOrders=true)
  (hB:BJ .any l.toArray n (n+1) ((Array.replicate l.toArray.size false).setIfInBounds n true)=true)
  (hr:∀o,l.toArray[n]?=some o→∀(ev:Operand→Value) (w:World),(execOp ev o).run P w=.ok (.value (aR w.heap.size)) (w.alloc (.cells c t)))
  (h:∀N,qd w N→jI P l.toArray w (fun a'=>∀b w',aJ w w'→(∀i,w'.cell? ⟨b,i,none⟩=c[i]?)→(∀i,w'.frozen? ⟨b,i,none⟩=false)→w.heap.size≤b→b<w'.heap.size→
   wpList P l.toArray Q (l.drop (n+1)) (a'.put (some d) (aR b)) w') (l.take n) a):(Code.region id l.toArray true).wp P Q a w:=by exact BL
theorem kI {ops:Array Oper} {w0:World} {Q:Act→Prop} {a:Act} {o:Oper} {rest:List Oper}
  (h:∀K:Act→Prop,(∀a,jI P ops w0 Q rest a→K a)→if Region.wanted o (yielded ops a.tmps)then∃v,(∀x:dh w0,o.quietAt P a (fun w''=>∃y:dh x.out,w''=y.out) x.out v)∧K (a.put o.dst v)else K (a.put o.dst undef)):jI P ops w0 Q (o::rest) a:=
 Mr fun K hK=>by
  have:=h K hK;split
  ·rename_i hw;rw[if_pos hw]at this;obtain⟨v,h1,h2⟩:=this;refine⟨v,fun w hb=>?_,h2⟩;have:=h1 ⟨w,hb⟩;unfold wu;unfold Oper.quietAt at*;generalize (execOp a.eval o).run P w=r at*;cases r with
   |ok n w'=>
    cases n<;>simp only[Oper.quietUpon]at this⊢
    case enter f args=>exact⟨this.1,this.2.mono fun e w'' ⟨he,y,hy⟩=>⟨he,by rw[hy];exact y.below⟩⟩
    all_goals exact this
   |halt x w'=>simp only[Oper.quietUpon]at this
  ·rename_i hw;rw[if_neg hw]at this;exact this
theorem kJ {f:FuncId} {args:Array Value} {v:Value} {w:World} {x:dh w} (h:Calls P f args x.out fun e w'=>e=.returned v∧Below x.out.heap.size x.out w'):
  Calls P f args x.out fun e w''=>e=.returned v∧∃y:dh x.out,w''=y.out:=
 h.mono fun _ w' ⟨he,hb⟩=>⟨he,⟨w',hb⟩,rfl⟩
end
section
variable {P:Program} {md:Region.Mode}
def Op.vZ:Op→Bool
 |.extract ..=>true
 |_=>false
theorem v_ {ops:Array Oper} {Q:Exit→Act→World→Prop} {o:Oper} (he:Op.vZ o.op=true) {i:Nat} (hi:ops[i]?=some o) {K:Act→World→Prop} {a:Act} {w:World} (h:wpOp P ops Q i K a w):
  ∃v,Yields P ops o v a∧K (a.put o.dst v) w:=by
 unfold wpOp at h;simp only[hi]at h;by_cases hw:Region.wanted o (yielded ops a.tmps)=true
 ·rw[if_pos hw]at h;obtain⟨dst,op,type,pos,after,guard⟩:=o;cases op<;>simp only[Op.vZ,Bool.false_eq_true]at he
  rename_i x k;cases hx:a.eval x with
  |tuple vs=>
   cases hk:vs[k]? with
   |some v=>
    have hrun:∀w,(execOp a.eval ⟨dst,.extract x k,type,pos,after,guard⟩).run P w=.ok (.value v) w:=fun w=>by simp only[execOp,Instr.extract,hx,hk];rfl
    refine⟨v,.inl ⟨hw,hrun⟩,?_⟩;rcases h with h|⟨h,_⟩
    ·unfold Oper.wp at h;rw[hrun]at h;exact h
    ·exfalso;have h1:=h.1;simp only[execOp,Instr.extract,hx,hk]at h1;exact absurd (show noRoomEvent∈(#[]:Array Event)from h1) av
   |none=>
    exfalso;rcases h with h|⟨h,_⟩
    ·unfold Oper.wp at h;simp only[execOp,Instr.extract,hx,hk]at h;exact h
    ·have h1:=h.1;simp only[execOp,Instr.extract,hx,hk]at h1;exact absurd (show noRoomEvent∈(#[]:Array Event)from h1) av
  |_=>
   exfalso;rcases h with h|⟨h,_⟩
   ·unfold Oper.wp at h;simp only[execOp,Instr.extract,hx]at h;exact h
   ·have h1:=h.1;simp only[execOp,Instr.extract,hx]at h1;exact absurd (show noRoomEvent∈(#[]:Array Event)from h1) av
 ·rw[if_neg hw]at h;exact⟨undef,.inr ⟨by simpa using hw,rfl⟩,h⟩
end
section
variable {P:Program} {ops:Array Oper} {md:Region.Mode} {C:World→Prop}
theorem AX {Q:Exit→Act→World→Prop} {a:Act} {w:World} {l:List Oper} (n:Nat) (hB:Region.lexTailB .any l.toArray n=true)
  (hC:C w)
  (h:wpQuiet P l.toArray C (fun a'=>∀w',C w'→wpList P l.toArray Q (l.drop n) a' w') (l.take n) a):wpAny P .any l.toArray Q l.toArray.size (Array.replicate l.toArray.size false) a w:=by
 simp only[Region.lexTailB,Bool.and_eq_true,decide_eq_true_eq]at hB;obtain⟨⟨⟨⟨hsel,hn⟩,hs⟩,hc⟩,hlex⟩:=hB;have hn':n<l.length:=by simpa using hn
 have htl:(l.take n).length=n:=bU;have hdl:(l.drop n).length=l.toArray.size-n:=av;have inv0:HeadInv .any l.toArray n (Array.replicate l.toArray.size false):=
  ⟨av,fun j oj _ hl=>qN,fun t _ ht=>getD_in (by simpa using ht) (getD_replicate_false _ _)⟩
 have H:=zf (C:=C) (md:=.any) (g:=l.toArray.size-n) hsel hs hc hn (l.take n) 0 _ a (fun j hj=>by have hj':j<n:=qO;simp[hj']) (by simpa using htl) inv0 (by rw[htl];exact hlex) h;exact BI
end
end Qt
namespace Qm
open Go Go.RowKit Qt
section
variable {P:Program} {md:Region.Mode} {ops:Array Oper} {w0:World}
def Closed (md:Region.Mode) (ops:Array Oper) (aj:Array Bool):Prop:=∀j oj,ops[j]?=some oj→aj.getD j false=true→∀e∈oj.after,Region.binds md e=true→aj.getD e.on false=true
def qh (md:Region.Mode) (ops:Array Oper) (N:Nat):Bool:=((List.range N).all fun i=>(List.range (N+1)).any fun j=>decide (i<j)&&Region.waitsFor md ops j i)&&Region.chainB md ops N
theorem tO {N:Nat} (hs:qh md ops N=true) {aj:Array Bool} (hcl:Closed md ops aj) (FV:∀t,N≤t→t<ops.size→aj.getD t true=false) {i:Nat} (hi:i<N) (hun:aj.getD i false=false):
  ∀t,N≤t→t∉Region.ready md ops aj:=by
 intro t ht hr;simp only[qh,Bool.and_eq_true]at hs;have afp:∀d i,N-i≤d→i<N→aj.getD i false=false→N∉Region.ready md ops aj:=by
  intro d;induction d with
  |zero=>intro i h1 h2;omega
  |succ d ih=>
   intro i h1 hi hun hN;have h1':=List.all_eq_true.1 hs.1 i (List.mem_range.2 hi);obtain⟨j,hj,hw⟩:=List.any_eq_true.1 h1';rw[List.mem_range]at hj;simp only[Bool.and_eq_true,decide_eq_true_eq]at hw;obtain⟨hij,hw⟩:=hw;obtain⟨oj,hoj,e,he,hb,hon⟩:=Region.waitsFor_spec hw;by_cases hjN:j=N
   ·subst hjN;obtain⟨_,ot,hot,hall⟩:=mem_ready.1 hN;obtain rfl:oj=ot:=bD (hoj.symm.trans hot);have h2:=hall e he hb;rw[hon,hun]at h2;cases h2
   ·have hju:aj.getD j false=false:=by
     cases hc:aj.getD j false with
     |false=>rfl
     |true=>have:=hcl j oj hoj hc e he hb;rw[hon,hun]at this;cases this
    exact ih j ae ae hju hN
 obtain⟨_,ot,hot,hall⟩:=mem_ready.1 hr;have htlt:t<ops.size:=(Array.getElem?_eq_some_iff.1 hot).1;by_cases htn:t=N
 ·subst htn;exact afp _ i (aH _) hi hun hr
 ·have h1:=List.all_eq_true.1 hs.2 t (List.mem_range.2 htlt);exact B_
structure CInv (md:Region.Mode) (ops:Array Oper) (n N:Nat) (aj:Array Bool):Prop extends Qt.CInv ops n N aj where
 closed:Closed md ops aj
theorem CInv.set {n N i:Nat} {aj:Array Bool} (inv:CInv md ops n N aj) (hr:i∈Region.ready md ops aj) (hi:i<n) (hN:n≤N):CInv md ops n N (aj.setIfInBounds i true):=by
 refine⟨inv.toCInv.set hi hN,fun j oj hoj hlj e he hb=>?_⟩;have up:∀k,aj.getD k false=true→(aj.setIfInBounds i true).getD k false=true:=by
  intro k hk;by_cases hik:i=k
  ·subst hik;have:i<aj.size:=by
    rcases Nat.lt_or_ge i aj.size with h|h
    ·exact h
    ·simp[Nat.not_lt.2 h]at hk
   simp[this]
  ·rw[getD_set_ne false hik];exact hk
 by_cases hij:i=j
 ·subst hij;obtain⟨_,o,ho,hall⟩:=mem_ready.1 hr;obtain rfl:o=oj:=bD (ho.symm.trans hoj);exact up _ (hall e he hb)
 ·rw[getD_set_ne false hij]at hlj;exact up _ (inv.closed j oj hoj hlj e he hb)
theorem CInv.lt {n N:Nat} {aj:Array Bool} (inv:CInv md ops n N aj) (hs:qh md ops N=true) {i:Nat} (hi:i<n) (hN:n≤N) (hun:aj.getD i true=false) {j:Nat} (hj:j∈Region.ready md ops aj):j<n:=by
 rcases Nat.lt_or_ge j n with h|h
 ·exact h
 ·rcases Nat.lt_or_ge j N with h'|h'
  ·have:=(mem_ready.1 hj).1;rw[inv.mid j h h']at this;cases this
  ·exact absurd hj (tO hs inv.closed inv.tail (i:=i) ae (getD_both hun) j h')
theorem uC {n N i:Nat} {oi:Oper} {v:Value} {L:Array Bool→Act→Prop} (hi:ops[i]?=some oi) (hsel:∀(j:Nat) (o:Oper) cs b,ops[j]?=some o→o.op≠.select cs b)
  (hs:qh md ops N=true) (hN:n≤N) (hin:i<n)
  (hdone:∀aj a,L aj a→∀j∈Region.ready md ops aj,n≤j):
  ∀(f:Nat) (aj:Array Bool) (a:Act),CInv md ops n N aj→
   (∀j oj,ops[j]?=some oj→j≠i→aj.getD j true=false→(∀e∈oj.after,Region.binds md e=true→e.on≠i)→oi.apart ops oj=true)→
   i∈Region.ready md ops aj→kK P ops w0 oi v a→
   qi P md ops w0 n L f (aj.setIfInBounds i true) (a.put oi.dst v)→qi P md ops w0 n L (f+1) aj a:=by
 intro f;induction f with
 |zero=>exact Cc
 |succ f ih=>
  intro aj a inv hfree hr hy H;have hun:=(mem_ready.1 hr).1;refine⟨fun h=>gz,fun j hj=>?_⟩;have hjn:j<n:=inv.lt hs hin hN hun hj;refine⟨hjn,?_⟩;by_cases hji:j=i
  ·subst hji;exact hy.Jp hi H
  ·have h1:=(H.2 j (ready_mono hj hji)).2;obtain⟨hjun,oj,hoj,hall⟩:=mem_ready.1 hj;have hnot:∀e∈oj.after,Region.binds md e=true→e.on≠i:=fun e he hb heq=>by have h1:=hall e he hb;rw[heq,getD_both hun]at h1;cases h1
   have h2:=Tn hoj (hfree j oj hoj hji hjun hnot) (fun cs b=>hsel i oi cs b hi) (fun cs b=>hsel j oj cs b hoj) hy h1;have hfree':∀k ok,ops[k]?=some ok→k≠i→(aj.setIfInBounds j true).getD k true=false→
     (∀e∈ok.after,Region.binds md e=true→e.on≠i)→oi.apart ops ok=true:=fun k ok hk hki hun hno=>by
    exact qL
   refine Mv (fun a' h3=>ih (aj.setIfInBounds j true) a' (inv.set hj hjn hN) hfree' (ready_mono hr (Ne.symm hji)) h3.1 ?_) h2;rw[Array.setIfInBounds_comm _ _ hji];exact h3.2
theorem uE {n N g:Nat} {Lq:Act→Prop} (hsel:Region.noSelect ops=true) (hs:qh md ops N=true) (hN:n≤N):
  ∀(l:List Oper) (k:Nat) (aj:Array Bool) (a:Act),(∀j,j<l.length→l[j]?=ops[k+j]?)→k+l.length=n→CInv md ops n N aj→
  Km md ops N g l.length k aj=true→jI P ops w0 Lq l a→
  qi P md ops w0 n (fun listed' a'=>CInv md ops n N listed'∧Region.seqB md ops g N listed'=true∧Lq a') l.length aj a
 |[],k,aj,a,_,_,inv,hB,h=>⟨inv,by simpa[Km]using hB,h⟩
 |o::l,k,aj,a,hl,hk,inv,hB,h=>by
  have h0:ops[k]?=some o:=by simpa using(hl 0 av).symm
  simp only[List.length_cons,Km,Bool.and_eq_true]at hB
  obtain⟨⟨hr,hf⟩,hB'⟩:=hB
  have hkn:k<n:=jd
  have hr':k∈Region.ready md ops aj:=fQ
  have cZ:Jp P ops w0 k (jI P ops w0 Lq l) a:=by unfold Jp;simp only[h0];exact h
  obtain⟨v,hy,hK⟩:=wH h0 cZ
  exact uC h0 (Region.noSelect_spec hsel) hs hN hkn (fun listed' a' hL j hj=>aS hN (seqB_ready hL.2.1 j hj)) l.length aj a inv (Region.free_spec h0 hf) hr' hy
   (uE hsel hs hN l (k+1) _ _ (fun j hj=>by have:=hl (j+1) bU;simpa[Nat.add_assoc,Nat.add_comm 1 j]using this) jd (inv.set hr' hkn hN) hB' hK)
theorem FT {Q':Exit→Act→World→Prop} {O:Nat→Obj} {n N g:Nat} {Lq:Act→Prop} (hsel:∀(j:Nat) (o:Oper) cs b,ops[j]?=some o→o.op≠.select cs b) (hs:qh md ops N=true) (hN:n≤N) (hNs:N≤ops.size) (hl:Lays P md ops n N O)
  (hT:∀aj a w ps,(ps.map (·.1)).Perm (List.range' n (N-n))→Laid w0 O ps w→Region.seqB md ops g N aj=true→Lq a→wpAny P md ops Q' g aj (iF ops ps a) w):
  ∀(s f:Nat) (aj dM:Array Bool) (a:Act) (w:World) (ps:List (Nat×Nat)) (rem:List Nat),s=f+rem.length→Real ops w0 O n N aj dM w ps rem→CInv md ops n N dM→
   qi P md ops w0 n (fun listed' a'=>CInv md ops n N listed'∧Region.seqB md ops g N listed'=true∧Lq a') f dM a→wpAny P md ops Q' (s+g) aj (iF ops ps a) w:=by
 intro s;induction s with
 |zero=>exact BN
 |succ s ih=>
  intro f aj dM a w ps rem FU hR inv h;have hmid:∀j∈rem,n≤j∧j<N:=fun j hj=>by have:=hR.perm.mem_iff.1 (List.mem_append_right _ hj);rw[List.mem_range'_1]at this;omega
  have hps:∀x∈ps,n≤x.1∧x.1<N:=fun x hx=>by have:=hR.perm.mem_iff.1 (List.mem_append_left _ (List.mem_map_of_mem hx));rw[List.mem_range'_1]at this;omega
  have FV:∀t,N≤t→t<ops.size→aj.getD t true=false:=fun t h1 h2=>(hR.same t true (.inr h1)).trans (inv.tail t h1 h2);have hclosed:Closed md ops aj:=by
   intro j oj hoj hlj e he hb;rcases Nat.lt_or_ge j n with hj|hj
   ·have hm:¬(n≤e.on∧e.on<N):=hl.free j oj hj hoj e he hb;rw[hR.same e.on false ae];exact inv.closed j oj hoj (by rw[←hR.same j false (.inl hj)];exact hlj) e he hb
   ·rcases Nat.lt_or_ge j N with hj'|hj'
    ·obtain⟨o,ho,_,haf⟩:=hl.there j hj hj';obtain rfl:o=oj:=bD (ho.symm.trans hoj);rw[haf e he]at hb;cases hb
    ·have h1:=getD_both (FV j hj' (Array.getElem?_eq_some_iff.1 hoj).1);rw[hlj]at h1;cases h1
  have toM:∀i,i<n→i∈Region.ready md ops aj→i∈Region.ready md ops dM:=fun i hi hr=>by exact BO
  have Xz:∀i,i<n→i∈Region.ready md ops dM→i∈Region.ready md ops aj:=fun i hi hr=>by exact BP
  have aiO:∀j∈rem,j∈Region.ready md ops aj:=fun j hj=>by exact BQ
  have hun:∃i,i<N∧aj.getD i false=false∧i∈Region.ready md ops aj:=by exact BR
  rw[show s+1+g=(s+g)+1 from ae];refine⟨fun h0=>?_,fun i hi=>?_⟩
  ·obtain⟨i,_,_,hr⟩:=hun;rw[h0]at hr;cases hr
  ·rcases Nat.lt_or_ge i n with hin|hin
   ·
    obtain⟨f',rfl⟩:∃f',f=f'+1:=by
     cases f with
     |zero=>
      have:=seqB_ready h.2.1 i (toM i hin hi)
      omega
     |succ f'=>exact⟨f',rfl⟩
    obtain⟨o,ho,_⟩:=(mem_ready.1 hi).2
    have hh:=(h.2 i (toM i hin hi)).2
    have hap:∀x∈ps,(∀d,oD ops x.1=some d→d∉o.looksAt ops)∧(∀d,oD ops x.1=some d→o.dst≠some d):=fun x hx=>by
     exact BS
    have hsame:=BM (ops:=ops) (o:=o) (fun cs b=>hsel i o cs b ho) ps (fun x hx=>(hap x hx).1) a
    have adF:=inv.set (toM i hin hi) hin hN
    have next:∀(v:Value) (w':World),aJ w w'→qi P md ops w0 n (fun listed' a'=>CInv md ops n N listed'∧Region.seqB md ops g N listed'=true∧Lq a') f' (dM.setIfInBounds i true) (a.put o.dst v)→
      wpAny P md ops Q' (s+g) (aj.setIfInBounds i true) ((iF ops ps a).put o.dst v) w':=fun v w' hb hk=>by
     exact BU
    exact BX
   ·rcases Nat.lt_or_ge i N with hiN|hiN
    ·
     exact BZ
    ·
     obtain⟨i',hi',hu,_⟩:=hun
     exact absurd hi (tO hs hclosed FV hi' hu i hiN)
end
section
variable {P:Program} {md:Region.Mode}
def BJ (md:Region.Mode) (ops:Array Oper) (n N:Nat) (dM:Array Bool):Bool:=
 Region.noSelect ops&&decide (N<ops.size)&&qh md ops N&&Tj md ops n N&&Km md ops N (ops.size-N) n 0 dM
theorem wo {id:Nat} {Q:Exit→Act→World→Prop} {a:Act} {w:World} {l:List Oper} (n N:Nat) (O:Nat→Obj) (dM:Array Bool) (hN:n≤N) (hm:P.follows .mixedOrders=true) (hB:BJ .any l.toArray n N dM=true)
  (inv0:Qt.CInv l.toArray n N dM) (hsame:∀j b,(j<n∨N≤j)→(Array.replicate l.toArray.size false).getD j b=dM.getD j b)
  (hr:∀j o,n≤j→j<N→l.toArray[j]?=some o→∀(ev:Operand→Value) (w:World),(execOp ev o).run P w=.ok (.value (ptrTo w.heap.size)) (w.alloc (O j)))
  (h:jI P l.toArray w (fun a'=>∀ps w',(ps.map (·.1)).Perm (List.range' n (N-n))→Laid w O ps w'→wpList P l.toArray Q (l.drop N) (iF l.toArray ps a') w') (l.take n) a):(Code.region id l.toArray true).wp P Q a w:=by
 simp only[BJ,Bool.and_eq_true,decide_eq_true_eq]at hB;obtain⟨⟨⟨⟨hsel,hNs⟩,hs⟩,hlB⟩,hlex⟩:=hB;have hNl:N<l.length:=by simpa using hNs
 have htl:(l.take n).length=n:=bU;have hdl:(l.drop N).length=l.toArray.size-N:=av;have inv:CInv .any l.toArray n N dM:=⟨inv0,by
  intro j oj hoj hlj e he hb;by_cases hm:n≤j∧j<N
  ·obtain⟨o,ho,_,haf⟩:=(Tm (P:=P) hlB hr).there j hm.1 hm.2;obtain rfl:o=oj:=bD (ho.symm.trans hoj);rw[haf e he]at hb;cases hb
  ·have:=hsame j false ae;rw[hlj,getD_replicate_false]at this;cases this⟩
 exact BK
theorem fF {id:Nat} {Q:Exit→Act→World→Prop} {a:Act} {w:World} {l:List Oper} (n:Nat) (d:Tmp) (c:Array Value) (t:TypeId) (hd:oD l.toArray n=some d) (hm:P.follows .mixedOrders=true)
  (hB:BJ .any l.toArray n (n+1) ((Array.replicate l.toArray.size false).setIfInBounds n true)=true)
  (hr:∀o,l.toArray[n]?=some o→∀(ev:Operand→Value) (w:World),(execOp ev o).run P w=.ok (.value (aR w.heap.size)) (w.alloc (.cells c t)))
  (h:∀N,qd w N→jI P l.toArray w (fun a'=>∀b w',aJ w w'→(∀i,w'.cell? ⟨b,i,none⟩=c[i]?)→(∀i,w'.frozen? ⟨b,i,none⟩=false)→w.heap.size≤b→b<w'.heap.size→
   wpList P l.toArray Q (l.drop (n+1)) (a'.put (some d) (aR b)) w') (l.take n) a):(Code.region id l.toArray true).wp P Q a w:=by exact BL
end
end Qm
namespace Bk
open Go Go.RowKit Qt
variable {w w':World} {b:Nat} {L:List Value}
theorem aP {P:Program} {c:Code} {Q:Exit→Act→World→Prop} {a:Act} (h:∀W,W=w→Code.wp P c Q a W):Code.wp P c Q a w:=h w rfl
structure aV (w:World) (b:Nat) (L:List Value):Prop where
 cell:∀i,w.cell? ⟨b,i,none⟩=L[i]?
 free:∀i,w.frozen? ⟨b,i,none⟩=false
 lt:b<w.heap.size
theorem aV.keep (h:aV w b L) (hs:w.heap.size≤w'.heap.size) (e:w'.heap[b]?=w.heap[b]?):aV w' b L:=
 ⟨fun i=>(bg (a:=⟨b,i,none⟩) e).trans (h.cell i),fun i=>(World.frozen?_of_block (a:=⟨b,i,none⟩) e).trans (h.free i),bH h.lt hs⟩
theorem aV.later (h:aV w b L) (hb:aJ w w'):aV w' b L:=h.keep hb.size (hb.block b h.lt)
theorem aV.drew (h:aV w b L):aV w.drew b L:=⟨h.cell,h.free,h.lt⟩
theorem aV.alloc (h:aV w b L) (o:Obj):aV (w.alloc o) b L:=h.keep av (gV _ _ _ h.lt)
theorem aV.other (h:aV w b L) {p:Addr} (hp:p.block≠b) (v:Value):aV (w.setCell p v) b L:=
 h.keep (by simp[World.setCell]) (dI _ _ _ _ (Ne.symm hp))
theorem aV.put (h:aV w b L) (i:Nat) (v:Value):aV (w.setCell ⟨b,i,none⟩ v) b (L.set i v):=by
 refine⟨fun j=>?_,fun j=>by simp[h.free],by simpa[World.setCell]using h.lt⟩;rw[au,if_pos rfl,List.getElem?_set];by_cases e:j=i
 ·subst e;rw[if_pos rfl,if_pos rfl,h.cell j];by_cases hl:j<L.length
  ·simp[hl]
  ·simp[hl,List.getElem?_eq_none (Nat.le_of_not_lt hl)]
 ·rw[if_neg e,if_neg (Ne.symm e),h.cell j]
theorem aV.new (w:World) (L:List Value) (t:TypeId) (b:Nat) (hb:b=w.heap.size):aV (w.alloc (.cells L.toArray t)) b L:=by subst hb;exact⟨fun i=>by rw[World.cell?_alloc_new];simp,fun i=>World.frozen?_alloc_new w _ t i,av⟩
end Bk
namespace Se
open Go.RowKit Qt
variable {Z b:Nat} {u w:World}
structure vO (Z b:Nat) (w w':World):Prop where
 os:w'.os=w.os
 tape:w'.tape=w.tape
 output:w'.output=w.output
 size:w.heap.size≤w'.heap.size
 block:∀x,x<Z→x≠b→w'.heap[x]?=w.heap[x]?
theorem vO.refl (Z b:Nat) (w:World):vO Z b w w:=⟨rfl,rfl,rfl,aH _,fun _ _ _=>rfl⟩
theorem vO.below {w':World} (h:vO Z b u w) (hb:Below Z w w'):vO Z b u w':=
 ⟨hb.os.trans h.os,hb.tape.trans h.tape,hb.output.trans h.output,aS h.size hb.size,fun x h1 h2=>(hb.block x h1).trans (h.block x h1 h2)⟩
theorem vO.set (h:vO Z b u w) (o:Nat) (v:Value):vO Z b u (w.setCell ⟨b,o,none⟩ v):=
 ⟨h.os,h.tape,h.output,by simpa using h.size,fun x h1 h2=>(dI _ _ _ _ h2).trans (h.block x h1 h2)⟩
theorem vO.alloc (h:vO Z b u w) (hZ:Z≤w.heap.size) (o:Obj):vO Z b u (w.alloc o):=h.below ((aK _ _).alloc hZ _)
end Se
end Go.Proofs.YtohpdonnpbjfdaaGreatDoor
