/- What is shown: laws of regions. Conditions: as each theorem states. -/
import Derived.ArgAppend
import Derived.OwnWalk
import Derived.Test.YtohpdonnpbjfdaaGreatDoorY8
set_option maxHeartbeats 40000000
set_option maxRecDepth 100000
set_option linter.unusedVariables false
set_option linter.unusedSimpArgs false
namespace Go.Proofs.YtohpdonnpbjfdaaGreatDoor
theorem iq {P:Prop} (h:P:=by simp only[maxLen];omega):P:=h
theorem il {P:Prop} (h:P:=by simp[Value.oneCell']):P:=h
theorem xq {P:Prop} (h:P:=by show(if Region.wanted o (yielded ops a.tmps)then o.wp P a w (wpList P ops Q rest) Q∨(o.asks P a w∧LetsOut Q)else _);rw[if_pos hw];exact .inl h):P:=h
theorem xh {P:Prop} (h:P:=by
 refine⟨h.1,?_⟩;rcases h.2 with h1|⟨g,cap,cur,h1,h2,h3⟩
 ·exact .inl h1
 ·exact .inr ⟨g,cap,cur,h1,hb g (by rw[h1];rfl),h3⟩):P:=h
theorem Da {P:Prop} (h:P:=by
 refine⟨h.1,?_⟩;rcases h.2 with h1|⟨g,cap,cur,h1,h2,h3,h4⟩
 ·exact .inl h1
 ·exact .inr ⟨g,cap,cur,h1,h2,(hk g (by rw[h1];rfl)).trans h3,h4⟩):P:=h
namespace Qt
open Go Go.RowKit
theorem abj {P:Program} {w:World} {o:Oper} {a:Act} {K:Act→World→Prop} {Q:Exit→Act→World→Prop}
  (s x:Operand) (t:TypeId) (hop:o.op=Op.call {callee:=Callee.builtin Builtin.append,args:=#[s,x],argTypes:=#[t,t]})
  (base:Nat) (e:TypeId) (i:TypeInfo) (size:Nat) (h1:P.underlying t=some (.slice e)) (h2:P.info? e=some i) (h4:i.size=size)
  (g k cap:Nat) (xs:List Value) (hs:a.eval s=aZ g k cap) (hown:w.ownsRow base e size (aZ g k cap) k xs) (ad:Addr) (m c:Nat) (news:List Value) (hx:a.eval x=.slice (some ad) m c) (hn:news.length=m*size)
  (hc:∀j u,news[j]?=some u→w.cell? (ad.add j)=some u) (h1c:∀u∈news,u.oneCell'=true) (b1:k+m≤cap)
  (hK:∀w',w'.ownsRow base e size (aZ g (k+m) cap) (k+m) (xs++news)→w.grownBy w' (some g)→K (a.put o.dst (aZ g (k+m) cap)) w'):
  o.wp P a w K Q:=by obtain⟨w',hrun,r1,r2⟩:=run_append_fits (P:=P) w base t o.type e i size h1 h2 h4 g k cap xs hown ad m c news hn hc h1c b1;unfold Oper.wp;simp[execOp,hop,resolve,invoke,builtin,hs,hx,hrun,Result.andThen];exact hK w' r1 r2
theorem XM {P:Program} {w:World} {o:Oper} {a:Act} {K:Act→World→Prop} {Q:Exit→Act→World→Prop}
  (s x:Operand) (t:TypeId) (hop:o.op=Op.call {callee:=Callee.builtin Builtin.append,args:=#[s,x],argTypes:=#[t,t]})
  (e:TypeId) (i:TypeInfo) (z:Value) (size bytes:Nat) (h1:P.underlying t=some (.slice e)) (h2:P.info? e=some i) (h3:i.zero=some z) (h4:i.size=size) (h5:i.bytes=bytes) (h6:z.cells.size=size) (h7:0<size)
  (ao:Option Addr) (n cap:Nat) (olds:List Value) (hs:a.eval s=.slice ao n cap) (hnone:ao=none→n=0∧cap=0) (hlo:olds.length=n*size) (holds:∀b,ao=some b→∀j u,olds[j]?=some u→w.cell? (b.add j)=some u)
  (ad:Addr) (m c:Nat) (news:List Value) (hx:a.eval x=.slice (some ad) m c) (hn:news.length=m*size) (hc:∀j u,news[j]?=some u→w.cell? (ad.add j)=some u) (h1c:∀u∈news,u.oneCell'=true)
  (hfull:cap<n+m) (b1:n+m≤maxLen) (b2:(n+m)*bytes≤140737488355328)
  (hK:∀v' w',w'.ownsRow w.heap.size e size v' (n+m) (olds++news)→w.grownBy w' none→K (a.put o.dst v') w'):
  o.wp P a w K Q:=by
 cases ao with
 |some b=>obtain⟨v',w',hrun,r1,r2⟩:=run_append_arg_grows (P:=P) w t o.type e i z size bytes h1 h2 h3 h4 h5 h6 h7 b n cap olds hlo (holds b rfl) ad m c news hn hc hfull b1 b2;unfold Oper.wp;simp[execOp,hop,resolve,invoke,builtin,hs,hx,hrun,Result.andThen];exact hK v' w' r1 r2
 |none=>obtain⟨rfl,rfl⟩:=hnone rfl;obtain rfl:olds=[]:=List.eq_nil_of_length_eq_zero (by simpa using hlo);obtain⟨v',w',hrun,r1,r2,_⟩:=run_append_own (P:=P) w w.heap.size t o.type e i z size bytes h1 h2 h3 h4 h5 h6 h7 (.slice none 0 0) 0 [] (jw w _ e size) ad m c news hn hc h1c b1 b2 (aH _);unfold Oper.wp;simp[execOp,hop,resolve,invoke,builtin,hs,hx,hrun,Result.andThen];exact hK v' w' r1 r2
theorem gq {P:Program} {w:World} {o:Oper} {a:Act} {K:Act→World→Prop} {Q:Exit→Act→World→Prop}
  (s x:Operand) (t:TypeId) (hop:o.op=Op.call {callee:=Callee.builtin Builtin.append,args:=#[s,x],argTypes:=#[t,t]})
  (e:TypeId) (i:TypeInfo) (z:Value) (size bytes:Nat) (h1:P.underlying t=some (.slice e)) (h2:P.info? e=some i) (h3:i.zero=some z) (h4:i.size=size) (h5:i.bytes=bytes) (h6:z.cells.size=size) (h7:0<size)
  (v:Value) (n:Nat) (xs:List Value) (hs:a.eval s=v) (hown:w.ownsRow 0 e size v n xs) (ad:Addr) (m c:Nat) (news:List Value) (hx:a.eval x=.slice (some ad) m c) (hn:news.length=m*size)
  (hc:∀j u,news[j]?=some u→w.cell? (ad.add j)=some u) (h1c:∀u∈news,u.oneCell'=true) (b1:n+m≤maxLen) (b2:(n+m)*bytes≤140737488355328)
  (hK:∀v' w',w'.ownsRow 0 e size v' (n+m) (xs++news)→w.grownBy w' v.ownBlock→(v'.ownBlock=v.ownBlock∨∃g,v'.ownBlock=some g∧w.heap.size≤g)→K (a.put o.dst v') w'):
  o.wp P a w K Q:=by
 have grow:∀(ao:Option Addr) (cap:Nat),v=.slice ao n cap→(ao=none→n=0∧cap=0)→cap<n+m→o.wp P a w K Q:=by
  intro ao cap hv hnone hfull;refine XM s x t hop e i z size bytes h1 h2 h3 h4 h5 h6 h7 ao n cap xs (hs.trans hv) hnone hown.1 ?_ ad m c news hx hn hc h1c hfull b1 b2 ?_
  ·intro b hb;subst hb;rcases hown.2 with⟨e,_⟩|⟨g,cap',cur,e,_⟩
   ·rw[hv]at e;cases e
   ·rw[hv]at e;injection e with e1 e2 e3;injection e1 with e1;subst e1;exact hown.cells (g:=g) (by rw[hv];rfl)
  ·intro v' w' r1 r2;refine hK v' w' ⟨r1.1,?_⟩ ⟨r2.os,r2.tape,r2.output,r2.size,fun k hk _=>r2.block k hk av⟩ ?_
   ·rcases r1.2 with h|⟨g,cap,cur,a1,a2,a3⟩
    ·exact .inl h
    ·exact .inr ⟨g,cap,cur,a1,Nat.zero_le _,a3⟩
   ·rcases r1.2 with⟨h,h'⟩|⟨g,cap',cur,a1,a2,a3⟩
    ·left;have:n=0:=ae;rcases hown.2 with⟨e,_⟩|⟨g,cap',cur,e,_,_,h8,_⟩
     ·rw[h,e]
     ·omega
    ·exact .inr ⟨g,by rw[a1];rfl,a2⟩
 rcases hown.2 with⟨rfl,h0⟩|⟨g,cap,cur,rfl,hb,hg,hnc,hcm,hcs,ht⟩
 ·subst h0;by_cases hm:m=0
  ·subst hm;have Il:news=[]:=List.eq_nil_of_length_eq_zero (by simpa using hn);subst Il;obtain⟨v',w',hrun,r1,r2,r3⟩:=run_append_own (P:=P) w 0 t o.type e i z size bytes h1 h2 h3 h4 h5 h6 h7 (.slice none 0 0) 0 xs hown ad 0 c [] hn hc h1c b1 b2 (Nat.zero_le _);have hv':=r3.2 ⟨rfl,rfl⟩;unfold Oper.wp;simp[execOp,hop,resolve,invoke,builtin,hs,hx,hrun,Result.andThen];exact hK v' w' r1 r2 (.inl (by rw[hv']))
  ·exact grow none 0 rfl (fun _=>⟨rfl,rfl⟩) ae
 ·by_cases hfit:n+m≤cap
  ·refine abj s x t hop 0 e i size h1 h2 h4 g n cap xs hs hown ad m c news hx hn hc h1c hfit ?_;intro w' r1 r2;exact hK _ w' r1 r2 (.inl rfl)
  ·exact grow (some ⟨g,0,none⟩) cap rfl (fun e=>by cases e) ae
theorem Dx {P:Program} {ops:Array Oper} {Q:Exit→Act→World→Prop} {n lp:Nat} {o:Oper} {rest:List Oper} {a:Act} {w:World} (hd:∀c,o.op≠.defer c) (hQ:¬LetsOut Q) (hw:Region.wanted o (yielded ops a.tmps)=true)
  (h:o.wp P a w (wpListIn (Fence.wide.inRound lp) n P ops Q rest) Q):wpListIn (Fence.wide.inRound lp) n P ops Q (o::rest) a w:=by show(if Region.wanted o (yielded ops a.tmps)then o.wpIn (Fence.wide.inRound lp) n P a w (wpListIn (Fence.wide.inRound lp) n P ops Q rest) Q else _);rw[if_pos hw];exact Jo hd hQ (fun _ _ h=>h) (.inl h)
structure App (w w':World) (v:Value) (g:Nat):Prop where
 os:w'.os=w.os
 tape:w'.tape=w.tape
 output:w'.output=w.output
 size:w.heap.size≤w'.heap.size
 block:∀k,k<w.heap.size→v.ownBlock≠some k→w'.heap[k]?=w.heap[k]?
 new:v.ownBlock=some g∨w.heap.size≤g
theorem App.below {w w':World} {v:Value} {g Z:Nat} (h:App w w' v g) (hZ:Z≤w.heap.size) (hv:∀k,v.ownBlock=some k→Z≤k):Below Z w w':=
 {os:=h.os,tape:=h.tape,output:=h.output,size:=h.size,block:=fun k hk=>h.block k ae fun e=>by have:=hv k e;omega}
theorem App.grown {w w':World} {v:Value} {g:Nat} (h:App w w' v g):w.grownBy w' v.ownBlock:=
 ⟨h.os,h.tape,h.output,h.size,fun k hk hn=>h.block k hk fun e=>hn e.symm⟩
theorem App.hv {w w':World} {v:Value} {g n cap:Nat} (h:App w w' v g):(Value.slice (some ⟨g,0,none⟩) n cap).ownBlock=v.ownBlock∨∃k,(Value.slice (some ⟨g,0,none⟩) n cap).ownBlock=some k∧w.heap.size≤k:=by
 rcases h.new with h1|h1
 ·exact .inl h1.symm
 ·exact .inr ⟨g,rfl,h1⟩
theorem afG {w:World} {b:Nat} {e:TypeId} {size n:Nat} {v:Value} {xs:List Value} (h:w.ownsRow 0 e size v n xs) (hb:∀g,v.ownBlock=some g→b≤g):w.ownsRow b e size v n xs:=by exact xh
theorem xk {w:World} {b:Nat} {e:TypeId} {size n:Nat} {v:Value} {xs:List Value} (h:w.ownsRow b e size v n xs):w.ownsRow 0 e size v n xs:=by
 refine⟨h.1,?_⟩;rcases h.2 with h1|⟨g,cap,cur,h1,h2,h3⟩
 ·exact .inl h1
 ·exact .inr ⟨g,cap,cur,h1,Nat.zero_le _,h3⟩
theorem gM {w:World} {b:Nat} {e:TypeId} {size n:Nat} {v:Value} {xs:List Value} (h:w.ownsRow b e size v n xs):∀k,v.ownBlock=some k→b≤k∧k<w.heap.size:=fun k e=>h.lt k e
theorem nC {w w':World} {b:Nat} {e:TypeId} {size n:Nat} {v:Value} {xs:List Value} (h:w.ownsRow b e size v n xs) (hk:∀g,v.ownBlock=some g→w'.heap[g]?=w.heap[g]?):w'.ownsRow b e size v n xs:=by exact Da
theorem add0 (g j:Nat):(⟨g,0,none⟩:Addr).add j=⟨g,j,none⟩:=by
 unfold Addr.add;by_cases h:j=0
 ·subst h;simp
 ·simp[h]
theorem kL {w:World} {b:Nat} {e:TypeId} {size n:Nat} {xs:List Value} {g cap:Nat} (h:w.ownsRow b e size (aZ g n cap) n xs) (j:Nat) (u:Value) (hj:xs[j]?=some u):w.cell? ⟨g,j,none⟩=some u:=by have:=h.cells (g:=g) rfl j u hj;rwa[add0]at this
theorem flat_get {α:Type} {f:α→List Value} {m:Nat}:∀(l:List α) (hf:∀x∈l,(f x).length=m) (i r:Nat) (x:α),r<m→l[i]?=some x→(l.flatMap f)[i*m+r]?=(f x)[r]?
 |[],_,_,_,_,_,hx=>by simp at hx
 |y::l,hf,0,r,x,hr,hx=>by
  obtain rfl:y=x:=by simpa using hx
  have:=hf y av
  rw[List.flatMap_cons,Nat.zero_mul,Nat.zero_add,List.getElem?_append_left ae]
 |y::l,hf,i+1,r,x,hr,hx=>by
  have h1:=hf y av
  have h2:=flat_get l (fun z hz=>hf z (by simp[hz])) i r x hr (by simpa using hx)
  rw[List.flatMap_cons,Nat.succ_mul,List.getElem?_append_right ae,show i*m+m+r-(f y).length=i*m+r from ae]
  exact h2
theorem jX {w:World} {b:Nat} {e:TypeId} {size n:Nat} {v:Value} {xs:List Value} (h:w.ownsRow b e size v n xs) (h1:1≤n):∃g cap,v=aZ g n cap∧b≤g∧g<w.heap.size∧n≤cap:=by
 rcases h.2 with⟨_,h2⟩|⟨g,cap,cur,h2,h3,h4,h5,_⟩
 ·omega
 ·exact⟨g,cap,h2,h3,(h.lt g (by rw[h2];rfl)).2,h5⟩
theorem qw {P:Program} {ops:Array Oper} {Q:Exit→Act→World→Prop} {o:Oper} {rest:List Oper} {a:Act} {w:World} (hw:Region.wanted o (yielded ops a.tmps)=true) (h:o.wp P a w (wpList P ops Q rest) Q):wpList P ops Q (o::rest) a w:=by exact xq
structure Inf (P:Program) (t e:TypeId) (z:Value) (size bytes:Nat):Prop where
 i:∃i,P.info? e=some i∧i.zero=some z∧i.size=size∧i.bytes=bytes
 u:P.underlying t=some (.slice e)
 c:z.cells.size=size
 p:0<size
 b:bytes≤1024
theorem oh {P:Program} {t e:TypeId} {z:Value} {size bytes:Nat} (I:Inf P t e z size bytes) {w:World} {o:Oper} {a:Act} {K:Act→World→Prop} {Q:Exit→Act→World→Prop}
  (s x:Operand) (hop:o.op=Op.call {callee:=Callee.builtin Builtin.append,args:=#[s,x],argTypes:=#[t,t]}) (lo:Nat) (v:Value) (n:Nat) (xs:List Value) (hs:a.eval s=v) (hown:w.ownsRow lo e size v n xs)
  (b:Nat) (news:List Value) (hx:a.eval x=aZ b 1 1) (hn:news.length=size) (hc:∀j u,news[j]?=some u→w.cell? ⟨b,j,none⟩=some u) (h1c:∀u∈news,u.oneCell'=true) (hlo:lo≤w.heap.size) (b1:n+1≤10000)
  (hK:∀g cap w',w'.ownsRow lo e size (aZ g (n+1) cap) (n+1) (xs++news)→App w w' v g→lo≤g∧g<w'.heap.size∧n+1≤cap→K (a.put o.dst (aZ g (n+1) cap)) w'):
  o.wp P a w K Q:=by
 obtain⟨i,hi,hz,hsz,hb⟩:=I.i;have hbb:=I.b;refine gq s x t hop e i z size bytes I.u hi hz hsz hb I.c I.p v n xs hs (xk hown) ⟨b,0,none⟩ 1 1 news hx ae (fun j u hj=>by rw[add0];exact hc j u hj) h1c iq (aS (Nat.mul_le_mul b1 hbb) bL) ?_;intro v' w' own' hg hv';have hlt:∀k,v.ownBlock=some k→lo≤k∧k<w.heap.size:=fun k e=>hown.lt k e;obtain⟨g,cap,rfl,hgc⟩:∃g cap,v'=aZ g (n+1) cap∧n+1≤cap:=by
  rcases own'.2 with⟨h1,h2⟩|⟨g,cap,cur,h1,_,_,h2,_⟩
  ·omega
  ·exact⟨_,_,h1,h2⟩
 have hnew:v.ownBlock=some g∨w.heap.size≤g:=by
  rcases hv' with h1|⟨g',h1,h2⟩
  ·exact .inl h1.symm
  ·have:g=g':=bD h1;exact .inr ae
 have hlg:lo≤g:=by
  rcases hnew with h1|h1
  ·exact(hlt g h1).1
  ·omega
 refine hK g cap w' (afG own' fun k e=>by have:g=k:=bD e;omega) ⟨hg.os,hg.tape,hg.output,hg.size,fun k hk hv=>hg.block k hk (fun e=>hv e.symm),hnew⟩ ⟨hlg,(own'.lt g rfl).2,hgc⟩
section
variable {P:Program} {ops:Array Oper}
theorem sW {S:World→Prop} {Q:Exit→Act→World→Prop} {t0 i:Nat} {rest:List Nat} {a:Act} {w w1:World} {f:FuncId} {args:Array Value} {R:Ending→World→Prop} (hi:i≠t0) {o:Oper} (ho:ops.getD i default=o) (hw:Region.wanted o (yielded ops a.tmps)=true) (hr:(execOp a.eval o).run P w=.ok (.enter f args) w1)
  (hc:Calls P f args w1 R) (hn:∀e w',R e w'→∃v,e=.returned v∧S w'∧gZ P ops S Q t0 rest (a.put o.dst v) w'):gZ P ops S Q t0 (i::rest) a w:=by refine y_ hi ho hw ?_;unfold Oper.wp;rw[hr];refine Calls.mono hc fun e w' he=>?_;obtain⟨v,rfl,h1,h2⟩:=hn e w' he;exact⟨h1,h2⟩
end
end Qt
end Go.Proofs.YtohpdonnpbjfdaaGreatDoor
