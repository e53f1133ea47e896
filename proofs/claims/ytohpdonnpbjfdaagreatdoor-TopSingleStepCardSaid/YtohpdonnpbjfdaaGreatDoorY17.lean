/- What is shown: blocks, books, laws of regions. Conditions: as each theorem states. -/
import Derived.Handy
import Derived.Test.YtohpdonnpbjfdaaGreatDoorY16
set_option maxHeartbeats 40000000
set_option maxRecDepth 100000
set_option linter.unusedVariables false
set_option linter.unusedSimpArgs false
open Go.Proofs.Tryz
namespace Go.Proofs.YtohpdonnpbjfdaaGreatDoor
theorem Df {P:Prop} (h:P:=by go_wp2_with (first|((with_reducible refine(HhB.out _ hbr).mono ?_);rintro e w1 ⟨rfl,aO⟩));exact⟨⟨av,hbr.trans (aO.mono hbr.size)⟩,by simp[intOf]⟩):P:=h
namespace Ce
open Go.RowKit aN fO Qt Ro Bk
variable {w w':World} {F F':Fp} {b k M C n:Nat} {L:List Value} {c:List Int} {l:List Nat}
theorem aV.alt (h:aV w b L) (a:Alt l w F w' F' k) (hF:¬F.has b) (hl:b∉l):aV w' b L:=h.keep a.size (a.block b h.lt hF hl)
structure Kb (w:World) (F:Fp) (b:Nat) (L:List Value):Prop where
 blk:aV w b L
 no:¬F.has b
theorem Kb.below (h:Kb w F b L) (hb:aJ w w'):Kb w' F b L:=⟨h.blk.later hb,h.no⟩
theorem Kb.step (h:Kb w F b L) (a:Alt [] w F w' F' k):Kb w' F' b L:=⟨aV.alt h.blk a h.no av,fun hh=>h.no (a.has h.blk.lt hh)⟩
theorem Kb.put (h:Kb w F b L) (i:Nat) (v:Value):Kb (w.setCell ⟨b,i,none⟩ v) F b (L.set i v):=⟨h.blk.put i v,h.no⟩
theorem Kb.other (h:Kb w F b L) {p:Addr} (hp:p.block≠b) (v:Value):Kb (w.setCell p v) F b L:=⟨h.blk.other hp v,h.no⟩
theorem aD.no (h:aD w F c) (hb:w.heap.size≤b):¬F.has b:=fun hh=>by have:=h.lt hh;omega
theorem Kb.new (h:aD w F c) (hb:w.heap.size≤b) (k:aV w' b L):Kb w' F b L:=⟨k,h.no hb⟩
theorem iJ (w:World) (r:Option Nat):w.grownBy w r:=⟨rfl,rfl,rfl,aH _,fun _ _ _=>rfl⟩
theorem iM {W W':World} {G:Fp} {K:Nat} (hm:aD W G c) (hA:Alt l w F W G k) (hb:¬G.has b) (hw:w.heap.size≤b) (hk:k≤K) (hg:W.grownBy W' (some b)):aD W' G c∧Alt l w F W' G K:=by refine⟨hm.keep fun x hx=>hg.block x (hm.lt hx) (fun e=>hb (by injection e with e;exact e▸hx)),?_⟩;exact⟨hg.os.trans hA.os,hg.tape.trans hA.tape,hg.output.trans hA.output,aS hA.size hg.size,fun x hx hF hn=>(hg.block x (bH hx hA.size) (fun e=>by injection e with e;omega)).trans (hA.block x hx hF hn),hA.M,hA.C,hA.L,aS hA.n ae⟩
theorem iZ {L:Option Nat} (h:aD w ⟨M,C,L,n⟩ c) (i:Int):
  Calls prog 31 #[aR M,ag i] w fun e w'=>e=.returned (ag (cg c i))∧w'=w:=Tz h i
theorem Gc {L:Option Nat} (h:aD w ⟨M,C,L,n⟩ c) (i v:Int) (hn:n<1000000000):
  Calls prog 102 #[aR M,ag i,ag v] w fun e w'=>e=.returned (.tuple #[])∧∃L' n',aD w' ⟨M,C,L',n'⟩ (cs c i v)∧Alt [] w ⟨M,C,L,n⟩ w' ⟨M,C,L',n'⟩ 1:=by refine(abl h i v hn).mono ?_;rintro e w' ⟨he,⟨M',C',L',n'⟩,hm,ha⟩;have e1:M'=M:=ha.M;have e2:C'=C:=ha.C;subst e1 e2;exact⟨he,L',n',hm,ha⟩
end Ce
namespace Bo
open Go.RowKit aN Qt Ro Bk Ce Cl
attribute [local go_sem] Oper.semAt_some
variable {w:World} {bk bv cap pb pt:Nat} {c0 c1:Value} {FI e01 FK e10 e11 e12 t:Int}
structure uY (w:World) (bk bv cap:Nat) (c0 c1:Value) (FI e01 FK e10 e11 e12:Int):Prop where
 v:w.cell? ⟨bk,0,none⟩=some (aZ bv 2 cap)
 t0:w.cell? ⟨bv,0,none⟩=some (ag 0)
 k0:w.cell? ⟨bv,1,none⟩=some c0
 a0:w.cell? ⟨bv,2,none⟩=some (ag FI)
 a1:w.cell? ⟨bv,3,none⟩=some (ag e01)
 a2:w.cell? ⟨bv,4,none⟩=some (ag FK)
 t1:w.cell? ⟨bv,5,none⟩=some (ag 3)
 k1:w.cell? ⟨bv,6,none⟩=some c1
 b0:w.cell? ⟨bv,7,none⟩=some (ag e10)
 b1:w.cell? ⟨bv,8,none⟩=some (ag e11)
 b2:w.cell? ⟨bv,9,none⟩=some (ag e12)
theorem uY.later {w':World} (h:uY w bk bv cap c0 c1 FI e01 FK e10 e11 e12) (hb:aJ w w'):uY w' bk bv cap c0 c1 FI e01 FK e10 e11 e12:=
 ⟨ai hb h.v,ai hb h.t0,ai hb h.k0,ai hb h.a0,ai hb h.a1,ai hb h.a2,ai hb h.t1,ai hb h.k1,ai hb h.b0,ai hb h.b1,ai hb h.b2⟩
theorem TW (h:uY w bk bv cap c0 c1 FI e01 FK e10 e11 e12) (hb:w.cell? ⟨pb,0,none⟩=some (aR bk)) (ht:w.cell? ⟨pt,0,none⟩=some (ag t)):
  (Calls prog 38 #[ag 0,aR pb,aR pt] w fun e w'=>e=.returned (.bool (decide (t<0)))∧aJ w w')∧
  Calls prog 38 #[ag 1,aR pb,aR pt] w fun e w'=>e=.returned (.bool (decide (t<3)))∧aJ w w':=by
 obtain⟨v,t0,k0,a0,a1,a2,t1,k1,b0,b1,b2⟩:=h;constructor
 ·go_enter func38,ntmps38;go_upto_region 1 with(fail);refine dD ?_;go_wp2;go_ret;exact⟨rfl,by exact aG⟩
 ·go_enter func38,ntmps38;go_upto_region 1 with(fail);refine dD ?_;go_wp2;go_ret;exact⟨rfl,by exact aG⟩
theorem Ra (h:uY w bk bv cap c0 c1 FI e01 FK e10 e11 e12) (hb:w.cell? ⟨pb,0,none⟩=some (aR bk)) (ht:w.cell? ⟨pt,0,none⟩=some (ag t)) (h0:0≤t):
  Calls prog 37 #[ag 2,.func (.func 38) #[] #[aR pb,aR pt]] w fun e w'=>e=.returned (ag (if t<3 then 1 else 2))∧aJ w w':=by
 have hA:=fun(V:World) (hV:aJ w V)=>(TW (h.later hV) (ai hV hb) (ai hV ht)).1;have hB:=fun(V:World) (hV:aJ w V)=>(TW (h.later hV) (ai hV hb) (ai hV ht)).2;rw[show decide (t<0)=false by simpa using h0]at hA;clear h hb ht;have nP:aJ w w:=aK _ _;obtain⟨q,hq⟩:∃q,q=decide (t<3):=⟨_,rfl⟩
 rw[←hq]at hB;have e:(if t<3 then(1:Int)else 2)=if q=true then 1 else 2:=by rw[hq];simp
 rw[e];clear e hq h0;have HhA:=ah hA;have HhB:=ah hB;clear hA hB;go_enter func37,ntmps37;go_wp2;go_loopw [5,6] (fun i j wr=>((i=ag 0∧j=ag 2)∨(i=ag 0∧j=ag 1∧q=true)∨(i=ag 1∧j=ag 1∧q=true)∨(i=ag 2∧j=ag 2∧q=false))∧aJ w wr) (fun i j _=>(intOf j-intOf i).toNat);case atStart=>exact⟨.inl ⟨rfl,rfl⟩,nP⟩
 case round=>
  obtain⟨hc,hbr⟩:=hrel;rcases hc with⟨rfl,rfl⟩|⟨rfl,rfl,rfl⟩|⟨rfl,rfl,rfl⟩|⟨rfl,rfl,rfl⟩
  ·cases q with
   |true=>exact Df
   |false=>exact Df
  ·go_wp2_with (first|((with_reducible refine(HhA.out _ hbr).mono ?_);rintro e w1 ⟨rfl,aO⟩));exact⟨⟨av,hbr.trans (aO.mono hbr.size)⟩,by simp[intOf]⟩
  ·go_wp2;go_ret;exact⟨rfl,hbr⟩
  ·go_wp2;go_ret;exact⟨rfl,hbr⟩
end Bo
namespace Qt
open Go Go.RowKit
theorem VZ {P:Program} {ops:Array Oper} {Q:Exit→Act→World→Prop} {o:Oper} {rest:List Oper} {a:Act} {w:World} (hw:Region.wanted o (yielded ops a.tmps)=true) (h:o.wp P a w (wpList P ops Q rest) Q):wpList P ops Q (o::rest) a w:=by exact xq
theorem G9 {P:Program} {w:World} {o:Oper} {a:Act} {K:Act→World→Prop} {Q:Exit→Act→World→Prop}
  (s x:Operand) (t:TypeId) (hop:o.op=Op.call {callee:=Callee.builtin Builtin.append,args:=#[s,x],argTypes:=#[t,t]})
  (e:TypeId) (i:TypeInfo) (z:Value) (size bytes:Nat) (h1:P.underlying t=some (.slice e)) (h2:P.info? e=some i) (h3:i.zero=some z) (h4:i.size=size) (h5:i.bytes=bytes) (h6:z.cells.size=size) (h7:0<size)
  (v:Value) (n:Nat) (xs:List Value) (hs:a.eval s=v) (hown:w.ownsRow 0 e size v n xs) (b2:Nat) (v2:Value) (m:Nat) (news:List Value) (hx:a.eval x=v2) (hown2:w.ownsRow b2 e size v2 m news)
  (h1c:∀u∈news,u.oneCell'=true) (b1:n+m≤maxLen) (b3:(n+m)*bytes≤140737488355328)
  (hK:∀v' w',w'.ownsRow 0 e size v' (n+m) (xs++news)→w.grownBy w' v.ownBlock→(v'.ownBlock=v.ownBlock∨∃g,v'.ownBlock=some g∧w.heap.size≤g)→K (a.put o.dst v') w'):
  o.wp P a w K Q:=by
 have hl:=hown2.1;rcases hown2.2 with⟨e1,e2⟩|⟨g,cap,cur,e1,e2⟩
 ·subst e1 e2;have Il:news=[]:=List.eq_nil_of_length_eq_zero (by simpa using hl);subst Il;have hrun:=run_append_owned_none (P:=P) (w:=w) 0 t o.type e i size h1 h2 v n xs hown;unfold Oper.wp;simp[execOp,hop,resolve,invoke,builtin,hs,hx,hrun,Result.andThen];exact hK v w (by simpa using hown) (Ce.iJ _ _) (.inl rfl)
 ·subst e1;exact gq s x t hop e i z size bytes h1 h2 h3 h4 h5 h6 h7 v n xs hs hown ⟨g,0,none⟩ m cap news hx hl (hown2.cells (g:=g) rfl) h1c b1 b3 hK
end Qt
end Go.Proofs.YtohpdonnpbjfdaaGreatDoor
