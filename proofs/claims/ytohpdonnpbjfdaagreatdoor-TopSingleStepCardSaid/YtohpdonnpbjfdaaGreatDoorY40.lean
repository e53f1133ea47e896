/- What is shown: package vm. Conditions: as each theorem states. -/
import Derived.Test.YtohpdonnpbjfdaaGreatDoorY39
set_option maxHeartbeats 40000000
set_option maxRecDepth 100000
set_option linter.unusedVariables false
set_option linter.unusedSimpArgs false
open Go.Proofs.Tryz
namespace Go.Proofs.YtohpdonnpbjfdaaGreatDoor
theorem OV {P Q:Prop} (q:Q) (h:RowKit.Hid Q→P:=by first|(intro kk;(with_reducible refine(uO.out _ (hm.below aG)).mono ?_);rintro e w2 ⟨rfl,L1,n1,gp,dG⟩;have eD:=dG.n;simp only at eD;replace k7:=(k7.below aG).step dG;replace iX:=k7.blk.cell;replace jP:=k7.blk.free;replace hA:=(hA.below aG).trans dG;replace hm:=gp;clear dG gp;revert hm hA jP iX k7 eD n1 L1 w2;exact kk.out)|fail):P:=h (ah q)
theorem yl {P:Prop} (h:P:=by simp[results,results133,go_sem,cZ,iX]):P:=h
theorem jU {P:Prop} (h:P:=by have uo:=ah ht;have uO:=ah hc;clear ht hc;go_enter func133,ntmps133;go_upto_region 1 with(fail);refine aP fun W hW=>?_;have hb:aJ w W:=aM;have k4:Kb W ⟨M,C,L,m⟩ w.heap.size [ag S.ak,.slice ab nb cap,ag S.x0,ag S.y0,ag S.x1,ag S.y1,rm,dr,ag S.ou,ag S.gx,ag S.gy,ag S.push,ag S.eO,ag S.rest,ag S.rounds,ag S.fuel]:=Kb.new hm (aH _) jo;have k5:Kb W ⟨M,C,L,m⟩ (w.heap.size+1) [ag n,ag a,ag b]:=Kb.new hm ae fV;have k7:Kb W ⟨M,C,L,m⟩ (w.heap.size+1+1) [ag 0,ag 0,ag 0,ag 0]:=Kb.new hm ae eX;replace hm:=hm.below hb;replace hA:=hA.below hb;clear hW hb;have⟨⟨iw,iB,_⟩,_⟩:=k4;have⟨⟨ck5,nK,_⟩,_⟩:=k5;have⟨⟨iX,jP,_⟩,_⟩:=k7;have h4:=k4.blk.lt;have h5:=k5.blk.lt;have h77:=k7.blk.lt;have h7:w.heap.size≤w.heap.size+1+1:=ae;generalize eY:w.heap.size+1=b5 at*;generalize zP:b5+1=b7 at*;have cZ:=au;go_wp2_with (first|fail);refine n_ [7] [0,1,2,3,4,5,6] 8 aL aL fun NL hL=>?_;obtain⟨dU,dV,hlf⟩:=hL;(try simp only[bf]at dU);simp only[List.map_cons,List.map_nil,List.getD_cons_zero,List.getD_cons_succ,List.drop_succ_cons,List.drop_zero];(repeat(go_big_quiet_step (fail)));refine wpQuiet_nil ?_;(repeat(go_big_quiet_step (first|(with_reducible exact aY (uo.out _))|(with_reducible exact uP (uO.out _)))));refine wpQuiet_nil ?_;rintro w1 ⟨nq,hnq⟩;have aO:=nq.below;rw[←hnq]at aO;clear hnq nq dV hlf dU NL;replace k7:=k7.below aO;replace iX:=k7.blk.cell;replace jP:=k7.blk.free;replace hm:=hm.below aO;replace hA:=hA.below aO;clear aO k4 iw iB k5 ck5 nK;go_wp2_with (first|fail);refine fq ?_;go_wp2_with (first|fail);refine bodyPost_ret (v:=.tuple #[ag v,jB 0 0 0 0,.bool false]) yl rfl ⟨rfl,_,_,iM hm hA k7.no h7 ae ?_⟩;(repeat(first|(refine eQ ?_ rfl _)|(refine qb ?_)));exact iJ _ _):P:=h
theorem jW {P:Prop} (h:P:=by
 have uo:=ah ht;have uO:=ah hc;clear ht hc;have gY:=results133;go_enter func133,ntmps133;go_upto_region 1 with(fail);refine aP fun W hW=>?_;have hb:aJ w W:=aM;have k4:Kb W ⟨M,C,L,m⟩ w.heap.size [ag S.ak,.slice ab nb cap,ag S.x0,ag S.y0,ag S.x1,ag S.y1,rm,dr,ag S.ou,ag S.gx,ag S.gy,ag S.push,ag S.eO,ag S.rest,ag S.rounds,ag S.fuel]:=Kb.new hm (aH _) jo;have k5:Kb W ⟨M,C,L,m⟩ (w.heap.size+1) [ag n,ag a,ag b]:=Kb.new hm ae fV;have k7:Kb W ⟨M,C,L,m⟩ (w.heap.size+1+1) [ag 0,ag 0,ag 0,ag 0]:=Kb.new hm ae eX;replace hm:=hm.below hb;replace hA:=hA.below hb;clear hW hb;have⟨⟨iw,iB,_⟩,_⟩:=k4;have⟨⟨ck5,nK,_⟩,_⟩:=k5;have⟨⟨iX,jP,_⟩,_⟩:=k7;have h4:=k4.blk.lt;have h5:=k5.blk.lt;have h77:=k7.blk.lt;have h7:w.heap.size≤w.heap.size+1+1:=ae;generalize eY:w.heap.size+1=b5 at*;generalize zP:b5+1=b7 at*;have cZ:=au;go_wp2_with (first|fail);refine jG 5 aL aL fun NL hL=>?_;obtain⟨dU,dV,hlf⟩:=hL;(try simp only[bf]at dU);simp only[dS];repeat(go_big_quiet_step (first|(with_reducible exact aY (uo.out _))))
 refine wpQuiet_nil ?_;rintro w1 ⟨nq,hnq⟩;have aO:=nq.below;rw[←hnq]at aO;clear hnq nq dV hlf dU NL;replace k7:=k7.below aO;replace iX:=k7.blk.cell;replace jP:=k7.blk.free;replace hm:=hm.below aO;replace hA:=hA.below aO;clear aO k4 iw iB k5 ck5 nK;go_wp2_with (first|(refine OV ?_;clear k7 iX jP hA hm;intro w2 L1 n1 eD k7 iX jP hA hm));refine fq ?_;go_wp2_with (first|fail);refine bodyPost_ret (v:=.tuple #[ag v,jB x y z u,.bool q]) ru rfl ⟨rfl,_,_,iM hm hA k7.no h7 ae ?_⟩;(repeat(first|(refine eQ ?_ rfl _)|(refine qb ?_)));exact iJ _ _):P:=h
theorem oI {P:Prop} (h:P:=by have uo:=ah ht;have uO:=ah hc;clear ht hc;go_enter func133,ntmps133;go_upto_region 1 with(fail);refine aP fun W hW=>?_;have hb:aJ w W:=aM;have k4:Kb W ⟨M,C,L,m⟩ w.heap.size [ag S.ak,.slice ab nb cap,ag S.x0,ag S.y0,ag S.x1,ag S.y1,rm,dr,ag S.ou,ag S.gx,ag S.gy,ag S.push,ag S.eO,ag S.rest,ag S.rounds,ag S.fuel]:=Kb.new hm (aH _) jo;have k5:Kb W ⟨M,C,L,m⟩ (w.heap.size+1) [ag n,ag a,ag b]:=Kb.new hm ae fV;have k7:Kb W ⟨M,C,L,m⟩ (w.heap.size+1+1) [ag 0,ag 0,ag 0,ag 0]:=Kb.new hm ae eX;replace hm:=hm.below hb;replace hA:=hA.below hb;clear hW hb;have⟨⟨iw,iB,_⟩,_⟩:=k4;have⟨⟨ck5,nK,_⟩,_⟩:=k5;have⟨⟨iX,jP,_⟩,_⟩:=k7;have h4:=k4.blk.lt;have h5:=k5.blk.lt;have h77:=k7.blk.lt;have h7:w.heap.size≤w.heap.size+1+1:=ae;generalize eY:w.heap.size+1=b5 at*;generalize zP:b5+1=b7 at*;have cZ:=au;go_wp2_with (first|fail);refine n_ [6] [0,1,2,3,4,5] 7 aL aL fun NL hL=>?_;obtain⟨dU,dV,hlf⟩:=hL;(try simp only[bf]at dU);simp only[List.map_cons,List.map_nil,List.getD_cons_zero,List.getD_cons_succ,List.drop_succ_cons,List.drop_zero];(repeat(go_big_quiet_step (fail)));refine wpQuiet_nil ?_;(repeat(go_big_quiet_step (first|(with_reducible exact aY (uo.out _))|(with_reducible exact uP (uO.out _ (hm.below (dh.below _)))))));refine wpQuiet_nil ?_;rintro w1 ⟨nq,hnq⟩;have aO:=nq.below;rw[←hnq]at aO;clear hnq nq dV hlf dU NL;replace k7:=k7.below aO;replace iX:=k7.blk.cell;replace jP:=k7.blk.free;replace hm:=hm.below aO;replace hA:=hA.below aO;clear aO k4 iw iB k5 ck5 nK;go_wp2_with (first|fail);refine fq ?_;go_wp2_with (first|fail);refine bodyPost_ret (v:=.tuple #[ag v,jB 0 0 0 0,.bool false]) yl rfl ⟨rfl,_,_,iM hm hA k7.no h7 ae ?_⟩;(repeat(first|(refine eQ ?_ rfl _)|(refine qb ?_)));exact iJ _ _):P:=h
theorem Cz {P:Prop} (h:P:=by replace k7:=k7.below aO;replace iX:=k7.blk.cell;replace jP:=k7.blk.free;replace hm:=hm.below aO;replace hA:=hA.below aO;clear aO k4 iw iB k5 ck5 nK;go_wp2_with (first|fail);refine fq ?_;go_wp2_with (first|fail);refine bodyPost_ret (v:=.tuple #[ag v,jB 0 0 0 0,.bool false]) yl rfl ⟨rfl,_,_,iM hm hA k7.no h7 ae ?_⟩;(repeat(first|(refine eQ ?_ rfl _)|(refine qb ?_)));exact iJ _ _):P:=h
namespace Vm
open Go.RowKit aN fO Qt Ro Bk Ce La Ha In
attribute [local go_sem] Oper.semAt_some
variable {c c':List Int} {w:World} {M C m:Nat} {L:Option Nat}
theorem zZ (h:aD w ⟨M,C,L,m⟩ c) (op n:Int) (ho:op=1∨op=2∨op=6∨op=7∨op=8) (hn:op=2→0≤n∧n≤1000):
  Calls prog (yO op) #[iW M,ag n] w fun e w'=>e=.returned (ag (Xd op c n))∧w'=w:=by
 rcases ho with rfl|rfl|rfl|rfl|rfl
 ·rw[show yO 1=210 by simp[yO]];simpa[Xd]using U7 h n
 ·rw[show yO 2=211 by simp[yO]];simpa[Xd]using U8 h n (hn rfl)
 ·rw[show yO 6=212 by simp[yO]];simpa[Xd]using U9 h n
 ·rw[show yO 7=213 by simp[yO]];simpa[Xd]using U_ h n
 ·rw[show yO 8=214 by simp[yO]];simpa[Xd]using Va h n
def Gh (op a b:Int):Int:=if op=9 then sat (wrap64 (a+b))else if op=10 then sat (wrap64 (a-b))else if op=11 then sat (wrap64 (a*b))else if op=12 then aff a b else if op=14 then tru (decide (a<b))else if op=15 then tru (decide (a≤b))else tru (a==b)
theorem uN (op a b:Int) (ho:op=9∨op=10∨op=11∨op=12∨op=14∨op=15∨op=16) (w:World):
  Calls prog (qU op) #[ag a,ag b] w fun e w'=>e=.returned (ag (Gh op a b))∧w'=w:=by
 rcases ho with rfl|rfl|rfl|rfl|rfl|rfl|rfl
 ·rw[show qU 9=215 by simp[qU],show Gh 9 a b=_ by simp only[Gh,Int.reduceEq,if_true,if_false];rfl];exact M0 a b w
 ·rw[show qU 10=217 by simp[qU],show Gh 10 a b=_ by simp only[Gh,Int.reduceEq,if_true,if_false];rfl];exact M3 a b w
 ·rw[show qU 11=218 by simp[qU],show Gh 11 a b=_ by simp only[Gh,Int.reduceEq,if_true,if_false];rfl];exact M4 a b w
 ·rw[show qU 12=219 by simp[qU],show Gh 12 a b=_ by simp only[Gh,Int.reduceEq,if_true,if_false];rfl];exact M5 a b w
 ·rw[show qU 14=220 by simp[qU],show Gh 14 a b=_ by simp only[Gh,Int.reduceEq,if_true,if_false];rfl];exact M6 a b w
 ·rw[show qU 15=222 by simp[qU],show Gh 15 a b=_ by simp only[Gh,Int.reduceEq,if_true,if_false];rfl];exact M7 a b w
 ·rw[show qU 16=223 by simp[qU],show Gh 16 a b=_ by simp only[Gh,Int.reduceEq,if_true,if_false];rfl];exact M8 a b w
def unv (op a:Int):Int:=if op=13 then sat (wrap64 (-a))else tru (a==0)
theorem TD (op a:Int) (ho:op=13∨op=17) (w:World):Calls prog (TE op) #[ag a] w fun e w'=>e=.returned (ag (unv op a))∧w'=w:=by
 rcases ho with rfl|rfl
 ·rw[show TE 13=224 by simp[TE]];simpa[unv]using QR a w
 ·rw[show TE 17=225 by simp[TE]];simpa[unv]using QS a w
theorem abn (S:Stp) (nb:Nat) (hP:S.ak≤8) (hnb:nb≤24) (hB:sM S.ak c) (op n a b:Int) (ho:op=3∨op=4∨op=5∨op=18∨op=19∨op=20∨op=21) (hn3:op=3→0≤n∧n≤15) (XQ:op=4∨op=5→0≤n∧n≤7):
  ∃(v x y z u:Int) (q:Bool) (c':List Int),XV S.ak c c'∧∀(w:World) (M C:Nat) (L:Option Nat) (m:Nat) (ab:Option Addr) (cap:Nat) (rm dr:Value),aD w ⟨M,C,L,m⟩ c→m<999999000→
   Calls prog (qV op) #[iW M,dR S (.slice ab nb cap) rm dr,yN n a b] w fun e w'=>e=.returned (.tuple #[ag v,jB x y z u,.bool q])∧∃L' m',aD w' ⟨M,C,L',m'⟩ c'∧Alt [] w ⟨M,C,L,m⟩ w' ⟨M,C,L',m'⟩ 2:=by
 have hr:=XV.refl hB;rcases ho with rfl|rfl|rfl|rfl|rfl|rfl|rfl
 ·obtain⟨h0,h1⟩:=hn3 rfl;exact⟨0,0,0,0,0,false,_,hr.set (i:=32+n) (v:=a) ae (Cb.free ae),fun w M C L m ab cap rm dr hm hl=>(show qV 3=226 by simp[qV])▸XW hm hl S ab nb cap rm dr n a b ⟨h0,ae⟩⟩
 ·obtain⟨h0,h1⟩:=XQ ae;exact⟨_,0,0,0,0,false,_,hr,fun w M C L m ab cap rm dr hm hl=>(show qV 4=227 by simp[qV])▸XX hm hl S ab nb cap rm dr n a b ⟨h0,ae⟩ hP hnb⟩
 ·obtain⟨h0,h1⟩:=XQ ae;refine⟨_,0,0,0,0,false,_,?_,fun w M C L m ab cap rm dr hm hl=>(show qV 5=228 by simp[qV])▸XY hm hl S ab nb cap rm dr n a b ⟨h0,ae⟩ hP hnb⟩;split
  ·rename_i hb;unfold vP at hb⊢;split at hb
   ·rename_i hk;rw[if_pos hk];exact hr.set ae (Cb.body hk.1 ⟨h0,h1⟩ (TF n b).1 (TF n b).2)
   ·omega
  ·exact hr
 ·exact⟨0,0,0,0,0,false,_,hr.set (i:=6) (v:=n) ae (Cb.free ae),fun w M C L m ab cap rm dr hm hl=>(show qV 18=230 by simp[qV])▸XZ hm hl S ab nb cap rm dr n a b⟩
 ·refine⟨0,0,0,0,0,false,_,?_,fun w M C L m ab cap rm dr hm hl=>(show qV 19=231 by simp[qV])▸X0 hm hl S ab nb cap rm dr n a b⟩;split
  ·exact hr.set (i:=6) (v:=n) ae (Cb.free ae)
  ·exact hr
 ·obtain⟨h0,h1⟩:=hB.count;obtain⟨x,y,z,u,he⟩:∃x y z u,(if 40≤cg c 11 then jB 0 0 0 0 else jB (cg c 0) (cg c 11) a b)=jB x y z u:=by split<;>exact⟨_,_,_,_,rfl⟩
  refine⟨0,x,y,z,u,_,_,?_,fun w M C L m ab cap rm dr hm hl=>(show qV 20=232 by simp[qV])▸he▸X3 hm hl S ab nb cap rm dr n a b h0⟩;unfold emc;split
  ·exact hr
  ·exact(hr.set (i:=12) ae (Cb.free ae)).set (i:=11) ae (Cb.count ae)
 ·exact⟨0,0,0,0,0,false,_,hr,fun w M C L m ab cap rm dr hm hl=>(show qV 21=234 by simp[qV])▸X4 hm hl S ab nb cap rm dr n a b⟩
theorem abo (hm:aD w ⟨M,C,L,m⟩ c) (S:Stp) (ab:Option Addr) (nb cap:Nat) (rm dr:Value) (op n a b:Int) (ho:op=1∨op=2∨op=6∨op=7∨op=8) (hn:op=2→0≤n∧n≤1000):
  Calls prog 133 #[ag op,iW M,dR S (.slice ab nb cap) rm dr,yN n a b] w fun e w'=>e=.returned (.tuple #[ag (Xd op c n),jB 0 0 0 0,.bool false])∧∃L' m',aD w' ⟨M,C,L',m'⟩ c∧Alt [] w ⟨M,C,L,m⟩ w' ⟨M,C,L',m'⟩ 2:=by
 have hA:=Alt.refl [] w ⟨M,C,L,m⟩;rcases ho with rfl|rfl|rfl|rfl|rfl
 ·have ht:=fun V=>wW 1 av V;have hc:=fun(V:World) (hV:aD V ⟨M,C,L,m⟩ c)=>zZ hV 1 n av hn;rw[show yO 1=210 by simp[yO]]at hc;simp only[show yO 1=210 by simp[yO]]at ht;generalize Xd 1 c n=v at*;exact oI
 ·have ht:=fun V=>wW 2 av V;have hc:=fun(V:World) (hV:aD V ⟨M,C,L,m⟩ c)=>zZ hV 2 n av hn;rw[show yO 2=211 by simp[yO]]at hc;simp only[show yO 2=211 by simp[yO]]at ht;generalize Xd 2 c n=v at*;exact oI
 ·have ht:=fun V=>wW 6 av V;have hc:=fun(V:World) (hV:aD V ⟨M,C,L,m⟩ c)=>zZ hV 6 n av hn;rw[show yO 6=212 by simp[yO]]at hc;simp only[show yO 6=212 by simp[yO]]at ht;generalize Xd 6 c n=v at*;exact oI
 ·have ht:=fun V=>wW 7 av V;have hc:=fun(V:World) (hV:aD V ⟨M,C,L,m⟩ c)=>zZ hV 7 n av hn;rw[show yO 7=213 by simp[yO]]at hc;simp only[show yO 7=213 by simp[yO]]at ht;generalize Xd 7 c n=v at*;exact oI
 ·have ht:=fun V=>wW 8 av V;have hc:=fun(V:World) (hV:aD V ⟨M,C,L,m⟩ c)=>zZ hV 8 n av hn;rw[show yO 8=214 by simp[yO]]at hc;simp only[show yO 8=214 by simp[yO]]at ht;generalize Xd 8 c n=v at*;exact oI
theorem abp (hm:aD w ⟨M,C,L,m⟩ c) (S:Stp) (ab:Option Addr) (nb cap:Nat) (rm dr:Value) (op n a b:Int) (ho:op=9∨op=10∨op=11∨op=12∨op=14∨op=15∨op=16):
  Calls prog 133 #[ag op,iW M,dR S (.slice ab nb cap) rm dr,yN n a b] w fun e w'=>e=.returned (.tuple #[ag (Gh op a b),jB 0 0 0 0,.bool false])∧∃L' m',aD w' ⟨M,C,L',m'⟩ c∧Alt [] w ⟨M,C,L,m⟩ w' ⟨M,C,L',m'⟩ 2:=by
 have hA:=Alt.refl [] w ⟨M,C,L,m⟩;rcases ho with rfl|rfl|rfl|rfl|rfl|rfl|rfl
 ·have ht:=fun V=>mh 9 av V;have hc:=fun(V:World)=>uN 9 a b av V;rw[show qU 9=215 by simp[qU]]at hc;simp only[show qU 9=215 by simp[qU]]at ht;generalize Gh 9 a b=v at*;exact jU
 ·have ht:=fun V=>mh 10 av V;have hc:=fun(V:World)=>uN 10 a b av V;rw[show qU 10=217 by simp[qU]]at hc;simp only[show qU 10=217 by simp[qU]]at ht;generalize Gh 10 a b=v at*;exact jU
 ·have ht:=fun V=>mh 11 av V;have hc:=fun(V:World)=>uN 11 a b av V;rw[show qU 11=218 by simp[qU]]at hc;simp only[show qU 11=218 by simp[qU]]at ht;generalize Gh 11 a b=v at*;exact jU
 ·have ht:=fun V=>mh 12 av V;have hc:=fun(V:World)=>uN 12 a b av V;rw[show qU 12=219 by simp[qU]]at hc;simp only[show qU 12=219 by simp[qU]]at ht;generalize Gh 12 a b=v at*;exact jU
 ·have ht:=fun V=>mh 14 av V;have hc:=fun(V:World)=>uN 14 a b av V;rw[show qU 14=220 by simp[qU]]at hc;simp only[show qU 14=220 by simp[qU]]at ht;generalize Gh 14 a b=v at*;exact jU
 ·have ht:=fun V=>mh 15 av V;have hc:=fun(V:World)=>uN 15 a b av V;rw[show qU 15=222 by simp[qU]]at hc;simp only[show qU 15=222 by simp[qU]]at ht;generalize Gh 15 a b=v at*;exact jU
 ·have ht:=fun V=>mh 16 av V;have hc:=fun(V:World)=>uN 16 a b av V;rw[show qU 16=223 by simp[qU]]at hc;simp only[show qU 16=223 by simp[qU]]at ht;generalize Gh 16 a b=v at*;exact jU
theorem abq (hm:aD w ⟨M,C,L,m⟩ c) (S:Stp) (ab:Option Addr) (nb cap:Nat) (rm dr:Value) (op n a b:Int) (ho:op=13∨op=17):
  Calls prog 133 #[ag op,iW M,dR S (.slice ab nb cap) rm dr,yN n a b] w fun e w'=>e=.returned (.tuple #[ag (unv op a),jB 0 0 0 0,.bool false])∧∃L' m',aD w' ⟨M,C,L',m'⟩ c∧Alt [] w ⟨M,C,L,m⟩ w' ⟨M,C,L',m'⟩ 2:=by
 have hA:=Alt.refl [] w ⟨M,C,L,m⟩;rcases ho with rfl|rfl
 ·have ht:=fun V=>yD 13 av V;have hc:=fun(V:World)=>TD 13 a av V;rw[show TE 13=224 by simp[TE]]at hc;simp only[show TE 13=224 by simp[TE]]at ht;generalize unv 13 a=v at*;have uo:=ah ht;have uO:=ah hc;clear ht hc;go_enter func133,ntmps133;go_upto_region 1 with(fail);refine aP fun W hW=>?_;have hb:aJ w W:=aM;refine jg ?_;intro k4;refine jV ?_;intro k5;refine gF ?_;intro k7;replace hm:=hm.below hb;replace hA:=hA.below hb;clear hW hb;have⟨⟨iw,iB,_⟩,_⟩:=k4;have⟨⟨ck5,nK,_⟩,_⟩:=k5;have⟨⟨iX,jP,_⟩,_⟩:=k7;have h4:=k4.blk.lt;have h5:=k5.blk.lt;have h77:=k7.blk.lt;refine gG ?_;intro h7;generalize eY:w.heap.size+1=b5 at*;generalize zP:b5+1=b7 at*;have cZ:=au;go_wp2_with (first|fail);refine n_ [5] [0,1,2,3,4] 6 aL aL fun NL hL=>?_;obtain⟨dU,dV,hlf⟩:=hL;(try simp only[bf]at dU);simp only[List.map_cons,List.map_nil,List.getD_cons_zero,List.getD_cons_succ,List.drop_succ_cons,List.drop_zero];(repeat(go_big_quiet_step (fail)));refine wpQuiet_nil ?_;(repeat(go_big_quiet_step (first|(with_reducible exact aY (uo.out _))|(with_reducible exact uP (uO.out _)))));refine wpQuiet_nil ?_;rintro w1 ⟨nq,hnq⟩;have aO:=nq.below;rw[←hnq]at aO;clear hnq nq dV hlf dU NL;exact Cz
 ·have ht:=fun V=>yD 17 av V;have hc:=fun(V:World)=>TD 17 a av V;rw[show TE 17=225 by simp[TE]]at hc;simp only[show TE 17=225 by simp[TE]]at ht;generalize unv 17 a=v at*;have uo:=ah ht;have uO:=ah hc;clear ht hc;go_enter func133,ntmps133;go_upto_region 1 with(fail);refine aP fun W hW=>?_;have hb:aJ w W:=aM;refine jg ?_;intro k4;refine jV ?_;intro k5;refine gF ?_;intro k7;replace hm:=hm.below hb;replace hA:=hA.below hb;clear hW hb;have⟨⟨iw,iB,_⟩,_⟩:=k4;have⟨⟨ck5,nK,_⟩,_⟩:=k5;have⟨⟨iX,jP,_⟩,_⟩:=k7;have h4:=k4.blk.lt;have h5:=k5.blk.lt;have h77:=k7.blk.lt;refine gG ?_;intro h7;generalize eY:w.heap.size+1=b5 at*;generalize zP:b5+1=b7 at*;have cZ:=au;go_wp2_with (first|fail);refine n_ [5] [0,1,2,3,4] 6 aL aL fun NL hL=>?_;obtain⟨dU,dV,hlf⟩:=hL;(try simp only[bf]at dU);simp only[List.map_cons,List.map_nil,List.getD_cons_zero,List.getD_cons_succ,List.drop_succ_cons,List.drop_zero];(repeat(go_big_quiet_step (fail)));refine wpQuiet_nil ?_;(repeat(go_big_quiet_step (first|(with_reducible exact aY (uo.out _))|(with_reducible exact uP (uO.out _)))));refine wpQuiet_nil ?_;rintro w1 ⟨nq,hnq⟩;have aO:=nq.below;rw[←hnq]at aO;clear hnq nq dV hlf dU NL;exact Cz
theorem X5 (hm:aD w ⟨M,C,L,m⟩ c) (S:Stp) (ab:Option Addr) (nb cap:Nat) (rm dr:Value) (n a b:Int) (v x y z u:Int) (q:Bool)
 (hc:∀(V:World),aD V ⟨M,C,L,m⟩ c→Calls prog 226 #[iW M,dR S (.slice ab nb cap) rm dr,yN n a b] V fun e w'=>e=.returned (.tuple #[ag v,jB x y z u,.bool q])∧∃L' m',aD w' ⟨M,C,L',m'⟩ c'∧Alt [] V ⟨M,C,L,m⟩ w' ⟨M,C,L',m'⟩ 2):
 Calls prog 133 #[ag 3,iW M,dR S (.slice ab nb cap) rm dr,yN n a b] w fun e w'=>e=.returned (.tuple #[ag v,jB x y z u,.bool q])∧∃L' m',aD w' ⟨M,C,L',m'⟩ c'∧Alt [] w ⟨M,C,L,m⟩ w' ⟨M,C,L',m'⟩ 2:=by have hA:=Alt.refl [] w ⟨M,C,L,m⟩;have ht:=fun V=>nW 3 av V;simp only[show qV 3=226 by simp[qV]]at ht;exact jW
theorem X6 (hm:aD w ⟨M,C,L,m⟩ c) (S:Stp) (ab:Option Addr) (nb cap:Nat) (rm dr:Value) (n a b:Int) (v x y z u:Int) (q:Bool)
 (hc:∀(V:World),aD V ⟨M,C,L,m⟩ c→Calls prog 227 #[iW M,dR S (.slice ab nb cap) rm dr,yN n a b] V fun e w'=>e=.returned (.tuple #[ag v,jB x y z u,.bool q])∧∃L' m',aD w' ⟨M,C,L',m'⟩ c'∧Alt [] V ⟨M,C,L,m⟩ w' ⟨M,C,L',m'⟩ 2):
 Calls prog 133 #[ag 4,iW M,dR S (.slice ab nb cap) rm dr,yN n a b] w fun e w'=>e=.returned (.tuple #[ag v,jB x y z u,.bool q])∧∃L' m',aD w' ⟨M,C,L',m'⟩ c'∧Alt [] w ⟨M,C,L,m⟩ w' ⟨M,C,L',m'⟩ 2:=by have hA:=Alt.refl [] w ⟨M,C,L,m⟩;have ht:=fun V=>nW 4 av V;simp only[show qV 4=227 by simp[qV]]at ht;exact jW
theorem X7 (hm:aD w ⟨M,C,L,m⟩ c) (S:Stp) (ab:Option Addr) (nb cap:Nat) (rm dr:Value) (n a b:Int) (v x y z u:Int) (q:Bool)
 (hc:∀(V:World),aD V ⟨M,C,L,m⟩ c→Calls prog 228 #[iW M,dR S (.slice ab nb cap) rm dr,yN n a b] V fun e w'=>e=.returned (.tuple #[ag v,jB x y z u,.bool q])∧∃L' m',aD w' ⟨M,C,L',m'⟩ c'∧Alt [] V ⟨M,C,L,m⟩ w' ⟨M,C,L',m'⟩ 2):
 Calls prog 133 #[ag 5,iW M,dR S (.slice ab nb cap) rm dr,yN n a b] w fun e w'=>e=.returned (.tuple #[ag v,jB x y z u,.bool q])∧∃L' m',aD w' ⟨M,C,L',m'⟩ c'∧Alt [] w ⟨M,C,L,m⟩ w' ⟨M,C,L',m'⟩ 2:=by have hA:=Alt.refl [] w ⟨M,C,L,m⟩;have ht:=fun V=>nW 5 av V;simp only[show qV 5=228 by simp[qV]]at ht;exact jW
theorem Vb (hm:aD w ⟨M,C,L,m⟩ c) (S:Stp) (ab:Option Addr) (nb cap:Nat) (rm dr:Value) (n a b:Int) (v x y z u:Int) (q:Bool)
 (hc:∀(V:World),aD V ⟨M,C,L,m⟩ c→Calls prog 230 #[iW M,dR S (.slice ab nb cap) rm dr,yN n a b] V fun e w'=>e=.returned (.tuple #[ag v,jB x y z u,.bool q])∧∃L' m',aD w' ⟨M,C,L',m'⟩ c'∧Alt [] V ⟨M,C,L,m⟩ w' ⟨M,C,L',m'⟩ 2):
 Calls prog 133 #[ag 18,iW M,dR S (.slice ab nb cap) rm dr,yN n a b] w fun e w'=>e=.returned (.tuple #[ag v,jB x y z u,.bool q])∧∃L' m',aD w' ⟨M,C,L',m'⟩ c'∧Alt [] w ⟨M,C,L,m⟩ w' ⟨M,C,L',m'⟩ 2:=by have hA:=Alt.refl [] w ⟨M,C,L,m⟩;have ht:=fun V=>nW 18 av V;simp only[show qV 18=230 by simp[qV]]at ht;exact jW
theorem Vd (hm:aD w ⟨M,C,L,m⟩ c) (S:Stp) (ab:Option Addr) (nb cap:Nat) (rm dr:Value) (n a b:Int) (v x y z u:Int) (q:Bool)
 (hc:∀(V:World),aD V ⟨M,C,L,m⟩ c→Calls prog 231 #[iW M,dR S (.slice ab nb cap) rm dr,yN n a b] V fun e w'=>e=.returned (.tuple #[ag v,jB x y z u,.bool q])∧∃L' m',aD w' ⟨M,C,L',m'⟩ c'∧Alt [] V ⟨M,C,L,m⟩ w' ⟨M,C,L',m'⟩ 2):
 Calls prog 133 #[ag 19,iW M,dR S (.slice ab nb cap) rm dr,yN n a b] w fun e w'=>e=.returned (.tuple #[ag v,jB x y z u,.bool q])∧∃L' m',aD w' ⟨M,C,L',m'⟩ c'∧Alt [] w ⟨M,C,L,m⟩ w' ⟨M,C,L',m'⟩ 2:=by have hA:=Alt.refl [] w ⟨M,C,L,m⟩;have ht:=fun V=>nW 19 av V;simp only[show qV 19=231 by simp[qV]]at ht;exact jW
theorem Vf (hm:aD w ⟨M,C,L,m⟩ c) (S:Stp) (ab:Option Addr) (nb cap:Nat) (rm dr:Value) (n a b:Int) (v x y z u:Int) (q:Bool)
 (hc:∀(V:World),aD V ⟨M,C,L,m⟩ c→Calls prog 232 #[iW M,dR S (.slice ab nb cap) rm dr,yN n a b] V fun e w'=>e=.returned (.tuple #[ag v,jB x y z u,.bool q])∧∃L' m',aD w' ⟨M,C,L',m'⟩ c'∧Alt [] V ⟨M,C,L,m⟩ w' ⟨M,C,L',m'⟩ 2):
 Calls prog 133 #[ag 20,iW M,dR S (.slice ab nb cap) rm dr,yN n a b] w fun e w'=>e=.returned (.tuple #[ag v,jB x y z u,.bool q])∧∃L' m',aD w' ⟨M,C,L',m'⟩ c'∧Alt [] w ⟨M,C,L,m⟩ w' ⟨M,C,L',m'⟩ 2:=by have hA:=Alt.refl [] w ⟨M,C,L,m⟩;have ht:=fun V=>nW 20 av V;simp only[show qV 20=232 by simp[qV]]at ht;exact jW
theorem Vg (hm:aD w ⟨M,C,L,m⟩ c) (S:Stp) (ab:Option Addr) (nb cap:Nat) (rm dr:Value) (n a b:Int) (v x y z u:Int) (q:Bool)
 (hc:∀(V:World),aD V ⟨M,C,L,m⟩ c→Calls prog 234 #[iW M,dR S (.slice ab nb cap) rm dr,yN n a b] V fun e w'=>e=.returned (.tuple #[ag v,jB x y z u,.bool q])∧∃L' m',aD w' ⟨M,C,L',m'⟩ c'∧Alt [] V ⟨M,C,L,m⟩ w' ⟨M,C,L',m'⟩ 2):
 Calls prog 133 #[ag 21,iW M,dR S (.slice ab nb cap) rm dr,yN n a b] w fun e w'=>e=.returned (.tuple #[ag v,jB x y z u,.bool q])∧∃L' m',aD w' ⟨M,C,L',m'⟩ c'∧Alt [] w ⟨M,C,L,m⟩ w' ⟨M,C,L',m'⟩ 2:=by have hA:=Alt.refl [] w ⟨M,C,L,m⟩;have ht:=fun V=>nW 21 av V;simp only[show qV 21=234 by simp[qV]]at ht;exact jW
theorem tY (S:Stp) (nb:Nat) (hP:S.ak≤8) (hnb:nb≤24) (hB:sM S.ak c) (op n a b:Int) (ho:1≤op∧op≤21) (FX:op=2∨op=3→0≤n∧n≤15) (XQ:op=4∨op=5→0≤n∧n≤7):
  ∃(v x y z u:Int) (q:Bool) (c':List Int),XV S.ak c c'∧∀(w:World) (M C:Nat) (L:Option Nat) (m:Nat) (ab:Option Addr) (cap:Nat) (rm dr:Value),aD w ⟨M,C,L,m⟩ c→m<999999000→
   Calls prog 133 #[ag op,iW M,dR S (.slice ab nb cap) rm dr,yN n a b] w fun e w'=>e=.returned (.tuple #[ag v,jB x y z u,.bool q])∧∃L' m',aD w' ⟨M,C,L',m'⟩ c'∧Alt [] w ⟨M,C,L,m⟩ w' ⟨M,C,L',m'⟩ 2:=by
 have hcases:(op=1∨op=2∨op=6∨op=7∨op=8)∨(op=9∨op=10∨op=11∨op=12∨op=14∨op=15∨op=16)∨(op=13∨op=17)∨(op=3∨op=4∨op=5∨op=18∨op=19∨op=20∨op=21):=ae;rcases hcases with h|h|h|h
 ·refine⟨_,0,0,0,0,false,c,XV.refl hB,fun w M C L m ab cap rm dr hm hl=>abo hm S ab nb cap rm dr op n a b h fun e=>?_⟩;have:=FX (.inl e);omega
 ·exact⟨_,0,0,0,0,false,c,XV.refl hB,fun w M C L m ab cap rm dr hm hl=>abp hm S ab nb cap rm dr op n a b h⟩
 ·exact⟨_,0,0,0,0,false,c,XV.refl hB,fun w M C L m ab cap rm dr hm hl=>abq hm S ab nb cap rm dr op n a b h⟩
 ·obtain⟨v,x,y,z,u,q,c',hv,hc⟩:=abn S nb hP hnb hB op n a b h (fun e=>FX (.inr e)) XQ;refine⟨v,x,y,z,u,q,c',hv,fun w M C L m ab cap rm dr hm hl=>?_⟩;have hc:=fun V hV=>hc V M C L m ab cap rm dr hV hl;rcases h with rfl|rfl|rfl|rfl|rfl|rfl|rfl
  ·rw[show qV 3=226 by simp[qV]]at hc;exact X5 hm S ab nb cap rm dr n a b v x y z u q hc
  ·rw[show qV 4=227 by simp[qV]]at hc;exact X6 hm S ab nb cap rm dr n a b v x y z u q hc
  ·rw[show qV 5=228 by simp[qV]]at hc;exact X7 hm S ab nb cap rm dr n a b v x y z u q hc
  ·rw[show qV 18=230 by simp[qV]]at hc;exact Vb hm S ab nb cap rm dr n a b v x y z u q hc
  ·rw[show qV 19=231 by simp[qV]]at hc;exact Vd hm S ab nb cap rm dr n a b v x y z u q hc
  ·rw[show qV 20=232 by simp[qV]]at hc;exact Vf hm S ab nb cap rm dr n a b v x y z u q hc
  ·rw[show qV 21=234 by simp[qV]]at hc;exact Vg hm S ab nb cap rm dr n a b v x y z u q hc
end Vm
end Go.Proofs.YtohpdonnpbjfdaaGreatDoor
