/- What is shown: package game. Conditions: as each theorem states. -/
import Derived.Deep.RegionHeld3
import Derived.Test.YtohpdonnpbjfdaaGreatDoorY37
set_option maxHeartbeats 40000000
set_option maxRecDepth 100000
set_option linter.unusedVariables false
set_option linter.unusedSimpArgs false
open Go.Proofs.Tryz
namespace Go.Proofs.YtohpdonnpbjfdaaGreatDoor
theorem O3 {P:Prop} (h:P:=by rw[←L_];exact(((((((((((((((((Al.refl b2 W5).set _ _).set _ _).set _ _).set _ _).set _ _).set _ _).set _ _).set _ _).set _ _).set _ _).set _ _).set _ _).set _ _).set _ _).set _ _).set _ _)):P:=h
theorem O4 {P:Prop} (h:P:=by rw[←L_];exact((((((((((((((((kz.put 0 _).put 1 _).put 2 _).put 3 _).put 4 _).put 5 _).put 6 _).put 7 _).put 8 _).put 9 _).put 10 _).put 11 _).put 12 _).put 13 _).put 14 _).put 15 _)):P:=h
theorem Pg {P:Prop} (h:P:=by rw[IM];exact fun i B hB=>((HBD.out i B hB).later gK).Nw WU.1 av _):P:=h
theorem Ph {P:Prop} (h:P:=by rw[Ko];exact fun i B hB=>((HB3.out i B hB).later eY).Nw WU.1 av _):P:=h
theorem Pj {P:Prop} (h:P:=by have:=uU.frozen (p:=⟨g,k*9+1,none⟩) glt;rw[this];exact hfr _):P:=h
theorem Pm {P:Prop} (h:P:=by rw[Ko];exact(zN.trans (eY.mono zN.size)).setCell amr _):P:=h
theorem Po {P:Prop} (h:P:=by rw[IM];exact(hbr.trans (gK.mono hbr.size)).setCell amr _):P:=h
theorem Pq {P:Prop} (h:P:=by rw[vI];exact fun i B hB=>(hbd i B hB).Nw WU.1 av _):P:=h
theorem Ps {P:Prop} (h:P:=by rw[Ko];exact k23.other (by show b1≠b2;exact h12.2.2) _):P:=h
theorem Pt {P:Prop} (h:P:=by rw[vI];have:=hbW.trans (aO.mono hbW.size);exact aG):P:=h
theorem Pv {P:Prop} (h:P:=by rw[IM];exact k2.other (by show b1≠b2;exact h12.2.2) _):P:=h
theorem Pz {P:Prop} (h:P:=by rw[hB]at hB';injection hB' with hB';exact hB'.symm):P:=h
theorem PR {P Q:Prop} (q:Q) (h:Q→P:=by have hcb:=fun(V:World) (l:List Nat) (hV:aJ w V) (hl:∀x∈l,w.heap.size≤x)=>Q7 (cap:=cap) (fun i B hB=>((hb i B hB).wide (fun x hx=>.inr (hl x hx))).later hV:Db V b S.bodies l) hn;intro kk;revert hcb;exact kk):P:=h q
theorem PT {P:Prop} (h:P:=by
 go_upto_region 1 with(fail);refine aP fun W hW=>?_;have k1:aV W w.heap.size (Ld S (aZ b n cap) rm dr):=rV;have k2:aV W (w.heap.size+1) VX:=eX;have hbW:aJ w W:=aM;obtain⟨b1,aO⟩:∃b,b=w.heap.size:=⟨_,rfl⟩
 rw[←aO]at k1 k2⊢;obtain⟨b2,dW⟩:∃b,b=b1+1:=⟨_,rfl⟩
 rw[←dW]at k2⊢;have h12:w.heap.size≤b1∧w.heap.size≤b2∧b1≠b2:=ae;clear hW aO dW;have⟨ck1,Xk,_⟩:=k1;unfold Ld at ck1;have lk1:=k1.lt;have lk2:=k2.lt;go_upto_region 2 with(first|((with_reducible refine(asl.out W [b1,b2] hbW bU).mono ?_);rintro e w1 ⟨g,cap',rfl,hg,hbd,hfr,aO⟩;replace k1:=k1.later aO;replace k2:=k2.later aO;replace ck1:=k1.cell;replace Xk:=k1.free;unfold Ld at ck1));refine aP fun W1 vI=>?_;have hlt:=k1.lt;replace k1:aV W1 b1 (Ld S (aZ g n cap') rm dr):=by rw[vI];exact k1.put 1 _
 replace k2:aV W1 b2 VX:=by rw[vI];exact k2.other h12.2.2 _
 have amt:aJ w W1:=Pt;have WU:g≠b1∧g≠b2:=ae;have amu:Db W1 g S.bodies [g,b1,b2]:=Pq;have amv:∀j,W1.frozen? ⟨g,j,none⟩=false:=by intro j;rw[vI];simp[hfr]
 replace ck1:=k1.cell;replace Xk:=k1.free;unfold Ld at ck1;have BC:w.heap.size≤g:=by have:=hbW.size;omega
 clear vI hbd hfr aO hg hbW;have HBD:=ah amu;have HFR:=ah amv;clear amu amv;have cZ:=au;go_wp2;go_loopw [11] (fun i wr=>∃k:Nat,k≤n∧i=ag k∧aJ w wr∧aV wr b1 (Ld S (aZ g n cap') rm dr)∧aV wr b2 VX∧Db wr g S.bodies [g,b1,b2]∧∀j,wr.frozen? ⟨g,j,none⟩=false) (fun i _=>n-(intOf i).toNat);case atStart=>exact⟨0,ae,rfl,amt,k1,k2,HBD.out,HFR.out⟩
 case round=>
  clear ck1 Xk k1 k2 amt HBD HFR lk1 lk2 hlt;obtain⟨k,hk,rfl,hbr,k1,k2,hbd,hfr⟩:=hrel;have⟨ck1,Xk,_⟩:=k1;unfold Ld at ck1;by_cases hlt:k<n
  ·have pg:(k:Int)<(n:Int):=ae;obtain⟨B,hB⟩:∃B,S.bodies[k]?=some B:=⟨_,ik rR⟩
   obtain⟨a,len,cp,s0,s1,s2,s3⟩:=(hbd k B hB).shape;have lH:=ah fun(V:World) (hV:aJ wr V)=>Q6 (s2.later hV) (s3.imp id fun⟨p,e,_⟩=>⟨p,e⟩);have HBD:=ah hbd;clear hbd s0 s2 s3;have glt:=aU _ _ s1;simp only at glt;have aAe:=k1.lt;have aAf:aJ wr wr:=aK _ _;go_upto_region 5 with(fail);refine EU g g [3,4,5,6,7,8,9] [0,1,2] [10,11,12,13,14] 10 aL aL fun NL hL hL3=>?_;have dV:=hL.cell;have hl3:=hL3.cell;have dU:=hL3.eq;clear hL hL3;simp only[jA];repeat(go_big_quiet_step (fail))
   refine wpQuiet_nil ?_;repeat(go_big_quiet_step (fail))
   refine wpQuiet_nil ?_;clear dV hl3 dU;refine yM (f:=67) (args:=#[.slice a len cp]) (w1:=wr.drew) rfl bO (lH.out _ aG) ?_;rintro e w2 ⟨a',cap2,rfl,hsh,hpo,dW⟩;have uU:aJ wr w2:=(aK _ wr).drew.trans dW;refine⟨_,rfl,⟨⟨w2,uU.os,uU.tape,uU.output,uU.size,fun k hk _ _=>uU.block k hk⟩,rfl⟩,?_⟩;simp only[Act.put,dH];have aAg:w2.frozen? ⟨g,k*9+1,none⟩=false:=Pj;have gX:=ai uU s1;refine di (v:=.pointer (some ⟨g,k*9,none⟩)) (w1:=w2) rfl bO ⟨⟨w2,uU.os,uU.tape,uU.output,uU.size,fun k hk _ _=>uU.block k hk⟩,rfl⟩ ?_;simp only[Act.put,dH];refine di (v:=.pointer (some ⟨g,k*9,none⟩)) (w1:=w2) rfl bO ⟨⟨w2,uU.os,uU.tape,uU.output,uU.size,fun k hk _ _=>uU.block k hk⟩,rfl⟩ ?_;simp only[Act.put,dH];refine di (v:=.pointer (some ⟨g,k*9+1,none⟩)) (w1:=w2) rfl bO ⟨⟨w2,uU.os,uU.tape,uU.output,uU.size,fun k hk _ _=>uU.block k hk⟩,rfl⟩ ?_;simp only[Act.put,dH];refine dY (w1:=w2.setCell ⟨g,k*9+1,none⟩ (.slice a' len cap2)) rfl bO ⟨lq.set ⟨w2,uU.os,uU.tape,uU.output,uU.size,fun k hk _ _=>uU.block k hk⟩ ⟨g,k*9+1,none⟩ (.inl rfl) _,rfl⟩ ?_;simp only[Act.put,dH];refine fT ?_;go_wp2;refine⟨⟨k+1,ae,av,?_,?_,?_,?_,?_⟩,by simp[intOf];omega⟩
   ·exact(hbr.trans (uU.mono hbr.size)).setCell BC _
   ·exact(k1.later uU).other (by show g≠b1;exact WU.1) _
   ·exact(k2.later uU).other (by show g≠b2;exact WU.2) _
   ·refine fun i B' hB'=>((HBD.out i B' hB').later uU).ap0 av fun e=>?_;subst e;have e2:B'=B:=Pz;subst e2;refine⟨hsh,hpo.imp id fun⟨p,e,hp⟩=>⟨p,e,?_⟩⟩;have tH:wr.heap.size≤p:=hp;have:=k2.lt;simp only[List.mem_cons,List.not_mem_nil,or_false];omega
   ·intro j;have h1:=uU.frozen (p:=⟨g,j,none⟩) glt;have h2:w2.frozen? ⟨g,j,none⟩=false:=h1.trans (hfr j);simp[h2]
  ·obtain rfl:k=n:=ae;have pg:¬((k:Int)<(k:Int)):=ae;have HBD:=ah hbd;clear hbd hfr;have aAh:=k1.lt;have aAi:=k2.lt;go_upto_region 8 with(first|((with_reducible refine(asn.out _ hbr).mono ?_);rintro e w3 ⟨a3,cp3,rfl,hx3,hn3,gK⟩;replace k1:=k1.later gK;replace k2:=k2.later gK;replace ck1:=k1.cell;replace Xk:=k1.free;unfold Ld at ck1;have ahe:=k1.lt));refine aP fun W3 IM=>?_;have hz3:=gK.size;have hlg:=k1.lt;have amr:=h12.1;have k13:aV W3 b1 (Ld S (aZ g k cap') (.slice a3 S.f_.length cp3) dr):=by rw[IM];exact k1.put 6 _
   have k23:aV W3 b2 VX:=Pv;have zN:aJ w W3:=Po;have HB3:Hid (Db W3 g S.bodies [g,b1,b2]):=ah Pg;have lb1:b1<w3.heap.size:=hlg;have HX3:Hid (sV W3 (.slice a3 S.f_.length cp3) S.f_):=ah (by rw[IM];refine hx3.Nw (fun h=>?_) _;obtain⟨q,e,hq⟩:=hn3 h;exact⟨q,e,by show q≠b1;omega⟩);have amw:S.f_≠[]→∃q,a3=some ⟨q,0,none⟩∧q≠b1∧q≠b2:=fun h=>by obtain⟨q,e,hq⟩:=hn3 h;exact⟨q,e,ae,ae⟩
   clear IM k1 k2 gK hx3 hn3 HBD hbr hlg ahe;replace ck1:=k13.cell;replace Xk:=k13.free;unfold Ld at ck1;have aAj:=k13.lt;have lb2:=k23.lt;go_upto_region 9 with(first|((with_reducible refine(aso.out _ zN).mono ?_);rintro e w5 ⟨a5,cp5,rfl,hx5,hn5,eY⟩;replace k13:=k13.later eY;replace k23:=k23.later eY;replace ck1:=k13.cell;replace Xk:=k13.free;unfold Ld at ck1;have ahe:=k13.lt));refine aP fun W5 Ko=>?_;have hz5:=eY.size;have k15:aV W5 b1 (Ld S (aZ g k cap') (.slice a3 S.f_.length cp3) (.slice a5 S.doors.length cp5)):=by rw[Ko];exact k13.put 7 _
   have kz:aV W5 b2 VX:=Ps;have asq:aJ w W5:=Pm;have HB5:Hid (Db W5 g S.bodies [g,b1,b2]):=ah Ph;have HX5:Hid (sV W5 (.slice a3 S.f_.length cp3) S.f_):=ah (by rw[Ko];refine(HX3.out.later eY).Nw (fun h=>?_) _;obtain⟨q,e,hq,_⟩:=amw h;exact⟨q,e,hq⟩);have HD5:Hid (kZ W5 (.slice a5 S.doors.length cp5) S.doors):=ah (by rw[Ko];refine hx5.Nw (fun h=>?_) _;obtain⟨q,e,hq⟩:=hn5 h;exact⟨q,e,by show q≠b1;omega⟩);have asr:S.doors≠[]→∃q,a5=some ⟨q,0,none⟩∧q≠b2:=fun h=>by obtain⟨q,e,hq⟩:=hn5 h;exact⟨q,e,ae⟩
   clear Ko k13 k23 eY hx5 hn5 HB3 HX3 zN ahe;replace ck1:=k15.cell;replace Xk:=k15.free;unfold Ld at ck1;have aAl:=k15.lt;have⟨cz,fz,lz⟩:=kz;unfold VX at cz;go_wp2;generalize L_:World.setCell _ _ _=WF;have kF:aV WF b2 (Ld S (aZ g k cap') (.slice a3 S.f_.length cp3) (.slice a5 S.doors.length cp5)):=O4;have hal:Al b2 W5 WF:=O3;have hk:=hal.block;have hbF:aJ w WF:=hal.below asq h12.2.1;have cF:=kF.cell;unfold Ld at cF;refine bodyPost_ret (v:=dR S (aZ g k cap') (.slice a3 S.f_.length cp3) (.slice a5 S.doors.length cp5)) (by simp[results,gY,go_sem,cF,dR]) rfl ⟨_,_,_,rfl,⟨⟨g,cap',by rw[Hnl.out],fun i B hB=>(HB5.out i B hB).Oi WU.2 av hk⟩,HX5.out.Oi (fun h=>?_) hk,HD5.out.Oi asr hk⟩,hbF⟩;obtain⟨q,e,_,hq⟩:=amw h;exact⟨q,e,hq⟩):P:=h
theorem xW {P:Prop} (h:P:=by
 obtain⟨b,cap,rfl,hb⟩:=h.bodies;have hrm:=h.f_;have hdr:=h.doors;refine PR ?_;intro hcb;have asn:=ah fun(V:World) (hV:aJ w V)=>Vy (hrm.later hV) hr;have aso:=ah fun(V:World) (hV:aJ w V)=>Q8 (hdr.later hV) hd;obtain⟨n,hnl⟩:∃n,n=S.bodies.length:=⟨_,rfl⟩
 have Hnl:=ah hnl;rw[←hnl]at hn⊢;simp only[←hnl]at hcb;clear hnl h hb hrm hdr hr hd;have asl:=ah hcb;clear hcb;first
 |revert bP;intro bP
  have gY:=results28
  go_enter func28,ntmps28
 |revert gu;intro gu
  have gY:=results58
  go_enter func58,ntmps58
 |revert nL;intro nL
  have gY:=results93
  go_enter func93,ntmps93
 exact PT):P:=h
namespace La
open Go.RowKit aN fO Qt Ro Bk Sh Cl
attribute [local go_sem] Oper.semAt_some
variable {w w':World} {b q n cap:Nat} {S:Stp} {bs rm dr:Value} {a:Option Addr}
def Ld (S:Stp) (bs rm dr:Value):List Value:=[ag S.ak,bs,ag S.x0,ag S.y0,ag S.x1,ag S.y1,rm,dr,ag S.ou,ag S.gx,ag S.gy,ag S.push,ag S.eO,ag S.rest,ag S.rounds,ag S.fuel]
structure Al (b:Nat) (w w':World):Prop where
 os:w'.os=w.os
 tape:w'.tape=w.tape
 output:w'.output=w.output
 size:w'.heap.size=w.heap.size
 block:∀x,x≠b→w'.heap[x]?=w.heap[x]?
theorem Al.refl (b:Nat) (w:World):Al b w w:=⟨rfl,rfl,rfl,rfl,fun _ _=>rfl⟩
theorem Al.set (h:Al b w w') (o:Nat) (v:Value):Al b w (w'.setCell ⟨b,o,none⟩ v):=
 ⟨h.os,h.tape,h.output,by simpa using h.size,fun x hx=>(dI _ _ _ _ hx).trans (h.block x hx)⟩
theorem Al.below {B:Nat} {u:World} (h:Al b w w') (hb:Below B u w) (hB:B≤b):Below B u w':=
 {os:=h.os.trans hb.os,tape:=h.tape.trans hb.tape,output:=h.output.trans hb.output,size:=by rw[h.size];exact hb.size,block:=fun q hq=>(h.block q ae).trans (hb.block q hq)}
theorem nQ.Oi {i:Nat} {B:yx} {l:List Nat} (h:nQ w b i B l) (hb:b≠q) (hq:q∈l) (hk:∀x,x≠q→w'.heap[x]?=w.heap[x]?):nQ w' b i B []:=by
 have hc:∀o,w'.cell? ⟨b,o,none⟩=w.cell? ⟨b,o,none⟩:=fun o=>bg (a:=⟨b,o,none⟩) (hk b hb);obtain⟨a,len,cap,h0,h1,h2,h3⟩:=h.shape;refine⟨⟨a,len,cap,by rw[hc];exact h0,by rw[hc];exact h1,pX h2 (fun p hp=>hk _ fun e=>?_),h3.imp id fun⟨p,e,_⟩=>⟨p,e,av⟩⟩,by rw[hc];exact h.c2,by rw[hc];exact h.c3,by rw[hc];exact h.c4,by rw[hc];exact h.c5,by rw[hc];exact h.c6,by rw[hc];exact h.c7,by rw[hc];exact h.c8⟩;rcases h3 with h3|⟨p',e',hp'⟩
 ·rw[h3]at hp;cases hp
 ·rw[e']at hp;injection hp with hp;subst hp;have e2:p'=q:=e;exact hp' (by rw[e2];exact hq)
theorem sV.Oi {L:List (Int×Int×Int×Int)} (h:sV w (.slice a n cap) L) (hq:L≠[]→∃g,a=some ⟨g,0,none⟩∧g≠q) (hk:∀x,x≠q→w'.heap[x]?=w.heap[x]?):sV w' (.slice a n cap) L:=by
 rcases h with h|⟨h0,b,cp,e,h⟩
 ·exact .inl h
 ·obtain⟨g,rfl,hg⟩:=hq h0;have e2:g=b:=rA;subst e2;have hc:∀o,w'.cell? ⟨g,o,none⟩=w.cell? ⟨g,o,none⟩:=fun o=>bg (a:=⟨g,o,none⟩) (hk g hg);exact .inr ⟨h0,g,cp,e,fun i x hx=>by rw[hc,hc,hc,hc];exact h i x hx⟩
theorem kZ.Oi {L:List (Int×Int)} (h:kZ w (.slice a n cap) L) (hq:L≠[]→∃g,a=some ⟨g,0,none⟩∧g≠q) (hk:∀x,x≠q→w'.heap[x]?=w.heap[x]?):kZ w' (.slice a n cap) L:=by
 rcases h with h|⟨h0,b,cp,e,h⟩
 ·exact .inl h
 ·obtain⟨g,rfl,hg⟩:=hq h0;have e2:g=b:=rA;subst e2;have hc:∀o,w'.cell? ⟨g,o,none⟩=w.cell? ⟨g,o,none⟩:=fun o=>bg (a:=⟨g,o,none⟩) (hk g hg);exact .inr ⟨h0,g,cp,e,fun i x hx=>by rw[hc,hc];exact h i x hx⟩
def VX:List Value:=[ag 0,.slice none 0 0,ag 0,ag 0,ag 0,ag 0,.slice none 0 0,.slice none 0 0,ag 0,ag 0,ag 0,ag 0,ag 0,ag 0,ag 0,ag 0]
theorem Sc (h:lK w S bs rm dr) (hn:1≤S.bodies.length∧S.bodies.length≤24) (hr:S.f_.length≤100) (hd:S.doors.length≤100):
  Calls prog 28 #[dR S bs rm dr] w fun e w'=>∃bs' rm' tL,e=.returned (dR S bs' rm' tL)∧lK w' S bs' rm' tL∧aJ w w':=by have bP:=trivial;exact xW
theorem Sb (h:lK w S bs rm dr) (hn:1≤S.bodies.length∧S.bodies.length≤24) (hr:S.f_.length≤100) (hd:S.doors.length≤100):
  Calls prog 58 #[dR S bs rm dr] w fun e w'=>∃bs' rm' tL,e=.returned (dR S bs' rm' tL)∧lK w' S bs' rm' tL∧aJ w w':=by have gu:=trivial;exact xW
theorem R_ (h:lK w S bs rm dr) (hn:1≤S.bodies.length∧S.bodies.length≤24) (hr:S.f_.length≤100) (hd:S.doors.length≤100):
  Calls prog 93 #[dR S bs rm dr] w fun e w'=>∃bs' rm' tL,e=.returned (dR S bs' rm' tL)∧lK w' S bs' rm' tL∧aJ w w':=by have nL:=trivial;exact xW
end La
end Go.Proofs.YtohpdonnpbjfdaaGreatDoor
