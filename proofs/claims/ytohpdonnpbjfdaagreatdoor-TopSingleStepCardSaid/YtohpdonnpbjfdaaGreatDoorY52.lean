/- What is shown: lives, the law TopSingleStep. Conditions: as each theorem states. -/
import Derived.Test.YtohpdonnpbjfdaaGreatDoorY51
set_option maxHeartbeats 40000000
set_option maxRecDepth 100000
set_option linter.unusedVariables false
set_option linter.unusedSimpArgs false
open Go.Proofs.Tryz
namespace Go.Proofs.YtohpdonnpbjfdaaGreatDoor
namespace Top
open Go.RowKit aN fO Qt Ro Bk Ce La Ha In Vm Mc Tk Bo Ga Di Se Rp Sh
attribute [local go_sem] Oper.semAt_some
variable {w:World}
def SL:Stp:=⟨1,[⟨5,[],0,0,0,0,0,0,0⟩],0,0,0,0,[],[],0,0,0,0,0,0,1,0⟩
theorem YD:ql SL:=by refine⟨⟨bL,bL,bL,bL,bL,bL,bL,bL,bL,bL,bL,bL,bL,bL,bL,bL,bL,bL,bL,bL⟩,⟨bL,bL,by simp[SL],by simp[SL]⟩,fun B hB=>?_,bL⟩;obtain rfl:=uH.1 hB;exact⟨bL,bL,bL,bL,bL,bL,bL,bL,bL,bL,bL,bL,bL,bL⟩
theorem ap1 {b:Nat} (k:aV w b [ag 5,.slice none 0 0,ag 0,ag 0,ag 0,ag 0,ag 0,ag 0,ag 0]):lK w SL (aZ b 1 1) (.slice none 0 0) (.slice none 0 0):=by
 refine⟨⟨b,1,rfl,fun i B hB=>?_⟩,.inl ⟨rfl,.inl rfl⟩,.inl ⟨rfl,.inl rfl⟩⟩;have hi:i<1:=by have:=(List.getElem?_eq_some_iff.1 hB).1;simpa[SL]using this
 obtain rfl:i=0:=ae;obtain rfl:=bD hB;exact⟨⟨none,0,0,k.cell _,k.cell _,⟨.inl ⟨rfl,rfl,rfl,rfl,bL,bL⟩,.inl ⟨rfl,rfl,rfl,rfl⟩⟩,.inl rfl⟩,k.cell _,k.cell _,k.cell _,k.cell _,k.cell _,k.cell _,k.cell _⟩
def RL:List (List (Int×Int×Int)):=[[(0,0,0)],[(0,0,0)]]
theorem ajY {b0 b1 br:Nat} (k0:aV w b0 [ag 0,ag 0,ag 0]) (k1:aV w b1 [ag 0,ag 0,ag 0]) (kr:aV w br [aZ b0 1 1,aZ b1 1 1]):qc w (aZ br 2 2) RL:=by
 refine⟨br,2,rfl,fun t R hR=>?_⟩;have ht:t<2:=by have:=(List.getElem?_eq_some_iff.1 hR).1;simpa[RL]using this
 have key:∀b,aV w b [ag 0,ag 0,ag 0]→∀i x,[((0:Int),(0:Int),(0:Int))][i]?=some x→w.cell? ⟨b,i*3,none⟩=some (ag x.1)∧w.cell? ⟨b,i*3+1,none⟩=some (ag x.2.1)∧w.cell? ⟨b,i*3+2,none⟩=some (ag x.2.2):=by
  intro b k i x hx;have hi:i<1:=by have:=(List.getElem?_eq_some_iff.1 hx).1;simpa using this
  obtain rfl:i=0:=ae;obtain rfl:=bD hx;exact⟨k.cell _,k.cell _,k.cell _⟩
 obtain rfl|rfl:t=0∨t=1:=ae
 ·obtain rfl:=bD hR;exact⟨b0,1,kr.cell 0,k0.lt,key _ k0⟩
 ·obtain rfl:=bD hR;exact⟨b1,1,kr.cell 1,k1.lt,key _ k1⟩
theorem UE (BC:aV w 0 jH) (BB:aV w 1 Pa.tJ):
  Calls prog 19 #[] w fun e w'=>e=.returned (.bool true)∧aJ w w':=by
 have Qk:=ah fun(V:World) (hV:aJ w V)=>Mi 0 0 V bL bL bL bL (BB.later hV);have hok:mf SL:=Xv YD;have UG:=Td YD;go_enter func19,ntmps19;go_upto_region 2 with(fail);refine aP fun W hW=>?_;have kB:aV W w.heap.size [ag 5,.slice none 0 0,ag 0,ag 0,ag 0,ag 0,ag 0,ag 0,ag 0]:=by rw[hW];exact(aV.new _ _ _ _ rfl).alloc _
 obtain⟨bB,Io⟩:∃b,b=w.heap.size:=⟨_,rfl⟩
 have kS:aV W (w.heap.size+1) [ag 1,aZ bB 1 1,ag 0,ag 0,ag 0,ag 0,.slice none 0 0,.slice none 0 0,ag 0,ag 0,ag 0,ag 0,ag 0,ag 0,ag 1,ag 0]:=by rw[hW,Io];exact aV.new _ _ _ _ av
 have hbW:aJ w W:=aM;rw[←Io]at kB⊢;obtain⟨bS,hbS⟩:∃b,b=bB+1:=⟨_,rfl⟩
 rw[←Io,←hbS]at kS;rw[←hbS];clear hW hbS Io;go_upto_region 3 with(first|((with_reducible refine(Qk.out _ hbW).mono ?_);rintro e w3 ⟨kb,bv,aeL,c0,c1,FI,e01,FK,e10,e11,e12,I0,I1,rfl,⟨hB,Qo,bW,Xr,hI1⟩,gK⟩));go_upto_region 5 with(fail);have Qp:aJ w w3:=hbW.trans (gK.mono hbW.size);obtain⟨M,hMe⟩:∃M:Mt,M=⟨SL,I0,FI,e01,FK,I1,e10,e11,e12,RL⟩:=⟨_,rfl⟩
 have AR:M.S=SL:=by rw[hMe]
 have Ta:M.rows=RL:=by rw[hMe]
 have hM:M.Ok:=by rw[hMe];exact⟨hok,Xr,hI1,fun R hR=>by
  have:R=[(0,0,0)]:=by simp only[RL,List.mem_cons,List.not_mem_nil,or_false,or_self]at hR;exact hR
  subst this;exact⟨rfl,av⟩,by simp[RL]⟩
 have hi:Fin M.S (qD M.S)∧cg (qD M.S) 0=0:=by rw[AR];exact UG
 have hbk:yJ w3 kb M:=by rw[hMe];exact⟨bv,aeL,c0,c1,hB,Qo,bW⟩
 have S_:lK w3 M.S (aZ bB 1 1) (.slice none 0 0) (.slice none 0 0):=by rw[AR];exact ap1 (kB.later gK)
 have hO:ql M.S:=by rw[AR];exact YD
 have hg3:aV w3 0 jH:=BC.later Qp;have k3:=kS.later gK;have c3:=k3.cell;have l3:=k3.lt;have key:∀V,aJ w3 V→∀rv,qc V rv RL→Calls prog 25 #[.agg #[ag 1,aZ bB 1 1,ag 0,ag 0,ag 0,ag 0,.slice none 0 0,.slice none 0 0,ag 0,ag 0,ag 0,ag 0,ag 0,ag 0,ag 1,ag 0],aR kb,rv] V fun e w'=>∃b v,e=.returned (.tuple #[aZ b 60 60,v,ag 0])∧Row .i64 w' b (M.st 2)∧V.heap.size≤b∧aJ V w':=fun V hV rv hr=>by have h:=TR (S_.later hV) hO (by rw[AR];decide) (by rw[AR];decide) hM rfl hi (hbk.later hV) (by rw[Ta];exact hr) (hg3.later hV);rw[Ta,AR]at h;exact h
 have hra:qc (((w3.alloc (.cells #[ag 0,ag 0,ag 0] 128)).alloc (.cells #[ag 0,ag 0,ag 0] 128)).alloc (.cells #[aZ w3.heap.size 1 1,.slice (some ⟨w3.heap.size+1,0,none⟩) 1 1] 56)) (.slice (some ⟨w3.heap.size+1+1,0,none⟩) 2 2) RL:=
  ajY (((aV.new w3 [ag 0,ag 0,ag 0] _ _ rfl).alloc _).alloc _) ((aV.new _ [ag 0,ag 0,ag 0] _ _ av).alloc _) (aV.new _ [aZ w3.heap.size 1 1,.slice (some ⟨w3.heap.size+1,0,none⟩) 1 1] _ _ av)
 have oL:=ah (key _ aG _ hra);have cZ:=Mt.zM hM hi 2 (by rw[Ta];decide);have ajZ:=Kl hM hi (t:=2) (by rw[Ta];decide);have hF:=ah (And.intro hbk (And.intro S_ (And.intro hO (And.intro hM (And.intro hi (And.intro AR Ta))))));have Xu:=ah k3;have tC:=ah (And.intro cZ ajZ);have Hg3:=ah hg3;have afH:=ah Qp;clear key hra hbk S_ hO hM hi hMe AR Ta hB Qo bW Xr hI1 kS kB hbW gK cZ ajZ hg3 Qp k3 UG hok BC BB Qk;go_upto_region 6 with(first|((with_reducible refine(oL.out).mono ?_);rintro e w4 ⟨b,v,rfl,hrow,hlo,lY⟩));have FN:aJ w3 w4:=by refine Below.trans ?_ (lY.mono bU);exact aG
 have hrn:Calls prog 50 #[.agg #[ag 1,aZ bB 1 1,ag 0,ag 0,ag 0,ag 0,.slice none 0 0,.slice none 0 0,ag 0,ag 0,ag 0,ag 0,ag 0,ag 0,ag 1,ag 0],aR kb,ag 5] w4 fun e w'=>∃bR,e=.returned (.tuple #[aR bR,ag 0])∧RpX w' w4.heap.size bR kb SL (qD SL)∧aJ w4 w':=by obtain⟨hbk,S_,hO,hM,hi,AR,Ta⟩:=hF.out;have h:=YE (kb:=kb) (S_.later FN) hO hM.hS (by rw[AR];decide) (by rw[AR];decide);rw[AR]at h;exact h
 have k4:=Xu.out.later FN;have c4:=k4.cell;have l4:=k4.lt;have Q_:=ah k4;have vM:=ah (And.intro hrow hlo);have abS:=ah FN;have hz4:=FN.size;clear c3 l3 k4 hrow hlo lY FN Xu;have ap2:=ah hrn;clear hrn;go_upto_region 7 with(first|((with_reducible refine(ap2.out).mono ?_);rintro e w5 ⟨bR,rfl,hR,eY⟩));have k5:=Q_.out.later eY;have c5:=k5.cell;have l5:=k5.lt;have hsz:∀V,Calls prog 51 #[.agg #[ag 1,aZ bB 1 1,ag 0,ag 0,ag 0,ag 0,.slice none 0 0,.slice none 0 0,ag 0,ag 0,ag 0,ag 0,ag 0,ag 0,ag 1,ag 0]] V fun e w'=>e=.returned (ag 60)∧aJ V w':=fun V=>by have h:=MB 1 (some ⟨bB,0,none⟩) 1 1 (ag 0) (ag 0) (ag 0) (ag 0) (.slice none 0 0) (.slice none 0 0) (ag 0) (ag 0) (ag 0) (ag 0) (ag 0) (ag 0) (ag 1) (ag 0) ae ae V;rwa[show(48:Int)+4*1+8*((1:Nat):Int)=60 from bL]at h
 have HR:=ah hR;clear c4 l4 k5 hR Q_;have aaW:=ah hsz;clear hsz;go_upto_region 9 with(first|((with_reducible refine(aaW.out _).mono ?_);refine df ?_;intro w6 ow N6 hN6 TS hf6 hs6));have YF:aJ w5 w6:=ow;clear TS hf6 hs6 hN6 N6 ow;have VA:aJ w4 w6:=eY.trans (YF.mono eY.size);obtain⟨bs,rm,dr,bG,bs',rm',tL,W0,F,cv,hp0,hZ⟩:=HR.out;have abT:aJ w6 (w6.alloc (.cells #[ag 0,ag 0,ag 0] 128)):=(aK _ w6).alloc (aH _) _;have aj0:=YF.trans (abT.mono YF.size);have hp9:=hp0.later aj0;have had:Calls prog 52 #[aR bR,aZ w6.heap.size 1 1] (w6.alloc (.cells #[ag 0,ag 0,ag 0] 128)) fun e w'=>e=.returned (ag 0)∧(∃g cap,aV w' bR (Ny SL bs rm dr kb 5 bG (aZ g 1 cap) cv))∧Below w4.heap.size (w6.alloc (.cells #[ag 0,ag 0,ag 0] 128)) w':=by
  obtain⟨hbk,S_,hO,hM,hi,AR,Ta⟩:=hF.out;have ht:0<M.rows.length:=by rw[Ta];decide
  have hln:=Mt.FD hM hi ht;have hR0:(M.par 0).R=[(0,0,0)]:=by rw[M.TT,Ta];rfl
  have aj1:aJ w3 (w6.alloc (.cells #[ag 0,ag 0,ag 0] 128)):=abS.out.trans ((VA.trans (abT.mono VA.size)).mono abS.out.size);have Vq:aV (w6.alloc (.cells #[ag 0,ag 0,ag 0] 128)) w6.heap.size [ag 0,ag 0,ag 0]:=aV.new _ _ _ _ rfl;have hF6:∀x,F.has x→x<w6.heap.size:=fun x hx=>bH (hp0.g.hm.lt hx) YF.size;have hin:InW (w6.alloc (.cells #[ag 0,ag 0,ag 0] 128)) F w6.heap.size 1 (M.par 0).R:=by
   refine⟨Vq.lt,fun hh=>by have:=hF6 _ hh;omega,fun i x hx=>?_⟩;rw[hR0]at hx;have pK:i<1:=by have:=(List.getElem?_eq_some_iff.1 hx).1;simpa using this
   obtain rfl:i=0:=ae;obtain rfl:=bD hx;exact⟨Vq.cell _,Vq.cell _,Vq.cell _⟩
  have hat:=fun V (hV:Below (w6.alloc (.cells #[ag 0,ag 0,ag 0] 128)).heap.size (w6.alloc (.cells #[ag 0,ag 0,ag 0] 128)) V)=>FE ((hbk.later aj1).later hV) hM.h0 hM.h1 0;have Qo:cg (qD SL) 0=((0:Nat):Int):=by rw[←AR];exact hi.2
  have hl0:Len (M.par 0) (qD SL) (M.ln 0):=by rw[←AR];exact hln.1
  have h:=jM hp9 hZ ⟨Hg3.out.later aj1,fun hh=>by have:=hp0.g.hs.new 0 hh;have:=hp0.g.h1;omega⟩ (M.par 0) (Mt.vU hM ht) ((M.vC 0).trans AR) hl0 hln.2 hin (by rw[Qo];decide) (by rw[Qo];decide) (by rw[Qo];exact hat);rw[hR0]at h;exact h
 have aj2:aJ w w6:=afH.out.trans ((abS.out.trans (VA.mono abS.out.size)).mono afH.out.size);have aj3:∀V,aJ w4 V→V.cell? ⟨b,0,none⟩=some (ag 2):=fun V hV=>by have h1:=vM.out.1.cells 0 (by have:=tC.out.2;omega);have h2:(M.st 2).getD 0 0=2:=tC.out.1.2;rw[h2]at h1;exact ai hV h1
 have ap3:=ah aj3;have H46:=ah (And.intro VA (And.intro abT aj2));have hz6:=VA.size;have lb:b<w4.heap.size:=vM.out.1.lt;clear c5 l5 eY YF VA hp0 hZ abT aj0 hp9 aj3 aj2 HR aaW Hg3 tC hF vM;have YG:=ah had;clear had;go_wp2_with (first
  |((with_reducible refine(YG.out).mono ?_);rintro e w9 ⟨rfl,⟨g,gc,hk9⟩,Cn⟩;have hle:=YH hk9;have axV:=ap3.out w9 (H46.out.1.trans ((Below.mono (H46.out.2.1) hz6).trans Cn));have l9:=bH lb (aS (aS hz6 H46.out.2.1.size) Cn.size);have Hle:=ah hle;have Hb9:=ah Cn;clear hle hk9 Cn)
  |((with_reducible refine(Hle.out).mono ?_);rintro e w0 ⟨rfl,BF⟩;rw[BF];clear BF w0))
 go_ret;refine⟨rfl,?_⟩;have h1:=H46.out.2.2;have h3:=afH.out.size;exact(h1.trans (H46.out.2.1.mono h1.size)).trans (Hb9.out.mono ae)
variable {w W0:World} {kb t bX bG:Nat} {M:Mt} {bs rm dr bk:Value} {F:Fp} {S:Stp} {c:List Int}
theorem zL (h:Qi w bX M kb) (hM:M.Ok) (hi:Fin M.S (qD M.S)∧cg (qD M.S) 0=0) (ht:t≤M.rows.length):
  Calls prog 293 #[aR bX,ag t] w fun e w'=>e=.returned (.int .u64 (Me.Ka (M.st t)))∧aJ w w':=by obtain⟨W0,a,b,c,d,e,f,h⟩:=h;exact Uz h hM hi ht
theorem aaL (h:Qi w bX M kb) (hM:M.Ok) (ht:t<M.rows.length):
  Calls prog 291 #[aR bX,ag t] w fun e w'=>e=.returned (ag (M.ln t))∧w'=w:=by obtain⟨W0,a,b,c,d,e,f,h⟩:=h;exact Qj h hM.hn ht
theorem AP (h:Qi w bX M kb) (hM:M.Ok) (hi:Fin M.S (qD M.S)∧cg (qD M.S) 0=0) (ht:t<M.rows.length) {z:Nat} (hz:z≤M.ln t):
  Calls prog 290 #[aR bX,ag t,ag z] w fun e w'=>e=.returned (.int .u64 (Me.Ka (its (M.par t) (M.st t) z)))∧aJ w w':=by have hl:=S9 hM hi ht hz;obtain⟨W0,a,b,c,d,e,f,h⟩:=h;exact UA h hM hi ht hz hl
theorem Jk (h:Gm w W0 bG S bs rm dr bk F c) (h2:2≤c.length) (h3:c.length≤1000):
  Calls prog 11 #[aR bG] w fun e w'=>e=.returned (.int .u64 (Me.Ka c))∧aJ w w':=by obtain⟨M,C,L,m⟩:=F;exact UB h.hm h2 h3 h.kG.blk
theorem Xq (h:Gm w W0 bG S bs rm dr bk F c):
  Calls prog 18 #[aR bG] w fun e w'=>e=.returned (ag (cg c 0))∧w'=w:=by obtain⟨M,C,L,m⟩:=F;exact Ke h.hm h.kG.blk
theorem UC (h:Gm w W0 bG M.S bs rm dr (aR kb) F (M.st t)) (kg:Kb w F 0 jH) (hM:M.Ok) (hi:Fin M.S (qD M.S)∧cg (qD M.S) 0=0) (ht:t<M.rows.length) (hn:F.n≤900000000) (hbk:yJ w kb M) {ib iD:Nat} (hin:InW w F ib iD (M.par t).R):
  Calls prog 14 #[aR bG,aZ ib (M.par t).R.length iD] w fun e w'=>∃v F',e=.returned (.tuple #[v,ag (M.ln t),ag 0])∧Gm w' W0 bG M.S bs rm dr (aR kb) F' (M.st (t+1))∧Alt [] w F w' F' (40*M.ln t):=by have cZ:=(Mt.zM hM hi t ae).2;have Kg:=hM.hn;have hln:=Mt.FD hM hi ht;have hat:=fun V (hV:aJ w V)=>FE (hbk.later hV) hM.h0 hM.h1 t;obtain⟨fM,fC,fL,fm⟩:=F;refine(FH h kg (M.par t) (Mt.vU hM ht) (M.vC t) hln.1 hln.2 hn hin (by rw[cZ];omega) (by rw[cZ];omega) (by rw[cZ];exact hat)).mono ?_;rintro e w' ⟨v,xs,k,F',rfl,_,_,hG,ha⟩;exact⟨v,F',rfl,hG,ha⟩
theorem aaK {a0:Option Addr} {Iz cap0:Nat} {z0:List Int} {a1:Int} {a2:Option Addr} {Mh cap2:Nat} {z2:List Int} {a3 a4:Int} (h0:Fr.tK .i64 w a0 Iz cap0 z0) (h1: -9223372036854775808≤a1∧a1≤9223372036854775807) (h2:Fr.tK .i64 w a2 Mh cap2 z2) (h3: -9223372036854775808≤a3∧a3≤9223372036854775807) (h4: -9223372036854775808≤a4∧a4≤9223372036854775807) (BC:aV w 0 jH) (BB:aV w 1 Pa.tJ):
  Calls prog 3 #[.slice a0 Iz cap0,ag a1,.slice a2 Mh cap2,ag a3,ag a4] w fun e w'=>e=.returned (.bool true)∧aJ w w':=by
 have ais:=ah fun(V:World) (hV:aJ w V)=>UD (qJ h0 hV);have Qk:=ah fun(V:World) (hV:aJ w V)=>Mi a1 0 V h1.1 h1.2 bL bL (BB.later hV);have aeK:=ah fun(V:World) (hV:aJ w V)=>UE (BC.later hV) (BB.later hV);have an4:=ah fun(n:Int) (V:World) (h5:1≤n) (h6:n≤9223372036854775807)=>nR a4 n V h4.1 h4.2 h5 h6;have H2:=ah h2;have H3:=ah h3;have Hg0:=ah BC;clear h0 h1 h2 h3 h4 BC BB;go_enter func3,ntmps3;go_upto_region 2 with(first|((with_reducible refine(ais.out _ aG).mono ?_);rintro e w1 ⟨S,bs,rm,dr,rfl,hX,hO,aO⟩;obtain⟨⟨ra,rl,rc,rfl⟩,da,dl,dc,rfl⟩:=lK.shape hX;obtain⟨bb,bc,rfl,_⟩:=hX.bodies));refine aP fun W2 mi=>?_;have k11:aV W2 w1.heap.size [ag S.ak,aZ bb S.bodies.length bc,ag S.x0,ag S.y0,ag S.x1,ag S.y1,.slice ra rl rc,.slice da dl dc,ag S.ou,ag S.gx,ag S.gy,ag S.push,ag S.eO,ag S.rest,ag S.rounds,ag S.fuel]:=by rw[mi];exact aV.new _ _ _ _ rfl
 have dW:aJ w1 W2:=iK;obtain⟨b11,ET⟩:∃b,b=w1.heap.size:=⟨_,rfl⟩
 rw[←ET]at k11⊢;have Ql:aJ w W2:=aO.trans (dW.mono aO.size);clear mi ET;generalize aZ bb S.bodies.length bc=bs at*;generalize Value.slice ra rl rc=rm at*;generalize Value.slice da dl dc=dr at*
 as_aux_lemma=>
 go_upto_region 3 with(first|((with_reducible refine(Qk.out _ Ql).mono ?_);rintro e w3 ⟨kb,bv,aeL,c0,c1,FI,e01,FK,e10,e11,e12,I0,I1,rfl,⟨hB,Qo,bW,Xr,hI1⟩,gK⟩))
 as_aux_lemma=>
 go_upto_region 5 with(fail);have Qp:aJ w w3:=Ql.trans (gK.mono Ql.size);have S_:lK w3 S bs rm dr:=hX.later (dW.trans (gK.mono dW.size));have k3:=k11.later gK;have c3:=k3.cell;have l3:=k3.lt;have hrd:=AQ a3 4 bL;have har:∀x:One w3.drew,Calls prog 7 #[ag a3,ag 4] x.out fun e w''=>e=.returned (ag (Mj a3 4))∧∃y:One w3.drew,w''=y.out:=fun x=>(nR a3 4 x.out H3.out.1 H3.out.2 bL bL).mono fun e w' ⟨he,hw⟩=>⟨he,x,hw.symm⟩
 obtain⟨n,hn,eD⟩:∃n:Nat,1+Mj a3 4=(n:Int)∧1≤n∧n≤4:=⟨(1+Mj a3 4).toNat,ae,ae,ae⟩
 generalize Mj a3 4=r at*;have hwr:IntKind.i64.wrap (1+r)=(n:Int):=by rw[hn];exact gL _ ae
 have hP:1≤S.ak∧S.ak≤8:=⟨hO.nums.p0,hO.nums.p1⟩
 have hro:=fun(V:World) (hV:aJ w V)=>Xt (S:=S) (bs:=bs) (rm:=rm) (dr:=dr) (qJ H2.out hV) hP (n:=n) ae;have Hfa:=ah (And.intro S_ (And.intro hO (And.intro hB (And.intro Qo (And.intro bW (And.intro Xr hI1))))));have Xu:=ah k3;have Hn1:=ah eD;clear hX S_ hO hB Qo bW Xr hI1 k11 aO dW gK Ql k3 hn hrd hP ais Qk H2 H3 eD;have Kh:=ah hro;have IA:=ah har;clear hro har
 as_aux_lemma=>
 refine bK 5 aL aL fun hL=>?_;have dV:=hL.cell;clear hL;simp only[dS];(repeat(go_big_quiet_step ((with_reducible exact IA.out _))));refine wpQuiet_nil ?_;clear dV;go_upto_region 6 with(first|((with_reducible refine(Kh.out _ aG).mono ?_);rintro e w4 ⟨u,rfl,hrr,lY⟩));obtain⟨rows,hrn,hra,hrv⟩:=UF hrr;have FN:aJ w3 w4:=(aK _ w3).drew.trans lY;have Ki:aJ w w4:=Qp.trans (FN.mono Qp.size);obtain⟨S_,hO,hB,Qo,bW,Xr,hI1⟩:=Hfa.out;obtain⟨M,hMe⟩:∃M:Mt,M=⟨S,I0,FI,e01,FK,I1,e10,e11,e12,rows⟩:=⟨_,rfl⟩
 have AR:M.S=S:=by rw[hMe]
 have Ta:M.rows=rows:=by rw[hMe]
 have hM:M.Ok:=by rw[hMe];exact⟨Xv hO,Xr,hI1,hrv,by simp only;rw[hrn];have:=Hn1.out;omega⟩
 have UG:Fin M.S (qD M.S)∧cg (qD M.S) 0=0:=by rw[AR];exact Td hO
 have hbk:yJ w4 kb M:=by rw[hMe];exact yJ.later ⟨bv,aeL,c0,c1,hB,Qo,bW⟩ FN
 have hrows:qc w4 u M.rows:=by rw[Ta];exact hra
 have hlen:M.rows.length=n:=by rw[Ta,hrn]
 have hX4:lK w4 S bs rm dr:=S_.later FN;have hmo:=hO.map;have k4:=Xu.out.later FN;have hg4:aV w4 0 jH:=Hg0.out.later Ki;clear hB Qo bW Xr hI1 hrr hra hrv S_ Hfa Xu hrn hMe Ta lY FN c3 l3 hwr Kh IA Qp;subst AR;have hho:=fun(V:World) (hV:aJ w4 V)=>Qq (hX4.later hV) hO (by have:=hmo.r1;omega) (by have:=hmo.d1;omega) hM rfl UG (hbk.later hV) (hrows.later hV) (hg4.later hV) (by rw[hlen];exact Hn1.out.1);have hgn:=fun(V:World) (hV:aJ w4 V)=>FO (kb:=kb) (hX4.later hV) hO hM.hS (by have:=hmo.r1;omega) (by have:=hmo.d1;omega);obtain⟨rb,IB,rfl,hrow⟩:=hrows;rw[hlen]at hho⊢;unfold dR at hho hgn;have c4:=k4.cell;have l4:=k4.lt;have HK:=ah (And.intro hX4 (And.intro hbk (And.intro hrow (And.intro hg4 (And.intro k4 hlen)))));have HM:=ah (And.intro hM UG);clear hO hX4 hbk hrow hg4 k4 hmo hM UG hlen;have ait:=ah hho;have aiu:=ah hgn;clear hho hgn
 as_aux_lemma=>
 go_upto_region 7 with(first|((with_reducible refine(ait.out _ (aK _ _)).mono ?_);rintro e w5 ⟨bX,rfl,hX,eY⟩));have k5:=HK.out.2.2.2.2.1.later eY;have c5:=k5.cell;have l5:=k5.lt;have HX:=ah hX;clear c4 l4 hX k5
 as_aux_lemma=>
 go_upto_region 8 with(first|((with_reducible refine(aiu.out _ eY).mono ?_);rintro e w6 ⟨bG,bs',rm',tL,W0,F,rfl,hG,hF,ow⟩));have hL0:Lr w5 W0 bG kb M bs' rm' tL 0 w6 F:=⟨ow,hG,by have:=hF.1;omega,hF.2⟩
 have hmy:∀V,aJ w6 V→Calls prog 10 #[aR bG] V fun e w'=>e=.returned (aR F.M)∧w'=V:=fun V hV=>uq (hG.below hV).kG.blk;have Kj:aJ w w5:=Ki.trans (eY.mono Ki.size);have HL0:=ah hL0;have HK5:Hid (yJ w5 kb M∧aV w5 0 jH∧fP w5 M.S bs rm dr∧aV w5 b11 [ag M.S.ak,bs,ag M.S.x0,ag M.S.y0,ag M.S.x1,ag M.S.y1,rm,dr,ag M.S.ou,ag M.S.gx,ag M.S.gy,ag M.S.push,ag M.S.eO,ag M.S.rest,ag M.S.rounds,ag M.S.fuel]):=ah ⟨HK.out.2.1.later eY,HK.out.2.2.2.1.later eY,(HK.out.1.later eY).at,HK.out.2.2.2.2.1.later eY⟩;have vM:Hid (∀t R,M.rows[t]?=some R→∃ib iD,w5.cell? ⟨rb,t,none⟩=some (aZ ib R.length iD)∧ib<w5.heap.size∧∀i x,R[i]?=some x→w5.cell? ⟨ib,i*3,none⟩=some (ag x.1)∧w5.cell? ⟨ib,i*3+1,none⟩=some (ag x.2.1)∧w5.cell? ⟨ib,i*3+2,none⟩=some (ag x.2.2)):=ah fun t R hR=>by obtain⟨ib,iD,g1,g2,g3⟩:=HK.out.2.2.1 t R hR;exact⟨ib,iD,ai eY g1,bH g2 eY.size,fun i x hx=>⟨ai eY (g3 i x hx).1,ai eY (g3 i x hx).2.1,ai eY (g3 i x hx).2.2⟩⟩
 have Hlen:=ah HK.out.2.2.2.2.2;have aaN:=ah Kj;clear hL0 hG hF ow Ki Kj eY c5 l5 ait aiu HK;have Kk:=ah hmy;clear hmy
 as_aux_lemma=>
 go_upto_region 10 with(first|((with_reducible refine(Kk.out _ (aK _ _)).mono ?_);rintro e w7 ⟨rfl,hw7⟩;rw[hw7];clear hw7 w7));clear Kk;go_wp2
 as_aux_lemma=>
 go_loopw [18] (fun i wr=>∃t F,t≤n∧i=ag t∧Lr w5 W0 bG kb M bs' rm' tL t wr F) (fun i _=>n-(intOf i).toNat);case atStart=>exact⟨0,F,ae,rfl,HL0.out⟩
 case round=>
  clear HL0;obtain⟨t,F,htn,rfl,hL⟩:=hrel;have cZ:=Mt.zM HM.out.1 HM.out.2 t (by rw[Hlen.out];exact htn);have hsl:=Kl HM.out.1 HM.out.2 (t:=t) (by rw[Hlen.out];exact htn);have hgr:=fun(V:World) (hV:aJ wr V)=>Jk (hL.below hV).g hsl.1 hsl.2;have eD:=Hn1.out;by_cases ht:t<n
  ·as_aux_lemma=>
   have htI:(t:Int)<(n:Int):=ae
   have PZ:t<M.rows.length:=by rw[Hlen.out];exact ht
   have hln:=Mt.FD HM.out.1 HM.out.2 PZ
   have hpo:=Mt.vU HM.out.1 PZ
   obtain⟨rt,hrt⟩:∃r,r=Me.Ka (M.st t):=⟨_,rfl⟩
   obtain⟨nn,hnn⟩:∃x,x=M.ln t:=⟨_,rfl⟩
   have Il:1≤nn∧nn≤900001:=by rw[hnn];exact⟨hln.1.pos,hln.2⟩
   have hxr:∀V,aJ wr V→Calls prog 293 #[aR bX,ag t] V fun e w'=>e=.returned (.int .u64 rt)∧aJ V w':=fun V hV=>by rw[hrt];exact zL (HX.out.later (hL.below hV).bl) HM.out.1 HM.out.2 ae
   rw[←hrt]at hgr
   have hmy:=fun(V:World) (hV:aJ wr V)=>uq (hL.below hV).g.kG.blk
   have hce:=fun(V:World) (hV:aJ wr V)=>mo (hL.below hV).g.hm
   have hnw:=fun(b:Nat) (V:World) (h:Row .i64 V b (M.st t))=>uw (cap:=(M.st t).length) h ae
   generalize (M.st t).length=lc at hce hnw hsl
   have HL:=ah hL
   have Hrt:=ah hrt
   have Hnn:=ah hnn
   have tC:=ah cZ
   have Hln:=ah hln
   have Hpo:=ah hpo
   clear hL hrt hnn cZ hln hpo hsl
   have UI:=ah hgr;have Qr:=ah hxr;have Kk:=ah hmy;have vN:=ah hce;have yY:=ah hnw;clear hgr hxr hmy hce hnw
   as_aux_lemma=>
   go_upto_region 16 with(first
    |((with_reducible refine(Qr.out _ aG).mono ?_);refine df ?_;intro w1 aO N1 dA bW eu eF)
    |((with_reducible refine(UI.out _ aG).mono ?_);refine df ?_;intro w2 dW N2 nM gX ku lI)
    |((with_reducible refine(Kk.out _ aG).mono ?_);rintro e w0 ⟨rfl,BF⟩;rw[BF];clear BF w0)
    |((with_reducible refine(vN.out _ aG).mono ?_);rintro e w3 ⟨b3,rfl,hrow3,an8,gK⟩;obtain⟨N3,vD,jK,vF,sJ⟩:=eB gK;(try simp only[bf]at vD))
    |((with_reducible refine(yY.out _ _ fw).mono ?_);rintro e w4 ⟨F2,rfl,tF,LW,FP,an9,lY⟩;obtain⟨N4,BG,nJ,Jl,Im⟩:=eB lY;(try simp only[bf]at BG)))
   have aeM:aJ wr w2:=aO.trans (dW.mono aO.size)
   have zN:aJ wr w3:=aeM.trans (gK.mono aeM.size)
   have aeN:aJ wr w4:=zN.trans (lY.mono zN.size)
   have L4:=HL.out.below aeN
   have hRt:M.rows[t]?=some (M.par t).R:=vV
   obtain⟨ib,iD,r1,r2,r3⟩:=vM.out t _ hRt
   have UJ:∀b,F.has b→w5.heap.size≤b:=fun b hb=>by have:=L4.g.hs.new b hb;have:=L4.lo.1;omega
   have hIn:InW w4 F ib iD (M.par t).R:=⟨bH r2 L4.sz,fun hh=>by have:=UJ ib hh;omega,fun i x hx=>⟨ai L4.bl (r3 i x hx).1,ai L4.bl (r3 i x hx).2.1,ai L4.bl (r3 i x hx).2.2⟩⟩
   have htk:=UC L4.g ⟨HK5.out.2.1.later L4.bl,fun hh=>by have:=L4.g.hs.new 0 hh;have:=L4.g.h1;omega⟩ HM.out.1 HM.out.2 PZ (by have:=L4.n;omega) (HK5.out.1.later L4.bl) hIn
   rw[←Hnn.out]at htk
   have r1':=ai L4.bl r1
   have lrb:rb<w4.heap.size:=by have:=aU _ _ r1';simpa using this
   obtain⟨lR,WW⟩:∃l,l=(M.par t).R.length:=⟨_,rfl⟩
   rw[←WW]at htk r1'
   have HL4:=ah L4
   have Hr:=ah (And.intro r1 (And.intro r2 (And.intro r3 WW)))
   have Hm2:=ah (And.intro tF (And.intro LW (And.intro FP (And.intro zN.size aeN.size))))
   have an_:=ah UJ
   clear aO bW eu eF dA N1 dW gX ku lI nM N2 gK jK vF sJ vD N3 lY nJ Jl Im BG N4 aeM zN aeN hrow3 an8 tF LW FP an9 L4 hIn hRt r1 r2 r3 WW UJ vN yY UI Qr Kk
   obtain⟨fm,hfm⟩:∃x,F2.M=x:=⟨_,rfl⟩
   have Hfm:=ah hfm
   rw[hfm]
   clear hfm
   have zO:=ah htk;clear htk
   as_aux_lemma=>
   go_upto_region 17 with(first|((with_reducible refine(zO.out).mono ?_);rintro e wt ⟨v,F',rfl,hG',ha'⟩))
   have L5:=HL4.out.tick hG' ha' Il.2
   obtain⟨tF,LW,FP,hz3,hz4⟩:=Hm2.out
   have WX:∀b,F2.has b→¬F.has b:=fun b h1 h2=>by have:=LW b h1;have:=HL.out.g.hm.lt h2;omega
   have aaP:aD wt F2 (M.st t):=tF.keep fun b hb=>ha'.block b (tF.lt hb) (WX b hb) av
   have Te:∀b,F2.has b→¬F'.has b∧b≠bG∧W0.heap.size≤b:=fun b hb=>⟨fun h=>WX b hb (ha'.has (tF.lt hb) h),fun e=>by have:=LW b hb;have:=HL.out.g.kG.blk.lt;omega,by have:=LW b hb;have:=HL.out.g.hs.jQ.size;omega⟩
   have HL5:=ah L5
   have Hm5:=ah (And.intro aaP (And.intro Te FP))
   clear L5 tF LW FP hz3 hz4 WX aaP Te hG' ha' r1' lrb zO Hm2 HL4 HL an_
   obtain⟨rt1,aaQ⟩:∃r,r=Me.Ka (M.st (t+1)):=⟨_,rfl⟩
   have hle:=fun(V:World) (hV:aJ wt V)=>aaL (HX.out.later (HL5.out.below hV).bl) HM.out.1 PZ
   rw[←Hnn.out]at hle
   have hxr:∀V,aJ wt V→Calls prog 293 #[aR bX,ag t] V fun e w'=>e=.returned (.int .u64 rt)∧aJ V w':=fun V hV=>by rw[Hrt.out];exact zL (HX.out.later (HL5.out.below hV).bl) HM.out.1 HM.out.2 ae
   have aiy:∀V,aJ wt V→Calls prog 293 #[aR bX,ag ((t:Int)+1)] V fun e w'=>e=.returned (.int .u64 rt1)∧aJ V w':=fun V hV=>by
    rw[aaQ,show(t:Int)+1=((t+1:Nat):Int)from ae]
    exact zL (HX.out.later (HL5.out.below hV).bl) HM.out.1 HM.out.2 ae
   have o9:∀V,aJ wt V→Calls prog 290 #[aR bX,ag t,ag 0] V fun e w'=>e=.returned (.int .u64 rt)∧aJ V w':=fun V hV=>by
    rw[Hrt.out]
    exact AP (HX.out.later (HL5.out.below hV).bl) HM.out.1 HM.out.2 PZ (z:=0) ae
   have hiN:∀V,aJ wt V→Calls prog 290 #[aR bX,ag t,ag nn] V fun e w'=>e=.returned (.int .u64 rt1)∧aJ V w':=fun V hV=>by
    rw[aaQ,Hnn.out]
    exact AP (HX.out.later (HL5.out.below hV).bl) HM.out.1 HM.out.2 PZ (aH _)
   have Ml:(nn:Int)≤9223372036854775807:=ae
   obtain⟨at',hat,awn⟩:∃z:Nat,Mj a4 (nn:Int)=z∧z<nn:=by
    have:=AQ a4 (nn:Int) ae
    exact⟨(Mj a4 (nn:Int)).toNat,ae,ae⟩
   have har:=fun(V:World)=>an4.out (nn:Int) V ae Ml
   rw[hat]at har
   have hap:=fun(V:World) (hV:aJ wt V)=>FE (HK5.out.1.later (HL5.out.below hV).bl) HM.out.1.h0 HM.out.1.h1 t
   have aiz:=ah aaQ
   obtain⟨p,hp⟩:∃p,p=M.par t:=⟨_,rfl⟩
   obtain⟨c,hc⟩:∃c,c=M.st t:=⟨_,rfl⟩
   have Tf:=ah (And.intro hp hc)
   rw[←hp]at hap
   clear aaQ hat Ml hp hc
   have aaR:=ah hle;have Qr:=ah hxr;have adA:=ah aiy;have aiA:=ah o9;have aiB:=ah hiN;have IA:=ah har;have aiC:=ah hap;clear hle hxr aiy o9 hiN har hap
   have hbt:=aK wt.heap.size wt
   as_aux_lemma=>
   go_upto_region 20 with(first
    |((with_reducible refine(aaR.out _ aG).mono ?_);rintro e w0 ⟨rfl,BF⟩;rw[BF];clear BF w0)
    |((with_reducible refine(aiA.out _ aG).mono ?_);refine df ?_;intro w1 aO N1 dA bW eu eF)
    |((with_reducible refine(Qr.out _ aG).mono ?_);refine df ?_;intro w2 dW N2 nM gX ku lI)
    |((with_reducible refine(aiB.out _ aG).mono ?_);refine df ?_;intro w3 gK N3 vD jK vF sJ)
    |((with_reducible refine(adA.out _ aG).mono ?_);refine df ?_;intro w4 lY N4 BG nJ Jl Im)
    |((with_reducible refine(IA.out _).mono ?_);rintro e w0 ⟨rfl,BF⟩;rw[←BF];clear BF w0))
   have Xw:aJ wt w4:=eG
   clear aO bW eu eF dA N1 dW gX ku lI nM N2 gK jK vF sJ vD N3 lY nJ Jl Im BG N4 aaR Qr adA aiA aiB IA
   have adB:=ah fun(V:World) (hV:aJ w4 V)=>aiC.out V (Xw.trans (hV.mono Xw.size))
   have L6:=HL5.out.below Xw
   obtain⟨hm5,Te,FP⟩:=Hm5.out
   have hm6:=hm5.below Xw
   have HL6:=ah L6
   have Hm6:=ah (And.intro hm6 (And.intro Te FP))
   clear aiC L6 hm5 Te FP hm6 Xw hbt HL5 Hm5
   as_aux_lemma=>
   go_upto_region 21 with(first|((with_reducible refine(adB.out _ aG).mono ?_);rintro e w7 ⟨v',rfl,⟨ac,vG,rfl,hcc⟩,zP⟩;obtain⟨N7,hN7,hc7,hf7,hs7⟩:=eB zP;(try simp only[bf]at hN7)))
   refine aP fun Wx hWx=>?_
   have aaS:aJ w7 Wx:=by rw[hWx];exact aG
   have k25:aV Wx w7.heap.size [.slice ac p.I.length vG,ag p.e0,ag p.e1,ag p.e2]:=by
    rw[hWx]
    first
     |(with_reducible exact aV.new _ _ _ _ rfl)
     |exact((((aV.new w7 [.slice none 0 0,ag 0,ag 0,ag 0] _ _ rfl).put 0 _).put 1 _).put 2 _).put 3 _
   clear hWx
   have aeO:aJ w4 Wx:=zP.trans (aaS.mono zP.size)
   obtain⟨hm6,Te,FP⟩:=Hm6.out
   have Lx:=HL6.out.below aeO
   have hz7:=zP.size
   have hF4:∀b,F2.has b→b<w4.heap.size:=fun b hb=>hm6.lt hb
   have hFw:∀b,F2.has b→w5.heap.size≤b:=fun b hb=>by have:=(Te b hb).2.2;have:=Lx.lo.1;omega
   have lJ:=HK5.out.2.1
   have P5:p.S=M.S:=by rw[Tf.out.1,M.vC]
   have hS0:Li w5 Wx F2 p c bs rm dr (.slice ac p.I.length vG) (aZ ib lR iD) w7.heap.size 0 Wx F2:=by
    refine⟨⟨by rw[Tf.out.2];exact hm6.below aeO,⟨lJ.later Lx.bl,fun hh=>by have:=hFw 0 hh;have:=lJ.lt;omega⟩,⟨ac,vG,rfl,fun i hi=>?_⟩,⟨Lx.bl,hFw⟩,by rw[P5];exact HK5.out.2.2.1,⟨ib,iD,by rw[Hr.out.2.2.2,Tf.out.1],fun i x hx=>?_⟩,by have:=lJ.lt;omega⟩,⟨k25,fun hh=>by have:=hF4 _ hh;omega⟩,Alt.refl _ _ _⟩
    ·obtain⟨b',e,g1,g2,g3⟩:=hcc i hi
     exact⟨b',e,fun hh=>by have:=hF4 _ hh;omega,ai aaS g2,ai aaS g3⟩
    ·rw[Tf.out.1]at hx
     obtain⟨g1,g2,g3⟩:=Hr.out.2.2.1 i x hx
     exact⟨fun hh=>by have:=hFw _ hh;have:=Hr.out.2.1;omega,ai Lx.bl g1,ai Lx.bl g2,ai Lx.bl g3⟩
   obtain⟨b25,aiD⟩:∃b,b=w7.heap.size:=⟨_,rfl⟩
   rw[←aiD]at hS0⊢
   have Kg:=HM.out.1.hn
   have IC:=ah fun k (hk:k<nn)=>Tg (Tf.out.1▸Hpo.out) (Tf.out.1▸Tf.out.2▸Hnn.out▸Hln.out.1) (by rw[Tf.out.2,tC.out.2];omega) hk
   have UK:=ah hS0
   have HLx:=ah Lx
   have Hd2:=ah Te
   have hil:=fun(z:Nat) (hz:z≤nn)=>S9 HM.out.1 HM.out.2 PZ (z:=z) (by rw[←Hnn.out];exact hz)
   rw[←Tf.out.1,←Tf.out.2]at hil
   have hiA:=fun(V:World) (hV:aJ w5 V)=>AP (HX.out.later hV) HM.out.1 HM.out.2 PZ (z:=at') (by rw[←Hnn.out];omega)
   rw[←Tf.out.1,←Tf.out.2]at hiA
   clear hS0 Lx Te aiD hF4 hFw lJ hm6 hz7 aeO k25 aaS zP hc7 hf7 hs7 hN7 N7 hcc adB HL6 Hm6
   have HpS:=ah P5
   have aiE:=ah FP
   clear P5 FP
   have aiF:=ah hil;have aoj:=ah hiA;clear hil hiA
   as_aux_lemma=>
   go_wp2
   go_loopw [26] (fun i wq=>∃j G,j≤at'∧i=ag j∧G.M=fm∧Li w5 Wx F2 p c bs rm dr (.slice ac p.I.length vG) (aZ ib lR iD) b25 j wq G) (fun i _=>at'-(intOf i).toNat)
   case atStart=>exact⟨0,F2,ae,rfl,Hfm.out,UK.out⟩
   case round=>
    obtain⟨j,G,hj,rfl,WY,AU⟩:=hrel
    by_cases hjt:j<at'
    ·as_aux_lemma=>
     have UL:(j:Int)<(at':Int):=ae
     obtain⟨x,y,z,r,q,ht1⟩:=IC.out j ae
     have Jm:=ht1 (AU.below (aK _ _).drew).mp (by have:=AU.al.n;have:=aiE.out;omega)
     rw[WY,HpS.out]at Jm
     unfold dR at Jm
     have c11:=(HK5.out.2.2.2.later AU.mp.hs.jQ).cell
     have l11:=(HK5.out.2.2.2.later AU.mp.hs.jQ).lt
     have c25:=AU.k5.blk.cell
     have l25:=AU.k5.blk.lt
     have r1':=ai AU.mp.hs.jQ Hr.out.1
     rw[←Hr.out.2.2.2]at r1'
     have lrb:rb<wr.heap.size:=by have:=aU _ _ r1';simpa using this
     have HLi:=ah AU
     have HGM:=ah WY
     clear AU WY ht1
     have FQ:=ah Jm;clear Jm
     as_aux_lemma=>
     go_upto_region 24 with(fail)
     refine mq ?_
     go_wp2_with (first|((with_reducible refine(FQ.out).mono ?_);rintro e w9 ⟨rfl,G',hm9,ha9⟩))
     refine⟨⟨j+1,G',ae,av,by rw[ha9.M];exact HGM.out,(HLi.out.below (aK _ _).drew).step hm9 ha9⟩,by simp[intOf];omega⟩
    ·as_aux_lemma=>
     have hje:j=at':=ae
     subst hje
     have UL:¬((j:Int)<(j:Int)):=ae
     obtain⟨rta,aiH⟩:∃r,r=Me.Ka (its p c j):=⟨_,rfl⟩
     have hce:=mo AU.mp.hm
     rw[WY]at hce
     have hl:=aiF.out j ae
     have hro:=fun(b:Nat) (V:World) (h:Row .i64 V b (its p c j))=>Me.tN (cap:=(its p c j).length) h hl.1 hl.2
     have hia:=fun(V:World) (hV:aJ wr V)=>aoj.out V (AU.mp.hs.jQ.trans (hV.mono AU.mp.hs.jQ.size))
     rw[←aiH]at hro hia
     clear hl
     generalize (its p c j).length=lc2 at hce hro
     have HLi:=ah AU
     have HGM:=ah WY
     clear AU WY aiH UK
     have vN:=ah hce;have Kh:=ah hro;have aiI:=ah hia;clear hce hro hia
     as_aux_lemma=>
     go_upto_region 27 with(first
      |((with_reducible refine(vN.out).mono ?_);rintro e w1 ⟨b8,rfl,adC,aiJ,aO⟩;obtain⟨N1,dA,bW,eu,eF⟩:=eB aO;(try simp only[bf]at dA))
      |((with_reducible refine(Kh.out _ _ fw).mono ?_);refine df ?_;intro w2 dW N2 nM gX ku lI)
      |((with_reducible refine(aiI.out _ aG).mono ?_);refine df ?_;intro w3 gK N3 vD jK vF sJ))
     have zN:aJ wr w3:=eG
     have aiK:=HLi.out.below zN
     have aiL:=ah aiK
     clear aiK zN aO bW eu eF dA N1 dW gX ku lI nM N2 gK jK vF sJ vD N3 adC aiJ vN Kh aiI HLi
     as_aux_lemma=>
     go_wp2
     go_loopw [27] (fun i wz=>∃j2 G2,j≤j2∧j2≤nn∧i=ag j2∧G2.M=fm∧Li w5 Wx F2 p c bs rm dr (.slice ac p.I.length vG) (aZ ib lR iD) b25 j2 wz G2) (fun i _=>nn-(intOf i).toNat)
     case atStart=>exact⟨j,G,aH _,ae,rfl,HGM.out,aiL.out⟩
     case round=>
      clear HGM aiL
      obtain⟨j2,G2,hj1,hj2,rfl,WY,AU⟩:=hrel
      by_cases hjt:j2<nn
      ·as_aux_lemma=>
       have UL:(j2:Int)<(nn:Int):=ae
       obtain⟨x,y,z,r,q,ht1⟩:=IC.out j2 ae
       have Jm:=ht1 (AU.below (aK _ _).drew).mp (by have:=AU.al.n;have:=aiE.out;omega)
       rw[WY,HpS.out]at Jm
       unfold dR at Jm
       have c11:=(HK5.out.2.2.2.later AU.mp.hs.jQ).cell
       have l11:=(HK5.out.2.2.2.later AU.mp.hs.jQ).lt
       have c25:=AU.k5.blk.cell
       have l25:=AU.k5.blk.lt
       have r1':=ai AU.mp.hs.jQ Hr.out.1
       rw[←Hr.out.2.2.2]at r1'
       have lrb:rb<wr.heap.size:=by have:=aU _ _ r1';simpa using this
       have HLi:=ah AU
       have HGM:=ah WY
       clear AU WY ht1
       have FQ:=ah Jm;clear Jm
       as_aux_lemma=>
       go_upto_region 30 with(fail)
       refine mq ?_
       go_wp2_with (first|((with_reducible refine(FQ.out).mono ?_);rintro e w9 ⟨rfl,G',hm9,ha9⟩))
       refine⟨⟨j2+1,G',ae,ae,av,by rw[ha9.M];exact HGM.out,(HLi.out.below (aK _ _).drew).step hm9 ha9⟩,by simp[intOf];omega⟩
      ·as_aux_lemma=>
       have hje:j2=nn:=ae
       subst hje
       have UL:¬((j2:Int)<(j2:Int)):=ae
       have e1:rt1=Me.Ka (its p c j2):=by rw[aiz.out,Tf.out.1,Tf.out.2,Hnn.out];rfl
       have hce:=mo AU.mp.hm
       rw[WY]at hce
       have hl:=aiF.out j2 ae
       have hro:=fun(b:Nat) (V:World) (h:Row .i64 V b (its p c j2))=>Me.tN (cap:=(its p c j2).length) h hl.1 hl.2
       rw[←e1]at hro
       have hLs:=HLx.out.side AU.al Hd2.out
       have hsl:=Kl HM.out.1 HM.out.2 (t:=t+1) ae
       have hgr:=fun(V:World) (hV:aJ wr V)=>Jk (hLs.below hV).g hsl.1 hsl.2
       rw[←aiz.out]at hgr
       clear hl hsl e1
       generalize (its p c j2).length=lc2 at hce hro
       have HLs:=ah hLs
       clear AU WY hLs
       have vN:=ah hce;have Kh:=ah hro;have UI:=ah hgr;clear hce hro hgr
       go_wp2_with (first
        |((with_reducible refine(vN.out).mono ?_);rintro e w1 ⟨b8,rfl,adC,aiJ,aO⟩;obtain⟨N1,dA,bW,eu,eF⟩:=eB aO;(try simp only[bf]at dA))
        |((with_reducible refine(Kh.out _ _ fw).mono ?_);refine df ?_;intro w2 dW N2 nM gX ku lI)
        |((with_reducible refine(UI.out _ aG).mono ?_);refine df ?_;intro w3 gK N3 vD jK vF sJ))
       have zN:aJ wr w3:=eG
       exact⟨⟨t+1,F',ae,av,HLs.out.below zN⟩,by simp[intOf];omega⟩
  ·as_aux_lemma=>
   obtain rfl:t=n:=ae
   have htI:¬((t:Int)<(t:Int)):=ae
   have hxr:=fun(V:World) (hV:aJ wr V)=>zL (HX.out.later ((hL.below hV).bl)) HM.out.1 HM.out.2 (t:=t) (by rw[Hlen.out];exact aH _)
   have hgw:=fun(V:World) (hV:aJ wr V)=>Xq (hL.below hV).g
   have aon:=ah fun(V:World) (hV:aJ wr V)=>aeK.out V (aaN.out.trans ((hL.below hV).bl.mono aaN.out.size))
   rw[cZ.2]at hgw
   have hbr:aJ w wr:=aaN.out.trans (hL.bl.mono aaN.out.size)
   generalize Me.Ka (M.st t)=rt at*
   have UI:=ah hgr;have Qr:=ah hxr;have aoo:=ah hgw;clear hgr hxr hgw
   clear hL cZ hsl eD
   go_wp2_with (first
    |((with_reducible refine(UI.out _ aG).mono ?_);refine df ?_;intro w1 aO N1 dA bW eu eF)
    |((with_reducible refine(Qr.out _ aG).mono ?_);refine df ?_;intro w2 dW N2 nM gX ku lI)
    |((with_reducible refine(aoo.out _ aG).mono ?_);rintro e w3 ⟨rfl,Mm⟩;rw[Mm];clear Mm w3)
    |((with_reducible refine(aon.out _ aG).mono ?_);refine df ?_;intro w4 lY N4 BG nJ Jl Im))
   go_ret
   exact⟨rfl,hbr.trans ((aO.trans ((dW.trans (lY.mono dW.size)).mono aO.size)).mono hbr.size)⟩
end Top
end Go.Proofs.YtohpdonnpbjfdaaGreatDoor
