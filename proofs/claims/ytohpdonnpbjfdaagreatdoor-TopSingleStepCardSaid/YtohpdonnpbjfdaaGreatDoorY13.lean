/- What is shown: package fixed, package vec, package resolve. Conditions: as each theorem states. -/
import Derived.Lib.MinMax
import Derived.Test.YtohpdonnpbjfdaaGreatDoorY12
set_option maxHeartbeats 40000000
set_option maxRecDepth 100000
set_option linter.unusedVariables false
set_option linter.unusedSimpArgs false
open Go.Proofs.Tryz
namespace Go.Proofs.YtohpdonnpbjfdaaGreatDoor
theorem eG {P:Prop} (h:P:=by exact aG):P:=h
theorem az {P Q:Prop} (q:Q) (h:Q→P:=by have hal:=aQ;have bu:=dL;intro kk;revert hal bu;exact kk):P:=h q
theorem CL {P:Prop} (h:P:=by
 go_wp2;refine bq 11 aL aL fun NL hL=>?_;obtain⟨dU,dV,hlf⟩:=hL;(try simp only[bf]at dU);simp only[dS];repeat(go_big_quiet_step ((with_reducible exact aY (HS.out _))))
 (refine wpQuiet_nil ?_;intro w1 iI;obtain⟨⟨w1,aO⟩,rfl⟩:=iI;clear dV hlf dU NL;obtain⟨N1,dA,bW,eu,eF⟩:=eB aO;(try simp only[bf]at dA));go_wp2;go_end0;refine⟨rfl,?_⟩;have dW:aJ w w1:=Below.trans ((aK _ _).alloc (aH _) _) (aO.mono av);exact(UP.out w1 dW).out.2):P:=h
theorem CO {P:Prop} (h:P:=by
 go_wp2;refine bq 11 aL aL fun NL hL=>?_;obtain⟨dU,dV,hlf⟩:=hL;(try simp only[bf]at dU);simp only[dS];repeat(go_big_quiet_step ((with_reducible exact aY (HS.out _))))
 (refine wpQuiet_nil ?_;intro w1 iI;obtain⟨⟨w1,aO⟩,rfl⟩:=iI;clear dV hlf dU NL;obtain⟨N1,dA,bW,eu,eF⟩:=eB aO;(try simp only[bf]at dA));go_wp2;go_end0;refine⟨rfl,?_⟩;have dW:aJ w w1:=Below.trans ((aK _ _).alloc (aH _) _) (aO.mono av);exact(UP.out w1 dW).out.1):P:=h
theorem sw {P:Prop} (h:P:=by have UH:=ah U;clear U;go_enter func142,ntmps142;go_wp2_with (first|((with_reducible refine(S.out _).mono ?_);rintro e w1 ⟨rfl,aO⟩)|((with_reducible refine((UH.out _ fw).out).mono ?_);rintro e w2 ⟨rfl,hu⟩));go_end0;exact⟨rfl,WO aO hb hu⟩):P:=h
namespace fO
open Go.RowKit aN
variable {a:Int}
theorem J_ (h:(Lit.int .i64 a).wf=true): -9223372036854775808≤a∧a≤9223372036854775807:=by simpa[Lit.wf,IntKind.min,IntKind.max,IntKind.bits,IntKind.signed]using h
theorem d_ {b A B:Int} (ha0: -A≤a) (ha:a≤A) (nP: -B≤b) (hb:b≤B): -(A*B)≤a*b∧a*b≤A*B:=by
 have hA:(a.natAbs:Int)≤A:=ae;have hB:(b.natAbs:Int)≤B:=ae;have h:(a.natAbs:Int)*b.natAbs≤A*B:=Int.mul_le_mul hA hB ae ae;have e:((a*b).natAbs:Int)=(a.natAbs:Int)*b.natAbs:=by rw[Int.natAbs_mul,Int.natCast_mul]
 omega
end fO
namespace Ve
open Go.RowKit aN fO Qt
end Ve
namespace Re
open Go.RowKit aN fO Qt Ve
variable {w a:World} {p:Addr} {v:Value}
theorem fB (x:dh w) (h:w.cell? p=some v):x.out.cell? p=some v:=
 (x.below.cell (aU w p h)).trans h
theorem mD (x y l:Int) (h0: -9223372036854775807≤l) (h1:l≤9223372036854775807):
  dZ prog 183 #[.agg #[ag x,ag y],ag l] (.agg #[ag (g_ x (-l) l),ag (g_ y (-l) l)]):=by
 intro w;have gY:=results183;go_enter func183,ntmps183;go_wp2;refine bq 13 aL aL fun NL hL=>?_;obtain⟨dU,dV,hlf⟩:=hL;(try simp only[bf]at dU);simp only[dS];repeat(go_big_quiet_step ((go_at_call 83;exact aY (Qy (fun w=>fO.mD _ _ _ w) _))))
 (refine wpQuiet_nil ?_;intro w1 iI;obtain⟨⟨w1,aO⟩,rfl⟩:=iI;clear dV hlf dU NL;obtain⟨N1,dA,bW,eu,eF⟩:=eB aO;(try simp only[bf]at dA));go_wp2;refine bodyPost_ret (v:=.agg #[ag (g_ x (-l) l),ag (g_ y (-l) l)]) fU rfl ⟨rfl,?_⟩;exact lu
theorem qY (b:Nat) (px py vx vy m:Int) (w:World) (q0:w.cell? ⟨b,0,none⟩=some (ag px)) (q1:w.cell? ⟨b,1,none⟩=some (ag py)) (q2:w.cell? ⟨b,2,none⟩=some (ag vx)) (q3:w.cell? ⟨b,3,none⟩=some (ag vy)) (q4:w.cell? ⟨b,4,none⟩=some (ag m)):
  Calls prog 148 #[aR b] w fun e w'=>e=.returned (.agg #[ag (g_ px (-1048576) 1048576),ag (g_ py (-1048576) 1048576),ag (g_ vx (-16384) 16384),ag (g_ vy (-16384) 16384),ag m])∧aJ w w':=by
 refine az ?_;intro hal bu;have hb:=aU w _ q0;have gY:=results148;go_enter func148,ntmps148;go_wp2;refine bq 18 aL aL fun NL hL=>?_;obtain⟨dU,dV,hlf⟩:=hL;(try simp only[bf]at dU);simp only[dS];repeat(go_big_quiet_step ((go_at_call 183;exact aY (mD _ _ _ ae ae _))))
 (refine wpQuiet_nil ?_;intro w1 iI;obtain⟨⟨w1,aO⟩,rfl⟩:=iI;clear dV hlf dU NL;obtain⟨N1,dA,bW,eu,eF⟩:=eB aO;(try simp only[bf]at dA));go_wp2;refine bodyPost_ret (v:=.agg #[ag (g_ px (-1048576) 1048576),ag (g_ py (-1048576) 1048576),ag (g_ vx (-16384) 16384),ag (g_ vy (-16384) 16384),ag m]) fU rfl ⟨rfl,?_⟩;exact lu
structure TH (w w':World) (b:Nat) (px py vx vy m:Int):Prop where
 only:w.grownBy w' (some b)
 c0:w'.cell? ⟨b,0,none⟩=some (ag px)
 c1:w'.cell? ⟨b,1,none⟩=some (ag py)
 c2:w'.cell? ⟨b,2,none⟩=some (ag vx)
 c3:w'.cell? ⟨b,3,none⟩=some (ag vy)
 c4:w'.cell? ⟨b,4,none⟩=some (ag m)
 free:∀i,w'.frozen? ⟨b,i,none⟩=false
theorem pO {g:Nat} (h:a.grownBy w (some g)) (hp:p.block=g) (u:Value):a.grownBy (w.setCell p u) (some g):=
 ⟨h.os,h.tape,h.output,by simpa[World.setCell]using h.size,fun i hi hne=>(dI w p u i (by rintro rfl;exact hne (by rw[hp]))).trans (h.block i hi hne)⟩
theorem gm (h:aJ a w) (row:Option Nat):a.grownBy w row:=⟨h.os,h.tape,h.output,h.size,fun i hi _=>h.block i hi⟩
theorem ai {w1:World} (hb:aJ w w1) (h:w.cell? p=some v):w1.cell? p=some v:=
 (hb.cell (aU w p h)).trans h
theorem Fw {w w1:World} {b o:Nat} {u v:Int} {px py vx vy m:Int} (hb:aJ w w1) (q0:w.cell? ⟨b,0,none⟩=some (ag px)) (q1:w.cell? ⟨b,1,none⟩=some (ag py)) (q2:w.cell? ⟨b,2,none⟩=some (ag vx)) (q3:w.cell? ⟨b,3,none⟩=some (ag vy)) (q4:w.cell? ⟨b,4,none⟩=some (ag m)) (hf:∀i,w.frozen? ⟨b,i,none⟩=false):
  TH w ((w1.setCell ⟨b,0,none⟩ (ag u)).setCell ⟨b,1,none⟩ (ag v)) b u v vx vy m∧TH w ((w1.setCell ⟨b,2,none⟩ (ag u)).setCell ⟨b,3,none⟩ (ag v)) b px py u v m:=by
 have e0:=ai hb q0;have e1:=ai hb q1;have e2:=ai hb q2;have e3:=ai hb q3;have e4:=ai hb q4;have hbs:=aU w _ q0;have f:∀i,w1.frozen? ⟨b,i,none⟩=false:=fun i=>(hb.frozen (p:=⟨b,i,none⟩) hbs).trans (hf i);have o1:=gm hb (some b);constructor
 ·exact⟨pO (pO o1 rfl _) rfl _,by simp[au,e0],by simp[au,e1],by simp[au,e2],by simp[au,e3],by simp[au,e4],fun i=>by simp[f]⟩
 ·exact⟨pO (pO o1 rfl _) rfl _,by simp[au,e0],by simp[au,e1],by simp[au,e2],by simp[au,e3],by simp[au,e4],fun i=>by simp[f]⟩
theorem KH (b:Nat) (px py vx vy m x y:Int) (w:World) (q0:w.cell? ⟨b,0,none⟩=some (ag px)) (q1:w.cell? ⟨b,1,none⟩=some (ag py)) (q2:w.cell? ⟨b,2,none⟩=some (ag vx)) (q3:w.cell? ⟨b,3,none⟩=some (ag vy)) (q4:w.cell? ⟨b,4,none⟩=some (ag m)) (hf:∀i,w.frozen? ⟨b,i,none⟩=false) (h0: -9223372036854775808≤vx-x) (h1:vx-x≤9223372036854775807) (h2: -9223372036854775808≤vy-y) (h3:vy-y≤9223372036854775807):
  Calls prog 144 #[aR b,.agg #[ag x,ag y]] w fun e w'=>e=.returned (.tuple #[])∧TH w w' b px py (vx-x) (vy-y) m:=by refine az ?_;intro hal bu;have hb:=aU w _ q0;have hs:=uK vx vy x y h0 h1 h2 h3;have HS:=ah hs;clear hs;have up:=fun w1 hb=>ah (@Fw w w1 b 0 (vx-x) (vy-y) px py vx vy m hb q0 q1 q2 q3 q4 hf);have UP:=ah up;clear up;go_enter func144,ntmps144;exact CL
theorem Na (b:Nat) (px py vx vy m x y:Int) (w:World) (q0:w.cell? ⟨b,0,none⟩=some (ag px)) (q1:w.cell? ⟨b,1,none⟩=some (ag py)) (q2:w.cell? ⟨b,2,none⟩=some (ag vx)) (q3:w.cell? ⟨b,3,none⟩=some (ag vy)) (q4:w.cell? ⟨b,4,none⟩=some (ag m)) (hf:∀i,w.frozen? ⟨b,i,none⟩=false) (h0: -9223372036854775808≤vx+x) (h1:vx+x≤9223372036854775807) (h2: -9223372036854775808≤vy+y) (h3:vy+y≤9223372036854775807):
  Calls prog 145 #[aR b,.agg #[ag x,ag y]] w fun e w'=>e=.returned (.tuple #[])∧TH w w' b px py (vx+x) (vy+y) m:=by refine az ?_;intro hal bu;have hb:=aU w _ q0;have hs:=jM vx vy x y h0 h1 h2 h3;have HS:=ah hs;clear hs;have up:=fun w1 hb=>ah (@Fw w w1 b 0 (vx+x) (vy+y) px py vx vy m hb q0 q1 q2 q3 q4 hf);have UP:=ah up;clear up;go_enter func145,ntmps145;exact CL
theorem Nb (b:Nat) (px py vx vy m x y:Int) (w:World) (q0:w.cell? ⟨b,0,none⟩=some (ag px)) (q1:w.cell? ⟨b,1,none⟩=some (ag py)) (q2:w.cell? ⟨b,2,none⟩=some (ag vx)) (q3:w.cell? ⟨b,3,none⟩=some (ag vy)) (q4:w.cell? ⟨b,4,none⟩=some (ag m)) (hf:∀i,w.frozen? ⟨b,i,none⟩=false) (h0: -9223372036854775808≤px-x) (h1:px-x≤9223372036854775807) (h2: -9223372036854775808≤py-y) (h3:py-y≤9223372036854775807):
  Calls prog 146 #[aR b,.agg #[ag x,ag y]] w fun e w'=>e=.returned (.tuple #[])∧TH w w' b (px-x) (py-y) vx vy m:=by refine az ?_;intro hal bu;have hb:=aU w _ q0;have hs:=uK px py x y h0 h1 h2 h3;have HS:=ah hs;clear hs;have up:=fun w1 hb=>ah (@Fw w w1 b 0 (px-x) (py-y) px py vx vy m hb q0 q1 q2 q3 q4 hf);have UP:=ah up;clear up;go_enter func146,ntmps146;exact CO
theorem Nc (b:Nat) (px py vx vy m x y:Int) (w:World) (q0:w.cell? ⟨b,0,none⟩=some (ag px)) (q1:w.cell? ⟨b,1,none⟩=some (ag py)) (q2:w.cell? ⟨b,2,none⟩=some (ag vx)) (q3:w.cell? ⟨b,3,none⟩=some (ag vy)) (q4:w.cell? ⟨b,4,none⟩=some (ag m)) (hf:∀i,w.frozen? ⟨b,i,none⟩=false) (h0: -9223372036854775808≤px+x) (h1:px+x≤9223372036854775807) (h2: -9223372036854775808≤py+y) (h3:py+y≤9223372036854775807):
  Calls prog 147 #[aR b,.agg #[ag x,ag y]] w fun e w'=>e=.returned (.tuple #[])∧TH w w' b (px+x) (py+y) vx vy m:=by refine az ?_;intro hal bu;have hb:=aU w _ q0;have hs:=jM px py x y h0 h1 h2 h3;have HS:=ah hs;clear hs;have up:=fun w1 hb=>ah (@Fw w w1 b 0 (px+x) (py+y) px py vx vy m hb q0 q1 q2 q3 q4 hf);have UP:=ah up;clear up;go_enter func147,ntmps147;exact CO
theorem WO {w w1 w':World} {b:Nat} {px py vx vy m:Int} (hb:aJ w w1) (hs:b<w.heap.size) (h:TH w1 w' b px py vx vy m):TH w w' b px py vx vy m:=by refine⟨⟨h.only.os.trans hb.os,h.only.tape.trans hb.tape,h.only.output.trans hb.output,aS hb.size h.only.size,fun k hk hne=>(h.only.block k (bH hk hb.size) hne).trans (hb.block k hk)⟩,h.c0,h.c1,h.c2,h.c3,h.c4,h.free⟩
theorem Fg (b c:Nat) (px py vx vy m nx ny k:Int) (w:World) (q0:w.cell? ⟨b,0,none⟩=some (ag px)) (q1:w.cell? ⟨b,1,none⟩=some (ag py)) (q2:w.cell? ⟨b,2,none⟩=some (ag vx)) (q3:w.cell? ⟨b,3,none⟩=some (ag vy)) (q4:w.cell? ⟨b,4,none⟩=some (ag m)) (hf:∀i,w.frozen? ⟨b,i,none⟩=false) (n0:w.cell? ⟨c,0,none⟩=some (ag nx)) (n1:w.cell? ⟨c,1,none⟩=some (ag ny))
  (p0: -9223372036854775806≤nx*k) (p1:nx*k≤9223372036854775806) (p2: -9223372036854775806≤ny*k) (p3:ny*k≤9223372036854775806)
  (h0: -9223372036854775808≤vx-eP (nx*k) 1024) (h1:vx-eP (nx*k) 1024≤9223372036854775807) (h2: -9223372036854775808≤vy-eP (ny*k) 1024) (h3:vy-eP (ny*k) 1024≤9223372036854775807):
  Calls prog 142 #[.func (.func 144) #[aR b] #[],ag k,aR c] w fun e w'=>e=.returned (.tuple #[])∧TH w w' b px py (vx-eP (nx*k) 1024) (vy-eP (ny*k) 1024) m:=by have hb:=aU w _ q0;have S:=ah (pY nx ny k p0 p1 p2 p3);have U:=fun(w1:World) (aO:aJ w w1)=>ah (KH b px py vx vy m _ _ w1 (ai aO q0) (ai aO q1) (ai aO q2) (ai aO q3) (ai aO q4) (fun i=>(aO.frozen (p:=⟨b,i,none⟩) hb).trans (hf i)) h0 h1 h2 h3);exact sw
theorem H_ (b c:Nat) (px py vx vy m nx ny k:Int) (w:World) (q0:w.cell? ⟨b,0,none⟩=some (ag px)) (q1:w.cell? ⟨b,1,none⟩=some (ag py)) (q2:w.cell? ⟨b,2,none⟩=some (ag vx)) (q3:w.cell? ⟨b,3,none⟩=some (ag vy)) (q4:w.cell? ⟨b,4,none⟩=some (ag m)) (hf:∀i,w.frozen? ⟨b,i,none⟩=false) (n0:w.cell? ⟨c,0,none⟩=some (ag nx)) (n1:w.cell? ⟨c,1,none⟩=some (ag ny))
  (p0: -9223372036854775806≤nx*k) (p1:nx*k≤9223372036854775806) (p2: -9223372036854775806≤ny*k) (p3:ny*k≤9223372036854775806)
  (h0: -9223372036854775808≤vx+eP (nx*k) 1024) (h1:vx+eP (nx*k) 1024≤9223372036854775807) (h2: -9223372036854775808≤vy+eP (ny*k) 1024) (h3:vy+eP (ny*k) 1024≤9223372036854775807):
  Calls prog 142 #[.func (.func 145) #[aR b] #[],ag k,aR c] w fun e w'=>e=.returned (.tuple #[])∧TH w w' b px py (vx+eP (nx*k) 1024) (vy+eP (ny*k) 1024) m:=by have hb:=aU w _ q0;have S:=ah (pY nx ny k p0 p1 p2 p3);have U:=fun(w1:World) (aO:aJ w w1)=>ah (Na b px py vx vy m _ _ w1 (ai aO q0) (ai aO q1) (ai aO q2) (ai aO q3) (ai aO q4) (fun i=>(aO.frozen (p:=⟨b,i,none⟩) hb).trans (hf i)) h0 h1 h2 h3);exact sw
theorem xZ (b c:Nat) (px py vx vy m nx ny k:Int) (w:World) (q0:w.cell? ⟨b,0,none⟩=some (ag px)) (q1:w.cell? ⟨b,1,none⟩=some (ag py)) (q2:w.cell? ⟨b,2,none⟩=some (ag vx)) (q3:w.cell? ⟨b,3,none⟩=some (ag vy)) (q4:w.cell? ⟨b,4,none⟩=some (ag m)) (hf:∀i,w.frozen? ⟨b,i,none⟩=false) (n0:w.cell? ⟨c,0,none⟩=some (ag nx)) (n1:w.cell? ⟨c,1,none⟩=some (ag ny))
  (p0: -9223372036854775806≤nx*k) (p1:nx*k≤9223372036854775806) (p2: -9223372036854775806≤ny*k) (p3:ny*k≤9223372036854775806)
  (h0: -9223372036854775808≤px-eP (nx*k) 1024) (h1:px-eP (nx*k) 1024≤9223372036854775807) (h2: -9223372036854775808≤py-eP (ny*k) 1024) (h3:py-eP (ny*k) 1024≤9223372036854775807):
  Calls prog 142 #[.func (.func 146) #[aR b] #[],ag k,aR c] w fun e w'=>e=.returned (.tuple #[])∧TH w w' b (px-eP (nx*k) 1024) (py-eP (ny*k) 1024) vx vy m:=by have hb:=aU w _ q0;have S:=ah (pY nx ny k p0 p1 p2 p3);have U:=fun(w1:World) (aO:aJ w w1)=>ah (Nb b px py vx vy m _ _ w1 (ai aO q0) (ai aO q1) (ai aO q2) (ai aO q3) (ai aO q4) (fun i=>(aO.frozen (p:=⟨b,i,none⟩) hb).trans (hf i)) h0 h1 h2 h3);exact sw
theorem x8 (b c:Nat) (px py vx vy m nx ny k:Int) (w:World) (q0:w.cell? ⟨b,0,none⟩=some (ag px)) (q1:w.cell? ⟨b,1,none⟩=some (ag py)) (q2:w.cell? ⟨b,2,none⟩=some (ag vx)) (q3:w.cell? ⟨b,3,none⟩=some (ag vy)) (q4:w.cell? ⟨b,4,none⟩=some (ag m)) (hf:∀i,w.frozen? ⟨b,i,none⟩=false) (n0:w.cell? ⟨c,0,none⟩=some (ag nx)) (n1:w.cell? ⟨c,1,none⟩=some (ag ny))
  (p0: -9223372036854775806≤nx*k) (p1:nx*k≤9223372036854775806) (p2: -9223372036854775806≤ny*k) (p3:ny*k≤9223372036854775806)
  (h0: -9223372036854775808≤px+eP (nx*k) 1024) (h1:px+eP (nx*k) 1024≤9223372036854775807) (h2: -9223372036854775808≤py+eP (ny*k) 1024) (h3:py+eP (ny*k) 1024≤9223372036854775807):
  Calls prog 142 #[.func (.func 147) #[aR b] #[],ag k,aR c] w fun e w'=>e=.returned (.tuple #[])∧TH w w' b (px+eP (nx*k) 1024) (py+eP (ny*k) 1024) vx vy m:=by have hb:=aU w _ q0;have S:=ah (pY nx ny k p0 p1 p2 p3);have U:=fun(w1:World) (aO:aJ w w1)=>ah (Nc b px py vx vy m _ _ w1 (ai aO q0) (ai aO q1) (ai aO q2) (ai aO q3) (ai aO q4) (fun i=>(aO.frozen (p:=⟨b,i,none⟩) hb).trans (hf i)) h0 h1 h2 h3);exact sw
variable {W W' w:World} {b o b1 b2 r1 r2 c ka kb g i:Nat} {px py vx vy am qx qy ux uy bm nx ny d v1 v2 v3 v4:Int}
structure St (w W:World) (b1 b2 r1 r2 c ka kb:Nat) (px py vx vy am qx qy ux uy bm nx ny d v1 v2 v3 v4:Int):Prop where
 below:aJ w W
 w1:w.heap.size≤b1
 w2:w.heap.size≤b2
 OG:W.cell? ⟨b1,0,none⟩=some (ag px)
 Wv:W.cell? ⟨b1,1,none⟩=some (ag py)
 Ww:W.cell? ⟨b1,2,none⟩=some (ag vx)
 Wy:W.cell? ⟨b1,3,none⟩=some (ag vy)
 WB:W.cell? ⟨b1,4,none⟩=some (ag am)
 OH:W.cell? ⟨b2,0,none⟩=some (ag qx)
 WC:W.cell? ⟨b2,1,none⟩=some (ag qy)
 WG:W.cell? ⟨b2,2,none⟩=some (ag ux)
 WH:W.cell? ⟨b2,3,none⟩=some (ag uy)
 WI:W.cell? ⟨b2,4,none⟩=some (ag bm)
 SC:W.cell? ⟨r1,0,none⟩=some (ag 0)
 ac7:W.cell? ⟨r1,1,none⟩=some (ag 0)
 ac8:W.cell? ⟨r1,2,none⟩=some (ag 0)
 ac9:W.cell? ⟨r1,3,none⟩=some (ag 0)
 ac_:W.cell? ⟨r1,4,none⟩=some (ag 0)
 SE:W.cell? ⟨r2,0,none⟩=some (ag 0)
 ada:W.cell? ⟨r2,1,none⟩=some (ag 0)
 adb:W.cell? ⟨r2,2,none⟩=some (ag 0)
 ade:W.cell? ⟨r2,3,none⟩=some (ag 0)
 adf:W.cell? ⟨r2,4,none⟩=some (ag 0)
 ZR:W.cell? ⟨c,0,none⟩=some (ag nx)
 ZT:W.cell? ⟨c,1,none⟩=some (ag ny)
 SG:W.cell? ⟨c,2,none⟩=some (ag d)
 ZZ:W.cell? ⟨ka,2,none⟩=some (ag v1)
 Z0:W.cell? ⟨ka,3,none⟩=some (ag v2)
 Z4:W.cell? ⟨kb,2,none⟩=some (ag v3)
 Z5:W.cell? ⟨kb,3,none⟩=some (ag v4)
 zA:W.cell? ⟨ka,4,none⟩=some (ag am)
 zB:W.cell? ⟨kb,4,none⟩=some (ag bm)
 ZQ:∀i,W.frozen? ⟨b1,i,none⟩=false
 ZU:∀i,W.frozen? ⟨b2,i,none⟩=false
 adg:∀i,W.frozen? ⟨r1,i,none⟩=false
 adh:∀i,W.frozen? ⟨r2,i,none⟩=false
 n12:b1≠b2
 Ll:b1≠r1
 Lm:b1≠r2
 n1c:b1≠c
 WJ:b1≠ka
 WL:b1≠kb
 Lt:b2≠r1
 Lu:b2≠r2
 n2c:b2≠c
 WM:b2≠ka
 WN:b2≠kb
theorem jv (hb:aJ W W') (hc:W.cell? ⟨b,o,none⟩=some v) (hf:W.frozen? ⟨b,i,none⟩=false):W'.frozen? ⟨b,i,none⟩=false:=
 (hb.frozen (p:=⟨b,i,none⟩) (aU W ⟨b,o,none⟩ hc)).trans hf
theorem St.later (st:St w W b1 b2 r1 r2 c ka kb px py vx vy am qx qy ux uy bm nx ny d v1 v2 v3 v4) (hb:aJ W W'):St w W' b1 b2 r1 r2 c ka kb px py vx vy am qx qy ux uy bm nx ny d v1 v2 v3 v4:=
 ⟨st.below.trans (hb.mono st.below.size),st.w1,st.w2,ai hb st.OG,ai hb st.Wv,ai hb st.Ww,ai hb st.Wy,ai hb st.WB,ai hb st.OH,ai hb st.WC,ai hb st.WG,ai hb st.WH,ai hb st.WI,ai hb st.SC,ai hb st.ac7,ai hb st.ac8,ai hb st.ac9,ai hb st.ac_,ai hb st.SE,ai hb st.ada,ai hb st.adb,ai hb st.ade,ai hb st.adf,ai hb st.ZR,ai hb st.ZT,ai hb st.SG,ai hb st.ZZ,ai hb st.Z0,ai hb st.Z4,ai hb st.Z5,ai hb st.zA,ai hb st.zB,
  fun i=>jv hb st.OG (st.ZQ i),fun i=>jv hb st.OH (st.ZU i),fun i=>jv hb st.SC (st.adg i),fun i=>jv hb st.SE (st.adh i),
  st.n12,st.Ll,st.Lm,st.n1c,st.WJ,st.WL,st.Lt,st.Lu,st.n2c,st.WM,st.WN⟩
theorem bn (h:W.grownBy W' (some g)) (hne:b≠g) (hc:W.cell? ⟨b,o,none⟩=some v):W'.cell? ⟨b,o,none⟩=some v:=
 (bg (a:=⟨b,o,none⟩) (h.block b (aU W _ hc) (fun e=>hne (bD e)))).trans hc
theorem m_ (h:W.grownBy W' (some g)) (hne:b≠g) (hc:W.cell? ⟨b,o,none⟩=some v) (hf:W.frozen? ⟨b,i,none⟩=false):W'.frozen? ⟨b,i,none⟩=false:=
 (World.frozen?_of_block (a:=⟨b,i,none⟩) (h.block b (aU W _ hc) (fun e=>hne (bD e)))).trans hf
theorem Ia (hb:aJ w W) (h:W.grownBy W' (some g)) (hg:w.heap.size≤g):aJ w W':=
 hb.grown h hb.size (fun k e=>by cases e;exact hg)
theorem St.ama {px' py' Bl Bu:Int} (st:St w W b1 b2 r1 r2 c ka kb px py vx vy am qx qy ux uy bm nx ny d v1 v2 v3 v4) (hu:TH W W' b1 px' py' Bl Bu am):St w W' b1 b2 r1 r2 c ka kb px' py' Bl Bu am qx qy ux uy bm nx ny d v1 v2 v3 v4:=
 ⟨Ia st.below hu.only st.w1,st.w1,st.w2,hu.c0,hu.c1,hu.c2,hu.c3,hu.c4,bn hu.only (Ne.symm st.n12) st.OH,bn hu.only (Ne.symm st.n12) st.WC,bn hu.only (Ne.symm st.n12) st.WG,bn hu.only (Ne.symm st.n12) st.WH,bn hu.only (Ne.symm st.n12) st.WI,bn hu.only (Ne.symm st.Ll) st.SC,bn hu.only (Ne.symm st.Ll) st.ac7,bn hu.only (Ne.symm st.Ll) st.ac8,bn hu.only (Ne.symm st.Ll) st.ac9,bn hu.only (Ne.symm st.Ll) st.ac_,bn hu.only (Ne.symm st.Lm) st.SE,bn hu.only (Ne.symm st.Lm) st.ada,bn hu.only (Ne.symm st.Lm) st.adb,bn hu.only (Ne.symm st.Lm) st.ade,bn hu.only (Ne.symm st.Lm) st.adf,bn hu.only (Ne.symm st.n1c) st.ZR,bn hu.only (Ne.symm st.n1c) st.ZT,bn hu.only (Ne.symm st.n1c) st.SG,bn hu.only (Ne.symm st.WJ) st.ZZ,bn hu.only (Ne.symm st.WJ) st.Z0,bn hu.only (Ne.symm st.WL) st.Z4,bn hu.only (Ne.symm st.WL) st.Z5,bn hu.only (Ne.symm st.WJ) st.zA,bn hu.only (Ne.symm st.WL) st.zB,
  hu.free,fun i=>m_ hu.only (Ne.symm st.n12) st.OH (st.ZU i),fun i=>m_ hu.only (Ne.symm st.Ll) st.SC (st.adg i),fun i=>m_ hu.only (Ne.symm st.Lm) st.SE (st.adh i),
  st.n12,st.Ll,st.Lm,st.n1c,st.WJ,st.WL,st.Lt,st.Lu,st.n2c,st.WM,st.WN⟩
theorem St.amb {qx' qy' ux' uy':Int} (st:St w W b1 b2 r1 r2 c ka kb px py vx vy am qx qy ux uy bm nx ny d v1 v2 v3 v4) (hu:TH W W' b2 qx' qy' ux' uy' bm):St w W' b1 b2 r1 r2 c ka kb px py vx vy am qx' qy' ux' uy' bm nx ny d v1 v2 v3 v4:=
 ⟨Ia st.below hu.only st.w2,st.w1,st.w2,bn hu.only st.n12 st.OG,bn hu.only st.n12 st.Wv,bn hu.only st.n12 st.Ww,bn hu.only st.n12 st.Wy,bn hu.only st.n12 st.WB,hu.c0,hu.c1,hu.c2,hu.c3,hu.c4,bn hu.only (Ne.symm st.Lt) st.SC,bn hu.only (Ne.symm st.Lt) st.ac7,bn hu.only (Ne.symm st.Lt) st.ac8,bn hu.only (Ne.symm st.Lt) st.ac9,bn hu.only (Ne.symm st.Lt) st.ac_,bn hu.only (Ne.symm st.Lu) st.SE,bn hu.only (Ne.symm st.Lu) st.ada,bn hu.only (Ne.symm st.Lu) st.adb,bn hu.only (Ne.symm st.Lu) st.ade,bn hu.only (Ne.symm st.Lu) st.adf,bn hu.only (Ne.symm st.n2c) st.ZR,bn hu.only (Ne.symm st.n2c) st.ZT,bn hu.only (Ne.symm st.n2c) st.SG,bn hu.only (Ne.symm st.WM) st.ZZ,bn hu.only (Ne.symm st.WM) st.Z0,bn hu.only (Ne.symm st.WN) st.Z4,bn hu.only (Ne.symm st.WN) st.Z5,bn hu.only (Ne.symm st.WM) st.zA,bn hu.only (Ne.symm st.WN) st.zB,
  fun i=>m_ hu.only st.n12 st.OG (st.ZQ i),hu.free,fun i=>m_ hu.only (Ne.symm st.Lt) st.SC (st.adg i),fun i=>m_ hu.only (Ne.symm st.Lu) st.SE (st.adh i),
  st.n12,st.Ll,st.Lm,st.n1c,st.WJ,st.WL,st.Lt,st.Lu,st.n2c,st.WM,st.WN⟩
end Re
end Go.Proofs.YtohpdonnpbjfdaaGreatDoor
