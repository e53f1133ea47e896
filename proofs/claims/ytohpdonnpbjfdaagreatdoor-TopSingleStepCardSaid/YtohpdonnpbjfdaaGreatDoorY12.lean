/- What is shown: package vec. Conditions: as each theorem states. -/
import Derived.Test.YtohpdonnpbjfdaaGreatDoorY2
import Derived.Test.YtohpdonnpbjfdaaGreatDoorY11
set_option maxHeartbeats 40000000
set_option maxRecDepth 100000
set_option linter.unusedVariables false
set_option linter.unusedSimpArgs false
open Go.Proofs.Tryz
namespace Go.Proofs.YtohpdonnpbjfdaaGreatDoor
theorem fU {P:Prop} (h:P:=by simp[results,gY,go_sem,bW,aQ,↓IntWalk.iteOmega]):P:=h
namespace Ve
open Go.RowKit aN fO Qt
theorem QB (n:Int) (w:World) (h0: -9223372036854775808≤n) (h1:n≤9223372036854775807):
  Calls prog 181 #[ag n] w fun e w'=>e=.returned (ag (n/1024))∧w=w':=by go_enter func181,ntmps181;go_wp2;go_ret;exact⟨rfl,rfl⟩
theorem Cq (n:Int):dZ prog 112 #[ag n] (.agg #[ag n,ag n]):=by intro w;have gY:=results112;go_enter func112,ntmps112;go_wp2;refine bodyPost_ret (v:=.agg #[ag n,ag n]) eU rfl ⟨rfl,?_⟩;exact lu
theorem XI (a b:Int) (h0: -9223372036854775808≤a+b) (h1:a+b≤9223372036854775807):dZ prog 111 #[ag a,ag b] (ag (a+b)):=by intro w;go_enter func111,ntmps111;go_wp2;go_ret;exact⟨rfl,aK _ _⟩
theorem MM (x y a b:Int) (h0: -9223372036854775808≤x+a) (h1:x+a≤9223372036854775807) (h2: -9223372036854775808≤y+b) (h3:y+b≤9223372036854775807):
  dZ prog 110 #[.agg #[ag x,ag y],.agg #[ag a,ag b],.func (.func 111) #[] #[]] (.agg #[ag (x+a),ag (y+b)]):=by
 intro w;have gY:=results110;go_enter func110,ntmps110;go_wp2;refine bq 13 aL aL fun NL hL=>?_;obtain⟨dU,dV,hlf⟩:=hL;(try simp only[bf]at dU);simp only[dS];repeat(go_big_quiet_step ((go_at_call 111;exact aY (XI _ _ ae ae _))))
 (refine wpQuiet_nil ?_;intro w1 iI;obtain⟨⟨w1,aO⟩,rfl⟩:=iI;clear dV hlf dU NL;obtain⟨N1,dA,bW,eu,eF⟩:=eB aO;(try simp only[bf]at dA));go_wp2;refine bodyPost_ret (v:=.agg #[ag (x+a),ag (y+b)]) fU rfl ⟨rfl,?_⟩;exact lu
theorem XJ (a b:Int) (h0: -9223372036854775808≤a-b) (h1:a-b≤9223372036854775807):dZ prog 182 #[ag a,ag b] (ag (a-b)):=by intro w;go_enter func182,ntmps182;go_wp2;go_ret;exact⟨rfl,aK _ _⟩
theorem MN (x y a b:Int) (h0: -9223372036854775808≤x-a) (h1:x-a≤9223372036854775807) (h2: -9223372036854775808≤y-b) (h3:y-b≤9223372036854775807):
  dZ prog 110 #[.agg #[ag x,ag y],.agg #[ag a,ag b],.func (.func 182) #[] #[]] (.agg #[ag (x-a),ag (y-b)]):=by
 intro w;have gY:=results110;go_enter func110,ntmps110;go_wp2;refine bq 13 aL aL fun NL hL=>?_;obtain⟨dU,dV,hlf⟩:=hL;(try simp only[bf]at dU);simp only[dS];repeat(go_big_quiet_step ((go_at_call 182;exact aY (XJ _ _ ae ae _))))
 (refine wpQuiet_nil ?_;intro w1 iI;obtain⟨⟨w1,aO⟩,rfl⟩:=iI;clear dV hlf dU NL;obtain⟨N1,dA,bW,eu,eF⟩:=eB aO;(try simp only[bf]at dA));go_wp2;refine bodyPost_ret (v:=.agg #[ag (x-a),ag (y-b)]) fU rfl ⟨rfl,?_⟩;exact lu
theorem ML (x y a b:Int) (h0: -9223372036854775806≤x*a) (h1:x*a≤9223372036854775806) (h2: -9223372036854775806≤y*b) (h3:y*b≤9223372036854775806):
  dZ prog 110 #[.agg #[ag x,ag y],.agg #[ag a,ag b],.func (.func 113) #[] #[]] (.agg #[ag (eP (x*a) 1024),ag (eP (y*b) 1024)]):=by
 intro w;have gY:=results110;go_enter func110,ntmps110;go_wp2;refine bq 13 aL aL fun NL hL=>?_;obtain⟨dU,dV,hlf⟩:=hL;(try simp only[bf]at dU);simp only[dS];repeat(go_big_quiet_step ((go_at_call 113;exact aY (jS (fun w=>Fs _ _ w ae ae) _))))
 (refine wpQuiet_nil ?_;intro w1 iI;obtain⟨⟨w1,aO⟩,rfl⟩:=iI;clear dV hlf dU NL;obtain⟨N1,dA,bW,eu,eF⟩:=eB aO;(try simp only[bf]at dA));go_wp2;refine bodyPost_ret (v:=.agg #[ag (eP (x*a) 1024),ag (eP (y*b) 1024)]) fU rfl ⟨rfl,?_⟩;exact lu
theorem tQ (x:Int):0≤x*x:=by
 rcases Int.le_total 0 x with h|h
 ·exact Int.mul_nonneg h h
 ·exact Int.mul_nonneg_of_nonpos_of_nonpos h h
theorem MK (a b d:Int) (q:Addr) (w:World) (hq:w.cell? q=some (ag d)) (h0: -9223372036854775806≤a*b) (h1:a*b≤9223372036854775806):
  Calls prog 151 #[ag a,ag b,.pointer (some q)] w fun e w'=>e=.returned (ag (eP (a*b) d))∧aJ w w':=by go_enter func151,ntmps151;go_wp2_with (go_at_call 143;refine(uJ _ _ _ _ h0 h1).mono ?_;rintro e w' ⟨rfl,n,rfl⟩);go_ret;exact⟨rfl,below_drewN (aK _ _) _⟩
theorem F6 (x y a b d:Int) (q:Nat) (w:World) (hq:w.cell? ⟨q,0,none⟩=some (ag d)) (h0: -9223372036854775806≤x*a) (h1:x*a≤9223372036854775806) (h2: -9223372036854775806≤y*b) (h3:y*b≤9223372036854775806):
  Calls prog 110 #[.agg #[ag x,ag y],.agg #[ag a,ag b],.func (.func 151) #[] #[aR q]] w fun e w'=>e=.returned (.agg #[ag (eP (x*a) d),ag (eP (y*b) d)])∧aJ w w':=by
 have hqs:q<w.heap.size:=aU w _ hq;have gY:=results110;go_enter func110,ntmps110;go_wp2;refine bq 13 aL aL fun NL hL=>?_;obtain⟨dU,dV,hlf⟩:=hL;(try simp only[bf]at dU);simp only[dS];repeat(go_big_quiet_step ((go_at_call 151;exact aY (MK _ _ d _ _ (fB _ (jr (jr (jr hq)))) ae ae))))
 (refine wpQuiet_nil ?_;intro w1 iI;obtain⟨⟨w1,aO⟩,rfl⟩:=iI;clear dV hlf dU NL;obtain⟨N1,dA,bW,eu,eF⟩:=eB aO;(try simp only[bf]at dA));go_wp2;refine bodyPost_ret (v:=.agg #[ag (eP (x*a) d),ag (eP (y*b) d)]) fU rfl ⟨rfl,?_⟩;exact lu
theorem qP (x y n d:Int) (h0: -9223372036854775806≤x*n) (h1:x*n≤9223372036854775806) (h2: -9223372036854775806≤y*n) (h3:y*n≤9223372036854775806):
  dZ prog 118 #[.agg #[ag x,ag y],ag n,ag d] (.agg #[ag (eP (x*n) d),ag (eP (y*n) d)]):=by
 intro w;have gY:=results118;go_enter func118,ntmps118;go_wp2;refine bq 5 aL aL fun NL hL=>?_;obtain⟨dU,dV,hlf⟩:=hL;(try simp only[bf]at dU);simp only[dS];repeat(go_big_quiet_step (first|(go_at_call 112;exact aY (Cq _ _))|(go_at_call 110;refine aY (F6 _ _ _ _ d _ _ ?_ h0 h1 h2 h3);(refine fB _ ?_;go_simp))))
 (refine wpQuiet_nil ?_;intro w1 iI;obtain⟨⟨w1,aO⟩,rfl⟩:=iI;clear dV hlf dU NL;obtain⟨N1,dA,bW,eu,eF⟩:=eB aO;(try simp only[bf]at dA));go_wp2;refine bodyPost_ret (v:=.agg #[ag (eP (x*n) d),ag (eP (y*n) d)]) fU rfl ⟨rfl,?_⟩;exact lu
theorem pY (x y f:Int) (h0: -9223372036854775806≤x*f) (h1:x*f≤9223372036854775806) (h2: -9223372036854775806≤y*f) (h3:y*f≤9223372036854775806):
  dZ prog 82 #[.agg #[ag x,ag y],ag f] (.agg #[ag (eP (x*f) 1024),ag (eP (y*f) 1024)]):=by
 intro w;have gY:=results82;go_enter func82,ntmps82;go_wp2;refine bq 4 aL aL fun NL hL=>?_;obtain⟨dU,dV,hlf⟩:=hL;(try simp only[bf]at dU);simp only[dS];repeat(go_big_quiet_step (first|(go_at_call 112;exact aY (Cq _ _))|(go_at_call 110;exact aY (ML _ _ _ _ h0 h1 h2 h3 _))))
 (refine wpQuiet_nil ?_;intro w1 iI;obtain⟨⟨w1,aO⟩,rfl⟩:=iI;clear dV hlf dU NL;obtain⟨N1,dA,bW,eu,eF⟩:=eB aO;(try simp only[bf]at dA));go_wp2;refine bodyPost_ret (v:=.agg #[ag (eP (x*f) 1024),ag (eP (y*f) 1024)]) fU rfl ⟨rfl,?_⟩;exact lu
theorem jM (x y a b:Int) (h0: -9223372036854775808≤x+a) (h1:x+a≤9223372036854775807) (h2: -9223372036854775808≤y+b) (h3:y+b≤9223372036854775807):
  dZ prog 81 #[.agg #[ag x,ag y],.agg #[ag a,ag b]] (.agg #[ag (x+a),ag (y+b)]):=by intro w;have gY:=results81;go_enter func81,ntmps81;go_wp2_with (go_at_call 110;refine(MM _ _ _ _ h0 h1 h2 h3 _).mono ?_;refine df ?_;intro w1 aO N1 dA bW eu eF);refine bodyPost_ret (v:=.agg #[ag (x+a),ag (y+b)]) fU rfl ⟨rfl,?_⟩;exact lu
theorem uK (x y a b:Int) (h0: -9223372036854775808≤x-a) (h1:x-a≤9223372036854775807) (h2: -9223372036854775808≤y-b) (h3:y-b≤9223372036854775807):
  dZ prog 140 #[.agg #[ag x,ag y],.agg #[ag a,ag b]] (.agg #[ag (x-a),ag (y-b)]):=by intro w;have gY:=results140;go_enter func140,ntmps140;go_wp2_with (go_at_call 110;refine(MN _ _ _ _ h0 h1 h2 h3 _).mono ?_;refine df ?_;intro w1 aO N1 dA bW eu eF);refine bodyPost_ret (v:=.agg #[ag (x-a),ag (y-b)]) fU rfl ⟨rfl,?_⟩;exact lu
theorem aba (x y:Int) (h0: -9223372036854775807≤x) (h1:x≤9223372036854775807) (h2: -9223372036854775807≤y) (h3:y≤9223372036854775807):
  dZ prog 141 #[.agg #[ag x,ag y]] (.agg #[ag (-x),ag (-y)]):=by intro w;have hs:=uK 0 0 x y ae ae ae ae;simp only[Int.zero_sub]at hs;have HS:=ah hs;clear hs;have gY:=results141;go_enter func141,ntmps141;go_wp2_with (go_at_call 140;refine(HS.out _).mono ?_;refine df ?_;intro w1 aO N1 dA bW eu eF);refine bodyPost_ret (v:=.agg #[ag (-x),ag (-y)]) fU rfl ⟨rfl,?_⟩;exact lu
theorem Fu (x y a b:Int) (h1: -4611686018427387904≤x*a) (h2:x*a≤4611686018427387903) (h3: -4611686018427387904≤y*b) (h4:y*b≤4611686018427387903):
  dZ prog 139 #[.agg #[ag x,ag y],.agg #[ag a,ag b]] (ag ((x*a+y*b)/1024)):=by intro w;go_enter func139,ntmps139;go_wp2_with (go_at_call 181;refine(QB _ _ ae ae).mono ?_;rintro e w' ⟨rfl,rfl⟩);go_ret;exact⟨rfl,by exact lu⟩
theorem Fv (x y:Int) (h1:x*x≤4611686018427387903) (h3:y*y≤4611686018427387903):
  dZ prog 248 #[.agg #[ag x,ag y]] (ag (Jr (x*x+y*y))):=by intro w;have h0:0≤x*x:=tQ x;have h2:0≤y*y:=tQ y;go_enter func248,ntmps248;go_wp2_with (go_at_call 257;refine(UZ _ _ ae).mono ?_;rintro e w' ⟨rfl,rfl⟩);go_ret;exact⟨rfl,by exact lu⟩
theorem normalize_zero:dZ prog 235 #[.agg #[ag 0,ag 0]] (.agg #[ag 0,ag 0]):=by intro w;have gY:=results235;go_enter func235,ntmps235;go_wp2;refine bodyPost_ret (v:=.agg #[ag 0,ag 0]) eU rfl ⟨rfl,?_⟩;exact lu
theorem MO (x y:Int) (hx:¬x=0) (h0: -9007199254740991≤x) (h1:x≤9007199254740991) (h2: -9007199254740991≤y) (h3:y≤9007199254740991) (h4:x*x≤4611686018427387903) (h5:y*y≤4611686018427387903):
  dZ prog 235 #[.agg #[ag x,ag y]] (.agg #[ag (eP (x*1024) (Jr (x*x+y*y))),ag (eP (y*1024) (Jr (x*x+y*y)))]):=by
 intro w;have gY:=results235;go_enter func235,ntmps235;go_wp2;refine bq 4 aL aL fun NL hL=>?_;obtain⟨dU,dV,hlf⟩:=hL;(try simp only[bf]at dU);simp only[dS];repeat(go_big_quiet_step (first|(go_at_call 248;exact aY (Fv _ _ h4 h5 _))|(go_at_call 118;exact aY (qP _ _ _ _ ae ae ae ae _))))
 (refine wpQuiet_nil ?_;intro w1 iI;obtain⟨⟨w1,aO⟩,rfl⟩:=iI;clear dV hlf dU NL;obtain⟨N1,dA,bW,eu,eF⟩:=eB aO;(try simp only[bf]at dA));go_wp2;refine bodyPost_ret (v:=.agg #[ag (eP (x*1024) (Jr (x*x+y*y))),ag (eP (y*1024) (Jr (x*x+y*y)))]) fU rfl ⟨rfl,?_⟩;exact lu
theorem MP (y:Int) (hy:¬y=0) (h2: -9007199254740991≤y) (h3:y≤9007199254740991) (h5:y*y≤4611686018427387903):
  dZ prog 235 #[.agg #[ag 0,ag y]] (.agg #[ag (eP (0*1024) (Jr (0*0+y*y))),ag (eP (y*1024) (Jr (0*0+y*y)))]):=by
 intro w;have gY:=results235;go_enter func235,ntmps235;go_wp2;refine bq 4 aL aL fun NL hL=>?_;obtain⟨dU,dV,hlf⟩:=hL;(try simp only[bf]at dU);simp only[dS];repeat(go_big_quiet_step (first|(go_at_call 248;exact aY (Fv _ _ bL h5 _))|(go_at_call 118;exact aY (qP _ _ _ _ ae ae ae ae _))))
 (refine wpQuiet_nil ?_;intro w1 iI;obtain⟨⟨w1,aO⟩,rfl⟩:=iI;clear dV hlf dU NL;obtain⟨N1,dA,bW,eu,eF⟩:=eB aO;(try simp only[bf]at dA));go_wp2;refine bodyPost_ret (v:=.agg #[ag (eP (0*1024) (Jr (0*0+y*y))),ag (eP (y*1024) (Jr (0*0+y*y)))]) fU rfl ⟨rfl,?_⟩;exact lu
theorem IK (x y:Int) (h0: -9007199254740991≤x) (h1:x≤9007199254740991) (h2: -9007199254740991≤y) (h3:y≤9007199254740991) (h4:x*x≤4611686018427387903) (h5:y*y≤4611686018427387903):
  dZ prog 235 #[.agg #[ag x,ag y]] (.agg #[ag (eP (x*1024) (Jr (x*x+y*y))),ag (eP (y*1024) (Jr (x*x+y*y)))]):=by
 by_cases hx:x=0
 ·subst hx;by_cases hy:y=0
  ·subst hy;have e:Jr (0*0+0*0)=0:=aa5 _ bL;rw[e,tT];exact normalize_zero
  ·exact MP y hy h2 h3 h5
 ·exact MO x y hx h0 h1 h2 h3 h4 h5
end Ve
end Go.Proofs.YtohpdonnpbjfdaaGreatDoor
