/- What is shown: package fixed. Conditions: as each theorem states. -/
import Derived.Lib.ItoaNum
import Derived.Test.YtohpdonnpbjfdaaGreatDoorY3
import Derived.Test.YtohpdonnpbjfdaaGreatDoorY7
set_option maxHeartbeats 40000000
set_option maxRecDepth 100000
set_option linter.unusedVariables false
set_option linter.unusedSimpArgs false
open Go.Proofs.Tryz
namespace Go.Proofs.YtohpdonnpbjfdaaGreatDoor
theorem dn {P Q:Prop} (q:Q) (h:Q→P:=by intro kk;refine bK 8 (by kernel_rfl) (by kernel_rfl) fun hL=>?_;have dV:=hL.cell;clear hL;simp only[dS];(repeat(go_big_quiet_step (fail)));refine wpQuiet_nil ?_;clear dV;exact kk):P:=h q
theorem mQ {P:Prop} (h:P:=by simp[results,gY,go_sem,cZ,bW,aQ,↓IntWalk.iteOmega]):P:=h
theorem eU {P:Prop} (h:P:=by simp[results,gY,go_sem]):P:=h
namespace fO
open Go.RowKit aN
theorem U1 (n:Int) (w:World) (h0:0<n) (h1:n≤9223372036854775807):
  Calls prog 120 #[.int .u64 n] w fun e w'=>∃L:Nat,1≤L∧L≤63∧Hid (n<2^L)∧e=.returned (ag L)∧w=w':=by
 refine(bits_Len n w ae ae).mono ?_;rintro e w' ⟨rfl,rfl⟩;have hb:=Lib.bitLenAux_bounds 64 n.toNat ae ae;have hl:=Lib.bitLen_le n.toNat 63 ae ae;refine⟨Lib.bitLen n.toNat,hb.1,hl,?_,rfl,rfl⟩;have h2:(n.toNat:Int)<((2^Lib.bitLen n.toNat:Nat):Int):=by exact_mod_cast hb.2.2
 rw[Int.natCast_pow,Int.toNat_of_nonneg (show 0≤n from ae)]at h2;exact h2
def Rt (n r:Int) (k:Nat):Prop:=∃q:Int,0≤q∧r=q*2^k∧r*r≤n∧n<(r+2^k)*(r+2^k)
theorem XK (n:Int) (L:Nat) (h:0<n) (hL:n<2^L):Rt n 0 ((L+1)/2):=by
 refine⟨0,ae,ae,ae,?_⟩;have h1:(2:Int)^L≤2^((L+1)/2+(L+1)/2):=by have:(2:Nat)^L≤2^((L+1)/2+(L+1)/2):=Nat.pow_le_pow_right bL ae;exact_mod_cast this
 rw[Int.pow_add]at h1;simp only[Int.zero_add];omega
theorem two_pow_pos (j:Nat):(0:Int)<2^j:=by have:=Nat.two_pow_pos j;exact_mod_cast this
theorem ae5 (n r:Int) (h:Rt n r 0):r=Jr n:=by obtain⟨q,hq,hr,h1,h2⟩:=h;simp only[Int.pow_zero,Int.mul_one]at hr h2;exact(ae6 n r ae h1 h2).symm
theorem aa6 (n r:Int) (j:Nat) (hj:j≤31) (h0:0≤r) (hn:n≤9223372036854775807) (h:Rt n r (j+1)):
  ∃x:Int,x=r+2^j∧1≤x∧x≤8589934592∧bits BinOp.or IntKind.i64 r (wrap64 (2^j))=x:=by
 obtain⟨q,hq,hr,h1,h2⟩:=h;have hp:=two_pow_pos j;have tH:(2:Int)^j≤2147483648:=by have h3:(2:Nat)^j≤2147483648:=aS (Nat.pow_le_pow_right bL hj) bL;have h4:((2^j:Nat):Int)≤((2147483648:Nat):Int):=Int.ofNat_le.mpr h3;rw[Int.natCast_pow]at h4;exact h4
 have hr2:r≤4294967296:=by refine Int.not_lt.mp fun hc=>?_;have:=aiZ (a:=4294967296) (b:=r) ae hc;omega
 refine⟨r+2^j,rfl,ae,ae,?_⟩;rw[IntWalk.wrap64_in _ ae];refine bits_join .i64 63 bL (fun m a b=>gL m ae) (j+1) r (2^j) h0 ?_ ae ae ?_ ae
 ·rw[hr];exact Int.mul_emod_left _ _
 ·rw[Int.pow_succ];omega
theorem ae7 (n r x:Int) (j:Nat) (h:Rt n r (j+1)) (hx:x=r+2^j) (mg:1≤x) (ht:n/x<x):Rt n r j:=by
 obtain⟨q,hq,hr,h1,h2⟩:=h;refine⟨2*q,ae,?_,h1,?_⟩
 ·rw[hr,Int.pow_succ,Int.mul_comm 2 q,Int.mul_assoc,Int.mul_comm 2]
 ·rw[←hx];exact Int.lt_mul_of_ediv_lt ae ht
theorem aa7 (n r x:Int) (j:Nat) (h:Rt n r (j+1)) (hx:x=r+2^j) (mg:1≤x) (ht:x≤n/x):Rt n x j:=by
 obtain⟨q,hq,hr,h1,h2⟩:=h;refine⟨2*q+1,ae,?_,?_,?_⟩
 ·rw[hx,hr,Int.pow_succ,Int.add_mul,Int.one_mul,Int.mul_comm 2 q,Int.mul_assoc,Int.mul_comm 2]
 ·exact Int.mul_le_of_le_ediv ae ht
 ·have e:r+2^(j+1)=x+2^j:=by rw[hx,Int.pow_succ];omega
  rw[←e];exact h2
theorem ai0 (n r:Int) (k:Nat) (h:Rt n r k) (hn:n≤9223372036854775807):r≤4294967296:=by obtain⟨q,hq,hr,h1,h2⟩:=h;refine Int.not_lt.mp fun hc=>?_;have:=aiZ (a:=4294967296) (b:=r) ae hc;omega
theorem U0 (n:Int) (w:World) (h0:0<n) (h1:n≤9223372036854775807):
  Calls prog 257 #[ag n] w fun e w'=>e=.returned (ag (Jr n))∧w=w':=by
 go_enter func257,ntmps257;go_wp2;go_step3;go_wp2;go_step3;go_wp2_with (go_at_call 120;refine(U1 n _ ae ae).mono ?_;rintro e w' ⟨L,hL1,IE,hL,rfl,rfl⟩);go_loop [3,4] (fun r s=>∃(k:Nat) (r':Int),k≤32∧0≤r'∧r'≤4294967296∧Hid (Rt n r' k)∧s=ag (k-1)∧r=ag r') (fun _ s=>(intOf s+1).toNat);case atStart=>exact⟨(L+1)/2,0,ae,ae,ae,ah (XK n L h0 hL.out),by go_num,rfl⟩
 case round=>
  obtain⟨k,r',hk,hr0,hr1,hR,rfl,rfl⟩:=hrel;by_cases Fq:k=0
  ·subst Fq;go_wp2;go_ret;exact⟨yC (ae5 n r' hR.out),rfl⟩
  ·obtain⟨j,rfl⟩:∃j,k=j+1:=⟨k-1,ae⟩
   rw[show((j+1:Nat):Int)-1=(j:Int)from ae];obtain⟨x,hx,mg,vT,ho⟩:=aa6 n r' j ae hr0 h1 hR.out;have HX:=ah hx;clear hx;go_wp2
   ·go_round;case rel=>exact⟨j,r',ae,hr0,hr1,ah (ae7 n r' x j hR.out HX.out mg fw),rfl,rfl⟩
    case measure=>simp[intOf]
   ·go_round;case rel=>have hh:=aa7 n r' x j hR.out HX.out mg fw;exact⟨j,x,ae,ae,ai0 n x j hh h1,ah hh,rfl,rfl⟩
    case measure=>simp[intOf]
theorem UZ (n:Int) (w:World) (h1:n≤9223372036854775807):
  Calls prog 257 #[ag n] w fun e w'=>e=.returned (ag (Jr n))∧w=w':=by
 by_cases h0:0<n
 ·exact U0 n w h0 h1
 ·have hn:n≤0:=ae;go_enter func257,ntmps257;go_wp2;go_step3;go_wp2;rw[Exit.noGoto_ret];go_ret;exact⟨yC (aa5 n hn).symm,rfl⟩
def g_ (n lo hi:Int):Int:=if n<lo then lo else if hi<n then hi else n
theorem mD (n lo hi:Int) (w:World):
  Calls prog 83 #[ag n,ag lo,ag hi] w fun e w'=>e=.returned (ag (g_ n lo hi))∧w=w':=by
 by_cases h0:n<lo<;>by_cases h1:hi<n;all_goals
  go_enter func83,ntmps83
  go_wp2
  go_ret
  refine⟨yC ?_,rfl⟩
  unfold g_
  split<;>first|omega|(split<;>omega)
end fO
end Go.Proofs.YtohpdonnpbjfdaaGreatDoor
