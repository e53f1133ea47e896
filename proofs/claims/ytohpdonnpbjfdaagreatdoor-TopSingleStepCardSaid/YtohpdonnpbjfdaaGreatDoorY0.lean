/- What is shown: package fixed. Conditions: as each theorem states. -/
import Derived.Lib.Hide
set_option maxHeartbeats 40000000
set_option maxRecDepth 100000
set_option linter.unusedVariables false
set_option linter.unusedSimpArgs false
namespace Go.Proofs.YtohpdonnpbjfdaaGreatDoor
namespace aN
def eP (a b:Int):Int:=if b=0 then 0 else if a.tmod b≠0∧¬(a<0↔b<0)then a.tdiv b-1 else a.tdiv b
theorem tT (a:Int):eP a 0=0:=by simp[eP]
theorem ahD (a b:Int):(0≤a→0≤a.tmod b)∧(a≤0→a.tmod b≤0):=by
 constructor
 ·intro h;exact Int.tmod_nonneg b h
 ·intro h;have:=Int.tmod_nonneg (a:=-a) b (by omega);rw[Int.neg_tmod]at this;omega
theorem tmod_abs (a b:Int) (hb:b≠0): -(b.natAbs:Int)<a.tmod b∧a.tmod b<b.natAbs:=by have h:=Int.natAbs_tmod a b;have h2:a.natAbs%b.natAbs<b.natAbs:=Nat.mod_lt _ (by omega);rw[←h]at h2;omega
theorem fdv_spec (a b:Int) (hb:b≠0):(0<b→0≤a-b*eP a b∧a-b*eP a b<b)∧(b<0→a-b*eP a b≤0∧b<a-b*eP a b):=by
 have h1:=Int.mul_tdiv_add_tmod a b;have h2:=ahD a b;have h3:=tmod_abs a b hb;have h4:b*(a.tdiv b-1)=b*a.tdiv b-b:=by rw[Int.mul_sub,Int.mul_one]
 unfold eP;rw[if_neg hb];by_cases hm:a.tmod b=0
 ·rw[if_neg (by simp[hm])];omega
 ·by_cases ha:a<0<;>by_cases hbn:b<0
  ·rw[if_neg (by simp[ha,hbn])];omega
  ·rw[if_pos ⟨hm,by simp[ha,hbn]⟩,h4];omega
  ·rw[if_pos ⟨hm,by simp[ha,hbn]⟩,h4];omega
  ·rw[if_neg (by simp[ha,hbn])];omega
theorem fdv_unique (a b q:Int) (hb:0<b) (h:0≤a-b*q∧a-b*q<b):eP a b=q:=by
 have hs:=(fdv_spec a b (by omega)).1 hb;have hd:b*(eP a b-q)=b*eP a b-b*q:=Int.mul_sub b _ q;have hlt:eP a b-q<1:=by refine Int.not_le.mp fun hc=>?_;have:=Int.mul_le_mul_of_nonneg_left hc (Int.le_of_lt hb);omega
 have hgt: -1<eP a b-q:=by refine Int.not_le.mp fun hc=>?_;have:=Int.mul_le_mul_of_nonneg_left hc (Int.le_of_lt hb);omega
 omega
theorem FB (a b:Int) (hb:0<b):eP a b=a/b:=by refine fdv_unique a b _ hb ?_;have h1:=Int.mul_ediv_add_emod a b;have h2:=Int.emod_nonneg a (show b≠0 by omega);have h3:=Int.emod_lt_of_pos a hb;omega
theorem tdiv_le (a b:Int): -(a.natAbs:Int)≤a.tdiv b∧a.tdiv b≤a.natAbs:=by have h:=Int.natAbs_tdiv a b;have h2:a.natAbs/b.natAbs≤a.natAbs:=Nat.div_le_self _ _;have h3:(a.tdiv b).natAbs=a.natAbs/b.natAbs:=h;omega
theorem agS (a b:Int): -(a.natAbs:Int)-1≤eP a b∧eP a b≤a.natAbs:=by
 unfold eP;split
 ·omega
 ·have:=tdiv_le a b;split<;>omega
def rootN:Nat→Nat
 |0=>0
 |n+1=>if(rootN n+1)*(rootN n+1)≤n+1 then rootN n+1 else rootN n
theorem rootN_spec (n:Nat):rootN n*rootN n≤n∧n<(rootN n+1)*(rootN n+1):=by
 induction n with
 |zero=>simp[rootN]
 |succ n ih=>
  unfold rootN;split
  ·rename_i h;refine⟨h,?_⟩;have e:(rootN n+1+1)*(rootN n+1+1)=(rootN n+1)*(rootN n+1)+2*(rootN n+1)+1:=by simp only[Nat.add_mul,Nat.mul_add];omega
   omega
  ·rename_i h;exact⟨by omega,by omega⟩
def Jr (n:Int):Int:=(rootN n.toNat:Nat)
theorem Gs (n:Int):0≤Jr n:=by unfold Jr;omega
theorem ajv (n:Int) (h:0≤n):Jr n*Jr n≤n∧n<(Jr n+1)*(Jr n+1):=by
 have:=rootN_spec n.toNat;unfold Jr;constructor
 ·have h1:((rootN n.toNat*rootN n.toNat:Nat):Int)≤(n.toNat:Int):=by exact_mod_cast this.1
  rw[Int.natCast_mul]at h1;omega
 ·have h1:(n.toNat:Int)<(((rootN n.toNat+1)*(rootN n.toNat+1):Nat):Int):=by exact_mod_cast this.2
  rw[Int.natCast_mul]at h1;push_cast at h1;omega
theorem aa5 (n:Int) (h:n≤0):Jr n=0:=by unfold Jr;rw[show n.toNat=0 by omega];rfl
theorem aiZ {a b:Int} (ha:0≤a) (h:a<b):a*a<b*b:=by have h1:a*a≤a*b:=Int.mul_le_mul_of_nonneg_left (by omega) ha;have h2:a*b<b*b:=Int.mul_lt_mul_of_pos_right h (by omega);omega
theorem sq_le {a b:Int} (ha:0≤a) (h:a≤b):a*a≤b*b:=by
 rcases Int.lt_or_eq_of_le h with h|h
 ·exact Int.le_of_lt (aiZ ha h)
 ·rw[h];exact Int.le_refl _
theorem Yp {a b:Int} (hb:0≤b) (h:a*a<b*b):a<b:=by refine Int.not_le.mp fun hc=>?_;have:=sq_le hb hc;omega
theorem ae6 (n r:Int) (hr:0≤r) (h1:r*r≤n) (h2:n<(r+1)*(r+1)):Jr n=r:=by have hn:0≤n:=Int.le_trans (Int.mul_nonneg hr hr) h1;have hs:=ajv n hn;have h0:=Gs n;have a1:Jr n<r+1:=Yp (by omega) (by omega);have a2:r<Jr n+1:=Yp (by omega) (by omega);omega
end aN
end Go.Proofs.YtohpdonnpbjfdaaGreatDoor
