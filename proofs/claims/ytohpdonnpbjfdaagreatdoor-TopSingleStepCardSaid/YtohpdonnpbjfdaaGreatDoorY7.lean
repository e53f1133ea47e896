/- What is shown: package fixed. Conditions: as each theorem states. -/
import Derived.BigQuiet
import Derived.Deep.QuietTactic
import Derived.ProofKit
import Derived.Test.YtohpdonnpbjfdaaGreatDoorChecked
import Derived.Test.YtohpdonnpbjfdaaGreatDoorY0
import Derived.Test.YtohpdonnpbjfdaaGreatDoorY1
set_option maxHeartbeats 40000000
set_option maxRecDepth 100000
set_option linter.unusedVariables false
set_option linter.unusedSimpArgs false
open Go.Proofs.Tryz
namespace Go.Proofs.YtohpdonnpbjfdaaGreatDoor
theorem dS:(∀(α:Type)(a:α)(l:List α)(n:Nat),List.take (n+1) (a::l)=a::List.take n l)∧(∀(α:Type)(l:List α),List.take 0 l=[])∧(∀(α:Type)(a:α)(l:List α)(n:Nat),List.drop (n+1) (a::l)=List.drop n l)∧∀(α:Type)(l:List α),List.drop 0 l=l:=⟨fun _ _ _ _=>rfl,fun _ l=>List.take_zero,fun _ _ _ _=>rfl,fun _ _=>rfl⟩
theorem aL {P:Prop} (h:P:=by kernel_rfl):P:=h
theorem ah {p:Prop} (h:p):RowKit.Hid p:=h
theorem bO {P:Prop} (h:P:=by go_simp):P:=h
theorem fw {P:Prop} (h:P:=by assumption):P:=h
namespace fO
open Go.RowKit aN
theorem yC {k:IntKind} {a b:Int} (h:a=b):Ending.returned (.int k a)=.returned (.int k b):=by rw[h]
def Mj (n m:Int):Int:=(if n<0 then-(n+1)else n)%m
theorem AQ (n m:Int) (hm:1≤m):0≤Mj n m∧Mj n m<m:=by unfold Mj;exact⟨Int.emod_nonneg _ ae,Int.emod_lt_of_pos _ ae⟩
theorem aa9 (n m:Int) (hn:n<0): -(n+1).tmod m=Mj n m:=by unfold Mj;rw[if_pos hn,←Int.tmod_eq_emod_of_nonneg ae,Int.neg_tmod]
theorem aa_ (n m:Int) (hn:0≤n):n%m=Mj n m:=by unfold Mj;rw[if_neg ae]
theorem nR (n m:Int) (w:World) (h0: -9223372036854775808≤n) (h1:n≤9223372036854775807) (hm:1≤m) (tF:m≤9223372036854775807):
  Calls prog 7 #[ag n,ag m] w fun e w'=>e=.returned (ag (Mj n m))∧w=w':=by
 have hm0:(m==0)=false:=bU;by_cases hn:n<0
 ·go_enter func7,ntmps7;go_wp2;go_ret;exact⟨yC (aa9 n m hn),rfl⟩
 ·go_enter func7,ntmps7;go_wp2;go_ret;exact⟨yC (aa_ n m ae),rfl⟩
theorem U2 (a b:Int) (hb:b≠0):(eP a b=a.tdiv b∧(a.tmod b=0∨(0<a.tmod b∧0<b)∨(a.tmod b<0∧b<0)))∨(eP a b=a.tdiv b-1∧((0<a.tmod b∧b<0)∨(a.tmod b<0∧0<b))):=by
 have hs:=ahD a b;have h0:a.tmod b≠0→a≠0:=by intro h h0;rw[h0]at h;simp at h
 unfold eP;rw[if_neg hb];by_cases hm:a.tmod b=0
 ·rw[if_neg ae];omega
 ·by_cases hc:(a<0↔b<0)
  ·rw[if_neg ae];omega
  ·rw[if_pos ae];omega
theorem II (a:Int) (w:World):Calls prog 134 #[ag a,ag 0] w fun e w'=>e=.returned (ag 0)∧w=w':=by go_enter func134,ntmps134;go_wp2;go_ret;exact⟨rfl,rfl⟩
theorem IJ (a b:Int) (w:World) (h0: -9223372036854775806≤a) (h1:a≤9223372036854775806) (hb:(b==0)=false):
  Calls prog 134 #[ag a,ag b] w fun e w'=>e=.returned (ag (eP a b))∧∃n,w'=w.drewN n:=by
 have nP:b≠0:=by simpa using hb
 have hc:=ah (U2 a b nP);have hq:=tdiv_le a b;have hq1: -9223372036854775806≤a.tdiv b:=ae;have hq2:a.tdiv b≤9223372036854775806:=ae;clear hq;have iI:IntKind.i64.wrap (a.tdiv b)=a.tdiv b:=gL _ ae;go_enter func134,ntmps134;go_wp2;go_quiet (fail);go_wp2;all_goals
  go_ret
  refine⟨yC ?_,_,rfl⟩
  have hc':=hc.out
  omega
theorem zU (a b:Int) (w:World) (h0: -9223372036854775806≤a) (h1:a≤9223372036854775806):
  Calls prog 134 #[ag a,ag b] w fun e w'=>e=.returned (ag (eP a b))∧∃n,w'=w.drewN n:=by
 by_cases hb:b=0
 ·subst hb;refine(II a w).mono ?_;rintro e w' ⟨rfl,rfl⟩;exact⟨by rw[tT],0,rfl⟩
 ·exact IJ a b w h0 h1 (by simpa using hb)
theorem Fs (a b:Int) (w:World) (h0: -9223372036854775806≤a*b) (h1:a*b≤9223372036854775806):
  Calls prog 113 #[ag a,ag b] w fun e w'=>e=.returned (ag (eP (a*b) 1024))∧∃n,w'=w.drewN n:=by go_enter func113,ntmps113;go_wp2_with (go_at_call 134;refine(zU _ _ _ h0 h1).mono ?_;rintro e w' ⟨rfl,n,rfl⟩);go_ret;exact⟨rfl,_,rfl⟩
theorem uJ (a b c:Int) (w:World) (h0: -9223372036854775806≤a*b) (h1:a*b≤9223372036854775806):
  Calls prog 143 #[ag a,ag b,ag c] w fun e w'=>e=.returned (ag (eP (a*b) c))∧∃n,w'=w.drewN n:=by go_enter func143,ntmps143;go_wp2_with (go_at_call 134;refine(zU _ _ _ h0 h1).mono ?_;rintro e w' ⟨rfl,n,rfl⟩);go_ret;exact⟨rfl,_,rfl⟩
end fO
end Go.Proofs.YtohpdonnpbjfdaaGreatDoor
