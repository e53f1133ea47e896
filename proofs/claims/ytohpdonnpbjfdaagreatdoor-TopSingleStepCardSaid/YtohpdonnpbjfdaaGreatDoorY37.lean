/- What is shown: package vm, bounds of cells. Conditions: as each theorem states. -/
import Derived.Test.YtohpdonnpbjfdaaGreatDoorY6
import Derived.Test.YtohpdonnpbjfdaaGreatDoorY17
import Derived.Test.YtohpdonnpbjfdaaGreatDoorY28
import Derived.Test.YtohpdonnpbjfdaaGreatDoorY31
set_option maxHeartbeats 40000000
set_option maxRecDepth 100000
set_option linter.unusedVariables false
set_option linter.unusedSimpArgs false
open Go.Proofs.Tryz
namespace Go.Proofs.YtohpdonnpbjfdaaGreatDoor
theorem iN {P:Prop} (h:P:=by go_wp2_with (first|((with_reducible refine(Hs.out _).mono ?_);rintro e w2 ⟨rfl,rfl⟩));go_ret;exact⟨rfl,rfl⟩):P:=h
theorem qX {P:Prop} (h:P:=by go_wp2_with (first|((with_reducible refine(MU.out).mono ?_);rintro e w2 ⟨rfl,rfl⟩));go_ret;exact⟨rfl,rfl⟩):P:=h
namespace Vm
open Go.RowKit aN fO Qt Ro Bk Ce La Ha
attribute [local go_sem] Oper.semAt_some
abbrev iW (M:Nat):Value:=.iface 46 (aR M)
def sat (x:Int):Int:=g_ x (-2147483647) 2147483647
def tru (b:Bool):Int:=if b then 1 else 0
theorem Aa (x:Int) (w:World):Calls prog 216 #[ag x] w fun e w'=>e=.returned (ag (sat x))∧w'=w:=by have uO:=ah fun V=>fO.mD x (-2147483647) 2147483647 V;unfold sat;generalize g_ x (-2147483647) 2147483647=y at*;go_enter func216,ntmps216;go_wp2_with ((with_reducible refine(uO.out _).mono ?_);rintro e w1 ⟨rfl,rfl⟩);go_ret;exact⟨rfl,rfl⟩
theorem yE (b:Bool) (w:World):Calls prog 221 #[.bool b] w fun e w'=>e=.returned (ag (tru b))∧w'=w:=by
 cases b
 ·go_enter func221,ntmps221;go_wp2;go_ret;exact⟨rfl,rfl⟩
 ·go_enter func221,ntmps221;go_wp2;go_ret;exact⟨rfl,rfl⟩
def Xd (op:Int) (c:List Int) (n:Int):Int:=if op=1 then n else if op=2 then cg c (32+n)else if op=6 then cg c 9 else if op=7 then cg c 10 else cg c 0
open Mp
def yO (op:Int):Nat:=if op=1 then 210 else if op=2 then 211 else if op=6 then 212 else if op=7 then 213 else 214
theorem wW (op:Int) (ho:op=1∨op=2∨op=6∨op=7∨op=8) (w:World):
  Calls prog 171 #[ag op] w fun e w'=>e=.returned (.func (.func (yO op)) #[] #[])∧aJ w w':=by
 have m0:=uQ (P:=prog) 321 w;have m1:=qZ underlying321 underlying3 rfl w #[] 0 (ag 1) (.func (.func 210) #[] #[]) rfl;simp only[nu,Nat.reduceAdd]at m1;have m2:=bJ m1 underlying321 underlying3 rfl (ag 2) (.func (.func 211) #[] #[]) rfl;simp only[nu,Nat.reduceAdd]at m2;have m3:=bJ m2 underlying321 underlying3 rfl (ag 6) (.func (.func 212) #[] #[]) rfl;simp only[nu,Nat.reduceAdd]at m3;have m4:=bJ m3 underlying321 underlying3 rfl (ag 7) (.func (.func 213) #[] #[]) rfl;simp only[nu,Nat.reduceAdd]at m4;have m5:=bJ m4 underlying321 underlying3 rfl (ag 8) (.func (.func 214) #[] #[]) rfl;simp only[nu,Nat.reduceAdd]at m5;rcases ho with rfl|rfl|rfl|rfl|rfl
 ·have ml:=eT m5 underlying321 underlying3 rfl (ag 1) rfl;go_enter func171,ntmps171;go_wp2;go_ret;exact⟨rfl,(aK _ _).alloc (aH _) _⟩
 ·have ml:=eT m5 underlying321 underlying3 rfl (ag 2) rfl;go_enter func171,ntmps171;go_wp2;go_ret;exact⟨rfl,(aK _ _).alloc (aH _) _⟩
 ·have ml:=eT m5 underlying321 underlying3 rfl (ag 6) rfl;go_enter func171,ntmps171;go_wp2;go_ret;exact⟨rfl,(aK _ _).alloc (aH _) _⟩
 ·have ml:=eT m5 underlying321 underlying3 rfl (ag 7) rfl;go_enter func171,ntmps171;go_wp2;go_ret;exact⟨rfl,(aK _ _).alloc (aH _) _⟩
 ·have ml:=eT m5 underlying321 underlying3 rfl (ag 8) rfl;go_enter func171,ntmps171;go_wp2;go_ret;exact⟨rfl,(aK _ _).alloc (aH _) _⟩
def qU (op:Int):Nat:=if op=9 then 215 else if op=10 then 217 else if op=11 then 218 else if op=12 then 219 else if op=14 then 220 else if op=15 then 222 else 223
theorem mh (op:Int) (ho:op=9∨op=10∨op=11∨op=12∨op=14∨op=15∨op=16) (w:World):
  Calls prog 172 #[ag op] w fun e w'=>e=.returned (.func (.func (qU op)) #[] #[])∧aJ w w':=by
 have m0:=uQ (P:=prog) 323 w;have m1:=qZ underlying323 underlying3 rfl w #[] 0 (ag 9) (.func (.func 215) #[] #[]) rfl;simp only[nu,Nat.reduceAdd]at m1;have m2:=bJ m1 underlying323 underlying3 rfl (ag 10) (.func (.func 217) #[] #[]) rfl;simp only[nu,Nat.reduceAdd]at m2;have m3:=bJ m2 underlying323 underlying3 rfl (ag 11) (.func (.func 218) #[] #[]) rfl;simp only[nu,Nat.reduceAdd]at m3;have m4:=bJ m3 underlying323 underlying3 rfl (ag 12) (.func (.func 219) #[] #[]) rfl;simp only[nu,Nat.reduceAdd]at m4;have m5:=bJ m4 underlying323 underlying3 rfl (ag 14) (.func (.func 220) #[] #[]) rfl;simp only[nu,Nat.reduceAdd]at m5;have m6:=bJ m5 underlying323 underlying3 rfl (ag 15) (.func (.func 222) #[] #[]) rfl;simp only[nu,Nat.reduceAdd]at m6;have m7:=bJ m6 underlying323 underlying3 rfl (ag 16) (.func (.func 223) #[] #[]) rfl;simp only[nu,Nat.reduceAdd]at m7;rcases ho with rfl|rfl|rfl|rfl|rfl|rfl|rfl
 ·have ml:=eT m7 underlying323 underlying3 rfl (ag 9) rfl;go_enter func172,ntmps172;go_wp2;go_ret;exact⟨rfl,(aK _ _).alloc (aH _) _⟩
 ·have ml:=eT m7 underlying323 underlying3 rfl (ag 10) rfl;go_enter func172,ntmps172;go_wp2;go_ret;exact⟨rfl,(aK _ _).alloc (aH _) _⟩
 ·have ml:=eT m7 underlying323 underlying3 rfl (ag 11) rfl;go_enter func172,ntmps172;go_wp2;go_ret;exact⟨rfl,(aK _ _).alloc (aH _) _⟩
 ·have ml:=eT m7 underlying323 underlying3 rfl (ag 12) rfl;go_enter func172,ntmps172;go_wp2;go_ret;exact⟨rfl,(aK _ _).alloc (aH _) _⟩
 ·have ml:=eT m7 underlying323 underlying3 rfl (ag 14) rfl;go_enter func172,ntmps172;go_wp2;go_ret;exact⟨rfl,(aK _ _).alloc (aH _) _⟩
 ·have ml:=eT m7 underlying323 underlying3 rfl (ag 15) rfl;go_enter func172,ntmps172;go_wp2;go_ret;exact⟨rfl,(aK _ _).alloc (aH _) _⟩
 ·have ml:=eT m7 underlying323 underlying3 rfl (ag 16) rfl;go_enter func172,ntmps172;go_wp2;go_ret;exact⟨rfl,(aK _ _).alloc (aH _) _⟩
def TE (op:Int):Nat:=if op=13 then 224 else 225
theorem yD (op:Int) (ho:op=13∨op=17) (w:World):
  Calls prog 173 #[ag op] w fun e w'=>e=.returned (.func (.func (TE op)) #[] #[])∧aJ w w':=by
 have m0:=uQ (P:=prog) 324 w;have m1:=qZ underlying324 underlying3 rfl w #[] 0 (ag 13) (.func (.func 224) #[] #[]) rfl;simp only[nu,Nat.reduceAdd]at m1;have m2:=bJ m1 underlying324 underlying3 rfl (ag 17) (.func (.func 225) #[] #[]) rfl;simp only[nu,Nat.reduceAdd]at m2;rcases ho with rfl|rfl
 ·have ml:=eT m2 underlying324 underlying3 rfl (ag 13) rfl;go_enter func173,ntmps173;go_wp2;go_ret;exact⟨rfl,(aK _ _).alloc (aH _) _⟩
 ·have ml:=eT m2 underlying324 underlying3 rfl (ag 17) rfl;go_enter func173,ntmps173;go_wp2;go_ret;exact⟨rfl,(aK _ _).alloc (aH _) _⟩
def qV (op:Int):Nat:=if op=3 then 226 else if op=4 then 227 else if op=5 then 228 else if op=18 then 230 else if op=19 then 231 else if op=20 then 232 else 234
theorem nW (op:Int) (ho:op=3∨op=4∨op=5∨op=18∨op=19∨op=20∨op=21) (w:World):
  Calls prog 174 #[ag op] w fun e w'=>e=.returned (.func (.func (qV op)) #[] #[])∧aJ w w':=by
 have m0:=uQ (P:=prog) 327 w;have m1:=qZ underlying327 underlying3 rfl w #[] 0 (ag 3) (.func (.func 226) #[] #[]) rfl;simp only[nu,Nat.reduceAdd]at m1;have m2:=bJ m1 underlying327 underlying3 rfl (ag 4) (.func (.func 227) #[] #[]) rfl;simp only[nu,Nat.reduceAdd]at m2;have m3:=bJ m2 underlying327 underlying3 rfl (ag 5) (.func (.func 228) #[] #[]) rfl;simp only[nu,Nat.reduceAdd]at m3;have m4:=bJ m3 underlying327 underlying3 rfl (ag 18) (.func (.func 230) #[] #[]) rfl;simp only[nu,Nat.reduceAdd]at m4;have m5:=bJ m4 underlying327 underlying3 rfl (ag 19) (.func (.func 231) #[] #[]) rfl;simp only[nu,Nat.reduceAdd]at m5;have m6:=bJ m5 underlying327 underlying3 rfl (ag 20) (.func (.func 232) #[] #[]) rfl;simp only[nu,Nat.reduceAdd]at m6;have m7:=bJ m6 underlying327 underlying3 rfl (ag 21) (.func (.func 234) #[] #[]) rfl;simp only[nu,Nat.reduceAdd]at m7;rcases ho with rfl|rfl|rfl|rfl|rfl|rfl|rfl
 ·have ml:=eT m7 underlying327 underlying3 rfl (ag 3) rfl;go_enter func174,ntmps174;go_wp2;go_ret;exact⟨rfl,(aK _ _).alloc (aH _) _⟩
 ·have ml:=eT m7 underlying327 underlying3 rfl (ag 4) rfl;go_enter func174,ntmps174;go_wp2;go_ret;exact⟨rfl,(aK _ _).alloc (aH _) _⟩
 ·have ml:=eT m7 underlying327 underlying3 rfl (ag 5) rfl;go_enter func174,ntmps174;go_wp2;go_ret;exact⟨rfl,(aK _ _).alloc (aH _) _⟩
 ·have ml:=eT m7 underlying327 underlying3 rfl (ag 18) rfl;go_enter func174,ntmps174;go_wp2;go_ret;exact⟨rfl,(aK _ _).alloc (aH _) _⟩
 ·have ml:=eT m7 underlying327 underlying3 rfl (ag 19) rfl;go_enter func174,ntmps174;go_wp2;go_ret;exact⟨rfl,(aK _ _).alloc (aH _) _⟩
 ·have ml:=eT m7 underlying327 underlying3 rfl (ag 20) rfl;go_enter func174,ntmps174;go_wp2;go_ret;exact⟨rfl,(aK _ _).alloc (aH _) _⟩
 ·have ml:=eT m7 underlying327 underlying3 rfl (ag 21) rfl;go_enter func174,ntmps174;go_wp2;go_ret;exact⟨rfl,(aK _ _).alloc (aH _) _⟩
variable {w:World} {M C m:Nat} {L:Option Nat} {c:List Int}
theorem U7 (h:aD w ⟨M,C,L,m⟩ c) (n:Int):
  Calls prog 210 #[iW M,ag n] w fun e w'=>e=.returned (ag n)∧w'=w:=by clear h;go_enter func210,ntmps210;go_wp2;go_ret;exact⟨rfl,rfl⟩
theorem U8 (h:aD w ⟨M,C,L,m⟩ c) (n:Int) (hn:0≤n∧n≤1000):
  Calls prog 211 #[iW M,ag n] w fun e w'=>e=.returned (ag (cg c (32+n)))∧w'=w:=by obtain⟨h0,h1⟩:=hn;have MU:=ah (iZ h (32+n));clear h;go_enter func211,ntmps211;exact qX
theorem U9 (h:aD w ⟨M,C,L,m⟩ c) (n:Int):
  Calls prog 212 #[iW M,ag n] w fun e w'=>e=.returned (ag (cg c 9))∧w'=w:=by have MU:=ah (iZ h 9);clear h;go_enter func212,ntmps212;exact qX
theorem U_ (h:aD w ⟨M,C,L,m⟩ c) (n:Int):
  Calls prog 213 #[iW M,ag n] w fun e w'=>e=.returned (ag (cg c 10))∧w'=w:=by have MU:=ah (iZ h 10);clear h;go_enter func213,ntmps213;exact qX
theorem Va (h:aD w ⟨M,C,L,m⟩ c) (n:Int):
  Calls prog 214 #[iW M,ag n] w fun e w'=>e=.returned (ag (cg c 0))∧w'=w:=by have MU:=ah (iZ h 0);clear h;go_enter func214,ntmps214;exact qX
theorem M0 (a b:Int) (w:World):Calls prog 215 #[ag a,ag b] w fun e w'=>e=.returned (ag (sat (wrap64 (a+b))))∧w'=w:=by have Hs:=ah (fun V=>Aa (wrap64 (a+b)) V);go_enter func215,ntmps215;exact iN
theorem M3 (a b:Int) (w:World):Calls prog 217 #[ag a,ag b] w fun e w'=>e=.returned (ag (sat (wrap64 (a-b))))∧w'=w:=by have Hs:=ah (fun V=>Aa (wrap64 (a-b)) V);go_enter func217,ntmps217;exact iN
theorem M4 (a b:Int) (w:World):Calls prog 218 #[ag a,ag b] w fun e w'=>e=.returned (ag (sat (wrap64 (a*b))))∧w'=w:=by have Hs:=ah (fun V=>Aa (wrap64 (a*b)) V);go_enter func218,ntmps218;exact iN
theorem M6 (a b:Int) (w:World):Calls prog 220 #[ag a,ag b] w fun e w'=>e=.returned (ag (tru (decide (a<b))))∧w'=w:=by have Hs:=ah (fun V=>yE (decide (a<b)) V);go_enter func220,ntmps220;exact iN
theorem M7 (a b:Int) (w:World):Calls prog 222 #[ag a,ag b] w fun e w'=>e=.returned (ag (tru (decide (a≤b))))∧w'=w:=by have Hs:=ah (fun V=>yE (decide (a≤b)) V);go_enter func222,ntmps222;exact iN
theorem M8 (a b:Int) (w:World):Calls prog 223 #[ag a,ag b] w fun e w'=>e=.returned (ag (tru (a==b)))∧w'=w:=by have Hs:=ah (fun V=>yE (a==b) V);go_enter func223,ntmps223;exact iN
theorem QR (a:Int) (w:World):Calls prog 224 #[ag a] w fun e w'=>e=.returned (ag (sat (wrap64 (-a))))∧w'=w:=by have Hs:=ah (fun V=>Aa (wrap64 (-a)) V);go_enter func224,ntmps224;exact iN
theorem QS (a:Int) (w:World):Calls prog 225 #[ag a] w fun e w'=>e=.returned (ag (tru (a==0)))∧w'=w:=by have Hs:=ah (fun V=>yE (a==0) V);go_enter func225,ntmps225;exact iN
def aff (a b:Int):Int:=if b=0 then 0 else sat (wrap64 (a.tdiv b))
theorem M5 (a b:Int) (w:World):Calls prog 219 #[ag a,ag b] w fun e w'=>e=.returned (ag (aff a b))∧w'=w:=by
 have Hs:=ah (fun V=>Aa (wrap64 (a.tdiv b)) V);unfold aff;by_cases hb:b=0
 ·rw[if_pos hb];subst hb;go_enter func219,ntmps219;go_wp2;go_ret;exact⟨rfl,rfl⟩
 ·rw[if_neg hb];have hb':(b==0)=false:=by simpa using hb
  go_enter func219,ntmps219;exact iN
def zk (f v:Int):Int:=if f=0∨f=1 then g_ v (-1048576) 1048576 else if f=2∨f=3 then g_ v (-16384) 16384 else v
theorem qY (f v:Int) (w:World):Calls prog 229 #[ag f,ag v] w fun e w'=>e=.returned (ag (zk f v))∧w'=w:=by
 have H1:=ah (fun V=>fO.mD v (-1048576) 1048576 V);have H2:=ah (fun V=>fO.mD v (-16384) 16384 V);have key:(f=0∧zk f v=g_ v (-1048576) 1048576)∨(f=1∧zk f v=g_ v (-1048576) 1048576)∨(f=2∧zk f v=g_ v (-16384) 16384)∨(f=3∧zk f v=g_ v (-16384) 16384)∨(((f==0)=false∧(f==1)=false∧(f==2)=false∧(f==3)=false)∧zk f v=v):=by
  unfold zk;by_cases h0:f=0
  ·exact .inl ⟨h0,by rw[if_pos (.inl h0)]⟩
  ·by_cases h1:f=1
   ·exact .inr (.inl ⟨h1,by rw[if_pos (.inr h1)]⟩)
   ·by_cases h2:f=2
    ·exact .inr (.inr (.inl ⟨h2,by rw[if_neg ae,if_pos (.inl h2)]⟩))
    ·by_cases h3:f=3
     ·exact .inr (.inr (.inr (.inl ⟨h3,by rw[if_neg ae,if_pos (.inr h3)]⟩)))
     ·exact .inr (.inr (.inr (.inr ⟨⟨by simpa using h0,by simpa using h1,by simpa using h2,by simpa using h3⟩,by rw[if_neg ae,if_neg ae]⟩)))
 generalize zk f v=r at*;generalize g_ v (-1048576) 1048576=r1 at*;generalize g_ v (-16384) 16384=r2 at*;rcases key with⟨rfl,rfl⟩|⟨rfl,rfl⟩|⟨rfl,rfl⟩|⟨rfl,rfl⟩|⟨⟨k0,k1,k2,k3⟩,rfl⟩
 all_goals
  go_enter func229,ntmps229
  go_wp2_with (first|((with_reducible refine(H1.out _).mono ?_);rintro e w2 ⟨rfl,rfl⟩)|((with_reducible refine(H2.out _).mono ?_);rintro e w2 ⟨rfl,rfl⟩))
  go_ret
  exact⟨rfl,rfl⟩
end Vm
namespace In
open Ce Vm
variable {P:Nat} {c:List Int} {v i k f:Int}
theorem aI (c:List Int) (i v j:Int):cg (cs c i v) j=if j=i∧0≤i∧i<c.length then v else cg c j:=by
 unfold cg cs;by_cases hi:0≤i
 ·rw[if_pos hi];by_cases hj:0≤j
  ·rw[if_pos hj,if_pos hj,List.getD_eq_getElem?_getD,List.getElem?_set,List.getD_eq_getElem?_getD];by_cases h:j=i
   ·subst h;rw[if_pos rfl];by_cases hl:j.toNat<c.length
    ·rw[if_pos hl,if_pos ⟨rfl,hi,ae⟩];rfl
    ·rw[if_neg hl,if_neg ae];simp[List.getElem?_eq_none (Nat.le_of_not_lt hl)]
   ·rw[if_neg ae,if_neg ae]
  ·rw[if_neg hj,if_neg hj,if_neg ae]
 ·have h:¬(j=i∧0≤i∧i<c.length):=ae;rw[if_neg hi,if_neg h]
def Cb (P:Nat) (i:Int) (v:Int):Prop:=
 (i=7→0≤v∧v≤16)∧(i=11→0≤v∧v≤40)∧(48≤i→i<48+4*P→(i-48)%4≤1→-1≤v∧v≤1)∧
 (48+4*P≤i→((i-48-4*P)%8≤1→-1048576≤v∧v≤1048576)∧(((i-48-4*P)%8=2∨(i-48-4*P)%8=3)→-16384≤v∧v≤16384))
def sM (P:Nat) (c:List Int):Prop:=∀i:Int,Cb P i (cg c i)
theorem sM.set (h:sM P c) (hv:Cb P i v):sM P (cs c i v):=by
 intro j;rw[aI];split
 ·rename_i hj;rw[hj.1];exact hv
 ·exact h j
structure XV (P:Nat) (c c':List Int):Prop where
 len:c'.length=c.length
 kept:∀i:Int,(i≤5∨i=7∨i=8∨i=13)→cg c' i=cg c i
 bnd:sM P c'
theorem XV.refl (h:sM P c):XV P c c:=⟨rfl,fun _ _=>rfl,h⟩
theorem XV.set {c':List Int} (h:XV P c c') (hi:i=6∨(9≤i∧i≠13)) (hv:Cb P i v):XV P c (cs c' i v):=by refine⟨by rw[aT,h.len],fun j hj=>?_,h.bnd.set hv⟩;rw[aI,if_neg ae,h.kept j hj]
theorem Cb.free (h:i≠7∧i≠11∧i<48):Cb P i v:=⟨ae,ae,ae,ae⟩
theorem Cb.count (h:0≤v∧v≤40):Cb P 11 v:=⟨ae,fun _=>h,ae,ae⟩
theorem TF (f v:Int):(f=0∨f=1→-1048576≤zk f v∧zk f v≤1048576)∧(f=2∨f=3→-16384≤zk f v∧zk f v≤16384):=by
 have hc:∀n lo hi,lo≤hi→lo≤fO.g_ n lo hi∧fO.g_ n lo hi≤hi:=fun n lo hi h=>by unfold fO.g_;split<;>(try split)<;>omega
 unfold zk;constructor
 ·intro h;rw[if_pos h];exact hc _ _ _ ae
 ·intro h;rw[if_neg ae,if_pos h];exact hc _ _ _ ae
theorem Cb.body (hk:0≤k) (hf:0≤f∧f≤7) (h0:f=0∨f=1→-1048576≤v∧v≤1048576) (h1:f=2∨f=3→-16384≤v∧v≤16384):Cb P (48+4*P+8*k+f) v:=by have e:(48+4*(P:Int)+8*k+f-48-4*P)%8=f:=ae;refine⟨ae,ae,ae,fun _=>⟨fun h=>h0 ae,fun h=>h1 ae⟩⟩
theorem sM.pos (h:sM P c) (hk:0≤k) (hf:f=0∨f=1): -1048576≤cg c (48+4*P+8*k+f)∧cg c (48+4*P+8*k+f)≤1048576:=
 ((h _).2.2.2 ae).1 ae
theorem sM.X9 (h:sM P c) (hk:0≤k) (hf:f=2∨f=3): -16384≤cg c (48+4*P+8*k+f)∧cg c (48+4*P+8*k+f)≤16384:=
 ((h _).2.2.2 ae).2 ae
theorem sM.count (h:sM P c):0≤cg c 11∧cg c 11≤40:=(h 11).2.1 rfl
theorem sM.sp (h:sM P c):0≤cg c 7∧cg c 7≤16:=(h 7).1 rfl
end In
end Go.Proofs.YtohpdonnpbjfdaaGreatDoor
