/- What is shown: package machine, package game, setups and rows. Conditions: as each theorem states. -/
import Derived.Test.YtohpdonnpbjfdaaGreatDoorY43
set_option maxHeartbeats 40000000
set_option maxRecDepth 100000
set_option linter.unusedVariables false
set_option linter.unusedSimpArgs false
open Go.Proofs.Tryz
namespace Go.Proofs.YtohpdonnpbjfdaaGreatDoor
theorem rZ {P Q:Prop} (q:Q) (h:RowKit.Hid Q→P:=by first|(intro kk;(with_reducible refine(oL.out).mono ?_);rintro e w1 ⟨rfl,L1,n1,gp,dG⟩;have eD:=dG.n;simp only at eD;replace kT:=(kT.below aG).step dG;replace bZ:=kT.bV;replace b_:=kT.blk.free;replace hA:=(hA.below aG).trans dG;replace hm:=gp;clear gp dG;revert hm hA b_ bZ kT eD n1 L1 w1;exact kk.out)|fail):P:=h (ah q)
theorem DU {P:Prop} (h:P:=by have oL:=ah hrun;have lD:=ah he;clear hrun he;go_enter func77,ntmps77;go_wp2_with (first|(refine rZ ?_;clear kT bZ b_ hA hm;intro w1 L1 n1 eD kT bZ b_ hA hm));go_end0;exact⟨rfl,_,_,hm,hA.mono ae⟩):P:=h
theorem OO {P Q:Prop} (q:Q) (h:Q→P:=by intro kk;refine bK 12 (by kernel_rfl) (by kernel_rfl) fun hL=>?_;have dV:=hL.cell;clear hL;simp only[dS];(repeat(go_big_quiet_step ((first|(with_reducible exact Hog.out _)|(rw[hmk];exact⟨rfl,rfl⟩)))));refine wpQuiet_nil ?_;clear dV;exact kk):P:=h q
theorem DY {P Q:Prop} (q:Q) (h:Q→P:=by have hpl:=oG (S.ak:Int) (i:Int) (some ⟨ab,0,none⟩) S.bodies.length a_ (ag S.x0) (ag S.y0) (ag S.x1) (ag S.y1) rm dr (ag S.ou) (ag S.gx) (ag S.gy) (ag S.push) (ag S.eO) (ag S.rest) (ag S.rounds) (ag S.fuel) ae ae;intro kk;revert hpl;exact kk):P:=h q
theorem sI {P Q:Prop} (q:Q) (h:Q→P:=by have LV:∀W,aD W ⟨M,C,L,m⟩ c→Calls prog 31 #[aR M,ag (f+2)] W fun e w'=>e=.returned (ag 0)∧w'=W:=fun W h=>hx▸iZ h _;intro kk;revert LV;exact kk):P:=h q
theorem j_ {P Q:Prop} (q:Q) (h:Q→P:=by have yo:¬((i:Int)+1<(S.bodies.length:Int)):=ae;intro kk;revert yo;exact kk):P:=h q
theorem ko {P Q:Prop} (q:Q) (h:Q→P:=by have yo:(i:Int)+1<(S.bodies.length:Int):=ae;intro kk;revert yo;exact kk):P:=h q
theorem DW {P Q:Prop} (q:Q) (h:Q→P:=by have hpl:=zg (S.ak:Int) (i:Int) (aZ ab S.bodies.length a_) (ag S.x0) (ag S.y0) (ag S.x1) (ag S.y1) rm dr (ag S.ou) (ag S.gx) (ag S.gy) (ag S.push) (ag S.eO) (ag S.rest) (ag S.rounds) (ag S.fuel) ae;intro kk;revert hpl;exact kk):P:=h q
theorem yt {P:Prop} (h:P:=by
 refine dD ?_;go_upto_region 8 with(fail);refine aP fun W hW=>?_;replace hw:=hw.below (w':=W) aM;replace bZ:=hw.kT.bV;replace b_:=hw.kT.blk.free;clear hW;go_upto_region 9 with(fail);refine aP fun W2 mi=>?_;have n0:=hw.hA.n;simp only at n0;have HA:=ah ((Alt.up (l:=[bt]) hw.hA).set (p:=⟨bt,25,none⟩) (.inl av) (.bool true));replace hw:Wk S ⟨aZ ab nb a_,rm,dr,code,e0,e1,e2,cK,inp,i,j0,true,0,0,0,0,false⟩ W0 (W.setCell ⟨bt,25,none⟩ (.bool true)) ⟨M,C,L1,n1⟩ bt (W.setCell ⟨bt,25,none⟩ (.bool true)) M C L1 n1 _ 0:=
  ⟨hw.hm.set hw.kT.no _,hw.kT.put 25 (.bool true),hw.hs.set hbt _,Alt.refl _ _ _,by have:=hw.kT.blk.lt;simpa[World.setCell]using this,by have:=hw.hs.jQ.size;simpa[World.setCell]using this⟩
 rw[←mi]at hw HA;clear mi;have bZ:=hw.kT.bV;have b_:=hw.kT.blk.free;have og:=fun x=>si hw.hm 0 x;rw[Htk.out]at og;have hmg:=Tryz.Wq M;have Hog:=ah og;clear og;refine OO ?_;go_wp2_with (first|(refine dz ?_;clear hw bZ b_;intro w1 L1 n1 eD hw bZ b_));refine aP fun W3 IM=>?_;rw[←IM]at hw;clear IM bZ b_;have n2:=hw.hA.n;simp only at n2;clear eD;go_loopw [4] (fun v wr=>∃(k n':Nat) (L':Option Nat),k≤10∧v=ag ((k:Int)+1)∧n'≤n1+k∧Wk S ⟨aZ ab nb a_,rm,dr,code,e0,e1,e2,cK,inp,i,j0,true,0,0,0,0,false⟩ W0 W2 ⟨M,C,_,_⟩ bt wr M C L' n' (Z_ _ k) (1+k)) (fun v _=>11-(intOf v).toNat);case atStart=>exact⟨0,_,_,ae,rfl,ae,hw⟩
 case round=>
  obtain⟨k,n',L',hk,rfl,hn',hw⟩:=hrel;have bZ:=hw.kT.bV;have b_:=hw.kT.blk.free;by_cases hlt:k<10
  ·have pg:(k:Int)+1≤10:=ae;go_wp2_with (first|(refine dz ?_;clear hw bZ b_;intro w1 L1 n1 eD hw bZ b_));exact⟨⟨k+1,_,_,ae,av,ae,hw⟩,by simp[intOf];omega⟩
  ·obtain rfl:k=10:=ae;go_wp2;go_end0;exact⟨rfl,_,_,hw.hm,hw.kT,(HA.out.trans (Alt.up hw.hA)).mono ae⟩):P:=h
theorem rX {P:Prop} (h:P:=by refine bodyPost_ret (results_none rfl _ _ _) rfl ?_;exact⟨rfl,_,_,hw.hm,hw.hA.mono ae⟩):P:=h
theorem yw {P:Prop} (h:P:=by refine dD ?_;go_upto_region 7 with(fail);refine jl ?_;go_wp2_with (first|(refine dz ?_;clear hw bZ b_;intro w1 L1 n1 eD hw bZ b_));refine bodyPost_ret (results_none rfl _ _ _) rfl ?_;exact⟨rfl,_,_,hw.hm,hw.kT,(Alt.up hw.hA).mono ae⟩):P:=h
theorem DX {P:Prop} (h:P:=by go_upto_region 0 with(fail);refine dn ?_;go_wp2_with (first|(refine gW ?_;clear hw bZ b_;intro w1 hw bZ b_)|((with_reducible refine(MU.out _ (hw.below aG)).mono ?_);rintro e w1 ⟨rfl,rfl⟩)|((with_reducible refine(ZB.out _ (hw.below aG)).mono ?_);rintro e w1 ⟨rfl,L1,n1,hm,kT,hA1⟩;have hA:=((hw.below aG).hA.list (l':=[bt]) av).trans hA1));go_end0;exact⟨rfl,_,_,hm,kT,hA.mono ae⟩):P:=h
theorem j6 {P:Prop} (h:P:=by
 obtain⟨P1,P8,Pn,n24⟩:=And.intro hS.P1 (And.intro hS.P8 (And.intro hS.Pn hS.n24));refine DY ?_;intro hpl;rw[show vP S.ak S.bodies.length i=48+4*S.ak+8*i by unfold vP;rw[if_pos ae]]at hpl;obtain⟨f,hf⟩:∃f:Int,f=48+4*(S.ak:Int)+8*(i:Int):=⟨_,rfl⟩
 have hf0:0≤f:=ae;have eu:f≤1000:=ae;first
 |revert bP;intro bP
  rw[←hf]at hpl ha
  clear hf hi hS
 |revert gu;intro gu
  rw[←hf]at hpl hx hy Nk⊢
  clear hf hS
  refine ko ?_;intro yo
 |revert nL;intro nL
  rw[←hf]at hpl hx⊢
  clear hf hS
  refine ko ?_;intro yo
 |revert pq;intro pq
  rw[←hf]at hpl hx hy⊢
  clear hf hS
  refine ko ?_;intro yo
 |revert QZ;intro QZ
  rw[←hf]at hpl htk hx hy Nk⊢
  clear hf hS
  refine j_ ?_;intro yo
 |revert Q0;intro Q0
  rw[←hf]at hpl htk hx⊢
  clear hf hS
  refine j_ ?_;intro yo
 |revert adq;intro adq
  rw[←hf]at hpl htk hx hy⊢
  clear hf hS
  refine j_ ?_;intro yo
 generalize S.bodies.length=nb at*;have bZ:=hw.kT.bV;have b_:=hw.kT.blk.free;first
 |revert bP;intro bP
  have Bj:=ah hpl;have ZB:=ah hturn;clear hpl hturn
  have Ha:=ah ha
  have hg:∀W,Wk S ⟨aZ ab nb a_,rm,dr,code,e0,e1,e2,cK,inp,i,j0,false,0,0,0,0,false⟩ W0 w ⟨M,C,L,m⟩ bt W M C L m c 0→Calls prog 31 #[aR M,ag (f+6)] W fun e w'=>e=.returned (ag a)∧w'=W:=fun W h=>ha▸iZ h.hm _
  clear ha
  have MU:=ah hg;clear hg
  go_enter func46,ntmps46
  exact DX
 |revert gu;intro gu
  have hmk:=Tryz.nV M
  refine sI ?_;intro LV
  have ghy:∀W,aD W ⟨M,C,L,m⟩ c→Calls prog 31 #[aR M,ag (f+3)] W fun e w'=>e=.returned (ag 0)∧w'=W:=fun W h=>hy▸iZ h _
  have aal:∀W,aD W ⟨M,C,L,m⟩ c→Calls prog 31 #[aR M,ag (f+7)] W fun e w'=>e=.returned (ag s)∧w'=W:=fun W h=>Nk▸iZ h _
  have Hx:=ah hx
  clear hx hy Nk
  have Bj:=ah hpl;have Ik:=ah LV;have SV:=ah ghy;have aam:=ah aal;clear hpl LV ghy aal
  go_enter func47,ntmps47
  go_upto_region 0 with(fail)
  refine dn ?_
  go_upto_region 6 with(first|(refine gW ?_;clear hw bZ b_;intro w1 hw bZ b_)|((with_reducible refine(Ik.out _ (hw.hm.below aG)).mono ?_);rintro e w1 ⟨rfl,rfl⟩)|((with_reducible refine(SV.out _ (hw.hm.below aG)).mono ?_);rintro e w1 ⟨rfl,rfl⟩)|((with_reducible refine(aam.out _ (hw.hm.below aG)).mono ?_);rintro e w1 ⟨rfl,rfl⟩)|(refine dz ?_;clear hw bZ b_;intro w1 L1 n1 eD hw bZ b_))
  exact yw
 |revert nL;intro nL
  have hmk:=Tryz.nV M
  have LV:∀W,aD W ⟨M,C,L,m⟩ c→Calls prog 31 #[aR M,ag (f+2)] W fun e w'=>e=.returned (ag vx)∧w'=W:=fun W h=>hx▸iZ h _
  have Hx:=ah hx
  clear hx
  have Bj:=ah hpl;have Ik:=ah LV;clear hpl LV
  go_enter func47,ntmps47
  go_upto_region 0 with(fail)
  refine dn ?_
  go_upto_region 6 with(first|(refine gW ?_;clear hw bZ b_;intro w1 hw bZ b_)|((with_reducible refine(Ik.out _ (hw.hm.below aG)).mono ?_);rintro e w1 ⟨rfl,rfl⟩)|(refine dz ?_;clear hw bZ b_;intro w1 L1 n1 eD hw bZ b_))
  exact yw
 |revert pq;intro pq
  have hmk:=Tryz.nV M
  refine sI ?_;intro LV
  have ghy:∀W,aD W ⟨M,C,L,m⟩ c→Calls prog 31 #[aR M,ag (f+3)] W fun e w'=>e=.returned (ag vy)∧w'=W:=fun W h=>hy▸iZ h _
  have Hx:=ah hx
  clear hx hy
  have Bj:=ah hpl;have Ik:=ah LV;have SV:=ah ghy;clear hpl LV ghy
  go_enter func47,ntmps47
  go_upto_region 0 with(fail)
  refine dn ?_
  go_upto_region 6 with(first|(refine gW ?_;clear hw bZ b_;intro w1 hw bZ b_)|((with_reducible refine(Ik.out _ (hw.hm.below aG)).mono ?_);rintro e w1 ⟨rfl,rfl⟩)|((with_reducible refine(SV.out _ (hw.hm.below aG)).mono ?_);rintro e w1 ⟨rfl,rfl⟩)|(refine dz ?_;clear hw bZ b_;intro w1 L1 n1 eD hw bZ b_))
  exact yw
 |revert QZ;intro QZ
  have hmk:=Tryz.nV M
  refine sI ?_;intro LV
  have ghy:∀W,aD W ⟨M,C,L,m⟩ c→Calls prog 31 #[aR M,ag (f+3)] W fun e w'=>e=.returned (ag 0)∧w'=W:=fun W h=>hy▸iZ h _
  have aal:∀W,aD W ⟨M,C,L,m⟩ c→Calls prog 31 #[aR M,ag (f+7)] W fun e w'=>e=.returned (ag s)∧w'=W:=fun W h=>Nk▸iZ h _
  have Hx:=ah hx
  clear hx hy Nk
  have Bj:=ah hpl;have Ik:=ah LV;have SV:=ah ghy;have aam:=ah aal;clear hpl LV ghy aal
  have Htk:=ah htk
  clear htk
  go_enter func47,ntmps47
  go_upto_region 0 with(fail)
  refine dn ?_
  go_upto_region 6 with(first|(refine gW ?_;clear hw bZ b_;intro w1 hw bZ b_)|((with_reducible refine(Ik.out _ (hw.hm.below aG)).mono ?_);rintro e w1 ⟨rfl,rfl⟩)|((with_reducible refine(SV.out _ (hw.hm.below aG)).mono ?_);rintro e w1 ⟨rfl,rfl⟩)|((with_reducible refine(aam.out _ (hw.hm.below aG)).mono ?_);rintro e w1 ⟨rfl,rfl⟩)|(refine dz ?_;clear hw bZ b_;intro w1 L1 n1 eD hw bZ b_))
  exact yt
 |revert Q0;intro Q0
  have hmk:=Tryz.nV M
  have LV:∀W,aD W ⟨M,C,L,m⟩ c→Calls prog 31 #[aR M,ag (f+2)] W fun e w'=>e=.returned (ag vx)∧w'=W:=fun W h=>hx▸iZ h _
  have Hx:=ah hx
  clear hx
  have Bj:=ah hpl;have Ik:=ah LV;clear hpl LV
  have Htk:=ah htk
  clear htk
  go_enter func47,ntmps47
  go_upto_region 0 with(fail)
  refine dn ?_
  go_upto_region 6 with(first|(refine gW ?_;clear hw bZ b_;intro w1 hw bZ b_)|((with_reducible refine(Ik.out _ (hw.hm.below aG)).mono ?_);rintro e w1 ⟨rfl,rfl⟩)|(refine dz ?_;clear hw bZ b_;intro w1 L1 n1 eD hw bZ b_))
  exact yt
 |revert adq;intro adq
  have hmk:=Tryz.nV M
  refine sI ?_;intro LV
  have ghy:∀W,aD W ⟨M,C,L,m⟩ c→Calls prog 31 #[aR M,ag (f+3)] W fun e w'=>e=.returned (ag vy)∧w'=W:=fun W h=>hy▸iZ h _
  have Hx:=ah hx
  clear hx hy
  have Bj:=ah hpl;have Ik:=ah LV;have SV:=ah ghy;clear hpl LV ghy
  have Htk:=ah htk
  clear htk
  go_enter func47,ntmps47
  go_upto_region 0 with(fail)
  refine dn ?_
  go_upto_region 6 with(first|(refine gW ?_;clear hw bZ b_;intro w1 hw bZ b_)|((with_reducible refine(Ik.out _ (hw.hm.below aG)).mono ?_);rintro e w1 ⟨rfl,rfl⟩)|((with_reducible refine(SV.out _ (hw.hm.below aG)).mono ?_);rintro e w1 ⟨rfl,rfl⟩)|(refine dz ?_;clear hw bZ b_;intro w1 L1 n1 eD hw bZ b_))
  exact yt):P:=h
theorem o7 {P:Prop} (h:P:=by unfold Tv at Bh;rw[h1]at Bh;omega):P:=h
namespace Mc
open Go.RowKit aN fO Qt Ro Bk Ce La Ha In Vm
attribute [local go_sem] Oper.semAt_some
variable {S:Stp} {rm dr inp bs:Value} {ac:Option Addr} {nc bY bt M C m k:Nat} {e0 e1 e2 cK i0 xx yy zz rr:Int} {en qq:Bool} {W0 w0 w:World} {F0:Fp} {L:Option Nat} {c:List Int}
theorem Uq (hw:Wk S ⟨bs,rm,dr,.slice ac nc bY,e0,e1,e2,cK,inp,i0,0,en,xx,yy,zz,rr,qq⟩ W0 w0 F0 bt w M C L m c k) (hr:m<999980500) (hi:0≤i0∧i0≤100) (h other:Int):
  Calls prog 77 #[aR bt,ag h,ag other,.bool false] w fun e w'=>e=.returned (.tuple #[])∧∃L' m',aD w' ⟨M,C,L',m'⟩ (cs c 2 (i0+1))∧Alt [] w ⟨M,C,L,m⟩ w' ⟨M,C,L',m'⟩ 8:=by have hA:=Alt.refl [] w ⟨M,C,L,m⟩;have hm:=hw.hm;have kT:=hw.kT;have bZ:=kT.bV;have b_:=kT.blk.free;have hmk:=Tryz.nV M;clear hw;go_enter func77,ntmps77;go_upto_region 1 with(fail);refine jl ?_;exact r9
theorem J2 (hw:Wk S ⟨bs,rm,dr,.slice ac nc bY,e0,e1,e2,cK,inp,i0,0,en,xx,yy,zz,rr,qq⟩ W0 w0 F0 bt w M C L m c k) (hr:m<999980500) (hi:0≤i0∧i0≤100) (other:Int):
  Calls prog 77 #[aR bt,ag 0,ag other,.bool true] w fun e w'=>e=.returned (.tuple #[])∧∃L' m',aD w' ⟨M,C,L',m'⟩ (if 0≤e0 then cs (QN c e0 i0 other S.fuel) 3 1 else cs c 2 (i0+1))∧Alt [] w ⟨M,C,L,m⟩ w' ⟨M,C,L',m'⟩ 8:=by
 have hA:=Alt.refl [] w ⟨M,C,L,m⟩;have hm:=hw.hm;have kT:=hw.kT;have bZ:=kT.bV;have b_:=kT.blk.free;have hmk:=Tryz.nV M;have hrun:=agM hw ae i0 other;clear hw;by_cases he:0≤e0
 ·rw[if_pos he]at hrun⊢;rw[show(!decide (0≤e0))=false by simpa using he]at hrun;exact DU
 ·rw[if_neg he]at hrun⊢;rw[show(!decide (0≤e0))=true by simpa using he]at hrun;have oL:=ah hrun;have lD:=ah he;clear hrun he;go_enter func77,ntmps77;go_upto_region 5 with(first|(refine rZ ?_;clear kT bZ b_ hA hm;intro w1 L1 n1 eD kT bZ b_ hA hm));refine jl ?_;exact r9
theorem J3 (hw:Wk S ⟨bs,rm,dr,.slice ac nc bY,e0,e1,e2,cK,inp,i0,0,en,xx,yy,zz,rr,qq⟩ W0 w0 F0 bt w M C L m c k) (hr:m<999980500) (hi:0≤i0∧i0≤100) (other:Int):
  Calls prog 77 #[aR bt,ag 2,ag other,.bool true] w fun e w'=>e=.returned (.tuple #[])∧∃L' m',aD w' ⟨M,C,L',m'⟩ (if 0≤e2 then cs (QN c e2 i0 other S.fuel) 3 1 else cs c 2 (i0+1))∧Alt [] w ⟨M,C,L,m⟩ w' ⟨M,C,L',m'⟩ 8:=by
 have hA:=Alt.refl [] w ⟨M,C,L,m⟩;have hm:=hw.hm;have kT:=hw.kT;have bZ:=kT.bV;have b_:=kT.blk.free;have hmk:=Tryz.nV M;have hrun:=agN hw ae i0 other;clear hw;by_cases he:0≤e2
 ·rw[if_pos he]at hrun⊢;rw[show(!decide (0≤e2))=false by simpa using he]at hrun;exact DU
 ·rw[if_neg he]at hrun⊢;rw[show(!decide (0≤e2))=true by simpa using he]at hrun;have oL:=ah hrun;have lD:=ah he;clear hrun he;go_enter func77,ntmps77;go_upto_region 5 with(first|(refine rZ ?_;clear kT bZ b_ hA hm;intro w1 L1 n1 eD kT bZ b_ hA hm));refine jl ?_;exact r9
theorem Us {ab:Option Addr} {nb a_:Nat} {j0:Int} {c':List Int} (hw:Wk S ⟨.slice ab nb a_,rm,dr,.slice ac nc bY,e0,e1,e2,cK,inp,i0,j0,false,0,0,0,0,false⟩ W0 w0 F0 bt w M C L m c k) (hj:(j0==0)=false) (hr:m<999980500) (hi:0≤i0∧i0≤100) (h other:Int) (cause:Bool)
  {x y z r:Int} {q:Bool} (hstep:∀W,aJ w W→Calls prog 109 #[iW M,dR S (.slice ab nb a_) rm dr,qQ (.slice ac nc bY) e0 e1 e2] W fun e w'=>e=.returned (.tuple #[.bool en,jB x y z r,.bool q])∧∃L' m',aD w' ⟨M,C,L',m'⟩ c'∧Alt [] W ⟨M,C,L,m⟩ w' ⟨M,C,L',m'⟩ 8):
  Calls prog 77 #[aR bt,ag h,ag other,.bool cause] w fun e w'=>e=.returned (.tuple #[])∧∃L' m',aD w' ⟨M,C,L',m'⟩ (if en then cs (cs c' 3 0) 2 (i0+1)else c')∧Kb w' ⟨M,C,L',m'⟩ bt (zi M S ⟨.slice ab nb a_,rm,dr,.slice ac nc bY,e0,e1,e2,cK,inp,i0,j0,false,x,y,z,r,q⟩)∧Alt [bt] w ⟨M,C,L,m⟩ w' ⟨M,C,L',m'⟩ 12:=by
 have hrun:=J4 hw hj h i0 other hstep;have kT:=hw.kT;have bZ:=kT.bV;have b_:=kT.blk.free;have hmk:=Tryz.nV M;have hjn:(j0 !=0)=true:=by simp[bne,hj]
 clear hw hstep;cases en with
 |false=>simp only[Bool.false_eq_true,if_false];have oL:=ah hrun;clear hrun;go_enter func77,ntmps77;go_wp2_with (first|((with_reducible refine(oL.out).mono ?_);rintro e w1 ⟨rfl,L1,n1,hm,k1,hA⟩;replace kT:=k1;replace bZ:=kT.bV;replace b_:=kT.blk.free;clear k1));go_end0;exact⟨rfl,_,_,hm,kT,hA.mono ae⟩
 |true=>simp only[if_true];have oL:=ah hrun;clear hrun;go_enter func77,ntmps77;go_upto_region 5 with(first|(refine mY ?_;clear kT bZ b_ hA hm;intro w1 L1 n1 eD kT bZ b_ hA hm)|((with_reducible refine(oL.out).mono ?_);rintro e w1 ⟨rfl,L1,n1,hm,k1,hB⟩;have Il:=hB.n;simp only at Il;replace kT:=k1;replace bZ:=kT.bV;replace b_:=kT.blk.free;have HB:=ah hB;clear k1 hB;have hA:=Alt.refl [] w1 ⟨M,C,L1,n1⟩));refine jl ?_;go_wp2_with (first|(refine mY ?_;clear kT bZ b_ hA hm;intro w1 L1 n1 eD kT bZ b_ hA hm));go_end0;exact⟨rfl,_,_,hm,kT,(HB.out.trans (hA.list av)).mono ae⟩
variable {rm dr inp code bs:Value} {e0 e1 e2 cK j0 i0 a:Int} {W0 w:World} {bt M C m a_ ab i nc bY:Nat} {c c':List Int} {T':IQ}
theorem Ow (hS:mf S) (hw:Wk S ⟨aZ ab S.bodies.length a_,rm,dr,code,e0,e1,e2,cK,inp,i,j0,false,0,0,0,0,false⟩ W0 w ⟨M,C,L,m⟩ bt w M C L m c 0) (hi:i<S.ak) (ha:cg c (48+4*(i:Int)+2)=a)
  (hturn:∀W,Wk S ⟨aZ ab S.bodies.length a_,rm,dr,code,e0,e1,e2,cK,inp,i,j0,false,0,0,0,0,false⟩ W0 w ⟨M,C,L,m⟩ bt W M C L m c 0→Calls prog 77 #[aR bt,ag 0,ag a,.bool (a !=0)] W fun e w'=>e=.returned (.tuple #[])∧∃L' m',aD w' ⟨M,C,L',m'⟩ c'∧Kb w' ⟨M,C,L',m'⟩ bt (zi M S T')∧Alt [bt] W ⟨M,C,L,m⟩ w' ⟨M,C,L',m'⟩ 12):
  Calls prog 41 #[aR bt] w fun e w'=>e=.returned (.tuple #[])∧∃L' m',aD w' ⟨M,C,L',m'⟩ c'∧Kb w' ⟨M,C,L',m'⟩ bt (zi M S T')∧Alt [bt] w ⟨M,C,L,m⟩ w' ⟨M,C,L',m'⟩ 12:=by
 obtain⟨P1,P8,Pn,n24⟩:=And.intro hS.P1 (And.intro hS.P8 (And.intro hS.Pn hS.n24));refine DW ?_;intro hpl;rw[show WZ S.ak i=48+4*i by unfold WZ;rw[if_pos ae]]at hpl;obtain⟨f,hf⟩:∃f:Int,f=48+4*(i:Int):=⟨_,rfl⟩
 have hf0:0≤f:=ae;have eu:f≤1000:=ae;rw[←hf]at hpl ha;clear hf hi hS;generalize S.bodies.length=nb at*;have bZ:=hw.kT.bV;have b_:=hw.kT.blk.free;have Bj:=ah hpl;have ZB:=ah hturn;clear hpl hturn;have Ha:=ah ha;have hg:∀W,Wk S ⟨aZ ab nb a_,rm,dr,code,e0,e1,e2,cK,inp,i,j0,false,0,0,0,0,false⟩ W0 w ⟨M,C,L,m⟩ bt W M C L m c 0→Calls prog 31 #[aR M,ag (f+2)] W fun e w'=>e=.returned (ag a)∧w'=W:=fun W h=>ha▸iZ h.hm _;clear ha;have MU:=ah hg;clear hg;go_enter func41,ntmps41;exact DX
theorem Zz (hS:mf S) (hw:Wk S ⟨aZ ab S.bodies.length a_,rm,dr,code,e0,e1,e2,cK,inp,i,j0,false,0,0,0,0,false⟩ W0 w ⟨M,C,L,m⟩ bt w M C L m c 0) (hi:i=S.ak) (hr:m<999980000):
  Calls prog 41 #[aR bt] w fun e w'=>e=.returned (.tuple #[])∧∃L' m',aD w' ⟨M,C,L',m'⟩ (AL c 2 0)∧Alt [] w ⟨M,C,L,m⟩ w' ⟨M,C,L',m'⟩ 3:=by obtain⟨P1,P8,Pn,n24⟩:=And.intro hS.P1 (And.intro hS.P8 (And.intro hS.Pn hS.n24));refine DW ?_;intro hpl;rw[show WZ S.ak i= -1 by unfold WZ;rw[if_neg ae]]at hpl;clear hi hS;generalize S.bodies.length=nb at*;have bZ:=hw.kT.bV;have b_:=hw.kT.blk.free;have Bj:=ah hpl;clear hpl;go_enter func41,ntmps41;go_upto_region 0 with(fail);refine dn ?_;go_wp2_with (first|(refine gW ?_;clear hw bZ b_;intro w1 hw bZ b_)|(refine mX ?_;clear hw bZ b_;intro w1 L1 n1 eD hw bZ b_));exact rX
theorem Oy (hS:mf S) (hw:Wk S ⟨aZ ab S.bodies.length a_,rm,dr,code,e0,e1,e2,cK,inp,i,j0,false,0,0,0,0,false⟩ W0 w ⟨M,C,L,m⟩ bt w M C L m c 0) (hi:i<S.bodies.length) (ha:cg c (48+4*(S.ak:Int)+8*(i:Int)+6)=a)
  (hturn:∀W,Wk S ⟨aZ ab S.bodies.length a_,rm,dr,code,e0,e1,e2,cK,inp,i,j0,false,0,0,0,0,false⟩ W0 w ⟨M,C,L,m⟩ bt W M C L m c 0→Calls prog 77 #[aR bt,ag 2,ag (wrap64 (a-1)),.bool (a !=0)] W fun e w'=>e=.returned (.tuple #[])∧∃L' m',aD w' ⟨M,C,L',m'⟩ c'∧Kb w' ⟨M,C,L',m'⟩ bt (zi M S T')∧Alt [bt] W ⟨M,C,L,m⟩ w' ⟨M,C,L',m'⟩ 12):
  Calls prog 46 #[aR bt] w fun e w'=>e=.returned (.tuple #[])∧∃L' m',aD w' ⟨M,C,L',m'⟩ c'∧Kb w' ⟨M,C,L',m'⟩ bt (zi M S T')∧Alt [bt] w ⟨M,C,L,m⟩ w' ⟨M,C,L',m'⟩ 12:=by have bP:=trivial;exact j6
theorem ZA (hS:mf S) (hw:Wk S ⟨aZ ab S.bodies.length a_,rm,dr,code,e0,e1,e2,cK,inp,i,j0,false,0,0,0,0,false⟩ W0 w ⟨M,C,L,m⟩ bt w M C L m c 0) (hi:i=S.bodies.length) (hr:m<999980000):
  Calls prog 46 #[aR bt] w fun e w'=>e=.returned (.tuple #[])∧∃L' m',aD w' ⟨M,C,L',m'⟩ (AL c 7 0)∧Alt [] w ⟨M,C,L,m⟩ w' ⟨M,C,L',m'⟩ 3:=by obtain⟨P1,P8,Pn,n24⟩:=And.intro hS.P1 (And.intro hS.P8 (And.intro hS.Pn hS.n24));refine DY ?_;intro hpl;rw[show vP S.ak S.bodies.length i= -1 by unfold vP;rw[if_neg ae]]at hpl;clear hi hS;generalize S.bodies.length=nb at*;have bZ:=hw.kT.bV;have b_:=hw.kT.blk.free;have Bj:=ah hpl;clear hpl;go_enter func46,ntmps46;go_upto_region 0 with(fail);refine dn ?_;go_wp2_with (first|(refine gW ?_;clear hw bZ b_;intro w1 hw bZ b_)|(refine mX ?_;clear hw bZ b_;intro w1 L1 n1 eD hw bZ b_));exact rX
theorem Sy (hw:Wk S ⟨bs,rm,dr,.slice ac nc bY,e0,e1,e2,cK,inp,i0,0,false,0,0,0,0,false⟩ W0 w ⟨M,C,L,m⟩ bt w M C L m c 0) (hr:m<999980000) (he:0≤e1):
  Calls prog 42 #[aR bt] w fun e w'=>e=.returned (.tuple #[])∧∃L' m',aD w' ⟨M,C,L',m'⟩ (cs (QN c e1 0 0 S.fuel) 3 1)∧Alt [] w ⟨M,C,L,m⟩ w' ⟨M,C,L',m'⟩ 9:=by have hrun:=ZC hw ae 0 0;rw[if_pos he,show(!decide (0≤e1))=false by simpa using he]at hrun;have hA:=Alt.refl [] w ⟨M,C,L,m⟩;have hm:=hw.hm;have kT:=hw.kT;clear hw;have oL:=ah hrun;have lD:=ah he;clear hrun he;go_enter func42,ntmps42;go_wp2_with (first|(refine rZ ?_;clear kT hA hm;intro w1 L1 n1 eD kT bZ b_ hA hm));go_end0;exact⟨rfl,_,_,hm,hA.mono ae⟩
theorem Wn (hw:Wk S ⟨bs,rm,dr,.slice ac nc bY,e0,e1,e2,cK,inp,i0,0,false,0,0,0,0,false⟩ W0 w ⟨M,C,L,m⟩ bt w M C L m c 0) (hr:m<999980000) (he:¬0≤e1):
  Calls prog 42 #[aR bt] w fun e w'=>e=.returned (.tuple #[])∧∃L' m',aD w' ⟨M,C,L',m'⟩ (AL c 3 0)∧Alt [] w ⟨M,C,L,m⟩ w' ⟨M,C,L',m'⟩ 9:=by have hrun:=ZC hw ae 0 0;rw[if_neg he,show(!decide (0≤e1))=true by simpa using he]at hrun;have hA:=Alt.refl [] w ⟨M,C,L,m⟩;have hm:=hw.hm;have kT:=hw.kT;clear hw;have oL:=ah hrun;have lD:=ah he;clear hrun he;go_enter func42,ntmps42;go_wp2_with (first|(refine rZ ?_;clear kT hA hm;intro w1 L1 n1 eD kT bZ b_ hA hm)|((with_reducible refine(qa (hm.below aG) ae (kT.below aG) _ _).mono ?_);rintro e w1 ⟨rfl,L1,n1,gp,dG⟩;have eD:=dG.n;simp only at eD;replace kT:=(kT.below aG).step dG;replace bZ:=kT.bV;replace b_:=kT.blk.free;replace hA:=(hA.below aG).trans dG;replace hm:=gp;clear gp dG));go_end0;exact⟨rfl,_,_,hm,hA.mono ae⟩
theorem Wo {ab:Option Addr} {nb:Nat} (hw:Wk S ⟨.slice ab nb a_,rm,dr,.slice ac nc bY,e0,e1,e2,cK,inp,i0,j0,false,0,0,0,0,false⟩ W0 w ⟨M,C,L,m⟩ bt w M C L m c 0) (hj:(j0==0)=false) (hr:m<999980000)
  {en:Bool} {x y z r:Int} {q:Bool} (hstep:∀W,aJ w W→Calls prog 109 #[iW M,dR S (.slice ab nb a_) rm dr,qQ (.slice ac nc bY) e0 e1 e2] W fun e w'=>e=.returned (.tuple #[.bool en,jB x y z r,.bool q])∧∃L' m',aD w' ⟨M,C,L',m'⟩ c'∧Alt [] W ⟨M,C,L,m⟩ w' ⟨M,C,L',m'⟩ 8):
  Calls prog 42 #[aR bt] w fun e w'=>e=.returned (.tuple #[])∧∃L' m',aD w' ⟨M,C,L',m'⟩ (if en then AL c' 3 0 else c')∧Kb w' ⟨M,C,L',m'⟩ bt (zi M S ⟨.slice ab nb a_,rm,dr,.slice ac nc bY,e0,e1,e2,cK,inp,i0,j0,false,x,y,z,r,q⟩)∧Alt [bt] w ⟨M,C,L,m⟩ w' ⟨M,C,L',m'⟩ 12:=by
 have oL:=ah (J4 hw hj 1 0 0 hstep);have kT:=hw.kT;clear hw hstep;cases en with
 |false=>simp only[Bool.false_eq_true,if_false];go_enter func42,ntmps42;go_wp2_with (first|((with_reducible refine(oL.out).mono ?_);rintro e w1 ⟨rfl,L1,n1,hm,k1,hA⟩;replace kT:=k1;clear k1));go_end0;exact⟨rfl,_,_,hm,kT,hA.mono ae⟩
 |true=>simp only[if_true];go_enter func42,ntmps42;go_wp2_with (first|((with_reducible refine(oL.out).mono ?_);rintro e w1 ⟨rfl,L1,n1,hm,k1,hB⟩;have Il:=hB.n;simp only at Il;replace kT:=k1;have HB:=ah hB;clear k1 hB;have hA:=Alt.refl [] w1 ⟨M,C,L1,n1⟩)|((with_reducible refine(qa (hm.below aG) ae (kT.below aG) _ _).mono ?_);rintro e w1 ⟨rfl,L1,n1,gp,dG⟩;have eD:=dG.n;simp only at eD;replace kT:=(kT.below aG).step dG;replace bZ:=kT.bV;replace b_:=kT.blk.free;replace hA:=(hA.below aG).trans dG;replace hm:=gp;clear gp dG));go_end0;exact⟨rfl,_,_,hm,kT,(HB.out.trans (hA.list av)).mono ae⟩
variable {w:World}
theorem Alt.up {l:List Nat} {w':World} {F F':Fp} {k:Nat} (h:Alt [] w F w' F' k):Alt l w F w' F' k:=h.list av
theorem Qg.stp {I:List (Int×Int)} {R:List (Int×Int×Int)} {W0:World} {bt:Nat} {T:IQ} {M C:Nat} {L:Option Nat} {m:Nat} (h:Qg S I R W0 bt T w ⟨M,C,L,m⟩ c) (hr:m<999980500) {en:Bool} {x y z r:Int} {q:Bool} {c':List Int}
  {ab:Option Addr} {a_:Nat} {rm dr:Value} {ac:Option Addr} {bY:Nat} {e0 e1 e2:Int} (hcode:T.code=.slice ac I.length bY)
  (H:∀(w:World) (M C:Nat) (L:Option Nat) (m:Nat) (ab:Option Addr) (cap:Nat) (rm dr:Value) (ac:Option Addr) (bY:Nat) (e0 e1 e2:Int),aD w ⟨M,C,L,m⟩ c→m<999998000→Kb w ⟨M,C,L,m⟩ 0 jH→Gf w ac I→
   Calls prog 109 #[iW M,dR S (.slice ab S.bodies.length cap) rm dr,qQ (.slice ac I.length bY) e0 e1 e2] w fun e w'=>e=.returned (.tuple #[.bool en,jB x y z r,.bool q])∧∃L' m',aD w' ⟨M,C,L',m'⟩ c'∧Alt [] w ⟨M,C,L,m⟩ w' ⟨M,C,L',m'⟩ 8):
  ∀W,aJ w W→Calls prog 109 #[iW M,dR S (.slice ab S.bodies.length a_) rm dr,qQ (.slice ac I.length bY) e0 e1 e2] W fun e w'=>e=.returned (.tuple #[.bool en,jB x y z r,.bool q])∧∃L' m',aD w' ⟨M,C,L',m'⟩ c'∧Alt [] W ⟨M,C,L,m⟩ w' ⟨M,C,L',m'⟩ 8:=by intro W hb;obtain⟨ac',vG,e,hc⟩:=(h.hc.below hb).at';rw[hcode]at e;injection e with q1 q2 q3;subst q1 q3;exact H W M C L m ab a_ rm dr ac bY e0 e1 e2 (h.hm.below hb) ae (h.kg.below hb) hc
theorem acO (hS:mf S) (hI:Inv S c) (h1:cg c 1=2) (I:List (Int×Int)) (hIl:I.length≤1000000) (R:List (Int×Int×Int)) (e0 e1 e2 cK:Int):
  ∃x y z r q c',oF S c c' false∧Does 42 S I R e0 e1 e2 cK c c' false x y z r q:=by
 have Bh:=hI.ph;have hl:=oq hS hI;have hj:cg c 3=0∨cg c 3=1:=o7;clear Bh;rcases hj with hj|hj
 ·by_cases he:0≤e1
  ·refine⟨0,0,0,0,false,_,Bi (N:=0) hS hI (.inr h1) (fun h=>absurd h1 h) hj e1 0 0,?_⟩;intro W0 w M C L m bt T h hr t;obtain⟨ac,bY,hc,_⟩:=h.hc;have h':=h;have t':=t;obtain⟨bs,rm,dr,code,a0,a1,a2,v,inp,i,j,en,xx,yy,zz,rr,qq⟩:=T;obtain⟨g0,g1,g2,g3,g4,g5,g6,g7,g8,g9,g10,g11⟩:=t;simp only at g0 g1 g2 g3 g4 g5 g6 g7 g8 g9 g10 g11 hc;rw[hj]at g5;subst g0 g1 g2 g3 g5 g6 g7 g8 g9 g10 g11 hc;refine(Sy h.wk hr he).mono ?_;rintro e w' ⟨rfl,L',m',hm,hA⟩;exact⟨rfl,h'.fin t' hm hA ae⟩
  ·refine⟨0,0,0,0,false,_,Ov hS hI h1 rfl hI.bnd (fun _ _=>rfl) hI.fuel,?_⟩;intro W0 w M C L m bt T h hr t;obtain⟨ac,bY,hc,_⟩:=h.hc;have h':=h;have t':=t;obtain⟨bs,rm,dr,code,a0,a1,a2,v,inp,i,j,en,xx,yy,zz,rr,qq⟩:=T;obtain⟨g0,g1,g2,g3,g4,g5,g6,g7,g8,g9,g10,g11⟩:=t;simp only at g0 g1 g2 g3 g4 g5 g6 g7 g8 g9 g10 g11 hc;rw[hj]at g5;subst g0 g1 g2 g3 g5 g6 g7 g8 g9 g10 g11 hc;refine(Wn h.wk hr he).mono ?_;rintro e w' ⟨rfl,L',m',hm,hA⟩;exact⟨rfl,h'.fin t' hm hA ae⟩
 ·have hf:=hI.fuel;obtain⟨en,x,y,z,r,q,c1,hv,cZ⟩:=Gg S S.bodies.length hS.P8 hS.n24 hI.bnd ae ae I hIl;refine⟨x,y,z,r,q,if en then AL c1 3 0 else c1,?_,?_⟩
  ·cases en with
   |false=>exact Sz (N:=0) hS hI (.inr h1) hj hv
   |true=>exact Ov hS hI h1 hv.len hv.bnd (fun i hi=>hv.kept i (.inl hi)) (Int.le_trans hv.fuel hI.fuel)
  ·intro W0 w M C L m bt T h hr t;obtain⟨ac,bY,hc,_⟩:=h.hc;obtain⟨ab,a_,hbs,_⟩:=h.hS.bodies;have h':=h;have hstep:=h.stp (ab:=some ⟨ab,0,none⟩) (a_:=a_) (rm:=T.rm) (dr:=T.dr) (e0:=e0) (e1:=e1) (e2:=e2) ae hc cZ;obtain⟨bs,rm,dr,code,a0,a1,a2,v,inp,i,j,en',xx,yy,zz,rr,qq⟩:=T;obtain⟨g0,g1,g2,g3,g4,g5,g6,g7,g8,g9,g10,g11⟩:=t;simp only at g0 g1 g2 g3 g4 g5 g6 g7 g8 g9 g10 g11 hc hbs hstep;rw[hj]at g5;subst g0 g1 g2 g3 g5 g6 g7 g8 g9 g10 g11 hc hbs;refine(Wo h.wk rfl hr hstep).mono ?_;rintro e w' ⟨rfl,L',m',hm,kT,hA⟩;exact⟨rfl,L',m',h'.stepT hm hA kT ⟨rfl,rfl,rfl,rfl,rfl⟩,hA.mono ae⟩
theorem agG (hS:mf S) (hI:Inv S c) (h1:cg c 1=1) (I:List (Int×Int)) (hIl:I.length≤1000000) (R:List (Int×Int×Int)) (e0 e1 e2 cK:Int):
  ∃x y z r q c',oF S c c' false∧Does 41 S I R e0 e1 e2 cK c c' false x y z r q:=by
 have hp:vL S (cg c 1) S.ak:=.inl ⟨h1,rfl⟩;have Uy:=Ho hI hp;obtain⟨P1,P8,Pn,n24⟩:=And.intro hS.P1 (And.intro hS.P8 (And.intro hS.Pn hS.n24));obtain⟨k,hk⟩:∃k:Nat,cg c 2=k:=⟨(cg c 2).toNat,ae⟩
 obtain⟨a,ha⟩:∃a,cg c (48+4*(k:Int)+2)=a:=⟨_,rfl⟩
 rcases Nat.lt_or_ge k S.ak with hlt|hge
 ·have hi:cg c 2<S.ak:=ae;rcases Uy.2.2 with hj|⟨hj,hj2⟩
  ·have iC:∀{c':List Int},oF S c c' false→(∀{rm dr inp:Value} {ab a_:Nat} {ac:Option Addr} {bY:Nat} {W0 w W:World} {M C:Nat} {L:Option Nat} {m bt:Nat},Wk S ⟨aZ ab S.bodies.length a_,rm,dr,.slice ac I.length bY,e0,e1,e2,cK,inp,k,0,false,0,0,0,0,false⟩ W0 w ⟨M,C,L,m⟩ bt W M C L m c 0→m<999980500→
     Calls prog 77 #[aR bt,ag 0,ag a,.bool (a !=0)] W fun e w'=>e=.returned (.tuple #[])∧∃L' m',aD w' ⟨M,C,L',m'⟩ c'∧Alt [] W ⟨M,C,L,m⟩ w' ⟨M,C,L',m'⟩ 8)→
     ∃x y z r q c',oF S c c' false∧Does 41 S I R e0 e1 e2 cK c c' false x y z r q:=by
    intro c' htr hturn
    refine⟨0,0,0,0,false,c',htr,?_⟩
    intro W0 w M C L m bt T h hr t
    obtain⟨ac,bY,hc,_⟩:=h.hc
    obtain⟨ab,a_,hbs,_⟩:=h.hS.bodies
    have h':=h
    obtain⟨bs,rm,dr,code,a0,a1,a2,v,inp,i,j,en',xx,yy,zz,rr,qq⟩:=T
    obtain⟨g0,g1,g2,g3,g4,g5,g6,g7,g8,g9,g10,g11⟩:=t
    simp only at g0 g1 g2 g3 g4 g5 g6 g7 g8 g9 g10 g11 hc hbs
    rw[hj]at g5
    rw[hk]at g4
    subst g0 g1 g2 g3 g4 g5 g6 g7 g8 g9 g10 g11 hc hbs
    have H0:=ah h.wk
    refine(Ow (c':=c') (T':=⟨aZ ab S.bodies.length a_,rm,dr,.slice ac I.length bY,a0,a1,a2,v,inp,k,0,false,0,0,0,0,false⟩) hS h.wk hlt ha fun W hW=>(hturn hW ae).mono ?_).mono ?_
    ·rintro e w' ⟨rfl,L',m',hm,hA⟩
     exact⟨rfl,L',m',hm,hW.kT.step hA,(Alt.up hA).mono ae⟩
    ·rintro e w' ⟨rfl,L',m',hm,kT,hA⟩
     exact⟨rfl,L',m',h'.stepT hm hA kT ⟨rfl,rfl,rfl,rfl,rfl⟩,hA.mono ae⟩
   by_cases h0:a=0
   ·refine iC (Aw hS hI hp hi hj) ?_;intro rm dr inp ab a_ ac bY W0 w W M C L m bt hw hr;rw[show(a !=0)=false by simp[h0],hk];exact Uq hw hr ae _ _
   ·by_cases he:0≤e0
    ·refine iC (Bi hS hI (.inl hp) (fun _=>hi) hj e0 k a) ?_;intro rm dr inp ab a_ ac bY W0 w W M C L m bt hw hr;rw[show(a !=0)=true by simp[h0]];have:=J2 hw hr ae a;rw[if_pos he]at this;exact this
    ·refine iC (Aw hS hI hp hi hj) ?_;intro rm dr inp ab a_ ac bY W0 w W M C L m bt hw hr;rw[show(a !=0)=true by simp[h0],hk];have:=J2 hw hr ae a;rw[if_neg he]at this;exact this
  ·have hf:=hI.fuel;have hl:=oq hS hI;obtain⟨en,x,y,z,r,q,c1,hv,cZ⟩:=Gg S S.bodies.length hS.P8 hS.n24 hI.bnd ae ae I hIl;refine⟨x,y,z,r,q,if en then cs (cs c1 3 0) 2 (cg c 2+1)else c1,?_,?_⟩
   ·cases en with
    |false=>exact Sz hS hI (.inl hp) hj hv
    |true=>exact Ur hS hI hp hi hj hv
   ·intro W0 w M C L m bt T h hr t;obtain⟨ac,bY,hc,_⟩:=h.hc;obtain⟨ab,a_,hbs,_⟩:=h.hS.bodies;have h':=h;obtain⟨bs,rm,dr,code,a0,a1,a2,v,inp,i,j,en',xx,yy,zz,rr,qq⟩:=T;obtain⟨g0,g1,g2,g3,g4,g5,g6,g7,g8,g9,g10,g11⟩:=t;simp only at g0 g1 g2 g3 g4 g5 g6 g7 g8 g9 g10 g11 hc hbs;rw[hj]at g5;rw[hk]at g4;subst g0 g1 g2 g3 g4 g5 g6 g7 g8 g9 g10 g11 hc hbs;rw[hk];refine(Ow (T':=⟨aZ ab S.bodies.length a_,rm,dr,.slice ac I.length bY,a0,a1,a2,v,inp,k,1,false,x,y,z,r,q⟩) hS h.wk hlt ha fun W hW=>Us hW rfl ae ae _ _ _ fun W2 hb=>(h'.step hW.hm hW.hA).stp ae rfl cZ W2 hb).mono ?_
    ·rintro e w' ⟨rfl,L',m',hm,kT,hA⟩;exact⟨rfl,L',m',h'.stepT hm hA kT ⟨rfl,rfl,rfl,rfl,rfl⟩,hA.mono ae⟩
 ·have hge':k=S.ak:=ae;refine⟨0,0,0,0,false,AL c 2 0,?_,?_⟩
  ·have:=Ox hS hI hp ae;rw[h1]at this;exact this
  ·intro W0 w M C L m bt T h hr t;obtain⟨ac,bY,hc,_⟩:=h.hc;obtain⟨ab,a_,hbs,_⟩:=h.hS.bodies;have h':=h;have t':=t;obtain⟨bs,rm,dr,code,a0,a1,a2,v,inp,i,j,en',xx,yy,zz,rr,qq⟩:=T;obtain⟨g0,g1,g2,g3,g4,g5,g6,g7,g8,g9,g10,g11⟩:=t;simp only at g0 g1 g2 g3 g4 g5 g6 g7 g8 g9 g10 g11 hc hbs;rw[hk]at g4;subst g0 g1 g2 g3 g4 g6 g7 g8 g9 g10 g11 hc hbs;refine(Zz hS h.wk hge' hr).mono ?_;rintro e w' ⟨rfl,L',m',hm,hA⟩;exact⟨rfl,h'.fin t' hm hA ae⟩
theorem agH (hS:mf S) (hI:Inv S c) (h1:cg c 1=6) (I:List (Int×Int)) (hIl:I.length≤1000000) (R:List (Int×Int×Int)) (e0 e1 e2 cK:Int):
  ∃x y z r q c',oF S c c' false∧Does 46 S I R e0 e1 e2 cK c c' false x y z r q:=by
 have hp:vL S (cg c 1) S.bodies.length:=.inr ⟨h1,rfl⟩;have Uy:=Ho hI hp;obtain⟨P1,P8,Pn,n24⟩:=And.intro hS.P1 (And.intro hS.P8 (And.intro hS.Pn hS.n24));obtain⟨k,hk⟩:∃k:Nat,cg c 2=k:=⟨(cg c 2).toNat,ae⟩
 obtain⟨a,ha⟩:∃a,cg c (48+4*(S.ak:Int)+8*(k:Int)+6)=a:=⟨_,rfl⟩
 rcases Nat.lt_or_ge k S.bodies.length with hlt|hge
 ·have hi:cg c 2<S.bodies.length:=ae;rcases Uy.2.2 with hj|⟨hj,hj2⟩
  ·have iC:∀{c':List Int},oF S c c' false→(∀{rm dr inp:Value} {ab a_:Nat} {ac:Option Addr} {bY:Nat} {W0 w W:World} {M C:Nat} {L:Option Nat} {m bt:Nat},Wk S ⟨aZ ab S.bodies.length a_,rm,dr,.slice ac I.length bY,e0,e1,e2,cK,inp,k,0,false,0,0,0,0,false⟩ W0 w ⟨M,C,L,m⟩ bt W M C L m c 0→m<999980500→
     Calls prog 77 #[aR bt,ag 2,ag (wrap64 (a-1)),.bool (a !=0)] W fun e w'=>e=.returned (.tuple #[])∧∃L' m',aD w' ⟨M,C,L',m'⟩ c'∧Alt [] W ⟨M,C,L,m⟩ w' ⟨M,C,L',m'⟩ 8)→
     ∃x y z r q c',oF S c c' false∧Does 46 S I R e0 e1 e2 cK c c' false x y z r q:=by
    intro c' htr hturn
    refine⟨0,0,0,0,false,c',htr,?_⟩
    intro W0 w M C L m bt T h hr t
    obtain⟨ac,bY,hc,_⟩:=h.hc
    obtain⟨ab,a_,hbs,_⟩:=h.hS.bodies
    have h':=h
    obtain⟨bs,rm,dr,code,a0,a1,a2,v,inp,i,j,en',xx,yy,zz,rr,qq⟩:=T
    obtain⟨g0,g1,g2,g3,g4,g5,g6,g7,g8,g9,g10,g11⟩:=t
    simp only at g0 g1 g2 g3 g4 g5 g6 g7 g8 g9 g10 g11 hc hbs
    rw[hj]at g5
    rw[hk]at g4
    subst g0 g1 g2 g3 g4 g5 g6 g7 g8 g9 g10 g11 hc hbs
    have H0:=ah h.wk
    refine(Oy (c':=c') (T':=⟨aZ ab S.bodies.length a_,rm,dr,.slice ac I.length bY,a0,a1,a2,v,inp,k,0,false,0,0,0,0,false⟩) hS h.wk hlt ha fun W hW=>(hturn hW ae).mono ?_).mono ?_
    ·rintro e w' ⟨rfl,L',m',hm,hA⟩
     exact⟨rfl,L',m',hm,hW.kT.step hA,(Alt.up hA).mono ae⟩
    ·rintro e w' ⟨rfl,L',m',hm,kT,hA⟩
     exact⟨rfl,L',m',h'.stepT hm hA kT ⟨rfl,rfl,rfl,rfl,rfl⟩,hA.mono ae⟩
   by_cases h0:a=0
   ·refine iC (Aw hS hI hp hi hj) ?_;intro rm dr inp ab a_ ac bY W0 w W M C L m bt hw hr;rw[show(a !=0)=false by simp[h0],hk];exact Uq hw hr ae _ _
   ·by_cases he:0≤e2
    ·refine iC (Bi hS hI (.inl hp) (fun _=>hi) hj e2 k (wrap64 (a-1))) ?_;intro rm dr inp ab a_ ac bY W0 w W M C L m bt hw hr;rw[show(a !=0)=true by simp[h0]];have:=J3 hw hr ae (wrap64 (a-1));rw[if_pos he]at this;exact this
    ·refine iC (Aw hS hI hp hi hj) ?_;intro rm dr inp ab a_ ac bY W0 w W M C L m bt hw hr;rw[show(a !=0)=true by simp[h0],hk];have:=J3 hw hr ae (wrap64 (a-1));rw[if_neg he]at this;exact this
  ·have hf:=hI.fuel;have hl:=oq hS hI;obtain⟨en,x,y,z,r,q,c1,hv,cZ⟩:=Gg S S.bodies.length hS.P8 hS.n24 hI.bnd ae ae I hIl;refine⟨x,y,z,r,q,if en then cs (cs c1 3 0) 2 (cg c 2+1)else c1,?_,?_⟩
   ·cases en with
    |false=>exact Sz hS hI (.inl hp) hj hv
    |true=>exact Ur hS hI hp hi hj hv
   ·intro W0 w M C L m bt T h hr t;obtain⟨ac,bY,hc,_⟩:=h.hc;obtain⟨ab,a_,hbs,_⟩:=h.hS.bodies;have h':=h;obtain⟨bs,rm,dr,code,a0,a1,a2,v,inp,i,j,en',xx,yy,zz,rr,qq⟩:=T;obtain⟨g0,g1,g2,g3,g4,g5,g6,g7,g8,g9,g10,g11⟩:=t;simp only at g0 g1 g2 g3 g4 g5 g6 g7 g8 g9 g10 g11 hc hbs;rw[hj]at g5;rw[hk]at g4;subst g0 g1 g2 g3 g4 g5 g6 g7 g8 g9 g10 g11 hc hbs;rw[hk];refine(Oy (T':=⟨aZ ab S.bodies.length a_,rm,dr,.slice ac I.length bY,a0,a1,a2,v,inp,k,1,false,x,y,z,r,q⟩) hS h.wk hlt ha fun W hW=>Us hW rfl ae ae _ _ _ fun W2 hb=>(h'.step hW.hm hW.hA).stp ae rfl cZ W2 hb).mono ?_
    ·rintro e w' ⟨rfl,L',m',hm,kT,hA⟩;exact⟨rfl,L',m',h'.stepT hm hA kT ⟨rfl,rfl,rfl,rfl,rfl⟩,hA.mono ae⟩
 ·have hge':k=S.bodies.length:=ae;refine⟨0,0,0,0,false,AL c 7 0,?_,?_⟩
  ·have:=Ox hS hI hp ae;rw[h1]at this;exact this
  ·intro W0 w M C L m bt T h hr t;obtain⟨ac,bY,hc,_⟩:=h.hc;obtain⟨ab,a_,hbs,_⟩:=h.hS.bodies;have h':=h;have t':=t;obtain⟨bs,rm,dr,code,a0,a1,a2,v,inp,i,j,en',xx,yy,zz,rr,qq⟩:=T;obtain⟨g0,g1,g2,g3,g4,g5,g6,g7,g8,g9,g10,g11⟩:=t;simp only at g0 g1 g2 g3 g4 g5 g6 g7 g8 g9 g10 g11 hc hbs;rw[hk]at g4;subst g0 g1 g2 g3 g4 g6 g7 g8 g9 g10 g11 hc hbs;refine(ZA hS h.wk hge' hr).mono ?_;rintro e w' ⟨rfl,L',m',hm,hA⟩;exact⟨rfl,h'.fin t' hm hA ae⟩
end Mc
namespace Ga
open Go.RowKit aN fO Qt Ro Bk Ce La Ha In Vm Mc
attribute [local go_sem] Oper.semAt_some
def Og (S:Stp) (bs rm dr bk:Value) (M:Nat):List Value:=[ag S.ak,bs,ag S.x0,ag S.y0,ag S.x1,ag S.y1,rm,dr,ag S.ou,ag S.gx,ag S.gy,ag S.push,ag S.eO,ag S.rest,ag S.rounds,ag S.fuel,bk,aR M]
section
variable {w:World} {M C:Nat} {L:Option Nat} {m:Nat} {c:List Int} {bG:Nat} {S:Stp} {bs rm dr bk:Value}
theorem Ke (hm:aD w ⟨M,C,L,m⟩ c) (kG:aV w bG (Og S bs rm dr bk M)):
  Calls prog 18 #[aR bG] w fun e w'=>e=.returned (ag (cg c 0))∧w'=w:=by have ckG:=kG.cell;unfold Og at ckG;have MU:=ah (iZ hm 0);go_enter func18,ntmps18;go_wp2_with (first|((with_reducible refine MU.out.mono ?_);rintro e w1 ⟨rfl,rfl⟩));go_ret;exact⟨rfl,rfl⟩
theorem uq (kG:aV w bG (Og S bs rm dr bk M)):
  Calls prog 10 #[aR bG] w fun e w'=>e=.returned (aR M)∧w'=w:=by have ckG:=kG.cell;unfold Og at ckG;go_enter func10,ntmps10;go_wp2;go_ret;exact⟨rfl,rfl⟩
theorem UB (hm:aD w ⟨M,C,L,m⟩ c) (h2:2≤c.length) (h3:c.length≤1000) (kG:aV w bG (Og S bs rm dr bk M)):
  Calls prog 11 #[aR bG] w fun e w'=>e=.returned (.int .u64 (Me.Ka c))∧aJ w w':=by have ckG:=kG.cell;unfold Og at ckG;have uO:=ah (mo hm);have U5:=ah fun(b:Nat) (V:World) (h:Row .i64 V b c)=>Me.tN (cap:=c.length) h h2 h3;generalize Me.Ka c=r at*;go_enter func11,ntmps11;go_wp2_with (first|((with_reducible refine uO.out.mono ?_);rintro e w1 ⟨b,rfl,hrow,hb,aO⟩;have hrr:=U5.out b w1 hrow;have Hrr:=ah hrr;clear hrow hrr)|((with_reducible refine Hrr.out.mono ?_);rintro e w2 ⟨rfl,dW⟩));go_ret;exact⟨rfl,aO.trans (dW.mono aO.size)⟩
theorem tV (hm:aD w ⟨M,C,L,m⟩ c) (kG:aV w bG (Og S bs rm dr bk M)) {inp:Value} {R:List (Int×Int×Int)} (hin:ZE w inp R) (hR:R.length=S.ak) (hP:S.ak≤8) (hRv:∀x∈R,-1≤x.1∧x.1≤1∧-1≤x.2.1∧x.2.1≤1∧0≤x.2.2∧x.2.2≤3) (ht:cg c 0<6000):
  Calls prog 32 #[aR bG,inp] w fun e w'=>e=.returned (ag 0)∧aJ w w':=by
 obtain⟨b,cap,rfl,hrow⟩:=hin;have Hhn:=ah fun(V:World) (hV:aJ w V)=>Ke (hm.below hV) (kG.later hV);have ckG:=kG.cell;unfold Og at ckG;rw[hR];have hrow':∀k,k<S.ak→∃x0 x1 x2:Int,(∀V,aJ w V→V.cell? ⟨b,k*3,none⟩=some (ag x0)∧V.cell? ⟨b,k*3+1,none⟩=some (ag x1)∧V.cell? ⟨b,k*3+2,none⟩=some (ag x2))∧-1≤x0∧x0≤1∧-1≤x1∧x1≤1∧0≤x2∧x2≤3:=by
  intro k hk;obtain⟨x,hx⟩:∃x,R[k]?=some x:=⟨_,ik ae⟩
  obtain⟨c0,c1,c2⟩:=hrow k x hx;have:=hRv x (qo hx);exact⟨x.1,x.2.1,x.2.2,fun V hV=>⟨ai hV c0,ai hV c1,ai hV c2⟩,ae,ae,ae,ae,ae,ae⟩
 clear hrow hRv hm hR;generalize cg c 0=tk at*;have nP:aJ w w:=aK _ _;clear kG;generalize S.ak=n at*;have ahc:=ah hrow';clear hrow';go_enter func32,ntmps32;go_wp2;go_loopw [17] (fun i wr=>∃k:Nat,k≤n∧i=ag k∧aJ w wr) (fun i _=>n-(intOf i).toNat);case atStart=>exact⟨0,ae,rfl,nP⟩
 case round=>
  obtain⟨k,hk,rfl,hbr⟩:=hrel;by_cases hlt:k<n
  ·have pg:(k:Int)<(n:Int):=ae;obtain⟨x0,x1,x2,hx,b0,b1,b2,b3,b4,b5⟩:=ahc.out k hlt;obtain⟨c0,c1,c2⟩:=hx wr hbr;have hbs:b<wr.heap.size:=by have:=aU _ _ c0;simpa using this
   clear hx;go_upto_region 6 with(fail);refine aP fun W hW=>?_;have k6:aV W wr.heap.size [ag x0,ag x1,ag x2]:=dm;have hbW:aJ w W:=by rw[hW];exact hbr.alloc hbr.size _
   clear hW;have ck6:=k6.cell;go_wp2;exact⟨⟨k+1,ae,av,hbW⟩,by simp[intOf];omega⟩
  ·obtain rfl:k=n:=ae;have pg:¬((k:Int)<(k:Int)):=ae;go_wp2_with (first|((with_reducible refine(Hhn.out _ hbr).mono ?_);rintro e w1 ⟨rfl,rfl⟩));go_ret;exact⟨rfl,hbr⟩
end
end Ga
namespace Mc
open Go.RowKit aN fO Qt Ro Bk Ce La Ha In Vm
attribute [local go_sem] Oper.semAt_some
variable {S:Stp} {rm dr inp code:Value} {ab a_ bt M C m i:Nat} {e0 e1 e2 cK j0 tk s vx vy:Int} {W0 w:World} {L:Option Nat} {c:List Int}
def Z_ (c:List Int):Nat→List Int
 |0=>c
 |k+1=>cs (Z_ c k) ((k:Int)+1) 0
theorem adk (hS:mf S) (hw:Wk S ⟨aZ ab S.bodies.length a_,rm,dr,code,e0,e1,e2,cK,inp,i,j0,false,0,0,0,0,false⟩ W0 w ⟨M,C,L,m⟩ bt w M C L m c 0) (hi:i<S.bodies.length) (him:i+1<S.bodies.length) (hr:m<999980000) (hbt:W0.heap.size≤bt) (hx:cg c (48+4*(S.ak:Int)+8*(i:Int)+2)=0) (hy:cg c (48+4*(S.ak:Int)+8*(i:Int)+3)=0) (Nk:cg c (48+4*(S.ak:Int)+8*(i:Int)+7)=s):
  Calls prog 47 #[aR bt] w fun e w'=>e=.returned (.tuple #[])∧∃L' m',aD w' ⟨M,C,L',m'⟩ (cs (cs c (48+4*(S.ak:Int)+8*(i:Int)+7) (min (wrap64 (s+1)) 1000)) 2 (i+1))∧Kb w' ⟨M,C,L',m'⟩ bt (zi M S ⟨aZ ab S.bodies.length a_,rm,dr,code,e0,e1,e2,cK,inp,i,j0,false,0,0,0,0,false⟩)∧Alt [bt] w ⟨M,C,L,m⟩ w' ⟨M,C,L',m'⟩ 14:=by have gu:=trivial;exact j6
theorem adm (hS:mf S) (hw:Wk S ⟨aZ ab S.bodies.length a_,rm,dr,code,e0,e1,e2,cK,inp,i,j0,false,0,0,0,0,false⟩ W0 w ⟨M,C,L,m⟩ bt w M C L m c 0) (hi:i<S.bodies.length) (him:i+1<S.bodies.length) (hr:m<999980000) (hbt:W0.heap.size≤bt) (hx:cg c (48+4*(S.ak:Int)+8*(i:Int)+2)=vx) (UX:(vx==0)=false):
  Calls prog 47 #[aR bt] w fun e w'=>e=.returned (.tuple #[])∧∃L' m',aD w' ⟨M,C,L',m'⟩ (cs (cs c (48+4*(S.ak:Int)+8*(i:Int)+7) 0) 2 (i+1))∧Kb w' ⟨M,C,L',m'⟩ bt (zi M S ⟨aZ ab S.bodies.length a_,rm,dr,code,e0,e1,e2,cK,inp,i,j0,false,0,0,0,0,false⟩)∧Alt [bt] w ⟨M,C,L,m⟩ w' ⟨M,C,L',m'⟩ 14:=by have nL:=trivial;exact j6
theorem adl (hS:mf S) (hw:Wk S ⟨aZ ab S.bodies.length a_,rm,dr,code,e0,e1,e2,cK,inp,i,j0,false,0,0,0,0,false⟩ W0 w ⟨M,C,L,m⟩ bt w M C L m c 0) (hi:i<S.bodies.length) (him:i+1<S.bodies.length) (hr:m<999980000) (hbt:W0.heap.size≤bt) (hx:cg c (48+4*(S.ak:Int)+8*(i:Int)+2)=0) (hy:cg c (48+4*(S.ak:Int)+8*(i:Int)+3)=vy) (hy0:(vy==0)=false):
  Calls prog 47 #[aR bt] w fun e w'=>e=.returned (.tuple #[])∧∃L' m',aD w' ⟨M,C,L',m'⟩ (cs (cs c (48+4*(S.ak:Int)+8*(i:Int)+7) 0) 2 (i+1))∧Kb w' ⟨M,C,L',m'⟩ bt (zi M S ⟨aZ ab S.bodies.length a_,rm,dr,code,e0,e1,e2,cK,inp,i,j0,false,0,0,0,0,false⟩)∧Alt [bt] w ⟨M,C,L,m⟩ w' ⟨M,C,L',m'⟩ 14:=by have pq:=trivial;exact j6
theorem adn (hS:mf S) (hw:Wk S ⟨aZ ab S.bodies.length a_,rm,dr,code,e0,e1,e2,cK,inp,i,j0,false,0,0,0,0,false⟩ W0 w ⟨M,C,L,m⟩ bt w M C L m c 0) (hi:i<S.bodies.length) (him:¬(i+1<S.bodies.length)) (hr:m<999980000) (hbt:W0.heap.size≤bt) (hx:cg c (48+4*(S.ak:Int)+8*(i:Int)+2)=0) (hy:cg c (48+4*(S.ak:Int)+8*(i:Int)+3)=0) (Nk:cg c (48+4*(S.ak:Int)+8*(i:Int)+7)=s) (htk:cg (cs c (48+4*(S.ak:Int)+8*(i:Int)+7) (min (wrap64 (s+1)) 1000)) 0=tk):
  Calls prog 47 #[aR bt] w fun e w'=>e=.returned (.tuple #[])∧∃L' m',aD w' ⟨M,C,L',m'⟩ (Z_ (cs (cs c (48+4*(S.ak:Int)+8*(i:Int)+7) (min (wrap64 (s+1)) 1000)) 0 (wrap64 (tk+1))) 10)∧Kb w' ⟨M,C,L',m'⟩ bt (zi M S ⟨aZ ab S.bodies.length a_,rm,dr,code,e0,e1,e2,cK,inp,i,j0,true,0,0,0,0,false⟩)∧Alt [bt] w ⟨M,C,L,m⟩ w' ⟨M,C,L',m'⟩ 14:=by have QZ:=trivial;exact j6
theorem adp (hS:mf S) (hw:Wk S ⟨aZ ab S.bodies.length a_,rm,dr,code,e0,e1,e2,cK,inp,i,j0,false,0,0,0,0,false⟩ W0 w ⟨M,C,L,m⟩ bt w M C L m c 0) (hi:i<S.bodies.length) (him:¬(i+1<S.bodies.length)) (hr:m<999980000) (hbt:W0.heap.size≤bt) (hx:cg c (48+4*(S.ak:Int)+8*(i:Int)+2)=vx) (UX:(vx==0)=false) (htk:cg (cs c (48+4*(S.ak:Int)+8*(i:Int)+7) 0) 0=tk):
  Calls prog 47 #[aR bt] w fun e w'=>e=.returned (.tuple #[])∧∃L' m',aD w' ⟨M,C,L',m'⟩ (Z_ (cs (cs c (48+4*(S.ak:Int)+8*(i:Int)+7) 0) 0 (wrap64 (tk+1))) 10)∧Kb w' ⟨M,C,L',m'⟩ bt (zi M S ⟨aZ ab S.bodies.length a_,rm,dr,code,e0,e1,e2,cK,inp,i,j0,true,0,0,0,0,false⟩)∧Alt [bt] w ⟨M,C,L,m⟩ w' ⟨M,C,L',m'⟩ 14:=by have Q0:=trivial;exact j6
theorem ado (hS:mf S) (hw:Wk S ⟨aZ ab S.bodies.length a_,rm,dr,code,e0,e1,e2,cK,inp,i,j0,false,0,0,0,0,false⟩ W0 w ⟨M,C,L,m⟩ bt w M C L m c 0) (hi:i<S.bodies.length) (him:¬(i+1<S.bodies.length)) (hr:m<999980000) (hbt:W0.heap.size≤bt) (hx:cg c (48+4*(S.ak:Int)+8*(i:Int)+2)=0) (hy:cg c (48+4*(S.ak:Int)+8*(i:Int)+3)=vy) (hy0:(vy==0)=false) (htk:cg (cs c (48+4*(S.ak:Int)+8*(i:Int)+7) 0) 0=tk):
  Calls prog 47 #[aR bt] w fun e w'=>e=.returned (.tuple #[])∧∃L' m',aD w' ⟨M,C,L',m'⟩ (Z_ (cs (cs c (48+4*(S.ak:Int)+8*(i:Int)+7) 0) 0 (wrap64 (tk+1))) 10)∧Kb w' ⟨M,C,L',m'⟩ bt (zi M S ⟨aZ ab S.bodies.length a_,rm,dr,code,e0,e1,e2,cK,inp,i,j0,true,0,0,0,0,false⟩)∧Alt [bt] w ⟨M,C,L,m⟩ w' ⟨M,C,L',m'⟩ 14:=by have adq:=trivial;exact j6
theorem zC (c:List Int):∀k,(Z_ c k).length=c.length
 |0=>rfl
 |k+1=>by rw[Z_,aT,zC c k]
theorem SH (c:List Int) (h:(48:Int)≤c.length):∀(k:Nat),k≤10→∀j:Int,cg (Z_ c k) j=if 1≤j∧j≤k then 0 else cg c j
 |0,_,j=>by rw[if_neg ae];rfl
 |k+1,hk,j=>by
  have ih:=SH c h k ae j
  rw[Z_,aI,ih,zC]
  by_cases hj:j=(k:Int)+1
  ·rw[if_pos ae,if_pos ae]
  ·rw[if_neg ae]
   by_cases h1:1≤j∧j≤k
   ·rw[if_pos h1,if_pos ae]
   ·rw[if_neg h1,if_neg ae]
theorem Uw {P:Nat} (h:sM P c):∀k:Nat,k≤10→sM P (Z_ c k)
 |0,_=>h
 |k+1,hk=>(Uw h k ae).set ⟨ae,ae,ae,ae⟩
theorem acQ {S:Stp} (hS:mf S) (hI:Inv S c) (h1:cg c 1=7) (htk:0≤cg c 0∧cg c 0≤1000000) (I:List (Int×Int)) (R:List (Int×Int×Int)) (e0 e1 e2 cK:Int):
  ∃en c',oF S c c' en∧Does 47 S I R e0 e1 e2 cK c c' en 0 0 0 0 false:=by
 have Bh:=hI.ph;have Uy:0≤cg c 2∧cg c 2<S.bodies.length:=o7;clear Bh;obtain⟨k,hk⟩:∃k:Nat,cg c 2=k:=⟨(cg c 2).toNat,ae⟩
 have hlt:k<S.bodies.length:=ae;have hln:=hI.len;unfold qE at hln;have hfr:=hI.FW;have V6:=hI.fuel;have n24:=hS.n24;have P8:=hS.P8;have Uo:∀(st:Int) (j:Int),j<48→cg (cs c (48+4*(S.ak:Int)+8*(k:Int)+7) st) j=cg c j:=fun st j hj=>by rw[aI,if_neg ae]
 have V9:∀st:Int,sM S.ak (cs c (48+4*(S.ak:Int)+8*(k:Int)+7) st):=fun st=>hI.bnd.set (Cb.body ae ae ae ae);have hmore:∀st:Int,k+1<S.bodies.length→oF S c (cs (cs c (48+4*(S.ak:Int)+8*(k:Int)+7) st) 2 (k+1)) false:=by
  intro st hm;refine oF.on hI (p:=7) (i:=k+1) (j:=cg c 3) (k:=cg c 4) (f:=cg c 8) (by simp[aT]) ((V9 st).set (Cb.free ae)) ?_ ?_ ?_ ?_ ?_ ?_ ?_ V6 ?_ ?_
  ·rw[aI,if_neg ae,Uo _ _ ae]
  ·rw[aI,if_neg ae,Uo _ _ ae,h1]
  ·rw[aI,if_pos (by rw[aT];omega)]
  ·rw[aI,if_neg ae,Uo _ _ ae]
  ·rw[aI,if_neg ae,Uo _ _ ae]
  ·rw[aI,if_neg ae,Uo _ _ ae];exact hfr
  ·rw[aI,if_neg ae,Uo _ _ ae]
  ·exact .inr (.inr (.inr (.inr (.inr (.inr (.inr ⟨rfl,ae,ae⟩))))))
  ·unfold mu Kr;rw[h1,hk];simp;omega
 have hlast:∀st:Int,oF S c (Z_ (cs (cs c (48+4*(S.ak:Int)+8*(k:Int)+7) st) 0 (wrap64 (cg c 0+1))) 10) true:=by
  intro st;have hw:wrap64 (cg c 0+1)=cg c 0+1:=by unfold wrap64;omega
  have P6:(48:Int)≤(cs (cs c (48+4*(S.ak:Int)+8*(k:Int)+7) st) 0 (wrap64 (cg c 0+1))).length:=by simp only[aT];omega
  refine⟨(fun h=>by cases h),fun _=>⟨⟨?_,Uw ((V9 st).set (Cb.free ae)) 10 ae,fun i h1 h2=>?_⟩,?_⟩⟩
  ·rw[zC,aT,aT,hI.len]
  ·rw[SH _ P6 10 ae,if_pos ae]
  ·rw[SH _ P6 10 ae,if_neg ae,aI,if_pos (by rw[aT];omega),hw]
 have iC:∀{c':List Int} {en:Bool},oF S c c' en→(∀{rm dr inp code:Value} {ab a_:Nat} {W0 w:World} {M C:Nat} {L:Option Nat} {m bt:Nat} {j0:Int},Wk S ⟨aZ ab S.bodies.length a_,rm,dr,code,e0,e1,e2,cK,inp,k,j0,false,0,0,0,0,false⟩ W0 w ⟨M,C,L,m⟩ bt w M C L m c 0→m<999980000→W0.heap.size≤bt→
     Calls prog 47 #[aR bt] w fun e w'=>e=.returned (.tuple #[])∧∃L' m',aD w' ⟨M,C,L',m'⟩ c'∧Kb w' ⟨M,C,L',m'⟩ bt (zi M S ⟨aZ ab S.bodies.length a_,rm,dr,code,e0,e1,e2,cK,inp,k,j0,en,0,0,0,0,false⟩)∧Alt [bt] w ⟨M,C,L,m⟩ w' ⟨M,C,L',m'⟩ 14)→
     ∃en c',oF S c c' en∧Does 47 S I R e0 e1 e2 cK c c' en 0 0 0 0 false:=by
  intro c' en htr hrest
  refine⟨en,c',htr,?_⟩
  intro W0 w M C L m bt T h hr t
  obtain⟨ab,a_,hbs,_⟩:=h.hS.bodies
  have h':=h
  obtain⟨bs,rm,dr,code,a0,a1,a2,v,inp,i,j,en',xx,yy,zz,rr,qq⟩:=T
  obtain⟨g0,g1,g2,g3,g4,g5,g6,g7,g8,g9,g10,g11⟩:=t
  simp only at g0 g1 g2 g3 g4 g5 g6 g7 g8 g9 g10 g11 hbs
  rw[hk]at g4
  subst g0 g1 g2 g3 g4 g6 g7 g8 g9 g10 g11 hbs
  refine(hrest h.wk hr h.hb).mono ?_
  rintro e w' ⟨rfl,L',m',hm,kT,hA⟩
  exact⟨rfl,L',m',h'.stepT hm hA kT ⟨rfl,rfl,rfl,rfl,rfl⟩,hA.mono ae⟩
 by_cases hm:k+1<S.bodies.length
 ·by_cases hx:cg c (48+4*(S.ak:Int)+8*(k:Int)+2)=0
  ·by_cases hy:cg c (48+4*(S.ak:Int)+8*(k:Int)+3)=0
   ·exact iC (hmore _ hm) fun hw hr hb=>adk hS hw hlt hm hr hb hx hy rfl
   ·exact iC (hmore _ hm) fun hw hr hb=>adl hS hw hlt hm hr hb hx rfl (by simpa using hy)
  ·exact iC (hmore _ hm) fun hw hr hb=>adm hS hw hlt hm hr hb rfl (by simpa using hx)
 ·by_cases hx:cg c (48+4*(S.ak:Int)+8*(k:Int)+2)=0
  ·by_cases hy:cg c (48+4*(S.ak:Int)+8*(k:Int)+3)=0
   ·exact iC (hlast _) fun hw hr hb=>adn hS hw hlt hm hr hb hx hy rfl (Uo _ 0 ae)
   ·exact iC (hlast _) fun hw hr hb=>ado hS hw hlt hm hr hb hx rfl (by simpa using hy) (Uo _ 0 ae)
  ·exact iC (hlast _) fun hw hr hb=>adp hS hw hlt hm hr hb rfl (by simpa using hx) (Uo _ 0 ae)
end Mc
namespace Se
open aN Ce La In Vm Mc
variable {S:Stp}
theorem Xv (h:ql S):mf S:=by have n:=h.nums;have b:=h.box;exact⟨n.p0,n.p1,n.b0,n.b1,b.2.2.1,b.2.2.2.1,b.1,b.2.2.2.2.1,b.2.2.2.2.2,b.2.1,fun B hB=>⟨(h.bodies B hB).im0,(h.bodies B hB).im1⟩,⟨n.gx0,n.gx1⟩,⟨n.gy0,n.gy1⟩,⟨n.pu0,n.pu1⟩,⟨n.dr0,n.dr1⟩,⟨n.re0,n.re1⟩,⟨n.ro0,n.ro1⟩,⟨n.fu0,n.fu1⟩⟩
theorem aeW (c:List Int) (n:Nat) (v:Int):c.set n v=cs c n v:=by simp[cs]
theorem Tu (h:ql S):∀k,k≤S.bodies.length→sM S.ak (nO S k)∧∀i:Int,i<48→cg (nO S k) i=0
 |0,_=>by
  have e:∀i,cg (nO S 0) i=0:=by
   intro i
   unfold cg nO
   split
   ·rw[List.getD_eq_getElem?_getD,List.getElem?_replicate];split<;>rfl
   ·rfl
  exact⟨fun i=>by rw[e];unfold Cb;omega,fun i _=>e i⟩
 |k+1,hk=>by
  obtain⟨hb,hz⟩:=Tu h k ae
  obtain⟨B,hB⟩:∃B,S.bodies[k]?=some B:=⟨_,ik ae⟩
  have hgd:S.bodies.getD k bdd=B:=by rw[List.getD_eq_getElem?_getD,hB];rfl
  obtain⟨im0,im1,vx0,vx1,vy0,vy1,px0,px1,py0,py1,A0,A1,B0,B1⟩:=h.bodies B (qo hB)
  obtain⟨x1,x2,x3,x4,x5,x6⟩:=h.box
  rw[nO,hgd]
  simp only[aeW]
  generalize nO S k=c at*
  refine⟨(((((hb.set ?_).set ?_).set ?_).set ?_).set ?_).set ?_,fun i hi=>?_⟩
  ·unfold Cb;omega
  ·unfold Cb;omega
  ·unfold Cb;omega
  ·unfold Cb;omega
  ·unfold Cb;omega
  ·unfold Cb;omega
  ·simp only[aI]
   repeat rw[if_neg ae]
   exact hz i hi
theorem Td (h:ql S):Fin S (qD S)∧cg (qD S) 0=0:=by obtain⟨h1,h2⟩:=Tu h S.bodies.length (aH _);exact⟨⟨uF S _,h1,fun i _ hi=>h2 i ae⟩,h2 0 ae⟩
end Se
end Go.Proofs.YtohpdonnpbjfdaaGreatDoor
