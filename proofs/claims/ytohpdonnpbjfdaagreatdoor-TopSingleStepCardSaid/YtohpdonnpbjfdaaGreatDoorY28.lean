/- What is shown: package layout, copies, setups and rows. Conditions: as each theorem states. -/
import Derived.Test.YtohpdonnpbjfdaaGreatDoorY16
import Derived.Test.YtohpdonnpbjfdaaGreatDoorY24
set_option maxHeartbeats 40000000
set_option maxRecDepth 100000
set_option linter.unusedVariables false
set_option linter.unusedSimpArgs false
open Go.Proofs.Tryz
namespace Go.Proofs.YtohpdonnpbjfdaaGreatDoor
theorem Cm {P:Prop} (h:P:=by exact⟨⟨k+1,ae,av,(XD.out.alloc _).later aO,(Kw.out.alloc Kw.out.size _).trans (aO.mono (by have:=Kw.out.size;simp;omega))⟩,by simp[intOf];omega⟩):P:=h
theorem mr {P:Prop} (h:P:=by first|(rw[Hl.out];omega)|(simp only[List.length_set];rw[Hl.out];omega)):P:=h
theorem Cg {P:Prop} (h:P:=by rw[Ku];go_simp):P:=h
theorem rA {P:Prop} (h:P:=by injection e with e _ _;injection e with e;injection e):P:=h
theorem Dc {P:Prop} (h:P:=by
 rcases h with⟨h0,rfl|⟨b,rfl⟩⟩|⟨_,h⟩
 ·exact .inl ⟨h0,none,0,rfl,fun _=>rfl⟩
 ·exact .inl ⟨h0,_,0,rfl,fun _=>rfl⟩
 ·exact .inr h):P:=h
theorem rz {P:Prop} (h:P:=by simp[results,gY,go_sem,cZ,aQ]):P:=h
namespace La
open Go.RowKit aN fO Qt Ro Bk Sh
attribute [local go_sem] Oper.semAt_some
variable {w w':World} {b:Nat} {x lo hi y:Int} {v:Value}
structure yx where
 r:Int
 zs:List (Int×Int)
 px:Int
 py:Int
 vx:Int
 vy:Int
 im:Int
 A:Int
 B:Int
structure Stp where
 ak:Nat
 bodies:List yx
 x0:Int
 y0:Int
 x1:Int
 y1:Int
 f_:List (Int×Int×Int×Int)
 doors:List (Int×Int)
 ou:Int
 gx:Int
 gy:Int
 push:Int
 eO:Int
 rest:Int
 rounds:Int
 fuel:Int
abbrev dR (S:Stp) (bs rm dr:Value):Value:=.agg #[ag S.ak,bs,ag S.x0,ag S.y0,ag S.x1,ag S.y1,rm,dr,ag S.ou,ag S.gx,ag S.gy,ag S.push,ag S.eO,ag S.rest,ag S.rounds,ag S.fuel]
structure wM (w:World) (b i:Nat) (B:yx):Prop where
 shape:∃a len cap,w.cell? ⟨b,i*9,none⟩=some (ag B.r)∧w.cell? ⟨b,i*9+1,none⟩=some (.slice a len cap)∧iL w B.r a len cap B.zs
 c2:w.cell? ⟨b,i*9+2,none⟩=some (ag B.px)
 c3:w.cell? ⟨b,i*9+3,none⟩=some (ag B.py)
 c4:w.cell? ⟨b,i*9+4,none⟩=some (ag B.vx)
 c5:w.cell? ⟨b,i*9+5,none⟩=some (ag B.vy)
 c6:w.cell? ⟨b,i*9+6,none⟩=some (ag B.im)
 c7:w.cell? ⟨b,i*9+7,none⟩=some (ag B.A)
 c8:w.cell? ⟨b,i*9+8,none⟩=some (ag B.B)
def Mx (w:World) (v:Value) (L:List yx):Prop:=∃b cap,v=aZ b L.length cap∧∀i B,L[i]?=some B→wM w b i B
def yz (w:World) (v:Value) (L:List (Int×Int×Int×Int)):Prop:=
 (L=[]∧∃a cap,v=.slice a 0 cap∧(a=none→cap=0))∨∃b cap,v=aZ b L.length cap∧∀i x,L[i]?=some x→w.cell? ⟨b,i*4,none⟩=some (ag x.1)∧w.cell? ⟨b,i*4+1,none⟩=some (ag x.2.1)∧w.cell? ⟨b,i*4+2,none⟩=some (ag x.2.2.1)∧w.cell? ⟨b,i*4+3,none⟩=some (ag x.2.2.2)
def yA (w:World) (v:Value) (L:List (Int×Int)):Prop:=
 (L=[]∧∃a cap,v=.slice a 0 cap∧(a=none→cap=0))∨∃b cap,v=aZ b L.length cap∧∀i x,L[i]?=some x→w.cell? ⟨b,i*2,none⟩=some (ag x.1)∧w.cell? ⟨b,i*2+1,none⟩=some (ag x.2)
structure fP (w:World) (S:Stp) (bs rm dr:Value):Prop where
 bodies:Mx w bs S.bodies
 f_:yz w rm S.f_
 doors:yA w dr S.doors
theorem wM.later {i:Nat} {B:yx} (h:wM w b i B) (hb:aJ w w'):wM w' b i B:=by obtain⟨a,len,cap,h0,h1,h2⟩:=h.shape;exact⟨⟨a,len,cap,ai hb h0,ai hb h1,h2.later hb⟩,ai hb h.c2,ai hb h.c3,ai hb h.c4,ai hb h.c5,ai hb h.c6,ai hb h.c7,ai hb h.c8⟩
theorem yz.later {L:List (Int×Int×Int×Int)} (h:yz w v L) (hb:aJ w w'):yz w' v L:=by
 rcases h with h|⟨b,cap,e,h⟩
 ·exact .inl h
 ·exact .inr ⟨b,cap,e,fun i x hx=>⟨ai hb (h i x hx).1,ai hb (h i x hx).2.1,ai hb (h i x hx).2.2.1,ai hb (h i x hx).2.2.2⟩⟩
theorem yA.later {L:List (Int×Int)} (h:yA w v L) (hb:aJ w w'):yA w' v L:=by
 rcases h with h|⟨b,cap,e,h⟩
 ·exact .inl h
 ·exact .inr ⟨b,cap,e,fun i x hx=>⟨ai hb (h i x hx).1,ai hb (h i x hx).2⟩⟩
def WZ (P k:Int):Int:=if 0≤k∧k<P then 48+4*k else-1
def vP (P n k:Int):Int:=if 0≤k∧k<n then 48+4*P+8*k else-1
theorem MB (P:Int) (ab:Option Addr) (n cap:Nat) (c2 c3 c4 c5 c6 c7 c8 c9 c10 c11 c12 c13 c14 c15:Value) (hP:0≤P∧P≤1048576) (hn:n≤1048576):
  dZ prog 51 #[.agg #[ag P,.slice ab n cap,c2,c3,c4,c5,c6,c7,c8,c9,c10,c11,c12,c13,c14,c15]] (ag (48+4*P+8*n)):=by intro w;obtain⟨h0,h1⟩:=hP;go_enter func51,ntmps51;go_wp2;go_ret;exact⟨rfl,by exact aG⟩
theorem zg (P k:Int) (c1 c2 c3 c4 c5 c6 c7 c8 c9 c10 c11 c12 c13 c14 c15:Value) (hP:0≤P∧P≤1048576):
  dZ prog 75 #[.agg #[ag P,c1,c2,c3,c4,c5,c6,c7,c8,c9,c10,c11,c12,c13,c14,c15],ag k] (ag (WZ P k)):=by
 intro w;obtain⟨h0,h1⟩:=hP;unfold WZ;by_cases hk:0≤k
 ·by_cases iO:k<P
  ·rw[if_pos ⟨hk,iO⟩];go_enter func75,ntmps75;go_wp2;go_ret;exact⟨rfl,by exact aG⟩
  ·rw[if_neg (fun h=>iO h.2)];go_enter func75,ntmps75;go_wp2;go_ret;exact⟨rfl,by exact aG⟩
 ·rw[if_neg (fun h=>hk h.1)];go_enter func75,ntmps75;go_wp2;go_ret;exact⟨rfl,by exact aG⟩
theorem oG (P k:Int) (ab:Option Addr) (n cap:Nat) (c2 c3 c4 c5 c6 c7 c8 c9 c10 c11 c12 c13 c14 c15:Value) (hP:0≤P∧P≤1048576) (hn:n≤1048576):
  dZ prog 70 #[.agg #[ag P,.slice ab n cap,c2,c3,c4,c5,c6,c7,c8,c9,c10,c11,c12,c13,c14,c15],ag k] (ag (vP P n k)):=by
 intro w;obtain⟨h0,h1⟩:=hP;unfold vP;by_cases hk:0≤k
 ·by_cases iO:k<n
  ·rw[if_pos ⟨hk,iO⟩];go_enter func70,ntmps70;go_wp2;go_ret;exact⟨rfl,by exact aG⟩
  ·rw[if_neg (fun h=>iO h.2)];go_enter func70,ntmps70;go_wp2;go_ret;exact⟨rfl,by exact aG⟩
 ·rw[if_neg (fun h=>hk h.1)];go_enter func70,ntmps70;go_wp2;go_ret;exact⟨rfl,by exact aG⟩
theorem zh {n cap:Nat} (c:List Int) (h:∀i,i<n→w.cell? ⟨b,i,none⟩=some (ag (c.getD i 0))) (hn:n≤1000) (lo hi:Int) (hc:∀i,i<n→lo≤c.getD i 0∧c.getD i 0≤hi):
  Calls prog 106 #[ag lo,ag hi,aZ b n cap] w fun e w'=>e=.returned (.bool true)∧aJ w w':=by
 have H:=ah h;have HC:=ah hc;clear h hc;go_enter func106,ntmps106;go_wp2;go_loopw [11] (fun i wr=>∃k:Nat,k≤n∧i=ag k∧wr=w) (fun i _=>n-(intOf i).toNat);case atStart=>exact⟨0,Nat.zero_le _,rfl,rfl⟩
 case round=>
  obtain⟨k,hk,rfl,rfl⟩:=hrel;by_cases hlt:k<n
  ·have pg:(k:Int)<(n:Int):=ae;have c0:=H.out k hlt;obtain⟨g1,g2⟩:=HC.out k hlt;generalize c.getD k 0=v at*;have n1:¬v<lo:=ae;have n2:¬v>hi:=ae;go_wp2;exact⟨⟨k+1,ae,av,trivial⟩,by simp[intOf];omega⟩
  ·obtain rfl:k=n:=ae;have hnl:¬((k:Int)<(k:Int)):=ae;go_wp2;go_ret;exact⟨rfl,aK _ _⟩
theorem Qz (h:w.cell? ⟨b,0,none⟩=some (ag x)) (h0:lo≤x) (h1:x≤hi):
  Calls prog 106 #[ag lo,ag hi,aZ b 1 1] w fun e w'=>e=.returned (.bool true)∧aJ w w':=by
 refine zh [x] (fun i hi=>?_) bL lo hi (fun i hi=>?_)
 ·obtain rfl:i=0:=ae;exact h
 ·obtain rfl:i=0:=ae;exact⟨h0,h1⟩
theorem FY (h:w.cell? ⟨b,0,none⟩=some (ag x)) (h':w.cell? ⟨b,1,none⟩=some (ag y)) (h0:lo≤x) (h1:x≤hi) (h2:lo≤y) (h3:y≤hi):
  Calls prog 106 #[ag lo,ag hi,aZ b 2 2] w fun e w'=>e=.returned (.bool true)∧aJ w w':=by
 refine zh [x,y] (fun i hi=>?_) bL lo hi (fun i hi=>?_)
 ·rcases(show i=0∨i=1 from ae)with rfl|rfl<;>assumption
 ·rcases(show i=0∨i=1 from ae)with rfl|rfl
  ·exact⟨h0,h1⟩
  ·exact⟨h2,h3⟩
theorem MF {z t:Int} (h:w.cell? ⟨b,0,none⟩=some (ag x)) (h':w.cell? ⟨b,1,none⟩=some (ag y)) (h'':w.cell? ⟨b,2,none⟩=some (ag z)) (awI:w.cell? ⟨b,3,none⟩=some (ag t)) (hx:lo≤x∧x≤hi) (hy:lo≤y∧y≤hi) (hz:lo≤z∧z≤hi) (ht:lo≤t∧t≤hi):
  Calls prog 106 #[ag lo,ag hi,aZ b 4 4] w fun e w'=>e=.returned (.bool true)∧aJ w w':=by
 refine zh [x,y,z,t] (fun i hi=>?_) bL lo hi (fun i hi=>?_)
 ·rcases(show i=0∨i=1∨i=2∨i=3 from ae)with rfl|rfl|rfl|rfl<;>assumption
 ·rcases(show i=0∨i=1∨i=2∨i=3 from ae)with rfl|rfl|rfl|rfl<;>assumption
theorem FZ (x0 y0 x1 y1:Int) (hx:x0≤x1) (hy:y0≤y1) (h0: -1048576≤x0) (h1:x1≤1048576) (h2: -1048576≤y0) (h3:y1≤1048576):
  dZ prog 63 #[.agg #[ag x0,ag y0,ag x1,ag y1]] (.bool true):=by intro w;refine az ?_;intro hal bu;go_enter func63,ntmps63;go_wp2_with (refine(MF (x:=x0) (y:=y0) (z:=x1) (t:=y1) (by simp[aQ]) (by simp[aQ]) (by simp[aQ]) (by simp[aQ]) ae ae ae ae).mono ?_;refine df ?_;intro w1 aO N1 dA bW eu eF);go_ret;exact⟨rfl,by exact aG⟩
variable {w:World} {S:Stp} {bs rm dr:Value}
structure aiV (S:Stp):Prop where
 p0:1≤S.ak
 p1:S.ak≤8
 b0:S.ak≤S.bodies.length
 b1:S.bodies.length≤24
 aiQ:0≤S.ou
 aiR:S.ou≤4194304
 gx0: -16384≤S.gx
 gx1:S.gx≤16384
 gy0: -16384≤S.gy
 gy1:S.gy≤16384
 pu0:0≤S.push
 pu1:S.push≤16384
 dr0:0≤S.eO
 dr1:S.eO≤1024
 re0:0≤S.rest
 re1:S.rest≤1024
 ro0:1≤S.rounds
 ro1:S.rounds≤4
 fu0:0≤S.fuel
 fu1:S.fuel≤1000
theorem Cj (w:World) (x lo hi:Int) (t:TypeId) (h0:lo≤x) (h1:x≤hi):
  Calls prog 106 #[ag lo,ag hi,aZ w.heap.size 1 1] (w.alloc (.cells #[ag x] t)) fun e w'=>e=.returned (.bool true)∧Below (w.alloc (.cells #[ag x] t)).heap.size (w.alloc (.cells #[ag x] t)) w':=
 Qz (World.cell?_alloc_new _ _ _ 0) h0 h1
theorem Ck (w:World) (x y lo hi:Int) (t:TypeId) (h0:lo≤x) (h1:x≤hi) (h2:lo≤y) (h3:y≤hi):
  Calls prog 106 #[ag lo,ag hi,aZ w.heap.size 2 2] (w.alloc (.cells #[ag x,ag y] t)) fun e w'=>e=.returned (.bool true)∧Below (w.alloc (.cells #[ag x,ag y] t)).heap.size (w.alloc (.cells #[ag x,ag y] t)) w':=
 FY (World.cell?_alloc_new _ _ _ 0) (World.cell?_alloc_new _ _ _ 1) h0 h1 h2 h3
theorem MC (S:Stp) (h:aiV S) (b cap:Nat) (rm dr:Value):
  dZ prog 62 #[dR S (aZ b S.bodies.length cap) rm dr] (.bool true):=by
 intro w;obtain⟨ak,bodies,x0,y0,x1,y1,f_,doors,ou,gx,gy,push,eO,rest,rounds,fuel⟩:=S;obtain⟨p0,p1,b0,b1,aiQ,aiR,gx0,gx1,gy0,gy1,pu0,pu1,dr0,dr1,re0,re1,ro0,ro1,fu0,fu1⟩:=h;simp only at*;generalize bodies.length=n at*;go_enter func62,ntmps62;go_upto_region 1 with(fail);refine aP fun W hW=>?_;have hS:aV W w.heap.size [ag ak,aZ b n cap,ag x0,ag y0,ag x1,ag y1,rm,dr,ag ou,ag gx,ag gy,ag push,ag eO,ag rest,ag rounds,ag fuel]:=dm;have hB:aJ w W:=aM;have cS:=hS.cell;clear hW;go_wp2_with (first
  |((with_reducible refine(Cj _ _ _ _ _ ae ae).mono ?_);rintro e w1 ⟨rfl,aO⟩;replace hS:=(hS.alloc _).later aO;replace cS:=hS.cell;replace hB:=(hB.alloc hB.size _).trans (aO.mono (by have:=hB.size;simp;omega));clear aO)
  |((with_reducible refine(Ck _ _ _ _ _ _ ae ae ae ae).mono ?_);rintro e w1 ⟨rfl,aO⟩;replace hS:=(hS.alloc _).later aO;replace cS:=hS.cell;replace hB:=(hB.alloc hB.size _).trans (aO.mono (by have:=hB.size;simp;omega));clear aO))
 go_ret;exact⟨rfl,hB⟩
structure adK (S:Stp) (B:yx):Prop where
 im0:0≤B.im
 im1:B.im≤4096
 vx0: -16384≤B.vx
 vx1:B.vx≤16384
 vy0: -16384≤B.vy
 vy1:B.vy≤16384
 px0:S.x0≤B.px
 px1:B.px≤S.x1
 py0:S.y0≤B.py
 py1:B.py≤S.y1
 A0: -2147483647≤B.A
 A1:B.A≤2147483647
 B0: -2147483647≤B.B
 B1:B.B≤2147483647
theorem UR (S:Stp) (B:yx) (h:adK S B) (sl:Value):
  dZ prog 65 #[.agg #[ag B.r,sl,ag B.px,ag B.py,ag B.vx,ag B.vy,ag B.im,ag B.A,ag B.B],.agg #[ag (S.x0),ag (S.y0),ag (S.x1),ag (S.y1)]] (.bool true):=by
 intro w;obtain⟨im0,im1,vx0,vx1,vy0,vy1,px0,px1,py0,py1,A0,A1,B0,B1⟩:=h;generalize S.x0=x0 at*;generalize S.y0=y0 at*;generalize S.x1=x1 at*;generalize S.y1=y1 at*;obtain⟨r,zs,px,py,vx,vy,im,A,C⟩:=B;simp only at*;go_enter func65,ntmps65;go_upto_region 2 with(fail);refine aP fun W hW=>?_;have hT:aV W w.heap.size [ag r,sl,ag px,ag py,ag vx,ag vy,ag im,ag A,ag C]:=by rw[hW];exact((aV.new _ _ _ _ rfl).alloc _).alloc _
 have hX:aV W (w.heap.size+1) [ag x0,ag y0,ag x1,ag y1]:=by rw[hW];exact(aV.new _ _ _ _ av).alloc _
 have hM:aV W (w.heap.size+1+1) [ag px,ag py,ag vx,ag vy,ag im]:=by rw[hW];exact aV.new _ _ _ _ av
 have hB:aJ w W:=aM;have cT:=hT.cell;have cX:=hX.cell;have cM:=hM.cell;clear hW;go_wp2_with (first
  |((with_reducible refine(Cj _ _ _ _ _ ae ae).mono ?_);rintro e w1 ⟨rfl,aO⟩;replace hT:=(hT.alloc _).later aO;replace cT:=hT.cell;replace hX:=(hX.alloc _).later aO;replace cX:=hX.cell;replace hM:=(hM.alloc _).later aO;replace cM:=hM.cell;replace hB:=(hB.alloc hB.size _).trans (aO.mono (by have:=hB.size;simp;omega));clear aO)
  |((with_reducible refine(Ck _ _ _ _ _ _ ae ae ae ae).mono ?_);rintro e w1 ⟨rfl,aO⟩;replace hT:=(hT.alloc _).later aO;replace cT:=hT.cell;replace hX:=(hX.alloc _).later aO;replace cX:=hX.cell;replace hM:=(hM.alloc _).later aO;replace cM:=hM.cell;replace hB:=(hB.alloc hB.size _).trans (aO.mono (by have:=hB.size;simp;omega));clear aO))
 go_ret;exact⟨rfl,hB⟩
structure adL (S:Stp):Prop where
 r1:S.f_.length≤8
 d1:S.doors.length≤16
 f_:∀x∈S.f_,x.1≤x.2.2.1∧x.2.1≤x.2.2.2∧-1048576≤x.1∧x.2.2.1≤1048576∧-1048576≤x.2.1∧x.2.2.2≤1048576
 doors:∀x∈S.doors,x.1≠x.2∧0≤x.1∧x.1<S.f_.length∧0≤x.2∧x.2<S.f_.length
theorem aaZ (h:adL S) (hr:yz w rm S.f_) (hd:yA w dr S.doors):
  Calls prog 64 #[dR S bs rm dr] w fun e w'=>e=.returned (.bool true)∧aJ w w':=by
 obtain⟨r1,d1,hro,hdo⟩:=h;have HR:=ah hr;have HD:=ah hd;have HRO:=ah hro;have HDO:=ah hdo;obtain⟨nr,ra,IB,hrm,hrn⟩:∃nr ra IB,rm=.slice ra nr IB∧nr=S.f_.length:=by
  rcases hr with⟨e,a,cap,e',_⟩|⟨b,cap,e',_⟩
  ·exact⟨0,a,cap,e',by rw[e];rfl⟩
  ·exact⟨_,_,cap,e',rfl⟩
 obtain⟨nd,da,aa0,hdr,hdn⟩:∃nd da aa0,dr=.slice da nd aa0∧nd=S.doors.length:=by
  rcases hd with⟨e,a,cap,e',_⟩|⟨b,cap,e',_⟩
  ·exact⟨0,a,cap,e',by rw[e];rfl⟩
  ·exact⟨_,_,cap,e',rfl⟩
 rw[hrm]at HR⊢;rw[hdr]at HD⊢;rw[←hrn]at r1 HDO;rw[←hdn]at d1;have Hrn:=ah hrn;have Hdn:=ah hdn;clear hr hd hro hdo hrm hdr hrn hdn;have r1I:¬((nr:Int)>8):=ae;have d1I:¬((nd:Int)>16):=ae;go_enter func64,ntmps64;go_upto_region 3 with(fail);refine aP fun W hW=>?_;obtain⟨L,hL⟩:∃L,L=[Value.int .i64 S.ak,bs,ag S.x0,ag S.y0,ag S.x1,ag S.y1,.slice ra nr IB,.slice da nd aa0,ag S.ou,ag S.gx,ag S.gy,ag S.push,ag S.eO,ag S.rest,ag S.rounds,ag S.fuel]:=⟨_,rfl⟩
 have hS:aV W w.heap.size L:=by rw[hW,hL];exact aV.new _ _ _ _ rfl
 have e6:L[6]?=some (.slice ra nr IB):=by rw[hL];rfl
 have e7:L[7]?=some (.slice da nd aa0):=by rw[hL];rfl
 have hB:aJ w W:=aM;have c6:=(hS.cell 6).trans e6;have c7:=(hS.cell 7).trans e7;have HS:=ah hS;have HB:=ah hB;clear hW hL hS hB;go_wp2;go_loopw [20] (fun i wr=>∃k:Nat,k≤nr∧i=ag k∧aV wr w.heap.size L∧aJ w wr) (fun i _=>nr-(intOf i).toNat);case atStart=>exact⟨0,Nat.zero_le _,rfl,HS.out,HB.out⟩
 case round=>
  obtain⟨k,hk,rfl,hS,hB⟩:=hrel;have XD:=ah hS;have Kw:=ah hB;clear hS hB HS HB c6 c7;by_cases hlt:k<nr
  ·have pg:(k:Int)<(nr:Int):=ae;obtain⟨b,rfl,hc⟩:∃b,ra=some ⟨b,0,none⟩∧∀i x,S.f_[i]?=some x→w.cell? ⟨b,i*4,none⟩=some (ag x.1)∧w.cell? ⟨b,i*4+1,none⟩=some (ag x.2.1)∧w.cell? ⟨b,i*4+2,none⟩=some (ag x.2.2.1)∧w.cell? ⟨b,i*4+3,none⟩=some (ag x.2.2.2):=by
    rcases HR.out with⟨e,_⟩|⟨b,cap,e',hc⟩
    ·have:=Hrn.out;rw[e]at this;simp at this;omega
    ·injection e' with e1 e2 e3;exact⟨b,e1,hc⟩
   obtain⟨x,hx⟩:∃x,S.f_[k]?=some x:=⟨S.f_[k]'(by rw[←Hrn.out];exact hlt),av⟩
   obtain⟨g1,g2,g3,g4,g5,g6⟩:=HRO.out x (qo hx);obtain⟨a0,a1,a2,a3⟩:=hc k x hx;obtain⟨x0,x1,x2,x3⟩:=x;simp only at*;have v0:=ai Kw.out a0;have v1:=ai Kw.out a1;have v2:=ai Kw.out a2;have v3:=ai Kw.out a3;have LX:=ah (FZ x0 x1 x2 x3 g1 g2 g3 g4 g5 g6);clear a0 a1 a2 a3 hc hx g1 g2 g3 g4 g5 g6;refine az ?_;intro hal bu;go_wp2_with (refine(LX.out _).mono ?_;refine df ?_;intro w1 aO N1 dA bW eu eF);exact Cm
  ·obtain rfl:k=nr:=ae;have hnl:¬((k:Int)<(k:Int)):=ae;have c7:=(XD.out.cell 7).trans e7;go_wp2;go_loopw [31] (fun i wr=>∃q:Nat,q≤nd∧i=ag q∧aV wr w.heap.size L∧aJ w wr) (fun i _=>nd-(intOf i).toNat);case atStart=>exact⟨0,Nat.zero_le _,rfl,XD.out,Kw.out⟩
   case round=>
    obtain⟨q,hq,rfl,hS,hB⟩:=hrel;have HS:=ah hS;have HB:=ah hB;clear hS hB XD Kw c7;by_cases hlt:q<nd
    ·have pg:(q:Int)<(nd:Int):=ae;obtain⟨b,rfl,hc⟩:∃b,da=some ⟨b,0,none⟩∧∀i x,S.doors[i]?=some x→w.cell? ⟨b,i*2,none⟩=some (ag x.1)∧w.cell? ⟨b,i*2+1,none⟩=some (ag x.2):=by
      rcases HD.out with⟨e,_⟩|⟨b,cap,e',hc⟩
      ·have:=Hdn.out;rw[e]at this;simp at this;omega
      ·injection e' with e1 e2 e3;exact⟨b,e1,hc⟩
     obtain⟨x,hx⟩:∃x,S.doors[q]?=some x:=⟨S.doors[q]'(by rw[←Hdn.out];exact hlt),av⟩
     obtain⟨g1,g2,g3,g4,g5⟩:=HDO.out x (qo hx);obtain⟨a0,a1⟩:=hc q x hx;obtain⟨x0,x1⟩:=x;simp only at*;have v0:=ai HB.out a0;have v1:=ai HB.out a1;have c6:=(HS.out.cell 6).trans e6;have g1':(x0==x1)=false:=by simpa using g1
     have lt:=HS.out.lt;clear a0 a1 hc hx g1;refine az ?_;intro hal bu;go_wp2_with ((with_reducible refine(FY (x:=x0) (y:=x1) (b:=wr.heap.size+1) (by simp[aQ]) (by simp[aQ]) ae ae ae ae).mono ?_);refine df ?_;intro w1 aO N1 dA bW eu eF);exact⟨⟨q+1,ae,av,((HS.out.alloc _).alloc _).later aO,(((HB.out.alloc HB.out.size _).alloc (by have:=HB.out.size;simp;omega) _)).trans (aO.mono (by have:=HB.out.size;simp;omega))⟩,by simp[intOf];omega⟩
    ·obtain rfl:q=nd:=ae;have hnl:¬((q:Int)<(q:Int)):=ae;go_wp2;go_ret;exact⟨rfl,HB.out⟩
structure ql (S:Stp):Prop where
 nums:aiV S
 map:adL S
 bodies:∀B∈S.bodies,adK S B
 box:S.x0≤S.x1∧S.y0≤S.y1∧-1048576≤S.x0∧S.x1≤1048576∧-1048576≤S.y0∧S.y1≤1048576
theorem ME {r:Int} {a:Option Addr} {len cap:Nat} {zs:List (Int×Int)} (h:iL w r a len cap zs):
  Calls prog 61 #[.agg #[ag r,.slice a len cap]] w fun e w'=>e=.returned (ag 0)∧aJ w w':=by
 rcases h.kind with⟨rfl,rfl,rfl,rfl,h1,h2⟩|⟨rfl,h3,h6,hb,hc⟩
 ·exact EX r none 0 ⟨h1,h2⟩ w
 ·have:=IG a len cap zs w h.poly h3 h6 hb;rwa[hc]at this
theorem Ky (hs:fP w S bs rm dr) (h:ql S):
  Calls prog 27 #[dR S bs rm dr] w fun e w'=>e=.returned (ag 0)∧aJ w w':=by
 obtain⟨⟨b,cap,rfl,hbs⟩,hrm,hdr⟩:=hs;have ae1:=MC S h.nums b cap rm dr;have aoM:=ah (FZ S.x0 S.y0 S.x1 S.y1 h.box.1 h.box.2.1 h.box.2.2.1 h.box.2.2.2.1 h.box.2.2.2.2.1 h.box.2.2.2.2.2);have hmp:=fun W (hW:aJ w W)=>aaZ (bs:=aZ b S.bodies.length cap) h.map (hrm.later hW) (hdr.later hW);have hbd:=h.bodies;obtain⟨n,hn⟩:∃n,n=S.bodies.length:=⟨_,rfl⟩
 have eD:=h.nums.b1;rw[←hn]at ae1 hmp eD⊢;have Hn:=ah hn;have aiW:=ah ae1;have aoN:=ah hmp;have aaX:=ah hbs;have vQ:=ah hbd;clear ae1 hmp hbs hbd;clear hrm hdr h hn;go_enter func27,ntmps27;go_upto_region 1 with(fail);refine aP fun W hW=>?_;obtain⟨L,hL⟩:∃L,L=[Value.int .i64 S.ak,aZ b n cap,ag S.x0,ag S.y0,ag S.x1,ag S.y1,rm,dr,ag S.ou,ag S.gx,ag S.gy,ag S.push,ag S.eO,ag S.rest,ag S.rounds,ag S.fuel]:=⟨_,rfl⟩
 have hS:aV W w.heap.size L:=by rw[hW,hL];exact aV.new _ _ _ _ rfl
 have hB:aJ w W:=aM;have HS:=ah hS;have HB:=ah hB;have HL:=ah hL;have e1:L[1]?=some (aZ b n cap):=by rw[hL];rfl
 have c1:=(hS.cell 1).trans e1;clear hW hL hS hB;go_wp2;go_loopw [10] (fun i wr=>∃k:Nat,k≤n∧i=ag k∧aV wr w.heap.size L∧aJ w wr) (fun i _=>n-(intOf i).toNat);case atStart=>exact⟨0,Nat.zero_le _,rfl,HS.out,HB.out⟩
 case round=>
  obtain⟨k,hk,rfl,hS,hB⟩:=hrel;have XD:=ah hS;have Kw:=ah hB;clear hS hB HS HB c1;by_cases hlt:k<n
  ·have pg:(k:Int)<(n:Int):=ae;obtain⟨B,hx⟩:∃B,S.bodies[k]?=some B:=⟨S.bodies[k]'gQ,av⟩
   have hbk:=(aaX.out k B hx).later Kw.out;obtain⟨⟨a,len,cp,a0,a1,hsh⟩,a2,a3,a4,a5,a6,a7,a8⟩:=hbk;obtain⟨r,zs,px,py,vx,vy,im,A,C⟩:=B;simp only at*;have lb:=aU _ _ a0;simp only at lb;have hv:=fun V (hV:aJ wr V)=>ME (hsh.later hV);have Hhv:=ah hv;clear hv;clear hx hsh;refine az ?_;intro hal bu;go_wp2_with ((with_reducible refine(Hhv.out _ aG).mono ?_);refine df ?_;intro w1 aO N1 dA bW eu eF);exact Cm
  ·obtain rfl:k=n:=ae;have hnl:¬((k:Int)<(k:Int)):=ae;have hS:=XD.out;have hB:=Kw.out;have cS:=hS.cell;have lS:=hS.lt;rw[HL.out]at cS;clear XD Kw;go_wp2_with (first
    |((with_reducible refine(aiW.out _).mono ?_);rintro e w1 ⟨rfl,aO⟩;replace hS:=hS.later aO;replace cS:=hS.cell;rw[HL.out]at cS;replace hB:=hB.trans (aO.mono hB.size);clear aO)
    |((with_reducible refine(aoM.out _).mono ?_);rintro e w1 ⟨rfl,aO⟩;replace hS:=hS.later aO;replace cS:=hS.cell;rw[HL.out]at cS;replace hB:=hB.trans (aO.mono hB.size);clear aO)
    |((with_reducible refine(aoN.out _ hB).mono ?_);rintro e w1 ⟨rfl,aO⟩;replace hS:=hS.later aO;replace cS:=hS.cell;rw[HL.out]at cS;replace hB:=hB.trans (aO.mono hB.size);clear aO))
   have HS:=ah hS;have HB:=ah hB;clear hS hB cS;go_loopw [36] (fun i wr=>∃q:Nat,q≤k∧i=ag q∧aV wr w.heap.size L∧aJ w wr) (fun i _=>k-(intOf i).toNat);case atStart=>exact⟨0,Nat.zero_le _,rfl,HS.out,HB.out⟩
   case round=>
    obtain⟨q,hq,rfl,hS,hB⟩:=hrel;have XD:=ah hS;have Kw:=ah hB;clear hS hB HS HB;by_cases hlt:q<k
    ·have pg:(q:Int)<(k:Int):=ae;obtain⟨B,hx⟩:∃B,S.bodies[q]?=some B:=⟨S.bodies[q]'gQ,av⟩
     have hbk:=(aaX.out q B hx).later Kw.out;obtain⟨⟨a,len,cp,a0,a1,hsh⟩,a2,a3,a4,a5,a6,a7,a8⟩:=hbk;have hv:=UR S B (vQ.out B (qo hx)) (.slice a len cp);have lb:=aU _ _ a0;have lS:=XD.out.lt;simp only at lb;have cS:=XD.out.cell;rw[HL.out]at cS;have Hhv:=ah hv;clear hv;clear hx hsh;refine az ?_;intro hal bu;go_wp2_with ((with_reducible refine(Hhv.out _).mono ?_);refine df ?_;intro w1 aO N1 dA bW eu eF);exact⟨⟨q+1,ae,av,(XD.out.alloc _).later aO,(Kw.out.alloc Kw.out.size _).trans (aO.mono (by have:=Kw.out.size;simp;omega))⟩,by simp[intOf];omega⟩
    ·obtain rfl:q=k:=ae;have hnl:¬((q:Int)<(q:Int)):=ae;go_wp2;go_ret;exact⟨rfl,Kw.out⟩
def qE (S:Stp):Nat:=48+4*S.ak+8*S.bodies.length
def bdd:yx:=⟨0,[],0,0,0,0,0,0,0⟩
def nO (S:Stp):Nat→List Int
 |0=>List.replicate (qE S) 0
 |k+1=>((((((nO S k).set (48+4*S.ak+8*k) (S.bodies.getD k bdd).px).set (48+4*S.ak+8*k+1) (S.bodies.getD k bdd).py).set (48+4*S.ak+8*k+2) (S.bodies.getD k bdd).vx).set (48+4*S.ak+8*k+3) (S.bodies.getD k bdd).vy).set (48+4*S.ak+8*k+4) (S.bodies.getD k bdd).A).set (48+4*S.ak+8*k+5) (S.bodies.getD k bdd).B
theorem uF (S:Stp) (k:Nat):(nO S k).length=qE S:=by induction k<;>simp_all [nO]
def qD (S:Stp):List Int:=nO S S.bodies.length
theorem Tryz.XB:(prog.info? 3).map (fun i=>(i.zero,i.size,i.bytes))=some (some (ag 0),1,8):=aL
theorem Cf {w:World} {S:Stp} {bs rm dr:Value} (hbs:Mx w bs S.bodies) (hp:S.ak≤8) (eD:1≤S.bodies.length) (FX:S.bodies.length≤24):
  Calls prog 29 #[dR S bs rm dr] w fun e w'=>∃b,e=.returned (aZ b (qE S) (qE S))∧Row .i64 w' b (qD S)∧w.heap.size≤b∧aJ w w':=by
 obtain⟨b,cap,rfl,hbs⟩:=hbs;unfold qD;obtain⟨n,hn⟩:∃n,n=S.bodies.length:=⟨_,rfl⟩
 obtain⟨p,hpe⟩:∃p,p=S.ak:=⟨_,rfl⟩
 obtain⟨N,hN⟩:∃N,N=qE S:=⟨_,rfl⟩
 have hNe:N=48+4*p+8*n:=by rw[hN,qE,hpe,hn]
 rw[←hn]at eD FX⊢;rw[←hN];rw[←hpe]at hp;have Hn:=ah hn;have Hp:=ah hpe;have HN:=ah hN;have HNe:=ah hNe;have hsz:=MB p (some ⟨b,0,none⟩) n cap (ag S.x0) (ag S.y0) (ag S.x1) (ag S.y1) rm dr (ag S.ou) (ag S.gx) (ag S.gy) (ag S.push) (ag S.eO) (ag S.rest) (ag S.rounds) (ag S.fuel) ae ae;have hbo:=fun k:Nat=>oG p (k:Int) (some ⟨b,0,none⟩) n cap (ag S.x0) (ag S.y0) (ag S.x1) (ag S.y1) rm dr (ag S.ou) (ag S.gx) (ag S.gy) (ag S.push) (ag S.eO) (ag S.rest) (ag S.rounds) (ag S.fuel) ae ae;rw[hpe]at hsz hbo;have hNI:(48:Int)+4*(S.ak:Int)+8*(n:Int)=(N:Int):=by rw[hNe,hpe];omega
 rw[hNI]at hsz;have dA:N≤1000:=ae;have awC:¬((S.ak:Int)<0):=ae;have as5:¬((S.ak:Int)>1048576):=ae;have hq1:(0:Int)≤(S.ak:Int):=ae;have hq2:(S.ak:Int)≤8:=ae;obtain⟨i0,hii,sN,nk,nD⟩:=info_parts Tryz.XB;have aaW:=ah hsz;have Qk:=ah hbo;have aaX:=ah hbs;clear hsz hbo hbs;clear hn hpe hN hNe hNI;go_enter func29,ntmps29;go_upto_region 1 with(fail);refine aP fun W hW=>?_;obtain⟨L,hL⟩:∃L,L=[Value.int .i64 S.ak,aZ b n cap,ag S.x0,ag S.y0,ag S.x1,ag S.y1,rm,dr,ag S.ou,ag S.gx,ag S.gy,ag S.push,ag S.eO,ag S.rest,ag S.rounds,ag S.fuel]:=⟨_,rfl⟩
 have hS:aV W w.heap.size L:=by rw[hW,hL];exact aV.new _ _ _ _ rfl
 have hB:aJ w W:=aM;have HL:=ah hL;have cS:=hS.cell;rw[hL]at cS;clear hW hL;have HS:=ah hS;have HB:=ah hB;clear hS hB;go_wp2_with (first
  |((with_reducible refine(aaW.out _).mono ?_);rintro e w1 ⟨rfl,aO⟩)
  |(at_make;refine wpList_make_row _ .i64 rfl _ _ _ rfl 3 i0 8 underlying22 hii sN nk nD .i64 .i64 N N N rfl rfl rfl rfl ae ae ?c1))
 case c1=>
  intro w2 hrow dW;have HS2:=ah ((HS.out.later aO).later dW);have HB2:=ah (HB.out.trans ((aO.trans (dW.mono aO.size)).mono HB.out.size));have hlo:w.heap.size≤w1.heap.size:=aS HB.out.size aO.size;obtain⟨g,hg⟩:∃g,g=w1.heap.size:=⟨_,rfl⟩
  rw[←hg]at hlo hrow⊢;have HR2:Hid (Row .i64 w2 g (nO S 0)):=by rw[nO,←HN.out];exact hrow
  have cS:=HS2.out.cell;rw[HL.out]at cS;have hne:w.heap.size≠g:=by have:=HS.out.lt;have:=aO.size;omega
  clear aO dW hrow hg HS HB;go_wp2;go_loopw [21] (fun i wr=>∃k:Nat,k≤n∧i=ag k∧Row .i64 wr g (nO S k)∧aV wr w.heap.size L∧aJ w wr) (fun i _=>n-(intOf i).toNat);case atStart=>exact⟨0,Nat.zero_le _,rfl,HR2.out,HS2.out,HB2.out⟩
  case round=>
   obtain⟨k,hk,rfl,hr,hS,hB⟩:=hrel;have HR:=ah hr;have HS:=ah hS;have HB:=ah hB;clear hr hS hB HR2 HS2 HB2 cS;by_cases hlt:k<n
   ·have pg:(k:Int)<(n:Int):=ae;obtain⟨B,hx⟩:∃B,S.bodies[k]?=some B:=⟨S.bodies[k]'gQ,av⟩
    have hbk:=(aaX.out k B hx).later HB.out;obtain⟨⟨a,len,cp,a0,a1,hsh⟩,a2,a3,a4,a5,a6,a7,a8⟩:=hbk;have hgd:S.bodies.getD k bdd=B:=by rw[List.getD_eq_getElem?_getD,hx];rfl
    have Hgd:=ah hgd;have cS:=HS.out.cell;rw[HL.out]at cS;have lb:=aU _ _ a0;simp only at lb;have lS:=HS.out.lt;have lg:=HR.out.lt;have aeY:=Qk.out k;obtain⟨at',hat⟩:∃at':Nat,at'=48+4*S.ak+8*k:=⟨_,rfl⟩
    have hbe:vP (S.ak:Int) n k=(at':Int):=by unfold vP;rw[if_pos ⟨ae,pg⟩,hat];omega
    rw[hbe]at aeY;have awE:at'+8≤N:=by rw[HNe.out,hat,Hp.out];omega
    have Hat:=ah hat;have aiT:=ah aeY;clear aeY;clear hgd hbe hat hx hsh;go_upto_region 8 with((with_reducible refine(aiT.out _).mono ?_);rintro e w5 ⟨rfl,eY⟩);have HT5:Hid (aV w5 wr.heap.size [ag B.r,.slice a len cp,ag B.px,ag B.py,ag B.vx,ag B.vy,ag B.im,ag B.A,ag B.B]):=(aV.new _ _ _ _ rfl:aV _ wr.heap.size [ag B.r,.slice a len cp,ag B.px,ag B.py,ag B.vx,ag B.vy,ag B.im,ag B.A,ag B.B]).later eY;have HR5:Hid (Row .i64 w5 g (nO S k)):=(HR.out.alloc _).below eY bU;have HS5:Hid (aV w5 w.heap.size L):=(HS.out.alloc _).later eY;have HB5:Hid (aJ w w5):=(HB.out.alloc HB.out.size _).trans (eY.mono (by have:=HB.out.size;simp;omega));have cT:=HT5.out.cell;have hl:(nO S k).length=N:=by rw[uF,HN.out]
    have ex:∀j,j<8→∃v,w5.cell? ⟨g,at'+j,none⟩=some (ag v):=fun j hj=>⟨_,HR5.out.cells (at'+j) (by rw[hl];omega)⟩
    obtain⟨v0,e0⟩:=ex 0 ae;obtain⟨v1,e1⟩:=ex 1 ae;obtain⟨v2,e2⟩:=ex 2 ae;obtain⟨v3,e3⟩:=ex 3 ae;obtain⟨v4,e4⟩:=ex 4 ae;obtain⟨v5,e5⟩:=ex 5 ae;rw[Nat.add_zero]at e0;have fg:=HR5.out.free;have x0:(0:Int)<((N-at':Nat):Int):=ae;have x1:(1:Int)<((N-at':Nat):Int):=ae;have x2:(2:Int)<((N-at':Nat):Int):=ae;have x3:(3:Int)<((N-at':Nat):Int):=ae;have x4:(4:Int)<((N-at':Nat):Int):=ae;have x5:(5:Int)<((N-at':Nat):Int):=ae;have Hl:=ah hl;clear ex hl eY a0 a1 a2 a3 a4 a5 a6 a7 a8 cS;have hwr:wr.heap.size<w5.heap.size:=HT5.out.lt;generalize wr.heap.size=bT at*;refine jF g [0,2,3,4,5,10] [1,6,7,8,9] [11,12,13] 11 aL aL fun NL hL IE=>?_;obtain⟨dU,XC,hlf⟩:=hL;obtain⟨_,P6⟩:=IE;simp only[jA];repeat(go_big_quiet_step (fail))
    refine wpQuiet_nil ?_;repeat(go_big_quiet_step (fail))
    refine wpQuiet_nil ?_;clear XC hlf P6 dU;obtain⟨wa,Ku⟩:∃X,X=w5.drew.setCell ⟨g,at',none⟩ (ag B.px):=⟨_,rfl⟩
    have kwa:∃y:nU w5 g,wa=y.out:=⟨⟨wa,by rw[Ku];exact eQ (gm ((aK _ _).drew) g) rfl _⟩,rfl⟩
    refine dY (w1:=wa) rfl Cg kwa ?_;simp only[Act.put,dH];refine di (v:=.pointer (some ⟨g,at'+1,none⟩)) (w1:=wa) rfl bO kwa ?_;simp only[Act.put,dH];obtain⟨wb,hwb⟩:∃X,X=wa.setCell ⟨g,at'+1,none⟩ (ag B.py):=⟨_,rfl⟩
    have n1:wa.cell? ⟨g,at'+1,none⟩=some (ag v1):=by rw[Ku];simp[au,e1]
    have n2:wa.frozen? ⟨g,at'+1,none⟩=false:=by rw[Ku];simp[fg]
    refine dY (w1:=wb) rfl (by rw[hwb];go_simp) (by obtain⟨y,hy⟩:=kwa;exact⟨⟨wb,by rw[hwb,hy];exact eQ y.only rfl _⟩,rfl⟩) ?_;simp only[Act.put,dH];refine fT ?_;clear n1 n2 kwa;have aoD:Hid (Row .i64 wb g _):=ah (by rw[hwb,Ku];exact((HR5.out.drew).put (at') mr B.px).put (at'+1) mr B.py);have aeZ:Hid (aV wb bT _):=ah (by rw[hwb,Ku];exact(HT5.out.drew.other aX _).other aX _);have aoE:Hid (aV wb w.heap.size L):=ah (by rw[hwb,Ku];exact(HS5.out.drew.other aX _).other aX _);have aoF:Hid (aJ w wb):=ah (by rw[hwb,Ku];exact(HB5.out.drew.setCell aX _).setCell aX _);replace e2:wb.cell? ⟨g,at'+2,none⟩=some (ag v2):=by rw[hwb,Ku];simp[au,e2]
    replace e3:wb.cell? ⟨g,at'+3,none⟩=some (ag v3):=by rw[hwb,Ku];simp[au,e3]
    replace e4:wb.cell? ⟨g,at'+4,none⟩=some (ag v4):=by rw[hwb,Ku];simp[au,e4]
    replace e5:wb.cell? ⟨g,at'+5,none⟩=some (ag v5):=by rw[hwb,Ku];simp[au,e5]
    replace fg:∀i,wb.frozen? ⟨g,i,none⟩=false:=by rw[hwb,Ku];intro i;simp[fg]
    replace cT:=aeZ.out.cell;replace hwr:=aeZ.out.lt;clear hwb Ku;go_upto_region 9 with(fail);refine jF g [0,2,3,4,5,10] [1,6,7,8,9] [11,12,13] 11 aL aL fun NL hL IE=>?_;obtain⟨dU,XC,hlf⟩:=hL;obtain⟨_,P6⟩:=IE;simp only[jA];repeat(go_big_quiet_step (fail))
    refine wpQuiet_nil ?_;repeat(go_big_quiet_step (fail))
    refine wpQuiet_nil ?_;clear XC hlf P6 dU;obtain⟨wc,hwc⟩:∃X,X=wb.drew.setCell ⟨g,at'+2,none⟩ (ag B.vx):=⟨_,rfl⟩
    have kwc:∃y:nU wb g,wc=y.out:=⟨⟨wc,by rw[hwc];exact eQ (gm ((aK _ _).drew) g) rfl _⟩,rfl⟩
    refine dY (w1:=wc) rfl (by rw[hwc];go_simp) kwc ?_;simp only[Act.put,dH];refine di (v:=.pointer (some ⟨g,at'+3,none⟩)) (w1:=wc) rfl bO kwc ?_;simp only[Act.put,dH];obtain⟨wd,hwd⟩:∃X,X=wc.setCell ⟨g,at'+3,none⟩ (ag B.vy):=⟨_,rfl⟩
    have n1:wc.cell? ⟨g,at'+3,none⟩=some (ag v3):=by rw[hwc];simp[au,e3]
    have n2:wc.frozen? ⟨g,at'+3,none⟩=false:=by rw[hwc];simp[fg]
    refine dY (w1:=wd) rfl (by rw[hwd];go_simp) (by obtain⟨y,hy⟩:=kwc;exact⟨⟨wd,by rw[hwd,hy];exact eQ y.only rfl _⟩,rfl⟩) ?_;simp only[Act.put,dH];refine fT ?_;clear n1 n2 kwc;have aoG:Hid (Row .i64 wd g _):=ah (by rw[hwd,hwc];exact((aoD.out.drew).put (at'+2) mr B.vx).put (at'+3) mr B.vy);have ae0:Hid (aV wd bT _):=ah (by rw[hwd,hwc];exact(aeZ.out.drew.other aX _).other aX _);have aoH:Hid (aV wd w.heap.size L):=ah (by rw[hwd,hwc];exact(aoE.out.drew.other aX _).other aX _);have aoI:Hid (aJ w wd):=ah (by rw[hwd,hwc];exact(aoF.out.drew.setCell aX _).setCell aX _);replace e4:wd.cell? ⟨g,at'+4,none⟩=some (ag v4):=by rw[hwd,hwc];simp[au,e4]
    replace e5:wd.cell? ⟨g,at'+5,none⟩=some (ag v5):=by rw[hwd,hwc];simp[au,e5]
    replace fg:∀i,wd.frozen? ⟨g,i,none⟩=false:=by rw[hwd,hwc];intro i;simp[fg]
    replace cT:=ae0.out.cell;replace hwr:=ae0.out.lt;clear hwd hwc;go_upto_region 10 with(fail);refine jF g [0,2,3,6] [1,4,5] [7,8,9] 7 aL aL fun NL hL IE=>?_;obtain⟨dU,XC,hlf⟩:=hL;obtain⟨_,P6⟩:=IE;simp only[jA];repeat(go_big_quiet_step (fail))
    refine wpQuiet_nil ?_;repeat(go_big_quiet_step (fail))
    refine wpQuiet_nil ?_;clear XC hlf P6 dU;obtain⟨we,hwe⟩:∃X,X=wd.drew.setCell ⟨g,at'+4,none⟩ (ag B.A):=⟨_,rfl⟩
    have kwe:∃y:nU wd g,we=y.out:=⟨⟨we,by rw[hwe];exact eQ (gm ((aK _ _).drew) g) rfl _⟩,rfl⟩
    refine dY (w1:=we) rfl (by rw[hwe];go_simp) kwe ?_;simp only[Act.put,dH];refine di (v:=.pointer (some ⟨g,at'+5,none⟩)) (w1:=we) rfl bO kwe ?_;simp only[Act.put,dH];obtain⟨wf,hwf⟩:∃X,X=we.setCell ⟨g,at'+5,none⟩ (ag B.B):=⟨_,rfl⟩
    have n1:we.cell? ⟨g,at'+5,none⟩=some (ag v5):=by rw[hwe];simp[au,e5]
    have n2:we.frozen? ⟨g,at'+5,none⟩=false:=by rw[hwe];simp[fg]
    refine dY (w1:=wf) rfl (by rw[hwf];go_simp) (by obtain⟨y,hy⟩:=kwe;exact⟨⟨wf,by rw[hwf,hy];exact eQ y.only rfl _⟩,rfl⟩) ?_;simp only[Act.put,dH];refine fT ?_;clear n1 n2 kwe;have aoJ:Hid (Row .i64 wf g _):=ah (by rw[hwf,hwe];exact((aoG.out.drew).put (at'+4) mr B.A).put (at'+5) mr B.B);have aiU:Hid (aV wf bT _):=ah (by rw[hwf,hwe];exact(ae0.out.drew.other aX _).other aX _);have aoK:Hid (aV wf w.heap.size L):=ah (by rw[hwf,hwe];exact(aoH.out.drew.other aX _).other aX _);have aoL:Hid (aJ w wf):=ah (by rw[hwf,hwe];exact(aoI.out.drew.setCell aX _).setCell aX _);replace fg:∀i,wf.frozen? ⟨g,i,none⟩=false:=by rw[hwf,hwe];intro i;simp[fg]
    replace cT:=aiU.out.cell;replace hwr:=aiU.out.lt;clear hwf hwe;go_wp2;refine⟨⟨k+1,ae,av,?_,aoK.out,aoL.out⟩,by simp[intOf];omega⟩;have e:nO S (k+1)=(((((((nO S k).set at' B.px).set (at'+1) B.py).set (at'+2) B.vx).set (at'+3) B.vy).set (at'+4) B.A).set (at'+5) B.B):=by rw[nO,Hgd.out,←Hat.out]
    rw[e];exact aoJ.out
   ·obtain rfl:k=n:=ae;have hnl:¬((k:Int)<(k:Int)):=ae;go_wp2;go_ret;exact⟨g,rfl,HR.out,hlo,HB.out⟩
open Cl
variable {w w':World} {b cap i len m n j:Nat} {l:List Nat} {a:Option Addr} {v bs rm dr u:Value} {B:yx} {r:Int} {zs:List (Int×Int)} {q:Addr} {L:List (Int×Int×Int×Int)} {S:Stp}
structure nQ (w:World) (b i:Nat) (B:yx) (l:List Nat):Prop where
 shape:∃a len cap,w.cell? ⟨b,i*9,none⟩=some (ag B.r)∧w.cell? ⟨b,i*9+1,none⟩=some (.slice a len cap)∧iL w B.r a len cap B.zs∧(a=none∨∃p,a=some ⟨p,0,none⟩∧p∉l)
 c2:w.cell? ⟨b,i*9+2,none⟩=some (ag B.px)
 c3:w.cell? ⟨b,i*9+3,none⟩=some (ag B.py)
 c4:w.cell? ⟨b,i*9+4,none⟩=some (ag B.vx)
 c5:w.cell? ⟨b,i*9+5,none⟩=some (ag B.vy)
 c6:w.cell? ⟨b,i*9+6,none⟩=some (ag B.im)
 c7:w.cell? ⟨b,i*9+7,none⟩=some (ag B.A)
 c8:w.cell? ⟨b,i*9+8,none⟩=some (ag B.B)
theorem nQ.at (h:nQ w b i B l):wM w b i B:=by obtain⟨a,len,cap,h0,h1,h2,_⟩:=h.shape;exact⟨⟨a,len,cap,h0,h1,h2⟩,h.c2,h.c3,h.c4,h.c5,h.c6,h.c7,h.c8⟩
theorem nQ.later (h:nQ w b i B l) (hb:aJ w w'):nQ w' b i B l:=by obtain⟨a,len,cap,h0,h1,h2,h3⟩:=h.shape;exact⟨⟨a,len,cap,ai hb h0,ai hb h1,h2.later hb,h3⟩,ai hb h.c2,ai hb h.c3,ai hb h.c4,ai hb h.c5,ai hb h.c6,ai hb h.c7,ai hb h.c8⟩
theorem zS {p:Nat} (h:iL w r (some ⟨p,0,none⟩) len cap zs):p<w.heap.size:=by
 rcases h.kind with⟨_,_,h0,_⟩|⟨_,h3,_⟩
 ·cases h0
 ·rcases h.poly with⟨h0,_⟩|⟨b,o,e,_,_,_,hc⟩
  ·cases h0
  ·obtain⟨c,_⟩:=hc 0 ae;injection e with e;injection e with e1 e2;subst e1;exact aU _ _ c
theorem nQ.wide {l':List Nat} (h:nQ w b i B l) (hl:∀x∈l',x∈l∨w.heap.size≤x):nQ w b i B l':=by
 obtain⟨a,len,cap,h0,h1,h2,h3⟩:=h.shape;refine⟨⟨a,len,cap,h0,h1,h2,?_⟩,h.c2,h.c3,h.c4,h.c5,h.c6,h.c7,h.c8⟩;rcases h3 with h3|⟨p,rfl,hp⟩
 ·exact .inl h3
 ·refine .inr ⟨p,rfl,fun hm=>?_⟩;rcases hl p hm with h|h
  ·exact hp h
  ·have:=zS h2;omega
theorem pX (h:iL w r a len cap zs) (hk:∀p,a=some p→w'.heap[p.block]?=w.heap[p.block]?):iL w' r a len cap zs:=by
 refine⟨h.kind,?_⟩;rcases h.poly with h|⟨b,o,e,h1,h2,h3,h4⟩
 ·exact .inl h
 ·refine .inr ⟨b,o,e,h1,h2,h3,fun i hi=>?_⟩;have hb:=hk _ e;obtain⟨c0,c1⟩:=h4 i hi;exact⟨(bg (a:=⟨b,o+i*2,none⟩) hb).trans c0,(bg (a:=⟨b,o+i*2+1,none⟩) hb).trans c1⟩
theorem Nv (h:iL w r a len cap zs) (hq:∀p,a=some p→p.block≠q.block) (v:Value):iL (w.setCell q v) r a len cap zs:=
 pX h fun p hp=>dI _ _ _ _ (hq p hp)
theorem nQ.Nw (h:nQ w b i B l) (hb:b≠q.block) (hq:q.block∈l) (v:Value):nQ (w.setCell q v) b i B l:=by
 obtain⟨a,len,cap,h0,h1,h2,h3⟩:=h.shape;have hk:∀o,(w.setCell q v).cell? ⟨b,o,none⟩=w.cell? ⟨b,o,none⟩:=fun o=>bg (a:=⟨b,o,none⟩) (dI _ _ _ _ hb);refine⟨⟨a,len,cap,by rw[hk];exact h0,by rw[hk];exact h1,Nv h2 (fun p hp=>?_) v,h3⟩,by rw[hk];exact h.c2,by rw[hk];exact h.c3,by rw[hk];exact h.c4,by rw[hk];exact h.c5,by rw[hk];exact h.c6,by rw[hk];exact h.c7,by rw[hk];exact h.c8⟩;rcases h3 with h3|⟨p',rfl,hp'⟩
 ·rw[h3]at hp;cases hp
 ·injection hp with hp;subst hp;intro e;simp only at e;exact hp' (e▸hq)
theorem nQ.ap0 {k:Nat} (h:nQ w b i B l) (hb:b∈l) (hs:i=k→iL w B.r a len cap B.zs∧(a=none∨∃p,a=some ⟨p,0,none⟩∧p∉l)):nQ (w.setCell ⟨b,k*9+1,none⟩ (.slice a len cap)) b i B l:=by
 have hk:∀o,o≠k*9+1→(w.setCell ⟨b,k*9+1,none⟩ (.slice a len cap)).cell? ⟨b,o,none⟩=w.cell? ⟨b,o,none⟩:=fun o ho=>by rw[au];simp[ho]
 have hp:∀{a':Option Addr} {len' cap':Nat},iL w B.r a' len' cap' B.zs→(a'=none∨∃p,a'=some ⟨p,0,none⟩∧p∉l)→iL (w.setCell ⟨b,k*9+1,none⟩ (.slice a len cap)) B.r a' len' cap' B.zs:=fun h2 h3=>by
  refine Nv h2 (fun p hp=>?_) _;rcases h3 with h3|⟨p',rfl,hp'⟩
  ·rw[h3]at hp;cases hp
  ·injection hp with hp;subst hp;intro e;simp only at e;exact hp' (e▸hb)
 obtain⟨a0,Iz,cap0,h0,h1,h2,h3⟩:=h.shape;refine⟨?_,by rw[hk _ ae];exact h.c2,by rw[hk _ ae];exact h.c3,by rw[hk _ ae];exact h.c4,by rw[hk _ ae];exact h.c5,by rw[hk _ ae];exact h.c6,by rw[hk _ ae];exact h.c7,by rw[hk _ ae];exact h.c8⟩;by_cases e:i=k
 ·subst e;obtain⟨s1,s2⟩:=hs rfl;refine⟨a,len,cap,by rw[hk _ ae];exact h0,?_,hp s1 s2,s2⟩;rw[au];simp[h1]
 ·exact⟨a0,Iz,cap0,by rw[hk _ ae];exact h0,by rw[hk _ ae];exact h1,hp h2 h3,h3⟩
def Db (w:World) (b:Nat) (L:List yx) (l:List Nat):Prop:=∀i B,L[i]?=some B→nQ w b i B l
def sV (w:World) (v:Value) (L:List (Int×Int×Int×Int)):Prop:=
 (L=[]∧(v=.slice none 0 0∨∃b,v=aZ b 0 0))∨L≠[]∧∃b cap,v=aZ b L.length cap∧∀i x,L[i]?=some x→w.cell? ⟨b,i*4,none⟩=some (ag x.1)∧w.cell? ⟨b,i*4+1,none⟩=some (ag x.2.1)∧w.cell? ⟨b,i*4+2,none⟩=some (ag x.2.2.1)∧w.cell? ⟨b,i*4+3,none⟩=some (ag x.2.2.2)
def kZ (w:World) (v:Value) (L:List (Int×Int)):Prop:=
 (L=[]∧(v=.slice none 0 0∨∃b,v=aZ b 0 0))∨L≠[]∧∃b cap,v=aZ b L.length cap∧∀i x,L[i]?=some x→w.cell? ⟨b,i*2,none⟩=some (ag x.1)∧w.cell? ⟨b,i*2+1,none⟩=some (ag x.2)
theorem sV.at (h:sV w v L):yz w v L:=by exact Dc
theorem kZ.at {L:List (Int×Int)} (h:kZ w v L):yA w v L:=by exact Dc
theorem sV.later (h:sV w v L) (hb:aJ w w'):sV w' v L:=by
 rcases h with h|⟨h0,b,cap,e,h⟩
 ·exact .inl h
 ·exact .inr ⟨h0,b,cap,e,fun i x hx=>⟨ai hb (h i x hx).1,ai hb (h i x hx).2.1,ai hb (h i x hx).2.2.1,ai hb (h i x hx).2.2.2⟩⟩
theorem kZ.later {L:List (Int×Int)} (h:kZ w v L) (hb:aJ w w'):kZ w' v L:=by
 rcases h with h|⟨h0,b,cap,e,h⟩
 ·exact .inl h
 ·exact .inr ⟨h0,b,cap,e,fun i x hx=>⟨ai hb (h i x hx).1,ai hb (h i x hx).2⟩⟩
theorem sV.Nw (h:sV w (.slice a n cap) L) (hq:L≠[]→∃g,a=some ⟨g,0,none⟩∧g≠q.block) (v:Value):sV (w.setCell q v) (.slice a n cap) L:=by
 rcases h with h|⟨h0,b,cp,e,h⟩
 ·exact .inl h
 ·obtain⟨g,rfl,hg⟩:=hq h0;have e2:g=b:=rA;subst e2;have hk:∀o,(w.setCell q v).cell? ⟨g,o,none⟩=w.cell? ⟨g,o,none⟩:=fun o=>bg (a:=⟨g,o,none⟩) (dI _ _ _ _ hg);exact .inr ⟨h0,g,cp,e,fun i x hx=>by rw[hk,hk,hk,hk];exact h i x hx⟩
theorem kZ.Nw {L:List (Int×Int)} (h:kZ w (.slice a n cap) L) (hq:L≠[]→∃g,a=some ⟨g,0,none⟩∧g≠q.block) (v:Value):kZ (w.setCell q v) (.slice a n cap) L:=by
 rcases h with h|⟨h0,b,cp,e,h⟩
 ·exact .inl h
 ·obtain⟨g,rfl,hg⟩:=hq h0;have e2:g=b:=rA;subst e2;have hk:∀o,(w.setCell q v).cell? ⟨g,o,none⟩=w.cell? ⟨g,o,none⟩:=fun o=>bg (a:=⟨g,o,none⟩) (dI _ _ _ _ hg);exact .inr ⟨h0,g,cp,e,fun i x hx=>by rw[hk,hk];exact h i x hx⟩
structure lK (w:World) (S:Stp) (bs rm dr:Value):Prop where
 bodies:∃b cap,bs=aZ b S.bodies.length cap∧Db w b S.bodies []
 f_:sV w rm S.f_
 doors:kZ w dr S.doors
theorem lK.at (h:lK w S bs rm dr):fP w S bs rm dr:=by obtain⟨b,cap,e,hb⟩:=h.bodies;exact⟨⟨b,cap,e,fun i B hB=>(hb i B hB).at⟩,h.f_.at,h.doors.at⟩
theorem lK.later (h:lK w S bs rm dr) (hb:aJ w w'):lK w' S bs rm dr:=by obtain⟨b,cap,e,hbs⟩:=h.bodies;exact⟨⟨b,cap,e,fun i B hB=>(hbs i B hB).later hb⟩,h.f_.later hb,h.doors.later hb⟩
def grid (w:World) (b m:Nat):List Value:=(List.range m).map fun j=>(w.cell? ⟨b,j,none⟩).getD (ag 0)
theorem mI (w:World) (b m:Nat):(grid w b m).length=m:=by simp[grid]
theorem xu (hj:(grid w b m)[j]?=some u) (h:∀j,j<m→∃v,w.cell? ⟨b,j,none⟩=some v∧v.oneCell'=true):w.cell? ⟨b,j,none⟩=some u:=by
 have hlt:j<m:=by have:=(List.getElem?_eq_some_iff.1 hj).1;rwa[mI]at this
 obtain⟨v,hv,_⟩:=h j hlt;unfold grid at hj;rw[List.getElem?_map,List.getElem?_range hlt]at hj;simpa[hv]using hj
theorem pR (h:w.cell? ⟨b,j,none⟩=some u) (hj:j<m):(grid w b m)[j]?=some u:=by unfold grid;rw[List.getElem?_map,List.getElem?_range hj];simp[h]
theorem Af (h:∀j,j<m→∃v,w.cell? ⟨b,j,none⟩=some v∧v.oneCell'=true):∀u∈grid w b m,u.oneCell'=true:=by
 intro u hu;obtain⟨j,hj⟩:=List.getElem?_of_mem hu;have hlt:j<m:=by have:=(List.getElem?_eq_some_iff.1 hj).1;rwa[mI]at this
 obtain⟨v,hv,hv1⟩:=h j hlt;have:=xu hj h;rw[hv]at this;injection this with this;rwa[←this]
theorem Q6 (h:iL w r a len cap zs) (ho:a=none∨∃p,a=some ⟨p,0,none⟩):
  Calls prog 67 #[.slice a len cap] w fun e w'=>∃a' cap',e=.returned (.slice a' len cap')∧iL w' r a' len cap' zs∧(a'=none∨∃p,a'=some ⟨p,0,none⟩∧w.heap.size≤p)∧aJ w w':=by
 rcases h.kind with⟨rfl,rfl,rfl,rfl,hr⟩|⟨rfl,h3,h6,hbd,hcv⟩
 ·refine(KM w).mono ?_;rintro e w' ⟨rfl,rfl⟩;exact⟨none,0,rfl,h,.inl rfl,aK _ _⟩
 ·rcases h.poly with⟨_,h0,_⟩|⟨b,o,rfl,hl,_,_,hc⟩
  ·omega
  ·obtain⟨p,hp⟩:∃p,(some ⟨b,o,none⟩:Option Addr)=some ⟨p,0,none⟩:=by
    rcases ho with ho|ho
    ·cases ho
    ·exact ho
   injection hp with hp;injection hp with pG tH;subst pG tH;have hg:∀j,j<len*2→∃v,w.cell? ⟨b,j,none⟩=some v∧v.oneCell'=true:=by
    intro j hj;obtain⟨c0,c1⟩:=hc (j/2) ae;by_cases hm:j%2=0
    ·have:0+j/2*2=j:=ae;rw[this]at c0;exact⟨_,c0,rfl⟩
    ·have:0+j/2*2+1=j:=ae;rw[this]at c1;exact⟨_,c1,rfl⟩
   refine(KN (xs:=grid w b (len*2)) ae ae (mI _ _ _) (fun j u hj=>xu hj hg) (Af hg)).mono ?_;rintro e w' ⟨v,rfl,hn,hb⟩;obtain⟨g,cap',rfl,BB,hgc,_,bW,gX⟩:=hn.ex;refine⟨some ⟨g,0,none⟩,cap',rfl,⟨.inr ⟨rfl,h3,h6,hbd,hcv⟩,.inr ⟨g,0,rfl,hl,bW,gX,fun i hi=>?_⟩⟩,.inr ⟨g,rfl,BB⟩,hb⟩;obtain⟨c0,c1⟩:=hc i hi;exact⟨hgc _ _ (pR c0 ae),hgc _ _ (pR c1 ae)⟩
theorem Q7 {L:List yx} (h:Db w b L l) (hL:1≤L.length∧L.length≤24):
  Calls prog 66 #[aZ b L.length cap] w fun e w'=>∃g cap',e=.returned (aZ g L.length cap')∧w.heap.size≤g∧Db w' g L (g::l)∧(∀j,w'.frozen? ⟨g,j,none⟩=false)∧aJ w w':=by
 have hg:∀j,j<L.length*9→∃v,w.cell? ⟨b,j,none⟩=some v∧v.oneCell'=true:=by
  intro j hj;obtain⟨B,hB⟩:∃B,L[j/9]?=some B:=⟨_,ik ae⟩
  have hx:=h _ B hB;obtain⟨a,len,cp,s0,s1,_⟩:=hx.shape;have hj9:j=j/9*9+j%9:=ae;have hr:j%9<9:=ae;generalize j/9=i at*;generalize j%9=r at*;subst hj9;match r,hr with
  |0,_=>exact⟨_,s0,rfl⟩
  |1,_=>exact⟨_,s1,rfl⟩
  |2,_=>exact⟨_,hx.c2,rfl⟩
  |3,_=>exact⟨_,hx.c3,rfl⟩
  |4,_=>exact⟨_,hx.c4,rfl⟩
  |5,_=>exact⟨_,hx.c5,rfl⟩
  |6,_=>exact⟨_,hx.c6,rfl⟩
  |7,_=>exact⟨_,hx.c7,rfl⟩
  |8,_=>exact⟨_,hx.c8,rfl⟩
  |r+9,h=>omega
 refine(IY (xs:=grid w b (L.length*9)) hL.1 ae (mI _ _ _) (fun j u hj=>xu hj hg) (Af hg)).mono ?_;rintro e w' ⟨v,rfl,hn,hb⟩;obtain⟨g,cap',rfl,BB,hgc,hfr,_⟩:=hn.ex;refine⟨g,cap',rfl,BB,fun i B hB=>?_,hfr,hb⟩;have hi:=(List.getElem?_eq_some_iff.1 hB).1;have hx:=h _ B hB;obtain⟨a,len,cp,s0,s1,s2,s3⟩:=hx.shape;have cc:∀o u,o<9→w.cell? ⟨b,i*9+o,none⟩=some u→w'.cell? ⟨g,i*9+o,none⟩=some u:=fun o u ho hu=>hgc _ _ (pR hu ae);have s4:a=none∨∃p,a=some ⟨p,0,none⟩∧p∉g::l:=by
  rcases s3 with s3|⟨p,rfl,hp⟩
  ·exact .inl s3
  ·refine .inr ⟨p,rfl,fun hm=>?_⟩;have:=zS s2;rcases List.mem_cons.1 hm with e|hm
   ·omega
   ·exact hp hm
 exact⟨⟨a,len,cp,cc 0 _ ae s0,cc 1 _ ae s1,s2.later hb,s4⟩,cc 2 _ ae hx.c2,cc 3 _ ae hx.c3,cc 4 _ ae hx.c4,cc 5 _ ae hx.c5,cc 6 _ ae hx.c6,cc 7 _ ae hx.c7,cc 8 _ ae hx.c8⟩
theorem Vy (h:sV w v L) (hL:L.length≤100):
  Calls prog 68 #[v] w fun e w'=>∃a cap',e=.returned (.slice a L.length cap')∧sV w' (.slice a L.length cap') L∧(L≠[]→∃g,a=some ⟨g,0,none⟩∧w.heap.size≤g)∧aJ w w':=by
 rcases h with⟨rfl,rfl|⟨b,rfl⟩⟩|⟨h0,b,cap,rfl,h⟩
 ·refine(KO w).mono ?_;rintro e w' ⟨rfl,rfl⟩;exact⟨none,0,rfl,.inl ⟨rfl,.inl rfl⟩,fun h=>absurd rfl h,aK _ _⟩
 ·refine(IZ w b 0).mono ?_;rintro e w' ⟨g,rfl,hb⟩;exact⟨_,0,rfl,.inl ⟨rfl,.inr ⟨g,rfl⟩⟩,fun h=>absurd rfl h,hb⟩
 ·have hlen:1≤L.length:=by
   cases L with
   |nil=>exact absurd rfl h0
   |cons a l=>simp
  have hg:∀j,j<L.length*4→∃v,w.cell? ⟨b,j,none⟩=some v∧v.oneCell'=true:=by
   intro j hj;obtain⟨x,hx⟩:∃x,L[j/4]?=some x:=⟨_,ik ae⟩
   obtain⟨c0,c1,c2,c3⟩:=h _ x hx;have hj9:j=j/4*4+j%4:=ae;have hr:j%4<4:=ae;generalize j/4=i at*;generalize j%4=r at*;subst hj9;match r,hr with
   |0,_=>exact⟨_,c0,rfl⟩
   |1,_=>exact⟨_,c1,rfl⟩
   |2,_=>exact⟨_,c2,rfl⟩
   |3,_=>exact⟨_,c3,rfl⟩
   |r+4,h=>omega
  refine(KP (xs:=grid w b (L.length*4)) hlen ae (mI _ _ _) (fun j u hj=>xu hj hg) (Af hg)).mono ?_;rintro e w' ⟨v,rfl,hn,hb⟩;obtain⟨g,cap',rfl,BB,hgc,_⟩:=hn.ex;refine⟨_,cap',rfl,.inr ⟨h0,g,cap',rfl,fun i x hx=>?_⟩,fun _=>⟨g,rfl,BB⟩,hb⟩;have hi:=(List.getElem?_eq_some_iff.1 hx).1;obtain⟨c0,c1,c2,c3⟩:=h _ x hx;exact⟨hgc _ _ (pR c0 ae),hgc _ _ (pR c1 ae),hgc _ _ (pR c2 ae),hgc _ _ (pR c3 ae)⟩
theorem Q8 {L:List (Int×Int)} (h:kZ w v L) (hL:L.length≤100):
  Calls prog 69 #[v] w fun e w'=>∃a cap',e=.returned (.slice a L.length cap')∧kZ w' (.slice a L.length cap') L∧(L≠[]→∃g,a=some ⟨g,0,none⟩∧w.heap.size≤g)∧aJ w w':=by
 rcases h with⟨rfl,rfl|⟨b,rfl⟩⟩|⟨h0,b,cap,rfl,h⟩
 ·refine(I4 w).mono ?_;rintro e w' ⟨rfl,rfl⟩;exact⟨none,0,rfl,.inl ⟨rfl,.inl rfl⟩,fun h=>absurd rfl h,aK _ _⟩
 ·refine(Gu w b 0).mono ?_;rintro e w' ⟨g,rfl,hb⟩;exact⟨_,0,rfl,.inl ⟨rfl,.inr ⟨g,rfl⟩⟩,fun h=>absurd rfl h,hb⟩
 ·have hlen:1≤L.length:=by
   cases L with
   |nil=>exact absurd rfl h0
   |cons a l=>simp
  have hg:∀j,j<L.length*2→∃v,w.cell? ⟨b,j,none⟩=some v∧v.oneCell'=true:=by
   intro j hj;obtain⟨x,hx⟩:∃x,L[j/2]?=some x:=⟨_,ik ae⟩
   obtain⟨c0,c1⟩:=h _ x hx;have hj9:j=j/2*2+j%2:=ae;have hr:j%2<2:=ae;generalize j/2=i at*;generalize j%2=r at*;subst hj9;match r,hr with
   |0,_=>exact⟨_,c0,rfl⟩
   |1,_=>exact⟨_,c1,rfl⟩
   |r+2,h=>omega
  refine(I5 (xs:=grid w b (L.length*2)) hlen ae (mI _ _ _) (fun j u hj=>xu hj hg) (Af hg)).mono ?_;rintro e w' ⟨v,rfl,hn,hb⟩;obtain⟨g,cap',rfl,BB,hgc,_⟩:=hn.ex;refine⟨_,cap',rfl,.inr ⟨h0,g,cap',rfl,fun i x hx=>?_⟩,fun _=>⟨g,rfl,BB⟩,hb⟩;have hi:=(List.getElem?_eq_some_iff.1 hx).1;obtain⟨c0,c1⟩:=h _ x hx;exact⟨hgc _ _ (pR c0 ae),hgc _ _ (pR c1 ae)⟩
end La
namespace Se
open Go.RowKit aN fO Qt Ro Bk Sh Cl La
attribute [local go_sem] Oper.semAt_some
variable {zs:List (Int×Int)}
theorem abP {w:World} {b:Nat} {n:Nat} (hn:zs.length=n) (h3:3≤n) (h6:n≤6) (hb:Bd zs 32768) (hc:cvx zs=true) (h:∀i,i<n→w.cell? ⟨b,i*2,none⟩=some (ag (vx zs i))∧w.cell? ⟨b,i*2+1,none⟩=some (ag (vy zs i))):iL w 0 (some ⟨b,0,none⟩) n n zs:=
 ⟨.inr ⟨rfl,h3,h6,hb,hc⟩,.inr ⟨b,0,rfl,hn,aH _,by simp only[maxLen];omega,fun i hi=>by rw[Nat.zero_add];exact h i hi⟩⟩
theorem Q5 {B:Int} (hB:0≤B) (h:∀z∈zs,-B≤z.1∧z.1≤B∧-B≤z.2∧z.2≤B):Bd zs B:=by
 intro i;unfold vx vy;rw[List.getD_eq_getElem?_getD];cases hz:zs[i]? with
 |none=>simp only[Option.getD_none];omega
 |some z=>exact h z (qo hz)
theorem Nu (n:Int) (w:World) (h0: -9223372036854775808≤n) (h1:n≤9223372036854775807):
  Calls prog 54 #[ag n] w fun e w'=>∃r a len cap zs,e=.returned (.agg #[ag r,.slice a len cap])∧iL w' r a len cap zs∧(a=none∨∃p,a=some ⟨p,0,none⟩∧w.heap.size≤p)∧aJ w w':=by
 have Hha:=ah fun(V:World)=>nR n 1000 V h0 h1 bL bL;have hb:=AQ n 1000 bL;generalize Mj n 1000=k at*;obtain⟨a1,d1,b1⟩:∃x,k.tdiv 7=x∧0≤x∧x≤142:=⟨_,rfl,by rw[Int.tdiv_eq_ediv_of_nonneg hb.1];omega⟩
 obtain⟨a2,d2,b2⟩:∃x,a1.tmod 5=x∧0≤x∧x≤4:=⟨_,rfl,by rw[Int.tmod_eq_emod_of_nonneg b1.1];omega⟩
 obtain⟨a3,d3,b3⟩:∃x,k.tmod 7=x∧0≤x∧x≤6:=⟨_,rfl,by rw[Int.tmod_eq_emod_of_nonneg hb.1];omega⟩
 clear h0 h1;have cZ:=au;obtain⟨r,hr⟩:∃r,r=512*(1+a2):=⟨_,rfl⟩
 have hr5:r=512∨r=1024∨r=1536∨r=2048∨r=2560:=ae;have hbr:512≤r∧r≤2560:=ae;have Hr5:=ah hr5;have Hr:=ah hr;clear hr5 hr;have s:a3=0∨a3=1∨a3=2∨a3=3∨a3=4∨a3=5∨a3=6:=ae;have K:=fun(zs:List (Int×Int)) (n:Nat) (b:Nat) (w':World) (hn:zs.length=n) (h3:3≤n∧n≤6)=>abP (w:=w') (b:=b) hn h3.1 h3.2;rcases s with rfl|rfl|rfl|rfl|rfl|rfl|rfl;all_goals
  have gY:=results54
  go_enter func54,ntmps54
  go_upto_region 3 with(first|((with_reducible refine(Hha.out _).mono ?_);rintro e w1 ⟨rfl,rfl⟩))
  rw[←Hr.out]
  clear b2 d1 d2 b1
  go_wp2
 iterate 3
  ·refine bodyPost_ret (v:=.agg #[ag r,.slice none 0 0]) rz rfl ⟨r,none,0,0,[],rfl,⟨.inl ⟨rfl,rfl,rfl,rfl,ae,ae⟩,.inl ⟨rfl,rfl,rfl,rfl⟩⟩,.inl rfl,by exact aG⟩
 iterate 2
  ·refine bodyPost_ret (v:=.agg #[ag 0,.slice (some ⟨w.heap.size+1,0,none⟩) 4 4]) rz rfl ⟨0,_,4,4,[(-r,-r),(r,-r),(r,r),(-r,r)],rfl,K _ _ _ _ rfl ae (Q5 bL bU) ?_ (fun i hi=>?_),.inr ⟨_,rfl,ae⟩,by exact aG⟩
   ·rcases Hr5.out with h|h|h|h|h<;>subst h<;>decide
   ·obtain rfl|rfl|rfl|rfl:i=0∨i=1∨i=2∨i=3:=ae
    all_goals simp[cZ,aQ,vx,vy]
 ·refine bodyPost_ret (v:=.agg #[ag 0,.slice (some ⟨w.heap.size+1,0,none⟩) 3 3]) rz rfl ⟨0,_,3,3,[(-r,-r),(r,-r),(0,r)],rfl,K _ _ _ _ rfl ae (Q5 bL bU) ?_ (fun i hi=>?_),.inr ⟨_,rfl,ae⟩,by exact aG⟩
  ·rcases Hr5.out with h|h|h|h|h<;>subst h<;>decide
  ·obtain rfl|rfl|rfl:i=0∨i=1∨i=2:=ae;all_goals simp[cZ,aQ,vx,vy]
 ·refine bodyPost_ret (v:=.agg #[ag 0,.slice (some ⟨w.heap.size+1,0,none⟩) 4 4]) rz rfl ⟨0,_,4,4,[(-2*r,-300),(2*r,-300),(2*r,300),(-2*r,300)],rfl,K _ _ _ _ rfl ae (Q5 bL bU) ?_ (fun i hi=>?_),.inr ⟨_,rfl,ae⟩,by exact aG⟩
  ·rcases Hr5.out with h|h|h|h|h<;>subst h<;>decide
  ·obtain rfl|rfl|rfl|rfl:i=0∨i=1∨i=2∨i=3:=ae;all_goals simp[cZ,aQ,vx,vy]
end Se
end Go.Proofs.YtohpdonnpbjfdaaGreatDoor
