/- What is shown: package resolve. Conditions: as each theorem states. -/
import Derived.BigRegion
import Derived.RegionTactic
import Derived.Test.YtohpdonnpbjfdaaGreatDoorY13
set_option maxHeartbeats 40000000
set_option maxRecDepth 100000
set_option linter.unusedVariables false
set_option linter.unusedSimpArgs false
open Go.Proofs.Tryz
namespace Go.Proofs.YtohpdonnpbjfdaaGreatDoor
theorem Ep {P Q:Prop} (q:Q) (h:RowKit.Hid Q→P:=by first|(intro kk;(with_reducible refine(qY _ _ _ _ _ _ _ st.OH st.WC st.WG st.WH st.WI).mono ?_);rintro e1 w1 ⟨rfl,aO⟩;have st:=st.later aO;have LD:=st.SC;have LF:=st.ac7;have LG:=st.ac8;have LH:=st.ac9;have LJ:=st.ac_;have LK:=st.SE;have LM:=st.ada;have LP:=st.adb;have LQ:=st.ade;have LU:=st.adf;have SN:=st.adg;have SQ:=st.adh;have cZ:=au;revert cZ SQ SN LU LQ LP LM LK LJ LH LG LF LD st aO w1;exact kk.out)|fail):P:=h (ah q)
theorem Eu {P Q:Prop} (q:Q) (h:RowKit.Hid Q→P:=by first|(intro kk;(with_reducible refine(qY _ _ _ _ _ _ _ st.OG st.Wv st.Ww st.Wy st.WB).mono ?_);rintro e1 w1 ⟨rfl,aO⟩;have st:=st.later aO;have dJ:=st.zA;have dK:=st.zB;have fo:=st.SG;revert fo dK dJ st aO w1;exact kk.out)|fail):P:=h (ah q)
theorem Ex {P Q:Prop} (q:Q) (h:RowKit.Hid Q→P:=by first|(intro kk;(with_reducible refine(C3H.out _ _ _ _ _ _ _ _ st).out.mono ?_);rintro e1 w1 ⟨rfl,hu⟩;have st:=st.ama hu;have dJ:=st.zA;have dK:=st.zB;have fo:=st.SG;revert fo dK dJ st hu w1;exact kk.out)|fail):P:=h (ah q)
theorem Ey {P Q:Prop} (q:Q) (h:RowKit.Hid Q→P:=by first|(intro kk;(with_reducible refine(C4H.out _ _ _ _ _ _ _ _ st).out.mono ?_);rintro e1 w1 ⟨rfl,hu⟩;have st:=st.amb hu;have dJ:=st.zA;have dK:=st.zB;have fo:=st.SG;revert fo dK dJ st hu w1;exact kk.out)|fail):P:=h (ah q)
theorem Ez {P Q:Prop} (q:Q) (h:RowKit.Hid Q→P:=by first|(intro kk;(with_reducible refine(HDa.out _).mono ?_);rintro e1 w1 ⟨rfl,aO⟩;have st:=st.later aO;have dJ:=st.zA;have dK:=st.zB;have fo:=st.SG;revert fo dK dJ st aO w1;exact kk.out)|fail):P:=h (ah q)
theorem EC {P Q:Prop} (q:Q) (h:RowKit.Hid Q→P:=by first|(intro kk;(with_reducible refine(HDb.out _).mono ?_);rintro e1 w1 ⟨rfl,aO⟩;have st:=st.later aO;have dJ:=st.zA;have dK:=st.zB;have fo:=st.SG;revert fo dK dJ st aO w1;exact kk.out)|fail):P:=h (ah q)
theorem EE {P:Prop} (h:P:=by simp[results,gY,go_sem,au,LD,LF,LG,LH,LJ,LK,LM,LP,LQ,LU]):P:=h
theorem Eb {P:Prop} (h:P:=by
 clear hal bu;have Ig:=st.ZZ;have Ih:=st.Z0;have Ii:=st.Z4;have Ij:=st.Z5;have PW:=st.ZR;have PX:=st.ZT;refine fG aL aL fun NL hL=>?_;have k2:∀x:dh W,x.out.cell? ⟨w.heap.size,2,none⟩=some (ag vx):=fun x=>fB x Ig;have k3:∀x:dh W,x.out.cell? ⟨w.heap.size,3,none⟩=some (ag vy):=fun x=>fB x Ih;have k4:∀x:dh W,x.out.cell? ⟨w.heap.size+1,2,none⟩=some (ag ux):=fun x=>fB x Ii;have k5:∀x:dh W,x.out.cell? ⟨w.heap.size+1,3,none⟩=some (ag uy):=fun x=>fB x Ij;have k6:∀x:dh W,x.out.cell? ⟨w.heap.size+1+1,0,none⟩=some (ag nx):=fun x=>fB x PW;have k7:∀x:dh W,x.out.cell? ⟨w.heap.size+1+1,1,none⟩=some (ag ny):=fun x=>fB x PX;clear hL Ig Ih Ii Ij PW PX;repeat(go_big_quiet_step (first|(with_reducible exact aY (HS.out _))|(with_reducible exact aY (HD.out _))))
 clear k2 k3 k4 k5 k6 k7;refine wpQuiet_nil ?_;intro w1 iI;obtain⟨⟨w1,aO⟩,rfl⟩:=iI;have st:=st.later aO;have dJ:=st.zA;have dK:=st.zB;have fo:=st.SG;go_wp2_with (first|((with_reducible refine(HJ.out _).mono ?_);rintro e1 w1 ⟨rfl,aO⟩;clear dJ dK fo;have st:=st.later aO;have dJ:=st.zA;have dK:=st.zB;have fo:=st.SG)|((with_reducible refine(HA.out _).mono ?_);rintro e1 w1 ⟨rfl,aO⟩;clear dJ dK fo;have st:=st.later aO;have dJ:=st.zA;have dK:=st.zB;have fo:=st.SG)|((with_reducible refine(HB.out _).mono ?_);rintro e1 w1 ⟨rfl,aO⟩;clear dJ dK fo;have st:=st.later aO;have dJ:=st.zA;have dK:=st.zB;have fo:=st.SG)|(refine Ez ?_;clear dJ dK fo;intro w1 aO st dJ dK fo)|(refine EC ?_;clear dJ dK fo;intro w1 aO st dJ dK fo)|((with_reducible refine(C1H.out _ _ _ _ _ _ _ _ st).out.mono ?_);rintro e1 w1 ⟨rfl,hu⟩;clear dJ dK fo;have st:=st.ama hu;have dJ:=st.zA;have dK:=st.zB;have fo:=st.SG)|((with_reducible refine(C2H.out _ _ _ _ _ _ _ _ st).out.mono ?_);rintro e1 w1 ⟨rfl,hu⟩;clear dJ dK fo;have st:=st.amb hu;have dJ:=st.zA;have dK:=st.zB;have fo:=st.SG)|(refine Ex ?_;clear dJ dK fo;intro w1 hu st dJ dK fo)|(refine Ey ?_;clear dJ dK fo;intro w1 hu st dJ dK fo)|(refine Eu ?_;clear dJ dK fo;intro w1 aO st dJ dK fo)|(refine Ep ?_;clear dJ dK fo;intro w1 aO st LD LF LG LH LJ LK LM LP LQ LU SN SQ cZ));have hw2:=st.below;refine bodyPost_ret (v:=.tuple #[.agg #[ag (g_ (px-eP (nx*da) 1024) (-1048576) 1048576),ag (g_ (py-eP (ny*da) 1024) (-1048576) 1048576),ag (g_ (vx-eP (nx*ja) 1024) (-16384) 16384),ag (g_ (vy-eP (ny*ja) 1024) (-16384) 16384),ag am],.agg #[ag (g_ (qx+eP (nx*db) 1024) (-1048576) 1048576),ag (g_ (qy+eP (ny*db) 1024) (-1048576) 1048576),ag (g_ (ux+eP (nx*jb) 1024) (-16384) 16384),ag (g_ (uy+eP (ny*jb) 1024) (-16384) 16384),ag bm]]) EE rfl ⟨rfl,?_⟩;repeat(refine Below.setCell ?_ bU _)
 exact hw2):P:=h
theorem Ea {P:Prop} (h:P:=by
 clear hal bu;have Ig:=st.ZZ;have Ih:=st.Z0;have Ii:=st.Z4;have Ij:=st.Z5;have PW:=st.ZR;have PX:=st.ZT;refine fG aL aL fun NL hL=>?_;have k2:∀x:dh W,x.out.cell? ⟨w.heap.size,2,none⟩=some (ag vx):=fun x=>fB x Ig;have k3:∀x:dh W,x.out.cell? ⟨w.heap.size,3,none⟩=some (ag vy):=fun x=>fB x Ih;have k4:∀x:dh W,x.out.cell? ⟨w.heap.size+1,2,none⟩=some (ag ux):=fun x=>fB x Ii;have k5:∀x:dh W,x.out.cell? ⟨w.heap.size+1,3,none⟩=some (ag uy):=fun x=>fB x Ij;have k6:∀x:dh W,x.out.cell? ⟨w.heap.size+1+1,0,none⟩=some (ag nx):=fun x=>fB x PW;have k7:∀x:dh W,x.out.cell? ⟨w.heap.size+1+1,1,none⟩=some (ag ny):=fun x=>fB x PX;clear hL Ig Ih Ii Ij PW PX;repeat(go_big_quiet_step (first|(with_reducible exact aY (HS.out _))|(with_reducible exact aY (HD.out _))))
 clear k2 k3 k4 k5 k6 k7;refine wpQuiet_nil ?_;intro w1 iI;obtain⟨⟨w1,aO⟩,rfl⟩:=iI;have st:=st.later aO;have dJ:=st.zA;have dK:=st.zB;have fo:=st.SG;go_wp2_with (first|(refine Ez ?_;clear dJ dK fo;intro w1 aO st dJ dK fo)|(refine EC ?_;clear dJ dK fo;intro w1 aO st dJ dK fo)|(refine Ex ?_;clear dJ dK fo;intro w1 hu st dJ dK fo)|(refine Ey ?_;clear dJ dK fo;intro w1 hu st dJ dK fo)|(refine Eu ?_;clear dJ dK fo;intro w1 aO st dJ dK fo)|(refine Ep ?_;clear dJ dK fo;intro w1 aO st LD LF LG LH LJ LK LM LP LQ LU SN SQ cZ));have hw2:=st.below;refine bodyPost_ret (v:=.tuple #[.agg #[ag (g_ (px-eP (nx*da) 1024) (-1048576) 1048576),ag (g_ (py-eP (ny*da) 1024) (-1048576) 1048576),ag (g_ (vx) (-16384) 16384),ag (g_ (vy) (-16384) 16384),ag am],.agg #[ag (g_ (qx+eP (nx*db) 1024) (-1048576) 1048576),ag (g_ (qy+eP (ny*db) 1024) (-1048576) 1048576),ag (g_ (ux) (-16384) 16384),ag (g_ (uy) (-16384) 16384),ag bm]]) EE rfl ⟨rfl,?_⟩;repeat(refine Below.setCell ?_ bU _)
 exact hw2):P:=h
namespace Re
open Go.RowKit aN fO Qt Ve
theorem pz {a A:Int} (h0: -A≤a) (h1:a≤A): -A-1≤eP a 1024∧eP a 1024≤A:=by have:=agS a 1024;omega
theorem OD (px py vx vy am qx qy ux uy bm nx ny d e vn j ja jb da db:Int) (w:World) (hm:((am+bm)==0)=false) (tF: -1000000≤am+bm) (Tt:am+bm≤1000000) (hv:vn<0) (hv2: -1099511627776≤vn) (hv3:vn≤1099511627776) (he:0≤e) (he2:e≤1099511627776)
  (yT: -1024≤nx) (Mg:nx≤1024) (ny0: -1024≤ny) (ny1:ny≤1024) (ja0: -1099511627776≤ja) (ja1:ja≤1099511627776) (jb0: -1099511627776≤jb) (jb1:jb≤1099511627776) (da0: -1099511627776≤da) (da1:da≤1099511627776) (db0: -1099511627776≤db) (db1:db≤1099511627776)
  (px0: -1099511627776≤px) (px1:px≤1099511627776) (py0: -1099511627776≤py) (py1:py≤1099511627776) (vx0: -1099511627776≤vx) (vx1:vx≤1099511627776) (vy0: -1099511627776≤vy) (vy1:vy≤1099511627776) (qx0: -1099511627776≤qx) (qx1:qx≤1099511627776) (qy0: -1099511627776≤qy) (qy1:qy≤1099511627776) (ux0: -1099511627776≤ux) (ux1:ux≤1099511627776) (uy0: -1099511627776≤uy) (uy1:uy≤1099511627776)
  (HS:Hid (dZ prog 140 #[.agg #[ag ux,ag uy],.agg #[ag vx,ag vy]] (.agg #[ag (ux-vx),ag (uy-vy)]))) (HD:Hid (dZ prog 139 #[.agg #[ag (ux-vx),ag (uy-vy)],.agg #[ag nx,ag ny]] (ag vn)))
  (HJ:Hid (dZ prog 143 #[ag (-vn),ag (1024+e),ag (am+bm)] (ag j))) (HA:Hid (dZ prog 113 #[ag j,ag am] (ag ja))) (HB:Hid (dZ prog 113 #[ag j,ag bm] (ag jb)))
  (HDa:Hid (dZ prog 143 #[ag d,ag am,ag (am+bm)] (ag da))) (HDb:Hid (dZ prog 143 #[ag d,ag bm,ag (am+bm)] (ag db))):
  Calls prog 115 #[.agg #[ag px,ag py,ag vx,ag vy,ag am],.agg #[ag qx,ag qy,ag ux,ag uy,ag bm],.agg #[ag nx,ag ny,ag d],ag e] w fun e' w'=>e'=.returned (.tuple #[.agg #[ag (g_ (px-eP (nx*da) 1024) (-1048576) 1048576),ag (g_ (py-eP (ny*da) 1024) (-1048576) 1048576),ag (g_ (vx-eP (nx*ja) 1024) (-16384) 16384),ag (g_ (vy-eP (ny*ja) 1024) (-16384) 16384),ag am],.agg #[ag (g_ (qx+eP (nx*db) 1024) (-1048576) 1048576),ag (g_ (qy+eP (ny*db) 1024) (-1048576) 1048576),ag (g_ (ux+eP (nx*jb) 1024) (-16384) 16384),ag (g_ (uy+eP (ny*jb) 1024) (-16384) 16384),ag bm]])∧aJ w w':=by
 refine az ?_;intro hal bu;have ZV:=d_ (a:=nx) (b:=ja) (A:=1024) (B:=1099511627776) ae ae ja0 ja1;have al7:=pz ZV.1 ZV.2;have ZW:=d_ (a:=ny) (b:=ja) (A:=1024) (B:=1099511627776) ae ae ja0 ja1;have al8:=pz ZW.1 ZW.2;have ZX:=d_ (a:=nx) (b:=jb) (A:=1024) (B:=1099511627776) ae ae jb0 jb1;have al9:=pz ZX.1 ZX.2;have ZY:=d_ (a:=ny) (b:=jb) (A:=1024) (B:=1099511627776) ae ae jb0 jb1;have al_:=pz ZY.1 ZY.2;have Ht:=d_ (a:=nx) (b:=da) (A:=1024) (B:=1099511627776) ae ae da0 da1;have ZM:=pz Ht.1 Ht.2;have Hu:=d_ (a:=ny) (b:=da) (A:=1024) (B:=1099511627776) ae ae da0 da1;have ZN:=pz Hu.1 Hu.2;have Hy:=d_ (a:=nx) (b:=db) (A:=1024) (B:=1099511627776) ae ae db0 db1;have ZO:=pz Hy.1 Hy.2;have H7:=d_ (a:=ny) (b:=db) (A:=1024) (B:=1099511627776) ae ae db0 db1;have ZP:=pz H7.1 H7.2;have C1:=fun(W:World) (b1 b2 r1 r2 c ka kb:Nat) (st:St w W b1 b2 r1 r2 c ka kb (px) (py) (vx) (vy) (am) (qx) (qy) (ux) (uy) (bm) nx ny d vx vy ux uy)=>ah (Fg b1 c (px) (py) (vx) (vy) am nx ny ja W st.OG st.Wv st.Ww st.Wy st.WB st.ZQ st.ZR st.ZT ae ae ae ae ae ae ae ae);have C1H:=ah C1;clear C1;have C2:=fun(W:World) (b1 b2 r1 r2 c ka kb:Nat) (st:St w W b1 b2 r1 r2 c ka kb (px) (py) (vx-eP (nx*ja) 1024) (vy-eP (ny*ja) 1024) (am) (qx) (qy) (ux) (uy) (bm) nx ny d vx vy ux uy)=>ah (H_ b2 c (qx) (qy) (ux) (uy) bm nx ny jb W st.OH st.WC st.WG st.WH st.WI st.ZU st.ZR st.ZT ae ae ae ae ae ae ae ae);have C2H:=ah C2;clear C2;have C3:=fun(W:World) (b1 b2 r1 r2 c ka kb:Nat) (st:St w W b1 b2 r1 r2 c ka kb (px) (py) (vx-eP (nx*ja) 1024) (vy-eP (ny*ja) 1024) (am) (qx) (qy) (ux+eP (nx*jb) 1024) (uy+eP (ny*jb) 1024) (bm) nx ny d vx vy ux uy)=>ah (xZ b1 c (px) (py) (vx-eP (nx*ja) 1024) (vy-eP (ny*ja) 1024) am nx ny da W st.OG st.Wv st.Ww st.Wy st.WB st.ZQ st.ZR st.ZT ae ae ae ae ae ae ae ae);have C3H:=ah C3;clear C3;have C4:=fun(W:World) (b1 b2 r1 r2 c ka kb:Nat) (st:St w W b1 b2 r1 r2 c ka kb (px-eP (nx*da) 1024) (py-eP (ny*da) 1024) (vx-eP (nx*ja) 1024) (vy-eP (ny*ja) 1024) (am) (qx) (qy) (ux+eP (nx*jb) 1024) (uy+eP (ny*jb) 1024) (bm) nx ny d vx vy ux uy)=>ah (x8 b2 c (qx) (qy) (ux+eP (nx*jb) 1024) (uy+eP (ny*jb) 1024) bm nx ny db W st.OH st.WC st.WG st.WH st.WI st.ZU st.ZR st.ZT ae ae ae ae ae ae ae ae);have C4H:=ah C4;clear C4;clear ZV al7 ZW al8 ZX al9 ZY al_ Ht ZM Hu ZN Hy ZO H7 ZP px0 px1 py0 py1 vx0 vx1 vy0 vy1 qx0 qx1 qy0 qy1 ux0 ux1 uy0 uy1 yT Mg ny0 ny1 ja0 ja1 jb0 jb1 da0 da1 db0 db1;have gY:=results115;go_enter func115,ntmps115;go_wp2;go_region;all_goals go_wp2
 ·refine(fun(key:∀W:World,St w W (w.heap.size+1+1+1+1+1) (w.heap.size+1+1+1+1+1+1) (w.heap.size+1+1+1) (w.heap.size+1+1+1+1) (w.heap.size+1+1) w.heap.size (w.heap.size+1) px py vx vy am qx qy ux uy bm nx ny d vx vy ux uy→Code.wp _ _ _ _ W) (pf:St w _ (w.heap.size+1+1+1+1+1) (w.heap.size+1+1+1+1+1+1) (w.heap.size+1+1+1) (w.heap.size+1+1+1+1) (w.heap.size+1+1) w.heap.size (w.heap.size+1) px py vx vy am qx qy ux uy bm nx ny d vx vy ux uy)=>key _ pf) ?_ ?_
  ·intro W st;exact Eb
  ·apply St.mk;case below=>exact lu
   all_goals first|omega|(simp[aQ,dL,↓IntWalk.iteOmega];done)
 ·refine(fun(key:∀W:World,St w W (w.heap.size+1+1+1+1+1+1) (w.heap.size+1+1+1+1+1) (w.heap.size+1+1+1) (w.heap.size+1+1+1+1) (w.heap.size+1+1) w.heap.size (w.heap.size+1) px py vx vy am qx qy ux uy bm nx ny d vx vy ux uy→Code.wp _ _ _ _ W) (pf:St w _ (w.heap.size+1+1+1+1+1+1) (w.heap.size+1+1+1+1+1) (w.heap.size+1+1+1) (w.heap.size+1+1+1+1) (w.heap.size+1+1) w.heap.size (w.heap.size+1) px py vx vy am qx qy ux uy bm nx ny d vx vy ux uy)=>key _ pf) ?_ ?_
  ·intro W st;exact Eb
  ·apply St.mk;case below=>exact lu
   all_goals first|omega|(simp[aQ,dL,↓IntWalk.iteOmega];done)
theorem Lj (px py vx vy am qx qy ux uy bm nx ny d e:Int) (w:World) (hm:((am+bm)==0)=true) (tF: -1000000≤am+bm) (Tt:am+bm≤1000000):
  Calls prog 115 #[.agg #[ag px,ag py,ag vx,ag vy,ag am],.agg #[ag qx,ag qy,ag ux,ag uy,ag bm],.agg #[ag nx,ag ny,ag d],ag e] w fun e' w'=>e'=.returned (.tuple #[.agg #[ag px,ag py,ag vx,ag vy,ag am],.agg #[ag qx,ag qy,ag ux,ag uy,ag bm]])∧aJ w w':=by
 refine az ?_;intro hal bu;have gY:=results115;go_enter func115,ntmps115;go_wp2;go_region;all_goals
  go_wp2
  refine bodyPost_ret (v:=.tuple #[.agg #[ag px,ag py,ag vx,ag vy,ag am],.agg #[ag qx,ag qy,ag ux,ag uy,ag bm]]) eU rfl ⟨rfl,?_⟩
  exact lu
theorem OE (px py vx vy am qx qy ux uy bm nx ny d e vn j ja jb da db:Int) (w:World) (hm:((am+bm)==0)=false) (tF: -1000000≤am+bm) (Tt:am+bm≤1000000) (hv:0≤vn) (hv2: -1099511627776≤vn) (hv3:vn≤1099511627776) (he:0≤e) (he2:e≤1099511627776)
  (yT: -1024≤nx) (Mg:nx≤1024) (ny0: -1024≤ny) (ny1:ny≤1024) (ja0: -1099511627776≤ja) (ja1:ja≤1099511627776) (jb0: -1099511627776≤jb) (jb1:jb≤1099511627776) (da0: -1099511627776≤da) (da1:da≤1099511627776) (db0: -1099511627776≤db) (db1:db≤1099511627776)
  (px0: -1099511627776≤px) (px1:px≤1099511627776) (py0: -1099511627776≤py) (py1:py≤1099511627776) (vx0: -1099511627776≤vx) (vx1:vx≤1099511627776) (vy0: -1099511627776≤vy) (vy1:vy≤1099511627776) (qx0: -1099511627776≤qx) (qx1:qx≤1099511627776) (qy0: -1099511627776≤qy) (qy1:qy≤1099511627776) (ux0: -1099511627776≤ux) (ux1:ux≤1099511627776) (uy0: -1099511627776≤uy) (uy1:uy≤1099511627776)
  (HS:Hid (dZ prog 140 #[.agg #[ag ux,ag uy],.agg #[ag vx,ag vy]] (.agg #[ag (ux-vx),ag (uy-vy)]))) (HD:Hid (dZ prog 139 #[.agg #[ag (ux-vx),ag (uy-vy)],.agg #[ag nx,ag ny]] (ag vn)))
  (HJ:Hid (dZ prog 143 #[ag (-vn),ag (1024+e),ag (am+bm)] (ag j))) (HA:Hid (dZ prog 113 #[ag j,ag am] (ag ja))) (HB:Hid (dZ prog 113 #[ag j,ag bm] (ag jb)))
  (HDa:Hid (dZ prog 143 #[ag d,ag am,ag (am+bm)] (ag da))) (HDb:Hid (dZ prog 143 #[ag d,ag bm,ag (am+bm)] (ag db))):
  Calls prog 115 #[.agg #[ag px,ag py,ag vx,ag vy,ag am],.agg #[ag qx,ag qy,ag ux,ag uy,ag bm],.agg #[ag nx,ag ny,ag d],ag e] w fun e' w'=>e'=.returned (.tuple #[.agg #[ag (g_ (px-eP (nx*da) 1024) (-1048576) 1048576),ag (g_ (py-eP (ny*da) 1024) (-1048576) 1048576),ag (g_ (vx) (-16384) 16384),ag (g_ (vy) (-16384) 16384),ag am],.agg #[ag (g_ (qx+eP (nx*db) 1024) (-1048576) 1048576),ag (g_ (qy+eP (ny*db) 1024) (-1048576) 1048576),ag (g_ (ux) (-16384) 16384),ag (g_ (uy) (-16384) 16384),ag bm]])∧aJ w w':=by
 refine az ?_;intro hal bu;have Ht:=d_ (a:=nx) (b:=da) (A:=1024) (B:=1099511627776) ae ae da0 da1;have ZM:=pz Ht.1 Ht.2;have Hu:=d_ (a:=ny) (b:=da) (A:=1024) (B:=1099511627776) ae ae da0 da1;have ZN:=pz Hu.1 Hu.2;have Hy:=d_ (a:=nx) (b:=db) (A:=1024) (B:=1099511627776) ae ae db0 db1;have ZO:=pz Hy.1 Hy.2;have H7:=d_ (a:=ny) (b:=db) (A:=1024) (B:=1099511627776) ae ae db0 db1;have ZP:=pz H7.1 H7.2;have C3:=fun(W:World) (b1 b2 r1 r2 c ka kb:Nat) (st:St w W b1 b2 r1 r2 c ka kb (px) (py) (vx) (vy) (am) (qx) (qy) (ux) (uy) (bm) nx ny d vx vy ux uy)=>ah (xZ b1 c (px) (py) (vx) (vy) am nx ny da W st.OG st.Wv st.Ww st.Wy st.WB st.ZQ st.ZR st.ZT ae ae ae ae ae ae ae ae);have C3H:=ah C3;clear C3;have C4:=fun(W:World) (b1 b2 r1 r2 c ka kb:Nat) (st:St w W b1 b2 r1 r2 c ka kb (px-eP (nx*da) 1024) (py-eP (ny*da) 1024) (vx) (vy) (am) (qx) (qy) (ux) (uy) (bm) nx ny d vx vy ux uy)=>ah (x8 b2 c (qx) (qy) (ux) (uy) bm nx ny db W st.OH st.WC st.WG st.WH st.WI st.ZU st.ZR st.ZT ae ae ae ae ae ae ae ae);have C4H:=ah C4;clear C4;clear Ht ZM Hu ZN Hy ZO H7 ZP px0 px1 py0 py1 vx0 vx1 vy0 vy1 qx0 qx1 qy0 qy1 ux0 ux1 uy0 uy1 yT Mg ny0 ny1 ja0 ja1 jb0 jb1 da0 da1 db0 db1;have gY:=results115;go_enter func115,ntmps115;go_wp2;go_region;all_goals go_wp2
 ·refine(fun(key:∀W:World,St w W (w.heap.size+1+1+1+1+1) (w.heap.size+1+1+1+1+1+1) (w.heap.size+1+1+1) (w.heap.size+1+1+1+1) (w.heap.size+1+1) w.heap.size (w.heap.size+1) px py vx vy am qx qy ux uy bm nx ny d vx vy ux uy→Code.wp _ _ _ _ W) (pf:St w _ (w.heap.size+1+1+1+1+1) (w.heap.size+1+1+1+1+1+1) (w.heap.size+1+1+1) (w.heap.size+1+1+1+1) (w.heap.size+1+1) w.heap.size (w.heap.size+1) px py vx vy am qx qy ux uy bm nx ny d vx vy ux uy)=>key _ pf) ?_ ?_
  ·intro W st;exact Ea
  ·apply St.mk;case below=>exact lu
   all_goals first|omega|(simp[aQ,dL,↓IntWalk.iteOmega];done)
 ·refine(fun(key:∀W:World,St w W (w.heap.size+1+1+1+1+1+1) (w.heap.size+1+1+1+1+1) (w.heap.size+1+1+1) (w.heap.size+1+1+1+1) (w.heap.size+1+1) w.heap.size (w.heap.size+1) px py vx vy am qx qy ux uy bm nx ny d vx vy ux uy→Code.wp _ _ _ _ W) (pf:St w _ (w.heap.size+1+1+1+1+1+1) (w.heap.size+1+1+1+1+1) (w.heap.size+1+1+1) (w.heap.size+1+1+1+1) (w.heap.size+1+1) w.heap.size (w.heap.size+1) px py vx vy am qx qy ux uy bm nx ny d vx vy ux uy)=>key _ pf) ?_ ?_
  ·intro W st;exact Ea
  ·apply St.mk;case below=>exact lu
   all_goals first|omega|(simp[aQ,dL,↓IntWalk.iteOmega];done)
end Re
namespace Rx
open Go.RowKit aN fO Qt Ve Re
variable {a:Int}
structure Mo (p q u v m:Int):Prop where
 p0: -1048576≤p
 p1:p≤1048576
 q0: -1048576≤q
 q1:q≤1048576
 u0: -16384≤u
 u1:u≤16384
 v0: -16384≤v
 v1:v≤16384
 m0:0≤m
 m1:m≤4096
structure Co (nx ny d e:Int):Prop where
 x0: -1024≤nx
 x1:nx≤1024
 y0: -1024≤ny
 y1:ny≤1024
 d0:0≤d
 d1:d≤8388608
 e0:0≤e
 e1:e≤1024
def vnr (vx vy ux uy nx ny:Int):Int:=((ux-vx)*nx+(uy-vy)*ny)/1024
def imp (vn e t m:Int):Int:=if vn<0 then eP (eP (-vn*(1024+e)) t*m) 1024 else 0
def dis (d t m:Int):Int:=eP (d*m) t
theorem agR {p q vx vy m p' q' ux uy m' nx ny d e:Int} (A:Mo p q vx vy m) (B:Mo p' q' ux uy m') (C:Co nx ny d e): -65536≤vnr vx vy ux uy nx ny∧vnr vx vy ux uy nx ny≤65536:=by have h1:=d_ (a:=ux-vx) (b:=nx) (A:=32768) (B:=1024) (by have:=A.u1;have:=B.u0;omega) (by have:=A.u0;have:=B.u1;omega) C.x0 C.x1;have h2:=d_ (a:=uy-vy) (b:=ny) (A:=32768) (B:=1024) (by have:=A.v1;have:=B.v0;omega) (by have:=A.v0;have:=B.v1;omega) C.y0 C.y1;unfold vnr;omega
theorem ac4:eP 0 1024=0:=by decide+kernel
theorem ac5 (h0: -1048576≤a) (h1:a≤1048576):g_ a (-1048576) 1048576=a:=by unfold g_;rw[if_neg ae,if_neg ae]
theorem ac6 (h0: -16384≤a) (h1:a≤16384):g_ a (-16384) 16384=a:=by unfold g_;rw[if_neg ae,if_neg ae]
theorem Ay {c A:Int} (h0: -A≤a) (h1:a≤A): -A-1≤eP a c∧eP a c≤A+1:=by have:=agS a c;omega
theorem OC (px py vx vy am qx qy ux uy bm nx ny d e:Int) (A:Mo px py vx vy am) (B:Mo qx qy ux uy bm) (C:Co nx ny d e) (vn ja jb da db:Int)
  (hvn:vn=vnr vx vy ux uy nx ny) (hja:ja=imp vn e (am+bm) am) (hjb:jb=imp vn e (am+bm) bm) (hda:da=dis d (am+bm) am) (hdb:db=dis d (am+bm) bm):
  dZ prog 115 #[.agg #[ag px,ag py,ag vx,ag vy,ag am],.agg #[ag qx,ag qy,ag ux,ag uy,ag bm],.agg #[ag nx,ag ny,ag d],ag e] (.tuple #[.agg #[ag (g_ (px-eP (nx*da) 1024) (-1048576) 1048576),ag (g_ (py-eP (ny*da) 1024) (-1048576) 1048576),ag (g_ (vx-eP (nx*ja) 1024) (-16384) 16384),ag (g_ (vy-eP (ny*ja) 1024) (-16384) 16384),ag am],.agg #[ag (g_ (qx+eP (nx*db) 1024) (-1048576) 1048576),ag (g_ (qy+eP (ny*db) 1024) (-1048576) 1048576),ag (g_ (ux+eP (nx*jb) 1024) (-16384) 16384),ag (g_ (uy+eP (ny*jb) 1024) (-16384) 16384),ag bm]]):=by
 intro w;obtain⟨p0,p1,q0,q1,u0,u1,v0,v1,m0,m1⟩:=A;obtain⟨p0',p1',q0',q1',u0',u1',v0',v1',m0',m1'⟩:=B;obtain⟨x0,x1,y0,y1,d0,d1,e0,e1⟩:=C;have vb:=agR ⟨p0,p1,q0,q1,u0,u1,v0,v1,m0,m1⟩ ⟨p0',p1',q0',q1',u0',u1',v0',v1',m0',m1'⟩ ⟨x0,x1,y0,y1,d0,d1,e0,e1⟩;rw[←hvn]at vb;by_cases ht:am+bm=0
 ·have ea:ja=0:=by rw[hja];unfold imp;split<;>simp[ht,tT,ac4]
  have eb:jb=0:=by rw[hjb];unfold imp;split<;>simp[ht,tT,ac4]
  have ec:da=0:=by rw[hda];unfold dis;rw[ht,tT]
  have ed:db=0:=by rw[hdb];unfold dis;rw[ht,tT]
  rw[ea,eb,ec,ed];simp only[Int.mul_zero,ac4,Int.sub_zero,Int.add_zero];rw[ac5 p0 p1,ac5 q0 q1,ac6 u0 u1,ac6 v0 v1,ac5 p0' p1',ac5 q0' q1',ac6 u0' u1',ac6 v0' v1'];exact Lj px py vx vy am qx qy ux uy bm nx ny d e w (by simp[ht]) ae ae
 ·have hs:((am+bm)==0)=false:=by simp[ht]
  have sx:=d_ (a:=ux-vx) (b:=nx) (A:=32768) (B:=1024) ae ae x0 x1;have sy:=d_ (a:=uy-vy) (b:=ny) (A:=32768) (B:=1024) ae ae y0 y1;have bj:=d_ (a:=-vn) (b:=1024+e) (A:=65536) (B:=2048) ae ae ae ae;obtain⟨j,hj⟩:∃j,j=eP (-vn*(1024+e)) (am+bm):=⟨_,rfl⟩
  have bj':=Ay (c:=am+bm) bj.1 bj.2;rw[←hj]at bj';have ba:=d_ (a:=j) (b:=am) (A:=134217729) (B:=4096) ae ae ae ae;have bb:=d_ (a:=j) (b:=bm) (A:=134217729) (B:=4096) ae ae ae ae;have bda:=d_ (a:=d) (b:=am) (A:=8388608) (B:=4096) ae ae ae ae;have bdb:=d_ (a:=d) (b:=bm) (A:=8388608) (B:=4096) ae ae ae ae;have al1:=Ay (c:=am+bm) bda.1 bda.2;have al2:=Ay (c:=am+bm) bdb.1 bdb.2;have ba':=Ay (c:=1024) ba.1 ba.2;have bb':=Ay (c:=1024) bb.1 bb.2;have HS:=ah (uK ux uy vx vy ae ae ae ae);have HD:=ah (Fu (ux-vx) (uy-vy) nx ny ae ae ae ae);rw[show((ux-vx)*nx+(uy-vy)*ny)/1024=vn from hvn.symm]at HD;have HJ:=ah (jS fun w=>uJ (-vn) (1024+e) (am+bm) w ae ae);rw[←hj]at HJ;have HA:=ah (jS fun w=>Fs j am w ae ae);have HB:=ah (jS fun w=>Fs j bm w ae ae);have HDa:=ah (jS fun w=>uJ d am (am+bm) w ae ae);have HDb:=ah (jS fun w=>uJ d bm (am+bm) w ae ae);have da':da=eP (d*am) (am+bm):=hda;have db':db=eP (d*bm) (am+bm):=hdb;by_cases hv:vn<0
  ·have ja':ja=eP (j*am) 1024:=by rw[hja];unfold imp;rw[if_pos hv,←hj]
   have jb':jb=eP (j*bm) 1024:=by rw[hjb];unfold imp;rw[if_pos hv,←hj]
   rw[←ja']at HA;rw[←jb']at HB;rw[←da']at HDa;rw[←db']at HDb;rw[←ja']at ba';rw[←jb']at bb';rw[←da']at al1;rw[←db']at al2;clear hvn hja hjb hda hdb da' db' ja' jb' hj ba bb bda bdb sx sy bj;exact OD px py vx vy am qx qy ux uy bm nx ny d e vn j ja jb da db w hs ae ae hv ae ae e0 ae x0 x1 y0 y1 ae ae ae ae ae ae ae ae ae ae ae ae ae ae ae ae ae ae ae ae ae ae ae ae HS HD HJ HA HB HDa HDb
  ·have ja':ja=0:=by rw[hja];unfold imp;rw[if_neg hv]
   have jb':jb=0:=by rw[hjb];unfold imp;rw[if_neg hv]
   rw[ja',jb'];simp only[Int.mul_zero,ac4,Int.sub_zero,Int.add_zero];rw[←da']at HDa;rw[←db']at HDb;rw[←da']at al1;rw[←db']at al2;clear hvn hja hjb hda hdb da' db' ja' jb' hj ba bb bda bdb sx sy bj;obtain⟨ja,hja⟩:∃ja,ja=eP (j*am) 1024:=⟨_,rfl⟩
   obtain⟨jb,hjb⟩:∃jb,jb=eP (j*bm) 1024:=⟨_,rfl⟩
   rw[←hja]at HA ba';rw[←hjb]at HB bb';clear hja hjb;exact OE px py vx vy am qx qy ux uy bm nx ny d e vn j ja jb da db w hs ae ae ae ae ae e0 ae x0 x1 y0 y1 ae ae ae ae ae ae ae ae ae ae ae ae ae ae ae ae ae ae ae ae ae ae ae ae HS HD HJ HA HB HDa HDb
end Rx
end Go.Proofs.YtohpdonnpbjfdaaGreatDoor
