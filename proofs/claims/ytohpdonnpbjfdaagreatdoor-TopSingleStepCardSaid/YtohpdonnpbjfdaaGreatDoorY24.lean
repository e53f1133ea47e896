/- What is shown: package shape, package collide. Conditions: as each theorem states. -/
import Derived.OwnWalk
import Derived.Test.YtohpdonnpbjfdaaGreatDoorY23
set_option maxHeartbeats 40000000
set_option maxRecDepth 100000
set_option linter.unusedVariables false
set_option linter.unusedSimpArgs false
open Go.Proofs.Tryz
namespace Go.Proofs.YtohpdonnpbjfdaaGreatDoor
theorem Cr {P:Prop} (h:P:=by
 unfold plo phi;rcases h.kind with⟨rfl,_,_,_,h1,h2⟩|⟨_,h1,h2,hb,hv⟩
 ·simp only[if_true];have m1:=d_ hx.1 hx.2 hax.1 hax.2;have m2:=d_ hy.1 hy.2 Jt.1 Jt.2;omega
 ·rw[if_neg ae,if_neg ae];obtain⟨i,hi,ei⟩:=Tw (MQ zs x y ax ay) (len-1);obtain⟨j,hj,ej⟩:=Tx (MQ zs x y ax ay) (len-1);rw[ei,ej];exact⟨one i hb,one j hb⟩):P:=h
namespace Sh
open Go.RowKit aN fO Qt Ve Go.Shelf
theorem Tw (f:Nat→Int):∀k,∃i,i≤k∧qF f k=f i
 |0=>⟨0,aH _,rfl⟩
 |k+1=>by
  obtain⟨i,hi,he⟩:=Tw f k
  rw[qF]
  by_cases h:qF f k≤f (k+1)
  ·exact⟨i,ae,ae⟩
  ·exact⟨k+1,aH _,ae⟩
theorem Tx (f:Nat→Int):∀k,∃i,i≤k∧qG f k=f i
 |0=>⟨0,aH _,rfl⟩
 |k+1=>by
  obtain⟨i,hi,he⟩:=Tx f k
  rw[qG]
  by_cases h:f (k+1)≤qG f k
  ·exact⟨i,ae,ae⟩
  ·exact⟨k+1,aH _,ae⟩
theorem sq0 (x:Int):0≤x*x:=by
 rcases Int.le_total 0 x with h|h
 ·exact Int.mul_nonneg h h
 ·exact Int.mul_nonneg_of_nonpos_of_nonpos h h
structure iL (w:World) (r:Int) (a:Option Addr) (len cap:Nat) (zs:List (Int×Int)):Prop where
 kind:(len=0∧zs=[]∧a=none∧cap=0∧1≤r∧r≤32768)∨(r=0∧3≤len∧len≤6∧Bd zs 32768∧cvx zs=true)
 poly:qp w a len cap zs
theorem iL.later {w W:World} {r:Int} {a:Option Addr} {len cap:Nat} {zs:List (Int×Int)} (h:iL w r a len cap zs) (hb:aJ w W):iL W r a len cap zs:=⟨h.kind,h.poly.later hb⟩
theorem QC {P:Program} {c:Code} {Q:Exit→Act→World→Prop} {a:Act} {w:World} (h:∀W,W=w→Code.wp P c Q a W):Code.wp P c Q a w:=h w rfl
def bx0 (r:Int) (len:Nat) (zs:List (Int×Int)) (x:Int):Int:=if len=0 then x-r else qF (fun i=>x+vx zs i) (len-1)
def bx1 (r:Int) (len:Nat) (zs:List (Int×Int)) (x:Int):Int:=if len=0 then x+r else qG (fun i=>x+vx zs i) (len-1)
def by0 (r:Int) (len:Nat) (zs:List (Int×Int)) (y:Int):Int:=if len=0 then y-r else qF (fun i=>y+vy zs i) (len-1)
def by1 (r:Int) (len:Nat) (zs:List (Int×Int)) (y:Int):Int:=if len=0 then y+r else qG (fun i=>y+vy zs i) (len-1)
def plo (r:Int) (len:Nat) (zs:List (Int×Int)) (x y a b:Int):Int:=if len=0 then(x*a+y*b)/1024-r else qF (MQ zs x y a b) (len-1)
def phi (r:Int) (len:Nat) (zs:List (Int×Int)) (x y a b:Int):Int:=if len=0 then(x*a+y*b)/1024+r else qG (MQ zs x y a b) (len-1)
section
variable {w:World} {r:Int} {a:Option Addr} {len cap:Nat} {zs:List (Int×Int)}
theorem MR (h:iL w r a len cap zs) (x y:Int) (hx: -100000000≤x∧x≤100000000) (hy: -100000000≤y∧y≤100000000) (W:World) (hW:aJ w W):
  Calls prog 136 #[.agg #[ag r,.slice a len cap],.agg #[ag x,ag y]] W fun e w'=>e=.returned (.agg #[ag (bx0 r len zs x),ag (by0 r len zs y),ag (bx1 r len zs x),ag (by1 r len zs y)])∧aJ W w':=by
 have g:=h.later hW;unfold bx0 bx1 by0 by1;rcases h.kind with⟨rfl,_,rfl,rfl,h1,h2⟩|⟨_,h1,h2,hb,_⟩
 ·simp only[if_true];exact IL r x y none 0 ae hx hy W
 ·rw[if_neg ae,if_neg ae,if_neg ae,if_neg ae];exact MS r a len cap zs x y W g.poly ae ae (fun i=>by have:=hb i;omega) hx hy
theorem Js (h:iL w r a len cap zs) (x y ax ay:Int) (hx: -100000000≤x∧x≤100000000) (hy: -100000000≤y∧y≤100000000) (hax: -100000000≤ax∧ax≤100000000) (Jt: -100000000≤ay∧ay≤100000000) (W:World) (hW:aJ w W):
  Calls prog 180 #[.agg #[ag r,.slice a len cap],.agg #[ag x,ag y],.agg #[ag ax,ag ay]] W fun e w'=>e=.returned (.tuple #[ag (plo r len zs x y ax ay),ag (phi r len zs x y ax ay)])∧aJ W w':=by
 have g:=h.later hW;unfold plo phi;rcases h.kind with⟨rfl,_,rfl,rfl,h1,h2⟩|⟨_,h1,h2,hb,_⟩
 ·simp only[if_true];exact F8 r x y ax ay none 0 ae hx hy hax Jt W
 ·rw[if_neg ae,if_neg ae];exact KC r a len cap zs x y ax ay W g.poly ae ae (fun i=>by have:=hb i;omega) hx hy hax Jt
theorem KD (h:iL w r a len cap zs) (x y ax ay:Int) (hx: -100000000≤x∧x≤100000000) (hy: -100000000≤y∧y≤100000000) (hax: -100000000≤ax∧ax≤100000000) (Jt: -100000000≤ay∧ay≤100000000):
  (-40000000000000≤plo r len zs x y ax ay∧plo r len zs x y ax ay≤40000000000000)∧-40000000000000≤phi r len zs x y ax ay∧phi r len zs x y ax ay≤40000000000000:=by
 have one:∀j,Bd zs 32768→-40000000000000≤MQ zs x y ax ay j∧MQ zs x y ax ay j≤40000000000000:=by intro j hb;have b:=hb j;have m1:=d_ (a:=x+vx zs j) (b:=ax) (A:=100050000) (B:=100000000) ae ae hax.1 hax.2;have m2:=d_ (a:=y+vy zs j) (b:=ay) (A:=100050000) (B:=100000000) ae ae Jt.1 Jt.2;unfold MQ;omega
 exact Cr
end
end Sh
namespace Co
open Go.RowKit aN fO Ve Sh
variable {α:Type}
def nmx (x y:Int):Int:=eP (x*1024) (Jr (x*x+y*y))
def nmy (x y:Int):Int:=eP (y*1024) (Jr (x*x+y*y))
def Np (x y:Int):Int:=if nmx x y=0∧nmy x y=0 then 1024 else nmx x y
def Nq (x y:Int):Int:=if nmx x y=0∧nmy x y=0 then 0 else nmy x y
def Ac (g:Nat→Int):Nat→Nat
 |0=>0
 |k+1=>if g (k+1)<g (Ac g k)then k+1 else Ac g k
def edx (zs:List (Int×Int)) (i:Nat):Int:=Np (vy zs ((i+1)%zs.length)-vy zs i) (vx zs i-vx zs ((i+1)%zs.length))
def edy (zs:List (Int×Int)) (i:Nat):Int:=Nq (vy zs ((i+1)%zs.length)-vy zs i) (vx zs i-vx zs ((i+1)%zs.length))
def edn (zs:List (Int×Int)) (i:Nat):Int×Int:=(edx zs i,edy zs i)
def eax (zs:List (Int×Int)):List (Int×Int):=(List.range zs.length).map (edn zs)
def sqd (zs:List (Int×Int)) (ox oy:Int) (i:Nat):Int:=(ox+vx zs i)*(ox+vx zs i)+(oy+vy zs i)*(oy+vy zs i)
def TM (zs:List (Int×Int)) (ox oy:Int):Nat:=Ac (sqd zs ox oy) (zs.length-1)
def AZ (zs:List (Int×Int)) (ox oy:Int):Int:=ox+vx zs (TM zs ox oy)
def A7 (zs:List (Int×Int)) (ox oy:Int):Int:=oy+vy zs (TM zs ox oy)
def cax (za zb:List (Int×Int)) (dx dy:Int):List (Int×Int):=
 if za.length=0 then(if zb.length=0 then[(Np dx dy,Nq dx dy)]else[(Np (AZ zb dx dy) (A7 zb dx dy),Nq (AZ zb dx dy) (A7 zb dx dy))])
 else if zb.length=0 then[(Np (AZ za (-dx) (-dy)) (A7 za (-dx) (-dy)),Nq (AZ za (-dx) (-dy)) (A7 za (-dx) (-dy)))]else[]
def Yg (za zb:List (Int×Int)) (dx dy:Int):List (Int×Int):=eax za++(eax zb++cax za zb dx dy)
def pl (r:Int) (zs:List (Int×Int)) (x y:Int) (n:Int×Int):Int:=plo r zs.length zs x y n.1 n.2
def ph (r:Int) (zs:List (Int×Int)) (x y:Int) (n:Int×Int):Int:=phi r zs.length zs x y n.1 n.2
def Jy (ra:Int) (za:List (Int×Int)) (px py rb:Int) (zb:List (Int×Int)) (qx qy:Int) (n:Int×Int):Int:=min (ph ra za px py n) (ph rb zb qx qy n)-max (pl ra za px py n) (pl rb zb qx qy n)
def ovl (ra:Int) (za:List (Int×Int)) (px py rb:Int) (zb:List (Int×Int)) (qx qy:Int):Bool:=
 decide (bx0 ra za.length za px≤bx1 rb zb.length zb qx)&&decide (bx0 rb zb.length zb qx≤bx1 ra za.length za px)&&(decide (by0 ra za.length za py≤by1 rb zb.length zb qy)&&decide (by0 rb zb.length zb qy≤by1 ra za.length za py))
def stp {α:Type} (f:α→Int) (b:Option α) (x:α):Option α:=match b with
 |none=>some x
 |some y=>if f x<f y then some x else some y
def QV {α:Type} (f:α→Int) (l:List α):Option α:=l.foldl (stp f) none
theorem Ni (f:α→Int) (l:List α) (x:α):QV f (l++[x])=stp f (QV f l) x:=by simp[QV,List.foldl_append]
theorem Nj (f:α→Int) (l:List α):(l=[]∧QV f l=none)∨∃y,QV f l=some y∧y∈l∧∀x∈l,f y≤f x:=by
 have key:∀n (l:List α),l.length=n→(l=[]∧QV f l=none)∨∃y,QV f l=some y∧y∈l∧∀x∈l,f y≤f x:=by
  intro n;induction n with
  |zero=>intro l hl;left;have:l=[]:=List.eq_nil_of_length_eq_zero hl;subst this;exact⟨rfl,rfl⟩
  |succ n ih=>
   intro l hl;right;have hne:l≠[]:=fun h=>by rw[h]at hl;cases hl
   obtain⟨l',x,rfl⟩:∃l' x,l=l'++[x]:=⟨l.dropLast,l.getLast hne,(List.dropLast_concat_getLast hne).symm⟩
   rw[Ni];rcases ih l' (by simp at hl;omega)with⟨rfl,h0⟩|⟨y,hy,hm,hle⟩
   ·rw[h0];exact⟨x,rfl,av,fun z hz=>by simp at hz;subst hz;exact Int.le_refl _⟩
   ·rw[hy];unfold stp;by_cases h:f x<f y
    ·simp only[if_pos h];refine⟨x,rfl,av,fun z hz=>?_⟩;rcases h_.1 hz with hz|hz
     ·have:=hle z hz;omega
     ·simp at hz;subst hz;exact Int.le_refl _
    ·simp only[if_neg h];refine⟨y,rfl,h_.2 (.inl hm),fun z hz=>?_⟩;rcases h_.1 hz with hz|hz
     ·exact hle z hz
     ·simp at hz;subst hz;omega
 exact key _ l rfl
def L8 (ra:Int) (za:List (Int×Int)) (px py rb:Int) (zb:List (Int×Int)) (qx qy:Int):Bool:=ovl ra za px py rb zb qx qy&&(Yg za zb (qx-px) (qy-py)).all fun n=>decide (0<Jy ra za px py rb zb qx qy n)
def Yi (ra:Int) (za:List (Int×Int)) (px py rb:Int) (zb:List (Int×Int)) (qx qy:Int):Int×Int:=(QV (Jy ra za px py rb zb qx qy) (Yg za zb (qx-px) (qy-py))).getD (0,0)
def afi (n:Int×Int) (dx dy:Int):Bool:=decide ((dx*n.1+dy*n.2)/1024<0)
def cnx (ra:Int) (za:List (Int×Int)) (px py rb:Int) (zb:List (Int×Int)) (qx qy:Int):Int:=if L8 ra za px py rb zb qx qy then(if afi (Yi ra za px py rb zb qx qy) (qx-px) (qy-py)then-(Yi ra za px py rb zb qx qy).1 else(Yi ra za px py rb zb qx qy).1)else 0
def cny (ra:Int) (za:List (Int×Int)) (px py rb:Int) (zb:List (Int×Int)) (qx qy:Int):Int:=if L8 ra za px py rb zb qx qy then(if afi (Yi ra za px py rb zb qx qy) (qx-px) (qy-py)then-(Yi ra za px py rb zb qx qy).2 else(Yi ra za px py rb zb qx qy).2)else 0
def cdp (ra:Int) (za:List (Int×Int)) (px py rb:Int) (zb:List (Int×Int)) (qx qy:Int):Int:=if L8 ra za px py rb zb qx qy then Jy ra za px py rb zb qx qy (Yi ra za px py rb zb qx qy)else 0
theorem Gr (x y:Int): -Jr (x*x+y*y)≤x∧x≤Jr (x*x+y*y):=by have h0:=sq0 x;have h1:=sq0 y;have h:=(ajv (x*x+y*y) ae).2;have hn:=Gs (x*x+y*y);have a:x<Jr (x*x+y*y)+1:=Yp ae ae;have b: -x<Jr (x*x+y*y)+1:=Yp ae (by rw[Int.neg_mul_neg];omega);omega
theorem ad1 (x l:Int) (h0:0≤l) (h1: -l≤x) (h2:x≤l): -1024≤eP (x*1024) l∧eP (x*1024) l≤1024:=by
 by_cases hl:l=0
 ·subst hl;rw[tT];omega
 ·rw[FB _ _ ae];constructor
  ·exact(Int.le_ediv_iff_mul_le ae).2 ae
  ·have:=Int.ediv_le_ediv (a:=x*1024) (b:=1024*l) (c:=l) ae ae;rwa[Int.mul_ediv_cancel _ hl]at this
theorem ajw (x y:Int):(-1024≤Np x y∧Np x y≤1024)∧-1024≤Nq x y∧Nq x y≤1024:=by have hx:=Gr x y;have hy:=Gr y x;rw[Int.add_comm (y*y)]at hy;have a:=ad1 x _ (Gs (x*x+y*y)) hx.1 hx.2;have b:=ad1 y _ (Gs (x*x+y*y)) hy.1 hy.2;unfold Np Nq nmx nmy;split<;>omega
def Vo (n:Int×Int):Prop:=-1024≤n.1∧n.1≤1024∧-1024≤n.2∧n.2≤1024
theorem uV (x y:Int):Vo (Np x y,Nq x y):=by have:=ajw x y;unfold Vo;simp only;omega
theorem afq (za zb:List (Int×Int)) (dx dy:Int):∀n∈Yg za zb dx dy,Vo n:=by
 intro n hn;unfold Yg eax at hn;rcases h_.1 hn with h|h
 ·obtain⟨i,_,rfl⟩:=List.mem_map.1 h;exact uV _ _
 rcases h_.1 h with h|h
 ·obtain⟨i,_,rfl⟩:=List.mem_map.1 h;exact uV _ _
 ·unfold cax at h;split at h
  ·split at h
   ·simp at h;rw[h];exact uV _ _
   ·simp at h;rw[h];exact uV _ _
  ·split at h
   ·simp at h;rw[h];exact uV _ _
   ·cases h
theorem Yh (za zb:List (Int×Int)) (dx dy:Int):Yg za zb dx dy≠[]:=by
 unfold Yg cax;by_cases ha:za.length=0
 ·rw[if_pos ha];split<;>simp
 ·intro h;have:(eax za).length=0:=by have:=congrArg List.length h;simp at this;simp[this]
  rw[eax,List.length_map,List.length_range]at this;omega
section
variable (ra:Int) (za:List (Int×Int)) (px py rb:Int) (zb:List (Int×Int)) (qx qy:Int)
end
end Co
end Go.Proofs.YtohpdonnpbjfdaaGreatDoor
