/- What is shown: packages parser, typecheck, package compile. Conditions: as each theorem states. -/
import Derived.LoopTactic
import Derived.Test.YtohpdonnpbjfdaaGreatDoorY6
import Derived.Test.YtohpdonnpbjfdaaGreatDoorY8
import Derived.Test.YtohpdonnpbjfdaaGreatDoorY13
set_option maxHeartbeats 40000000
set_option maxRecDepth 100000
set_option linter.unusedVariables false
set_option linter.unusedSimpArgs false
open Go.Proofs.Tryz
namespace Go.Proofs.YtohpdonnpbjfdaaGreatDoor
namespace Pa
open Go.RowKit aN Qt Bk
attribute [local go_sem] Oper.semAt_some
def ch (s:ByteArray) (i:Nat):Int:=((s.data.toList.getD i 0).toNat:Int)
theorem akt (s:ByteArray) (i:Nat):0≤ch s i∧ch s i≤255:=by unfold ch;have:=(s.data.toList.getD i 0).toNat_lt;omega
theorem K7 {P:Program} {t:TypeId} (hu:P.underlying t=some .string) (s:ByteArray) (k:Nat) (h:k<s.size) (w:World):(Instr.index t (.string s) (ag k)).run P w=.ok (.int .u8 (ch s k)) w:=by
 rw[run_index_string (h:=hu),dif_pos ae];obtain⟨⟨l⟩⟩:=s;have hl:k<l.length:=h;have e:(ByteArray.mk ⟨l⟩)[k]'hl=l.getD k 0:=by simp only[List.getD,List.getElem?_eq_getElem hl,Option.getD_some];rfl
 simp[ch,e]
def Xh (b:Int):Bool:=decide (97≤b∧b≤122)
def Dt (b:Int):Bool:=decide (48≤b∧b≤57)
theorem Ak (b:Int) (w:World):Calls prog 238 #[.int .u8 b] w fun e w'=>e=.returned (.bool (Xh b))∧w=w':=by
 by_cases h1:97≤b
 ·rw[show Xh b=decide (b≤122) by simp[Xh,h1]];go_enter func238,ntmps238;go_wp2;go_ret;exact⟨rfl,rfl⟩
 ·rw[show Xh b=false by simp[Xh,h1]];go_enter func238,ntmps238;go_wp2;go_ret;exact⟨rfl,rfl⟩
theorem xH (b:Int) (w:World):Calls prog 240 #[.int .u8 b] w fun e w'=>e=.returned (.bool (Dt b))∧w=w':=by
 by_cases h1:48≤b
 ·rw[show Dt b=decide (b≤57) by simp[Dt,h1]];go_enter func240,ntmps240;go_wp2;go_ret;exact⟨rfl,rfl⟩
 ·rw[show Dt b=false by simp[Dt,h1]];go_enter func240,ntmps240;go_wp2;go_ret;exact⟨rfl,rfl⟩
theorem Y1 {w:World} {bl:Nat} {s:ByteArray} (hl:w.cell? ⟨bl,0,none⟩=some (.string s)) (hn:s.size≤2000) (a b:Nat) (hab:a≤b) (hb:b≤s.size) (hsp:∀k,a≤k→k<b→ch s k=32) (he:b<s.size→ch s b≠10∧ch s b≠32∧ch s b≠9∧ch s b≠35):
  Calls prog 187 #[aR bl,ag a] w fun e w'=>e=.returned (ag b)∧w'=w:=by
 have Hsp:=ah hsp;have He:=ah he;clear hsp he;obtain⟨n,hsz⟩:∃n,n=s.size:=⟨_,rfl⟩
 have vR:=ah fun(k:Nat) (h:k<s.size)=>K7 underlying9 s k h w;go_enter func187,ntmps187;go_wp2;go_loopw [1,5] (fun i c wr=>∃k:Nat,a≤k∧k≤b∧i=ag k∧c=.bool false∧wr=w) (fun i _ _=>b-(intOf i).toNat);case atStart=>exact⟨a,aH _,hab,rfl,rfl,rfl⟩
 case round=>
  obtain⟨k,hak,hkb,rfl,rfl,rfl⟩:=hrel;by_cases hlt:k<b
  ·have pg:(k:Int)<(s.size:Int):=ae;have hi:=vR.out k ae;rw[Hsp.out k hak hlt]at hi;go_wp2;exact⟨⟨k+1,ae,ae,av,av,av⟩,by simp[intOf];omega⟩
  ·obtain rfl:k=b:=ae;by_cases hend:k=s.size
   ·have hnl:¬((k:Int)<(s.size:Int)):=ae;go_wp2;go_ret;exact⟨rfl,rfl⟩
   ·have pg:(k:Int)<(s.size:Int):=ae;have hi:=vR.out k ae;obtain⟨h10,h32,h9,h35⟩:=He.out ae;obtain⟨c,hc⟩:∃c,c=ch s k:=⟨_,rfl⟩
    rw[←hc]at hi h10 h32 h9 h35;clear hc;have ayk:(c==10)=false:=by simpa using h10
    have ayl:(c==32)=false:=by simpa using h32
    have h9':(c==9)=false:=by simpa using h9
    have aym:(c==35)=false:=by simpa using h35
    clear h10 h32 h9 h35;go_wp2;go_ret;exact⟨rfl,rfl⟩
structure Tk where
 kind:Int
 text:ByteArray
 pos:Int
 val:Int
inductive Nd where
 |mk (k n:Int) (s:ByteArray) (l:List Nd)
def eH (a b:ByteArray):Bool:=a.data.toList==b.data.toList
theorem Ub (a b:ByteArray):eH a b=true↔a=b:=by
 unfold eH;constructor
 ·intro h;have:=eq_of_beq h;obtain⟨⟨x⟩⟩:=a;obtain⟨⟨y⟩⟩:=b;simp only at this;rw[this]
 ·rintro rfl;simp
def eS:ByteArray:=⟨#[]⟩
def nd0:Nd:=.mk 0 0 eS []
def tk (T:List Tk) (i:Nat):Tk:=T.getD i ⟨0,eS,0,0⟩
def iQ (t:Tk) (l:List ByteArray):Bool:=t.kind !=0&&l.any (fun x=>eH x t.text)
abbrev R:=Option (Nd×Nat)
def pU (T:List Tk) (ops:List ByteArray) (next:Nat→R):Nat→Nd→Nat→R
 |0,_,_=>none
 |f+1,l,i=>if iQ (tk T i) ops then(next (i+1)).bind fun r=>pU T ops next f (.mk 14 0 (tk T i).text [l,r.1]) r.2 else some (l,i)
def GL (T:List Tk) (next:Nat→R):Nat→List Nd→Nat→R
 |0,_,_=>none
 |f+1,acc,i=>if iQ (tk T i) [⟨#[125]⟩]then some (.mk 7 0 eS acc,i+1)else(next i).bind fun r=>GL T next f (acc++[r.1]) r.2
inductive Wh where
 |expr|Aj|neg|cmp|sum|prod|Qd|YP|idx|stmt|block|choice
def Iw:ByteArray:=⟨#[124,124]⟩
def qA:ByteArray:=⟨#[38,38]⟩
def afO:ByteArray:=⟨#[33]⟩
def iP:ByteArray:=⟨#[45]⟩
def xD:ByteArray:=⟨#[43]⟩
def qB:ByteArray:=⟨#[42]⟩
def xE:ByteArray:=⟨#[47]⟩
def akq:List ByteArray:=[⟨#[60]⟩,⟨#[60,61]⟩,⟨#[62]⟩,⟨#[62,61]⟩,⟨#[61,61]⟩,⟨#[33,61]⟩]
def YQ:ByteArray:=⟨#[116,114,117,101]⟩
def Rj:ByteArray:=⟨#[102,97,108,115,101]⟩
def GK:ByteArray:=⟨#[115,101,108,102]⟩
def zw:ByteArray:=⟨#[111,116,104,101,114]⟩
def JF:ByteArray:=⟨#[116,105,99,107]⟩
def ab2:ByteArray:=⟨#[97,99,116]⟩
def VI:ByteArray:=⟨#[104,105,116]⟩
def sOn:ByteArray:=⟨#[111,110]⟩
def sIf:ByteArray:=⟨#[105,102]⟩
def YZ:ByteArray:=⟨#[101,108,115,101]⟩
def Ry:ByteArray:=⟨#[119,104,105,108,101]⟩
def afP:ByteArray:=⟨#[101,102,102,101,99,116]⟩
def aed:ByteArray:=⟨#[115,116,111,112]⟩
def ex (T:List Tk):Nat→Wh→Nat→Nat→R
 |0,_,_,_=>none
 |f+1,.expr,lv,i=>(ex T f .Aj lv i).bind fun r=>pU T [Iw] (ex T f .Aj lv) f r.1 r.2
 |f+1,.Aj,lv,i=>(ex T f .neg lv i).bind fun r=>pU T [qA] (ex T f .neg lv) f r.1 r.2
 |f+1,.neg,lv,i=>if iQ (tk T i) [afO]then(if lv+1≤20 then(ex T f .neg (lv+1) (i+1)).bind fun r=>some (.mk 13 0 afO [r.1],r.2)else none)else ex T f .cmp lv i
 |f+1,.cmp,lv,i=>(ex T f .sum lv i).bind fun r=>if iQ (tk T r.2) akq then(ex T f .sum lv (r.2+1)).bind fun q=>some (.mk 14 0 (tk T r.2).text [r.1,q.1],q.2)else some r
 |f+1,.sum,lv,i=>(ex T f .prod lv i).bind fun r=>pU T [xD,iP] (ex T f .prod lv) f r.1 r.2
 |f+1,.prod,lv,i=>(ex T f .Qd lv i).bind fun r=>pU T [qB,xE] (ex T f .Qd lv) f r.1 r.2
 |f+1,.Qd,lv,i=>if iQ (tk T i) [iP]then(if lv+1≤20 then(ex T f .Qd (lv+1) (i+1)).bind fun r=>some (.mk 13 0 iP [r.1],r.2)else none)else ex T f .YP lv i
 |f+1,.YP,lv,i=>
  if(tk T i).kind=4 then some (.mk 8 (tk T i).val eS [],i+1)else
  if(tk T i).kind=1 then some (.mk 10 0 (tk T i).text [],i+1)else
  if(tk T i).kind=3 then(ex T f .idx lv i).bind fun r=>some (.mk 11 0 (tk T i).text [r.1],r.2)else
  if iQ (tk T i) [YQ]then some (.mk 9 1 eS [],i+1)else
  if iQ (tk T i) [Rj]then some (.mk 9 0 eS [],i+1)else
  if iQ (tk T i) [GK,zw,JF]then some (.mk 12 0 (tk T i).text [],i+1)else
  if iQ (tk T i) [⟨#[40]⟩]then(if lv+1≤20 then(ex T f .expr (lv+1) (i+1)).bind fun r=>if iQ (tk T r.2) [⟨#[41]⟩]then some (r.1,r.2+1)else none else none)else none
 |f+1,.idx,lv,i=>
  if(tk T i).kind≠0∧iQ (tk T (i+1)) [⟨#[91]⟩]∧lv+1≤20 then(ex T f .expr (lv+1) (i+2)).bind fun r=>if iQ (tk T r.2) [⟨#[93]⟩]then some (r.1,r.2+1)else none else none
 |f+1,.stmt,lv,i=>
  if(tk T i).kind=1 then(if iQ (tk T (i+1)) [⟨#[61]⟩]then(ex T f .expr lv (i+2)).bind fun r=>if iQ (tk T r.2) [⟨#[59]⟩]then some (.mk 1 0 (tk T i).text [r.1],r.2+1)else none else none)else
  if(tk T i).kind=3 then(ex T f .idx lv i).bind fun r=>if iQ (tk T r.2) [⟨#[61]⟩]then(ex T f .expr lv (r.2+1)).bind fun q=>if iQ (tk T q.2) [⟨#[59]⟩]then some (.mk 2 0 (tk T i).text [r.1,q.1],q.2+1)else none else none else
  if iQ (tk T i) [sIf]then ex T f .choice lv i else
  if iQ (tk T i) [Ry]then(ex T f .expr lv (i+1)).bind fun r=>(ex T f .block (lv+1) r.2).bind fun q=>some (.mk 4 0 eS [r.1,q.1],q.2)else
  if iQ (tk T i) [afP]then(ex T f .expr lv (i+1)).bind fun r=>if iQ (tk T r.2) [⟨#[44]⟩]then(ex T f .expr lv (r.2+1)).bind fun q=>if iQ (tk T q.2) [⟨#[59]⟩]then some (.mk 5 0 eS [r.1,q.1],q.2+1)else none else none else
  if iQ (tk T i) [aed]then(if iQ (tk T (i+1)) [⟨#[59]⟩]then some (.mk 6 0 eS [],i+2)else none)else none
 |f+1,.block,lv,i=>if iQ (tk T i) [⟨#[123]⟩]∧lv≤20 then GL T (ex T f .stmt lv) f [] (i+1)else none
 |f+1,.choice,lv,i=>
  if iQ (tk T i) [sIf]then(ex T f .expr lv (i+1)).bind fun r=>(ex T f .block (lv+1) r.2).bind fun q=>
   if iQ (tk T q.2) [YZ]then(ex T f .block (lv+1) (q.2+1)).bind fun p=>some (.mk 3 0 eS [r.1,q.1,p.1],p.2)else some (.mk 3 0 eS [r.1,q.1,.mk 7 0 eS []],q.2)else none
def Nd.kind:Nd→Int|.mk k _ _ _=>k
def hnd (t:ByteArray):Option Nat:=if eH t ab2 then some 0 else if eH t JF then some 1 else if eH t VI then some 2 else none
def prL (T:List Tk):Nat→List Nd→Nat→Option (List Nd)
 |0,_,_=>none
 |f+1,on,i=>
  if(tk T i).kind=0 then some on else
  if iQ (tk T i) [sOn]then
   match hnd (tk T (i+1)).text with
   |none=>none
   |some h=>if(on.getD h nd0).kind=0∧(tk T (i+1)).kind≠0 then(ex T f .block 1 (i+2)).bind fun r=>prL T f (on.set h r.1) r.2 else none
  else none
def vS (b:Int):Bool:=Xh b||Dt b
def skE (s:ByteArray):Nat→Nat→Option Nat
 |0,_=>none
 |f+1,i=>if i=s.size then some i else if ch s i=32 then skE s f (i+1)else if ch s i=10∨ch s i=9∨ch s i=35 then none else some i
def zJ (s:ByteArray) (p:Int→Bool):Nat→Nat→Nat
 |0,i=>i
 |f+1,i=>if i<s.size∧p (ch s i)=true then zJ s p f (i+1)else i
def Y0 (s:ByteArray):Nat→Nat→Int→Int
 |0,i,v=>v
 |f+1,i,v=>if i<s.size∧Dt (ch s i)=true then Y0 s f (i+1) (min (10*v+(ch s i-48)) 2147483648)else v
def afQ:List (ByteArray×Int):=[(sOn,2),(ab2,2),(JF,2),(sIf,2),(YZ,2),(Ry,2),(afP,2),(aed,2),(YQ,2),(Rj,2),(GK,2),(zw,2),(⟨#[120]⟩,3),(⟨#[121]⟩,3),(⟨#[118,120]⟩,3),(⟨#[118,121]⟩,3),(⟨#[97]⟩,3),(⟨#[98]⟩,3),(VI,3),(⟨#[115,116,105,108,108]⟩,3)]
def look (t:ByteArray):Option Int:=(afQ.find? (fun x=>eH x.1 t)).map (·.2)
def pairs:List ByteArray:=[Iw,qA,⟨#[60,61]⟩,⟨#[62,61]⟩,⟨#[61,61]⟩,⟨#[33,61]⟩]
def oo:ByteArray:=⟨#[123,125,91,93,40,41,61,59,44,60,62,43,45,42,47,33]⟩
def scM (s:ByteArray) (i:Nat):Option Tk:=
 if i=s.size then some ⟨0,eS,i,0⟩else
 if Xh (ch s i)then
  let e:=zJ s vS s.size i
  match look (s.extract i e)with
  |some k=>some ⟨k,s.extract i e,i,0⟩
  |none=>if e-i≤8 then some ⟨1,s.extract i e,i,0⟩else none
 else if Dt (ch s i)then
  let v:=Y0 s s.size i 0
  if v≤2147483647 then some ⟨4,s.extract i (zJ s Dt s.size i),i,v⟩else none
 else if i+2≤s.size∧pairs.any (fun x=>eH x (s.extract i (i+2)))=true then some ⟨5,s.extract i (i+2),i,0⟩
 else if oo.data.toList.any (fun x=>(x.toNat:Int)==ch s i)then some ⟨5,s.extract i (i+1),i,0⟩else none
def K6 (s:ByteArray):Nat→Nat→Option (List Tk)
 |0,_=>none
 |f+1,i=>(skE s (s.size+1) i).bind fun j=>(scM s j).bind fun t=>if t.kind=0 then some [t]else(K6 s f (j+t.text.size)).map (t::·)
def A9 (s:ByteArray):Option (List Nd):=if s.size≤2000 then(K6 s (s.size+1) 0).bind fun T=>prL T 60 [nd0,nd0,nd0] 0 else none
def dF (l:List Nd) (i:Nat):Nd:=l.getD i nd0
def sigs:List (ByteArray×Int×Int):=[(xD,1,1),(iP,1,1),(qB,1,1),(xE,1,1),(⟨#[60]⟩,1,2),(⟨#[60,61]⟩,1,2),(⟨#[62]⟩,1,2),(⟨#[62,61]⟩,1,2),(⟨#[61,61]⟩,1,2),(⟨#[33,61]⟩,1,2),(qA,2,2),(Iw,2,2)]
def JE (s:ByteArray):Option (Int×Int):=(sigs.find? (fun x=>eH x.1 s)).map (·.2)
def VG:Nat→Nd→Option Int
 |0,_=>none
 |f+1,.mk k n s l=>
  if k=11 then(VG f (dF l 0)).bind fun t=>some (if t=1 then 1 else 0)else
  if k=8∨k=10∨k=12 then some 1 else
  if k=9 then some 2 else
  if k=13 then(VG f (dF l 0)).bind fun t=>some (if t=(if eH s iP then 1 else 2)then t else 0)else
  if k=14 then
   match JE s with
   |none=>some 0
   |some (o,r)=>(VG f (dF l 0)).bind fun t=>if t=o then(VG f (dF l 1)).bind fun u=>some (if u=o then r else 0)else some 0
  else some 0
def VC:Nat→Nd→Bool
 |0,_=>false
 |f+1,.mk k n s l=>
  if k=1 then VG f (dF l 0)==some 1 else
  if k=2 then !(eH s VI)&& !(eH s ⟨#[115,116,105,108,108]⟩)&&(VG f (dF l 0)==some 1)&&(VG f (dF l 1)==some 1)else
  if k=5 then(VG f (dF l 0)==some 1)&&(VG f (dF l 1)==some 1)else
  if k=3∨k=4 then(VG f (dF l 0)==some 2)&&decide (1≤l.length∧l.length≤1000)&&(l.drop 1).all (VC f)else
  if k=6 then true else
  if k=7 then decide (l.length≤1000)&&l.all (VC f)else false
def allM:Nat→Nd→Option (List Nd)
 |0,_=>none
 |f+1,.mk k n s l=>(l.foldr (fun x o=>(allM f x).bind fun a=>o.map (a++·)) (some [])).map (.mk k n s l::·)
def addN (ns:List ByteArray) (x:Nd):List ByteArray:=match x with|.mk k _ s _=>if k=1∨k=10 then(if ns.any (fun y=>eH y s)then ns else ns++[s])else ns
def GD (f:Nat) (on:List Nd):Option (List ByteArray):=on.foldl (fun o x=>o.bind fun ns=>(allM f x).bind fun l=>if l.length≤1000 then some (l.foldl addN ns)else none) (some [])
def vIx (vs:List ByteArray) (s:ByteArray):Int:=(vs.findIdx? (fun x=>eH x s)).elim 0 (fun i=>(i:Int))
def ab5:List ByteArray:=[⟨#[120]⟩,⟨#[121]⟩,⟨#[118,120]⟩,⟨#[118,121]⟩,⟨#[97]⟩,⟨#[98]⟩,VI,⟨#[115,116,105,108,108]⟩]
def fIx (s:ByteArray):Int:=(ab5.findIdx? (fun x=>eH x s)).elim (-1) (fun i=>(i:Int))
def opc (s:ByteArray):Int:=
 if eH s xD then 9 else if eH s iP then 10 else if eH s qB then 11 else if eH s xE then 12 else
 if eH s ⟨#[60]⟩∨eH s ⟨#[62]⟩then 14 else if eH s ⟨#[60,61]⟩∨eH s ⟨#[62,61]⟩then 15 else 16
abbrev Cd:=List (Int×Int)
def RA (c0:Nat) (c t o:Cd):Cd:=c++[(19,((c0+c.length+t.length+2:Nat):Int))]++t++[(18,((c0+c.length+t.length+o.length+2:Nat):Int))]++o
def lh (vs:List ByteArray):Nat→Nat→Nd→Option Cd
 |0,_,_=>none
 |f+1,c,.mk k n s l=>
  if k=8∨k=9 then some [(1,n)]else
  if k=10 then some [(2,vIx vs s)]else
  if k=11 then(lh vs f c (dF l 0)).map (·++[(4,fIx s)])else
  if k=12 then some [(if eH s GK then 6 else if eH s zw then 7 else 8,0)]else
  if k=13 then(lh vs f c (dF l 0)).map (·++[(if eH s iP then 13 else 17,0)])else
  if k=14 then
   (if eH s qA then(lh vs f c (dF l 0)).bind fun a=>(lh vs f (c+a.length+1) (dF l 1)).map fun b=>RA c a b [(1,0)]else
   if eH s Iw then(lh vs f c (dF l 0)).bind fun a=>(lh vs f (c+a.length+3) (dF l 1)).map fun b=>RA c a [(1,1)] b else
   if eH s ⟨#[62]⟩∨eH s ⟨#[62,61]⟩then(lh vs f c (dF l 1)).bind fun b=>(lh vs f (c+b.length) (dF l 0)).map fun a=>b++a++[(opc s,0)]else
   (lh vs f c (dF l 0)).bind fun a=>(lh vs f (c+a.length) (dF l 1)).map fun b=>if eH s ⟨#[33,61]⟩then a++b++[(16,0),(17,0)]else a++b++[(opc s,0)])else
  if k=1 then(lh vs f c (dF l 0)).map (·++[(3,vIx vs s)])else
  if k=2 then(lh vs f c (dF l 0)).bind fun a=>(lh vs f (c+a.length) (dF l 1)).map fun b=>a++b++[(5,fIx s)]else
  if k=3 then(lh vs f c (dF l 0)).bind fun a=>(lh vs f (c+a.length+1) (dF l 1)).bind fun b=>(lh vs f (c+a.length+b.length+2) (dF l 2)).map fun d=>RA c a b d else
  if k=4 then(lh vs f c (dF l 0)).bind fun a=>(lh vs f (c+a.length+1) (dF l 1)).map fun b=>a++[(19,((c+a.length+b.length+2:Nat):Int))]++b++[(18,(c:Int))]else
  if k=5 then(lh vs f c (dF l 0)).bind fun a=>(lh vs f (c+a.length) (dF l 1)).map fun b=>a++b++[(20,0)]else
  if k=6 then some [(21,0)]else
  if k=7∧l.length≤1000 then l.foldl (fun o x=>o.bind fun a=>(lh vs f (c+a.length) x).map (a++·)) (some [])else none
def YL (vs:List ByteArray) (f:Nat):List Nd→Cd→List Int→Option (Cd×List Int)
 |[],cd,es=>some (cd,es)
 |x::on,cd,es=>if x.kind=0 then YL vs f on cd (es++[-1])else(lh vs f cd.length x).bind fun c=>YL vs f on (cd++c++[(21,0)]) (es++[(cd.length:Int)])
def qC:List (Int×Int):=[(0,0),(0,1),(0,1),(1,0),(1,1),(2,0),(0,1),(0,1),(0,1),(2,1),(2,1),(2,1),(2,1),(1,1),(2,1),(2,1),(2,1),(1,1),(0,0),(1,0),(2,0),(0,0)]
def I_ (cd:Cd) (i:Nat):List Int:=match cd.getD i (0,0)with|(op,n)=>if op=21 then[]else if op=18 then[n]else if op=19 then[(i:Int)+1,n]else[(i:Int)+1]
structure An where
 ds:List Int
 op:List Nat
 dp:Int
def nxM (n:Nat) (d:Int):List Int→An→Option An
 |[],a=>some a
 |x::xs,a=>
  if x<0∨(n:Int)≤x then none else
  if a.ds.getD x.toNat 0=0 then nxM n d xs ⟨a.ds.set x.toNat (max d 0+1),a.op++[x.toNat],a.dp⟩else
  if a.ds.getD x.toNat 0=d+1 then nxM n d xs a else none
def anM (cd:Cd):Nat→An→Option Int
 |0,_=>none
 |f+1,a=>
  match a.op.getLast? with
  |none=>some a.dp
  |some i=>
   let e:=qC.getD (cd.getD i (0,0)).1.toNat (0,0)
   let d:=a.ds.getD i 0-1
   if d<e.1 then none else(nxM cd.length (d+(e.2-e.1)) (I_ cd i) ⟨a.ds,a.op.dropLast,max a.dp (d+(e.2-e.1))⟩).bind (anM cd f)
def GG (cd:Cd) (e:Int):Bool:=e<0||(decide (e<cd.length)&&match anM cd 500 ⟨(List.replicate cd.length 0).set e.toNat 1,[e.toNat],0⟩with|none=>false|some d=>decide (d≤16))
def t_ (s:ByteArray):Option (List Nd×List ByteArray×Cd×List Int):=
 (A9 s).bind fun on=>if on.all (fun x=>x.kind==0||VC 60 x)then(GD 60 on).bind fun vs=>if vs.length≤16 then(YL vs 60 on [] []).bind fun p=>if p.1.length≤400∧p.2.all (GG p.1)∧p.1.all (fun x=>decide (0≤x.1∧x.1≤21))then some (on,vs,p.1,p.2)else none else none else none
def afJ:ByteArray:=⟨#[]⟩
def aj7:ByteArray:=⟨#[111,110,32,116,105,99,107,32,123,32,110,32,61,32,110,32,43,32,49,59,32,105,102,32,110,32,62,61,32,51,32,123,32,101,102,102,101,99,116,32,49,44,32,110,59,32,110,32,61,32,48,59,32,125,32,125]⟩
def aj8:ByteArray:=⟨#[111,110,32,97,99,116,32,123,32,118,120,91,115,101,108,102,93,32,61,32,118,120,91,115,101,108,102,93,32,43,32,49,48,48,32,42,32,111,116,104,101,114,59,32,101,102,102,101,99,116,32,50,44,32,115,101,108,102,59,32,125,32,111,110,32,104,105,116,32,123,32,97,91,115,101,108,102,93,32,61,32,97,91,115,101,108,102,93,32,43,32,49,59,32,101,102,102,101,99,116,32,51,44,32,111,116,104,101,114,59,32,125]⟩
def aj9:ByteArray:=⟨#[111,110,32,104,105,116,32,123,32,105,102,32,104,105,116,91,111,116,104,101,114,93,32,61,61,32,115,101,108,102,32,43,32,49,32,38,38,32,97,91,115,101,108,102,93,32,60,32,97,91,111,116,104,101,114,93,32,123,32,118,120,91,115,101,108,102,93,32,61,32,45,118,120,91,115,101,108,102,93,59,32,98,91,115,101,108,102,93,32,61,32,116,105,99,107,59,32,125,32,101,108,115,101,32,123,32,115,116,111,112,59,32,125,32,101,102,102,101,99,116,32,52,44,32,97,91,115,101,108,102,93,59,32,125]⟩
def aj_:ByteArray:=⟨#[111,110,32,116,105,99,107,32,123,32,105,32,61,32,48,59,32,119,104,105,108,101,32,105,32,60,32,52,32,123,32,98,91,105,93,32,61,32,98,91,105,93,32,43,32,115,116,105,108,108,91,105,93,59,32,105,32,61,32,105,32,43,32,49,59,32,125,32,115,32,61,32,115,32,43,32,120,91,48,93,32,47,32,49,48,48,59,32,101,102,102,101,99,116,32,53,44,32,115,59,32,125,32,111,110,32,97,99,116,32,123,32,115,32,61,32,48,59,32,125]⟩
theorem aka:(t_ afJ).isSome=true:=aL
theorem akb:(t_ aj7).isSome=true:=aL
theorem akc:(t_ aj8).isSome=true:=aL
theorem akd:(t_ aj9).isSome=true:=aL
theorem ake:(t_ aj_).isSome=true:=aL
variable {P:Nat→Prop}
structure Bd (n:Nat) (K:Int) (s:An):Prop where
 len:s.ds.length=n
 ds:∀i,i<n→0≤s.ds.getD i 0∧s.ds.getD i 0≤K
 op:∀i∈s.op,i<n
theorem Aq (l:List Int) (i j:Nat) (v:Int) (hi:i<l.length):(l.set i v).getD j 0=if i=j then v else l.getD j 0:=by
 simp only[List.getD_eq_getElem?_getD,List.getElem?_set];by_cases h:i=j
 ·subst h;simp[hi]
 ·simp[h]
theorem GX (n:Nat) (K d:Int) (hd:max d 0+1≤K):∀(xs:List Int) (s s':An),nxM n d xs s=some s'→Bd n K s→
  ∃Ss:Nat→An,Ss 0=s∧Ss xs.length=s'∧(∀q,q≤xs.length→Bd n K (Ss q)∧(Ss q).op.length≤s.op.length+q∧(Ss q).dp=s.dp)∧
   ∀q,q<xs.length→∃x:Nat,xs.getD q 0=x∧x<n∧(((Ss q).ds.getD x 0=0∧Ss (q+1)=⟨(Ss q).ds.set x (max d 0+1),(Ss q).op++[x],(Ss q).dp⟩)∨((Ss q).ds.getD x 0≠0∧(Ss q).ds.getD x 0=d+1∧Ss (q+1)=Ss q))
 |[],s,s',h,hb=>by
  simp only[nxM,Option.some.injEq]at h
  subst h
  exact⟨fun _=>s,rfl,rfl,fun q _=>⟨hb,Nat.le_add_right _ _,rfl⟩,av⟩
 |y::xs,s,s',h,hb=>by
  unfold nxM at h
  by_cases h1:y<0∨(n:Int)≤y
  ·rw[if_pos h1]at h
   cases h
  rw[if_neg h1]at h
  obtain⟨x,rfl⟩:∃x:Nat,y=x:=⟨y.toNat,ae⟩
  have hx:x<n:=ae
  simp only[Int.toNat_natCast]at h
  by_cases h2:s.ds.getD x 0=0
  ·rw[if_pos h2]at h
   have aO:Bd n K ⟨s.ds.set x (max d 0+1),s.op++[x],s.dp⟩:=by
    refine⟨by simp[hb.len],fun i hi=>?_,fun i hi=>?_⟩
    ·show 0≤(s.ds.set x (max d 0+1)).getD i 0∧(s.ds.set x (max d 0+1)).getD i 0≤K
     rw[Aq _ _ _ _ (by rw[hb.len];exact hx)]
     split
     ·have:(0:Int)≤max d 0:=ae
      omega
     ·exact hb.ds i hi
    ·rcases h_.1 hi with h3|h3
     ·exact hb.op i h3
     ·simp at h3
      omega
   obtain⟨Ss,p1,p2,p3,p4⟩:=GX n K d hd xs _ _ h aO
   refine⟨fun q=>match q with|0=>s|q+1=>Ss q,rfl,by simpa using p2,fun q hq=>?_,fun q hq=>?_⟩
   ·cases q with
    |zero=>exact⟨hb,av,rfl⟩
    |succ q=>
     obtain⟨h5,h6,h7⟩:=p3 q (by simpa using hq)
     refine⟨h5,?_,h7⟩
     simp only[List.length_append,List.length_cons,List.length_nil]at h6
     show(Ss q).op.length≤_
     omega
   ·cases q with
    |zero=>exact⟨x,av,hx,.inl ⟨h2,p1⟩⟩
    |succ q=>
     obtain⟨x',h5,h6,h7⟩:=p4 q (by simpa using hq)
     exact⟨x',by simpa using h5,h6,h7⟩
  rw[if_neg h2]at h
  by_cases h3:s.ds.getD x 0=d+1
  ·rw[if_pos h3]at h
   obtain⟨Ss,p1,p2,p3,p4⟩:=GX n K d hd xs _ _ h hb
   refine⟨fun q=>match q with|0=>s|q+1=>Ss q,rfl,by simpa using p2,fun q hq=>?_,fun q hq=>?_⟩
   ·cases q with
    |zero=>exact⟨hb,av,rfl⟩
    |succ q=>
     obtain⟨h5,h6,h7⟩:=p3 q (by simpa using hq)
     exact⟨h5,by show(Ss q).op.length≤_;omega,h7⟩
   ·cases q with
    |zero=>exact⟨x,av,hx,.inr ⟨h2,h3,p1⟩⟩
    |succ q=>
     obtain⟨x',h5,h6,h7⟩:=p4 q (by simpa using hq)
     exact⟨x',by simpa using h5,h6,h7⟩
  ·rw[if_neg h3]at h
   cases h
theorem acp (cd:Cd) (f:Nat) (s:An) (d:Int) (h:anM cd (f+1) s=some d):(s.op=[]∧s.dp=d)∨
  ∃op' i,s.op=op'++[i]∧(qC.getD (cd.getD i (0,0)).1.toNat (0,0)).1≤s.ds.getD i 0-1∧
   ∃s',nxM cd.length (s.ds.getD i 0-1+((qC.getD (cd.getD i (0,0)).1.toNat (0,0)).2-(qC.getD (cd.getD i (0,0)).1.toNat (0,0)).1)) (I_ cd i) ⟨s.ds,op',max s.dp (s.ds.getD i 0-1+((qC.getD (cd.getD i (0,0)).1.toNat (0,0)).2-(qC.getD (cd.getD i (0,0)).1.toNat (0,0)).1))⟩=some s'∧anM cd f s'=some d:=by
 unfold anM at h;cases hg:s.op.getLast? with
 |none=>rw[hg]at h;simp only[Option.some.injEq]at h;exact .inl ⟨List.getLast?_eq_none_iff.1 hg,h⟩
 |some i=>
  rw[hg]at h;simp only at h;obtain⟨op',hop⟩:=List.getLast?_eq_some_iff.1 hg;rw[hop,List.dropLast_concat]at h;refine .inr ⟨op',i,hop,?_⟩;by_cases h1:s.ds.getD i 0-1<(qC.getD (cd.getD i (0,0)).1.toNat (0,0)).1
  ·rw[if_pos h1]at h;cases h
  rw[if_neg h1]at h;refine⟨ae,?_⟩;cases hn:nxM cd.length (s.ds.getD i 0-1+((qC.getD (cd.getD i (0,0)).1.toNat (0,0)).2-(qC.getD (cd.getD i (0,0)).1.toNat (0,0)).1)) (I_ cd i) ⟨s.ds,op',max s.dp (s.ds.getD i 0-1+((qC.getD (cd.getD i (0,0)).1.toNat (0,0)).2-(qC.getD (cd.getD i (0,0)).1.toNat (0,0)).1))⟩with
  |none=>rw[hn]at h;cases h
  |some s'=>rw[hn]at h;exact⟨s',rfl,h⟩
theorem aco (cd:Cd) (s:An) (d:Int):¬anM cd 0 s=some d:=by simp[anM]
theorem agf:∀k,k<22→0≤(qC.getD k (0,0)).1∧(qC.getD k (0,0)).1≤2∧0≤(qC.getD k (0,0)).2∧(qC.getD k (0,0)).2≤1:=bL
theorem acr (cd:Cd) (i:Nat):(I_ cd i).length≤2:=by
 unfold I_;split;split
 ·simp
 ·split
  ·simp
  ·split<;>simp
theorem Oc:∀n,P n→∃m,P m∧∀k,P k→m≤k:=by
 intro n;induction n using Nat.strongRecOn with
 |_ n ih=>
  intro hn;by_cases h:∃k,k<n∧P k
  ·obtain⟨k,h1,h2⟩:=h;exact ih k h1 h2
  ·exact⟨n,hn,fun k hk=>by
    rcases Nat.lt_or_ge k n with h1|h1
    ·exact absurd ⟨k,h1,hk⟩ h
    ·exact h1⟩
open Classical in
noncomputable def least (P:Nat→Prop):Nat:=if h:∃m,P m∧∀k,P k→m≤k then h.choose else 0
theorem GV (h:∃n,P n):P (least P):=by obtain⟨n,hn⟩:=h;have h1:=Oc n hn;unfold least;rw[dif_pos h1];exact h1.choose_spec.1
theorem least_le {n:Nat} (h:P n):least P≤n:=by have h1:=Oc n h;unfold least;rw[dif_pos h1];exact h1.choose_spec.2 n h
variable {vs:List ByteArray} {f:Nat} {x:Nd} {on:List Nd} {c:Cd} {es:List Int}
def Hd (vs:List ByteArray) (f:Nat) (x:Nd) (c:Cd) (e:Int) (c':Cd):Prop:=
 (x.kind=0∧e= -1∧c'=c)∨(x.kind≠0∧e=(c.length:Int)∧∃L,lh vs f c.length x=some L∧c'=c++L++[(21,0)])
theorem RZ {p:Cd×List Int} (h:YL vs f (x::on) c es=some p):∃e c',Hd vs f x c e c'∧YL vs f on c' (es++[e])=some p:=by
 unfold YL at h;by_cases h0:x.kind=0
 ·rw[if_pos h0]at h;exact⟨-1,c,.inl ⟨h0,rfl,rfl⟩,h⟩
 ·rw[if_neg h0]at h;cases hx:lh vs f c.length x with
  |none=>rw[hx]at h;cases h
  |some L=>rw[hx]at h;exact⟨_,_,.inr ⟨h0,rfl,L,hx,rfl⟩,h⟩
theorem Hd.len {c':Cd} {e:Int} (h:Hd vs f x c e c'):c.length≤c'.length:=by
 rcases h with⟨_,_,rfl⟩|⟨_,_,L,_,rfl⟩
 ·exact aH _
 ·simp only[List.length_append];omega
theorem Ze {y z:Nd} {cd:Cd} (h:YL vs f [x,y,z] [] []=some (cd,es)):
  ∃(cs:Nat→Cd) (E:Nat→Int),cs 0=[]∧cs 3=cd∧es=[E 0,E 1,E 2]∧(∀i,i≤3→(cs i).length≤cd.length)∧Hd vs f x (cs 0) (E 0) (cs 1)∧Hd vs f y (cs 1) (E 1) (cs 2)∧Hd vs f z (cs 2) (E 2) (cs 3):=by
 obtain⟨e0,c1,h0,h⟩:=RZ h;obtain⟨e1,c2,h1,h⟩:=RZ h;obtain⟨e2,c3,h2,h⟩:=RZ h;simp only[YL,Option.some.injEq,Prod.mk.injEq,List.nil_append,List.cons_append]at h;obtain⟨rfl,rfl⟩:=h;have:=h0.len;have:=h1.len;have:=h2.len;refine⟨fun i=>if i=0 then[]else if i=1 then c1 else if i=2 then c2 else c3,fun i=>if i=0 then e0 else if i=1 then e1 else e2,rfl,rfl,rfl,fun i hi=>?_,h0,h1,h2⟩;obtain rfl|rfl|rfl|rfl:i=0∨i=1∨i=2∨i=3:=ae
 ·simp
 ·show c1.length≤_;omega
 ·show c2.length≤_;omega
 ·exact aH _
def R3 (ns:List ByteArray):Prop:=∀k,k<ns.length→(ns.take k).any (fun y=>eH y (ns.getD k ⟨#[]⟩))=false
theorem VQ {ns:List ByteArray} (x:Nd) (h:R3 ns):R3 (addN ns x):=by
 unfold addN;split;split
 ·split
  ·exact h
  ·rename_i h1;intro k hk;simp only[List.length_append,List.length_cons,List.length_nil]at hk;rcases Nat.lt_or_ge k ns.length with h2|h2
   ·rw[List.take_append_of_le_length ae,List.getD_eq_getElem?_getD,List.getElem?_append_left h2,←List.getD_eq_getElem?_getD];exact h k h2
   ·obtain rfl:k=ns.length:=ae;rw[List.take_left' rfl,List.getD_eq_getElem?_getD,List.getElem?_append_right (Nat.le_refl _),Nat.sub_self];simpa using h1
 ·exact h
theorem G6:∀(l:List Nd) {ns:List ByteArray},R3 ns→R3 (l.foldl addN ns)
 |[],ns,h=>h
 |x::l,ns,h=>G6 l (VQ x h)
theorem JR (f:Nat):∀(on:List Nd) (o:Option (List ByteArray)) (vs:List ByteArray),(∀ns,o=some ns→R3 ns)→on.foldl (fun o x=>o.bind fun ns=>(allM f x).bind fun l=>if l.length≤1000 then some (l.foldl addN ns)else none) o=some vs→R3 vs
 |[],o,vs,ho,h=>ho vs h
 |x::on,o,vs,ho,h=>by
  refine JR f on _ vs (fun ns hns=>?_) h
  cases o with
  |none=>cases hns
  |some n0=>
   simp only[Option.bind_some]at hns
   cases ha:allM f x with
   |none=>
    rw[ha]at hns
    cases hns
   |some l=>
    rw[ha]at hns
    simp only[Option.bind_some]at hns
    split at hns
    ·injection hns with hns
     subst hns
     exact G6 l (ho n0 rfl)
    ·cases hns
theorem VM (h:GD f on=some vs):R3 vs:=
 JR f on _ vs (fun ns hns=>by injection hns with hns;subst hns;intro k hk;simp at hk) h
end Pa
end Go.Proofs.YtohpdonnpbjfdaaGreatDoor
