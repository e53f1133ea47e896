/- What is shown: packages parser, typecheck. Conditions: as each theorem states. -/
import Derived.Lib.Bytealg
import Derived.Test.YtohpdonnpbjfdaaGreatDoorY19
set_option maxHeartbeats 40000000
set_option maxRecDepth 100000
set_option linter.unusedVariables false
set_option linter.unusedSimpArgs false
open Go.Proofs.Tryz
namespace Go.Proofs.YtohpdonnpbjfdaaGreatDoor
theorem EF {P:Prop} (h:P:=by simp[results,gY,go_sem,cZ,c40,c41,c42,c43,c44,↓IntWalk.iteOmega]):P:=h
theorem EI {P:Prop} (h:P:=by have:=Hk.out;rw[hlk]at this;exact this):P:=h
theorem ym {P:Prop} (h:P:=by rw[H4.out];exact aH _):P:=h
theorem Du {P:Prop} (h:P:=by
 go_upto_region 5 with(fail);refine aP fun W2 mi=>?_;have dW:aJ wr W2:=iK;have lI:=dW.size;have k6:aV W2 wr.heap.size [ag 1,.string X,ag i,ag 0,ag 0]:=by rw[mi,HX.out];exact aV.new _ _ _ _ av
 have k4:=Q_.out.later dW;have lt6:=k6.lt;have x0:=ai dW w0;have x1:=ai dW w1;have xm:=(dW.block r ae).trans Hwm.out;have xd:∀n,(W2.drewN n).heap[r]?=some (.map Rz 20):=fun _=>xm;have hbb:aJ w W2:=Qb.out.trans (dW.mono Qb.out.size);obtain⟨t6,h6⟩:∃t6,t6=wr.heap.size:=⟨_,rfl⟩
 rw[←h6]at k6 lt6⊢;have c60:=k6.cell 0;have c61:=k6.cell 1;have c62:=k6.cell 2;have c63:=k6.cell 3;have c64:=k6.cell 4;have c40:=k4.cell 0;have c41:=k4.cell 1;have c42:=k4.cell 2;have c43:=k4.cell 3;have c44:=k4.cell 4;simp only[List.getElem?_cons_zero,List.getElem?_cons_succ]at c60 c61 c62 c63 c64 c40 c41 c42 c43 c44;have f6:=k6.free;have f4:=k4.free;have cZ:=au;have Hbb:=ah hbb;have h46:t4<t6:=ae;clear h6;cases hlk:look X with
 |some v=>obtain⟨jj,hff⟩:=Hf.out.1 v hlk;have ml:=fun n=>tZ underlying220 underlying9 rfl (xd n) hff true;have hv:v=kk:=EI;simp only[if_true]at ml;subst hv;clear hff hlk xm xd mi dW hbb k6 k4;go_quiet (fail);go_wp2;refine bodyPost_ret (v:=.agg #[ag v,.string X,ag i,ag 0,ag 0]) EF rfl ⟨rfl,?_⟩;have h4e:w.heap.size≤t4:=ym;have:=Hbb.out;exact aG
 |none=>
  have hff:=Hf.out.2 hlk;have ml:=fun n=>ug underlying220 underlying9 rfl (xd n) hff (Am _) true;have hv:(1:Int)=kk:=EI;simp only[if_true]at ml;subst hv;have hx8:¬((8:Int)<(X.size:Int)):=by have:=H8.out hlk;omega
  clear hff hlk xm xd mi dW hbb k6 k4;go_quiet (fail);go_wp2;refine bodyPost_ret (v:=.agg #[ag 1,.string X,ag i,ag 0,ag 0]) EF rfl ⟨rfl,?_⟩;have h4e:w.heap.size≤t4:=ym;have:=Hbb.out;exact aG):P:=h
theorem Dv {P:Prop} (h:P:=by refine bodyPost_ret (v:=.agg #[ag 4,.string (s.extract i k),ag i,ag v,ag 0]) (by simp[results,gY,go_sem,cZ,aQ,c40,c41,c42,c43,c44,↓IntWalk.iteOmega]) rfl ⟨rfl,?_⟩;have h4e:w.heap.size≤t4:=ym;have:=Qb.out;exact aG):P:=h
theorem xI {P:Prop} (h:P:=by simp[results,results193,go_sem,au,aQ,↓IntWalk.iteOmega]):P:=h
theorem xQ {P:Prop} (h:P:=by simp[results,results186,go_sem,cZ,aQ,↓IntWalk.iteOmega]):P:=h
theorem mV {P:Prop} (h:P:=by rw[toList_data,←HX.out,qz];rfl):P:=h
theorem mW {P:Prop} (h:P:=by go_enter func186,ntmps186;go_wp2_with (first|((with_reducible refine(TA.out _).mono ?_);rintro e w2 ⟨rfl,rfl⟩)|((with_reducible refine(Ju.out _).mono ?_);rintro e w2 ⟨rfl,rfl⟩));have cZ:=au;refine bodyPost_ret (v:=.agg #[ag 5,.string (s.extract i (i+2)),ag i,ag 0,ag 0]) xQ rfl ⟨rfl,by exact aG⟩):P:=h
theorem DC {P:Prop} (h:P:=by have TA:=ah hl;have Ju:=ah hd;have asB:=ah hib;clear hl hd hib;have hal:=aQ;have bu:=dL;go_enter func186,ntmps186;go_wp2_with (first|((with_reducible refine(TA.out _).mono ?_);rintro e w2 ⟨rfl,rfl⟩)|((with_reducible refine(Ju.out _).mono ?_);rintro e w2 ⟨rfl,rfl⟩)|((with_reducible refine(asB.out _).mono ?_);rintro e w2 ⟨rfl,rfl⟩));have cZ:=au;refine bodyPost_ret (v:=.agg #[ag 5,.string (s.extract i (i+1)),ag i,ag 0,ag 0]) xQ rfl ⟨rfl,by exact aG⟩):P:=h
theorem Dz {P:Prop} (h:P:=by have cZ:=au;refine bodyPost_ret (v:=.agg #[ag tk0,.string tt,ag tp,ag tv,ag 0]) (by simp[results,results186,go_sem,cZ,bW,aQ,↓IntWalk.iteOmega]) rfl ⟨rfl,by exact aG⟩):P:=h
theorem dO {P Q:Prop} (q:Q) (h:RowKit.Hid Q→P:=by first|(intro kk;(with_reducible refine(lV.out _ _ _ _ aG).mono ?_);refine df ?_;intro w1 aO N1 dA bW eu eF;revert eF eu bW dA N1 aO w1;exact kk.out)|fail):P:=h (ah q)
theorem jh {P Q:Prop} (q:Q) (h:RowKit.Hid Q→P:=by first|(intro kk;(with_reducible refine(o_.out _ aG).mono ?_);refine df ?_;intro w2 dW N2 nM gX ku lI;revert lI ku gX nM N2 dW w2;exact kk.out)|fail):P:=h (ah q)
theorem DF {P:Prop} (h:P:=by
 go_enter func160,ntmps160;go_upto_region 16 with(first|(refine dO ?_;intro w1 aO N1 dA bW eu eF)|((with_reducible refine(Qc.out _ aG).mono ?_);refine df ?_;intro w2 dW N2 nM gX ku lI));refine fG aL aL fun NL hL=>?_;obtain⟨dU,dV,hlf⟩:=hL;(try simp only[bf]at dU);repeat(go_big_quiet_step (first|(with_reducible exact aY (Hh4.out _ lu))))
 (refine wpQuiet_nil ?_;intro w1 iI;obtain⟨⟨w1,aO⟩,rfl⟩:=iI;clear dV hlf dU NL;obtain⟨N1,dA,bW,eu,eF⟩:=eB aO;(try simp only[bf]at dA));go_wp2;go_ret;exact⟨rfl,by exact aG⟩):P:=h
theorem DD {P:Prop} (h:P:=by have lV:=ah iH;have o_:=ah h1;have yR:=ah h2;clear iH h1 h2;go_enter func160,ntmps160;go_wp2_with (first|(refine dO ?_;intro w1 aO N1 dA bW eu eF)|(refine jh ?_;intro w2 dW N2 nM gX ku lI)|((with_reducible refine(yR.out _ aG).mono ?_);refine df ?_;intro w3 gK N3 vD jK vF sJ));go_ret;exact⟨rfl,by exact aG⟩):P:=h
namespace Pa
open Go.RowKit aN Qt Bk Mp
attribute [local go_sem] Oper.semAt_some
variable {w:World} {bl i:Nat} {s:ByteArray}
theorem xJ (s:ByteArray) (q:Int→Bool):∀(f i:Nat),i≤s.size→s.size-i≤f→i≤zJ s q f i∧zJ s q f i≤s.size∧(∀k,i≤k→k<zJ s q f i→q (ch s k)=true)∧(zJ s q f i<s.size→q (ch s (zJ s q f i))=false)
 |0,i,h1,h2=>⟨aH _,h1,fun k a b=>by simp only[zJ]at b;omega,fun h=>by simp only[zJ]at h;omega⟩
 |f+1,i,h1,h2=>by
  simp only[zJ]
  by_cases hc:i<s.size∧q (ch s i)=true
  ·rw[if_pos hc]
   obtain⟨a,b,c,d⟩:=xJ s q f (i+1) ae ae
   refine⟨ae,b,fun k h3 h4=>?_,d⟩
   by_cases e:k=i
   ·subst e;exact hc.2
   ·exact c k ae h4
  ·rw[if_neg hc]
   exact⟨aH _,h1,fun k a b=>ae,fun h=>by rw[not_and]at hc;exact Bool.eq_false_iff.2 (hc h)⟩
def Rz:Array MapEntry:=#[⟨.string ⟨#[111,110]⟩,ag 2,0⟩,⟨.string ⟨#[97,99,116]⟩,ag 2,1⟩,⟨.string ⟨#[116,105,99,107]⟩,ag 2,2⟩,⟨.string ⟨#[105,102]⟩,ag 2,3⟩,⟨.string ⟨#[101,108,115,101]⟩,ag 2,4⟩,⟨.string ⟨#[119,104,105,108,101]⟩,ag 2,5⟩,⟨.string ⟨#[101,102,102,101,99,116]⟩,ag 2,6⟩,⟨.string ⟨#[115,116,111,112]⟩,ag 2,7⟩,⟨.string ⟨#[116,114,117,101]⟩,ag 2,8⟩,⟨.string ⟨#[102,97,108,115,101]⟩,ag 2,9⟩,⟨.string ⟨#[115,101,108,102]⟩,ag 2,10⟩,⟨.string ⟨#[111,116,104,101,114]⟩,ag 2,11⟩,⟨.string ⟨#[120]⟩,ag 3,12⟩,⟨.string ⟨#[121]⟩,ag 3,13⟩,⟨.string ⟨#[118,120]⟩,ag 3,14⟩,⟨.string ⟨#[118,121]⟩,ag 3,15⟩,⟨.string ⟨#[97]⟩,ag 3,16⟩,⟨.string ⟨#[98]⟩,ag 3,17⟩,⟨.string ⟨#[104,105,116]⟩,ag 3,18⟩,⟨.string ⟨#[115,116,105,108,108]⟩,ag 3,19⟩]
theorem Ai (a b:ByteArray):(a==b)=eH a b:=by obtain⟨⟨x⟩⟩:=a;obtain⟨⟨y⟩⟩:=b;show(Array.mk x==Array.mk y)=(x==y);rw[Bool.eq_iff_iff,beq_iff_eq,beq_iff_eq];simp
def mkE:List (ByteArray×Int)→Nat→List MapEntry
 |[],_=>[]
 |(k,v)::l,i=>⟨.string k,ag v,i⟩::mkE l (i+1)
theorem NV (t:ByteArray):∀(l:List (ByteArray×Int)) (b i:Nat),(∀v,(l.find? (fun x=>eH x.1 t)).map (·.2)=some v→∃j,Instr.findNow .string (.string t) (mkE l b) i=some (some (j,ag v)))∧((l.find? (fun x=>eH x.1 t)).map (·.2)=none→Instr.findNow .string (.string t) (mkE l b) i=some none)
 |[],b,i=>⟨av,fun _=>rfl⟩
 |(k,v)::l,b,i=>by
  have ih:=NV t l (b+1) (i+1)
  have hb:(t==k)=eH k t:=by rw[Ai,qz]
  simp only[mkE,Instr.findNow,Instr.sameNow,hb,List.find?_cons]
  cases eH k t with
  |true=>exact⟨fun v' h=>⟨i,by simp only[Option.map_some,Option.some.injEq]at h;subst h;rfl⟩,av⟩
  |false=>exact ih
theorem Y2 (t:ByteArray):(∀v,look t=some v→∃j,Instr.findNow .string (.string t) Rz.toList 0=some (some (j,ag v)))∧(look t=none→Instr.findNow .string (.string t) Rz.toList 0=some none):=NV t afQ 0 0
theorem ug {P:Program} {t kt et:TypeId} {d:TypeDesc} (hu:P.underlying t=some (.map kt et)) (hk:P.underlying kt=some d) (hd:plain d=true) {r:Nat} {es:Array MapEntry} {zl:Nat} {k z:Value}
  (hh:w.heap[r]?=some (.map es zl)) (hf:Instr.findNow d k es.toList 0=some none) (hz:(zeroValue et).run P w=.ok z w) (c:Bool):
  Sem.run P (Instr.lookup t (.map (some r)) k c) w=.ok (if c then .tuple #[z,.bool false]else z) w:=by simp[Instr.lookup,go_sem,run_underlying hu,hh,yF hk hd,Instr.findKey,run_underlying hk,hf,uS hh,pure,Sem.run,hz]
structure Lx (w:World) (bl:Nat) (s:ByteArray):Prop where
 c0:w.cell? ⟨bl,0,none⟩=some (.string s)
 ex:∃r,w.cell? ⟨bl,1,none⟩=some (.map (some r))∧w.heap[r]?=some (.map Rz 20)
theorem Lx.later {w':World} (h:Lx w bl s) (hb:aJ w w'):Lx w' bl s:=by obtain⟨r,h1,h2⟩:=h.ex;exact⟨ai hb h.c0,r,ai hb h1,(hb.block r (Array.getElem?_eq_some_iff.1 h2).1).trans h2⟩
theorem stringslite_IndexByte (s:ByteArray) (c:Int) (w:World):
  Calls prog 249 #[.string s,.int .u8 c] w fun e w'=>e=.returned (ag (Lib.indexByte s.data.toList c.toNat.toUInt8))∧w'=w:=by go_enter func249,ntmps249;go_wp2;rw[run_callFunc_extern func258 aL aL aL (e:=Extern.BytealgIndexByte.indexByte) aL,Lib.run_indexByteString];simp only[Result.andThen];rw[Oper.upon_value];go_wp2;go_ret;exact⟨rfl,rfl⟩
theorem strings_IndexByte (s:ByteArray) (c:Int) (w:World):
  Calls prog 242 #[.string s,.int .u8 c] w fun e w'=>e=.returned (ag (Lib.indexByte s.data.toList c.toNat.toUInt8))∧w'=w:=by go_enter func242,ntmps242;go_wp2_with (go_at_call 249;refine(stringslite_IndexByte _ _ _).mono ?_;rintro e w' ⟨rfl,rfl⟩);go_ret;exact⟨rfl,rfl⟩
theorem indexByte_ge (c:UInt8):∀l:List UInt8,(-1≤Lib.indexByte l c)∧(decide (0≤Lib.indexByte l c)=l.any (fun x=>x==c))
 |[]=>by simp[Lib.indexByte]
 |b::l=>by
  obtain⟨h1,h2⟩:=indexByte_ge c l
  simp only[Lib.indexByte,List.any_cons]
  by_cases hb:(b==c)=true
  ·simp[hb]
  ·rw[Bool.not_eq_true]at hb
   simp only[hb,Bool.false_eq_true,if_false,Bool.false_or,←h2]
   by_cases he:Lib.indexByte l c= -1
   ·simp[he]
   ·have h0:0≤Lib.indexByte l c:=ae
    have:(Lib.indexByte l c==-1)=false:=by simpa using he
    simp only[this,Bool.false_eq_true,if_false]
    refine⟨ae,?_⟩
    rw[decide_eq_true h0,decide_eq_true ae]
theorem afR (l:List UInt8) (c:Int) (h0:0≤c) (h1:c≤255):l.any (fun x=>x==c.toNat.toUInt8)=l.any (fun x=>(x.toNat:Int)==c):=by
 congr 1;funext x;rw[Bool.eq_iff_iff,beq_iff_eq,beq_iff_eq];constructor
 ·rintro rfl;have:c.toNat.toUInt8.toNat=c.toNat:=bU;omega
 ·intro h;apply UInt8.toNat_inj.1;have:c.toNat.toUInt8.toNat=c.toNat:=bU;omega
theorem Am (w:World):(zeroValue 3).run prog w=.ok (ag 0) w:=aL
theorem NW (h:Lx w bl s) (hn:s.size≤2000) (hi:i<s.size) (kk:Int) (hk:(look (s.extract i (zJ s vS s.size i))).getD 1=kk) (h8:look (s.extract i (zJ s vS s.size i))=none→zJ s vS s.size i-i≤8):
  Calls prog 239 #[aR bl,ag i] w fun e w'=>e=.returned (yH ⟨kk,s.extract i (zJ s vS s.size i),i,0⟩)∧aJ w w':=by
 have hsp:=xJ s vS s.size i ae ae;obtain⟨E,hE⟩:∃E,E=zJ s vS s.size i:=⟨_,rfl⟩
 rw[←hE]at hk h8 hsp⊢;clear hE;obtain⟨h1,h2,hall,hend⟩:=hsp;have Rw:=ah hall;have ab3:=ah hend;have hf:=Y2 (s.extract i E);obtain⟨r,c1,hm⟩:=h.ex;have c0:=h.c0;have lb:=aU _ _ c0;have lr:r<w.heap.size:=(Array.getElem?_eq_some_iff.1 hm).1;simp only at lb;unfold yH;obtain⟨X,hX⟩:∃X,X=s.extract i E:=⟨_,rfl⟩
 have hXs:X.size=E-i:=by rw[hX];simp[ByteArray.size_extract];omega
 rw[←hX]at hk h8 hf⊢;have HX:=ah hX;have Hk:=ah hk;have H8:=ah h8;have Hf:=ah hf;have Hm:=ah hm;clear hall hend hX hk h8 hf hm h;have vR:=ah fun(k:Nat) (h:k<s.size) (W:World)=>K7 underlying9 s k h W;have TA:=ah fun(k:Nat) (V:World)=>Ak (ch s k) V;have Ju:=ah fun(k:Nat) (V:World)=>xH (ch s k) V;refine az ?_;intro hal bu;have gY:=results239;go_enter func239,ntmps239;go_wp2;refine aP fun W hW=>?_;have hbW:aJ w W:=aM;have k4:aV W w.heap.size [ag 0,.string ⟨#[]⟩,ag 0,ag 0,ag 0]:=dm;have w0:=ai hbW c0;have w1:=ai hbW c1;have wm:=(hbW.block r lr).trans Hm.out;obtain⟨t4,h4⟩:∃t4,t4=w.heap.size:=⟨_,rfl⟩
 have VF:=hbW.size;have lt4:=k4.lt;rw[←h4]at k4 lt4⊢;have Q_:=ah k4;have Qb:=ah hbW;have H4:=ah h4;have hz:bl<t4∧r<t4:=ae;clear k4 hbW hW h4 c0 c1 Hm;have Hwm:=ah wm;clear wm;go_loopw [5] (fun e wr=>∃k:Nat,i≤k∧k≤E∧e=ag k∧wr=W) (fun e _=>E-(intOf e).toNat);case atStart=>exact⟨i,aH _,h1,rfl,rfl⟩
 case round=>
  obtain⟨k,ek,iO,rfl,rfl⟩:=hrel;by_cases hkE:k<E
  ·have hks:(k:Int)<(s.size:Int):=ae;have hr:=vR.out k ae wr;have hc:=Rw.out k ek hkE;have hL:=TA.out k wr;have hD:=Ju.out k wr;unfold vS at hc;generalize ch s k=c at*;cases hcl:Xh c with
   |true=>rw[hcl]at hL;clear hD hc hcl;have HhL:=ah hL;clear hL;go_wp2_with (first|((with_reducible refine HhL.out.mono ?_);rintro e w2 ⟨rfl,rfl⟩));exact⟨⟨k+1,ae,ae,av,trivial⟩,by simp[intOf];omega⟩
   |false=>
    have hcd:Dt c=true:=by rw[hcl]at hc;simpa using hc
    rw[hcl]at hL;rw[hcd]at hD;clear hc hcl hcd;have HhL:=ah hL;have HhD:=ah hD;clear hL hD;go_wp2_with (first|((with_reducible refine HhL.out.mono ?_);rintro e w2 ⟨rfl,rfl⟩)|((with_reducible refine HhD.out.mono ?_);rintro e w2 ⟨rfl,rfl⟩));exact⟨⟨k+1,ae,ae,av,trivial⟩,by simp[intOf];omega⟩
  ·obtain rfl:k=E:=ae;have out:∀(b:Bool),True:=fun _=>trivial;by_cases hks:k<s.size
   ·have afT:(k:Int)<(s.size:Int):=ae;have hr:=vR.out k hks wr;have hc:=ab3.out hks;have hL:=TA.out k wr;have hD:=Ju.out k wr;unfold vS at hc;generalize ch s k=c at*;have hcl:Xh c=false:=by cases h:Xh c<;>simp[h]at hc⊢
    have hcd:Dt c=false:=by cases h:Dt c<;>simp[h]at hc⊢
    rw[hcl]at hL;rw[hcd]at hD;clear hc hcl hcd;have HhL:=ah hL;have HhD:=ah hD;clear hL hD;go_upto_region 4 with(first|((with_reducible refine HhL.out.mono ?_);rintro e w2 ⟨rfl,rfl⟩)|((with_reducible refine HhD.out.mono ?_);rintro e w2 ⟨rfl,rfl⟩));exact Du
   ·have afT:¬((k:Int)<(s.size:Int)):=ae;go_upto_region 4 with(fail);exact Du
theorem Y3 (s:ByteArray) (f k:Nat) (v:Int) (h:k<s.size) (hd:Dt (ch s k)=true):Y0 s (f+1) k v=Y0 s f (k+1) (min (10*v+(ch s k-48)) 2147483648):=by simp only[Y0];rw[if_pos ⟨h,hd⟩]
theorem ab4 (s:ByteArray) (f k:Nat) (v:Int) (h:k<s.size→Dt (ch s k)=false):Y0 s f k v=v:=by
 cases f with
 |zero=>rfl
 |succ f=>simp only[Y0];rw[if_neg];rintro⟨h1,h2⟩;rw[h h1]at h2;cases h2
theorem NY (h:Lx w bl s) (hn:s.size≤2000) (hi:i<s.size) (hV:Y0 s s.size i 0≤2147483647):
  Calls prog 241 #[aR bl,ag i] w fun e w'=>e=.returned (yH ⟨4,s.extract i (zJ s Dt s.size i),i,Y0 s s.size i 0⟩)∧aJ w w':=by
 have hsp:=xJ s Dt s.size i ae ae;obtain⟨E,hE⟩:∃E,E=zJ s Dt s.size i:=⟨_,rfl⟩
 obtain⟨V,hVV⟩:∃V,V=Y0 s s.size i 0:=⟨_,rfl⟩
 rw[←hE]at hsp⊢;rw[←hVV]at hV⊢;clear hE;obtain⟨h1,h2,hall,hend⟩:=hsp;have Rw:=ah hall;have ab3:=ah hend;have HV:=ah hVV;have c0:=h.c0;have lb:=aU _ _ c0;simp only at lb;unfold yH;clear hall hend hVV h;have vR:=ah fun(k:Nat) (h:k<s.size) (W:World)=>K7 underlying9 s k h W;have Ju:=ah fun(k:Nat) (V:World)=>xH (ch s k) V;refine az ?_;intro hal bu;have gY:=results241;go_enter func241,ntmps241;go_wp2;refine aP fun W hW=>?_;have hbW:aJ w W:=aM;have k4:aV W w.heap.size [ag 0,.string ⟨#[]⟩,ag 0,ag 0,ag 0]:=dm;have w0:=ai hbW c0;obtain⟨t4,h4⟩:∃t4,t4=w.heap.size:=⟨_,rfl⟩
 have VF:=hbW.size;have lt4:=k4.lt;rw[←h4]at k4 lt4⊢;have Q_:=ah k4;have Qb:=ah hbW;have H4:=ah h4;have hz:bl<t4:=ae;clear k4 hbW hW h4 c0;go_loopw [5,6] (fun e u wr=>∃(k f:Nat) (v:Int),i≤k∧k≤E∧s.size-k≤f∧0≤v∧v≤2147483648∧Hid (Y0 s f k v=V)∧e=ag k∧u=ag v∧wr=W) (fun e _ _=>E-(intOf e).toNat);case atStart=>exact⟨i,s.size,0,aH _,h1,ae,ae,ae,ah HV.out.symm,rfl,rfl,rfl⟩
 case round=>
  obtain⟨k,f,v,ek,iO,hf,hv0,hv1,hinv,rfl,rfl,rfl⟩:=hrel;by_cases hkE:k<E
  ·have hks:(k:Int)<(s.size:Int):=ae;have hr:=vR.out k ae wr;have hc:=Rw.out k ek hkE;have hD:=Ju.out k wr;rw[hc]at hD;obtain⟨f,rfl⟩:∃f',f=f'+1:=⟨f-1,ae⟩
   have cZ:=Y3 s f k v ae hc;rw[hinv.out]at cZ;have hcb:48≤ch s k∧ch s k≤57:=by simpa[Dt]using hc
   generalize ch s k=c at*;have tC:=ah cZ;have e1:IntKind.u8.wrap (c-48)=c-48:=by unfold IntKind.wrap;simp[IntKind.bits,IntKind.signed];omega
   clear hc cZ hinv;have HhD:=ah hD;clear hD;go_wp2_with (first|((with_reducible refine HhD.out.mono ?_);rintro e w2 ⟨rfl,rfl⟩));exact⟨⟨k+1,f,min (10*v+(c-48)) 2147483648,ae,ae,ae,ae,ae,ah tC.out.symm,av,rfl,trivial⟩,by simp[intOf];omega⟩
  ·obtain rfl:k=E:=ae;have hvV:v=V:=by have:=hinv.out;rwa[ab4 s f k v ab3.out]at this
   subst hvV;have c40:=Q_.out.cell 0;have c41:=Q_.out.cell 1;have c42:=Q_.out.cell 2;have c43:=Q_.out.cell 3;have c44:=Q_.out.cell 4;simp only[List.getElem?_cons_zero,List.getElem?_cons_succ]at c40 c41 c42 c43 c44;have f4:=Q_.out.free;have hnV:¬((2147483647:Int)<v):=ae;have cZ:=au;by_cases hks:k<s.size
   ·have afT:(k:Int)<(s.size:Int):=ae;have hr:=vR.out k hks wr;have hc:=ab3.out hks;have hD:=Ju.out k wr;rw[hc]at hD;generalize ch s k=c at*;clear hc hinv;have HhD:=ah hD;clear hD;go_wp2_with (first|((with_reducible refine HhD.out.mono ?_);rintro e w2 ⟨rfl,rfl⟩));exact Dv
   ·have afT:¬((k:Int)<(s.size:Int)):=ae;clear hinv;go_wp2;exact Dv
variable {l:List Nd} {X:Nat→Prop} {a:Option Addr} {n cap:Nat}
theorem ig.on {w':World} (h:ig w X l a n cap) (hb:aJ w w'):ig w' X l a n cap:=
 h.ch (L:=[]) ((Ch.refl [] w).of_below hb (aH _)) fun b hb _=>⟨av,hb⟩
theorem ig.len (h:ig w X l a n cap):n=l.length∧n≤cap:=by
 cases h with
 |nil=>exact⟨rfl,aH _⟩
 |row _ _ _ _ _ hn h1 hX hb hc cells sub=>exact⟨hn,hc⟩
theorem ig.get (h:ig w X l a n cap) (h1:1≤n):∃b,a=some ⟨b,0,none⟩∧b<w.heap.size∧∀i,i<n→∃a' n' m',(w.cell? ⟨b,i*4,none⟩=some (ag (l.getD i nd0).kind)∧w.cell? ⟨b,i*4+1,none⟩=some (ag (l.getD i nd0).num)∧w.cell? ⟨b,i*4+2,none⟩=some (.string (l.getD i nd0).str)∧w.cell? ⟨b,i*4+3,none⟩=some (.slice a' n' m'))∧ig w X (l.getD i nd0).kids a' n' m':=by
 cases h with
 |nil=>omega
 |row _ b _ _ f hn h1 hX hb hc cells sub=>exact⟨b,rfl,hb,fun i hi=>⟨_,_,_,cells i hi,sub i hi⟩⟩
def ndV (x:Nd) (a:Option Addr) (n m:Nat):Value:=.agg #[ag x.kind,ag x.num,.string x.str,.slice a n m]
theorem K8 {i:Nat} (h:l.length≤i):dF l i=nd0:=by unfold dF;rw[List.getD_eq_getElem?_getD,List.getElem?_eq_none h];rfl
theorem TZ (h:ig w X l a n cap):
  ∃a1 n1 m1 a2 n2 m2,ig w X (dF l 0).kids a1 n1 m1∧ig w X (dF l 1).kids a2 n2 m2∧∀(k v:Int) (s:ByteArray) (V:World),aJ w V→Calls prog 193 #[.agg #[ag k,ag v,.string s,.slice a n cap]] V fun e w'=>e=.returned (.tuple #[ndV (dF l 0) a1 n1 m1,ndV (dF l 1) a2 n2 m2])∧aJ V w':=by
 obtain⟨hl,hcap⟩:=h.len;unfold ndV;by_cases h0:n=0
 ·subst h0;rw[K8 ae,K8 ae];refine⟨none,0,0,none,0,0,.nil,.nil,fun k v s V hV=>?_⟩;clear h hl;refine az ?_;intro hal bu;go_enter func193,ntmps193;go_upto_region 5 with(fail);go_region_with (fail);all_goals
   go_wp2
   refine bodyPost_ret (v:=.tuple #[.agg #[ag 0,ag 0,.string ⟨#[]⟩,.slice none 0 0],.agg #[ag 0,ag 0,.string ⟨#[]⟩,.slice none 0 0]]) xI rfl ⟨rfl,?_⟩
   exact aG
 by_cases h1:n=1
 ·subst h1;rw[K8 (i:=1) ae];obtain⟨b,rfl,hb,hg⟩:=h.get (aH _);obtain⟨a1,n1,m1,⟨c0,c1,c2,c3⟩,hk⟩:=hg 0 ae;simp only[Nat.zero_mul,Nat.zero_add]at c0 c1 c2 c3;change ig w X (dF l 0).kids a1 n1 m1 at hk;change _=some (Value.int .i64 (dF l 0).kind)at c0;change _=some (Value.int .i64 (dF l 0).num)at c1;change _=some (Value.string (dF l 0).str)at c2;refine⟨a1,n1,m1,none,0,0,hk,.nil,fun k v s V hV=>?_⟩;replace c0:=ai hV c0;replace c1:=ai hV c1;replace c2:=ai hV c2;replace c3:=ai hV c3;replace hb:b<V.heap.size:=bH hb hV.size;clear h hl hg hk hV;generalize dF l 0=x at*;refine az ?_;intro hal bu;go_enter func193,ntmps193;go_upto_region 5 with(fail);go_region_with (fail);all_goals
   go_wp2
   refine bodyPost_ret (v:=.tuple #[.agg #[ag x.kind,ag x.num,.string x.str,.slice a1 n1 m1],.agg #[ag 0,ag 0,.string ⟨#[]⟩,.slice none 0 0]]) xI rfl ⟨rfl,?_⟩
   exact aG
 ·obtain⟨b,rfl,hb,hg⟩:=h.get ae;obtain⟨a1,n1,m1,⟨c0,c1,c2,c3⟩,hk⟩:=hg 0 ae;obtain⟨a2,n2,m2,⟨d0,d1,d2,d3⟩,iO⟩:=hg 1 ae;simp only[Nat.zero_mul,Nat.zero_add,Nat.one_mul,Nat.reduceAdd]at c0 c1 c2 c3 d0 d1 d2 d3;change ig w X (dF l 0).kids a1 n1 m1 at hk;change _=some (Value.int .i64 (dF l 0).kind)at c0;change _=some (Value.int .i64 (dF l 0).num)at c1;change _=some (Value.string (dF l 0).str)at c2;change ig w X (dF l 1).kids a2 n2 m2 at iO;change _=some (Value.int .i64 (dF l 1).kind)at d0;change _=some (Value.int .i64 (dF l 1).num)at d1;change _=some (Value.string (dF l 1).str)at d2;have h2:(1:Int)<(n:Int):=ae;refine⟨a1,n1,m1,a2,n2,m2,hk,iO,fun k v s V hV=>?_⟩;replace c0:=ai hV c0;replace c1:=ai hV c1;replace c2:=ai hV c2;replace c3:=ai hV c3;replace d0:=ai hV d0;replace d1:=ai hV d1;replace d2:=ai hV d2;replace d3:=ai hV d3;replace hb:b<V.heap.size:=bH hb hV.size;clear h hl hg hk iO hV;generalize dF l 0=x at*;generalize dF l 1=y at*;refine az ?_;intro hal bu;go_enter func193,ntmps193;go_upto_region 5 with(fail);go_region_with (fail);all_goals
   go_wp2
   refine bodyPost_ret (v:=.tuple #[.agg #[ag x.kind,ag x.num,.string x.str,.slice a1 n1 m1],.agg #[ag y.kind,ag y.num,.string y.str,.slice a2 n2 m2]]) xI rfl ⟨rfl,?_⟩
   exact aG
theorem Ui (s:ByteArray) (i d:Nat) (D:Int) (hD:D=d) (h:i+d≤s.size) (W:World):Sem.run prog (Instr.slice 9 (.string s) (some (ag i)) (some (ag ((i:Int)+D))) none) W=.ok (.string (s.extract i (i+d))) W:=by subst hD;have h1:(0:Int)≤(i:Int)+(d:Int):=ae;have h2:(i:Int)+(d:Int)≤(s.size:Int):=ae;have h3:(0:Int)≤(i:Int):=ae;have h4:(i:Int)≤((((i:Int)+(d:Int)).toNat:Nat):Int):=ae;have h5:((i:Int)+(d:Int)).toNat=i+d:=ae;simp[Instr.slice,run_underlying underlying9,Instr.sliceBounds,run_sliceBound,sliced,go_sem, *]
theorem Y_ {w:World} {bl:Nat} {s:ByteArray} (h:Lx w bl s) (hn:s.size≤2000) {i:Nat} (hi:i≤s.size) {t:Tk} (hx:scM s i=some t):
  Calls prog 186 #[aR bl,ag i] w fun e w'=>e=.returned (yH t)∧aJ w w':=by
 have c0:=h.c0;have lb:=aU _ _ c0;simp only at lb;unfold scM at hx;by_cases hie:i=s.size
 ·rw[if_pos hie]at hx;injection hx with hx;subst hx;have e1:((i:Int)==(s.size:Int))=true:=by simp[hie]
  unfold yH;clear hie h;refine az ?_;intro hal bu;go_enter func186,ntmps186;go_wp2;have cZ:=au;refine bodyPost_ret (v:=.agg #[ag 0,.string ⟨#[]⟩,ag i,ag 0,ag 0]) xQ rfl ⟨rfl,by exact aG⟩
 rw[if_neg hie]at hx;have hlt:i<s.size:=ae;have pg:(i:Int)<(s.size:Int):=ae;have e1:((i:Int)==(s.size:Int))=false:=bU;have hix:=fun(W:World)=>K7 underlying9 s i hlt W;have hl:=fun(V:World)=>Ak (ch s i) V;have hd:=fun(V:World)=>xH (ch s i) V;have hcb:=akt s i;by_cases hL:Xh (ch s i)=true
 ·rw[if_pos hL]at hx;rw[hL]at hl;have hw:∀V:World,aJ w V→Calls prog 239 #[aR bl,ag i] V fun e w'=>e=.returned (yH t)∧aJ V w':=by
   intro V hV;cases hk:look (s.extract i (zJ s vS s.size i))with
   |some k=>simp only[hk]at hx;injection hx with hx;subst hx;exact NW (h.later hV) hn hlt k (by rw[hk];rfl) (fun e=>by rw[hk]at e;cases e)
   |none=>simp only[hk]at hx;replace hx:=fe hx;obtain⟨h8,hx⟩:=hx;injection hx with hx;subst hx;exact NW (h.later hV) hn hlt 1 (by rw[hk];rfl) (fun _=>h8)
  generalize ch s i=c at*;obtain⟨tk0,tt,tp,tv⟩:=t;unfold yH at*;clear hx h hL hie hd hcb hi;have TA:=ah hl;have Hhw:=ah hw;clear hl hw;refine az ?_;intro hal bu;go_enter func186,ntmps186;go_wp2_with (first|((with_reducible refine(TA.out _).mono ?_);rintro e w2 ⟨rfl,rfl⟩)|((with_reducible refine(Hhw.out _ aG).mono ?_);refine df ?_;intro w1 aO N1 dA bW eu eF));exact Dz
 rw[if_neg hL]at hx;rw[Bool.eq_false_iff.2 hL]at hl;by_cases hD:Dt (ch s i)=true
 ·rw[if_pos hD]at hx;rw[hD]at hd;simp only at hx;replace hx:=fe hx;obtain⟨hV,hx⟩:=hx;injection hx with hx;have hw:∀V:World,aJ w V→Calls prog 241 #[aR bl,ag i] V fun e w'=>e=.returned (yH t)∧aJ V w':=by intro V hVV;subst hx;exact NY (h.later hVV) hn hlt hV
  generalize ch s i=c at*;obtain⟨tk0,tt,tp,tv⟩:=t;unfold yH at*;clear hx h hL hD hV hie hcb hi;have TA:=ah hl;have Ju:=ah hd;have Hhw:=ah hw;clear hl hd hw;refine az ?_;intro hal bu;go_enter func186,ntmps186;go_wp2_with (first|((with_reducible refine(TA.out _).mono ?_);rintro e w2 ⟨rfl,rfl⟩)|((with_reducible refine(Ju.out _).mono ?_);rintro e w2 ⟨rfl,rfl⟩)|((with_reducible refine(Hhw.out _ aG).mono ?_);refine df ?_;intro w1 aO N1 dA bW eu eF));exact Dz
 rw[if_neg hD]at hx;rw[Bool.eq_false_iff.2 hD]at hd;have hib:∀V:World,Calls prog 242 #[.string ⟨#[123,125,91,93,40,41,61,59,44,60,62,43,45,42,47,33]⟩,.int .u8 (ch s i)] V fun e w'=>e=.returned (ag (Lib.indexByte oo.data.toList (ch s i).toNat.toUInt8))∧w'=V:=fun V=>strings_IndexByte oo (ch s i) V;have hge:=(indexByte_ge (ch s i).toNat.toUInt8 oo.data.toList)
 rw[afR _ _ hcb.1 hcb.2]at hge;clear h hL hD hie;have eF:=fun W=>Ui s i 1 1 rfl ae W;by_cases h2:i+2≤s.size
 ·have lI:=fun W=>Ui s i 2 2 rfl h2 W;have h2I:(i:Int)+2≤(s.size:Int):=ae;obtain⟨X,hX⟩:∃X,X=s.extract i (i+2):=⟨_,rfl⟩
  rw[←hX]at hx;have HX:=ah hX;clear hX;have p0:((s.extract i (i+2)).toList==[124,124])=eH Iw X:=mV;have p1:((s.extract i (i+2)).toList==[38,38])=eH qA X:=mV;have p2:((s.extract i (i+2)).toList==[60,61])=eH ⟨#[60,61]⟩ X:=mV;have p3:((s.extract i (i+2)).toList==[62,61])=eH ⟨#[62,61]⟩ X:=mV;have p4:((s.extract i (i+2)).toList==[61,61])=eH ⟨#[61,61]⟩ X:=mV;have p5:((s.extract i (i+2)).toList==[33,61])=eH ⟨#[33,61]⟩ X:=mV;by_cases hp:pairs.any (fun x=>eH x X)=true
  ·rw[if_pos ⟨h2,hp⟩]at hx;injection hx with hx;subst hx;rw[HX.out];unfold yH;simp only[pairs,List.any_cons,List.any_nil,Bool.or_false]at hp;generalize ch s i=c at*;clear hib hge hcb hi;have TA:=ah hl;have Ju:=ah hd;clear hl hd;refine az ?_;intro hal bu;cases h10:eH Iw X with
   |true=>rw[h10]at p0;clear hp HX h10;exact mW
   |false=>
    rw[h10]at p0;cases h11:eH qA X with
    |true=>rw[h11]at p1;clear hp HX h10 h11;exact mW
    |false=>
     rw[h11]at p1;cases h12:eH ⟨#[60,61]⟩ X with
     |true=>rw[h12]at p2;clear hp HX h10 h11 h12;exact mW
     |false=>
      rw[h12]at p2;cases h13:eH ⟨#[62,61]⟩ X with
      |true=>rw[h13]at p3;clear hp HX h10 h11 h12 h13;exact mW
      |false=>
       rw[h13]at p3;cases h14:eH ⟨#[61,61]⟩ X with
       |true=>rw[h14]at p4;clear hp HX h10 h11 h12 h13 h14;exact mW
       |false=>
        rw[h14]at p4;have h15:eH ⟨#[33,61]⟩ X=true:=by simpa[h10,h11,h12,h13,h14]using hp
        rw[h15]at p5;clear hp HX h10 h11 h12 h13 h14 h15;exact mW
  ·rw[if_neg (fun hh=>hp hh.2)]at hx;replace hx:=fe hx;obtain⟨Nk,hx⟩:=hx;have z0:eH Iw X=false:=by
    cases hz:eH Iw X with
    |false=>rfl
    |true=>exact absurd (by simp[pairs,hz]) hp
   rw[z0]at p0;clear z0;have z1:eH qA X=false:=by
    cases hz:eH qA X with
    |false=>rfl
    |true=>exact absurd (by simp[pairs,hz]) hp
   rw[z1]at p1;clear z1;have z2:eH ⟨#[60,61]⟩ X=false:=by
    cases hz:eH ⟨#[60,61]⟩ X with
    |false=>rfl
    |true=>exact absurd (by simp[pairs,hz]) hp
   rw[z2]at p2;clear z2;have z3:eH ⟨#[62,61]⟩ X=false:=by
    cases hz:eH ⟨#[62,61]⟩ X with
    |false=>rfl
    |true=>exact absurd (by simp[pairs,hz]) hp
   rw[z3]at p3;clear z3;have z4:eH ⟨#[61,61]⟩ X=false:=by
    cases hz:eH ⟨#[61,61]⟩ X with
    |false=>rfl
    |true=>exact absurd (by simp[pairs,hz]) hp
   rw[z4]at p4;clear z4;have z5:eH ⟨#[33,61]⟩ X=false:=by
    cases hz:eH ⟨#[33,61]⟩ X with
    |false=>rfl
    |true=>exact absurd (by simp[pairs,hz]) hp
   rw[z5]at p5;clear z5;have hse:(decide (0≤Lib.indexByte oo.data.toList (ch s i).toNat.toUInt8))=true:=by rw[hge.2];exact Nk
   have hge':0≤Lib.indexByte oo.data.toList (ch s i).toNat.toUInt8:=by simpa using hse
   injection hx with hx;subst hx;unfold yH;generalize Lib.indexByte oo.data.toList (ch s i).toNat.toUInt8=ix at*;generalize ch s i=c at*;clear hge hcb hi Nk hse hp HX;exact DC
 ·rw[if_neg (fun hh=>h2 hh.1)]at hx;replace hx:=fe hx;obtain⟨Nk,hx⟩:=hx;have h2I:¬((i:Int)+2≤(s.size:Int)):=ae;have hse:(decide (0≤Lib.indexByte oo.data.toList (ch s i).toNat.toUInt8))=true:=by rw[hge.2];exact Nk
  have hge':0≤Lib.indexByte oo.data.toList (ch s i).toNat.toUInt8:=by simpa using hse
  injection hx with hx;subst hx;unfold yH;generalize Lib.indexByte oo.data.toList (ch s i).toNat.toUInt8=ix at*;generalize ch s i=c at*;clear hge hcb hi Nk hse;exact DC
variable {r:Nat}
def mkV:List (ByteArray×Value)→Nat→List MapEntry
 |[],_=>[]
 |(k,v)::l,i=>⟨.string k,v,i⟩::mkV l (i+1)
theorem NK (t:ByteArray):∀(l:List (ByteArray×Value)) (b i:Nat),(∀v,(l.find? (fun x=>eH x.1 t)).map (·.2)=some v→∃j,Instr.findNow .string (.string t) (mkV l b) i=some (some (j,v)))∧((l.find? (fun x=>eH x.1 t)).map (·.2)=none→Instr.findNow .string (.string t) (mkV l b) i=some none)
 |[],b,i=>⟨av,fun _=>rfl⟩
 |(k,v)::l,b,i=>by
  have ih:=NK t l (b+1) (i+1)
  have hb:(t==k)=eH k t:=by rw[Ai,qz]
  simp only[mkV,Instr.findNow,Instr.sameNow,hb,List.find?_cons]
  cases eH k t with
  |true=>exact⟨fun v' h=>⟨i,by simp only[Option.map_some,Option.some.injEq]at h;subst h;rfl⟩,av⟩
  |false=>exact ih
def sgV (x:Int×Int):Value:=.agg #[ag x.1,ag x.2]
def abX:Array MapEntry:=⟨mkV (sigs.map fun x=>(x.1,sgV x.2)) 0⟩
theorem YN (t:ByteArray):(∀o r,JE t=some (o,r)→∃j,Instr.findNow .string (.string t) abX.toList 0=some (some (j,.agg #[ag o,ag r])))∧(JE t=none→Instr.findNow .string (.string t) abX.toList 0=some none):=by
 have h:=NK t (sigs.map fun x=>(x.1,sgV x.2)) 0 0;have e:((sigs.map fun x=>(x.1,sgV x.2)).find? (fun x=>eH x.1 t)).map (·.2)=(JE t).map sgV:=by unfold JE;rw[List.find?_map];simp[Function.comp_def]
 rw[e]at h;exact⟨fun o r ho=>h.1 _ (by rw[ho];rfl),fun ho=>h.2 (by rw[ho];rfl)⟩
def I8 (w:World) (r:Nat):Prop:=w.heap[r]?=some (.map abX 12)
theorem I8.on {w':World} (h:I8 w r) (hb:aJ w w'):I8 w' r:=(hb.block r (Array.getElem?_eq_some_iff.1 h).1).trans h
def TyC (f:Nat):Prop:=∀(x:Nd) (t:Int),VG f x=some t→∀(w:World) (r:Nat) (X:Nat→Prop) (a:Option Addr) (n m:Nat),I8 w r→ig w X x.kids a n m→Calls prog 194 #[.agg #[.map (some r)],ndV x a n m] w fun e w'=>e=.returned (ag t)∧aJ w w'
theorem TyC.at {f:Nat} (h:TyC f) {x:Nd} {t:Int} (ht:VG f x=some t) {X:Nat→Prop} {a:Option Addr} {n m:Nat} (hs:I8 w r) (hk:ig w X x.kids a n m) (V:World) (hV:aJ w V):Calls prog 194 #[.agg #[.map (some r)],.agg #[ag x.kind,ag x.num,.string x.str,.slice a n m]] V fun e w'=>e=.returned (ag t)∧aJ V w':=h x t ht V r X a n m (hs.on hV) (hk.on hV)
theorem YO (w:World):(zeroValue 314).run prog w=.ok (.agg #[ag 0,ag 0]) w:=aL
theorem KW:∀f,TyC f
 |0=>fun x t h=>by cases h
 |f+1=>by
  rintro⟨k,v,s,l⟩ t ht w r X a n m hs hk
  have ih:=KW f
  obtain⟨a1,n1,m1,a2,n2,m2,ek,iO,iH⟩:=TZ (l:=l) hk
  have hr:r<w.heap.size:=(Array.getElem?_eq_some_iff.1 hs).1
  simp only[VG]at ht
  have h1:=fun t h=>ih.at (t:=t) h hs ek
  have h2:=fun t h=>ih.at (t:=t) h hs iO
  unfold ndV at iH
  simp only[ndV,Nd.kind,Nd.num,Nd.str]
  clear hk ek iO ih
  generalize dF l 0=x at*
  generalize dF l 1=y at*
  refine az ?_;intro hal bu
  by_cases k1:k=11
  ·rw[if_pos k1]at ht
   obtain⟨u,hu,ht⟩:=bind_some ht
   replace h1:=h1 u hu
   simp only[Option.some.injEq]at ht
   have b1:=jY k1
   by_cases zo:u=1
   ·rw[if_pos zo]at ht
    have b2:=jY zo
    subst ht
    clear h2 k1 hu zo hs
    have lV:=ah iH;have o_:=ah h1;clear iH h1
    go_enter func194,ntmps194
    go_wp2_with (first|(refine dO ?_;intro w1 aO N1 dA bW eu eF)|(refine jh ?_;intro w2 dW N2 nM gX ku lI))
    go_ret
    exact⟨rfl,by exact aG⟩
   ·rw[if_neg zo]at ht
    have b2:=jN zo
    subst ht
    clear h2 k1 hu zo hs
    have lV:=ah iH;have o_:=ah h1;clear iH h1
    go_enter func194,ntmps194
    go_wp2_with (first|(refine dO ?_;intro w1 aO N1 dA bW eu eF)|(refine jh ?_;intro w2 dW N2 nM gX ku lI))
    go_ret
    exact⟨rfl,by exact aG⟩
  rw[if_neg k1]at ht
  have b1:=jN k1
  clear k1
  by_cases k2:k=8∨k=10∨k=12
  ·rw[if_pos k2]at ht
   simp only[Option.some.injEq]at ht
   subst ht
   clear h1 h2 b1 hs
   rcases k2 with rfl|rfl|rfl
   ·have lV:=ah iH;clear iH
    go_enter func194,ntmps194
    go_wp2_with (first|(refine dO ?_;intro w1 aO N1 dA bW eu eF))
    go_ret
    exact⟨rfl,by exact aG⟩
   ·have lV:=ah iH;clear iH
    go_enter func194,ntmps194
    go_wp2_with (first|(refine dO ?_;intro w1 aO N1 dA bW eu eF))
    go_ret
    exact⟨rfl,by exact aG⟩
   ·have lV:=ah iH;clear iH
    go_enter func194,ntmps194
    go_wp2_with (first|(refine dO ?_;intro w1 aO N1 dA bW eu eF))
    go_ret
    exact⟨rfl,by exact aG⟩
  rw[if_neg k2]at ht
  have b2:=jN (fun h=>k2 (.inl h))
  have b3:=jN (fun h=>k2 (.inr (.inl h)))
  have b4:=jN (fun h=>k2 (.inr (.inr h)))
  clear k2
  by_cases k3:k=9
  ·rw[if_pos k3]at ht
   have b5:=jY k3
   simp only[Option.some.injEq]at ht
   subst ht
   clear h1 h2 k3 hs
   have lV:=ah iH;clear iH
   go_enter func194,ntmps194
   go_wp2_with (first|(refine dO ?_;intro w1 aO N1 dA bW eu eF))
   go_ret
   exact⟨rfl,by exact aG⟩
  rw[if_neg k3]at ht
  have b5:=jN k3
  clear k3
  by_cases k4:k=13
  ·rw[if_pos k4]at ht
   have b6:=jY k4
   obtain⟨u,hu,ht⟩:=bind_some ht
   replace h1:=h1 u hu
   simp only[Option.some.injEq]at ht
   have e1:(s.toList==[45])=eH s iP:=dP
   cases hm:eH s iP
   ·rw[hm]at ht e1
    simp only[if_true,Bool.false_eq_true,if_false]at ht
    by_cases zo:u=2
    ·rw[if_pos zo]at ht
     have b7:=jY zo
     subst ht
     subst zo
     clear h2 k4 hu hm hs
     have lV:=ah iH;have o_:=ah h1;clear iH h1
     go_enter func194,ntmps194
     go_wp2_with (first|(refine dO ?_;intro w1 aO N1 dA bW eu eF)|(refine jh ?_;intro w2 dW N2 nM gX ku lI))
     go_ret
     exact⟨rfl,by exact aG⟩
    ·rw[if_neg zo]at ht
     have b7:=jN zo
     subst ht
     clear h2 k4 hu hm hs zo
     have lV:=ah iH;have o_:=ah h1;clear iH h1
     go_enter func194,ntmps194
     go_wp2_with (first|(refine dO ?_;intro w1 aO N1 dA bW eu eF)|(refine jh ?_;intro w2 dW N2 nM gX ku lI))
     go_ret
     exact⟨rfl,by exact aG⟩
   ·rw[hm]at ht e1
    simp only[if_true,Bool.false_eq_true,if_false]at ht
    by_cases zo:u=1
    ·rw[if_pos zo]at ht
     have b7:=jY zo
     subst ht
     subst zo
     clear h2 k4 hu hm hs
     have lV:=ah iH;have o_:=ah h1;clear iH h1
     go_enter func194,ntmps194
     go_wp2_with (first|(refine dO ?_;intro w1 aO N1 dA bW eu eF)|(refine jh ?_;intro w2 dW N2 nM gX ku lI))
     go_ret
     exact⟨rfl,by exact aG⟩
    ·rw[if_neg zo]at ht
     have b7:=jN zo
     subst ht
     clear h2 k4 hu hm hs zo
     have lV:=ah iH;have o_:=ah h1;clear iH h1
     go_enter func194,ntmps194
     go_wp2_with (first|(refine dO ?_;intro w1 aO N1 dA bW eu eF)|(refine jh ?_;intro w2 dW N2 nM gX ku lI))
     go_ret
     exact⟨rfl,by exact aG⟩
  rw[if_neg k4]at ht
  have b6:=jN k4
  clear k4
  by_cases k5:k=14
  ·rw[if_pos k5]at ht
   have b7:=jY k5
   have hf:=YN s
   cases hsg:JE s with
   |none=>
    rw[hsg]at ht
    simp only[Option.some.injEq]at ht
    subst ht
    have hlk:=fun(V:World) (hV:aJ w V)=>ug underlying275 underlying9 rfl (hs.on hV) (hf.2 hsg) (YO V) true
    have Hlk:=ah hlk
    clear hlk hf h1 h2 k5 hsg hs
    have lV:=ah iH;clear iH
    go_enter func194,ntmps194
    go_upto_region 19 with(first|(refine dO ?_;intro w1 aO N1 dA bW eu eF))
    refine aP fun W hW=>?_
    have hlk:=Hlk.out W aM
    subst hW
    clear Hlk
    go_upto_region 20 with(fail)
    refine fG aL aL fun NL hL=>?_;obtain⟨dU,dV,hlf⟩:=hL;(try simp only[bf]at dU)
    repeat(go_big_quiet_step (fail))
    (refine wpQuiet_nil ?_;intro w1 iI;obtain⟨⟨w1,aO⟩,rfl⟩:=iI;clear dV hlf dU NL;obtain⟨N1,dA,bW,eu,eF⟩:=eB aO;(try simp only[bf]at dA))
    go_wp2
    go_ret
    exact⟨rfl,by exact aG⟩
   |some or=>
    obtain⟨o,q⟩:=or
    rw[hsg]at ht
    simp only at ht
    obtain⟨u,hu,ht⟩:=bind_some ht
    replace h1:=h1 u hu
    obtain⟨j,hj⟩:=hf.1 o q hsg
    have hlk:=fun(V:World) (hV:aJ w V)=>tZ underlying275 underlying9 rfl (hs.on hV) hj true
    have Hlk:=ah hlk
    clear hlk hf k5 hsg hs hj hu
    by_cases zo:u=o
    ·rw[if_pos zo]at ht
     obtain⟨z,hz,ht⟩:=bind_some ht
     replace h2:=h2 z hz
     have b8:=jY zo
     simp only[Option.some.injEq]at ht
     clear hz zo
     by_cases nk:z=o
     ·rw[if_pos nk]at ht
      have b9:=jY nk
      subst ht
      clear nk
      have lV:=ah iH;have o_:=ah h1;have yR:=ah h2;clear iH h1 h2
      go_enter func194,ntmps194
      go_upto_region 19 with(first|(refine dO ?_;intro w1 aO N1 dA bW eu eF))
      refine aP fun W hW=>?_
      have hlk:=Hlk.out W aM
      subst hW
      clear Hlk
      go_upto_region 20 with(fail)
      refine fG aL aL fun NL hL=>?_;obtain⟨dU,dV,hlf⟩:=hL;(try simp only[bf]at dU)
      repeat(go_big_quiet_step (first|(with_reducible exact aY (o_.out _ lu))|(with_reducible exact aY (yR.out _ lu))))
      (refine wpQuiet_nil ?_;intro w1 iI;obtain⟨⟨w1,aO⟩,rfl⟩:=iI;clear dV hlf dU NL;obtain⟨N1,dA,bW,eu,eF⟩:=eB aO;(try simp only[bf]at dA))
      go_wp2
      go_ret
      exact⟨rfl,by exact aG⟩
     ·rw[if_neg nk]at ht
      have b9:=jN nk
      subst ht
      clear nk
      have lV:=ah iH;have o_:=ah h1;have yR:=ah h2;clear iH h1 h2
      go_enter func194,ntmps194
      go_upto_region 19 with(first|(refine dO ?_;intro w1 aO N1 dA bW eu eF))
      refine aP fun W hW=>?_
      have hlk:=Hlk.out W aM
      subst hW
      clear Hlk
      go_upto_region 20 with(fail)
      refine fG aL aL fun NL hL=>?_;obtain⟨dU,dV,hlf⟩:=hL;(try simp only[bf]at dU)
      repeat(go_big_quiet_step (first|(with_reducible exact aY (o_.out _ lu))|(with_reducible exact aY (yR.out _ lu))))
      (refine wpQuiet_nil ?_;intro w1 iI;obtain⟨⟨w1,aO⟩,rfl⟩:=iI;clear dV hlf dU NL;obtain⟨N1,dA,bW,eu,eF⟩:=eB aO;(try simp only[bf]at dA))
      go_wp2
      go_ret
      exact⟨rfl,by exact aG⟩
    ·rw[if_neg zo]at ht
     simp only[Option.some.injEq]at ht
     have b8:=jN zo
     subst ht
     clear zo h2
     have lV:=ah iH;have o_:=ah h1;clear iH h1
     go_enter func194,ntmps194
     go_upto_region 19 with(first|(refine dO ?_;intro w1 aO N1 dA bW eu eF))
     refine aP fun W hW=>?_
     have hlk:=Hlk.out W aM
     subst hW
     clear Hlk
     go_upto_region 20 with(fail)
     refine fG aL aL fun NL hL=>?_;obtain⟨dU,dV,hlf⟩:=hL;(try simp only[bf]at dU)
     repeat(go_big_quiet_step (first|(with_reducible exact aY (o_.out _ lu))))
     (refine wpQuiet_nil ?_;intro w1 iI;obtain⟨⟨w1,aO⟩,rfl⟩:=iI;clear dV hlf dU NL;obtain⟨N1,dA,bW,eu,eF⟩:=eB aO;(try simp only[bf]at dA))
     go_wp2
     go_ret
     exact⟨rfl,by exact aG⟩
  rw[if_neg k5]at ht
  have b7:=jN k5
  simp only[Option.some.injEq]at ht
  subst ht
  clear k5 h1 h2 hs
  have lV:=ah iH;clear iH
  go_enter func194,ntmps194
  go_wp2_with (first|(refine dO ?_;intro w1 aO N1 dA bW eu eF))
  go_ret
  exact⟨rfl,by exact aG⟩
theorem K9 (s:ByteArray) (w:World):
  Calls prog 155 #[.string s] w fun e w'=>∃r,e=.returned (.agg #[.string s,.map (some r)])∧w'.heap[r]?=some (.map Rz 20)∧aJ w w'∧w.heap.size≤r:=by
 have gY:=results155;go_enter func155,ntmps155;go_upto_region 1 with(fail);refine aP fun W hW=>?_;have hbW:aJ w W:=aM;have k2:aV W w.heap.size [.string ⟨#[]⟩,.map none]:=dm;have SY:=k2.lt;obtain⟨t2,h2⟩:∃t2,t2=w.heap.size:=⟨_,rfl⟩
 rw[←h2]at k2 SY⊢;have⟨c2,f2,_⟩:=k2;clear hW;have H2:=ah h2;clear h2;have m0:=uQ (P:=prog) 220 W;have m1:=qZ underlying220 underlying9 rfl W #[] 0 (.string ⟨#[111,110]⟩) (ag 2) aL;simp only[nu,Nat.reduceAdd]at m1;have m2:=bJ m1 underlying220 underlying9 rfl (.string ⟨#[97,99,116]⟩) (ag 2) aL;simp only[nu,Nat.reduceAdd]at m2;have m3:=bJ m2 underlying220 underlying9 rfl (.string ⟨#[116,105,99,107]⟩) (ag 2) aL;simp only[nu,Nat.reduceAdd]at m3;have m4:=bJ m3 underlying220 underlying9 rfl (.string ⟨#[105,102]⟩) (ag 2) aL;simp only[nu,Nat.reduceAdd]at m4;have m5:=bJ m4 underlying220 underlying9 rfl (.string ⟨#[101,108,115,101]⟩) (ag 2) aL;simp only[nu,Nat.reduceAdd]at m5;have m6:=bJ m5 underlying220 underlying9 rfl (.string ⟨#[119,104,105,108,101]⟩) (ag 2) aL;simp only[nu,Nat.reduceAdd]at m6;have m7:=bJ m6 underlying220 underlying9 rfl (.string ⟨#[101,102,102,101,99,116]⟩) (ag 2) aL;simp only[nu,Nat.reduceAdd]at m7;have m8:=bJ m7 underlying220 underlying9 rfl (.string ⟨#[115,116,111,112]⟩) (ag 2) aL;simp only[nu,Nat.reduceAdd]at m8;have m9:=bJ m8 underlying220 underlying9 rfl (.string ⟨#[116,114,117,101]⟩) (ag 2) aL;simp only[nu,Nat.reduceAdd]at m9;have m10:=bJ m9 underlying220 underlying9 rfl (.string ⟨#[102,97,108,115,101]⟩) (ag 2) aL;simp only[nu,Nat.reduceAdd]at m10;have m11:=bJ m10 underlying220 underlying9 rfl (.string ⟨#[115,101,108,102]⟩) (ag 2) aL;simp only[nu,Nat.reduceAdd]at m11;have m12:=bJ m11 underlying220 underlying9 rfl (.string ⟨#[111,116,104,101,114]⟩) (ag 2) aL;simp only[nu,Nat.reduceAdd]at m12;have m13:=bJ m12 underlying220 underlying9 rfl (.string ⟨#[120]⟩) (ag 3) aL;simp only[nu,Nat.reduceAdd]at m13;have m14:=bJ m13 underlying220 underlying9 rfl (.string ⟨#[121]⟩) (ag 3) aL;simp only[nu,Nat.reduceAdd]at m14;have m15:=bJ m14 underlying220 underlying9 rfl (.string ⟨#[118,120]⟩) (ag 3) aL;simp only[nu,Nat.reduceAdd]at m15;have m16:=bJ m15 underlying220 underlying9 rfl (.string ⟨#[118,121]⟩) (ag 3) aL;simp only[nu,Nat.reduceAdd]at m16;have m17:=bJ m16 underlying220 underlying9 rfl (.string ⟨#[97]⟩) (ag 3) aL;simp only[nu,Nat.reduceAdd]at m17;have m18:=bJ m17 underlying220 underlying9 rfl (.string ⟨#[98]⟩) (ag 3) aL;simp only[nu,Nat.reduceAdd]at m18;have m19:=bJ m18 underlying220 underlying9 rfl (.string ⟨#[104,105,116]⟩) (ag 3) aL;simp only[nu,Nat.reduceAdd]at m19;have m20:=bJ m19 underlying220 underlying9 rfl (.string ⟨#[115,116,105,108,108]⟩) (ag 3) aL;simp only[nu,Nat.reduceAdd]at m20;go_wp2;have cZ:=au;have hbb:=hbW;have h2e:w.heap.size≤t2:=by rw[H2.out];exact aH _
 have hs:=hbW.size;refine bodyPost_ret (v:=.agg #[.string s,.map (some W.heap.size)]) (by simp[results,gY,go_sem,cZ,aQ,c2,SY]) rfl ⟨W.heap.size,rfl,?_,?_,ae⟩
 ·have e:((W.setCell ⟨t2,0,none⟩ (.string s)).setCell ⟨t2,1,none⟩ (.map (some W.heap.size))).heap.size=W.heap.size:=av;have:=World.alloc_heap_new ((W.setCell ⟨t2,0,none⟩ (.string s)).setCell ⟨t2,1,none⟩ (.map (some W.heap.size))) (.map Rz 20);rw[e]at this;exact this
 ·clear m0 m1 m2 m3 m4 m5 m6 m7 m8 m9 m10 m11 m12 m13 m14 m15 m16 m17 m18 m19 m20;exact aG
variable {n cap f:Nat}
def Nds (w:World) (X:Nat→Prop) (l:List Nd) (a:Option Addr) (n:Nat):Prop:=n=l.length∧(1≤n→∃b o,a=some ⟨b,o,none⟩∧b<w.heap.size∧∀i,i<n→∃a' n' m',(w.cell? ⟨b,o+i*4,none⟩=some (ag (l.getD i nd0).kind)∧w.cell? ⟨b,o+i*4+1,none⟩=some (ag (l.getD i nd0).num)∧w.cell? ⟨b,o+i*4+2,none⟩=some (.string (l.getD i nd0).str)∧w.cell? ⟨b,o+i*4+3,none⟩=some (.slice a' n' m'))∧ig w X (l.getD i nd0).kids a' n' m')
theorem ig.nds (h:ig w X l a n cap):Nds w X l a n:=by refine⟨h.len.1,fun h1=>?_⟩;obtain⟨b,e,hb,hg⟩:=h.get h1;exact⟨b,0,e,hb,fun i hi=>by simpa only[Nat.zero_add]using hg i hi⟩
def tlA (b m:Nat):Option Addr:=if m=1 then some ⟨b,0,none⟩else some ⟨b,4,none⟩
theorem ig.aqN {b:Nat} (h:ig w X l (some ⟨b,0,none⟩) n cap) (h1:1≤n):Nds w X (l.drop 1) (tlA b cap) (n-1):=by refine⟨by simp[h.len.1],fun eD=>?_⟩;have hc:=h.len.2;obtain⟨b',e,hb,hg⟩:=h.get h1;simp only[Option.some.injEq,Addr.mk.injEq,true_and]at e;obtain⟨rfl,_⟩:=e;refine⟨b,4,by unfold tlA;rw[if_neg ae],hb,fun i hi=>?_⟩;have hg:=hg (i+1) ae;rw[show(i+1)*4=4+i*4 from ae]at hg;rw[show(l.drop 1).getD i nd0=l.getD (i+1) nd0 by simp[List.getD_eq_getElem?_getD,Nat.add_comm]];exact hg
theorem Nds.on {w':World} (h:Nds w X l a n) (hb:aJ w w'):Nds w' X l a n:=by refine⟨h.1,fun h1=>?_⟩;obtain⟨b,o,e,hlt,hg⟩:=h.2 h1;refine⟨b,o,e,bH hlt hb.size,fun i hi=>?_⟩;obtain⟨a',n',m',⟨c0,c1,c2,c3⟩,hk⟩:=hg i hi;exact⟨a',n',m',⟨ai hb c0,ai hb c1,ai hb c2,ai hb c3⟩,hk.on hb⟩
def WtC (f:Nat):Prop:=∀(x:Nd),VC f x=true→∀(w:World) (r:Nat) (X:Nat→Prop) (a:Option Addr) (n m:Nat),I8 w r→ig w X x.kids a n m→Calls prog 160 #[.agg #[.map (some r)],ndV x a n m] w fun e w'=>e=.returned (.bool true)∧aJ w w'
def AwC (f:Nat):Prop:=∀(l:List Nd),l.all (VC f)=true→∀(w:World) (r:Nat) (X:Nat→Prop) (a:Option Addr) (n m:Nat),I8 w r→Nds w X l a n→n≤1000→Calls prog 195 #[.agg #[.map (some r)],.slice a n m] w fun e w'=>e=.returned (.bool true)∧aJ w w'
theorem aeo (h:WtC f):AwC f:=by
 intro l hl w r X a n m hs hn aqQ;have hr:r<w.heap.size:=(Array.getElem?_eq_some_iff.1 hs).1;have hcall:=fun(i:Nat) (hi:i<n) (V:World) (hV:aJ w V) (a':Option Addr) (n' m':Nat) (hk:ig w X (l.getD i nd0).kids a' n' m')=>h (l.getD i nd0) (List.all_eq_true.1 hl _ (by rw[List.getD_eq_getElem?_getD,List.getElem?_eq_getElem (by rw[←hn.1];exact hi)];exact List.getElem_mem _)) V r X a' n' m' (hs.on hV) (hk.on hV);unfold ndV at hcall;have FX:=hn.2;clear hn hs hl h;have vo:=ah hcall;have aqR:=ah FX;clear hcall FX;refine az ?_;intro hal bu;go_enter func195,ntmps195;go_wp2;refine aP fun W hW=>?_;have hbW:aJ w W:=aM;have k2:aV W w.heap.size [.map (some r)]:=dm;have VF:w.heap.size<W.heap.size:=xR;obtain⟨t2,h2⟩:∃t2,t2=w.heap.size:=⟨_,rfl⟩
 rw[←h2]at k2⊢;have H2:=ah h2;have Qb:=ah hbW;have Fj:=ah k2;have af_:t2<W.heap.size:=by rw[h2];exact VF
 clear hW h2 hbW k2 VF;go_loopw [9] (fun e wr=>∃k:Nat,k≤n∧e=ag k∧aJ W wr) (fun e _=>n-(intOf e).toNat);case atStart=>exact⟨0,Nat.zero_le _,rfl,aK _ _⟩
 case round=>
  obtain⟨k,ek,rfl,hbr⟩:=hrel;have k2:=Fj.out.later hbr;have⟨c2,f2,SY⟩:=k2;by_cases hkn:k<n
  ·have hki:(k:Int)<(n:Int):=ae;obtain⟨b,o,rfl,hb,hg⟩:=aqR.out ae;obtain⟨a',n',m',⟨c0,c1,d2,d3⟩,hkk⟩:=hg k hkn;have hbb:=Qb.out.trans (hbr.mono (Nat.le_of_lt (GU (Nat.le_of_eq H2.out.symm) af_)));replace c0:=ai hbb c0;replace c1:=ai hbb c1;replace d2:=ai hbb d2;replace d3:=ai hbb d3;replace hb:=bH hb hbb.size;have hle:w.heap.size≤W.heap.size:=Nat.le_of_lt (GU (Nat.le_of_eq H2.out.symm) af_);have lH:=ah fun V (hV:aJ W V)=>vo.out k hkn V (Qb.out.trans (hV.mono hle)) a' n' m' hkk;have hz:=hbr.size;clear hg hkk k2 hbb;generalize l.getD k nd0=x at*;go_wp2_with (first|((with_reducible refine(lH.out _ aG).mono ?_);refine df ?_;intro w3 gK N3 vD jK vF sJ));refine⟨⟨k+1,ae,av,?_⟩,by simp[intOf];omega⟩;exact aG
  ·obtain rfl:k=n:=ae;go_wp2;go_ret;refine⟨rfl,?_⟩;exact Qb.out.trans (hbr.mono (Nat.le_of_lt (GU (Nat.le_of_eq H2.out.symm) af_)))
theorem Zd (b n m:Nat) (h1:1≤n) (h2:n≤m) (W:World):Sem.run prog (Instr.slice 181 (aZ b n m) (some (ag 1)) none none) W=.ok (.slice (tlA b m) (n-1) (m-1)) W:=by have e1:¬((m:Int)<(n:Int)):=ae;have e2:(1:Int)≤(n:Int):=ae;simp[Instr.slice,run_underlying underlying181,Instr.sliceBounds,run_sliceBound,sliced,go_sem,tlA, *]
theorem ak0 (ha:AwC f):WtC (f+1):=by
 rintro⟨k,v,s,l⟩ ht w r X a n m hs hk;obtain⟨a1,n1,m1,a2,n2,m2,ek,iO,iH⟩:=TZ (l:=l) hk;have hr:r<w.heap.size:=(Array.getElem?_eq_some_iff.1 hs).1;simp only[VC]at ht;have h1:=fun h=>(KW f).at (x:=dF l 0) (t:=1) h hs ek;have h2:=fun h=>(KW f).at (x:=dF l 1) (t:=1) h hs iO;have h3:=fun h=>(KW f).at (x:=dF l 0) (t:=2) h hs ek;unfold ndV at iH;simp only[ndV,Nd.kind,Nd.num,Nd.str];obtain⟨hnl,hcap⟩:=hk.len;simp only[Nd.kids]at hnl hk;have Hnl:=ah hnl;clear hnl;generalize dF l 0=x at*;generalize dF l 1=y at*;refine az ?_;intro hal bu;by_cases k1:k=1
 ·rw[if_pos k1]at ht;have b1:=jY k1;replace h1:=h1 (by simpa using ht);clear h2 h3 ht k1 hs hk ha;have lV:=ah iH;have o_:=ah h1;clear iH h1;go_enter func160,ntmps160;go_wp2_with (first|(refine dO ?_;intro w1 aO N1 dA bW eu eF)|(refine jh ?_;intro w2 dW N2 nM gX ku lI));go_ret;exact⟨rfl,by exact aG⟩
 rw[if_neg k1]at ht;have b1:=jN k1;clear k1;by_cases k2:k=2
 ·rw[if_pos k2]at ht;have b2:=jY k2;simp only[Bool.and_eq_true,Bool.not_eq_true',beq_iff_eq]at ht;obtain⟨⟨⟨g1,g2⟩,g3⟩,g4⟩:=ht;have e1:(s.toList==[104,105,116])=false:=by rw[toList_data];exact g1
  have e2:(s.toList==[115,116,105,108,108])=false:=by rw[toList_data];exact g2
  replace h1:=h1 g3;replace h2:=h2 g4;clear h3 g1 g2 g3 g4 k2 hs hk ha;exact DD
 rw[if_neg k2]at ht;have b2:=jN k2;clear k2;by_cases k3:k=5
 ·rw[if_pos k3]at ht;have b3:=jY k3;simp only[Bool.and_eq_true,beq_iff_eq]at ht;obtain⟨g3,g4⟩:=ht;replace h1:=h1 g3;replace h2:=h2 g4;clear h3 g3 g4 k3 hs hk ha;exact DD
 rw[if_neg k3]at ht;have b3:=jN k3;clear k3 h1 h2;by_cases k4:k=3∨k=4
 ·rw[if_pos k4]at ht;simp only[Bool.and_eq_true,beq_iff_eq,decide_eq_true_eq]at ht;obtain⟨⟨g3,g5,g6⟩,g4⟩:=ht;replace h3:=h3 g3;have h1n:1≤n:=rR;have h1i:(1:Int)≤(n:Int):=ae;obtain⟨b,rfl,hb,_⟩:=hk.get h1n;have eD:=hk.aqN h1n;have hsl:=fun W=>Zd b n m h1n hcap W;have h4:=fun(V:World) (hV:aJ w V)=>ha _ g4 V r X _ _ (m-1) (hs.on hV) (eD.on hV) rR;clear g3 g4 eD hs hk ha;rcases k4 with rfl|rfl
  ·have lV:=ah iH;have Qc:=ah h3;have Hh4:=ah h4;clear iH h3 h4;exact DF
  ·have lV:=ah iH;have Qc:=ah h3;have Hh4:=ah h4;clear iH h3 h4;exact DF
 rw[if_neg k4]at ht;have b4:=jN (fun h=>k4 (.inl h));have b5:=jN (fun h=>k4 (.inr h));clear k4 h3;by_cases k5:k=6
 ·have b6:=jY k5;clear ht hs hk ha k5;have lV:=ah iH;clear iH;go_enter func160,ntmps160;go_wp2_with (first|(refine dO ?_;intro w1 aO N1 dA bW eu eF));go_ret;exact⟨rfl,by exact aG⟩
 rw[if_neg k5]at ht;have b6:=jN k5;clear k5;by_cases k6:k=7
 ·rw[if_pos k6]at ht;have b7:=jY k6;simp only[Bool.and_eq_true,decide_eq_true_eq]at ht;have eD:=hk.nds;have h4:=fun(V:World) (hV:aJ w V)=>ha _ ht.2 V r X _ _ m (hs.on hV) (eD.on hV) rR;clear ht hs hk ha k6 eD;have lV:=ah iH;have Hh4:=ah h4;clear iH h4;go_enter func160,ntmps160;go_wp2_with (first|(refine dO ?_;intro w1 aO N1 dA bW eu eF)|((with_reducible refine(Hh4.out _ aG).mono ?_);refine df ?_;intro w2 dW N2 nM gX ku lI));go_ret;exact⟨rfl,by exact aG⟩
 rw[if_neg k6]at ht;cases ht
theorem KV:∀f,WtC f∧AwC f
 |0=>⟨fun x h=>(by simp[VC]at h),aeo fun x h=>(by simp[VC]at h)⟩
 |f+1=>have h:=ak0 (KV f).2;⟨h,aeo h⟩
theorem GI (w:World):
  Calls prog 159 #[] w fun e w'=>∃r,e=.returned (.agg #[.map (some r)])∧I8 w' r∧aJ w w':=by
 have gY:=results159;go_enter func159,ntmps159;go_upto_region 2 with(fail);refine aP fun W hW=>?_;have hbW:aJ w W:=aM;have k0:aV W w.heap.size [.map none]:=by rw[hW];exact(((aV.new _ _ _ _ rfl).alloc _).alloc _).alloc _
 have k1:aV W (w.heap.size+1) [ag 1,ag 1]:=by rw[hW];exact((aV.new _ _ _ _ av).alloc _).alloc _
 have k2:aV W (w.heap.size+2) [ag 1,ag 2]:=fV;have k3:aV W (w.heap.size+3) [ag 2,ag 2]:=eX;have lt0:=k0.lt;have lt1:=k1.lt;have SY:=k2.lt;have lt3:=k3.lt;obtain⟨t0,h0⟩:∃t0,t0=w.heap.size:=⟨_,rfl⟩
 rw[←h0]at k0 k1 k2 k3 lt0 lt1 SY lt3⊢;have⟨c0,f0,_⟩:=k0;have c1:=k1.cell;have c2:=k2.cell;have c3:=k3.cell;clear hW k0 k1 k2 k3;have H0:=ah h0;clear h0;have m0:=uQ (P:=prog) 275 W;have m1:=qZ underlying275 underlying9 rfl W #[] 0 (.string ⟨#[43]⟩) (.agg #[ag 1,ag 1]) aL;simp only[nu,Nat.reduceAdd]at m1;have m2:=bJ m1 underlying275 underlying9 rfl (.string ⟨#[45]⟩) (.agg #[ag 1,ag 1]) aL;simp only[nu,Nat.reduceAdd]at m2;have m3:=bJ m2 underlying275 underlying9 rfl (.string ⟨#[42]⟩) (.agg #[ag 1,ag 1]) aL;simp only[nu,Nat.reduceAdd]at m3;have m4:=bJ m3 underlying275 underlying9 rfl (.string ⟨#[47]⟩) (.agg #[ag 1,ag 1]) aL;simp only[nu,Nat.reduceAdd]at m4;have m5:=bJ m4 underlying275 underlying9 rfl (.string ⟨#[60]⟩) (.agg #[ag 1,ag 2]) aL;simp only[nu,Nat.reduceAdd]at m5;have m6:=bJ m5 underlying275 underlying9 rfl (.string ⟨#[60,61]⟩) (.agg #[ag 1,ag 2]) aL;simp only[nu,Nat.reduceAdd]at m6;have m7:=bJ m6 underlying275 underlying9 rfl (.string ⟨#[62]⟩) (.agg #[ag 1,ag 2]) aL;simp only[nu,Nat.reduceAdd]at m7;have m8:=bJ m7 underlying275 underlying9 rfl (.string ⟨#[62,61]⟩) (.agg #[ag 1,ag 2]) aL;simp only[nu,Nat.reduceAdd]at m8;have m9:=bJ m8 underlying275 underlying9 rfl (.string ⟨#[61,61]⟩) (.agg #[ag 1,ag 2]) aL;simp only[nu,Nat.reduceAdd]at m9;have m10:=bJ m9 underlying275 underlying9 rfl (.string ⟨#[33,61]⟩) (.agg #[ag 1,ag 2]) aL;simp only[nu,Nat.reduceAdd]at m10;have m11:=bJ m10 underlying275 underlying9 rfl (.string ⟨#[38,38]⟩) (.agg #[ag 2,ag 2]) aL;simp only[nu,Nat.reduceAdd]at m11;have m12:=bJ m11 underlying275 underlying9 rfl (.string ⟨#[124,124]⟩) (.agg #[ag 2,ag 2]) aL;simp only[nu,Nat.reduceAdd]at m12;go_wp2;have cZ:=au;have hbb:=hbW;have h2e:w.heap.size≤t0:=by rw[H0.out];exact aH _
 have hs:=hbW.size;refine bodyPost_ret (v:=.agg #[.map (some W.heap.size)]) (by simp[results,gY,go_sem,cZ,aQ,c0,lt0]) rfl ⟨W.heap.size,rfl,?_,?_⟩
 ·have e:(W.setCell ⟨t0,0,none⟩ (.map (some W.heap.size))).heap.size=W.heap.size:=av;have:=World.alloc_heap_new (W.setCell ⟨t0,0,none⟩ (.map (some W.heap.size))) (.map abX 12);rw[e]at this;exact this
 ·clear m0 m1 m2 m3 m4 m5 m6 m7 m8 m9 m10 m11 m12;exact aG
end Pa
end Go.Proofs.YtohpdonnpbjfdaaGreatDoor
