/- What is shown: slices of rows. Conditions: as each theorem states. -/
import Derived.Laws.MakeOwn
import Derived.Test.YtohpdonnpbjfdaaGreatDoorY9
set_option maxHeartbeats 40000000
set_option maxRecDepth 100000
set_option linter.unusedVariables false
set_option linter.unusedSimpArgs false
namespace Go.Proofs.YtohpdonnpbjfdaaGreatDoor
theorem oJ {P:Prop} (h:P:=by rw[mi];exact aV.new _ _ _ _ rfl):P:=h
namespace Ro
open Go Go.RowKit Qt
variable {k:IntKind} {w w':World} {b:Nat} {c:List Int}
structure Row (k:IntKind) (w:World) (b:Nat) (c:List Int):Prop where
 cells:∀i,i<c.length→w.cell? ⟨b,i,none⟩=some (.int k (c.getD i 0))
 free:∀i,w.frozen? ⟨b,i,none⟩=false
 lt:b<w.heap.size
theorem Row.keep (h:Row k w b c) (hs:w.heap.size≤w'.heap.size) (e:w'.heap[b]?=w.heap[b]?):Row k w' b c:=
 ⟨fun i hi=>(bg (a:=⟨b,i,none⟩) e).trans (h.cells i hi),fun i=>(World.frozen?_of_block (a:=⟨b,i,none⟩) e).trans (h.free i),bH h.lt hs⟩
theorem Row.below {B:Nat} (h:Row k w b c) (hb:Below B w w') (hB:b<B):Row k w' b c:=h.keep hb.size (hb.block b hB)
theorem Row.other (h:Row k w b c) {p:Addr} (hp:p.block≠b) (v:Value):Row k (w.setCell p v) b c:=
 h.keep (by simp[World.setCell]) (dI _ _ _ _ (Ne.symm hp))
theorem Row.put (h:Row k w b c) (i:Nat) (hi:i<c.length) (v:Int):Row k (w.setCell ⟨b,i,none⟩ (.int k v)) b (c.set i v):=by
 refine⟨fun j hj=>?_,fun j=>by simp[h.free],by simpa[World.setCell]using h.lt⟩;simp only[List.length_set]at hj;have:=h.cells j hj;by_cases e:j=i
 ·subst e;simp[au,this,List.getD_eq_getElem?_getD,hi]
 ·simp[au,this,List.getD_eq_getElem?_getD,e,Ne.symm e]
theorem Row.drew (h:Row k w b c):Row k w.drew b c:=⟨h.cells,h.free,h.lt⟩
theorem Row.alloc (h:Row k w b c) (o:Obj):Row k (w.alloc o) b c:=h.keep av (gV _ _ _ h.lt)
theorem IP (v:Value) (n:Nat):madeCells #[v] n=Array.replicate n v:=by
 apply Array.ext
 ·simp[madeCells]
 ·intro i h1 h2;simp[madeCells,Nat.mod_one]
theorem Gb (k:IntKind) (w:World) (n:Nat) (e:TypeId):Row k (w.alloc (.cells (madeCells #[.int k 0] n) e)) w.heap.size (List.replicate n 0):=by refine⟨fun i hi=>?_,fun i=>World.frozen?_alloc_new w _ e i,av⟩;rw[World.cell?_alloc_new,IP];simp only[List.length_replicate]at hi;simp[hi,List.getD_eq_getElem?_getD]
theorem wpList_make_row {P:Program} (w:World) {ops:Array Oper} {rest:List Oper} {o:Oper} {a:Act} {Q:Exit→Act→World→Prop} (kd:IntKind)
  (hg:o.guard=none) (l c:Operand) (t:TypeId) (hop:o.op=Op.makeSlice t l c)
  (e:TypeId) (i:TypeInfo) (bytes:Nat) (h1:P.underlying t=some (.slice e)) (h2:P.info? e=some i) (h3:i.zero=some (.int kd 0)) (h4:i.size=1) (h5:i.bytes=bytes)
  (kl kc:IntKind) (L C:Int) (n:Nat) (hl:a.eval l=.int kl L) (hc:a.eval c=.int kc C) (hL:L=(n:Int)) (hC:C=(n:Int)) (b2:bytes*n≤281474976710656) (b3:n≤9223372036854775807)
  (hK:∀w',Row kd w' w.heap.size (List.replicate n 0)→aJ w w'→wpList P ops Q rest (a.put o.dst (aZ w.heap.size n n)) w'):
  wpList P ops Q (o::rest) a w:=by
 refine wpList_plain hg fun K hK'=>?_;subst hL;subst hC;subst h5;have dW:(i.bytes:Int)*(n:Int)≤281474976710656:=by have h:((i.bytes*n:Nat):Int)≤281474976710656:=ae;rwa[Int.natCast_mul]at h
 have hrun:=run_make (P:=P) w t e i (.int kd 0) h1 h2 h3 kl kc n n ae (Int.le_refl _) dW ae;simp only[Int.toNat_natCast,h4,Nat.mul_one,Value.cells]at hrun;unfold Oper.wp;have e0:(execOp a.eval o).run P w=.ok (.value (aZ w.heap.size n n)) (w.alloc (.cells (madeCells #[.int kd 0] n) e)):=by simp only[execOp,hop,hl,hc,Sem.run_bind,hrun,Result.andThen_ok,Sem.run_pure]
 rw[e0];exact hK' _ _ (hK _ (Gb kd w n e) ((aK _ _).alloc (aH _) _))
def sofar (c:List Int) (k:Nat):List Int:=c.take k++List.replicate (c.length-k) 0
theorem uM (c:List Int) (k:Nat) (h:k≤c.length):(sofar c k).length=c.length:=by simp[sofar];omega
theorem F9 (c:List Int):sofar c 0=List.replicate c.length 0:=by simp[sofar]
theorem F_ (c:List Int):sofar c c.length=c:=by simp[sofar]
theorem QG (c:List Int) (k:Nat) (h:k<c.length):(sofar c k).set k (c.getD k 0)=sofar c (k+1):=by
 apply List.ext_getElem
 ·simp[sofar];omega
 ·intro i h1 h2;simp only[sofar,List.getElem_set,List.getElem_append,List.length_take,List.getElem_take,List.getElem_replicate];by_cases e:k=i
  ·subst e;have:k<min (k+1) c.length:=ae;simp[this,List.getD_eq_getElem?_getD,h]
  ·have h3:(i<min k c.length)=(i<min (k+1) c.length):=by apply propext;constructor<;>intro h<;>omega
   simp[e,h3]
end Ro
end Go.Proofs.YtohpdonnpbjfdaaGreatDoor
