/- What is shown: short words. Conditions: as each theorem states. -/
import Derived.Below
import Derived.WalkKit
set_option maxHeartbeats 40000000
set_option maxRecDepth 100000
set_option linter.unusedVariables false
set_option linter.unusedSimpArgs false
namespace Go.Proofs.YtohpdonnpbjfdaaGreatDoor
open Go Go.RowKit
theorem aG {P:Prop} (h:P:=by (repeat(first|(with_reducible exact Below.refl _ _)|(with_reducible refine Below.drew ?_)|(with_reducible refine below_drewN ?_ _)|(with_reducible refine Below.setCell ?_ (by first|(simp;done)|(simp;omega)|omega) _)|(with_reducible refine Below.alloc ?_ (by first|(simp;done)|(simp;omega)|omega) _)|(with_reducible refine Below.trans ?_ (Below.mono (by assumption) (by first|(simp;done)|(simp;omega)|omega)))|(with_reducible refine Below.trans ?_ (Below.mono (dh.below _) (by first|(simp;done)|(simp;omega)|omega)))))):P:=h
theorem lu {P:Prop} (h:P:=by (repeat(first|exact Below.refl _ _|(with_reducible refine Below.drew ?_)|(with_reducible refine below_drewN ?_ _)|(with_reducible refine Below.setCell ?_ (by first|(simp;done)|(simp;omega)|omega) _)|(with_reducible refine Below.alloc ?_ (by first|(simp;done)|(simp;omega)|omega) _)|(with_reducible refine Below.trans ?_ (Below.mono (by assumption) (by first|(simp;done)|(simp;omega)|omega)))|(with_reducible refine Below.trans ?_ (Below.mono (dh.below _) (by first|(simp;done)|(simp;omega)|omega)))))):P:=h
theorem aW {P:Prop} (h:P:=by
 ((repeat(first|(with_reducible exact Ch.refl _ _)|(with_reducible refine Ch.drew ?_)|(with_reducible refine Ch.set ?_ (by(first|(refine Or.inl ?_;simp;done)|(refine Or.inr ?_;first|(simp;done)|(simp;omega)|omega))) _)|(with_reducible refine Ch.alloc ?_ _)|(with_reducible refine Ch.of_below ?_ (by assumption) (by first|(simp;done)|(simp;omega)|omega))|(with_reducible refine Ch.trans ?_ (by assumption) (by simp only[List.mem_cons,List.not_mem_nil,or_false,forall_eq,forall_eq_or_imp];(first|omega|(simp;done)|(simp;omega)|(refine⟨?_,?_⟩<;>omega))))));first|done|fail)):P:=h
theorem bP {P:Prop} (h:P:=by intro z hz;simp only[List.mem_cons,List.not_mem_nil,or_false]at hz⊢<;>(try simp only[World.size_alloc,World.size_setCell,World.size_drew])<;>omega):P:=h
theorem cO {P:Prop} (h:P:=by first|(simp;done)|(simp;omega)|omega):P:=h
theorem bf:(∀(w:World)(o:Obj),(w.alloc o).heap.size=w.heap.size+1)∧(∀(w:World)(p:Addr)(v:Value),(w.setCell p v).heap.size=w.heap.size)∧∀w:World,w.drew.heap.size=w.heap.size:=⟨fun w o=>World.size_alloc w o,fun w p v=>World.size_setCell w p v,fun w=>World.size_drew w⟩
theorem dH:(∀(α:Type)(l:List α)(i:Nat)(a:α),l.toArray.setIfInBounds i a=(l.set i a).toArray)∧(∀(α:Type)(x:α)(l:List α)(a:α),(x::l).set 0 a=a::l)∧∀(α:Type)(x:α)(l:List α)(n:Nat)(a:α),(x::l).set (n+1) a=x::l.set n a:=⟨fun _ _ _ _=>by simp,fun _ _ _ _=>rfl,fun _ _ _ _ _=>rfl⟩
theorem jA:(∀(α β:Type)(f:α→β)(a:α)(l:List α),List.map f (a::l)=f a::List.map f l)∧(∀(α β:Type)(f:α→β),List.map f []=[])∧(∀(α:Type)(a:α)(l:List α)(d:α),List.getD (a::l) 0 d=a)∧∀(α:Type)(a:α)(l:List α)(n:Nat)(d:α),List.getD (a::l) (n+1) d=List.getD l n d:=⟨fun _ _ _ _ _=>rfl,fun _ _ _=>rfl,fun _ _ _ _=>rfl,fun _ _ _ _ _=>rfl⟩
abbrev ag (x:Int):Value:=.int .i64 x
abbrev aR (b:Nat):Value:=.pointer (some ⟨b,0,none⟩)
abbrev aZ (b n c:Nat):Value:=.slice (some ⟨b,0,none⟩) n c
abbrev aJ (w w':World):Prop:=Below w.heap.size w w'
theorem ae {P:Prop} (h:P:=by omega):P:=h
theorem av {P:Prop} (h:P:=by simp):P:=h
theorem bL {P:Prop} (h:P:=by decide):P:=h
theorem bU {P:Prop} (h:P:=by simp;omega):P:=h
abbrev aU:=@World.block_lt_of_cell?
abbrev bH:=@Nat.lt_of_lt_of_le
abbrev aS:=@Nat.le_trans
abbrev ik:=@List.getElem?_eq_getElem
abbrev bD:=@Option.some.inj
abbrev qo:=@List.mem_of_getElem?
abbrev GU:=@Nat.lt_of_le_of_lt
abbrev aH:=@Nat.le_refl
abbrev afK:=@List.length_eq_zero_iff
abbrev dI:=@Below.heap_setCell
abbrev gV:=@Below.heap_alloc
abbrev bg:=@World.cell?_of_block
abbrev jw:=@World.ownsRow_nil
abbrev aK:=@Below.refl
abbrev afA:=@Int.tdiv_eq_ediv_of_nonneg
abbrev afB:=@Int.tmod_eq_emod_of_nonneg
abbrev h_:=@List.mem_append
abbrev uH:=@List.mem_singleton
abbrev KX:=@Option.bind_eq_some_iff
abbrev gL:=@IntWalk.i64_in
theorem df {P Q:Prop} (q:Q) (h:Q→P:=by intro kk;rintro e w1 ⟨rfl,aO⟩;obtain⟨N1,dA,bW,eu,eF⟩:=eB aO;(try simp only[bf]at dA);revert eF;revert eu;revert bW;revert dA;revert N1;revert aO;revert w1;exact kk):P:=h q
theorem kU {P Q:Prop} (q:Q) (h:Q→P:=by intro kk;rintro e w1 ⟨rfl,pG,aO⟩;obtain⟨N1,dA,bW,eu,eF⟩:=YW aO;(try simp only[bf]at dA);revert eF;revert eu;revert bW;revert dA;revert N1;revert aO;revert pG;revert w1;exact kk):P:=h q
theorem jD {P Q:Prop} (q:Q) (h:Q→P:=by intro kk;rintro e w1 ⟨a1,n1,m1,rfl,ek,pG,aO⟩;obtain⟨N1,dA,bW,eu,eF⟩:=YW aO;(try simp only[bf]at dA);revert eF;revert eu;revert bW;revert dA;revert N1;revert aO;revert pG;revert ek;revert m1;revert n1;revert a1;revert w1;exact kk):P:=h q
end Go.Proofs.YtohpdonnpbjfdaaGreatDoor
