/- The law TopSingleStep of the given program holds, as its card states it. Conditions: none. -/
import Derived.LaidMore
import Derived.Lay
import Derived.SevenTiedAt
import Derived.Stop.Joined
import Derived.Test.YtohpdonnpbjfdaaGreatDoorCards
import Derived.Test.YtohpdonnpbjfdaaGreatDoorTie
import Derived.Test.YtohpdonnpbjfdaaGreatDoorY52
set_option maxHeartbeats 40000000
set_option maxRecDepth 100000
set_option linter.unusedVariables false
set_option linter.unusedSimpArgs false
open Go.Proofs.Tryz
namespace Go.Proofs.YtohpdonnpbjfdaaGreatDoor
theorem BD {P:Prop} (h:P:=by
 rcases open_ints underlying22 underlying3 aL hf with⟨hcs,_⟩|⟨x,l,c,zs,hcs,_,hl,hm,hz,_,hcell,hwz⟩
 ·simp[Value.cells]at hcs;obtain⟨rfl,rfl,rfl⟩:=hcs;exact⟨[],.inl ⟨rfl,rfl,rfl,rfl⟩⟩
 ·simp[Value.cells]at hcs;obtain⟨rfl,rfl,rfl⟩:=hcs;exact⟨zs,.inr ⟨_,rfl,hl,hm,by simpa using hz,hcell,hwz⟩⟩):P:=h
namespace topSingleStep
open Go Go.ChangeShapes Go.WideShapes Go.ChangeAt Go.RowKit Bk
variable {W:World} {P:Program} {n:String} {g:Nat} {cs:Array Value}
theorem own:ownKnob prog.godebug=none:=aL
theorem laidOut:laidOutB prog=true:=aL
theorem Xo {n0 m:Nat} {t e ti:TypeId} {fs:Array Field} {fuel:Nat} {p:List MemPlace} {rows:List (List Int)}
  (hg:P.globalNamed n=some g) (hv:W.var? P n=some cs) (ht:P.underlying t=some (.array n0 e)) (he:P.underlying e=some (.struct fs)) (hi:P.underlying ti=some (.int .i64)) (hc:P.cellsOf e=m) (hci:P.cellsOf ti=1) (hct:P.cellsOf t=n0*m)
  (hfs:fs.size=m) (hf:∀i,i<m→∃f,fs[i]?=some f∧f.type=ti∧f.offset=i)
  (hd:DataW.trod (fun _=>()) P W 0 (fun _=>true) false fuel t cs.toList=some (.agg (rows.map fun r=>.agg (r.map fun z=>.lit (.int .i64 z))),p)):
  cs.toList=(rows.flatMap id).map (Value.int .i64):=by
 obtain⟨xs,k,_,ex,hl,hx,hel⟩:=DataW.trod_array ht hd;have e1:xs.map (·.1)=rows.map fun r=>(DataW.agg (r.map fun z=>.lit (.int .i64 z)):DataW Unit):=(DataW.agg.inj (Prod.mk.inj ex).1).symm;have hr:rows.length=n0:=by have:=congrArg List.length e1;simpa[hx]using this.symm
 have hrow:∀i r,rows[i]?=some r→r.length=m∧∀j z,r[j]?=some z→cs.toList[i*m+j]?=some (.int .i64 z):=by
  intro i r Uy;have hin:i<n0:=by rw[←hr];exact(List.getElem?_eq_some_iff.1 Uy).1
  have h1:=hel i hin;rw[hc,List.getElem?_eq_getElem ae]at h1;obtain⟨ys,k2,_,ey,hyl,hys,an2⟩:=DataW.trod_struct he h1;have e2:(xs[i]'ae).1=(DataW.agg (r.map fun z=>.lit (.int .i64 z)):DataW Unit):=by
   have h2:(xs.map (·.1))[i]?=(rows.map fun r=>(DataW.agg (r.map fun z=>.lit (.int .i64 z)):DataW Unit))[i]?:=by rw[e1]
   rw[List.getElem?_map,List.getElem?_map,Uy,List.getElem?_eq_getElem (by omega:i<xs.length)]at h2;simpa using h2
  have e3:ys.map (·.1)=r.map fun z=>(DataW.lit (.int .i64 z):DataW Unit):=by rw[ey]at e2;exact DataW.agg.inj e2
  have hrl:r.length=m:=by have:=congrArg List.length e3;simp only[List.length_map]at this;omega
  refine⟨hrl,fun j z hz=>?_⟩;have hj:j<m:=by rw[←hrl];exact(List.getElem?_eq_some_iff.1 hz).1
  obtain⟨f,hfj,hft,hfo⟩:=hf j hj;have h3:=an2 j f hfj;rw[hft,hfo,hci,List.getElem?_eq_getElem ae]at h3;obtain⟨z',e4,e5,_⟩:=DataW.trod_int hi h3;have hzz:z'=z:=by
   have h4:(ys.map (·.1))[j]?=(r.map fun z=>(DataW.lit (.int .i64 z):DataW Unit))[j]?:=by rw[e3]
   rw[List.getElem?_map,List.getElem?_map,hz,List.getElem?_eq_getElem (by omega:j<ys.length),e5]at h4;simpa using h4
  subst hzz;have h5:((((cs.toList.drop (i*m)).take m).drop j).take 1)[0]?=some (.int .i64 z'):=by rw[e4];rfl
  rw[List.getElem?_take,if_pos ae,List.getElem?_drop,List.getElem?_take,if_pos ae,List.getElem?_drop]at h5;simpa using h5
 have hlen:∀r∈rows,r.length=m:=fun r hr'=>by obtain⟨i,hi⟩:=List.getElem?_of_mem hr';exact(hrow i r hi).1
 have hfl:∀l:List (List Int),(∀r∈l,r.length=m)→(l.flatMap id).length=l.length*m:=by
  intro l;induction l with
  |nil=>intro _;simp
  |cons a l ih=>intro h;rw[List.flatMap_cons,List.length_append,ih fun r hr'=>h r (by simp[hr']),List.length_cons,show(id a).length=m from h a av,Nat.succ_mul];omega
 have hget:∀(l:List (List Int)) (_:∀r∈l,r.length=m) (i j:Nat) (r:List Int),j<m→l[i]?=some r→(l.flatMap id)[i*m+j]?=r[j]?:=by
  intro l;induction l with
  |nil=>intro _ i j r _ h;simp at h
  |cons a l ih=>
   intro h i j r hj hr';have ha:a.length=m:=h a av;rw[List.flatMap_cons];cases i with
   |zero=>
    obtain rfl:a=r:=by simpa using hr'
    rw[Nat.zero_mul,Nat.zero_add,List.getElem?_append_left (by show j<a.length;omega)];rfl
   |succ i=>rw[Nat.succ_mul,List.getElem?_append_right (by show a.length≤_;omega),show i*m+m+j-(id a).length=i*m+j by show _-a.length=_;omega];exact ih (fun r hr'=>h r (by simp[hr'])) i j r hj (by simpa using hr')
 rw[hct]at hl;refine List.ext_getElem? fun q=>?_;rw[List.getElem?_map];by_cases hq:q<n0*m
 ·have hm:0<m:=by
   rcases Nat.eq_zero_or_pos m with h|h
   ·rw[h]at hq;simp at hq
   ·exact h
  have h1:q/m<n0:=Nat.div_lt_of_lt_mul (by rw[Nat.mul_comm];exact hq);have h2:q%m<m:=Nat.mod_lt _ hm;have h3:q=q/m*m+q%m:=by rw[Nat.mul_comm];exact(Nat.div_add_mod q m).symm
  obtain⟨r,hr'⟩:∃r,rows[q/m]?=some r:=⟨_,ik ae⟩
  obtain⟨hrl,hz⟩:=hrow _ r hr';obtain⟨z,hz'⟩:∃z,r[q%m]?=some z:=⟨_,ik ae⟩
  rw[h3,hz _ z hz',hget rows hlen _ _ r h2 hr',hz'];rfl
 ·rw[List.getElem?_eq_none ae,List.getElem?_eq_none (by rw[hfl rows hlen,hr];omega)];rfl
theorem SX {L:List Value} (hg:P.globalNamed n=some g) (hv:W.var? P n=some cs) (hL:cs.toList=L) (hfr:∃c t,W.heap[g]?=some (.cells c t (0,0))):aV W g L:=by
 obtain⟨c,t,hh⟩:=hfr;refine⟨fun i=>?_,fun i=>?_,?_⟩
 ·rw[World.var?_cell hg hv i,←hL];simp
 ·simp[World.frozen?,hh]
 ·exact(Array.getElem?_eq_some_iff.1 hh).1
def an3:List (List Int):=[[0,0,0],[0,1,0],[0,1,16],[1,0,16],[1,1,8],[2,0,8],[0,1,0],[0,1,0],[0,1,0],[2,1,0],[2,1,0],[2,1,0],[2,1,0],[1,1,0],[2,1,0],[2,1,0],[2,1,0],[1,1,0],[0,0,0],[1,0,0],[2,0,0],[0,0,0]]
theorem aaJ (h:laidMetH prog Rows.topSingleStepRow.laid W):aV W 0 Vm.jH∧aV W 1 Pa.tJ:=by
 rw[MakeChecks.laidMetH_plain _ _ _ aL]at h;obtain⟨ps,⟨g1,t1,cs1,f1,p1,q1,BB,ht1,hv1,hd1,⟨g0,t0,cs0,f0,p0,q0,BC,Xp,hv0,hd0,hnil,rfl⟩,rfl⟩,_,hfr⟩:=h;obtain rfl:=bD ((show prog.globalNamed "arenanet/compile.effects" =some 1 from aL).symm.trans BB);obtain rfl:=bD ((show prog.globalNamed "arenanet/vm.effects" =some 0 from aL).symm.trans BC);obtain rfl:=bD ((show(prog.globals[1]?).map (·.type)=some 288 from aL).symm.trans ht1);obtain rfl:=bD ((show(prog.globals[0]?).map (·.type)=some 237 from aL).symm.trans Xp);have hh:∀i,i<2→i=0∨i=1:=fun i hi=>by omega
 have hh3:∀i,i<3→i=0∨i=1∨i=2:=fun i hi=>by omega
 have e1:=Xo (rows:=Pa.qC.map fun x=>[x.1,x.2]) (m:=2) BB hv1 underlying288 underlying287 underlying3 aL aL aL rfl (fun i hi=>by rcases hh i hi with rfl|rfl<;>exact⟨_,rfl,rfl,rfl⟩) hd1;have e0:=Xo (rows:=an3) (m:=3) BC hv0 underlying237 underlying236 underlying3 aL aL aL rfl (fun i hi=>by rcases hh3 i hi with rfl|rfl|rfl<;>exact⟨_,rfl,rfl,rfl⟩) hd0;have s1:cs1.size=44:=by rw[←Array.length_toList,e1];rfl
 have s0:cs0.size=66:=by rw[←Array.length_toList,e0];rfl
 exact⟨SX BC hv0 e0 (hfr 0 0 (by rw[s0];simp[MemPlace.row,List.range_succ])).1,SX BB hv1 e1 (hfr 1 0 (by rw[s1];simp[MemPlace.row,List.range_succ])).1⟩
theorem walk (a0:Option Addr) (Iz cap0:Nat) (z0:List Int) (a1:Int) (a2:Option Addr) (Mh cap2:Nat) (z2:List Int) (a3 a4:Int) (w:World) (w0:Fr.tK .i64 w a0 Iz cap0 z0) (w1:(Lit.int .i64 a1).wf=true) (w2:Fr.tK .i64 w a2 Mh cap2 z2) (w3:(Lit.int .i64 a3).wf=true) (w4:(Lit.int .i64 a4).wf=true) (hb:aV w 0 Vm.jH∧aV w 1 Pa.tJ):
  Calls prog 3 #[.slice a0 Iz cap0,.int .i64 a1,.slice a2 Mh cap2,.int .i64 a3,.int .i64 a4] w fun e w'=>e=.returned (.bool true)∧Below w.heap.size w w':=
 Top.aaK w0 (fO.J_ w1) w2 (fO.J_ w3) (fO.J_ w4) hb.1 hb.2
theorem lifted (os:Os) (started:os.Started) (H:Type) (enc:TypeId×Value→H):
  ReturnsInHanded {} Tryz.checked os 3 .any (fun w args=>(Rows.topSingleStepSpec.pre enc prog Tryz.f3 [] false w args∧laidMetH prog Rows.topSingleStepRow.laid w)∧sizedMet enc prog Tryz.f3 (OpenSpec.ofChange Rows.topSingleStepSpec) false w args)
   (Rows.topSingleStepSpec.post enc prog Tryz.f3 false true false false):=by
 refine returnsInHanded_of_change_and (C:=Tryz.checked) (X:=fun w _=>laidMetH prog Rows.topSingleStepRow.laid w) (fun _ _ _ hh h=>h.of_heap hh) own started aL func3
  (ChangeSpec.witness_shaped (enc:=enc) (C:=Tryz.checked) (os:=os) (X:=fun w _=>laidMetH prog Rows.topSingleStepRow.laid w) false (World.laidAll prog os Rows.topSingleStepRow.laid) #[.slice none 0 0,.int .i64 0,.slice none 0 0,.int .i64 0,.int .i64 0] 8 (World.laidAll_os _ _ _)
   (World.shaped_of_ZipB aL aL) aL aL aL
   (by rw[MakeChecks.laidMetH_plain _ _ _ aL];exact laidMet_laidAll _ aL aL)) ?_
 intro W base args ds gs before hval0 hW hcnd _ hL _;have hval:∀(j:Nat) t v,Tryz.f3.params[j]?=some t→args[j]?=some v→Value.okWide prog W .any base t v:=hval0;have hW':=hW;obtain⟨p,q,hA0,hV,rfl,hfz,hnd⟩:=hW;have hA:DataW.TrodAll enc prog W 0 (fun _=>true) true Tryz.f3.params.toList args.toList ds p:=hA0;rw[Tryz.params3]at hA hval;obtain⟨v0,vs0,d0,ds0,p0,q0,hargs,rfl,rfl,h0,r0⟩:=trodAll_cons hA;obtain⟨v1,vs1,d1,ds1,p1,q1,rfl,rfl,rfl,h1,r1⟩:=trodAll_cons r0;obtain⟨v2,vs2,d2,ds2,p2,q2,rfl,rfl,rfl,h2,r2⟩:=trodAll_cons r1;obtain⟨v3,vs3,d3,ds3,p3,q3,rfl,rfl,rfl,h3,r3⟩:=trodAll_cons r2;obtain⟨v4,vs4,d4,ds4,p4,q4,rfl,rfl,rfl,h4,r4⟩:=trodAll_cons r3;obtain⟨rfl,rfl,rfl⟩:=trodAll_nil r4;obtain rfl:args=#[v0,v1,v2,v3,v4]:=by cases args;simp_all
 obtain⟨rfl,rfl⟩:=trodVars_none hV;obtain⟨a0,Iz,cap0,rfl⟩:=okWide_slice underlying22 (hval 0 22 v0 rfl rfl);have k0:=h0;have lt0:∀x∈p0,x.block<W.heap.size:=by obtain⟨m,hm⟩:=k0;exact DataW.trod_lt m _ _ _ hm
 obtain⟨z0,w0⟩:∃zs,Fr.tK .i64 W a0 Iz cap0 zs:=by obtain⟨fuel,hf⟩:=h0;exact BD
 obtain⟨a1,rfl,rfl,rfl,w1⟩:=open_int underlying3 (hval 1 3 v1 rfl rfl) h1;obtain⟨a2,Mh,cap2,rfl⟩:=okWide_slice underlying22 (hval 2 22 v2 rfl rfl);have k2:=h2;have SY:∀x∈p2,x.block<W.heap.size:=by obtain⟨m,hm⟩:=k2;exact DataW.trod_lt m _ _ _ hm
 obtain⟨z2,w2⟩:∃zs,Fr.tK .i64 W a2 Mh cap2 zs:=by obtain⟨fuel,hf⟩:=h2;exact BD
 obtain⟨a3,rfl,rfl,rfl,w3⟩:=open_int underlying3 (hval 3 3 v3 rfl rfl) h3;obtain⟨a4,rfl,rfl,rfl,w4⟩:=open_int underlying3 (hval 4 3 v4 rfl rfl) h4;clear hA0 hval0;refine(walk a0 Iz cap0 z0 a1 a2 Mh cap2 z2 a3 a4 W w0 w1 w2 w3 w4 (aaJ hL)).mono fun e W' ⟨he,WV⟩=>?_;subst he;exact⟨_,rfl,_,_,_,[],_,[],hW',trodAll_mk1 (shut_bool underlying4 _),(trodAll_cons_mk (Below.trod laidOut aL (of_decide_eq_true aL) k0 WV lt0) (trodAll_cons_mk (shut_int underlying3 w1) (trodAll_cons_mk (Below.trod laidOut aL (of_decide_eq_true aL) k2 WV SY) (trodAll_cons_mk (shut_int underlying3 w3) (trodAll_cons_mk (shut_int underlying3 w4) trodAll_mk0))))),rfl,WV.frame _,fun h=>by cases h⟩
theorem holds:Rows.TopSingleStepSaid:=
 OpenClaim.holds_of_wide 3 Tryz.f3 rfl rfl rfl rfl rfl rfl rfl ⟨rfl,rfl,rfl,rfl,rfl⟩ rfl rfl rfl rfl rfl aL func3 aL
  (of_decide_eq_true aL) (by unfold Func.isWrapper;first|(rw[if_pos (by decide+kernel)];kernel_rfl)|(rw[if_neg (by decide+kernel)];exact⟨rfl,rfl⟩))
  (fun os started H enc _=>lifted os started H enc)
theorem proved:Rows.TopSingleStepCardSaid:=
 Claim7.holds_tied_plain_at .later [] [.data,.data] true (true, "4032fa26a84373ba7c0ecd0ae2a57c8a0a2d74d5ebb55b4fce203d992591999a") false holds (fun _ h=>by cases h) aL (fun _ h=>by cases h) topSingleStep_row_tie rfl ⟨rfl,rfl⟩ aL rfl
  (fun f fn hf hfn=>by
   obtain rfl:f=3:=bD ((show prog.funcNamed "arenanet/arenanettop.TopSingleStep" =some 3 from aL).symm.trans hf)|>.symm
   obtain rfl:fn=Tryz.f3:=(bD (func3.symm.trans hfn)).symm
   exact⟨aL,fun j t ht=>by
    rw[Tryz.params3]at ht
    have hm:t∈[22,3,22,3,3]:=by simpa using Array.mem_of_getElem? ht
    have hall:([22,3,22,3,3].all fun u=> !prog.wantsStandIn u)=true:=aL
    exact(show prog.wantsStandIn t=false by simpa using List.all_eq_true.1 hall t hm)⟩)
  aL
#print axioms proved
end topSingleStep
end Go.Proofs.YtohpdonnpbjfdaaGreatDoor
