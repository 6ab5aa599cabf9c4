/- Maps whose keys are rows of texts; entries that are taken and stored. From calls on heaps to the given statements: a law that returns true and turns nothing that was there keeps its row's word. Facts on the types of this seat's program, printed by a program. -/
import Derived.Test.YtmbboehmnfhjjaaGreatDoorU9
import Derived.Test.YtmbboehmnfhjjaaGreatDoorRows
import Derived.WalkKit
import Derived.ProofKit
import Derived.OpenShut
import Derived.ShutString
import Derived.Test.YtmbboehmnfhjjaaGreatDoorProg
set_option maxRecDepth 100000
set_option linter.defProp false
set_option linter.unusedSimpArgs false
set_option linter.unusedVariables false
namespace Go.Vc
section
open Go.MapKept
structure agt(P:Program)(kt:TypeId){κ:Type}(mk:κ→Value):Prop where
 check:∀(e:Bool)(h:ar)(a:κ),rd P (Instr.checkKey e 10000 kt (mk a)) h=some ()
 find:∀(h:ar)(a:κ)(es:List MapEntry),(∀x∈es,∃a',x.key=mk a')→
  (rd P (Instr.findKey kt (mk a) es) h=some none∧∀x∈es,x.key≠mk a)∨∃j e0,rd P (Instr.findKey kt (mk a) es) h=some (some (j,e0.val))∧es[j]? =some e0∧e0.key=mk a
 stays:∀a,Instr.sameBits 10000 (mk a) (mk a)=true
 inj:∀a a',mk a=mk a'→a=a'
def mpK(P:Program)(t kt:TypeId)(z:Value):Prop:=∃e i,P.underlying t=some (.map kt e)∧P.info? e=some i∧i.zero=some z
def MapAt{κ:Type}(mk:κ→Value)(h:ar)(b:Nat)(a:κ)(s:Int):Prop:=∃(es:Array MapEntry)(clock i:Nat)(e0:MapEntry),h[b]? =some (.map es clock)∧es.toList[i]? =some e0∧e0.key=mk a∧(e0.born:Int)=s
section
variable{P:Program}{τ ρ:Env}{h:ar}{K:Value→ar→Prop}{ty:TypeId}{κ:Type}{mk:κ→Value}{F:κ→Option Value}{b:Nat}
theorem FL{t kt:TypeId}{z:Value}(hT:mpK P t kt z)(hk:agt P kt mk)(H:iT mk h b F)(a:κ)(ok:Bool):
 vT P t (.map (some b)) (mk a) ok h=some (if ok then .tuple #[(F a).getD z, .bool (F a).isSome]else(F a).getD z):=by
 obtain⟨e,i,t1,t3,t4⟩:=hT;obtain⟨es,c,h1,h2,h3,h4⟩:=H;have hz:rd P (zeroValue e) h=some z:=oV t3 t4;unfold vT Instr.lookup;rw[aM,aY t1,awc];simp only[aM,Q9 h1,aZ,awc];rw[hk.check,awc];rcases hk.find h a es.toList h3 with⟨f1,f2⟩|⟨j,e0,f1,f2,f3⟩
 ·rw[f1]
  have hn:F a=none:=by
   cases hF:F a with
   |none=>rfl
   |some v=>
    obtain⟨x,hx,mO,_⟩:=(h4 a v).1 hF;exact aww mO (f2 x hx)
  simp only[awc,aM,hz,aZ,hn];cases ok<;>rfl
 ·rw[f1]
  have hn:F a=some e0.val:=(h4 a _).2 ⟨e0,awR f2,f3,rfl⟩;simp only[awc,aM,aZ,hn];cases ok<;>rfl
theorem modify_id{es:Array MapEntry}{j:Nat}{e0:MapEntry}{f:MapEntry→MapEntry}(hj:es.toList[j]? =some e0)(hf:f e0=e0):es.modify j f=es:=by
 apply Array.ext_getElem?;intro i;rw[Array.getElem?_modify]
 split
 ·rename_i qi
  subst qi;have:es[j]? =some e0:=by simpa using hj
  rw[this];simp[hf]
 ·rfl
theorem Js [DecidableEq κ]{t kt:TypeId}{z:Value}(hT:mpK P t kt z)(hk:agt P kt mk){m x:Operand}{a:κ}
 (hm:dC τ ρ m=some (.map (some b)))(hx:dC τ ρ x=some (mk a))(H:iT mk h b F)
 (hK:∀h' s,iT mk h' b (fun a'=>if a'=a then some ((F a).getD z)else F a')→MapAt mk h' b a s→Fr (fun k=>k=b) h h'→h'.size=h.size→K (.tuple #[(F a).getD z, .int .i64 s]) h'):
 li P (.mapEntry t m x) ty τ ρ h K:=by
 obtain⟨e,i,t1,t3,t4⟩:=hT;obtain⟨es,c,h1,h2,h3,h4⟩:=H;refine⟨by intro u hu;simp[Op.operands]at hu;rcases hu with rfl|rfl<;>simp[hm,hx],?_⟩
 have e1:js τ ρ m= .map (some b):=by simp[js,hm]
 have e2:js τ ρ x=mk a:=by simp[js,hx]
 have aV:b<h.size:=(awd.1 h1).1;simp only[execOp,ep.oper,e1,e2];refine Lu (Al fun w hw=>?_);subst hw;have fin:∀Dz c',Fr (fun k=>k=b) w.heap (w.heap.setIfInBounds b (.map Dz c')):=fun Dz c'=>⟨by simp,fun k' AF cN=>by simp[Ne.symm cN]⟩;have MA:∀Dz c',(w.heap.setIfInBounds b (.map Dz c'))[b]? =some (.map Dz c'):=fun Dz c'=>by simp[aV]
 have alf:(Instr.checkKey false 10000 kt (mk a)).run P w= .ok () w:=qq _ _ _ (hk.check _ _ _);have hz:(zeroValue e).run P w= .ok z w:=qq _ _ _ (oV t3 t4);rcases hk.find w.heap a es.toList h3 with⟨f1,f2⟩|⟨j,e0,f1,f2,f3⟩
 ·have hF:F a=none:=by
   cases hF:F a with
   |none=>rfl
   |some v=>
    obtain⟨x,hx,mO,_⟩:=(h4 a v).1 hF;exact aww mO (f2 x hx)
  have aaU:=qq _ w _ f1;have e9:(F a).getD z=z:=by rw[hF];rfl
  refine⟨.tuple #[z,goInt c],{w with heap:=w.heap.setIfInBounds b (.map (es.push ⟨mk a,z,c⟩) (c+1))},?_,⟨rfl,rfl,rfl⟩,?_⟩
  ·simp[Instr.mapEntry,run_underlying t1,MapKept.run_getObj_map h1,alf,aaU,hz,MapKept.run_setObj_map _ h1,Result.andThen]
  have:=hK (w.heap.setIfInBounds b (.map (es.push ⟨mk a,z,c⟩) (c+1))) (c:Int) ⟨_,_,MA _ _,stamped_push h2 f2,?_,?_⟩ ⟨_,_,es.size,⟨mk a,z,c⟩,MA _ _,by simp,rfl,rfl⟩ (fin _ _) (by simp)
  ·rw[e9]at this;exact this
  ·intro x hx
   simp only[Array.toList_push,awi,awf]at hx;rcases hx with hx|rfl
   ·exact h3 x hx
   ·exact⟨a,rfl⟩
  ·intro a' v'
   simp only[Array.toList_push,awi,awf];by_cases ha:a'=a
   ·subst ha
    simp only[aw0,awe,e9];constructor
    ·rintro rfl;exact⟨_,axb rfl,rfl,rfl⟩
    ·rintro⟨x,hx|rfl,mO,uX⟩
     ·exact aww mO (f2 x hx)
     ·exact uX
   ·simp only[av9 ha]
    rw[h4];constructor
    ·rintro⟨x,hx,mO,uX⟩;exact⟨x,axa hx,mO,uX⟩
    ·rintro⟨x,hx|rfl,mO,uX⟩
     ·exact⟨x,hx,mO,uX⟩
     ·exact aww (hk.inj _ _ mO).symm ha
 ·have hF:F a=some e0.val:=(h4 a _).2 ⟨e0,awR f2,f3,rfl⟩
  have aaU:=qq _ w _ f1;have hj:es[j]? =some e0:=by simpa using f2
  have aaS:∀w':World,(Instr.keyThatStays (mk a) (mk a)).run P w'= .ok (mk a) w':=fun w'=>by unfold Instr.keyThatStays;rw[awa (hk.stays a)];rfl
  have hid:(es.modify j fun e'=>{e' with key:=mk a})=es:=modify_id f2 (by rw[←f3]);have e9:(F a).getD z=e0.val:=by rw[hF];rfl
  refine⟨.tuple #[e0.val,goInt e0.born],{w with heap:=w.heap.setIfInBounds b (.map es c)},?_,⟨rfl,rfl,rfl⟩,?_⟩
  ·simp[Instr.mapEntry,run_underlying t1,MapKept.run_getObj_map h1,alf,aaU,hj,f3,aaS,hid,MapKept.run_setObj_map _ h1,Result.andThen]
  have:=hK (w.heap.setIfInBounds b (.map es c)) (e0.born:Int) ⟨_,_,MA _ _,h2,h3,?_⟩ ⟨_,_,j,e0,MA _ _,f2,f3,rfl⟩ (fin _ _) (by simp)
  ·rw[e9]at this;exact this
  ·intro a' v'
   by_cases ha:a'=a
   ·subst ha
    dsimp only;rw[awa rfl,e9,←hF];exact h4 _ _
   ·dsimp only
    rw[av9 ha];exact h4 _ _
theorem XO{t:TypeId}{m x y:Operand}(H:li P (.mapUpdate t m x y) ty τ ρ h K):li P (.insert t m x y) ty τ ρ h K:=H
theorem Ck [DecidableEq κ]{t:TypeId}(Uz:∀a a',mk a=mk a'→a=a'){m s x:Operand}{a:κ}{n:Int}{v:Value}
 (hm:dC τ ρ m=some (.map (some b)))(hs:dC τ ρ s=some (.int .i64 n))(hx:dC τ ρ x=some v)(H:iT mk h b F)(A:MapAt mk h b a n)
 (hK:∀h',iT mk h' b (fun a'=>if a'=a then some v else F a')→Fr (fun k=>k=b) h h'→h'.size=h.size→K undef h'):
 li P (.entryStore t m s x) ty τ ρ h K:=by
 obtain⟨es,c,h1,h2,h3,h4⟩:=H;obtain⟨Dz,c',j,e0,a1,a2,a3,a4⟩:=A;rw[h1]at a1;cases a1;refine⟨by intro u hu;simp[Op.operands]at hu;rcases hu with rfl|rfl|rfl<;>simp[hm,hs,hx],?_⟩
 have e1:js τ ρ m= .map (some b):=by simp[js,hm]
 have e2:js τ ρ s= .int .i64 n:=by simp[js,hs]
 have e3:js τ ρ x=v:=by simp[js,hx]
 have aV:b<h.size:=(awd.1 h1).1;simp only[execOp,ep.oper,e1,e2,e3];refine acv (Al fun w hw=>?_);subst hw;have hj:es[j]? =some e0:=by simpa using a2
 have ta:j<es.size:=(awd.1 hj).1;have apE:es.findIdx? (fun e=>((e.born:Int)==n))=some j:=by
  rw[Array.findIdx?_eq_some_iff_getElem];refine⟨ta,?_,?_⟩
  ·have:es[j]=e0:=by simpa[ta]using hj
   rw[this];simp[a4]
  ·intro i qi
   have mL:i<es.size:=by omega
   have FH:=h2.2.1;rw[beq_iff_eq];intro hb;have hej:es[j]=e0:=by simpa[ta]using hj
   have:es[i].born=es[j].born:=by rw[hej];omega
   have h5:=(List.nodup_iff_pairwise_ne.1 FH);rw[List.pairwise_iff_getElem]at h5;have h6:=h5 i j (by simpa using mL) (by simpa using ta) qi;simp only[List.getElem_map,Array.getElem_toList]at h6;exact h6 this
 have MA:∀Dz c',(w.heap.setIfInBounds b (.map Dz c'))[b]? =some (.map Dz c'):=fun Dz c'=>by simp[aV]
 refine⟨(),{w with heap:=w.heap.setIfInBounds b (.map (es.modify j fun e'=>{e' with val:=v}) c)},?_,⟨rfl,rfl,rfl⟩,hK _ ⟨_,_,MA _ _,stamped_modify h2 _ _ (fun _ _=>rfl) (fun _ _ _=>rfl),?_,?_⟩ ⟨by simp,fun k' AF cN=>by simp[Ne.symm cN]⟩ (by simp)⟩
 ·simp[Instr.entryStore,MapKept.run_getObj_map h1,asInt,asIntOf,apE,MapKept.run_setObj_map _ h1,Result.andThen]
 ·intro x hx
  obtain⟨i,hi⟩:=List.mem_iff_getElem?.1 hx;rw[Array.getElem?_toList,Array.getElem?_modify]at hi
  split at hi
  ·rename_i qi
   subst qi;rw[hj]at hi;simp only[axc,awe]at hi;subst hi;exact h3 e0 (awR a2)
  ·exact h3 x (awR (i:=i) (by simpa using hi))
 ·have agu:es.toList.Pairwise fun x y=>x.key≠y.key:=by
   have:=h2.2.2;rw[List.nodup_iff_pairwise_ne,List.pairwise_map]at this;exact this
  have aaT:∀(i:Nat)(x:MapEntry),es.toList[i]? =some x→x.key=mk a→i=j:=by
   intro i x hi mO;rcases Nat.lt_trichotomy i j with hl|hl|hl
   ·have mL:i<es.toList.length:=(List.getElem?_eq_some_iff.1 hi).1
    have:=List.pairwise_iff_getElem.1 agu i j mL (by simpa using ta) hl;rw[(List.getElem?_eq_some_iff.1 hi).2,(List.getElem?_eq_some_iff.1 a2).2,mO,a3]at this;exact aww rfl this
   ·exact hl
   ·have mL:i<es.toList.length:=(List.getElem?_eq_some_iff.1 hi).1
    have:=List.pairwise_iff_getElem.1 agu j i (by simpa using ta) mL hl;rw[(List.getElem?_eq_some_iff.1 hi).2,(List.getElem?_eq_some_iff.1 a2).2,mO,a3]at this;exact aww rfl this
  have kG:∀x,x∈(es.modify j fun e'=>{e' with val:=v}).toList↔x={e0 with val:=v}∨∃i,i≠j∧es.toList[i]? =some x:=by
   intro x;rw[List.mem_iff_getElem?];constructor
   ·rintro⟨i,hi⟩
    rw[Array.getElem?_toList,Array.getElem?_modify]at hi
    split at hi
    ·rename_i qi
     subst qi;rw[hj]at hi;simp only[axc,awe]at hi;exact axa hi.symm
    ·rename_i qi
     exact axb ⟨i,fun e=>qi e.symm,by simpa using hi⟩
   ·rintro(rfl|⟨i,qi,hi⟩)
    ·exact⟨j,by rw[Array.getElem?_toList,Array.getElem?_modify,awa rfl,hj];rfl⟩
    ·exact⟨i,by rw[Array.getElem?_toList,Array.getElem?_modify,av9 (Ne.symm qi)];simpa using hi⟩
  intro a' v';by_cases ha:a'=a
  ·subst ha
   simp only[aw0,awe];constructor
   ·rintro rfl;exact⟨_,(kG _).2 (axa rfl),a3,rfl⟩
   ·rintro⟨x,hx,mO,uX⟩
    rcases(kG x).1 hx with rfl|⟨i,qi,hi⟩
    ·exact uX
    ·exact aww (aaT i x hi mO) qi
  ·simp only[av9 ha]
   rw[h4];constructor
   ·rintro⟨x,hx,mO,uX⟩
    obtain⟨i,hi⟩:=List.mem_iff_getElem?.1 hx;refine⟨x,(kG x).2 (axb ⟨i,fun qi=>?_,hi⟩),mO,uX⟩;subst qi;rw[a2]at hi;cases hi;exact ha (Uz _ _ (mO.symm.trans a3))
   ·rintro⟨x,hx,mO,uX⟩
    rcases(kG x).1 hx with rfl|⟨i,qi,hi⟩
    ·exact aww (Uz _ _ (a3.symm.trans mO)).symm ha
    ·exact⟨x,awR hi,mO,uX⟩
end
end
section
open Go.ChangeShapes Go.WideShapes Go.ChangeAt Go.RowKit
open Go.ChangeMaps (open_string shut_string)
theorem adU{w w':World}(s:Same w w')(x:Ext w.heap w'.heap):Below w.heap.size w w':=
 ⟨s.os,s.tape,s.output,x.size,fun k hk=>x.same k hk fun h=>h⟩
theorem aaV{P:Program}{f:FuncId}{args:Array Value}{w:World}(H:aF P f args w.heap fun v h'=>Ext w.heap h'∧v= .bool true):
 Calls P f args w fun e w'=>e= .returned (.bool true)∧Below w.heap.size w w':=
 (H w rfl).mono fun e w'⟨v,he,s,x,hv⟩=>⟨by rw[he,hv],adU s x⟩
theorem FM{H:Type}{enc:TypeId × Value→H}{P:Program}{W W':World}(hl:laidOutB P=true)(hB:Below W.heap.size W W'):
 ∀(ts:List TypeId)(vs:List Value)(ds:List (DataW H))(ps:List MemPlace),ts.all (fun t=>P.readableRec t&&decide (t<P.types.size))=true→
  DataW.TrodAll enc P W 0 (fun _=>true) true ts vs ds ps→(∀x∈ps,x.block<W.heap.size)→
  DataW.TrodAll enc P W' 0 (fun b=>decide (b<W.heap.size)) true ts vs ds ps
 |[],_,_,_,_,h,_=>by
  obtain⟨rfl,rfl,rfl⟩:=trodAll_nil h;exact trodAll_mk0
 |t::ts,_,_,_,ht,h,hp=>by
  obtain⟨v,vs1,d,ds1,a,b,rfl,rfl,rfl,h1,h2⟩:=trodAll_cons h;simp only[List.all_cons,awm,awo]at ht;exact trodAll_cons_mk (Below.trod hl ht.1.1 ht.1.2 h1 hB fun x hx=>hp x (by simp[hx]))
   (FM hl hB ts vs1 ds1 b (by simpa using ht.2) h2 fun x hx=>hp x (by simp[hx]))
theorem VP{H:Type}{enc:TypeId × Value→H}{P:Program}{f:Func}{s:ChangeSpec}{apart fresh handsOn:Bool}{W W':World}{args:Array Value}
 {ds gs:List (DataW H)}{before:List MemPlace}{tb:TypeId}
 (hl:laidOutB P=true)(hr:f.params.toList.all (fun t=>P.readableRec t&&decide (t<P.types.size))=true)
 (apF:f.resultTypes=#[tb])(hb:P.underlying tb=some .bool)(hv:s.vars=[])
 (DU:s.fn H (ds++gs)={results:=[.lit (.bool true)],args:=ds})
 (hW:DataW.Whole enc P f.params.toList s.vars apart W args.toList ds gs before)(hB:Below W.heap.size W W'):
 s.post enc P f apart fresh handsOn false W args (.bool true) W':=by
 have aV:=hW.lt;have hW':=hW;obtain⟨p,q,hA,hV,rfl,Hf,FH⟩:=hW;rw[hv]at hV;obtain⟨rfl,rfl⟩:=trodVars_none hV;refine⟨ds,[],p++[],[],p,[],hW',?_,?_,?_,hB.frame _,fun h=>by cases h⟩
 ·rw[DU,apF]
  exact trodAll_cons_mk (shut_bool hb _) trodAll_mk0
 ·rw[DU]
  exact FM hl hB _ _ _ _ hr hA fun x hx=>aV x (by simp[hx])
 ·rw[DU,hv];exact rfl
end
end Go.Vc
namespace Go.Proofs.YtmbboehmnfhjjaaGreatDoor
open Go.Vc
theorem own:ownKnob Tryz.prog.godebug=none:=by kernel_rfl
theorem laidOut:laidOutB Tryz.prog=true:=by kernel_rfl
theorem NU{p:Prop}(h:p):p:=h
def oJ{α:Type}(f:α→Prop):List α→Prop
 |[]=>True
 |n::l=>f n∧oJ f l
theorem oJ.of{α:Type}{f:α→Prop}(b:α→Bool)(hb:∀n,b n=true→f n):∀l,l.all b=true→oJ f l
 |[],_=>trivial
 |n::l,h=>by rw[List.all_cons,awm]at h;exact⟨hb n h.1,oJ.of b hb l h.2⟩
def adV:=NU (by
 have h:=oJ.of (f:=fun n=>pU Tryz.prog n=true) _ (fun _ h=>h) [10,100,101,102,103,104,105,106,107,108,109,11,110,111,112,113,114,115,116,117,118,119,12,120,121,122,125,126,13,137,138,14,15,151,152,153,154,155,156,157,158,159,16,160,161,162,163,164,165,166,167,168,169,17,170,171,172,173,174,175,176,177,178,179,18,180,181,182,183,184,185,186,187,188,189,19,192,193,194,195,20,21,22,220,221,23,24,244,245,246,247,248,249,25,250,251,254,255,256,257,26,268,27,28,283,284,285,286,298,299,3,300,301,302,303,304,306,307,309,310,311,321,322,324,325,326,327,328,329,33,330,331,334,335,34,35,36,37,38,39,4,40,41,42,43,44,45,46,47,48,49,5,50,51,52,53,54,55,56,57,58,59,6,60,61,62,63,64,7,71,72,73,74,75,76,77,78,79,8,80,81,82,83,84,85,86,87,88,89,9,90,91,92,93,94,95,96,97,98,99] (by kernel_rfl);simp only[oJ,aw4]at h;exact h)
def aj2:=NU (by
 have h:=oJ.of (f:=fun x:Nat × Nat × Nat=>∀{b o:Nat}{h:ar},faE Tryz.prog x.1 (.pointer (some ⟨b,o,none⟩)) x.2.1 h=some (.pointer (some ⟨b,o+x.2.2,none⟩))) (fun x=>faT Tryz.prog x.1 x.2.1 x.2.2) (fun _ h=>af0 h) [(103,1,1),(103,2,2),(103,3,3),(107,1,1),(107,2,2),(107,3,3),(107,4,4),(143,1,1),(160,1,1),(160,2,2),(160,3,3),(160,4,4),(170,1,1),(170,2,2),(170,3,3),(172,1,1),(204,1,1),(204,2,2),(204,3,3),(204,4,4),(204,5,5),(204,6,6),(204,7,7),(226,1,1),(226,2,2),(226,3,3),(244,1,1),(244,2,2),(244,3,3),(26,1,1),(26,2,2),(26,3,3),(26,4,4),(26,5,5),(26,6,6),(26,7,7),(302,1,1),(302,2,2),(302,3,3),(33,1,1),(42,1,1),(42,2,2),(42,3,3),(42,4,4),(50,1,1),(50,2,2),(50,3,3),(50,5,5),(50,6,6),(50,7,7),(50,8,8),(62,1,1),(62,10,10),(62,2,2),(62,3,3),(62,5,5),(62,6,6),(62,7,7),(62,9,9),(72,1,1),(72,2,2),(72,3,3),(88,1,1),(88,2,2),(88,3,3),(88,4,4),(90,1,4),(90,2,5),(92,1,4),(92,2,5),(96,1,1),(96,2,2),(96,3,3),(96,4,4),(96,5,5),(96,6,6),(96,7,7),(96,8,8)] (by kernel_rfl);simp only[oJ,aw4]at h;exact h)
def agv:=NU (by
 have h:=oJ.of (f:=fun x:Nat × Nat=>∀{b o:Nat}{h:ar},faE Tryz.prog x.1 (.pointer (some ⟨b,o,none⟩)) x.2 h=some (.pointer (some ⟨b,o,none⟩))) (fun x=>faT Tryz.prog x.1 x.2 0) (fun _ h=>af0 h) [(103,0),(105,0),(107,0),(143,0),(157,0),(160,0),(170,0),(172,0),(181,0),(204,0),(226,0),(244,0),(26,0),(284,0),(302,0),(33,0),(37,0),(42,0),(50,0),(55,0),(62,0),(72,0),(88,0),(90,0),(92,0),(96,0)] (by kernel_rfl);simp only[oJ,aw4]at h;exact h)
def agw:=NU (by
 have h:=oJ.of (f:=fun n=>∀{a:Addr}{h:ar},ld Tryz.prog n a h=cellAt h a) (aaB Tryz.prog) (fun _ h=>af1 h) [139,140,146,168,202,28,3,30,35,4,40,44,45,46,47,48,5,53,56,58,59,60,86,9,93,94] (by kernel_rfl);simp only[oJ,aw4]at h;exact h)
def agx:=NU (by
 have h:=oJ.of (f:=fun t=>∀{ty:TypeId}{a:Option Addr}{n c:Nat}{h:ar},Lr Tryz.prog t ty (.slice a n c) h=some (ao n)) (fun t=>match Tryz.prog.underlying t with|some (.slice _)=>true|_=>false) (fun t h=>by
  split at h
  ·exact aaz ‹_›
  ·cases h) [192,202,22,245,268,38,44,45,46,47,53,58,59,60,63,86,93,94] (by kernel_rfl)
 simp only[oJ,aw4]at h;exact h)
def aj3:=NU (by
 have h:=oJ.of (f:=fun x:Nat × Nat=>∀{b o n c:Nat}{k:IntKind}{i:Int}{h:ar},0≤i→i<n→TB Tryz.prog x.1 (.slice (some ⟨b,o,none⟩) n c) (.int k i) h=some (.pointer (some ⟨b,o+i.toNat*x.2,none⟩))) (fun x=>ixT Tryz.prog x.1 x.2) (fun _ h=>amf h) [(192,8),(202,1),(22,8),(245,1),(268,1),(285,1),(38,5),(44,1),(45,5),(46,5),(47,10),(53,1),(58,4),(59,1),(60,10),(63,2),(86,4),(93,4),(94,9)] (by kernel_rfl);simp only[oJ,aw4]at h;exact h)
theorem lN:qy Tryz.prog 103 4=true:=by kernel_rfl
theorem Rc:qy Tryz.prog 105 5=true:=by kernel_rfl
theorem lO:qy Tryz.prog 107 9=true:=by kernel_rfl
theorem KA:qy Tryz.prog 157 1=true:=by kernel_rfl
theorem eA:qy Tryz.prog 160 5=true:=by kernel_rfl
theorem gg:qy Tryz.prog 204 8=true:=by kernel_rfl
theorem KC:qy Tryz.prog 226 4=true:=by kernel_rfl
theorem NV:qy Tryz.prog 26 8=true:=by kernel_rfl
theorem aaW:qy Tryz.prog 276 256=true:=by kernel_rfl
theorem KD:qy Tryz.prog 284 1=true:=by kernel_rfl
theorem adW:qy Tryz.prog 42 5=true:=by kernel_rfl
theorem adX:qy Tryz.prog 65 2=true:=by kernel_rfl
theorem cC:qy Tryz.prog 72 4=true:=by kernel_rfl
theorem pW:qy Tryz.prog 88 5=true:=by kernel_rfl
theorem UB:qy Tryz.prog 90 10=true:=by kernel_rfl
theorem UC:qy Tryz.prog 92 10=true:=by kernel_rfl
theorem mR:qy Tryz.prog 96 9=true:=by kernel_rfl
theorem VQ{x y:Operand}{a b:Bool}{h:ar}:ej Tryz.prog .eql 4 x y (.bool a) (.bool b) h=some (.bool (decide (a=b))):=TC Tryz.underlying4
theorem VR{x y:Operand}{a b:Bool}{h:ar}:ej Tryz.prog .neq 4 x y (.bool a) (.bool b) h=some (.bool (decide (a≠b))):=TD Tryz.underlying4
theorem aaX{h:ar}:ik Tryz.prog 103 [] [] h=some (.agg #[ax 0,ax 0,ax 0,ax 0]):=dT (by kernel_rfl)
theorem NW{n0:Int}{n1:Int}{n2:Int}{h:ar}:ik Tryz.prog 103 [0,1,2] [ax n0,ax n1,ax n2] h=some (.agg #[ax n0,ax n1,ax n2,ax 0]):=dT (by kernel_rfl)
theorem Re{sD sE sF sG:Value}{n1:Int}{h:ar}:ik Tryz.prog 105 [0,1] [.agg #[sD,sE,sF,sG],ax n1] h=some (.agg #[sD,sE,sF,sG,ax n1]):=dT (by kernel_rfl)
theorem aaY{h:ar}:ik Tryz.prog 107 [] [] h=some (.agg #[ax 0,ax 0,ax 0, .bool false,ao 0,ao 0,str [],nS,str []]):=dT (by kernel_rfl)
theorem NX{n0:Int}{n1:Int}{n2:Int}{h:ar}:ik Tryz.prog 107 [0,1,2] [ax n0,ax n1,ax n2] h=some (.agg #[ax n0,ax n1,ax n2, .bool false,ao 0,ao 0,str [],nS,str []]):=dT (by kernel_rfl)
theorem VS{p0:Option Addr}{h:ar}:ik Tryz.prog 143 [0] [.pointer p0] h=some (.agg #[.pointer p0,ax 0,ax 0,ax 0,ax 0,ax 0,nS,nS,nS,nS]):=dT (by kernel_rfl)
theorem VU{p0:Option Addr}{h:ar}:ik Tryz.prog 157 [0] [.pointer p0] h=some (.agg #[.pointer p0]):=dT (by kernel_rfl)
theorem aaZ{h:ar}:ik Tryz.prog 160 [] [] h=some (.agg #[bH 0,str [], .int .u64 0,ax 0,ax 0]):=dT (by kernel_rfl)
theorem VW{n0:Int}{h:ar}:ik Tryz.prog 160 [0] [bH n0] h=some (.agg #[bH n0,str [], .int .u64 0,ax 0,ax 0]):=dT (by kernel_rfl)
theorem VX{l0:az}{h:ar}:ik Tryz.prog 170 [0] [str l0] h=some (.agg #[str l0,ao 0,ao 0,ao 0]):=dT (by kernel_rfl)
theorem VY{p0:Option Addr}{h:ar}:ik Tryz.prog 172 [0] [.pointer p0] h=some (.agg #[.pointer p0,nS]):=dT (by kernel_rfl)
theorem VZ{sD sE sF sG alg alh ali alj alk:Value}{h:ar}:ik Tryz.prog 181 [0] [.agg #[sD,sE,sF,sG,alg,alh,ali,alj,alk]] h=some (.agg #[sD,sE,sF,sG,alg,alh,ali,alj,alk]):=dT (by kernel_rfl)
theorem V0{n0:Int}{h:ar}:ik Tryz.prog 204 [0] [ao n0] h=some (.agg #[ao n0,bH 0, .bool false,ao 0,ao 0,ao 0,nS,nS]):=dT (by kernel_rfl)
theorem Rf{n0:Int}{n1:Int}{h:ar}:ik Tryz.prog 204 [0,1] [ao n0,bH n1] h=some (.agg #[ao n0,bH n1, .bool false,ao 0,ao 0,ao 0,nS,nS]):=dT (by kernel_rfl)
theorem aa0{h:ar}:ik Tryz.prog 226 [] [] h=some (.agg #[ao 0,ao 0,ao 0,ax 0]):=dT (by kernel_rfl)
theorem KE{n0:Int}{n1:Int}{n2:Int}{n3:Int}{h:ar}:ik Tryz.prog 226 [0,1,2,3] [ao n0,ao n1,ao n2,ax n3] h=some (.agg #[ao n0,ao n1,ao n2,ax n3]):=dT (by kernel_rfl)
theorem V1{l0:az}{h:ar}:ik Tryz.prog 244 [0] [str l0] h=some (.agg #[str l0,ao 0,ao 0,ao 0]):=dT (by kernel_rfl)
theorem aa1{h:ar}:ik Tryz.prog 254 [] [] h=some (.agg #[]):=dT (by kernel_rfl)
theorem V2{p0:Option Addr}{h:ar}:ik Tryz.prog 284 [0] [.pointer p0] h=some (.agg #[.pointer p0]):=dT (by kernel_rfl)
theorem V3{l0:az}{h:ar}:ik Tryz.prog 302 [0] [str l0] h=some (.agg #[str l0,ao 0,ao 0,ao 0]):=dT (by kernel_rfl)
theorem TH{p0:Option Addr}{p1:Option Addr}{h:ar}:ik Tryz.prog 33 [0,1] [.pointer p0, .pointer p1] h=some (.agg #[.pointer p0, .pointer p1]):=dT (by kernel_rfl)
theorem IG{l0:az}{l1:az}{l2:az}{n3:Int}{l4:az}{h:ar}:ik Tryz.prog 42 [0,1,2,3,4] [str l0,str l1,str l2,ax n3,str l4] h=some (.agg #[str l0,str l1,str l2,ax n3,str l4]):=dT (by kernel_rfl)
theorem Qo{l0:az}{l1:az}{n3:Int}{h:ar}:ik Tryz.prog 50 [0,1,3] [str l0,str l1,ax n3] h=some (.agg #[str l0,str l1,nS,ax n3,nS,nS,nS,ao 0,ao 0]):=dT (by kernel_rfl)
theorem MC{l0:az}{l1:az}{n3:Int}{a4:Option Addr}{n4 c4:Nat}{h:ar}:ik Tryz.prog 50 [0,1,3,4] [str l0,str l1,ax n3, .slice a4 n4 c4] h=some (.agg #[str l0,str l1,nS,ax n3, .slice a4 n4 c4,nS,nS,ao 0,ao 0]):=dT (by kernel_rfl)
theorem adY{h:ar}:ik Tryz.prog 55 [] [] h=some (.agg #[nS]):=dT (by kernel_rfl)
theorem Qp{l0:az}{l1:az}{n3:Int}{h:ar}:ik Tryz.prog 62 [0,1,3] [str l0,str l1,ax n3] h=some (.agg #[str l0,str l1,nS,ax n3,nS,nS,nS,nS, .bool false,ao 0,ao 0]):=dT (by kernel_rfl)
theorem IH{l0:az}{l1:az}{n3:Int}{a4:Option Addr}{n4 c4:Nat}{b8:Bool}{h:ar}:ik Tryz.prog 62 [0,1,3,4,8] [str l0,str l1,ax n3, .slice a4 n4 c4, .bool b8] h=some (.agg #[str l0,str l1,nS,ax n3, .slice a4 n4 c4,nS,nS,nS, .bool b8,ao 0,ao 0]):=dT (by kernel_rfl)
theorem adZ{h:ar}:ik Tryz.prog 72 [] [] h=some (.agg #[str [],str [],str [],ax 0]):=dT (by kernel_rfl)
theorem MD{l0:az}{l1:az}{l2:az}{n3:Int}{h:ar}:ik Tryz.prog 72 [0,1,2,3] [str l0,str l1,str l2,ax n3] h=some (.agg #[str l0,str l1,str l2,ax n3]):=dT (by kernel_rfl)
theorem ad0{h:ar}:ik Tryz.prog 88 [] [] h=some (.agg #[ao 0,ao 0,str [],nS,str []]):=dT (by kernel_rfl)
theorem TI{n0:Int}{n1:Int}{h:ar}:ik Tryz.prog 88 [0,1] [ao n0,ao n1] h=some (.agg #[ao n0,ao n1,str [],nS,str []]):=dT (by kernel_rfl)
theorem TJ{n1:Int}{l2:az}{h:ar}:ik Tryz.prog 88 [1,2] [ao n1,str l2] h=some (.agg #[ao 0,ao n1,str l2,nS,str []]):=dT (by kernel_rfl)
theorem XP{sD sE sF sG:Value}{h:ar}:ik Tryz.prog 90 [0] [.agg #[sD,sE,sF,sG]] h=some (.agg #[sD,sE,sF,sG, .bool false,ao 0,ao 0,str [],nS,str []]):=dT (by kernel_rfl)
theorem Qq{sD sE sF sG:Value}{b1:Bool}{XQ XS XT XU XV:Value}{h:ar}:ik Tryz.prog 90 [0,1,2] [.agg #[sD,sE,sF,sG], .bool b1, .agg #[XQ,XS,XT,XU,XV]] h=some (.agg #[sD,sE,sF,sG, .bool b1,XQ,XS,XT,XU,XV]):=dT (by kernel_rfl)
theorem XX{sD sE sF sG:Value}{h:ar}:ik Tryz.prog 92 [0] [.agg #[sD,sE,sF,sG]] h=some (.agg #[sD,sE,sF,sG, .bool false,ao 0,ao 0,str [],nS,str []]):=dT (by kernel_rfl)
theorem Qr{sD sE sF sG:Value}{b1:Bool}{XQ XS XT XU XV:Value}{h:ar}:ik Tryz.prog 92 [0,1,2] [.agg #[sD,sE,sF,sG], .bool b1, .agg #[XQ,XS,XT,XU,XV]] h=some (.agg #[sD,sE,sF,sG, .bool b1,XQ,XS,XT,XU,XV]):=dT (by kernel_rfl)
theorem ad1{h:ar}:ik Tryz.prog 96 [] [] h=some (.agg #[ax 0,ax 0,ax 0,ax 0,ax 0,nS,nS,nS,nS]):=dT (by kernel_rfl)
theorem V4{k:IntKind}{n:Int}{h:ar}:oS Tryz.prog 158 3 (.int k n) h=some (ao (IntKind.i64.wrap n)):=qw Tryz.underlying158 Tryz.underlying3
theorem TK{k:IntKind}{n:Int}{h:ar}:oS Tryz.prog 158 40 (.int k n) h=some (ax (IntKind.u16.wrap n)):=qw Tryz.underlying158 Tryz.underlying40
theorem XY{k:IntKind}{n:Int}{h:ar}:oS Tryz.prog 21 5 (.int k n) h=some (bH (IntKind.u8.wrap n)):=qw Tryz.underlying21 Tryz.underlying5
theorem V5{k:IntKind}{n:Int}{h:ar}:oS Tryz.prog 3 158 (.int k n) h=some (.int .u64 (IntKind.u64.wrap n)):=qw Tryz.underlying3 Tryz.underlying158
theorem XZ{k:IntKind}{n:Int}{h:ar}:oS Tryz.prog 3 40 (.int k n) h=some (ax (IntKind.u16.wrap n)):=qw Tryz.underlying3 Tryz.underlying40
theorem aa2{k:IntKind}{n:Int}{h:ar}:oS Tryz.prog 3 5 (.int k n) h=some (bH (IntKind.u8.wrap n)):=qw Tryz.underlying3 Tryz.underlying5
theorem Ya{k:IntKind}{n:Int}{h:ar}:oS Tryz.prog 40 3 (.int k n) h=some (ao (IntKind.i64.wrap n)):=qw Tryz.underlying40 Tryz.underlying3
theorem V6{k:IntKind}{n:Int}{h:ar}:oS Tryz.prog 5 158 (.int k n) h=some (.int .u64 (IntKind.u64.wrap n)):=qw Tryz.underlying5 Tryz.underlying158
theorem Yb{k:IntKind}{n:Int}{h:ar}:oS Tryz.prog 5 21 (.int k n) h=some (.int .i32 (IntKind.i32.wrap n)):=qw Tryz.underlying5 Tryz.underlying21
theorem aa3{k:IntKind}{n:Int}{h:ar}:oS Tryz.prog 5 3 (.int k n) h=some (ao (IntKind.i64.wrap n)):=qw Tryz.underlying5 Tryz.underlying3
theorem Yc{k:IntKind}{n:Int}{h:ar}:oS Tryz.prog 5 40 (.int k n) h=some (ax (IntKind.u16.wrap n)):=qw Tryz.underlying5 Tryz.underlying40
theorem Rh{k:Nat}{a:Int}{h:ar}{e:TypeId}{fz:Nat × Nat}:oS Tryz.prog 245 9 (.slice (some ⟨h.size,0,none⟩) 1 k) (h.push (.cells #[bH a] e fz))=some (str [UInt8.ofNat a.toNat]):=af8 Tryz.underlying245 Tryz.underlying5 Tryz.underlying9
theorem Ri{k:Nat}{a b:Int}{h:ar}{e:TypeId}{fz:Nat × Nat}:oS Tryz.prog 245 9 (.slice (some ⟨h.size,0,none⟩) 2 k) (h.push (.cells #[bH a,bH b] e fz))=some (str [UInt8.ofNat a.toNat,UInt8.ofNat b.toNat]):=af9 Tryz.underlying245 Tryz.underlying5 Tryz.underlying9
theorem Rj{k:Nat}{a b c:Int}{h:ar}{e:TypeId}{fz:Nat × Nat}:oS Tryz.prog 245 9 (.slice (some ⟨h.size,0,none⟩) 3 k) (h.push (.cells #[bH a,bH b,bH c] e fz))=some (str [UInt8.ofNat a.toNat,UInt8.ofNat b.toNat,UInt8.ofNat c.toNat]):=aga Tryz.underlying245 Tryz.underlying5 Tryz.underlying9
theorem TL{n c:Nat}{h:ar}:oS Tryz.prog 245 9 (.slice none n c) h=some (str []):=IX Tryz.underlying245 Tryz.underlying5 Tryz.underlying9
theorem Jt{base n:Nat}{e:TypeId}{v:Value}{l:az}{h:ar}(H:Own h base e 1 v n (iL l)):oS Tryz.prog 245 9 v h=some (str l):=ajS Tryz.underlying245 Tryz.underlying5 Tryz.underlying9 H
theorem agy{l:az}{k:IntKind}{i:Int}{h:ar}(h0:0≤i)(h1:i<l.length):ixE Tryz.prog 9 (str l) (.int k i) h=some (bH ((l.getD i.toNat 0).toNat:Int)):=ajL Tryz.underlying9 h0 h1
theorem ad2{ty:TypeId}{l:az}{h:ar}:Lr Tryz.prog 9 ty (str l) h=some (ao l.length):=afX Tryz.underlying9
theorem xg:pE Tryz.prog 192 204 8 88=true:=by kernel_rfl
theorem dS:pE Tryz.prog 202 3 1 8=true:=by kernel_rfl
theorem gI:pE Tryz.prog 245 5 1 1=true:=by kernel_rfl
theorem eC:pE Tryz.prog 268 48 1 8=true:=by kernel_rfl
theorem FN:pE Tryz.prog 285 4 1 1=true:=by kernel_rfl
theorem aa4:pE Tryz.prog 38 42 5 72=true:=by kernel_rfl
theorem dE:pE Tryz.prog 44 9 1 16=true:=by kernel_rfl
theorem gh:pE Tryz.prog 45 160 5 40=true:=by kernel_rfl
theorem Rk:pE Tryz.prog 46 105 5 64=true:=by kernel_rfl
theorem AG:pE Tryz.prog 47 90 10 136=true:=by kernel_rfl
theorem uY:pE Tryz.prog 53 56 1 8=true:=by kernel_rfl
theorem rE:pE Tryz.prog 58 72 4 56=true:=by kernel_rfl
theorem fL:pE Tryz.prog 59 40 1 2=true:=by kernel_rfl
theorem AH:pE Tryz.prog 60 92 10 136=true:=by kernel_rfl
theorem aa5:pE Tryz.prog 63 65 2 32=true:=by kernel_rfl
theorem AI:pE Tryz.prog 86 226 4 32=true:=by kernel_rfl
theorem pN:pE Tryz.prog 93 103 4 8=true:=by kernel_rfl
theorem pO:pE Tryz.prog 94 107 9 80=true:=by kernel_rfl
theorem ad3{l:az}{k k':IntKind}{a b:Int}{h:ar}(h0:0≤a)(h1:a≤b)(h2:b≤l.length):og Tryz.prog 9 (str l) (some (.int k a)) (some (.int k' b)) none h=some (str ((l.take b.toNat).drop a.toNat)):=aaA Tryz.underlying9 h0 h1 h2
theorem ad4{l:az}{k:IntKind}{b:Int}{h:ar}(h0:0≤b)(h2:b≤l.length):og Tryz.prog 9 (str l) none (some (.int k b)) none h=some (str (l.take b.toNat)):=ady Tryz.underlying9 h0 h2
theorem ad5{l:az}{k:IntKind}{a:Int}{h:ar}(h0:0≤a)(h2:a≤l.length):og Tryz.prog 9 (str l) (some (.int k a)) none none h=some (str (l.drop a.toNat)):=adx Tryz.underlying9 h0 h2
theorem Yd{a:Option Addr}{n c:Nat}{k k':IntKind}{lo hi:Int}{h:ar}(h0:0≤lo)(h1:lo≤hi)(h2:hi≤c):og Tryz.prog 44 (.slice a n c) (some (.int k lo)) (some (.int k' hi)) none h=some (.slice (sB a c lo.toNat 1) (hi.toNat-lo.toNat) (c-lo.toNat)):=GR dE h0 h1 h2
theorem Ye{a:Option Addr}{n c:Nat}{k k':IntKind}{lo hi:Int}{h:ar}(h0:0≤lo)(h1:lo≤hi)(h2:hi≤c):og Tryz.prog 59 (.slice a n c) (some (.int k lo)) (some (.int k' hi)) none h=some (.slice (sB a c lo.toNat 1) (hi.toNat-lo.toNat) (c-lo.toNat)):=GR fL h0 h1 h2
theorem Yf{a:Option Addr}{n c:Nat}{k k':IntKind}{lo hi:Int}{h:ar}(h0:0≤lo)(h1:lo≤hi)(h2:hi≤c):og Tryz.prog 93 (.slice a n c) (some (.int k lo)) (some (.int k' hi)) none h=some (.slice (sB a c lo.toNat 4) (hi.toNat-lo.toNat) (c-lo.toNat)):=GR pN h0 h1 h2
theorem Yg{a:Option Addr}{n c:Nat}{k k':IntKind}{lo hi:Int}{h:ar}(h0:0≤lo)(h1:lo≤hi)(h2:hi≤c):og Tryz.prog 94 (.slice a n c) (some (.int k lo)) (some (.int k' hi)) none h=some (.slice (sB a c lo.toNat 9) (hi.toNat-lo.toNat) (c-lo.toNat)):=GR pO h0 h1 h2
theorem Yh{a:Option Addr}{n c:Nat}{k:IntKind}{hi:Int}{h:ar}(h0:0≤hi)(h1:hi≤c):og Tryz.prog 44 (.slice a n c) none (some (.int k hi)) none h=some (.slice (sB a c 0 1) (hi.toNat-0) (c-0)):=Mx dE h0 h1
theorem Yi{a:Option Addr}{n c:Nat}{k:IntKind}{hi:Int}{h:ar}(h0:0≤hi)(h1:hi≤c):og Tryz.prog 59 (.slice a n c) none (some (.int k hi)) none h=some (.slice (sB a c 0 1) (hi.toNat-0) (c-0)):=Mx fL h0 h1
theorem Yj{a:Option Addr}{n c:Nat}{k:IntKind}{hi:Int}{h:ar}(h0:0≤hi)(h1:hi≤c):og Tryz.prog 93 (.slice a n c) none (some (.int k hi)) none h=some (.slice (sB a c 0 4) (hi.toNat-0) (c-0)):=Mx pN h0 h1
theorem Yk{a:Option Addr}{n c:Nat}{k:IntKind}{hi:Int}{h:ar}(h0:0≤hi)(h1:hi≤c):og Tryz.prog 94 (.slice a n c) none (some (.int k hi)) none h=some (.slice (sB a c 0 9) (hi.toNat-0) (c-0)):=Mx pO h0 h1
theorem Yl{a:Option Addr}{n c:Nat}{k:IntKind}{lo:Int}{h:ar}(h0:0≤lo)(h1:lo≤n):og Tryz.prog 44 (.slice a n c) (some (.int k lo)) none none h=some (.slice (sB a c lo.toNat 1) (n-lo.toNat) (c-lo.toNat)):=Mw dE h0 h1
theorem Ym{a:Option Addr}{n c:Nat}{k:IntKind}{lo:Int}{h:ar}(h0:0≤lo)(h1:lo≤n):og Tryz.prog 59 (.slice a n c) (some (.int k lo)) none none h=some (.slice (sB a c lo.toNat 1) (n-lo.toNat) (c-lo.toNat)):=Mw fL h0 h1
theorem Yn{a:Option Addr}{n c:Nat}{k:IntKind}{lo:Int}{h:ar}(h0:0≤lo)(h1:lo≤n):og Tryz.prog 93 (.slice a n c) (some (.int k lo)) none none h=some (.slice (sB a c lo.toNat 4) (n-lo.toNat) (c-lo.toNat)):=Mw pN h0 h1
theorem Yo{a:Option Addr}{n c:Nat}{k:IntKind}{lo:Int}{h:ar}(h0:0≤lo)(h1:lo≤n):og Tryz.prog 94 (.slice a n c) (some (.int k lo)) none none h=some (.slice (sB a c lo.toNat 9) (n-lo.toNat) (c-lo.toNat)):=Mw pO h0 h1
theorem eG:fN Tryz.prog 103 #[ax 0,ax 0,ax 0,ax 0]:=by unfold fN;kernel_rfl
theorem AJ:fN Tryz.prog 105 #[str [],str [],str [],ax 0,ax 0]:=by unfold fN;kernel_rfl
theorem eH:fN Tryz.prog 107 #[ax 0,ax 0,ax 0, .bool false,ao 0,ao 0,str [],nS,str []]:=by unfold fN;kernel_rfl
theorem Rl:fN Tryz.prog 157 #[.pointer none]:=by unfold fN;kernel_rfl
theorem AK:fN Tryz.prog 158 #[.int .u64 0]:=by unfold fN;kernel_rfl
theorem gi:fN Tryz.prog 160 #[bH 0,str [], .int .u64 0,ax 0,ax 0]:=by unfold fN;kernel_rfl
theorem lP:fN Tryz.prog 202 #[nS]:=by unfold fN;kernel_rfl
theorem eB:fN Tryz.prog 204 #[ao 0,bH 0, .bool false,ao 0,ao 0,ao 0,nS,nS]:=by unfold fN;kernel_rfl
theorem rF:fN Tryz.prog 226 #[ao 0,ao 0,ao 0,ax 0]:=by unfold fN;kernel_rfl
theorem Rm:fN Tryz.prog 254 #[]:=by unfold fN;kernel_rfl
theorem GU:fN Tryz.prog 26 #[ao 0,str [],str [],str [],str [],str [],str [], .bool false]:=by unfold fN;kernel_rfl
theorem Rn:fN Tryz.prog 284 #[.pointer none]:=by unfold fN;kernel_rfl
theorem dI:fN Tryz.prog 3 #[ao 0]:=by unfold fN;kernel_rfl
theorem jf:fN Tryz.prog 4 #[.bool false]:=by unfold fN;kernel_rfl
theorem eN:fN Tryz.prog 40 #[ax 0]:=by unfold fN;kernel_rfl
theorem UD:fN Tryz.prog 42 #[str [],str [],str [],ax 0,str []]:=by unfold fN;kernel_rfl
theorem zE:fN Tryz.prog 44 #[nS]:=by unfold fN;kernel_rfl
theorem NY:fN Tryz.prog 45 #[nS]:=by unfold fN;kernel_rfl
theorem ad6:fN Tryz.prog 46 #[nS]:=by unfold fN;kernel_rfl
theorem UE:fN Tryz.prog 47 #[nS]:=by unfold fN;kernel_rfl
theorem zF:fN Tryz.prog 48 #[ao 0]:=by unfold fN;kernel_rfl
theorem FO:fN Tryz.prog 5 #[bH 0]:=by unfold fN;kernel_rfl
theorem NZ:fN Tryz.prog 53 #[nS]:=by unfold fN;kernel_rfl
theorem ad7:fN Tryz.prog 58 #[nS]:=by unfold fN;kernel_rfl
theorem N2:fN Tryz.prog 59 #[nS]:=by unfold fN;kernel_rfl
theorem UF:fN Tryz.prog 60 #[nS]:=by unfold fN;kernel_rfl
theorem aL:fN Tryz.prog 72 #[str [],str [],str [],ax 0]:=by unfold fN;kernel_rfl
theorem UG:fN Tryz.prog 86 #[nS]:=by unfold fN;kernel_rfl
theorem iX:fN Tryz.prog 88 #[ao 0,ao 0,str [],nS,str []]:=by unfold fN;kernel_rfl
theorem nM:fN Tryz.prog 9 #[str []]:=by unfold fN;kernel_rfl
theorem GV:fN Tryz.prog 90 #[str [],str [],str [],ax 0, .bool false,ao 0,ao 0,str [],nS,str []]:=by unfold fN;kernel_rfl
theorem GW:fN Tryz.prog 92 #[str [],str [],str [],ax 0, .bool false,ao 0,ao 0,str [],nS,str []]:=by unfold fN;kernel_rfl
theorem UH:fN Tryz.prog 93 #[nS]:=by unfold fN;kernel_rfl
theorem UI:fN Tryz.prog 94 #[nS]:=by unfold fN;kernel_rfl
theorem jJ:fN Tryz.prog 96 #[ax 0,ax 0,ax 0,ax 0,ax 0,nS,nS,nS,nS]:=by unfold fN;kernel_rfl
def amw:=awv adV<|awv aj2<|awv agv<|awv agw<|awv agx<|awv aj3<|awv @VQ<|awv @VR<|awv @aaX<|awv @NW<|awv @Re<|awv @aaY<|awv @NX<|awv @VS<|awv @VU<|awv @aaZ<|awv @VW<|awv @VX<|awv @VY<|awv @VZ<|awv @V0<|awv @Rf<|awv @aa0<|awv @KE<|awv @V1<|awv @aa1<|awv @V2<|awv @V3<|awv @TH<|awv @IG<|awv @Qo<|awv @MC<|awv @adY<|awv @Qp<|awv @IH<|awv @adZ<|awv @MD<|awv @ad0<|awv @TI<|awv @TJ<|awv @XP<|awv @Qq<|awv @XX<|awv @Qr<|awv @ad1<|awv @V4<|awv @TK<|awv @XY<|awv @V5<|awv @XZ<|awv @aa2<|awv @Ya<|awv @V6<|awv @Yb<|awv @aa3<|awv @Yc<|awv @Rh<|awv @Ri<|awv @Rj<|awv @TL<|awv @agy<|awv @ad2<|awv @ad3<|awv @ad4<|awv @ad5<|awv @Yd<|awv @Ye<|awv @Yf<|awv @Yg<|awv @Yh<|awv @Yi<|awv @Yj<|awv @Yk<|awv @Yl<|awv @Ym<|awv @Yn<| @Yo
def ae:=awv vs (awv Go.Vc.vk amw)
end Go.Proofs.YtmbboehmnfhjjaaGreatDoor
