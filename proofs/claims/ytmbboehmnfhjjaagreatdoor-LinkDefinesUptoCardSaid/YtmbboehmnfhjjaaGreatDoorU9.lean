/- Structs compared with themselves; slices of structs as arguments, opened row by row. Maps whose keys are numbers, texts or bools. Range over a text, the text of a number, elements of an array behind a pointer, functions of Go's library that have no body. Branches that the context decides. -/
import Derived.Test.YtmbboehmnfhjjaaGreatDoorU1
import Derived.Deep.Slices
import Derived.ChangeSame
import Derived.Laws.Tables
import Derived.Laws.Sem
import Derived.WalkKit
import Derived.Deep.AppendSrc
import Derived.MapKept
import Derived.Lib.Bytealg
set_option maxRecDepth 100000
set_option linter.defProp false
set_option linter.unusedSimpArgs false
set_option linter.unusedVariables false
namespace Go.Vc
section
section
variable{P:Program}{h:ar}
def Pm(P:Program)(t:TypeId)(v:Value):Bool:=match P.underlying t,v with
 |some .bool, .bool _=>true
 |some (.int _), .int _ _=>true
 |some .string, .string _=>true
 |_,_=>false
theorem XH{t:TypeId}{v:Value}{cs:Array Value}{off:Nat}(hf:Pm P t v=true)(hc:cs[off]? =some v):rd P (part t cs off) h=some v:=by
 unfold Pm at hf
 split at hf
 ·next hu=>unfold part;rw[aM,yw hu];simp[hc,aZ]
 ·next hu=>unfold part;rw[aM,yw hu];simp[hc,aZ]
 ·next hu=>unfold part;rw[aM,yw hu];simp[hc,aZ]
 ·cases hf
def Pn(P:Program)(t:TypeId)(cs:List Value):Bool:=match P.underlying t with
 |some (.struct fs)=> !(P.stoodInHeld t)&& !(P.eqGuardType P.depth t)&&fs.toList.all fun f=>match cs[f.offset]? with|some v=>Pm P f.type v|none=>false
 |_=>false
theorem Mv{t:TypeId}{cs Qn:List Value}{op:BinOp}{x y:Operand}(hf:Pn P t cs=true):rd P (eqGuard op t x y (.agg cs.toArray) (.agg Qn.toArray)) h=some ():=by
 unfold Pn at hf
 split at hf
 ·next fs hu=>
  simp only[awm,Bool.not_eq_true',List.all_eq_true]at hf;obtain⟨⟨h1,h2⟩,h3⟩:=hf;unfold eqGuard;cases op<;>first|rfl|(simp only[Bool.not_true,awj,aw1];rw[aM,show rd P (program) h=some P from rfl,awc,aM,show rd P (program) h=some P from rfl,awc,h2];simp[aZ])
 ·cases hf
end
def gH:Value→Prop
 | .slice _ n c=>n≤c
 |_=>True
theorem Own.gH{h:ar}{base:Nat}{e:TypeId}{size:Nat}{v:Value}{n:Nat}{xs:List Value}(H:Own h base e size v n xs):Go.Vc.gH v:=by
 rcases H.2 with⟨rfl,rfl⟩|⟨g,cap,cur,fz,rfl,_,_,_,hn,_⟩
 ·exact awp 0
 ·exact hn
section
variable{P:Program}{h:ar}
def sB(a:Option Addr)(c lo size:Nat):Option Addr:=if c=lo then a else a.map (·.add (lo*size))
theorem GR{t e:TypeId}{a:Option Addr}{n c size bytes:Nat}{k k':IntKind}{lo hi:Int}(hT:pE P t e size bytes=true)(h0:0≤lo)(h1:lo≤hi)(h2:hi≤c):
 og P t (.slice a n c) (some (.int k lo)) (some (.int k' hi)) none h=some (.slice (sB a c lo.toNat size) (hi.toNat-lo.toNat) (c-lo.toNat)):=by
 obtain⟨i,z,t1,t2,t3,t4,t5,t6,t7⟩:=oh hT;unfold og Instr.sliceAt;rw[aM,aY t1,awc];simp only[Instr.slice,aM,aY t1,awc,Instr.sliceBounds,aZ];rw[pV (by omega) (by omega)];simp only[awc];rw[pV h0 (by omega)];simp only[awc,jP t2,sB,t4]
theorem Mw{t e:TypeId}{a:Option Addr}{n c size bytes:Nat}{k:IntKind}{lo:Int}(hT:pE P t e size bytes=true)(h0:0≤lo)(h1:lo≤n):
 og P t (.slice a n c) (some (.int k lo)) none none h=some (.slice (sB a c lo.toNat size) (n-lo.toNat) (c-lo.toNat)):=by
 obtain⟨i,z,t1,t2,t3,t4,t5,t6,t7⟩:=oh hT;unfold og Instr.sliceAt;rw[aM,aY t1,awc];simp only[Instr.slice,aM,aY t1,awc,Instr.sliceBounds,aZ];rw[pV h0 h1];simp only[awc,jP t2,sB,t4]
theorem Mx{t e:TypeId}{a:Option Addr}{n c size bytes:Nat}{k':IntKind}{hi:Int}(hT:pE P t e size bytes=true)(h1:0≤hi)(h2:hi≤c):
 og P t (.slice a n c) none (some (.int k' hi)) none h=some (.slice (sB a c 0 size) (hi.toNat-0) (c-0)):=by
 obtain⟨i,z,t1,t2,t3,t4,t5,t6,t7⟩:=oh hT;unfold og Instr.sliceAt;rw[aM,aY t1,awc];simp only[Instr.slice,aM,aY t1,awc,Instr.sliceBounds,aZ];rw[pV h1 h2];simp only[awc,jP t2,sB,t4]
theorem fR.sub{a:Option Addr}{n c size lo hi:Nat}{xs:List Value}(H:fR h size (.slice a n c) n xs)(h1:lo≤hi)(h2:hi≤n)(hc:n≤c):
 fR h size (.slice (sB a c lo size) (hi-lo) (c-lo)) (hi-lo) ((xs.take (hi*size)).drop (lo*size)):=by
 obtain⟨hl,a',c',he,h3⟩:=H;cases he;have hm:hi*size≤n*size:=Nat.mul_le_mul_right _ h2;refine⟨by rw[aws,awz,hl,Nat.min_eq_left hm,Nat.sub_mul],_,_,rfl,?_⟩;rcases Nat.eq_or_lt_of_le h1 with rfl|aV
 ·exact .inl (by omega)
 ·rcases h3 with rfl|⟨b,o,rfl,hr⟩
  ·omega
  ·right
   refine⟨b,o+lo*size,?_,?_⟩
   ·unfold sB
    rw[av9 (by omega)];simp only[axc,awe];unfold Addr.add;split
    ·next h'=>rw[h',aw3]
    ·rfl
   ·intro j v hv
    rw[List.getElem?_drop,List.getElem?_take]at hv
    split at hv
    ·have:=hr _ v hv
     rwa[←Nat.add_assoc]at this
    ·cases hv
end
section
variable{P:Program}{h:ar}
def xb:Value→Value→Bool
 | .int k a, .int k' b=>decide (k=k')&&(a==b)
 | .bool a, .bool b=>a==b
 | .string a, .string b=>a==b
 |_,_=>false
theorem XI{t:TypeId}{v u:Value}{d:Nat}(hf:Pm P t v=true)(hg:Pm P t u=true)(hk:∀k a k' b,v= .int k a→u= .int k' b→k=k'):
 rd P (Op.equalIn (d+1) t v u) h=some (xb v u):=by
 unfold Pm at hf hg
 split at hf
 ·next hu=>
  rw[hu]at hg
  split at hg<;>simp_all only[reduceCtorEq,awe]
  rw[Op.equalIn,aM,aY hu];simp[aZ,xb]
 ·next k0 k a hu=>
  rw[hu]at hg
  split at hg<;>simp_all only[reduceCtorEq,awe]
  next k1 k' b he=>
  have:k=k':=hk _ _ _ _ rfl rfl;subst this;rw[Op.equalIn,aM,aY hu];simp[aZ,xb]
 ·next hu=>
  rw[hu]at hg
  split at hg<;>simp_all only[reduceCtorEq,awe]
  rw[Op.equalIn,aM,aY hu];simp[aZ,xb]
 ·cases hf
def Uy(P:Program)(t:TypeId)(cs ds:List Value):Bool:=match P.underlying t with
 |some (.struct fs)=>fs.toList.all fun f=>match cs[f.offset]?,ds[f.offset]? with
  |some v,some u=>Pm P f.type v&&Pm P f.type u&&(match v,u with| .int k _, .int k' _=>decide (k=k')|_,_=>true)
  |_,_=>false
 |_=>false
def VK(P:Program)(t:TypeId)(cs ds:List Value):Bool:=match P.underlying t with
 |some (.struct fs)=>fs.toList.all fun f=>(f.name== "_")||(match cs[f.offset]?,ds[f.offset]? with|some v,some u=>xb v u|_,_=>false)
 |_=>false
theorem Q8{t:TypeId}{cs ds:List Value}{d:Nat}(hf:Pn P t cs=true)(hb:Uy P t cs ds=true):rd P (Op.equalIn (d+2) t (.agg cs.toArray) (.agg ds.toArray)) h=some (VK P t cs ds):=by
 unfold Pn at hf
 split at hf
 ·next fs hu=>
  simp only[awm,Bool.not_eq_true',List.all_eq_true]at hf;obtain⟨⟨h1,h2⟩,h3⟩:=hf;unfold Uy at hb;rw[hu]at hb;simp only[List.all_eq_true]at hb;rw[Op.equalIn,aM,aY hu,awc];dsimp only;rw[aM,show rd P (program) h=some P from rfl,awc,h1];simp only[awj,aw1];rw[←Array.forIn_toList];have key:∀(l:List Field)(s:Option Bool × Unit),(∀f∈l,f∈fs.toList)→s=(none,())→
   ∀(g:Field→Option Bool × Unit→Sem (ForInStep (Option Bool × Unit)))(q:Field→Bool),(∀f∈fs.toList,rd P (g f (none,())) h=some (if q f then .yield (none,())else .done (some false,())))→
   rd P (forIn l s g) h=some (if l.all q then(none,())else(some false,())):=by
   intro l
   induction l with
   |nil=>intro s _ hs g q _;subst hs;simp[aZ]
   |cons f l ih=>
    intro s hl hs g q hg;subst hs;rw[List.forIn_cons,aM,hg f (hl f (by simp)),awc];by_cases hq:q f=true
    ·rw[awa hq]
     simp only;rw[ih _ (fun f hf=>hl f (by simp[hf])) rfl g q hg];simp[hq]
    ·rw[av9 hq]
     simp[hq,aZ]
  rw[aM,key fs.toList _ (fun _ h=>h) rfl _ (fun f=>(f.name== "_")||(match cs[f.offset]?,ds[f.offset]? with|some v,some u=>xb v u|_,_=>false)) ?_]
  ·unfold VK
   rw[hu];simp only[awc];cases oD:fs.toList.all (fun f=>(f.name== "_")||(match cs[f.offset]?,ds[f.offset]? with|some v,some u=>xb v u|_,_=>false))with
   |true=>simp[aZ]
   |false=>simp[aZ]
  ·intro f hfm
   have h4:=hb f hfm
   split at h4
   ·next v u hv hu'=>
    simp only[awm]at h4;obtain⟨⟨g1,g2⟩,g3⟩:=h4;have hv':cs.toArray[f.offset]? =some v:=by simpa using hv
    have apB:ds.toArray[f.offset]? =some u:=by simpa using hu'
    have hk:∀k a k' b,v= .int k a→u= .int k' b→k=k':=by
     intro k a k' b e1 e2;subst e1 e2;simpa using g3
    by_cases hn:f.name= "_"
    ·simp[hn,aZ]
    ·simp only[ne_eq,hn,not_false_eq_true,aw0]
     simp only[aM,XH g1 hv',XH g2 apB,awc,XI g1 g2 hk];by_cases hq:xb v u=true
     ·simp[aZ,hq]
     ·simp[aZ,hn,hq]
   ·cases h4
 ·cases hf
theorem My{t:TypeId}{cs ds:List Value}{x y:Operand}(hf:Pn P t cs=true)(hb:Uy P t cs ds=true):ej P .neq t x y (.agg cs.toArray) (.agg ds.toArray) h=some (.bool !(VK P t cs ds)):=by
 unfold ej;rw[aM,Mv hf,awc]
 show rd P (Op.equalIn (9998+2) t (.agg cs.toArray) (.agg ds.toArray)>>=fun b=>pure (Value.bool !b)) h=_
 rw[aM,Q8 hf hb,awc];rfl
theorem VL{t:TypeId}{cs ds:List Value}{x y:Operand}(hf:Pn P t cs=true)(hb:Uy P t cs ds=true):ej P .eql t x y (.agg cs.toArray) (.agg ds.toArray) h=some (.bool (VK P t cs ds)):=by
 unfold ej;rw[aM,Mv hf,awc]
 show rd P (Op.equalIn (9998+2) t (.agg cs.toArray) (.agg ds.toArray)>>=fun b=>pure (Value.bool b)) h=_
 rw[aM,Q8 hf hb,awc];rfl
end
section
open Go.ChangeShapes Go.WideShapes Go.Deep
variable{H:Type}{enc:TypeId × Value→H}{P:Program}{W:World}{base:Nat}{spare:Nat→Bool}{held:Bool}
theorem Po{a:Addr}{v:Value}(hc:W.cell? a=some v):a.spot=none∧cellAt W.heap a=some v:=by
 obtain⟨b,o,s⟩:=a;cases s with
 |some s=>simp only[World.cell?,Option.isSome_some,aw0]at hc;split at hc<;>cases hc
 |none=>exact⟨rfl,hc⟩
theorem XJ{b o k:Nat}:Addr.add ⟨b,o,none⟩ k=⟨b,o+k,none⟩:=by
 unfold Addr.add;split
 ·next h'=>subst h';rfl
 ·rfl
theorem aaN{t e:TypeId}{fuel:Nat}{v:Value}{x:DataW H × List MemPlace}{size:Nat}(ht:P.underlying t=some (.slice e))(gB:P.cellsOf e=size)(pT:0<size)
 (hr:DataW.trod enc P W base spare held fuel t [v]=some x):
 ∃rows:List (List Value × DataW H),(∀r∈rows,r.1.length=size∧∃n q,DataW.trod enc P W base spare held n e r.1=some (r.2,q))∧
  (x.1= .nil∧rows=[]∨∃sp,x.1= .slice (rows.map (·.2)) sp)∧fR W.heap size v rows.length (rows.flatMap (·.1))∧rows.length≤maxLen∧gH v:=by
 rcases open_slice ht hr with⟨hv,rfl⟩|⟨a,len,cap,m,n,D,Pl,hv,hb,hl,hm,hmm,rfl,hx⟩
 ·cases hv
  exact⟨[],by simp, .inl ⟨rfl,rfl⟩,⟨by simp,_,_,rfl, .inl rfl⟩,awb _,awp _⟩
 ·cases hv
  have hlm:len≤m:=by rw[hmm];split<;>omega
  rw[gB]at hx;obtain⟨R,hR⟩:=choose_lt (α:=List Value) (p:=fun i Qn=>W.cells? base (a.add (i*size)) size=some Qn∧DataW.trod enc P W base spare held n e Qn=some (D i,Pl i)) (fun i hi=>hx i hi);refine⟨(List.range len).map fun i=>(R i,D i),?_, .inr ⟨(List.range (m-len)).map fun j=>D (len+j),by simp[Function.comp_def]⟩,?_,by simp;omega,hl⟩
  ·intro r hr
   obtain⟨i,hi,rfl⟩:=List.mem_map.1 hr;have hi:=List.mem_range.1 hi;obtain⟨h1,h2⟩:=hR i (by omega);exact⟨(World.cells?_some h1).2.1,n,Pl i,h2⟩
  ·have hlen:∀k,k≤len→(((List.range k).map fun i=>(R i,D i)).flatMap (·.1)).length=k*size:=by
    intro k hk
    induction k with
    |zero=>simp
    |succ k ih=>
     rw[List.range_succ,List.map_append,List.flatMap_append,awn,ih (by omega)];simp[(World.cells?_some (hR k (by omega)).1).2.1,Nat.succ_mul]
   refine⟨by simpa using hlen len (awp _),some a,cap,by simp,?_⟩;rcases Nat.eq_zero_or_pos len with rfl|rD
   ·exact .inl (by simp)
   ·right
    have h0:=(World.cells?_some (hR 0 (by omega)).1).2.2 0 pT;have hl0:=(World.cells?_some (hR 0 (by omega)).1).2.1;have h0':W.cell? a=some ((R 0)[0]'(by omega)):=by
     have:(a.add (0*size)).add 0=a:=by unfold Addr.add;simp
     rw[this]at h0;rw[h0,awJ (by omega)]
    obtain⟨b,o,s⟩:=a;have hs:=(Po h0').1;simp only at hs;subst hs;refine⟨b,o,rfl,?_⟩;have:∀k,k≤len→Rd W.heap b o (((List.range k).map fun i=>(R i,D i)).flatMap (·.1)):=by
     intro k hk
     induction k with
     |zero=>intro j v hv;simp at hv
     |succ k ih=>
      intro j v hv;rw[List.range_succ,List.map_append,List.flatMap_append]at hv;rcases Nat.lt_or_ge j (k*size)with hj|hj
      ·rw[awS (by rw[hlen k (by omega)];exact hj)]at hv
       exact ih (by omega) j v hv
      ·rw[awT (by rw[hlen k (by omega)];exact hj),hlen k (by omega)]at hv
       simp only[awH,awI,List.flatMap_cons,List.flatMap_nil,List.append_nil]at hv;obtain⟨h1,h2,h3⟩:=World.cells?_some (hR k (by omega)).1;have hj2:j-k*size<size:=by
        rcases Nat.lt_or_ge (j-k*size) size with h'|h'
        ·exact h'
        ·rw[List.getElem?_eq_none (by omega)]at hv;cases hv
       have h4:=h3 (j-k*size) hj2;rw[hv,XJ,XJ]at h4;have h5:=(Po h4).2;rw[show o+k*size+(j-k*size)=o+j by omega]at h5;exact h5
    exact this len (awp _)
end
section
variable{P:Program}{h:ar}{τ ρ:Env}{K:Value→ar→Prop}{ty:TypeId}
theorem gO{t e:TypeId}{size bytes:Nat}(hT:pE P t e size bytes=true){x y:Operand}{base:Nat}{v u:Value}{n m:Nat}{xs news:List Value}
 (hx:dC τ ρ x=some v)(hy:dC τ ρ y=some u)(gQ:Own h base e size v n xs)(hs:fR h size u m news)(h1:∀u∈news,oneCell u=true)
 (Lv:n+m≤9223372036854775807)(qz:(n+m)*bytes≤140737488355328)(rz:base≤h.size)
 (H:∀v' h',Own h' base e size v' (n+m) (xs++news)→Fr (fun k=>v.ownBlock=some k) h h'→K v' h'):
 li P (.call {callee:= .builtin .append,args:=#[x,y],argTypes:=#[t,t]}) ty τ ρ h K:=by
 obtain⟨i,z,t1,t2,t3,t4,t5,t6,t7⟩:=oh hT;obtain⟨hl,a,c,rfl,h0⟩:=hs;refine Bm hT hx hy gQ (fun w hw=>?_) Lv qz rz fun v' h' a b _=>H v' h' a b;subst hw;rcases h0 with rfl|⟨b,o,rfl,hr⟩
 ·have:news=[]:=List.length_eq_zero_iff.1 (by rw[hl];simp)
  subst this;cases a with
  |none=>exact Src.ofNil w t1 c
  |some a=>exact Src.ofSlice w t1 a 0 c [] (by simp) (by simp) (by simp)
 ·refine Src.ofSlice w t1 ⟨b,o,none⟩ m c news hl (fun j u hu=>?_) fun u hu=>by have:=h1 u hu;cases u<;>first|rfl|(simp[oneCell]at this)
  have:=hr j u hu;have ha:(⟨b,o,none⟩:Addr).add j=⟨b,o+j,none⟩:=by
   unfold Addr.add;split
   ·next h'=>subst h';rfl
   ·rfl
  rw[ha];exact this
end
section
variable{P:Program}{h:ar}
def ik(P:Program)(t:TypeId)(is:List Nat)(vs:List Value)(h:ar):Option Value:=rd P (Instr.build t (is.zip vs).toArray) h
theorem aaP{τ ρ:Env}:∀(l:List (Nat × Operand))(vs:List Value),qv τ ρ (l.map (·.2))=some vs→(l.map fun p=>(p.1,js τ ρ p.2))=(l.map (·.1)).zip vs:=by
 intro l
 induction l with
 |nil=>intro vs h;cases h;rfl
 |cons x l ih=>
  intro vs h;simp only[awH,qv]at h;cases hx:dC τ ρ x.2 with
  |none=>rw[hx]at h;cases h
  |some v=>
   rw[hx]at h;cases hr:qv τ ρ (l.map (·.2))with
   |none=>rw[hr]at h;cases h
   |some us=>
    rw[hr]at h;cases h;simp only[awH,List.zip_cons_cons,ih us hr];simp[js,hx]
theorem aaQ{t:TypeId}{l:List (Nat × Operand)}{ty:TypeId}{τ ρ:Env}{h:ar}:lg P (.build t l.toArray) ty τ ρ h=(qv τ ρ (l.map (·.2))).bind fun vs=>ik P t (l.map (·.1)) vs h:=by
 unfold lg ri;have hk:known τ ρ (.build t l.toArray)↔∀x∈l.map (·.2),(dC τ ρ x).isSome=true:=by simp[known,Op.operands]
 cases hv:qv τ ρ (l.map (·.2))with
 |some vs=>
  rw[awa (hk.2 (yu _ vs hv).1)];simp only[execOp,ep.oper,ki,ik,awc,axe];rw[←aaP l vs hv]
 |none=>
  rw[av9]
  ·rfl
  ·intro hh
   have hh:=hk.1 hh;have:∀(l:List Operand),(∀x∈l,(dC τ ρ x).isSome=true)→qv τ ρ l≠none:=by
    intro l
    induction l with
    |nil=>intro _ hn;cases hn
    |cons x r ih=>
     intro hx hn;have h1:=hx x (by simp);simp only[qv]at hn;cases hx':dC τ ρ x with
     |none=>rw[hx']at h1;cases h1
     |some v=>
      rw[hx']at hn;cases hr:qv τ ρ r with
      |none=>exact ih (fun y hy=>hx y (by simp[hy])) hr
      |some l'=>rw[hr]at hn;cases hn
   exact this _ hh hv
theorem aaR:∀(fs:List Field)(places:List (Nat × Nat)),fs.mapM (fun f=>(P.info? f.type).map fun i=>(f.offset,i.size))=some places→
 rd P (fs.mapM fun f=>Functor.map (Prod.mk f.offset) (sizeOf f.type)) h=some places:=by
 intro fs
 induction fs with
 |nil=>intro places h;simp at h;subst h;simp[aZ]
 |cons f fs ih=>
  intro places hp;simp only[List.mapM_cons,Option.bind_eq_bind,Option.pure_def]at hp;cases hi:P.info? f.type with
  |none=>simp[hi]at hp
  |some i=>
   cases hr:fs.mapM (fun f=>(P.info? f.type).map fun i=>(f.offset,i.size))with
   |none=>simp[hi,hr]at hp
   |some rest=>
    simp[hi,hr]at hp;subst hp;rw[List.mapM_cons,aM,map_eq_pure_bind,aM,jP hi];simp only[awc,aZ,aM,ih rest hr]
theorem oV{t:TypeId}{i:TypeInfo}{z:Value}(hi:P.info? t=some i)(hz:i.zero=some z):rd P (zeroValue t) h=some z:=by
 unfold zeroValue;rw[aM,tO hi,awc];simp only[hz,aZ]
theorem dT{t:TypeId}{is:List Nat}{vs:List Value}{cells:Array Value}(hb:P.built t (is.zip vs)=some cells):ik P t is vs h=some (.agg cells):=by
 unfold Program.built at hb;unfold ik;cases hit:P.info? t with
 |none=>simp[hit]at hb
 |some it=>
  cases hu:P.underlying t with
  |none=>simp[hit,hu]at hb
  |some d=>
   cases hz:it.zero with
   |none=>cases d<;>simp[hit,hu,hz]at hb
   |some z=>
    cases d<;>try(simp[hit,hu]at hb;done)
    case array n e=>
     cases hie:P.info? e with
     |none=>simp[hit,hu,hz,hie]at hb
     |some ie=>
      simp only[hit,hu,hz,hie]at hb;simp only[Instr.build,aM,oV hit hz,aY hu,jP hie,awc,hb,aZ]
    case struct fields=>
     cases hp:fields.toList.mapM (fun f=>(P.info? f.type).map fun i=>(f.offset,i.size))with
     |none=>simp only[hit,hu,hz,hp]at hb;cases hb
     |some places=>
      simp only[hit,hu,hz,hp]at hb;have e:(fields.mapM fun f=>(do pure (f.offset,←sizeOf f.type):Sem (Nat × Nat)))=Functor.map List.toArray (fields.toList.mapM fun f=>Functor.map (Prod.mk f.offset) (sizeOf f.type)):=by
       rw[Array.mapM_eq_mapM_toList];simp only[map_eq_pure_bind]
      simp only[Instr.build,aM,oV hit hz,aY hu,awc];rw[e,map_eq_pure_bind,aM,aaR _ _ hp];simp only[awc,aZ,hb]
end
theorem Own.new{h:ar}{base:Nat}{e:TypeId}{size n:Nat}{vs:List Value}(hl:vs.length=n*size)(hm:n≤maxLen)(hb:base≤h.size):
 Own (h.push (.cells vs.toArray e (0,0))) base e size (.slice (some ⟨h.size,0,none⟩) n n) n vs:=
 ⟨hl, .inr ⟨h.size,n,vs.toArray,(0,0),rfl,hb,by simp,by simp,awp _,hm,by simpa using hl,by rw[←hl];simp⟩⟩
section
variable{P:Program}{h:ar}
def XK(P:Program)(ts:Array TypeId)(ty:TypeId)(a b:Value)(h:ar):Option Value:=rd P (Builtin.min_ ts ty #[a,b]) h
theorem ago{t t':TypeId}{x y:Operand}{ty:TypeId}{τ ρ:Env}{h:ar}:lg P (.call {callee:= .builtin .min,args:=#[x,y],argTypes:=#[t,t']}) ty τ ρ h=(dC τ ρ x).bind fun a=>(dC τ ρ y).bind fun b=>XK P #[t,t'] ty a b h:=by
 rw[JH (x:=x) (y:=y) (by rfl) (fun a b=>XK P #[t,t'] ty a b h) fun e=>?_];simp only[execOp,ep.oper,resolve,invoke,builtin,aM,aZ,awc,axe,awH,awI]
 show valOf ((rd P (Builtin.min_ #[t,t'] ty #[e x,e y]) h).bind fun v=>rd P (pure (Next.value v)) h)=_
 unfold XK;cases rd P (Builtin.min_ #[t,t'] ty #[e x,e y]) h<;>rfl
theorem agp{ts:Array TypeId}{ty:TypeId}{k:IntKind}{a b:Int}:XK P ts ty (.int k a) (.int k b) h=some (.int k (if b<a then b else a)):=by
 unfold XK Builtin.min_;simp[List.foldlM,aZ,Builtin.min2]
end
end
def vs:=Z.N @ajh<|Z.N @aan<|Z.N @aft<|Z.N @afr<|Z.N @ajg<|Z.N @afs<|Z.N @adg<|Z.N @al4<|Z.N @al5<|Z.N @afy<|Z.N @ajp<|Z.N @ajq<|Z.N @al2<|Z.N @al3<|Z.N @ajk<|Z.N @ajl<|Z.N @ajm<|Z.N @ajn<|Z.N @ajo<|Z.N @alY<|Z.N @alX<|Z.N @alZ<|Z.N @Xy<|Z.N @VA<|Z.N @TA<|Z.N @adl<|Z.N @Xz<|Z.N @adn<|Z.N @VB<|Z.N @afC<|Z.N @ajA<|Z.N @ajB<|Z.N @ajC<|Z.N @ajD<|Z.N @ajE<|Z.N @ajF<|Z.N @ajG<|Z.N @XB<|Z.N @afF<|Z.N @adq<|Z.N @adr<|Z.N @ads<|Z.N @aat<|Z.N @ajH<|Z.N @XC<|Z.N @ajI<|Z.N @afH<|Z.N @adt<|Z.N @afD<|Z.N @afG<|Z.N @XA<|Z.N @aas<|Z.N @afn<|Z.N @aai<|Z.N @ade<|Z.N @Xt<|Z.N @alW<|Z.N @get_nil<|Z.N @ac9<|Z.N @set_nil<|Z.N @ada<|Z.N @adb<|Z.N @aaf<|Z.N @aag<|Z.N @aah<|Z.N @orElse_some<|Z.N @orElse_none<|Z.N @ai8<|Z.N @ai9<|Z.N @aja<|Z.N @ajb<|Z.N @ajc<|Z.N @ajd<|Z.N @adf<|Z.N @aaj<|Z.N @getD_nil<|Z.N @aak<|Z.N @aal<|Z.N @aam<|Z.N @Xu<|Z.N @aje<|Z.N @ajf<|Z.N @ado<|Z.N @afo<|Z.N @afq<|Z.N @afp<|Z.N @aad<|Z.N @aae<|Z.N @Xv<|Z.N @afu<|Z.N @adh<|Z.N @Xw<|Z.N @afv<|Z.N @adi<|Z.N @Xx<|Z.N @afw<|Z.N @afm<|Z.N @ac8<|Z.N @ai7<|Z.N @adk<|Z.N @aaq<|Z.N @af5<|Z.N @adD<|Z.N @aaE<|Z.N @aaF<|Z.N @XF<|Z.N @aav<|Z.N @aaw<|Z.N @XD<|Z.N @aax<|Z.N @VD<|Z.N @aay<|Z.N @af2<|Z.N @adj<|Z.N @Uv<|Z.N @adu<|Z.N @adv<|Z.N @afT<|Z.N @afU<|Z.N @ajM<|Z.N @afY<|Z.N @afZ<|Z.N @QR<|Z.N @adz<|Z.N @adA<|Z.N @afI<|Z.N @afJ<|Z.N @afK<|Z.N @afL<|Z.N @afM<|Z.N @afN<|Z.N @afO<|Z.N @afP<|Z.N @afQ<|Z.N @afR<|Z.N @afS<|Z.N @afV<|Z.N @ajJ<|Z.N @afW<|Z.N @XE<|Z.N @adw<|Z.N @tN<|Z.N @VF<|Z.N @VG<|Z.N @ajK<|Z.N @wrap_i64<|Z.N @wrap_u8<|Z.N @wrap_u16<|Z.N @wrap_u32<|Z.N @wrap_i32<|Z.N @aaQ<|Z.N @ago<|Z.N @agp<|Z.N @afz<|Z.N @afB<|Z.N @afA<|Z.N @ao5<|Z.N @ao6<|Z.N @ama<|Z.N @amb<|Z.N @al8<|Z.N @al9<|Z.N @ajt<|Z.N @aju<|Z.N @ajv<|Z.N @ajw<| @ajx
def vk:=Z.N @aw4<|Z.N @aw5<|Z.N @awl.{0}<|Z.N @awA.{0}<|Z.N @awB.{0}<|Z.N @awc.{0,0}<|Z.N @axc.{0,0}<|Z.N @Option.isSome_some.{0}<|Z.N @ne_eq.{1}<|Z.N @Bool.not_true<|Z.N @Bool.not_false<|Z.N @Bool.true_eq_false<|Z.N @awj<|Z.N @Bool.not_eq_true'<|Z.N @Bool.not_eq_false'<|Z.N @awe.{0}<|Z.N @awo<|Z.N @decide_eq_false_iff_not<|Z.N @not_true_eq_false<|Z.N @not_false_eq_true<|Z.N @awY<|Z.N @awZ<|Z.N @awU.{0}<|Z.N @awy.{0}<|Z.N @awM.{0}<|Z.N @awC.{0}<|Z.N @awD.{0}<|Z.N @List.append_nil.{0}<|Z.N @awH.{0,0}<|Z.N @awI.{0,0}<|Z.N @Array.size_push.{0}<|Z.N @Int.toNat_natCast<|Z.N @List.toList_toArray.{0}<|Z.N @Nat.min_def<|Z.N @Int.tdiv_eq_ediv_of_nonneg<|Z.N @Int.tmod_eq_emod_of_nonneg<|Z.N @Int.fdiv_eq_ediv_of_nonneg<|Z.N @Nat.mul_one<|Z.N @aw2<|Z.N @aw3<|Z.N @implies_true.{0}<|Z.N @false_implies<| @true_implies
section
section
variable{P:Program}{h:ar}{t:TypeId}{x y:Operand}
theorem Mz{op:BinOp}{a b:Option Addr}:eqGuard op t x y (.pointer a) (.pointer b)=pure ():=by
 unfold eqGuard;cases op<;>rfl
theorem oW{e:TypeId}{a:Option Addr}(hu:P.underlying t=some (.pointer e)):ej P .eql t x y (.pointer a) (.pointer none) h=some (.bool a.isNone):=by
 unfold ej;rw[Mz,aM,aZ,awc]
 show rd P (Op.equalIn (9999+1) t (.pointer a) (.pointer none)>>=fun b=>pure (Value.bool b)) h=_
 rw[aM,Op.equalIn,aM,aY hu];cases a<;>rfl
theorem sd{e:TypeId}{a:Option Addr}(hu:P.underlying t=some (.pointer e)):ej P .neq t x y (.pointer a) (.pointer none) h=some (.bool a.isSome):=by
 unfold ej;rw[Mz,aM,aZ,awc]
 show rd P (Op.equalIn (9999+1) t (.pointer a) (.pointer none)>>=fun b=>pure (Value.bool (!b))) h=_
 rw[aM,Op.equalIn,aM,aY hu];cases a<;>rfl
end
section
variable{P:Program}{h:ar}
end
theorem Own.take{h:ar}{base:Nat}{e:TypeId}{size:Nat}{a:Option Addr}{n c k:Nat}{xs:List Value}(H:Own h base e size (.slice a n c) n xs)(hk:k≤n):
 Own h base e size (.slice (sB a c 0 size) (k-0) (c-0)) k (xs.take (k*size)):=by
 obtain⟨hl,h0⟩:=H;have hm:k*size≤n*size:=Nat.mul_le_mul_right _ hk;refine⟨by rw[awz,hl];omega,?_⟩;rcases h0 with⟨h1,rfl⟩|⟨g,cap,cur,fz,h1,hb,hg,Hf,hnc,hcm,hcs,mq⟩
 ·cases h1
  have:k=0:=by omega
  subst this;exact .inl ⟨rfl,rfl⟩
 ·cases h1
  refine .inr ⟨g,c,cur,fz,?_,hb,hg,Hf,by omega,hcm,hcs,?_⟩
  ·unfold sB
   split
   ·rfl
   ·simp[Addr.add]
  ·rw[←mq,List.take_take]
   congr 1;omega
theorem aO{P:Program}{τ ρ:Env}{h:ar}{K:Value→ar→Prop}{ty t:TypeId}{cz:Array Value}(hz:fN P t cz){x y:Operand}{b:Nat}{v:Value}{cur:Array Value}{e:TypeId}
 (hx:dC τ ρ x=some (.pointer (some ⟨b,0,none⟩)))(hy:dC τ ρ y=some v)(gB:v.cells.size=cz.size)(eY:∀u∈v.cells.toList,oneCell u=true)(hb:h[b]? =some (.cells cur e (0,0)))(apD:cur.size=cz.size)
 (H:∀h',Fr (fun k=>k=b) h h'→h'[b]? =some (.cells v.cells e (0,0))→K undef h'):li P (.store t x y) ty τ ρ h K:=by
 obtain⟨i,z,h1,h2,rfl,h3⟩:=jx hz;refine jv h1 hx hy (by omega) eY hb (by omega) (by intro j _ _;simp) fun h' hf hs ju=>H h' hf ?_;rw[ju];have:cur.toList.drop (0+i.size)=[]:=by rw[List.drop_eq_nil_iff];simp;omega
 rw[this];simp
theorem dD{P:Program}{τ ρ:Env}{h:ar}{K:Value→ar→Prop}{ty t:TypeId}{cz:Array Value}(hz:fN P t cz){x y:Operand}{b o:Nat}{v:Value}{cur:Array Value}{e:TypeId}{fz:Nat × Nat}
 (hx:dC τ ρ x=some (.pointer (some ⟨b,o,none⟩)))(hy:dC τ ρ y=some v)(gB:v.cells.size=cz.size)(eY:∀u∈v.cells.toList,oneCell u=true)(hb:h[b]? =some (.cells cur e fz))(hlen:o+cz.size≤cur.size)
 (Hf:∀j,o≤j→j<o+cz.size→¬(fz.1≤j∧j<fz.2))
 (H:∀h',Fr (fun k=>k=b) h h'→h'[b]? =some (.cells (cur.toList.take o++v.cells.toList++cur.toList.drop (o+cz.size)).toArray e fz)→K undef h'):li P (.store t x y) ty τ ρ h K:=by
 obtain⟨i,z,h1,h2,rfl,h3⟩:=jx hz;rw[←h3]at hlen Hf;refine jv h1 hx hy (by omega) eY hb hlen Hf fun h' hf hs ju=>H h' hf ?_;rw[ju,h3]
theorem Own.row{h:ar}{base:Nat}{e:TypeId}{size:Nat}{v:Value}{n:Nat}{ys:List Value}(H:Own h base e size v n ys){i:Nat}(hi:i<n):
 ∃g c cur fz,v= .slice (some ⟨g,0,none⟩) n c∧h[g]? =some (.cells cur e fz)∧i*size+size≤cur.size∧(∀j,i*size≤j→j<i*size+size→¬(fz.1≤j∧j<fz.2))∧
  ∀h' row,row.length=size→h'[g]? =some (.cells (cur.toList.take (i*size)++row++cur.toList.drop (i*size+size)).toArray e fz)→Own h' base e size v n (ys.take (i*size)++row++ys.drop (i*size+size)):=by
 obtain⟨hl,h0⟩:=H;rcases h0 with⟨_,rfl⟩|⟨g,cap,cur,fz,rfl,hb,hg,Hf,hnc,hcm,hcs,mq⟩
 ·omega
 ·have h1:i*size+size≤n*size:=by
   have:=Nat.mul_le_mul_right size (show i+1≤n by omega);rw[Nat.add_mul,Nat.one_mul]at this;exact this
  have h2:n*size≤cap*size:=Nat.mul_le_mul_right _ hnc;refine⟨g,cap,cur,fz,rfl,hg,by omega,fun j _ hj=>Hf j (by omega),fun h' row hr hg'=>?_⟩;refine⟨?_, .inr ⟨g,cap,_,fz,rfl,hb,hg',Hf,hnc,hcm,?_,?_⟩⟩
  ·simp only[awn,awz,aws,hl,hr];omega
  ·simp only[awU,awn,awz,aws,Array.length_toList,hcs,hr];omega
  ·subst mq
   simp only[];rw[List.take_take,Nat.min_eq_left (by omega:i*size≤n*size),List.take_append,List.take_append];have e1:(cur.toList.take (i*size)).length=i*size:=by rw[awz,Array.length_toList];omega
   have e3:(cur.toList.take (i*size)++row).length=i*size+size:=by rw[awn,e1,hr]
   rw[e1,e3,List.take_of_length_le (l:=cur.toList.take (i*size)) (by omega),List.take_of_length_le (l:=row) (by omega),List.drop_take]
end
section
section
variable{P:Program}{τ ρ:Env}{h:ar}{K:Value→ar→Prop}{ty:TypeId}
end
end
section
open Go.MapKept
def iT{κ:Type}(mk:κ→Value)(h:ar)(b:Nat)(F:κ→Option Value):Prop:=
 ∃es clock,h[b]? =some (.map es clock)∧Stamped es clock∧(∀x∈es.toList,∃a,x.key=mk a)∧∀a v,F a=some v↔∃x∈es.toList,x.key=mk a∧x.val=v
def mpT(P:Program)(t:TypeId)(d:TypeDesc)(z:Value):Prop:=∃k e i,P.underlying t=some (.map k e)∧P.underlying k=some d∧P.info? e=some i∧i.zero=some z
section
variable{P:Program}{τ ρ:Env}{h:ar}{K:Value→ar→Prop}{ty:TypeId}{κ:Type}{mk:κ→Value}{F:κ→Option Value}{b:Nat}
theorem iT.fr{S:Nat→Prop}{h':ar}(H:iT mk h b F)(hf:Fr S h h')(hS:¬S b):iT mk h' b F:=by
 obtain⟨es,c,h1,h2,h3,h4⟩:=H;exact⟨es,c,by rw[hf.same b (awd.1 h1).1 hS];exact h1,h2,h3,h4⟩
theorem iT.lt(H:iT mk h b F):b<h.size:=by
 obtain⟨es,c,h1,_⟩:=H;exact(awd.1 h1).1
theorem iT.new:iT mk (h.push (.map #[] 0)) h.size (fun _=>none):=
 ⟨#[],0,by simp,stamped_empty 0,by simp,by simp⟩
theorem VM{kt:TypeId}{d:TypeDesc}{k:Value}(hd:P.underlying kt=some d)(hk:IsKey d k)(e:Bool)(n:Nat):rd P (Instr.checkKey e (n+1) kt k) h=some ():=by
 unfold Instr.checkKey;rw[aM,aY hd,awc];cases d<;>cases k<;>first|exact hk.elim|rfl
theorem Pp{kt:TypeId}{d:TypeDesc}{k:Value}{l:List MapEntry}{a:Option (Nat × Value)}(hd:P.underlying kt=some d)(hf:Instr.findNow d k l 0=some a):rd P (Instr.findKey kt k l) h=some a:=by
 unfold Instr.findKey;rw[aM,aY hd,awc,hf];rfl
theorem Q9{es:Array MapEntry}{c:Nat}(hb:h[b]? =some (.map es c)):rd P (getObj b) h=some (.map es c):=by
 unfold getObj;simp only[rd,hb]
theorem VN{t:TypeId}{d:TypeDesc}{z:Value}(hT:mpT P t d z)(hk:∀a,IsKey d (mk a))(H:iT mk h b F)(a:κ)(ok:Bool):
 vT P t (.map (some b)) (mk a) ok h=some (if ok then .tuple #[(F a).getD z, .bool (F a).isSome]else(F a).getD z):=by
 obtain⟨k,e,i,t1,t2,t3,t4⟩:=hT;obtain⟨es,c,h1,h2,h3,h4⟩:=H;have Ra:∀x∈es.toList,IsKey d x.key:=by
  intro x hx;obtain⟨a',ha⟩:=h3 x hx;rw[ha];exact hk a'
 have hz:rd P (zeroValue e) h=some z:=oV t3 t4;unfold vT Instr.lookup;rw[aM,aY t1,awc];simp only[aM,Q9 h1,aZ,awc];rw[VM t2 (hk a),awc];rcases findNow_spec (hk a) es.toList 0 Ra with⟨f1,f2⟩|⟨j,e0,f1,f2,f3⟩
 ·rw[Pp t2 f1]
  have hn:F a=none:=by
   cases hF:F a with
   |none=>rfl
   |some v=>
    obtain⟨x,hx,mO,_⟩:=(h4 a v).1 hF;exact aww mO (f2 x hx)
  simp only[awc,aM,hz,aZ,hn];cases ok<;>rfl
 ·rw[Pp t2 f1]
  have hn:F a=some e0.val:=(h4 a _).2 ⟨e0,awR f2,f3,rfl⟩;simp only[awc,aM,aZ,hn];cases ok<;>rfl
theorem qF{t:TypeId}(H:K (.map (some h.size)) (h.push (.map #[] 0))):li P (.makeMap t none) ty τ ρ h K:=by
 refine⟨by intro x hx;simp[Op.operands]at hx,?_⟩;simp only[execOp,ep.oper];refine Lu (Al fun w hw=>?_);subst hw;exact⟨_,w.alloc (.map #[] 0),rfl,⟨rfl,rfl,rfl⟩,H⟩
theorem sC [DecidableEq κ]{t:TypeId}{d:TypeDesc}{z:Value}(hT:mpT P t d z)(hk:∀a,IsKey d (mk a))(Uz:∀a a',mk a=mk a'→a=a'){m x y:Operand}{a:κ}{v:Value}
 (hm:dC τ ρ m=some (.map (some b)))(hx:dC τ ρ x=some (mk a))(hy:dC τ ρ y=some v)(H:iT mk h b F)
 (hK:∀h',iT mk h' b (fun a'=>if a'=a then some v else F a')→Fr (fun k=>k=b) h h'→h'.size=h.size→K undef h'):li P (.mapUpdate t m x y) ty τ ρ h K:=by
 obtain⟨k,e,i,t1,t2,t3,t4⟩:=hT;obtain⟨es,c,h1,h2,h3,h4⟩:=H;refine⟨by intro u hu;simp[Op.operands]at hu;rcases hu with rfl|rfl|rfl<;>simp[hm,hx,hy],?_⟩
 have Ra:∀x∈es.toList,IsKey d x.key:=by
  intro x hx;obtain⟨a',ha⟩:=h3 x hx;rw[ha];exact hk a'
 have e1:js τ ρ m= .map (some b):=by simp[js,hm]
 have e2:js τ ρ x=mk a:=by simp[js,hx]
 have e3:js τ ρ y=v:=by simp[js,hy]
 have aV:b<h.size:=(awd.1 h1).1;simp only[execOp,ep.oper,e1,e2,e3];refine acv (Al fun w hw=>?_);subst hw;have fin:∀Dz c',Fr (fun k=>k=b) w.heap (w.heap.setIfInBounds b (.map Dz c')):=fun Dz c'=>⟨by simp,fun k' AF cN=>by simp[Ne.symm cN]⟩;have MA:∀Dz c',(w.heap.setIfInBounds b (.map Dz c'))[b]? =some (.map Dz c'):=fun Dz c'=>by simp[aV]
 rcases findNow_spec (hk a) es.toList 0 Ra with⟨f1,f2⟩|⟨j,e0,f1,f2,f3⟩
 ·refine⟨(),{w with heap:=w.heap.setIfInBounds b (.map (es.push ⟨mk a,v,c⟩) (c+1))},?_,⟨rfl,rfl,rfl⟩,hK _ ⟨_,_,MA _ _,stamped_push h2 f2,?_,?_⟩ (fin _ _) (by simp)⟩
  ·simp[Instr.mapUpdate,run_underlying t1,MapKept.run_getObj_map h1,run_checkKey t2 (hk a),run_findKey t2 f1,MapKept.run_setObj_map _ h1,Result.andThen]
  ·intro x hx
   simp only[Array.toList_push,awi,awf]at hx;rcases hx with hx|rfl
   ·exact h3 x hx
   ·exact⟨a,rfl⟩
  ·intro a' v'
   simp only[Array.toList_push,awi,awf];by_cases ha:a'=a
   ·subst ha
    simp only[aw0,awe];constructor
    ·rintro rfl;exact⟨_,axb rfl,rfl,rfl⟩
    ·rintro⟨x,hx|rfl,mO,uX⟩
     ·exact aww mO (f2 x hx)
     ·exact uX
   ·simp only[av9 ha]
    rw[h4];constructor
    ·rintro⟨x,hx,mO,uX⟩;exact⟨x,axa hx,mO,uX⟩
    ·rintro⟨x,hx|rfl,mO,uX⟩
     ·exact⟨x,hx,mO,uX⟩
     ·exact aww (Uz _ _ mO).symm ha
 ·have hj:es[j]? =some e0:=by simpa using f2
  have ta:j<es.toList.length:=(List.getElem?_eq_some_iff.1 f2).1;have aaS:∀w':World,(Instr.keyThatStays (mk a) (mk a)).run P w'= .ok (mk a) w':=fun w'=>run_keyThatStays (hk a);refine⟨(),{w with heap:=w.heap.setIfInBounds b (.map (es.modify j fun e'=>{e' with key:=mk a,val:=v}) c)},?_,⟨rfl,rfl,rfl⟩,hK _ ⟨_,_,MA _ _,stamped_modify h2 _ _ (fun _ _=>rfl) (fun e' _ dH=>by rw[hj]at dH;cases dH;exact f3.symm),?_,?_⟩ (fin _ _) (by simp)⟩
  ·simp[Instr.mapUpdate,run_underlying t1,MapKept.run_getObj_map h1,run_checkKey t2 (hk a),run_findKey t2 f1,hj,f3,aaS,MapKept.run_setObj_map _ h1,Result.andThen]
  ·intro x hx
   rcases List.mem_iff_getElem?.1 hx with⟨i,hi⟩;rw[Array.toList_modify,List.getElem?_modify]at hi
   split at hi
   ·cases hg:es.toList[i]? with
    |none=>rw[hg]at hi;cases hi
    |some y=>rw[hg]at hi;cases hi;exact⟨a,rfl⟩
   ·cases hg:es.toList[i]? with
    |none=>rw[hg]at hi;cases hi
    |some y=>rw[hg]at hi;cases hi;exact h3 y (awR hg)
  ·have FH:=h2.2.2
   have aaT:∀i y,es.toList[i]? =some y→y.key=mk a→i=j:=by
    intro i y hi hy;have mL:i<es.toList.length:=(List.getElem?_eq_some_iff.1 hi).1;by_cases qi:i=j
    ·exact qi
    ·exfalso
     have q1:(es.toList.map (·.key))[i]? =some (mk a):=by rw[awK,hi];simp[hy]
     have q2:(es.toList.map (·.key))[j]? =some (mk a):=by rw[awK,f2];simp[f3]
     exact qi ((List.getElem?_inj (by simpa using mL) FH).1 (q1.trans q2.symm))
   have kG:∀y:MapEntry,y∈(es.modify j fun e'=>{e' with key:=mk a,val:=v}).toList↔y={e0 with key:=mk a,val:=v}∨∃i,i≠j∧es.toList[i]? =some y:=by
    intro y;rw[Array.toList_modify,List.mem_iff_getElem?];constructor
    ·rintro⟨i,hi⟩
     rw[List.getElem?_modify]at hi;by_cases qi:j=i
     ·subst qi
      simp only[aw0,f2,Functor.map,axc,awe]at hi;exact axa hi.symm
     ·simp only[av9 qi]at hi
      have hi:es.toList[i]? =some y:=by simpa using hi
      exact axb ⟨i,fun e=>qi e.symm,hi⟩
    ·rintro(rfl|⟨i,qi,hi⟩)
     ·exact⟨j,by rw[List.getElem?_modify,f2];simp⟩
     ·exact⟨i,by rw[List.getElem?_modify];simp only[av9 (Ne.symm qi)];simpa using hi⟩
   intro a' v';by_cases ha:a'=a
   ·subst ha
    simp only[aw0,awe];constructor
    ·rintro rfl;exact⟨_,(kG _).2 (axa rfl),rfl,rfl⟩
    ·rintro⟨x,hx,mO,uX⟩
     rcases(kG x).1 hx with rfl|⟨i,qi,hi⟩
     ·exact uX
     ·exact aww (aaT i x hi mO) qi
   ·simp only[av9 ha]
    rw[h4];constructor
    ·rintro⟨x,hx,mO,uX⟩
     obtain⟨i,hi⟩:=List.mem_iff_getElem?.1 hx;refine⟨x,(kG x).2 (axb ⟨i,fun qi=>?_,hi⟩),mO,uX⟩;subst qi;rw[f2]at hi;cases hi;exact ha (Uz _ _ (mO.symm.trans f3))
    ·rintro⟨x,hx,mO,uX⟩
     rcases(kG x).1 hx with rfl|⟨i,qi,hi⟩
     ·exact aww (Uz _ _ mO).symm ha
     ·exact⟨x,awR hi,mO,uX⟩
end
end
section
section
variable{P:Program}{τ ρ:Env}{h:ar}{K:Value→ar→Prop}{ty:TypeId}
theorem Rb{g:FuncId}{fn:Func}{e:Array Value→Sem Value}{args:List Operand}{eU:Array TypeId}{vs:List Value}{v:Value}
 (hv:qv τ ρ args=some vs)(hf:P.funcs[g]? =some fn)(ams:(fn.name== "runtime.NumGoroutine")=false)(hb:fn.body.isNone=true)(hn:Extern.findNext fn=none)(he:Extern.find fn=some e)
 (my:∀w:World,(e vs.toArray).run P w= .ok v w)(H:K v h):li P (.call {callee:= .value (.func g),args:=args.toArray,argTypes:=eU}) ty τ ρ h K:=by
 obtain⟨k1,k2⟩:=yu args vs hv;refine⟨?_,?_⟩
 ·intro x hx
  simp only[Op.operands,Call.operands]at hx;rcases Array.mem_append.1 hx with hx|hx
  ·simp at hx;subst hx;rfl
  ·exact k1 x (by simpa using hx)
 ·simp only[execOp,ep.oper,resolve]
  have he2:js τ ρ (.func g)= .func (.func g) #[] #[]:=rfl;rw[he2];intro w hw;refine⟨.value v,w,?_,⟨rfl,rfl,rfl⟩,by rw[hw];exact H⟩;have hc:=run_callFunc_extern (P:=P) hf ams hb hn he vs.toArray w;rw[my w]at hc;rw[Sem.run_bind]
  show Result.andThen ((Sem.pure _:Sem _).run P w) _=_
  simp only[Result.andThen,invoke]
  show(callFunc g ((#[]++args.toArray.map (js τ ρ))++#[])).run P w=_
  rw[axe,k2];simpa using hc
theorem FJ{t:TypeId}{x:Operand}{l:az}(hu:P.underlying t=some .string)(hx:dC τ ρ x=some (str l))
 (H:K (.pointer (some ⟨h.size,0,none⟩)) (h.push (.stringIter ⟨l.toArray⟩ 0))):li P (.range t x) ty τ ρ h K:=by
 refine VH (by rfl) hx fun f hf=>?_;simp only[execOp,ep.oper,hf];refine Lu (uj ?_)
 show hr P (Instr.range t (.string ⟨l.toArray⟩)) h K
 unfold Instr.range;rw[uk];refine Nq _ _ _ _ (aY hu) ?_;exact H
theorem XL{r pos:Nat}{s:ByteArray}{K:Obj→ar→Prop}(MB:h[r]? =some (.stringIter s pos))(H:K (.stringIter s pos) h):hr P (getObj r) h K:=by
 unfold getObj;simp only[hr];rw[MB];exact H
theorem XM{r pos:Nat}{s:ByteArray}{o:Obj}{K:Unit→ar→Prop}(MB:h[r]? =some (.stringIter s pos))(H:K () (h.setIfInBounds r o)):hr P (setObj r o) h K:=by
 unfold setObj;simp only[hr];rw[MB];exact H
def FK(l:az)(i:Nat):Nat × Nat:=Utf8.decode ⟨l.toArray⟩ i
theorem Jr{x:Operand}{r pos:Nat}{l:az}(hx:dC τ ρ x=some (.pointer (some ⟨r,0,none⟩)))(MB:h[r]? =some (.stringIter ⟨l.toArray⟩ pos))
 (H1:pos<l.length→K (.tuple #[.bool true, .int .i64 (pos:Int), .int .i32 ((FK l pos).1:Int)]) (h.setIfInBounds r (.stringIter ⟨l.toArray⟩ (pos+(FK l pos).2))))
 (H0:¬pos<l.length→K (.tuple #[.bool false]) h):li P (.next x true) ty τ ρ h K:=by
 refine VH (by rfl) hx fun f hf=>?_;simp only[execOp,ep.oper,hf];refine Lu (uj ?_);unfold Instr.next;simp only[uk];refine XL MB ?_;have gB:(ByteArray.mk l.toArray).size=l.length:=by simp[ByteArray.size]
 by_cases hp:pos<l.length
 ·simp only[gB,awa hp,uk]
  refine XM MB ?_;exact H1 hp
 ·simp only[gB,av9 hp]
  exact H0 hp
theorem Ext.iter{h hc:ar}(H:Ext h hc){it:Nat}{o:Obj}(hi:h.size≤it):Ext h (hc.setIfInBounds it o):=
 ⟨by rw[Array.size_setIfInBounds];exact H.size,fun k hk hn=>by
  rw[Array.getElem?_setIfInBounds,av9 (by omega)];exact H.same k hk hn⟩
theorem NT{hc:ar}{it:Nat}{o o':Obj}(hb:hc[it]? =some o'):(hc.setIfInBounds it o)[it]? =some o:=by
 have:=(awd.1 hb).1;simp[this]
def UA(n:Int):az:=(Utf8.encode n).data.toList
theorem agr{s d:TypeId}{k k':IntKind}{n:Int}(hs:P.underlying s=some (.int k))(hd:P.underlying d=some .string):oS P s d (.int k' n) h=some (str (UA n)):=by
 unfold oS convert;rw[aM,aY hs,awc,aM,aY hd,awc];rfl
def ale(P:Program)(t:TypeId)(len size:Nat):Bool:=match P.underlying t with
 |some (.array n e)=>n==len&&(match P.info? e with
  |some i=>i.size==size
  |none=>false)
 |_=>false
theorem VO{t:TypeId}{len size b o:Nat}{k:IntKind}{i:Int}(ht:ale P t len size=true)(h0:0≤i)(h1:i<len):
 TB P t (.pointer (some ⟨b,o,none⟩)) (.int k i) h=some (.pointer (some ⟨b,o+i.toNat*size,none⟩)):=by
 unfold ale at ht;cases hu:P.underlying t with
 |none=>rw[hu]at ht;cases ht
 |some d=>
  rw[hu]at ht;cases d<;>simp only[awj]at ht
  rename_i n e;rw[awm]at ht;obtain⟨h2,ht⟩:=ht;have h2:n=len:=by simpa using h2
  subst h2;cases hi:P.info? e with
  |none=>rw[hi]at ht;cases ht
  |some inf=>
   rw[hi]at ht;have hs:inf.size=size:=by simpa using ht
   unfold TB Instr.indexAt;simp only[asIntOf,Instr.sureAddr,aM,aZ,awc,aY hu,awa (awv h0 h1),jP hi,hs,addr_add]
end
end
theorem aj0{c:Prop}{x y:Unit→Prop}(h:c):br c x y=x ():=propext ⟨fun H=>H.1 h,fun H=>⟨fun _=>H,fun n=>aww h n⟩⟩
theorem amt{c:Prop}{x y:Unit→Prop}(h:¬c):br c x y=y ():=propext ⟨fun H=>H.2 h,fun H=>⟨fun n=>aww n h,fun _=>H⟩⟩
theorem ags{c:Prop} [Decidable c](h:c):decide c=true:=awh h
theorem aj1{c:Prop} [Decidable c](h:¬c):decide c=false:=awg h
set_option linter.defProp false in
def va:=awv @aj0 (awv @amt (awv @ags @aj1))
end Go.Vc
