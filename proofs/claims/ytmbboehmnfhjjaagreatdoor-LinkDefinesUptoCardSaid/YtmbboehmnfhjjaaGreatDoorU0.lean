/- A predicate transformer over heaps for the code of a function: small environments, no tape, no draws; sound for the model's Calls. No condition. Stripping the model's code, the transformer over stripped code, and that it is sound for Calls. No condition. Regions that draw their order: one canonical order serves every order. No condition. The canonical order of a region that draws, and that it serves every order. No condition. Regions that draw: the canonical order serves every order; the whole code; calls. No condition. Every order of a region that draws; the whole code; calls. No condition. Regions whose writers may come up in more than one order: a tree of orders serves every order. No condition. The whole code of a function; calls over heaps out of the transformer. No condition. -/
import Derived.Tactics
import Derived.Orders
import Derived.KernelRfl
import Derived.Laws.Sem
import Derived.Scope
set_option linter.unusedSimpArgs false
set_option linter.unusedVariables false
set_option linter.defProp false
namespace Go.Vc
abbrev ar:=Array Obj
def cellAt(h:ar)(a:Addr):Option Value:=
 match h[a.block]? with
 |some (.cells c _ _)=>if a.spot.isSome then none else c[a.off]?
 |_=>none
def QI(h:ar)(r:Nat):Option (TypeId × Nat):=
 match h[r]? with
 |some (.cells c e _)=>some (e,c.size)
 |_=>none
def frozenAt(h:ar)(a:Addr):Bool:=
 match h[a.block]? with
 |some (.cells _ _ (lo,hi))=>lo≤a.off&&a.off<hi
 |_=>false
def setAt(h:ar)(a:Addr)(v:Value):ar:=
 h.modify a.block fun
  | .cells c e f=> .cells (if a.spot.isSome then c else c.setIfInBounds a.off v) e f
  |o=>o
def Np(h:ar)(a:Addr)(n:Nat):ar:=
 if n=0 then h else
 h.modify a.block fun
  | .cells c e (lo,hi)=> .cells c e (if lo==hi then(a.off,a.off+n)else(min lo a.off,max hi (a.off+n)))
  |o=>o
def oneCell:Value→Bool
 | .agg _=>false
 | .tuple _=>false
 |_=>true
def hr(P:Program){α:Type}:Sem α→ar→(α→ar→Prop)→Prop
 | .pure a,h,K=>K a h
 | .load _ a k,h,K=>match cellAt h a with
  |some v=>hr P (k v) h K
  |none=>False
 | .store _ a v k,h,K=>oneCell v=true∧(cellAt h a).isSome=true∧frozenAt h a=false∧hr P k (setAt h a v) K
 | .new o k,h,K=>hr P (k h.size) (h.push o) K
 | .shape r k,h,K=>hr P (k (QI h r)) h K
 | .freeze a n k,h,K=>hr P k (Np h a n) K
 | .frozen a k,h,K=>hr P (k (frozenAt h a)) h K
 | .getObj r k,h,K=>match h[r]? with
  |some (.cells ..)=>False
  |some o=>hr P (k o) h K
  |none=>False
 | .setObj r o k,h,K=>match h[r]? with
  |some (.cells ..)=>False
  |some _=>hr P k (h.setIfInBounds r o) K
  |none=>False
 | .choose q k,h,K=>∀t,hr P (k (if q.forced then 0 else q.cut t)) h K
 | .sys _ _,_,_=>False
 | .program k,h,K=>hr P (k P) h K
 | .mark _ k,h,K=>hr P k h K
 | .halt _,_,_=>False
def rd(P:Program){α:Type}:Sem α→ar→Option α
 | .pure a,_=>some a
 | .load _ a k,h=>match cellAt h a with
  |some v=>rd P (k v) h
  |none=>none
 | .shape r k,h=>rd P (k (QI h r)) h
 | .frozen a k,h=>rd P (k (frozenAt h a)) h
 | .getObj r k,h=>match h[r]? with
  |some (.cells ..)=>none
  |some o=>rd P (k o) h
  |none=>none
 | .choose q k,h=>if q.forced then rd P (k 0) h else none
 | .program k,h=>rd P (k P) h
 | .mark _ k,h=>rd P k h
 |_,_=>none
structure Same(w w':World):Prop where
 os:w'.os=w.os
 tape:w'.tape=w.tape
 output:w'.output=w.output
theorem Same.refl(w:World):Same w w:=⟨rfl,rfl,rfl⟩
theorem Same.trans{a b c:World}(h:Same a b)(k:Same b c):Same a c:=⟨k.os.trans h.os,k.tape.trans h.tape,k.output.trans h.output⟩
theorem ai2{P:Program}{α:Type}(s:Sem α):∀(w:World)(K:α→ar→Prop),hr P s w.heap K→
 ∃v w',s.run P w= .ok v w'∧Same w w'∧K v w'.heap:=by
 induction s with
 |pure a=>intro w K h;exact⟨a,w,rfl, .refl w,h⟩
 |load m a k ih=>
  intro w K h;simp only[hr]at h;have hc:w.cell? a=cellAt w.heap a:=rfl;cases hv:cellAt w.heap a with
  |none=>rw[hv]at h;exact h.elim
  |some v=>
   rw[hv]at h;obtain⟨u,w',h1,h2,h3⟩:=ih v w K h;exact⟨u,w',by simp only[Sem.run,hc,hv];exact h1,h2,h3⟩
 |store m a v k ih=>
  intro w K h;obtain⟨h1,h2,h3,h4⟩:=h;have hc:w.cell? a=cellAt w.heap a:=rfl;have hf:w.frozen? a=frozenAt w.heap a:=rfl;obtain⟨u,hu⟩:=Option.isSome_iff_exists.1 h2;obtain⟨x,w',r1,r2,r3⟩:=ih (w.setCell a v) K h4;refine⟨x,w',?_,⟨r2.os,r2.tape,r2.output⟩,r3⟩;cases v<;>simp[oneCell]at h1<;>simp only[Sem.run,hc,hu,hf,h3,Bool.false_eq_true,if_false]<;>exact r1
 |new o k ih=>
  intro w K h;obtain⟨x,w',r1,r2,r3⟩:=ih w.heap.size {w with heap:=w.heap.push o} K h;exact⟨x,w',r1,⟨r2.os,r2.tape,r2.output⟩,r3⟩
 |shape r k ih=>
  intro w K h;obtain⟨x,w',r1,r2,r3⟩:=ih (QI w.heap r) w K h;exact⟨x,w',r1,r2,r3⟩
 |freeze a n k ih=>
  intro w K h;have hz:(w.freeze a n).heap=Np w.heap a n:=by
   unfold World.freeze Np;split<;>rfl
  have hs:Same w (w.freeze a n):=by unfold World.freeze;split<;>exact⟨rfl,rfl,rfl⟩
  obtain⟨x,w',r1,r2,r3⟩:=ih (w.freeze a n) K (by rw[hz];exact h);exact⟨x,w',r1,hs.trans r2,r3⟩
 |frozen a k ih=>
  intro w K h;obtain⟨x,w',r1,r2,r3⟩:=ih (frozenAt w.heap a) w K h;exact⟨x,w',r1,r2,r3⟩
 |getObj r k ih=>
  intro w K h;simp only[hr]at h;simp only[Sem.run];cases ho:w.heap[r]? with
  |none=>simp[ho]at h
  |some o=>
   simp only[ho]at h;cases o<;>first|exact h.elim|exact ih _ w K h
 |setObj r o k ih=>
  intro w K h;simp only[hr]at h;simp only[Sem.run];cases ho:w.heap[r]? with
  |none=>simp[ho]at h
  |some o'=>
   simp only[ho]at h;cases o'<;>first|exact h.elim|(obtain⟨x,w',r1,r2,r3⟩:=ih {w with heap:=w.heap.setIfInBounds r o} K h;exact⟨x,w',r1,⟨r2.os,r2.tape,r2.output⟩,r3⟩)
 |choose q k ih=>
  intro w K h;simp only[hr]at h;simp only[Sem.run];by_cases hq:q.forced=true
  ·rw[if_pos hq]
   have:=h 0;rw[if_pos hq]at this;exact ih 0 w K this
  ·rw[if_neg hq]
   have:=h (w.tape w.drawn q);rw[if_neg hq]at this;obtain⟨x,w',r1,r2,r3⟩:=ih _ {w with drawn:=w.drawn+1} K this;exact⟨x,w',r1,⟨r2.os,r2.tape,r2.output⟩,r3⟩
 |sys c k ih=>intro w K h;exact h.elim
 |program k ih=>
  intro w K h;obtain⟨x,w',r1,r2,r3⟩:=ih P w K h;exact⟨x,w',r1,r2,r3⟩
 |mark m k ih=>
  intro w K h;obtain⟨x,w',r1,r2,r3⟩:=ih w K h;exact⟨x,w',r1,r2,r3⟩
 |halt x=>intro w K h;exact h.elim
def sr(P:Program){α:Type}(s:Sem α)(h:ar)(K:α→ar→Prop):Prop:=∀w:World,w.heap=h→∃v w',s.run P w= .ok v w'∧Same w w'∧K v w'.heap
theorem uj{P:Program}{α:Type}{s:Sem α}{h:ar}{K:α→ar→Prop}(H:hr P s h K):sr P s h K:=fun w hw=>ai2 s w K (by rw[hw];exact H)
theorem ae1{P:Program}{α β:Type}(s:Sem α)(f:α→Sem β):∀(h:ar)(K:β→ar→Prop),
 hr P (s.bind f) h K=hr P s h (fun v h'=>hr P (f v) h' K):=by
 induction s with
 |pure a=>intro h K;rfl
 |load m a k ih=>intro h K;simp only[Sem.bind,hr];split<;>simp_all
 |store m a v k ih=>intro h K;simp only[Sem.bind,hr,ih]
 |new o k ih=>intro h K;simp only[Sem.bind,hr,ih]
 |shape r k ih=>intro h K;simp only[Sem.bind,hr,ih]
 |freeze a n k ih=>intro h K;simp only[Sem.bind,hr,ih]
 |frozen a k ih=>intro h K;simp only[Sem.bind,hr,ih]
 |getObj r k ih=>intro h K;simp only[Sem.bind,hr];split<;>simp_all
 |setObj r o k ih=>intro h K;simp only[Sem.bind,hr];split<;>simp_all
 |choose q k ih=>intro h K;simp only[Sem.bind,hr,ih]
 |sys c k ih=>intro h K;rfl
 |program k ih=>intro h K;simp only[Sem.bind,hr,ih]
 |mark m k ih=>intro h K;simp only[Sem.bind,hr,ih]
 |halt x=>intro h K;rfl
theorem uk{P:Program}{α β:Type}(s:Sem α)(f:α→Sem β)(h:ar)(K:β→ar→Prop):
 hr P (s>>=f) h K=hr P s h (fun v h'=>hr P (f v) h' K):=ae1 s f h K
theorem Nq{P:Program}{α:Type}(s:Sem α):∀(h:ar)(v:α)(K:α→ar→Prop),rd P s h=some v→K v h→hr P s h K:=by
 induction s with
 |pure a=>intro h v K H k;cases H;exact k
 |load m a k ih=>
  intro h v K H kk;simp only[rd]at H;simp only[hr];cases hc:cellAt h a with
  |none=>simp[hc]at H
  |some u=>simp only[hc]at H;exact ih _ _ _ _ H kk
 |store m a v k ih=>intro h u K H kk;simp[rd]at H
 |new o k ih=>intro h u K H kk;simp[rd]at H
 |shape r k ih=>intro h u K H kk;exact ih _ _ _ _ H kk
 |freeze a n k ih=>intro h u K H kk;simp[rd]at H
 |frozen a k ih=>intro h u K H kk;exact ih _ _ _ _ H kk
 |getObj r k ih=>
  intro h u K H kk;simp only[rd]at H;simp only[hr];cases ho:h[r]? with
  |none=>simp[ho]at H
  |some o=>simp only[ho]at H;cases o<;>first|(simp at H;done)|exact ih _ _ _ _ H kk
 |setObj r o k ih=>intro h u K H kk;simp[rd]at H
 |choose q k ih=>
  intro h u K H kk;simp only[rd]at H;simp only[hr];intro t;by_cases hq:q.forced=true
  ·rw[if_pos hq]at H⊢;exact ih _ _ _ _ H kk
  ·rw[if_neg hq]at H;cases H
 |sys c k ih=>intro h u K H kk;simp[rd]at H
 |program k ih=>intro h u K H kk;exact ih _ _ _ _ H kk
 |mark m k ih=>intro h u K H kk;exact ih _ _ _ H kk
 |halt x=>intro h u K H kk;simp[rd]at H
theorem Xk{P:Program}{α β:Type}(s:Sem α)(f:α→Sem β):∀(h:ar),rd P (s.bind f) h=(rd P s h).bind fun v=>rd P (f v) h:=by
 induction s with
 |pure a=>intro h;rfl
 |load m a k ih=>intro h;simp only[Sem.bind,rd];split<;>simp_all
 |store m a v k ih=>intro h;rfl
 |new o k ih=>intro h;rfl
 |shape r k ih=>intro h;simp only[Sem.bind,rd,ih]
 |freeze a n k ih=>intro h;rfl
 |frozen a k ih=>intro h;simp only[Sem.bind,rd,ih]
 |getObj r k ih=>intro h;simp only[Sem.bind,rd];split<;>simp_all
 |setObj r o k ih=>intro h;rfl
 |choose q k ih=>intro h;simp only[Sem.bind,rd];split<;>simp_all
 |sys c k ih=>intro h;rfl
 |program k ih=>intro h;simp only[Sem.bind,rd,ih]
 |mark m k ih=>intro h;simp only[Sem.bind,rd,ih]
 |halt x=>intro h;rfl
theorem aM{P:Program}{α β:Type}(s:Sem α)(f:α→Sem β)(h:ar):rd P (s>>=f) h=(rd P s h).bind fun v=>rd P (f v) h:=Xk s f h
theorem aZ{P:Program}{α:Type}(a:α)(h:ar):rd P (pure a:Sem α) h=some a:=rfl
def aF(P:Program)(f:FuncId)(args:Array Value)(h:ar)(R:Value→ar→Prop):Prop:=
 ∀w:World,w.heap=h→Calls P f args w fun e w'=>∃v,e= .returned v∧Same w w'∧R v w'.heap
theorem aF.mono{P:Program}{f:FuncId}{args:Array Value}{h:ar}{R R':Value→ar→Prop}(H:aF P f args h R)
 (m:∀v h',R v h'→R' v h'):aF P f args h R':=
 fun w hw=>(H w hw).mono fun _ _⟨v,h1,h2,h3⟩=>⟨v,h1,h2,m _ _ h3⟩
abbrev Env:=List (Nat × Value)
def Env.get:Env→Nat→Option Value
 |[],_=>none
 |(k,v)::r,t=>if k=t then some v else Env.get r t
def Env.set:Env→Nat→Value→Env
 |[],t,v=>[(t,v)]
 |(k,u)::r,t,v=>if k=t then(k,v)::r else(k,u)::Env.set r t v
def Env.keep:List Nat→Env→Env
 |[],_=>[]
 |k::ks,ρ=>match Env.get ρ k with
  |some v=>(k,v)::Env.keep ks ρ
  |none=>Env.keep ks ρ
theorem Env.Xl(ρ:Env)(t:Nat)(v:Value)(u:Nat):(Env.set ρ t v).get u=if t=u then some v else ρ.get u:=by
 induction ρ with
 |nil=>simp[Env.set,Env.get]
 |cons p r ih=>
  obtain⟨k,x⟩:=p;simp only[Env.set];by_cases hk:k=t
  ·subst hk;simp only[if_true,Env.get];split<;>rfl
  ·simp only[hk,if_false,Env.get,ih]
   by_cases hu:k=u
   ·subst hu;simp[Ne.symm hk]
   ·simp[hu]
theorem Env.Up(ks:List Nat)(ρ:Env)(t:Nat)(v:Value)(h:(Env.keep ks ρ).get t=some v):ρ.get t=some v:=by
 induction ks with
 |nil=>simp[Env.keep,Env.get]at h
 |cons k ks ih=>
  simp only[Env.keep]at h;cases hk:Env.get ρ k with
  |none=>rw[hk]at h;exact ih h
  |some u=>
   rw[hk]at h;simp only[Env.get]at h
   split at h
   ·rename_i he;subst he;rw[hk];exact h
   ·exact ih h
def lk(τ ρ:Env)(t:Nat):Option Value:=
 match τ.get t with
 |some v=>some v
 |none=>ρ.get t
def dC(τ ρ:Env):Operand→Option Value
 | .tmp t=>lk τ ρ t
 | .const v=>some v
 | .global g=>some (.pointer (some ⟨g,0,none⟩))
 | .func f=>some (.func (.func f) #[] #[])
def js(τ ρ:Env)(x:Operand):Value:=(dC τ ρ x).getD undef
structure ep where
 dst:Option (Nat × Bool)
 op:Op
 type:TypeId
 guard:Option (Nat × Bool)
 q:Bool
def ep.oper(o:ep):Oper:={dst:=none,op:=o.op,type:=o.type,pos:= "",after:=#[],guard:=none}
inductive Dt where
 |done
 |run (o:ep) (re:List ep) (next:Dt)
 |both (a b:Dt)
inductive Cd where
 |skip
 |region (ops:List ep)
 |tree (t:Dt)
 |seq (a b:Cd)
 |cond (c:Operand) (a b:Cd)
 |block (id:Nat) (a:Cd)
 |loop (a:Cd)
 |exit (id:Nat)
 |ret
def jq(d:Option (Nat × Bool))(v:Value)(τ:Env):Env:=
 match d with
 |some (t,false)=>(t,v)::τ
 |_=>τ
def jr(d:Option (Nat × Bool))(v:Value)(ρ:Env):Env:=
 match d with
 |some (t,true)=>ρ.set t v
 |_=>ρ
def qg:Value→Option Bool
 | .bool b=>some b
 |_=>none
def known(τ ρ:Env)(op:Op):Prop:=∀x∈op.operands,(dC τ ρ x).isSome=true
instance(τ ρ:Env)(op:Op):Decidable (known τ ρ op):=by unfold known;infer_instance
def Ac(P:Program)(K:Value→ar→Prop):Next→ar→Prop
 | .value v,h=>K v h
 | .skip,h=>K undef h
 | .enter f args,h=>aF P f args h K
 |_,_=>False
def valOf:Option Next→Option Value
 |some (.value v)=>some v
 |_=>none
def ri(P:Program)(o:ep)(τ ρ:Env)(h:ar):Option Value:=
 if known τ ρ o.op then valOf (rd P (execOp (js τ ρ) o.oper) h)else none
def Uq(P:Program)(o:ep)(τ ρ:Env)(h:ar)(K:Value→ar→Prop):Prop:=
 known τ ρ o.op∧sr P (execOp (js τ ρ) o.oper) h (fun nx h'=>Ac P K nx h')
def qn(P:Program)(o:ep)(τ ρ:Env)(h:ar)(N:Env→Env→ar→Prop):Prop:=
 if o.q then
  match ri P o τ ρ h with
  |some v=>N (jq o.dst v τ) (jr o.dst v ρ) h
  |none=>False
 else Uq P o τ ρ h (fun v h'=>N (jq o.dst v τ) (jr o.dst v ρ) h')
def kK(P:Program)(o:ep)(τ ρ:Env)(h:ar)(N:Env→Env→ar→Prop):Prop:=
 match o.guard with
 |none=>qn P o τ ρ h N
 |some (g,want)=>
  match lk τ ρ g with
  |some v=>if qg v=some want then qn P o τ ρ h N else N (jq o.dst undef τ) (jr o.dst undef ρ) h
  |none=>False
def kL(P:Program)(K:Env→ar→Prop):List ep→Env→Env→ar→Prop
 |[],_,ρ,h=>K ρ h
 |o::r,τ,ρ,h=>kK P o τ ρ h (kL P K r)
inductive Ex where
 |normal
 |exit (id:Nat)
 |ret
def Ex.thn(next:Env→ar→Prop)(Q:Ex→Env→ar→Prop):Ex→Env→ar→Prop
 | .normal,ρ,h=>next ρ h
 |e,ρ,h=>Q e ρ h
def Ex.Xm(id:Nat)(Q:Ex→Env→ar→Prop):Ex→Env→ar→Prop
 | .exit Z3,ρ,h=>if Z3=id then Q .normal ρ h else Q (.exit Z3) ρ h
 |e,ρ,h=>Q e ρ h
def av7:=@eq_false
def av8:=@eq_true
def av9:=@if_neg
def awa:=@if_pos
def awb:=@Nat.zero_le
def awc:=@Option.bind_some
def awd:=@Array.getElem?_eq_some_iff
def awe:=@Option.some.injEq
def awf:=@List.mem_singleton
def awg:=@decide_eq_false
def awh:=@decide_eq_true
def awi:=@List.mem_append
def awj:=@Bool.false_eq_true
def awk:=@List.length_map
def awl:=@List.getElem?_toArray
def awm:=@Bool.and_eq_true
def awn:=@List.length_append
def awo:=@decide_eq_true_eq
def awp:=@Nat.le_refl
def awq:=@Nat.not_lt_zero
def awr:=@List.length_pos_iff
def aws:=@List.length_drop
def awt:=@List.length_singleton
def awu:=@List.getD_eq_getElem?_getD
def awv:=@And.intro
def aww:=@absurd
def awx:=@_root_.id
def awy:=@List.length_cons
def awz:=@List.length_take
def awA:=@List.getElem?_cons_zero
def awB:=@List.getElem?_cons_succ
def awC:=@List.cons_append
def awD:=@List.nil_append
def awE:=@Obj.cells.injEq
def awF:=@Nat.lt_of_lt_of_le
def awG:=@Nat.le_trans
def awH:=@List.map_cons
def awI:=@List.map_nil
def awJ:=@List.getElem?_eq_getElem
def awK:=@List.getElem?_map
def awL:=@List.mem_cons
def awM:=@List.length_nil
def awN:=@List.drop_drop
def awO:=@List.drop_eq_getElem_cons
def awP:=@List.not_mem_nil
def awQ:=@List.append_assoc
def awR:=@List.mem_of_getElem?
def awS:=@List.getElem?_append_left
def awT:=@List.getElem?_append_right
def awU:=@List.size_toArray
def awV:=@List.drop_of_length_le
def awW:=@of_decide_eq_true
def awX:=@Bool.or_eq_true
def awY:=@decide_true
def awZ:=@decide_false
def aw0:=@if_true
def aw1:=@if_false
def aw2:=@Nat.zero_add
def aw3:=@Nat.add_zero
def aw4:=@and_true
def aw5:=@true_and
def aw6:=@or_false
def aw7:=@false_or
def aw8:=@Prod.mk.injEq
def aw9:=@List.cons.injEq
def axa:=@Or.inl
def axb:=@Or.inr
def axc:=@Option.map_some
def axd:=@List.drop_zero
def axe:=@List.map_toArray
def axf:=@congrArg
section
def still(P:Program)(x:ep)(τ ρ:Env)(h:ar):Prop:=
 match x.dst with
 |none=>False
 |some (t,_)=>match x.guard with
  |none=>ri P x τ ρ h=lk τ ρ t∧(lk τ ρ t).isSome=true
  |some (g,want)=>match lk τ ρ g with
   |some v=>qg v=some want→ri P x τ ρ h=lk τ ρ t∧(lk τ ρ t).isSome=true
   |none=>False
def lf(P:Program):List ep→Env→Env→ar→Prop
 |[],_,_,_=>True
 |x::r,τ,ρ,h=>still P x τ ρ h∧lf P r τ ρ h
def pA(P:Program)(K:Env→ar→Prop):Dt→Env→Env→ar→Prop
 | .done,_,ρ,h=>K ρ h
 | .run o re n,τ,ρ,h=>kK P o τ ρ h (fun Vx sV h'=>lf P re Vx sV h'∧pA P K n Vx sV h')
 | .both a b,τ,ρ,h=>pA P K a τ ρ h∧pA P K b τ ρ h
def Cd.vc(P:Program):Cd→(Ex→Env→ar→Prop)→Env→ar→Prop
 | .skip,Q,ρ,h=>Q .normal ρ h
 | .region ops,Q,ρ,h=>kL P (Q .normal) ops [] ρ h
 | .tree t,Q,ρ,h=>pA P (Q .normal) t [] ρ h
 | .seq a b,Q,ρ,h=>a.vc P (Ex.thn (b.vc P Q) Q) ρ h
 | .cond c a b,Q,ρ,h=>match(dC [] ρ c).bind qg with
  |some t=>if t=true then a.vc P Q ρ h else b.vc P Q ρ h
  |none=>False
 | .block id a,Q,ρ,h=>a.vc P (Ex.Xm id Q) ρ h
 | .loop a,Q,ρ,h=>∃(ks:List Nat)(I:Nat→Env→ar→Prop),(∃m,I m (ρ.keep ks) h)∧
  ∀m ρ h,I m ρ h→a.vc P (Ex.thn (fun sV h'=>∃m',m'<m∧I m' (sV.keep ks) h') Q) ρ h
 | .exit id,Q,ρ,h=>Q (.exit id) ρ h
 | .ret,Q,ρ,h=>Q .ret ρ h
def qo:Op→Bool
 | .select .. =>false
 |_=>true
def isF(P:Program)(t:TypeId):Bool:=match P.underlying t with
 |some (.float _)=>true
 |_=>false
def yn(P:Program):Op→Bool
 | .move _| .assign _| .pick .. | .load .. | .nilCheck _| .unOp .. | .slice .. | .fieldAddr .. | .field .. | .indexAddr .. | .index .. | .lookup .. | .extract .. | .build .. | .makeInterface .. | .makeFunc .. =>true
 | .binOp o t _ _ _=>match o with
  | .add| .sub| .mul| .quo=> !isF P t
  |_=>true
 | .convert src dst _=>match P.underlying src,P.underlying dst with
  |some .string,some (.slice _)=>false
  |some (.slice _),some (.slice _)=>false
  |some (.float _),some (.float _)=>false
  |_,_=>true
 | .call {callee:= .builtin .len, ..}=>true
 | .call {callee:= .builtin .cap, ..}=>true
 | .call {callee:= .builtin .min, ..}=>true
 | .call {callee:= .builtin .max, ..}=>true
 |_=>false
def oP(P:Program)(L:List Nat)(n:Nat)(ops:List Oper)(o:Oper):Option ep:=
 if qo o.op then
  match(match o.dst with
   |none=>some none
   |some t=>if t<n then some (some (t,L.contains t))else none),
   (match o.guard with
   |none=>some none
   |some (j,want)=>match(ops[j]?).bind (·.dst)with
    |some g=>some (some (g,want))
    |none=>none)with
  |some d,some g=>some {dst:=d,op:=o.op,type:=o.type,guard:=g,q:=yn P o.op}
  |_,_=>none
 else none
def kV(P:Program)(L:List Nat)(n:Nat)(ops:List Oper):List Oper→Option (List ep)
 |[]=>some []
 |o::r=>match oP P L n ops o,kV P L n ops r with
  |some s,some t=>some (s::t)
  |_,_=>none
structure Ag(L:List Nat)(n:Nat)(a:Act)(τ ρ:Env):Prop where
 nod:a.defers=[]
 sz:a.tmps.size=n
 t1:∀t v,τ.get t=some v→a.tmps[t]? =some v
 r1:∀t v,ρ.get t=some v→a.tmps[t]? =some v
 tL:∀t v,τ.get t=some v→L.contains t=false
 rL:∀t v,ρ.get t=some v→L.contains t=true
section
variable{L:List Nat}{n:Nat}{a:Act}{τ ρ:Env}
theorem Ag.lk(H:Ag L n a τ ρ){t:Nat}{v:Value}(h:lk τ ρ t=some v):a.tmps[t]? =some v:=by
 unfold Go.Vc.lk at h;cases ht:τ.get t with
 |some u=>rw[ht]at h;exact H.t1 t v (ht.trans h)
 |none=>rw[ht]at h;exact H.r1 t v h
theorem Ag.dC(H:Ag L n a τ ρ){x:Operand}{v:Value}(h:dC τ ρ x=some v):a.eval x=v:=by
 cases x with
 |tmp t=>simp[Act.eval,H.lk h]
 |const u=>simp only[Go.Vc.dC,Option.some.injEq]at h;subst h;rfl
 |global g=>simp only[Go.Vc.dC,Option.some.injEq]at h;subst h;rfl
 |func f=>simp only[Go.Vc.dC,Option.some.injEq]at h;subst h;rfl
theorem Ag.js(H:Ag L n a τ ρ){x:Operand}(h:(Go.Vc.dC τ ρ x).isSome=true):a.eval x=js τ ρ x:=by
 obtain⟨v,hv⟩:=Option.isSome_iff_exists.1 h;rw[H.dC hv];simp[Go.Vc.js,hv]
theorem Ag.drop(H:Ag L n a τ ρ):Ag L n a [] ρ:=⟨H.nod,H.sz,fun t v h=>by simp[Env.get]at h,H.r1,fun t v h=>by simp[Env.get]at h,H.rL⟩
theorem Ag.keep(H:Ag L n a τ ρ)(ks:List Nat):Ag L n a [] (ρ.keep ks):=
 ⟨H.nod,H.sz,fun t v h=>by simp[Env.get]at h,fun t v h=>H.r1 t v (Env.Up ks ρ t v h),fun t v h=>by simp[Env.get]at h,fun t v h=>H.rL t v (Env.Up ks ρ t v h)⟩
theorem Ag.put(H:Ag L n a τ ρ){t:Nat}(ht:t<n)(v:Value):Ag L n (a.put (some t) v) (jq (some (t,L.contains t)) v τ) (jr (some (t,L.contains t)) v ρ):=by
 have hs:(a.put (some t) v).tmps.size=n:=by simp[Act.put,H.sz]
 have QJ:∀u,(a.put (some t) v).tmps[u]? =if t=u then some v else a.tmps[u]? :=by
  intro u;simp only[Act.put,Array.getElem?_setIfInBounds,H.sz];by_cases h:t=u
  ·subst h;simp[ht]
  ·simp[h]
 cases hL:L.contains t with
 |true=>
  refine⟨H.nod,hs,?_,?_,H.tL,?_⟩
  ·intro u w hu
   rw[QJ];by_cases h:t=u
   ·subst h;have:=H.tL t w hu;rw[hL]at this;cases this
   ·rw[if_neg h];exact H.t1 u w hu
  ·intro u w hu
   simp only[jr,Env.Xl]at hu;rw[QJ]
   split at hu
   ·rename_i h;rw[if_pos h];exact hu
   ·rename_i h;rw[if_neg h];exact H.r1 u w hu
  ·intro u w hu
   simp only[jr,Env.Xl]at hu
   split at hu
   ·rename_i h;rw[←h];exact hL
   ·exact H.rL u w hu
 |false=>
  refine⟨H.nod,hs,?_,?_,?_,H.rL⟩
  ·intro u w hu
   simp only[jq,Env.get]at hu;rw[QJ]
   split at hu
   ·rename_i h;rw[if_pos h];exact hu
   ·rename_i h;rw[if_neg h];exact H.t1 u w hu
  ·intro u w hu
   rw[QJ];by_cases h:t=u
   ·subst h;have:=H.rL t w hu;rw[hL]at this;cases this
   ·rw[if_neg h];exact H.r1 u w hu
  ·intro u w hu
   simp only[jq,Env.get]at hu
   split at hu
   ·rename_i h;rw[←h];exact hL
   ·exact H.tL u w hu
end
theorem Ad(f:Operand→Value)(o:Oper)(s:ep)(h1:s.op=o.op)(h2:s.type=o.type):execOp f o=execOp f s.oper:=by
 obtain⟨dst,op,type,pos,after,guard⟩:=o;obtain⟨d,sop,st,g,q⟩:=s;subst h1;subst h2;rfl
section
variable{P:Program}{L:List Nat}{n:Nat}{Q:Exit→Act→World→Prop}
theorem Xn{o:Oper}{a:Act}{w0:World}{N:Act→World→Prop}{K:Value→ar→Prop}
 (hN:∀v w',Same w0 w'→K v w'.heap→N (a.put o.dst v) w'){r:Result Next}{nx:Next}{w':World}
 (hr:r= .ok nx w')(hs:Same w0 w')(hk:Ac P K nx w'.heap):o.upon P a N Q r:=by
 subst hr;cases nx<;>simp only[Ac]at hk<;>first|exact hk.elim|skip
 case value v=>exact hN v w' hs hk
 case skip=>exact hN undef w' hs hk
 case enter f args=>
  refine(hk w' rfl).mono ?_;rintro e w2⟨v,rfl,h2,h3⟩;exact hN v w2 (hs.trans h2) h3
theorem Ur{o:Oper}{s:ep}{a:Act}{τ ρ:Env}{w0 w:World}(H:∀x∈o.op.operands,(dC τ ρ x).isSome=true→a.eval x=js τ ρ x)(h1:s.op=o.op)(h2:s.type=o.type)(uA:qo o.op=true)
 (hs:Same w0 w){N:Act→World→Prop}{K:Value→ar→Prop}(hN:∀v w',Same w0 w'→K v w'.heap→N (a.put o.dst v) w')
 (hv:Uq P s τ ρ w.heap K):o.wp P a w N Q:=by
 obtain⟨hk,hr⟩:=hv;have he:execOp a.eval o=execOp (js τ ρ) s.oper:=by
  rw[←Ad _ o s h1 h2];refine execOp_congr o ?_ ?_
  ·intro cs b e;rw[e]at uA;simp[qo]at uA
  ·intro x hx;exact H x hx (hk x (by rw[h1];exact hx))
 obtain⟨nx,w',r1,r2,r3⟩:=hr w rfl;unfold Oper.wp;exact Xn hN (by rw[he];exact r1) (hs.trans r2) r3
theorem Ae{o:Oper}{s:ep}{a:Act}{τ ρ:Env}{w0 w:World}(H:∀x∈o.op.operands,(dC τ ρ x).isSome=true→a.eval x=js τ ρ x)(h1:s.op=o.op)(h2:s.type=o.type)(uA:qo o.op=true)
 (hs:Same w0 w){N:Act→World→Prop}{M:Env→Env→ar→Prop}
 (hN:∀v w',Same w0 w'→M (jq s.dst v τ) (jr s.dst v ρ) w'.heap→N (a.put o.dst v) w')
 (hv:qn P s τ ρ w.heap M):o.wp P a w N Q:=by
 unfold qn at hv
 split at hv
 ·have:Uq P s τ ρ w.heap (fun v h'=>M (jq s.dst v τ) (jr s.dst v ρ) h'):=by
   cases hr:ri P s τ ρ w.heap with
   |none=>rw[hr]at hv;exact hv.elim
   |some v=>
    rw[hr]at hv;unfold ri at hr
    split at hr
    ·rename_i hk
     refine⟨hk,?_⟩;cases hx:rd P (execOp (js τ ρ) s.oper) w.heap with
     |none=>rw[hx]at hr;cases hr
     |some nx=>
      rw[hx]at hr;cases nx<;>simp only[valOf]at hr<;>first|cases hr|skip
      exact uj (Nq _ _ _ _ hx hv)
    ·cases hr
  exact Ur H h1 h2 uA hs hN this
 ·exact Ur H h1 h2 uA hs hN hv
theorem oQ{ops:List Oper}{o:Oper}{s:ep}(h:oP P L n ops o=some s):
 s.op=o.op∧s.type=o.type∧qo o.op=true∧s.q=yn P o.op∧
 ((o.dst=none∧s.dst=none)∨∃t,o.dst=some t∧t<n∧s.dst=some (t,L.contains t))∧
 ((o.guard=none∧s.guard=none)∨∃j want g,o.guard=some (j,want)∧(ops[j]?).bind (·.dst)=some g∧s.guard=some (g,want)):=by
 unfold oP at h
 split at h
 ·rename_i uA
  split at h
  ·rename_i d g hd hg
   cases h;refine⟨rfl,rfl,uA,rfl,?_,?_⟩
   ·split at hd
    ·rename_i he;cases hd;exact .inl ⟨he,rfl⟩
    ·rename_i t he
     split at hd
     ·rename_i aV;cases hd;exact .inr ⟨t,he,aV,rfl⟩
     ·cases hd
   ·split at hg
    ·rename_i he;cases hg;exact .inl ⟨he,rfl⟩
    ·rename_i j want he
     split at hg
     ·rename_i g' hg';cases hg;exact .inr ⟨j,want,g',he,hg',rfl⟩
     ·cases hg
  ·cases h
 ·cases h
theorem Ag.ae4{a:Act}{τ ρ:Env}(H:Ag L n a τ ρ){o:Oper}{s:ep}
 (hd:(o.dst=none∧s.dst=none)∨∃t,o.dst=some t∧t<n∧s.dst=some (t,L.contains t))(v:Value):
 Ag L n (a.put o.dst v) (jq s.dst v τ) (jr s.dst v ρ):=by
 rcases hd with⟨h1,h2⟩|⟨t,h1,h2,h3⟩
 ·rw[h1,h2];exact H
 ·rw[h1,h3];exact H.put h2 v
theorem ac4{v:Value}{b:Bool}(h:qg v=some b):v= .bool b:=by
 cases v<;>simp[qg]at h
 subst h;rfl
theorem Af{ops:Array Oper}{o:Oper}{a:Act}{τ ρ:Env}(H:Ag L n a τ ρ){j:Nat}{want:Bool}{g:Nat}
 (h1:o.guard=some (j,want))(h2:(ops.toList[j]?).bind (·.dst)=some g){v:Value}(hv:lk τ ρ g=some v):
 Region.wanted o (yielded ops a.tmps)=true↔qg v=some want:=by
 have hg:(ops[j]?).bind (·.dst)=some g:=by simpa using h2
 have ht:=H.lk hv;unfold Region.wanted yielded;rw[h1];simp only[hg,Option.bind_some,ht];cases v<;>simp[qg]
theorem Z6{ops:Array Oper}{w0:World}{K:Env→ar→Prop}(hQ:∀a ρ w,Ag L n a [] ρ→Same w0 w→K ρ w.heap→Q .normal a w):
 ∀(l:List Oper)(sl:List ep),kV P L n ops.toList l=some sl→∀(a:Act)(τ ρ:Env)(w:World),Ag L n a τ ρ→Same w0 w→
  kL P K sl τ ρ w.heap→wpList P ops Q l a w:=by
 intro l
 induction l with
 |nil=>
  intro sl pB a τ ρ w H hs hv;simp only[kV]at pB;cases pB;exact hQ a ρ w H.drop hs hv
 |cons o r ih=>
  intro sl pB a τ ρ w H hs hv;simp only[kV]at pB
  split at pB
  ·rename_i s t h1 h2
   cases pB;obtain⟨e1,e2,e3,_,hd,hg⟩:=oQ h1;have hN:∀v w',Same w0 w'→kL P K t (jq s.dst v τ) (jr s.dst v ρ) w'.heap→wpList P ops Q r (a.put o.dst v) w':=
    fun v w' hs' hk=>ih t h2 _ _ _ w' (H.ae4 hd v) hs' hk
   simp only[kL,kK]at hv;unfold wpList;rcases hg with⟨g1,g2⟩|⟨j,want,g,g1,g2,g3⟩
   ·rw[g2]at hv
    rw[if_pos (by simp[Region.wanted,g1])];exact .inl (Ae (fun _ _ hx=>H.js hx) e1 e2 e3 hs hN hv)
   ·rw[g3]at hv
    cases hl:lk τ ρ g with
    |none=>simp only[hl]at hv
    |some v=>
     simp only[hl]at hv;have hw:=Af H g1 g2 hl;by_cases hb:qg v=some want
     ·rw[if_pos hb]at hv
      rw[if_pos (hw.2 hb)];exact .inl (Ae (fun _ _ hx=>H.js hx) e1 e2 e3 hs hN hv)
     ·rw[if_neg hb]at hv
      rw[if_neg (fun h=>hb (hw.1 h))];exact hN undef w hs hv
  ·cases pB
theorem Tw{id:Nat}{ops:Array Oper}{sl:List ep}{w0 w:World}{a:Act}{ρ:Env}{K:Env→ar→Prop}
 (hQ:∀a ρ w,Ag L n a [] ρ→Same w0 w→K ρ w.heap→Q .normal a w)(h:kV P L n ops.toList ops.toList=some sl)
 (H:Ag L n a [] ρ)(hs:Same w0 w)(hv:kL P K sl [] ρ w.heap):(Code.region id ops false).wp P Q a w:=
 wp_region_list (Z6 hQ _ _ h a [] ρ w H hs hv)
end
end
theorem qq{P:Program}{α:Type}(s:Sem α):∀(w:World)(v:α),rd P s w.heap=some v→s.run P w= .ok v w:=by
 induction s with
 |pure a=>intro w v H;cases H;rfl
 |load m a k ih=>
  intro w v H;have hc:w.cell? a=cellAt w.heap a:=rfl;simp only[rd]at H;cases hv:cellAt w.heap a with
  |none=>simp[hv]at H
  |some u=>simp only[hv]at H;simp only[Sem.run,hc,hv];exact ih _ _ _ H
 |store m a v k ih=>intro w u H;simp[rd]at H
 |new o k ih=>intro w u H;simp[rd]at H
 |shape r k ih=>intro w u H;exact ih _ _ _ H
 |freeze a n k ih=>intro w u H;simp[rd]at H
 |frozen a k ih=>intro w u H;exact ih _ _ _ H
 |getObj r k ih=>
  intro w u H;simp only[rd]at H;simp only[Sem.run];cases ho:w.heap[r]? with
  |none=>simp[ho]at H
  |some o=>simp only[ho]at H;cases o<;>first|(simp at H;done)|exact ih _ _ _ H
 |setObj r o k ih=>intro w u H;simp[rd]at H
 |choose q k ih=>
  intro w u H;simp only[rd]at H;simp only[Sem.run];by_cases hq:q.forced=true
  ·rw[if_pos hq]at H⊢;exact ih _ _ _ H
  ·rw[if_neg hq]at H;cases H
 |sys c k ih=>intro w u H;simp[rd]at H
 |program k ih=>intro w u H;exact ih _ _ _ H
 |mark m k ih=>intro w u H;exact ih _ _ H
 |halt x=>intro w u H;simp[rd]at H
def iQ{α:Type}:Sem α→Prop
 | .pure _=>True
 | .choose _ k=>∀n,iQ (k n)
 | .program k=>∀p,iQ (k p)
 | .mark _ k=>iQ k
 | .halt _=>True
 |_=>False
theorem Lj{α β:Type}(s:Sem α)(f:α→Sem β)(h:iQ s)(hf:∀a,iQ (f a)):iQ (s.bind f):=by
 induction s with
 |pure a=>exact hf a
 |choose q k ih=>exact fun n=>ih n (h n)
 |program k ih=>exact fun p=>ih p (h p)
 |mark m k ih=>exact ih h
 |halt x=>trivial
 |_=>exact h.elim
theorem eL{α β:Type}(s:Sem α)(f:α→Sem β)(h:iQ s)(hf:∀a,iQ (f a)):iQ (s>>=f):=Lj s f h hf
theorem JG{P:Program}{α:Type}(s:Sem α)(hs:iQ s)(h h':ar):rd P s h=rd P s h':=by
 induction s with
 |pure a=>rfl
 |choose q k ih=>simp only[rd];split<;>first|exact ih _ (hs 0)|rfl
 |program k ih=>exact ih P (hs P)
 |mark m k ih=>exact ih hs
 |halt x=>rfl
 |_=>exact hs.elim
def Nr:Op→Bool
 | .move _| .assign _| .pick .. | .extract .. | .makeFunc .. | .unOp .. | .field .. | .index .. =>true
 |_=>false
theorem QK(v:Value):iQ (asBool v):=by cases v<;>trivial
theorem pC(t:TypeId):iQ (underlying t):=by
 intro p
 show iQ (match p.underlying t with|some d=>pure d|none=>stuck "no such type")
 split<;>trivial
theorem Nu(t:TypeId):iQ (typeInfo t):=by
 intro p
 show iQ (match p.info? t with|some d=>pure d|none=>stuck "no such type")
 split<;>trivial
theorem uB(t:TypeId):iQ (sizeOf t):=eL _ _ (Nu t) fun _=>trivial
theorem IV(t:TypeId):iQ (isAgg t):=eL _ _ (pC t) fun d=>by split<;>trivial
theorem Tx(v:Value):iQ (asAgg v):=by cases v<;>trivial
theorem PX(v:Value):iQ (asIntOf v):=by
 unfold asIntOf;split<;>trivial
theorem Lk(t:TypeId)(cs:Array Value)(off:Nat):iQ (part t cs off):=by
 refine eL _ _ (IV t) fun b=>?_
 split
 ·exact eL _ _ (uB t) fun _=>trivial
 ·split<;>trivial
theorem tp{α:Type}(k:IntKind)(x y:Int)(c:BoundsCode):iQ (boundsPanic k x y c:Sem α):=by
 have hp:∀a b c d,iQ (runtimePanic (.bounds a b c d):Sem α):=fun a b c d p=>trivial;unfold boundsPanic;dsimp only
 split
 ·exact eL _ _ (Lj (choose _) (fun x=>Sem.pure (x==1)) (fun n=>trivial) fun _=>trivial) fun _=>hp _ _ _ _
 ·exact eL _ _ trivial fun _=>hp _ _ _ _
theorem QL{o:Oper}(h:Nr o.op=true)(f:Operand→Value):iQ (execOp f o):=by
 obtain⟨dst,op,type,pos,after,guard⟩:=o;cases op<;>simp only[Nr,Bool.false_eq_true]at h<;>simp only[execOp]
 case move x=>trivial
 case assign x=>trivial
 case pick c a b=>exact eL _ _ (QK _) fun b=>by trivial
 case makeFunc fn fs cs=>exact eL _ _ trivial fun _=>trivial
 case unOp op t x=>
  refine eL _ _ ?_ fun _=>trivial;unfold Op.unary
  split<;>first|trivial|(split<;>trivial)
 case field t x i=>
  refine eL _ _ (eL _ _ (pC t) fun d=>?_) fun _=>trivial
  split
  ·split
   ·exact eL _ _ (Tx _) fun _=>Lk _ _ _
   ·trivial
  ·trivial
 case index t x i=>
  refine eL _ _ (eL _ _ (PX _) fun d=>eL _ _ (pC t) fun d'=>?_) fun _=>trivial
  split
  ·split
   ·exact eL _ _ (uB _) fun _=>Lk _ _ _
   ·exact tp _ _ _ _
  ·split
   ·trivial
   ·exact tp _ _ _ _
  ·trivial
 case extract t ix=>
  refine eL _ _ ?_ fun _=>trivial;unfold Instr.extract
  split
  ·split<;>trivial
  ·trivial
section
def kD(ops:Array Oper)(i:Nat):List Nat:=
 match ops[i]? with
 |some o=>(o.after.toList.filter (Region.binds .any ·)).map (·.on)
 |none=>[]
def dd:List Nat→List Nat→List Nat
 |_,[]=>[]
 |seen,x::r=>if seen.contains x then dd seen r else x::dd (x::seen) r
theorem ai3:∀(l seen:List Nat)(x:Nat),x∈dd seen l→x∈l:=by
 intro l
 induction l with
 |nil=>intro seen x h;exact h
 |cons y r ih=>
  intro seen x h;simp only[dd]at h
  split at h
  ·exact List.mem_cons_of_mem _ (ih _ _ h)
  ·rcases List.mem_cons.1 h with h|h
   ·rw[h];exact List.mem_cons_self
   ·exact List.mem_cons_of_mem _ (ih _ _ h)
def grow(ops:Array Oper):Nat→List Nat→List Nat
 |0,l=>l
 |f+1,l=>
  match dd l (l.flatMap (kD ops))with
  |[]=>l
  |new=>grow ops f (l++new)
def oC(ops:Array Oper)(i:Nat):List Nat:=grow ops ops.size (kD ops i)
theorem mem_grow{ops:Array Oper}{p:Nat→Prop}(hp:∀x,p x→∀y∈kD ops x,p y):∀(f:Nat)(l:List Nat),(∀x∈l,p x)→∀x∈grow ops f l,p x:=by
 intro f
 induction f with
 |zero=>intro l h;exact h
 |succ f ih=>
  intro l h x hx;simp only[grow]at hx
  split at hx
  ·exact h x hx
  ·refine ih _ ?_ x hx
   intro y hy;rcases List.mem_append.1 hy with hy|hy
   ·exact h y hy
   ·obtain⟨z,hz,hyz⟩:=List.mem_flatMap.1 (ai3 _ _ _ hy)
    exact hp z (h z hz) y hyz
theorem oe{ops:Array Oper}{p:Nat→Prop}(hp:∀x,p x→∀y∈kD ops x,p y){i:Nat}(hi:∀y∈kD ops i,p y):∀x∈oC ops i,p x:=
 mem_grow hp _ _ hi
def quietAt(P:Program)(ops:Array Oper)(i:Nat):Bool:=
 match ops[i]? with
 |some o=>yn P o.op
 |none=>false
def Qz(ops:Array Oper)(i:Nat):Bool:=
 match ops[i]? with
 |some o=>Nr o.op
 |none=>false
def kg(ops:Array Oper)(i:Nat):Option Nat:=(ops[i]?).bind (·.dst)
def looks(ops:Array Oper)(i:Nat):List Nat:=
 match ops[i]? with
 |some o=>o.looksAt ops
 |none=>[]
def mz(ops:Array Oper)(V:List Nat)(i:Nat):Bool:= !V.contains i&&(kD ops i).all fun j=>V.contains j
def Ah(P:Program)(ops:Array Oper)(V:List Nat):Option Nat:=
 match(List.range ops.size).find? (fun i=>mz ops V i&&quietAt P ops i)with
 |some i=>some i
 |none=>(List.range ops.size).find? (mz ops V)
def yq(P:Program)(L:List Nat)(n:Nat)(ops:Array Oper)(i:Nat):Option ep:=(ops[i]?).bind (oP P L n ops.toList)
def GP(P:Program)(L:List Nat)(n:Nat)(ops:Array Oper):List Nat→Option (List ep)
 |[]=>some []
 |i::r=>match yq P L n ops i,GP P L n ops r with
  |some s,some t=>some (s::t)
  |_,_=>none
def ae5(P:Program)(ops:Array Oper)(cl:List (List Nat))(V:List Nat)(i:Nat):List Nat:=
 V.filter fun k=>quietAt P ops k&& !Qz ops k&& !(cl.getD i []).contains k
def QA(P:Program)(n:Nat)(ops:Array Oper)(cl:List (List Nat)):Bool:=
 (List.range ops.size).all fun j=>
  match kg ops j with
  |none=>true
  |some t=>decide (t<n)&&(List.range ops.size).all fun k=>
   (j==k||kg ops k !=some t)&&
   (!(looks ops k).contains t||(j !=k&&((cl.getD k []).contains j||((cl.getD j []).contains k&&(List.range ops.size).all fun p=>quietAt P ops p||p==j||(cl.getD j []).contains p))))
def mK(ops:Array Oper):List (List Nat):=(List.range ops.size).map (oC ops)
theorem xt{ops:Array Oper}{i:Nat}(h:i<ops.size):(mK ops).getD i []=oC ops i:=by
 simp[mK,h]
structure qt(P:Program)(n:Nat)(ops:Array Oper):Prop where
 d1:∀j k t,kg ops j=some t→kg ops k=some t→j=k
 d2:∀j t,kg ops j=some t→t<n
 d3:∀j k t,kg ops j=some t→t∈looks ops k→j≠k∧(j∈oC ops k∨(k∈oC ops j∧∀p,p<ops.size→quietAt P ops p=true∨p=j∨p∈oC ops j))
theorem Us{ops:Array Oper}{j t:Nat}(h:kg ops j=some t):j<ops.size:=by
 rcases Nat.lt_or_ge j ops.size with h'|h'
 ·exact h'
 ·simp[kg,Array.getElem?_eq_none h']at h
theorem ac5{ops:Array Oper}{j t:Nat}(h:t∈looks ops j):j<ops.size:=by
 rcases Nat.lt_or_ge j ops.size with h'|h'
 ·exact h'
 ·simp[looks,Array.getElem?_eq_none h']at h
theorem Vy{P:Program}{n:Nat}{ops:Array Oper}(h:QA P n ops (mK ops)=true):qt P n ops:=by
 unfold QA at h;rw[List.all_eq_true]at h;have key:∀j t,kg ops j=some t→t<n∧∀k,k<ops.size→
  (j=k∨kg ops k≠some t)∧(t∉looks ops k∨(j≠k∧(j∈oC ops k∨(k∈oC ops j∧∀p,p<ops.size→quietAt P ops p=true∨p=j∨p∈oC ops j)))):=by
  intro j t hj;have aV:=Us hj;have:=h j (List.mem_range.2 aV);rw[hj]at this;simp only[Bool.and_eq_true,decide_eq_true_eq,List.all_eq_true,List.mem_range]at this;refine⟨this.1,fun k hk=>?_⟩;have h2:=this.2 k hk;simp only[Bool.and_eq_true,Bool.or_eq_true,beq_iff_eq,bne_iff_ne,Bool.not_eq_true',List.all_eq_true,List.mem_range,xt hk,xt aV,List.contains_eq_mem,decide_eq_true_eq,decide_eq_false_iff_not]at h2;refine⟨h2.1,?_⟩;rcases h2.2 with h3|⟨h3,h4⟩
  ·exact .inl h3
  ·refine .inr ⟨h3,?_⟩
   rcases h4 with h4|⟨h4,h5⟩
   ·exact .inl h4
   ·exact .inr ⟨h4,fun p hp=>by rcases h5 p hp with(h6|h6)|h6;exact .inl h6;exact .inr (.inl h6);exact .inr (.inr h6)⟩
 refine⟨?_,fun j t hj=>(key j t hj).1,?_⟩
 ·intro j k t hj hk
  rcases((key j t hj).2 k (Us hk)).1 with h1|h1
  ·exact h1
  ·exact absurd hk h1
 ·intro j k t hj hk
  rcases((key j t hj).2 k (ac5 hk)).2 with h1|h1
  ·exact absurd hk h1
  ·exact h1
structure qu(ops:Array Oper)(S:Nat→Prop)(val:Nat→Value)(a0 a:Act):Prop where
 df:a.defers=a0.defers
 sz:a.tmps.size=a0.tmps.size
 yes:∀j t,S j→kg ops j=some t→a.tmps[t]? =some (val j)
 no:∀t,(∀j,S j→kg ops j≠some t)→a.tmps[t]? =a0.tmps[t]?
def upd(val:Nat→Value)(i:Nat)(v:Value):Nat→Value:=fun j=>if j=i then v else val j
section
variable{P:Program}{L:List Nat}{n:Nat}{ops:Array Oper}{Q:Exit→Act→World→Prop}
theorem qu.put(D:qt P n ops){S S':Nat→Prop}{val:Nat→Value}{a0 a:Act}(H:qu ops S val a0 a)(hn:a0.tmps.size=n){i:Nat}(hi:¬S i)(hS:∀j,S' j↔(S j∨j=i))(v:Value)
 {val':Nat→Value}(hv:val' i=v)(Z7:∀j,S j→val' j=val j):qu ops S' val' a0 (a.put (kg ops i) v):=by
 cases hd:kg ops i with
 |none=>
  refine⟨H.df,H.sz,?_,?_⟩
  ·intro j t hj ht
   rcases(hS j).1 hj with h|h
   ·rw[Z7 j h];exact H.yes j t h ht
   ·subst h;rw[hd]at ht;cases ht
  ·intro t ht
   exact H.no t fun j hj=>ht j ((hS j).2 (.inl hj))
 |some d=>
  have aV:d<a.tmps.size:=by rw[H.sz,hn];exact D.d2 i d hd
  have QJ:∀u,(a.put (some d) v).tmps[u]? =if d=u then some v else a.tmps[u]? :=by
   intro u;simp only[Act.put,Array.getElem?_setIfInBounds];by_cases h:d=u
   ·subst h;simp[aV]
   ·simp[h]
  refine⟨H.df,by simp[Act.put,H.sz],?_,?_⟩
  ·intro j t hj ht
   rw[QJ];rcases(hS j).1 hj with h|h
   ·have:d≠t:=fun e=>by subst e;exact hi ((D.d1 j i d ht hd)▸h)
    rw[if_neg this,Z7 j h];exact H.yes j t h ht
   ·subst h;rw[hd]at ht;cases ht;rw[if_pos rfl,hv]
  ·intro t ht
   have:d≠t:=fun e=>by subst e;exact ht i ((hS i).2 (.inr rfl)) hd
   rw[QJ,if_neg this];exact H.no t fun j hj=>ht j ((hS j).2 (.inl hj))
def CA(ops:Array Oper)(val:Nat→Value)(a0:Act)(k:Nat)(b:Act):Prop:=
 ∀t∈looks ops k,(∀j,kg ops j=some t→j∈oC ops k→b.tmps[t]? =some (val j))∧((∀j,kg ops j=some t→j∉oC ops k)→b.tmps[t]? =a0.tmps[t]?)
theorem qu.ca(D:qt P n ops){S:Nat→Prop}{val:Nat→Value}{a0 a:Act}(H:qu ops S val a0 a){k:Nat}(hk:∀j∈oC ops k,S j)
 (hn:∀j t,S j→kg ops j=some t→t∈looks ops k→j∈oC ops k):CA ops val a0 k a:=by
 intro t ht;refine⟨fun j hj hc=>H.yes j t (hk j hc) hj,fun mX=>H.no t fun j hj hd=>mX j hd (hn j t hj hd ht)⟩
theorem CA.same(D:qt P n ops){val:Nat→Value}{a0 a b:Act}{k:Nat}(ha:CA ops val a0 k a)(hb:CA ops val a0 k b):∀t∈looks ops k,a.tmps[t]? =b.tmps[t]? :=by
 intro t ht;by_cases h:∃j,kg ops j=some t∧j∈oC ops k
 ·obtain⟨j,h1,h2⟩:=h
  rw[(ha t ht).1 j h1 h2,(hb t ht).1 j h1 h2]
 ·have:∀j,kg ops j=some t→j∉oC ops k:=fun j h1 h2=>h ⟨j,h1,h2⟩
  rw[(ha t ht).2 this,(hb t ht).2 this]
theorem CA.val(D:qt P n ops){val val':Nat→Value}{a0 b:Act}{k:Nat}(h:CA ops val a0 k b)(hv:∀j∈oC ops k,val' j=val j):CA ops val' a0 k b:=by
 intro t ht;refine⟨fun j hj hc=>by rw[hv j hc];exact(h t ht).1 j hj hc,(h t ht).2⟩
def YA(P:Program)(ops:Array Oper)(k:Nat)(v:Value)(b:Act)(h:ar):Prop:=
 ∀o,ops[k]? =some o→(Region.wanted o (yielded ops b.tmps)=true∧rd P (execOp b.eval o) h=some (.value v))∨(Region.wanted o (yielded ops b.tmps)=false∧v=undef)
theorem eval_congr{a b:Act}{x:Operand}(h:∀t,x= .tmp t→a.tmps[t]? =b.tmps[t]?):a.eval x=b.eval x:=by
 cases x with
 |tmp t=>simp[Act.eval,h t rfl]
 |_=>rfl
theorem OZ{a b:Act}{k:Nat}{o:Oper}(ho:ops[k]? =some o)(uA:qo o.op=true)(h:∀t∈looks ops k,a.tmps[t]? =b.tmps[t]?):execOp a.eval o=execOp b.eval o:=by
 refine execOp_congr o ?_ ?_
 ·intro cs c e;rw[e]at uA;simp[qo]at uA
 ·intro x hx
  refine eval_congr fun t ht=>h t ?_;subst ht;simp only[looks,ho,Oper.looksAt];exact List.mem_append_left _ (List.mem_filterMap.2 ⟨.tmp t,by simpa using hx,rfl⟩)
theorem xu{a b:Act}{k:Nat}{o:Oper}(ho:ops[k]? =some o)(h:∀t∈looks ops k,a.tmps[t]? =b.tmps[t]?):Region.wanted o (yielded ops a.tmps)=Region.wanted o (yielded ops b.tmps):=by
 unfold Region.wanted;cases hg:o.guard with
 |none=>rfl
 |some gw=>
  obtain⟨g,want⟩:=gw;have:yielded ops a.tmps g=yielded ops b.tmps g:=by
   unfold yielded;cases ht:(ops[g]?).bind (·.dst)with
   |none=>rfl
   |some t=>
    have:=h t (by simp[looks,ho,Oper.looksAt,hg,ht]);simp[this]
  simp only[this]
theorem YA.congr{k:Nat}{v:Value}{a b:Act}{h:ar}(uA:∀o,ops[k]? =some o→qo o.op=true)(hl:∀t∈looks ops k,a.tmps[t]? =b.tmps[t]?)(H:YA P ops k v a h):YA P ops k v b h:=by
 intro o ho;rw[←xu ho hl,←OZ ho (uA o ho) hl];exact H o ho
theorem YA.free{k:Nat}{v:Value}{b:Act}{h h':ar}(hf:Qz ops k=true)(H:YA P ops k v b h):YA P ops k v b h':=by
 intro o ho;simp only[Qz,ho]at hf;rw[JG _ (QL hf _) h' h];exact H o ho
inductive Pb (ops:Array Oper):List Nat→Prop where
 |nil:Pb ops []
 |snoc (V:List Nat) (i:Nat):Pb ops V→(∀j∈kD ops i,j∈V)→Pb ops (V++[i])
theorem Pb.down{V:List Nat}(H:Pb ops V):∀i∈V,∀j∈kD ops i,j∈V:=by
 induction H with
 |nil=>intro i hi;cases hi
 |snoc V i _ hd ih=>
  intro k hk j hj;rcases List.mem_append.1 hk with hk|hk
  ·exact List.mem_append_left _ (ih k hk j hj)
  ·simp at hk;subst hk;exact List.mem_append_left _ (hd j hj)
theorem Pb.first{V:List Nat}(H:Pb ops V)(p:Nat→Prop)(h:∃k∈V,¬p k):∃k∈V,¬p k∧∀j∈kD ops k,p j:=by
 induction H with
 |nil=>obtain⟨k,hk,_⟩:=h;cases hk
 |snoc V i _ hd ih=>
  by_cases hV:∃k∈V,¬p k
  ·obtain⟨k,h1,h2⟩:=ih hV
   exact⟨k,List.mem_append_left _ h1,h2⟩
  ·obtain⟨k,hk,hp⟩:=h
   rcases List.mem_append.1 hk with hk|hk
   ·exact absurd ⟨k,hk,hp⟩ hV
   ·simp at hk;subst hk
    refine⟨k,by simp,hp,fun j hj=>?_⟩;exact Classical.byContradiction fun hpj=>hV ⟨j,hd j hj,hpj⟩
theorem tM{V:List Nat}{i:Nat}:mz ops V i=true↔i∉V∧∀j∈kD ops i,j∈V:=by
 simp[mz]
theorem Pe{i j:Nat}:j∈kD ops i↔∃o,ops[i]? =some o∧∃e∈o.after,Region.binds .any e=true∧e.on=j:=by
 unfold kD;cases ops[i]? with
 |none=>simp
 |some o=>simp[and_assoc]
theorem DL{listed:Array Bool}(hl:listed.size=ops.size){i:Nat}:i∈Region.ready .any ops listed↔i<ops.size∧listed.getD i false=false∧∀j∈kD ops i,listed.getD j false=true:=by
 rw[mem_ready];constructor
 ·rintro⟨h1,o,ho,h2⟩
  have hi:i<ops.size:=by
   rcases Nat.lt_or_ge i ops.size with h'|h'
   ·exact h'
   ·simp[Array.getElem?_eq_none h']at ho
  refine⟨hi,?_,?_⟩
  ·have:i<listed.size:=by omega
   simp[this]at h1⊢;exact h1
  ·intro j hj
   obtain⟨o',vQ,e,he,hb,rfl⟩:=Pe.1 hj;rw[ho]at vQ;cases vQ;exact h2 e he hb
 ·rintro⟨hi,h1,h2⟩
  have xy:i<listed.size:=by omega
  refine⟨?_,ops[i],by simp[hi],fun e he hb=>h2 _ (Pe.2 ⟨ops[i],by simp[hi],e,he,hb,rfl⟩)⟩;simp[xy]at h1⊢;exact h1
end
end
section
section
variable{P:Program}{L:List Nat}{n:Nat}{ops:Array Oper}{Q:Exit→Act→World→Prop}
structure Inv(P:Program)(L:List Nat)(n:Nat)(ops:Array Oper)(listed:Array Bool)(a:Act)(h:ar)(V:List Nat)(val:Nat→Value)(a0 av:Act)(τ ρ:Env):Prop where
 Vz:listed.size=ops.size
 nz:a0.tmps.size=n
 sel:∀o∈ops,qo o.op=true
 lV:∀i,listed.getD i false=true→i∈V
 Vr:∀i∈V,i<ops.size
 wl:∀i∈V,quietAt P ops i=false→listed.getD i false=true
 ldc:∀i,listed.getD i false=true→∀j∈kD ops i,listed.getD j false=true
 ord:Pb ops V
 fa:qu ops (fun i=>listed.getD i false=true) val a0 a
 fv:qu ops (fun i=>i∈V) val a0 av
 ag:Ag L n av τ ρ
 pend:∀k∈V,listed.getD k false=false→∃b,CA ops val a0 k b∧YA P ops k (val k) b h
theorem xA{i:Nat}{s:ep}(h:yq P L n ops i=some s):∃o,ops[i]? =some o∧oP P L n ops.toList o=some s:=by
 unfold yq at h;cases ho:ops[i]? with
 |none=>rw[ho]at h;cases h
 |some o=>rw[ho]at h;exact⟨o,rfl,h⟩
theorem Z8{i:Nat}{o:Oper}{s:ep}{av:Act}{τ ρ:Env}{h:ar}{N:Env→Env→ar→Prop}(ho:ops[i]? =some o)(hs:oP P L n ops.toList o=some s)(hq:quietAt P ops i=true)
 (H:Ag L n av τ ρ)(hv:kK P s τ ρ h N):∃v,YA P ops i v av h∧N (jq s.dst v τ) (jr s.dst v ρ) h:=by
 obtain⟨e1,e2,e3,e4,hd,hg⟩:=oQ hs;have hqo:s.q=true:=by simp only[quietAt,ho]at hq;rw[e4];exact hq
 have run:qn P s τ ρ h N→∃v,rd P (execOp av.eval o) h=some (.value v)∧N (jq s.dst v τ) (jr s.dst v ρ) h:=by
  intro hv;unfold qn at hv;rw[if_pos hqo]at hv;cases hr:ri P s τ ρ h with
  |none=>rw[hr]at hv;exact hv.elim
  |some v=>
   rw[hr]at hv;refine⟨v,?_,hv⟩;unfold ri at hr
   split at hr
   ·rename_i hk
    have he:execOp av.eval o=execOp (js τ ρ) s.oper:=by
     rw[←Ad _ o s e1 e2];refine execOp_congr o ?_ ?_
     ·intro cs b e;rw[e]at e3;simp[qo]at e3
     ·intro x hx;exact H.js (hk x (by rw[e1];exact hx))
    rw[he];cases hx:rd P (execOp (js τ ρ) s.oper) h with
    |none=>rw[hx]at hr;cases hr
    |some nx=>
     rw[hx]at hr;cases nx<;>simp only[valOf]at hr<;>first|cases hr|skip
     rfl
   ·cases hr
 unfold kK at hv;rcases hg with⟨g1,g2⟩|⟨j,want,g,g1,g2,g3⟩
 ·rw[g2]at hv
  obtain⟨v,h1,h2⟩:=run hv;refine⟨v,fun o' vQ=>?_,h2⟩;rw[ho]at vQ;cases vQ;exact .inl ⟨by simp[Region.wanted,g1],h1⟩
 ·rw[g3]at hv
  cases hl:lk τ ρ g with
  |none=>simp only[hl]at hv
  |some x=>
   simp only[hl]at hv;have hw:=Af H g1 g2 hl;by_cases hb:qg x=some want
   ·rw[if_pos hb]at hv
    obtain⟨v,h1,h2⟩:=run hv;refine⟨v,fun o' vQ=>?_,h2⟩;rw[ho]at vQ;cases vQ;exact .inl ⟨hw.2 hb,h1⟩
   ·rw[if_neg hb]at hv
    refine⟨undef,fun o' vQ=>?_,hv⟩;rw[ho]at vQ;cases vQ;refine .inr ⟨?_,rfl⟩;cases hx:Region.wanted o (yielded ops av.tmps)with
    |false=>rfl
    |true=>exact absurd (hw.1 hx) hb
theorem yr{i:Nat}{o:Oper}(ho:ops[i]? =some o):kg ops i=o.dst:=by simp[kg,ho]
theorem Inv.grow(D:qt P n ops){listed:Array Bool}{a:Act}{h:ar}{V:List Nat}{val:Nat→Value}{a0 av:Act}{τ ρ:Env}(I:Inv P L n ops listed a h V val a0 av τ ρ)
 {i:Nat}{o:Oper}{s:ep}{v:Value}(ho:ops[i]? =some o)(hs:oP P L n ops.toList o=some s)(hr:mz ops V i=true)(hq:quietAt P ops i=true)(hy:YA P ops i v av h):
 Inv P L n ops listed a h (V++[i]) (upd val i v) a0 (av.put o.dst v) (jq s.dst v τ) (jr s.dst v ρ):=by
 obtain⟨hi,ae7⟩:=tM.1 hr;obtain⟨e1,e2,e3,e4,hd,hg⟩:=oQ hs;have mL:listed.getD i false=false:=by
  cases hx:listed.getD i false with
  |false=>rfl
  |true=>exact absurd (I.lV i hx) hi
 have ae8:∀j∈oC ops i,j∈V:=oe (p:=(·∈V)) (fun x hx y hy=>I.ord.down x hx y hy) ae7
 have cN:∀j∈V,j≠i:=fun j hj e=>hi (e▸hj);refine⟨I.Vz,I.nz,I.sel,fun j hj=>List.mem_append_left _ (I.lV j hj),?_,?_,I.ldc, .snoc V i I.ord ae7,?_,?_,I.ag.ae4 hd v,?_⟩
 ·intro j hj
  rcases List.mem_append.1 hj with hj|hj
  ·exact I.Vr j hj
  ·simp at hj;subst hj
   rcases Nat.lt_or_ge j ops.size with h'|h'
   ·exact h'
   ·simp[Array.getElem?_eq_none h']at ho
 ·intro j hj hqj
  rcases List.mem_append.1 hj with hj|hj
  ·exact I.wl j hj hqj
  ·simp at hj;subst hj;rw[hq]at hqj;cases hqj
 ·refine⟨I.fa.df,I.fa.sz,?_,I.fa.no⟩
  intro j t hj ht;have:j≠i:=cN j (I.lV j hj);simp only[upd,this,if_false];exact I.fa.yes j t hj ht
 ·rw[←yr ho]
  refine I.fv.put D I.nz hi (fun j=>by simp) v (by simp[upd]) fun j hj=>by simp[upd,cN j hj]
 ·intro k hk pD
  rcases List.mem_append.1 hk with hk|hk
  ·obtain⟨b,h1,h2⟩:=I.pend k hk pD
   have hkc:∀j∈oC ops k,j∈V:=oe (p:=(·∈V)) (fun x hx y hy=>I.ord.down x hx y hy) (I.ord.down k hk)
   refine⟨b,h1.val D fun j hj=>by simp[upd,cN j (hkc j hj)],?_⟩;simp only[upd,cN k hk,if_false];exact h2
  ·simp at hk;subst hk
   refine⟨av,?_,?_⟩
   ·have xB:CA ops val a0 k av:=I.fv.ca D ae8 fun j t hj vR mq=>by
     rcases(D.d3 j k t vR mq).2 with h1|⟨h1,_⟩
     ·exact h1
     ·exact absurd (oe (p:=(·∈V)) (fun x hx y hy=>I.ord.down x hx y hy) (I.ord.down j hj) k h1) hi
    exact xB.val D fun j hj=>by simp[upd,cN j (ae8 j hj)]
   ·simp only[upd,if_true];exact hy
theorem DN{V:List Nat}{i:Nat}(h:Ah P ops V=some i):i<ops.size∧mz ops V i=true∧
 (quietAt P ops i=false→∀j,j<ops.size→mz ops V j=true→quietAt P ops j=false):=by
 unfold Ah at h
 split at h
 ·rename_i k hk
  cases h;have h1:=List.find?_some hk;have h2:=List.mem_of_find?_eq_some hk;simp only[Bool.and_eq_true]at h1;exact⟨List.mem_range.1 h2,h1.1,fun h=>by rw[h1.2]at h;cases h⟩
 ·rename_i hk
  have h1:=List.find?_some h;have h2:=List.mem_of_find?_eq_some h;refine⟨List.mem_range.1 h2,h1,fun _ j hj hr=>?_⟩;have:=List.find?_eq_none.1 hk j (List.mem_range.2 hj);simp only[Bool.and_eq_true,not_and]at this;simpa using this hr
theorem Pf{V:List Nat}(h:Ah P ops V=none){j:Nat}(hj:j<ops.size):mz ops V j=false:=by
 unfold Ah at h
 split at h
 ·cases h
 ·have:=List.find?_eq_none.1 h j (List.mem_range.2 hj)
  simpa using this
theorem fP{listed:Array Bool}{i j:Nat}(hi:i<listed.size):(listed.setIfInBounds i true).getD j false=true↔(listed.getD j false=true∨j=i):=by
 by_cases h:j=i
 ·subst h;simp[hi]
 ·rw[getD_set_ne false (Ne.symm h)];simp[h]
def cnt(listed:Array Bool):Nat:=listed.toList.count false
theorem Xo{listed:Array Bool}{i:Nat}(hi:i<listed.size)(hf:listed.getD i false=false):cnt (listed.setIfInBounds i true)+1=cnt listed:=by
 unfold cnt;have h1:i<listed.toList.length:=by simpa using hi
 have h2:listed.toList[i]=false:=by
  have:listed.getD i false=listed[i]:=by simp[hi]
  rw[this]at hf;simpa using hf
 have pT:0<listed.toList.count false:=List.count_pos_iff.2 (h2▸List.getElem_mem h1);rw[Array.toList_setIfInBounds,List.count_set h1,h2];rw[if_pos (by decide),if_neg (by decide)];omega
theorem Inv.list(D:qt P n ops){listed:Array Bool}{a:Act}{h:ar}{V:List Nat}{val:Nat→Value}{a0 av:Act}{τ ρ:Env}(I:Inv P L n ops listed a h V val a0 av τ ρ)
 {i:Nat}(PY:i∈V)(mL:listed.getD i false=false)(sg:∀j∈kD ops i,listed.getD j false=true):
 Inv P L n ops (listed.setIfInBounds i true) (a.put (kg ops i) (val i)) h V val a0 av τ ρ:=by
 have hi:i<listed.size:=by rw[I.Vz];exact I.Vr i PY
 refine⟨by simp[I.Vz],I.nz,I.sel,?_,I.Vr,?_,?_,I.ord,?_,I.fv,I.ag,?_⟩
 ·intro j hj
  rcases(fP hi).1 hj with h|h
  ·exact I.lV j h
  ·exact h▸PY
 ·intro j hj hq
  exact(fP hi).2 (.inl (I.wl j hj hq))
 ·intro j hj k hk
  refine(fP hi).2 (.inl ?_);rcases(fP hi).1 hj with h|h
  ·exact I.ldc j h k hk
  ·exact sg k (h▸hk)
 ·exact I.fa.put D I.nz (by simp[mL]) (fun j=>fP hi) (val i) rfl fun _ _=>rfl
 ·intro k hk pD
  refine I.pend k hk ?_;cases hx:listed.getD k false with
  |false=>rfl
  |true=>rw[(fP hi).2 (.inl hx)]at pD;cases pD
theorem Ty:∀{l:List Nat}{r:List ep},GP P L n ops l=some r→∀i∈l,∃s∈r,yq P L n ops i=some s:=by
 intro l
 induction l with
 |nil=>intro r _ i hi;cases hi
 |cons j l ih=>
  intro r h i hi;simp only[GP]at h
  split at h
  ·rename_i s t h1 h2
   cases h;rcases List.mem_cons.1 hi with hi|hi
   ·exact⟨s,List.mem_cons_self,hi▸h1⟩
   ·obtain⟨x,hx,hy⟩:=ih h2 i hi
    exact⟨x,List.mem_cons_of_mem _ hx,hy⟩
  ·cases h
theorem Xp:∀{l:List ep}{τ ρ:Env}{h:ar},lf P l τ ρ h→∀x∈l,still P x τ ρ h:=by
 intro l
 induction l with
 |nil=>intro τ ρ h _ x hx;cases hx
 |cons y l ih=>
  intro τ ρ h H x hx;rcases List.mem_cons.1 hx with hx|hx
  ·exact hx▸H.1
  ·exact ih H.2 x hx
theorem YA.again{k:Nat}{v:Value}{b av:Act}{τ ρ:Env}{h h':ar}{s:ep}{o:Oper}(ho:ops[k]? =some o)(hs:oP P L n ops.toList o=some s)
 (H:Ag L n av τ ρ)(hval:∀t,o.dst=some t→av.tmps[t]? =some v)(hl:∀t∈looks ops k,b.tmps[t]? =av.tmps[t]?)(gl:still P s τ ρ h')(hy:YA P ops k v b h):YA P ops k v b h':=by
 obtain⟨e1,e2,e3,e4,hd,hg⟩:=oQ hs;rcases hd with⟨_,hd⟩|⟨t,hd,htn,hds⟩
 ·unfold still at gl;rw[hd]at gl;exact gl.elim
 ·intro o' vQ
  rw[ho]at vQ;cases vQ;rcases hy o ho with⟨hw,hr⟩|hw
  ·refine .inl ⟨hw,?_⟩
   have aoR:Region.wanted o (yielded ops av.tmps)=true:=by rw[←xu ho hl];exact hw
   have core:ri P s τ ρ h'=lk τ ρ t∧(lk τ ρ t).isSome=true:=by
    unfold still at gl;rw[hds]at gl;simp only[]at gl;rcases hg with⟨g1,g2⟩|⟨j,want,g,g1,g2,g3⟩
    ·rw[g2]at gl;exact gl
    ·rw[g3]at gl
     simp only[]at gl;cases hl':lk τ ρ g with
     |none=>rw[hl']at gl;exact gl.elim
     |some x=>rw[hl']at gl;exact gl ((Af H g1 g2 hl').1 aoR)
   obtain⟨u,hu⟩:=Option.isSome_iff_exists.1 core.2;have huv:u=v:=by
    have h1:=H.lk hu;rw[hval t hd]at h1;exact(Option.some.inj h1).symm
   subst huv;have c1:=core.1;rw[hu]at c1;unfold ri at c1
   split at c1
   ·rename_i hk
    have he:execOp b.eval o=execOp (js τ ρ) s.oper:=by
     rw[OZ ho e3 hl,←Ad _ o s e1 e2];refine execOp_congr o ?_ ?_
     ·intro cs b e;rw[e]at e3;simp[qo]at e3
     ·intro x hx;exact H.js (hk x (by rw[e1];exact hx))
    rw[he];cases hx:rd P (execOp (js τ ρ) s.oper) h' with
    |none=>rw[hx]at c1;cases c1
    |some nx=>
     rw[hx]at c1;cases nx<;>simp only[valOf]at c1<;>first|(cases c1;done)|skip
     rw[Option.some.inj c1]
   ·cases c1
  ·exact .inr hw
end
end
section
section
variable{P:Program}{L:List Nat}{n:Nat}{ops:Array Oper}{Q:Exit→Act→World→Prop}
theorem afc{a b:Go.Act}(hd:a.defers=b.defers)(h:∀t:Nat,a.tmps[t]? =b.tmps[t]?):a=b:=by
 obtain⟨at',ad⟩:=a;obtain⟨bt,bd⟩:=b;simp only at hd h;subst hd;have:at'=bt:=Array.ext_getElem? h;rw[this]
theorem afd(D:qt P n ops){S:Nat→Prop}{val:Nat→Value}{a0 a:Act}(H:qu ops S val a0 a)(hdc:∀i,S i→∀j∈kD ops i,S j){i:Nat}(hi:¬S i)(hd:∀j∈kD ops i,S j):CA ops val a0 i a:=
 H.ca D (oe hdc hd) fun j t hj vR DT=>by
  rcases(D.d3 j i t vR DT).2 with h|⟨h,_⟩
  ·exact h
  ·exact absurd (oe hdc (hdc j hj) i h) hi
end
end
section
def Ai(g:Nat→Option Dt):List Nat→Option Dt
 |[]=>none
 |[i]=>g i
 |i::r=>match g i,Ai g r with
  |some a,some b=>some (.both a b)
  |_,_=>none
def iB(P:Program)(L:List Nat)(n:Nat)(ops:Array Oper)(cl:List (List Nat)):Nat→List Nat→Option Dt
 |0,V=>if(List.range ops.size).all (fun i=>V.contains i)then some .done else none
 |f+1,V=>
  match Ah P ops V with
  |none=>if(List.range ops.size).all (fun i=>V.contains i)then some .done else none
  |some i=>
   if quietAt P ops i then
    match yq P L n ops i,iB P L n ops cl f (V++[i])with
    |some s,some r=>some (.run s [] r)
    |_,_=>none
   else Ai (fun i=>match yq P L n ops i,GP P L n ops (ae5 P ops cl V i),iB P L n ops cl f (V++[i])with
    |some s,some re,some r=>some (.run s re r)
    |_,_,_=>none) ((List.range ops.size).filter (mz ops V))
theorem ac6{P:Program}{K:Env→ar→Prop}{g:Nat→Option Dt}:∀{l:List Nat}{t:Dt},Ai g l=some t→∀i∈l,∀{τ ρ:Env}{h:ar},pA P K t τ ρ h→∃ti,g i=some ti∧pA P K ti τ ρ h:=by
 intro l
 induction l with
 |nil=>intro t h;cases h
 |cons j l ih=>
  intro t hs i hi τ ρ h hv;cases l with
  |nil=>
   simp only[List.mem_singleton]at hi;subst hi;exact⟨t,hs,hv⟩
  |cons k l=>
   simp only[Ai]at hs
   split at hs
   ·rename_i a b h1 h2
    cases hs;rcases List.mem_cons.1 hi with hi|hi
    ·subst hi;exact⟨a,h1,hv.1⟩
    ·exact ih h2 i hi hv.2
   ·cases hs
section
variable{P:Program}{L:List Nat}{n:Nat}{ops:Array Oper}{Q:Exit→Act→World→Prop}
theorem QM(D:qt P n ops){K:Env→ar→Prop}{listed:Array Bool}{a a0:Act}{h:ar}:∀(f:Nat)(V:List Nat)(val:Nat→Value)(av:Act)(τ ρ:Env)(rest:Dt),
 Inv P L n ops listed a h V val a0 av τ ρ→iB P L n ops (mK ops) f V=some rest→pA P K rest τ ρ h→
 ∃f' V' val' av' Vx sV Nv,Inv P L n ops listed a h V' val' a0 av' Vx sV∧iB P L n ops (mK ops) f' V'=some Nv∧pA P K Nv Vx sV h∧
  (∀i,i<ops.size→mz ops V' i=true→quietAt P ops i=false):=by
 intro f
 induction f with
 |zero=>
  intro V val av τ ρ rest I hs hv;refine⟨0,V,val,av,τ,ρ,rest,I,hs,hv,?_⟩;intro i hi hr;simp only[iB]at hs
  split at hs
  ·rename_i oD
   rw[List.all_eq_true]at oD;have:=oD i (List.mem_range.2 hi);exact absurd (by simpa using this) (tM.1 hr).1
  ·cases hs
 |succ f ih=>
  intro V val av τ ρ rest I hs hv;cases hp:Ah P ops V with
  |none=>exact⟨f+1,V,val,av,τ,ρ,rest,I,hs,hv,fun i hi hr=>by rw[Pf hp hi]at hr;cases hr⟩
  |some i=>
   obtain⟨hi,hr,hw⟩:=DN hp;cases hq:quietAt P ops i with
   |false=>exact⟨f+1,V,val,av,τ,ρ,rest,I,hs,hv,hw hq⟩
   |true=>
    simp only[iB,hp,hq,if_true]at hs
    split at hs
    ·rename_i s r h1 h2
     cases hs;obtain⟨o,ho,hso⟩:=xA h1;simp only[pA]at hv;obtain⟨v,hy,_,hN⟩:=Z8 ho hso hq I.ag hv;exact ih (V++[i]) (upd val i v) (av.put o.dst v) _ _ r (I.grow D ho hso hr hq hy) h2 hN
    ·cases hs
theorem Inv.aff(D:qt P n ops){K:Env→ar→Prop}{w0:World}(hQ:∀a ρ w,Ag L n a [] ρ→Same w0 w→K ρ w.heap→Q .normal a w)
 {listed:Array Bool}{a:Act}{w:World}{V:List Nat}{val:Nat→Value}{a0 av:Act}{τ ρ:Env}{f:Nat}{rest:Dt}
 (I:Inv P L n ops listed a w.heap V val a0 av τ ρ)(gl:iB P L n ops (mK ops) f V=some rest)(hv:pA P K rest τ ρ w.heap)(hs:Same w0 w)
 (hr:Region.ready .any ops listed=[]):Q .normal a w:=by
 have hnr:∀i,i<ops.size→listed.getD i false=false→(∀j∈kD ops i,listed.getD j false=true)→False:=by
  intro i h1 h2 h3;have:=(DL I.Vz).2 ⟨h1,h2,h3⟩;rw[hr]at this;cases this
 have oD:∀k∈V,listed.getD k false=true:=by
  intro k hk;refine Classical.byContradiction fun mX=>?_;obtain⟨i,hi,h1,h2⟩:=I.ord.first (fun k=>listed.getD k false=true) ⟨k,hk,mX⟩;exact hnr i (I.Vr i hi) (by simpa using h1) h2
 have alL:∀i,i<ops.size→mz ops V i=false:=by
  intro i hi;cases hb:mz ops V i with
  |false=>rfl
  |true=>
   obtain⟨h1,h2⟩:=tM.1 hb;refine(hnr i hi ?_ fun j hj=>oD j (h2 j hj)).elim;cases hx:listed.getD i false with
   |false=>rfl
   |true=>exact absurd (I.lV i hx) h1
 have alM:Ah P ops V=none:=by
  cases hp:Ah P ops V with
  |none=>rfl
  |some i=>obtain⟨h1,h2,_⟩:=DN hp;rw[alL i h1]at h2;cases h2
 have alN:rest= .done:=by
  cases f with
  |zero=>
   simp only[iB]at gl
   split at gl
   ·cases gl;rfl
   ·cases gl
  |succ f=>
   simp only[iB,alM]at gl
   split at gl
   ·cases gl;rfl
   ·cases gl
 subst alN;have hav:a=av:=by
  refine afc (I.fa.df.trans I.fv.df.symm) fun t=>?_;by_cases h:∃j,j∈V∧kg ops j=some t
  ·obtain⟨j,h1,h2⟩:=h
   rw[I.fa.yes j t (oD j h1) h2,I.fv.yes j t h1 h2]
  ·rw[I.fa.no t (fun j hj hd=>h ⟨j,I.lV j hj,hd⟩),I.fv.no t (fun j hj hd=>h ⟨j,hj,hd⟩)]
 rw[hav];exact hQ av ρ w I.ag.drop hs hv
theorem Z9(D:qt P n ops){K:Env→ar→Prop}{w0:World}(hQ:∀a ρ w,Ag L n a [] ρ→Same w0 w→K ρ w.heap→Q .normal a w):
 ∀(fuel:Nat)(listed:Array Bool)(a:Act)(w:World)(V:List Nat)(val:Nat→Value)(a0 av:Act)(τ ρ:Env)(f:Nat)(rest:Dt),
  Inv P L n ops listed a w.heap V val a0 av τ ρ→cnt listed=fuel→iB P L n ops (mK ops) f V=some rest→pA P K rest τ ρ w.heap→Same w0 w→
  (∀i,i<ops.size→mz ops V i=true→quietAt P ops i=false)→wpAny P .any ops Q fuel listed a w:=by
 intro fuel
 induction fuel with
 |zero=>
  intro listed a w V val a0 av τ ρ f rest I hc gl hv hs acs;have hr:Region.ready .any ops listed=[]:=by
   cases hx:Region.ready .any ops listed with
   |nil=>rfl
   |cons i r=>
    have hi:i∈Region.ready .any ops listed:=by rw[hx];exact List.mem_cons_self
    obtain⟨h1,h2,_⟩:=(DL I.Vz).1 hi;have:=Xo (listed:=listed) (i:=i) (by rw[I.Vz];exact h1) h2;omega
  exact⟨hr,I.aff D hQ gl hv hs hr⟩
 |succ fuel ih=>
  intro listed a w V val a0 av τ ρ f rest I hc gl hv hs acs;refine⟨fun hr=>I.aff D hQ gl hv hs hr,fun i hir=>?_⟩;obtain⟨hi,mL,sg⟩:=(DL I.Vz).1 hir;have Ll:i<listed.size:=by rw[I.Vz];exact hi
  have ho:ops[i]? =some ops[i]:=by simp[hi]
  generalize ops[i]=o at ho;have alP:qo o.op=true:=I.sel o (Array.mem_of_getElem? ho);have Lm:cnt (listed.setIfInBounds i true)=fuel:=by have:=Xo Ll mL;omega
  have ala:CA ops val a0 i a:=afd D I.fa (fun i h j hj=>I.ldc i h j hj) (by simp[mL]) sg;by_cases PY:i∈V
  ·have hq:quietAt P ops i=true:=by
    cases hx:quietAt P ops i with
    |true=>rfl
    |false=>rw[I.wl i PY hx]at mL;cases mL
   obtain⟨b,hb,hy⟩:=I.pend i PY mL;have hya:YA P ops i (val i) a w.heap:=hy.congr (fun o' vQ=>by rw[ho]at vQ;cases vQ;exact alP) (hb.same D ala);have next:wpAny P .any ops Q fuel (listed.setIfInBounds i true) (a.put o.dst (val i)) w:=by
    have:=I.list D PY mL sg;rw[yr ho]at this;exact ih _ _ w V val a0 av τ ρ f rest this Lm gl hv hs acs
   unfold wpOp;simp only[ho];rcases hya o ho with⟨hw,di⟩|⟨hw,hu⟩
   ·rw[if_pos hw]
    refine .inl ?_;unfold Oper.wp;rw[qq _ w _ di];exact next
   ·rw[if_neg (by rw[hw];simp)]
    rw[hu]at next;exact next
  ·have uC:mz ops V i=true:=tM.2 ⟨PY,fun j hj=>I.lV j (sg j hj)⟩
   cases f with
   |zero=>
    simp only[iB]at gl
    split at gl
    ·rename_i oD
     rw[List.all_eq_true]at oD;have:=oD i (List.mem_range.2 hi);exact absurd (by simpa using this) PY
    ·cases gl
   |succ f=>
    cases hp:Ah P ops V with
    |none=>rw[Pf hp hi]at uC;cases uC
    |some p=>
     obtain⟨hpi,hpr,_⟩:=DN hp;have aoT:=acs p hpi hpr;simp only[iB,hp,aoT,Bool.false_eq_true,if_false]at gl;have alQ:i∈(List.range ops.size).filter (mz ops V):=List.mem_filter.2 ⟨List.mem_range.2 hi,uC⟩;obtain⟨ti,DT,hv⟩:=ac6 gl i alQ hv;have hpq:quietAt P ops i=false:=acs i hi uC
     split at DT
     ·rename_i s re r h1 h2 h3
      cases DT;obtain⟨o',vQ,hso⟩:=xA h1;rw[ho]at vQ;cases vQ;obtain⟨e1,e2,e3,e4,hd,hg⟩:=oQ hso;have aoU:CA ops val a0 i av:=afd D I.fv (fun i h j hj=>I.ord.down i h j hj) PY (fun j hj=>I.lV j (sg j hj));have hlk:∀t∈looks ops i,a.tmps[t]? =av.tmps[t]? :=ala.same D aoU;have ae8:∀j∈oC ops i,j∈V:=oe (p:=(·∈V)) (fun x hx y hy=>I.ord.down x hx y hy) (fun j hj=>I.lV j (sg j hj))
      have aoV:∀j∈oC ops i,listed.getD j false=true:=oe (p:=fun j=>listed.getD j false=true) (fun x hx y hy=>I.ldc x hx y hy) sg;have cN:∀j∈V,j≠i:=fun j hj e=>PY (e▸hj);simp only[pA]at hv;have hN:∀v w',Same w0 w'→(lf P re (jq s.dst v τ) (jr s.dst v ρ) w'.heap∧pA P K r (jq s.dst v τ) (jr s.dst v ρ) w'.heap)→
       wpAny P .any ops Q fuel (listed.setIfInBounds i true) (a.put o.dst v) w':=by
       intro v w' hs' mY;have fv':qu ops (fun j=>j∈V++[i]) (upd val i v) a0 (av.put o.dst v):=by
        rw[←yr ho];exact I.fv.put D I.nz PY (fun j=>by simp) v (by simp[upd]) fun j hj=>by simp[upd,cN j hj]
       have ag':Ag L n (av.put o.dst v) (jq s.dst v τ) (jr s.dst v ρ):=I.ag.ae4 hd v;have I':Inv P L n ops (listed.setIfInBounds i true) (a.put o.dst v) w'.heap (V++[i]) (upd val i v) a0 (av.put o.dst v) (jq s.dst v τ) (jr s.dst v ρ):=by
        refine⟨by simp[I.Vz],I.nz,I.sel,?_,?_,?_,?_, .snoc V i I.ord (fun j hj=>I.lV j (sg j hj)),?_,fv',ag',?_⟩
        ·intro j hj
         rcases(fP Ll).1 hj with h|h
         ·exact List.mem_append_left _ (I.lV j h)
         ·subst h;simp
        ·intro j hj
         rcases List.mem_append.1 hj with h|h
         ·exact I.Vr j h
         ·simp at h;subst h;exact hi
        ·intro j hj hqj
         rcases List.mem_append.1 hj with h|h
         ·exact(fP Ll).2 (.inl (I.wl j h hqj))
         ·simp at h;subst h;exact(fP Ll).2 (.inr rfl)
        ·intro j hj k hk
         refine(fP Ll).2 (.inl ?_);rcases(fP Ll).1 hj with h|h
         ·exact I.ldc j h k hk
         ·exact sg k (h▸hk)
        ·rw[←yr ho]
         refine I.fa.put D I.nz (by simp[mL]) (fun j=>fP Ll) v (by simp[upd]) ?_;intro j hj;simp[upd,cN j (I.lV j hj)]
        ·intro k hk pD
         have PZ:k≠i:=fun e=>by subst e;rw[(fP Ll).2 (.inr rfl)]at pD;cases pD
         have hkV:k∈V:=by
          rcases List.mem_append.1 hk with h|h
          ·exact h
          ·simp at h;exact absurd h PZ
         have Xq:listed.getD k false=false:=by
          cases hx:listed.getD k false with
          |false=>rfl
          |true=>rw[(fP Ll).2 (.inl hx)]at pD;cases pD
         have hkq:quietAt P ops k=true:=by
          cases hx:quietAt P ops k with
          |true=>rfl
          |false=>rw[I.wl k hkV hx]at Xq;cases Xq
         have hkc:k∉oC ops i:=fun h=>by rw[aoV k h]at Xq;cases Xq
         obtain⟨b,hb,hy⟩:=I.pend k hkV Xq;have alb:∀j∈oC ops k,j∈V:=oe (p:=(·∈V)) (fun x hx y hy=>I.ord.down x hx y hy) (I.ord.down k hkV)
         have ju:CA ops (upd val i v) a0 k b:=hb.val D fun j hj=>by simp[upd,cN j (alb j hj)]
         refine⟨b,ju,?_⟩;simp only[upd,PZ,if_false];cases nI:Qz ops k with
         |true=>exact hy.free nI
         |false=>
          have kG:k∈ae5 P ops (mK ops) V i:=by
           unfold ae5;rw[List.mem_filter];refine⟨hkV,?_⟩;rw[xt hi];simp[hkq,nI,hkc]
          obtain⟨sk,hsk,aoX⟩:=Ty h2 k kG;obtain⟨ok,jV,aoY⟩:=xA aoX;have ai5:=Xp mY.1 sk hsk;have aoZ:CA ops (upd val i v) a0 k (av.put o.dst v):=fv'.ca D (fun j hj=>List.mem_append_left _ (alb j hj)) fun j t hj vR mq=>by
           rcases(D.d3 j k t vR mq).2 with h|⟨h,oD⟩
           ·exact h
           ·rcases oD i hi with h4|h4|h4
            ·rw[hpq]at h4;cases h4
            ·subst h4;exact absurd h hkc
            ·rcases List.mem_append.1 hj with h5|h5
             ·exact absurd (oe (p:=(·∈V)) (fun x hx y hy=>I.ord.down x hx y hy) (I.ord.down j h5) i h4) PY
             ·simp at h5;subst h5;exact absurd h hkc
          refine YA.again jV aoY ag' ?_ (ju.same D aoZ) ai5 hy;intro t ht;have:=fv'.yes k t (List.mem_append_left _ hkV) (by rw[yr jV];exact ht);simpa[upd,PZ]using this
       obtain⟨f',V',val',av',Vx,sV,Nv,J1,J2,J3,J4⟩:=QM D f (V++[i]) (upd val i v) _ _ _ r I' h3 mY.2;exact ih _ _ w' V' val' a0 av' Vx sV f' Nv J1 Lm J2 J3 hs' J4
      have hev:∀x∈o.op.operands,(dC τ ρ x).isSome=true→a.eval x=js τ ρ x:=by
       intro x hx hk;rw[←I.ag.js hk];refine eval_congr fun t ht=>hlk t ?_;subst ht;simp only[looks,ho,Oper.looksAt];exact List.mem_append_left _ (List.mem_filterMap.2 ⟨.tmp t,by simpa using hx,rfl⟩)
      unfold wpOp;simp only[ho];unfold kK at hv;rcases hg with⟨g1,g2⟩|⟨j,want,g,g1,g2,g3⟩
      ·rw[g2]at hv
       rw[if_pos (by simp[Region.wanted,g1])];exact .inl (Ae hev e1 e2 e3 hs hN hv)
      ·rw[g3]at hv
       have hwc:=xu ho hlk;cases hl:lk τ ρ g with
       |none=>simp only[hl]at hv
       |some x=>
        simp only[hl]at hv;have hw:=Af I.ag g1 g2 hl;rw[hwc];by_cases hb:qg x=some want
        ·rw[if_pos hb]at hv
         rw[if_pos (hw.2 hb)];exact .inl (Ae hev e1 e2 e3 hs hN hv)
        ·rw[if_neg hb]at hv
         rw[if_neg (fun h=>hb (hw.1 h))];exact hN undef w hs hv
     ·cases DT
theorem Xr{id:Nat}{ops:Array Oper}{sl:Dt}{w0 w:World}{a:Act}{ρ:Env}{K:Env→ar→Prop}(hm:P.follows .mixedOrders=true)
 (hQ:∀a ρ w,Ag L n a [] ρ→Same w0 w→K ρ w.heap→Q .normal a w)(jV:QA P n ops (mK ops)=true)(uA:ops.all (fun o=>qo o.op)=true)
 (h:iB P L n ops (mK ops) ops.size []=some sl)
 (H:Ag L n a [] ρ)(hs:Same w0 w)(hv:pA P K sl [] ρ w.heap):(Code.region id ops true).wp P Q a w:=by
 refine wp_region_any hm ?_;have D:=Vy jV;have afj:∀i,(Array.replicate ops.size false).getD i false=false:=by
  intro i;rcases Nat.lt_or_ge i ops.size with h|h<;>simp[h]
 have I:Inv P L n ops (Array.replicate ops.size false) a w.heap [] (fun _=>undef) a a [] ρ:=by
  refine⟨by simp,H.sz,?_,?_,?_,?_,?_, .nil,?_,?_,H,?_⟩
  ·intro o ho
   rw[Array.all_eq_true']at uA;exact uA o ho
  ·intro i hi;rw[afj i]at hi;cases hi
  ·intro i hi;cases hi
  ·intro i hi;cases hi
  ·intro i hi;rw[afj i]at hi;cases hi
  ·exact⟨rfl,rfl,fun j t hj=>(by rw[afj j]at hj;cases hj),fun _ _=>rfl⟩
  ·exact⟨rfl,rfl,fun j t hj=>(by cases hj),fun _ _=>rfl⟩
  ·intro k hk;cases hk
 obtain⟨f',V',val',av',Vx,sV,Nv,J1,J2,J3,J4⟩:=QM D ops.size [] _ _ _ _ sl I h hv;refine Z9 D hQ ops.size _ a {w with drawn:=w.drawn+1} V' val' a av' Vx sV f' Nv J1 ?_ J2 J3 ⟨hs.os,hs.tape,hs.output⟩ J4;simp[cnt]
end
end
section
def strip(P:Program)(L:List Nat)(n:Nat):Code→Option Cd
 | .skip=>some .skip
 | .region _ ops false=>(kV P L n ops.toList ops.toList).map .region
 | .region _ ops true=>
  let cl:=mK ops
  if QA P n ops cl&&ops.all (fun o=>qo o.op)then(iB P L n ops cl ops.size []).map .tree else none
 | .seq a b=>match strip P L n a,strip P L n b with
  |some x,some y=>some (.seq x y)
  |_,_=>none
 | .cond c a b=>match strip P L n a,strip P L n b with
  |some x,some y=>some (.cond c x y)
  |_,_=>none
 | .block id a=>(strip P L n a).map (.block id)
 | .loop a=>(strip P L n a).map .loop
 | .exit id=>some (.exit id)
 | .ret=>some .ret
 | .scope a=>strip P L n a
 | .label _=>some .skip
 | .goto _=>some (.cond (.const (.int .i64 0)) .skip .skip)
 |_=>none
section
variable{P:Program}{L:List Nat}{n:Nat}
def LQ(L:List Nat)(n:Nat)(w0:World)(Q:Ex→Env→ar→Prop):Exit→Act→World→Prop
 | .normal,a,w=>∃ρ,Ag L n a [] ρ∧Same w0 w∧Q .normal ρ w.heap
 | .exit id,a,w=>∃ρ,Ag L n a [] ρ∧Same w0 w∧Q (.exit id) ρ w.heap
 | .ret,a,w=>∃ρ,Ag L n a [] ρ∧Same w0 w∧Q .ret ρ w.heap
 |_,_,_=>False
theorem wp_loop_ghost{P:Program}{Q:Exit→Act→World→Prop}{c:Code}(I:Nat→Act→World→Prop)
 (round:∀m a w,I m a w→c.wp P (Exit.then (fun a' w'=>∃m',m'<m∧I m' a' w') Q) a w):∀m a w,I m a w→(Code.loop c).wp P Q a w:=by
 intro m a w hI b k cs;have key:∀m a w,I m a w→∃e a' w',Q e a' w'∧Arrives P (lone (b.at a (.code c:: .inLoop c::k)) cs w) b k cs e a' w':=by
  intro m
  induction m using Nat.strongRecOn with
  |_ m ih=>
   intro a w hI;obtain⟨e,Ut,Uu,hq,Pg⟩:=round m a w hI b (.inLoop c::k) cs;cases e with
   |normal=>
    obtain⟨m',aV,alS⟩:=hq;obtain⟨ao1,ao2,ao3,alT,afk⟩:=ih m' aV Ut Uu alS;exact⟨ao1,ao2,ao3,alT, .of_steps (Steps.trans Pg (.one step_inLoop)) afk⟩
   |exit id=>exact⟨_,Ut,Uu,hq, .pass (x:= .inLoop c) rfl (fun _ _=> .inl (by simp)) Pg⟩
   |goto l=>exact⟨_,Ut,Uu,hq, .pass (x:= .inLoop c) rfl (fun _ _=> .inl (by simp)) Pg⟩
   |ret=>exact⟨_,Ut,Uu,hq, .pass (x:= .inLoop c) rfl (fun _ _=> .inl (by simp)) Pg⟩
   |panic ch=>exact⟨_,Ut,Uu,hq, .pass (x:= .inLoop c) rfl (fun _ _=> .inl (by simp)) Pg⟩
   |outgrown=>exact⟨_,Ut,Uu,hq, .pass (x:= .inLoop c) rfl (fun _ _=> .inl (by simp)) Pg⟩
 obtain⟨e,a',w',hq,Pg⟩:=key m a w hI;exact⟨e,a',w',hq, .of_steps (.one step_loop) Pg⟩
theorem ac7(hm:P.follows .mixedOrders=true):∀(c:Code)(cd:Cd),strip P L n c=some cd→∀(Q:Ex→Env→ar→Prop)(w0:World)(a:Act)(ρ:Env)(w:World),
 Ag L n a [] ρ→Same w0 w→cd.vc P Q ρ w.heap→c.wp P (LQ L n w0 Q) a w:=by
 intro c
 induction c with
 |skip=>intro cd h Q w0 a ρ w H hs hv;cases h;exact wp_skip ⟨ρ,H,hs,hv⟩
 |region id ops draw=>
  intro cd h Q w0 a ρ w H hs hv;cases draw with
  |false=>
   simp only[strip]at h;cases hx:kV P L n ops.toList ops.toList with
   |none=>rw[hx]at h;cases h
   |some sl=>rw[hx]at h;cases h;exact Tw (fun a ρ w h1 h2 h3=>⟨ρ,h1,h2,h3⟩) hx H hs hv
  |true=>
   simp only[strip]at h
   split at h
   ·rename_i hb
    rw[Bool.and_eq_true]at hb;cases hy:iB P L n ops (mK ops) ops.size []with
    |none=>rw[hy]at h;cases h
    |some t=>rw[hy]at h;cases h;exact Xr hm (fun a ρ w h1 h2 h3=>⟨ρ,h1,h2,h3⟩) hb.1 hb.2 hy H hs hv
   ·cases h
 |seq x y ihx ihy=>
  intro cd h Q w0 a ρ w H hs hv;simp only[strip]at h
  split at h
  ·rename_i cx cy h1 h2
   cases h;refine wp_seq (wp_mono (ihx cx h1 _ w0 a ρ w H hs hv) ?_);intro e a' w' hq;cases e with
   |normal=>obtain⟨sV,k1,k2,k3⟩:=hq;exact ihy cy h2 Q w0 a' sV w' k1 k2 k3
   |exit id=>obtain⟨sV,k1,k2,k3⟩:=hq;exact⟨sV,k1,k2,k3⟩
   |ret=>obtain⟨sV,k1,k2,k3⟩:=hq;exact⟨sV,k1,k2,k3⟩
   |_=>exact hq.elim
  ·cases h
 |cond o x y ihx ihy=>
  intro cd h Q w0 a ρ w H hs hv;simp only[strip]at h
  split at h
  ·rename_i cx cy h1 h2
   cases h;simp only[Cd.vc]at hv;cases ho:dC [] ρ o with
   |none=>rw[ho]at hv;exact hv.elim
   |some u=>
    rw[ho]at hv;simp only[Option.bind_some]at hv;cases hb:qg u with
    |none=>rw[hb]at hv;exact hv.elim
    |some t=>
     rw[hb]at hv;have he:a.eval o= .bool t:=by rw[H.dC ho];exact ac4 hb
     refine wp_cond he ?_;cases t with
     |true=>exact ihx cx h1 Q w0 a ρ w H hs hv
     |false=>exact ihy cy h2 Q w0 a ρ w H hs hv
  ·cases h
 |block id x ih=>
  intro cd h Q w0 a ρ w H hs hv;simp only[strip]at h;cases hx:strip P L n x with
  |none=>rw[hx]at h;cases h
  |some cx=>
   rw[hx]at h;cases h;refine wp_block (wp_mono (ih cx hx _ w0 a ρ w H hs hv) ?_);intro e a' w' hq;cases e with
   |normal=>exact hq
   |exit Z3=>
    obtain⟨sV,k1,k2,k3⟩:=hq;simp only[Ex.Xm]at k3;simp only[Exit.inBlock]
    split
    ·rename_i he;rw[if_pos he]at k3;exact⟨sV,k1,k2,k3⟩
    ·rename_i he;rw[if_neg he]at k3;exact⟨sV,k1,k2,k3⟩
   |ret=>exact hq
   |_=>exact hq.elim
 |loop x ih=>
  intro cd h Q w0 a ρ w H hs hv;simp only[strip]at h;cases hx:strip P L n x with
  |none=>rw[hx]at h;cases h
  |some cx=>
   rw[hx]at h;cases h;obtain⟨ks,I,⟨m0,h0⟩,ai6⟩:=hv;refine wp_loop_ghost (fun m a w=>∃ρ,Ag L n a [] ρ∧Same w0 w∧I m ρ w.heap) ?_ m0 a w ⟨ρ.keep ks,H.keep ks,hs,h0⟩;rintro m a' w'⟨sV,k1,k2,k3⟩;refine wp_mono (ih cx hx _ w0 a' sV w' k1 k2 (ai6 m sV w'.heap k3)) ?_;intro e a2 w2 hq;cases e with
   |normal=>
    obtain⟨ρ2,j1,j2,m',j3,j4⟩:=hq;exact⟨m',j3,ρ2.keep ks,j1.keep ks,j2,j4⟩
   |exit id=>exact hq
   |ret=>exact hq
   |_=>exact hq.elim
 |exit id=>intro cd h Q w0 a ρ w H hs hv;cases h;exact wp_exit ⟨ρ,H,hs,hv⟩
 |ret=>intro cd h Q w0 a ρ w H hs hv;cases h;exact wp_ret ⟨ρ,H,hs,hv⟩
 |rangeFunc _ _ _ _ _ _=>intro cd h;cases h
 |scope x ih=>
  intro cd h Q w0 a ρ w H hs hv;refine wp_scope_straight (wp_mono (ih cd h Q w0 a ρ w H hs hv) ?_);intro e a' w' hq;cases e with
  |normal=>exact hq
  |exit id=>exact hq
  |ret=>exact hq
  |_=>exact hq.elim
 |label _=>intro cd h Q w0 a ρ w H hs hv;cases h;exact wp_label ⟨ρ,H,hs,hv⟩
 |goto _=>intro cd h Q w0 a ρ w H hs hv;cases h;exact False.elim hv
 |refuse _=>intro cd h;cases h
end
def Nw:ResultVar→Nat × Option TypeId
 | .tmp t=>(t,none)
 | .cell t ty=>(t,some ty)
def GQ(fn:Func):List (Nat × Option TypeId):=fn.results.toList.map Nw
def kh{α:Type}(o:Option α)(K:α→Prop):Prop:=
 match o with
 |some v=>K v
 |none=>False
def QN(P:Program)(ρ:Env)(h:ar):Nat × Option TypeId→Option Value
 |(t,none)=>ρ.get t
 |(t,some ty)=>(ρ.get t).bind fun v=>rd P (do loadVar ty (←asAddr v)) h
def uD(P:Program)(ρ:Env)(h:ar):List (Nat × Option TypeId)→Option (List Value)
 |[]=>some []
 |t::r=>(QN P ρ h t).bind fun v=>(uD P ρ h r).map fun l=>v::l
def P0:List Value→Value
 |[v]=>v
 |l=> .tuple l.toArray
def gP(P:Program)(ts:List (Nat × Option TypeId))(R:Value→ar→Prop):Ex→Env→ar→Prop
 | .normal,ρ,h=>kh (uD P ρ h ts) fun l=>R (P0 l) h
 | .ret,ρ,h=>kh (uD P ρ h ts) fun l=>R (P0 l) h
 |_,_,_=>False
def oR(args:List Value):List Nat→Env
 |[]=>[]
 |t::r=>(t,args.getD t undef)::oR args r
theorem Ln(args:List Value):∀(L:List Nat)(t:Nat)(v:Value),(oR args L).get t=some v→L.contains t=true∧v=args.getD t undef:=by
 intro L
 induction L with
 |nil=>intro t v h;simp[oR,Env.get]at h
 |cons k r ih=>
  intro t v h;simp only[oR,Env.get]at h
  split at h
  ·rename_i he;subst he;cases h;exact⟨by simp,rfl⟩
  ·obtain⟨h1,h2⟩:=ih t v h
   exact⟨by simp only[List.contains_cons,h1,Bool.or_true],h2⟩
theorem afl{P:Program}{α:Type}(h:ar)(f:α→Sem Value):∀(l:List α)(vs:List Value),(l.map fun x=>rd P (f x) h)=vs.map some→rd P (l.mapM f) h=some vs:=by
 intro l
 induction l with
 |nil=>intro vs hv;cases vs with
  |nil=>rfl
  |cons v vs=>simp at hv
 |cons x l ih=>
  intro vs hv;cases vs with
  |nil=>simp at hv
  |cons v vs=>
   simp only[List.map_cons,List.cons.injEq]at hv;rw[List.mapM_cons,aM,hv.1,Option.bind_some,aM,ih vs hv.2];rfl
theorem Xs{P:Program}{fn:Func}{a:Act}{ρ:Env}(H:∀t v,ρ.get t=some v→a.tmps[t]? =some v){w:World}{l:List Value}(hl:uD P ρ w.heap (GQ fn)=some l):
 (results fn a.tmps).run P w= .ok (P0 l) w:=by
 refine qq _ w _ ?_;have DU:fn.results=fn.results.toList.toArray:=by simp
 unfold results;have key:∀(rs:List ResultVar)(l:List Value),uD P ρ w.heap (rs.map Nw)=some l→
  (rs.map fun x=>rd P (match x with| .tmp t=>pure (a.tmps.getD t undef)| .cell b t=>do loadVar t (←asAddr (a.tmps.getD b undef)):Sem Value) w.heap)=l.map some:=by
  intro rs
  induction rs with
  |nil=>intro l hl;simp only[List.map_nil,uD,Option.some.injEq]at hl;subst hl;rfl
  |cons r rs ih=>
   intro l hl;simp only[List.map_cons,uD]at hl;cases hv:QN P ρ w.heap (Nw r)with
   |none=>rw[hv]at hl;cases hl
   |some v=>
    rw[hv]at hl;simp only[Option.bind_some]at hl;cases hr:uD P ρ w.heap (rs.map Nw)with
    |none=>rw[hr]at hl;cases hl
    |some l'=>
     rw[hr]at hl;cases hl;simp only[List.map_cons];rw[ih l' hr]
     congr 1
     cases r with
     |tmp t=>
      simp only[Nw,QN]at hv;have:=H t v hv;simp[aZ,this]
     |cell t ty=>
      simp only[Nw,QN]at hv;cases hg:ρ.get t with
      |none=>rw[hg]at hv;cases hv
      |some u=>
       rw[hg]at hv;have:=H t u hg;simp only[Option.bind_some]at hv;have he:a.tmps.getD t undef=u:=by simp[this]
       simp only[he];exact hv
 have hk:=key fn.results.toList l hl;rw[aM,DU,List.mapM_toArray];have uE:∀(s:Sem (List Value)),rd P s w.heap=some l→rd P (Functor.map List.toArray s) w.heap=some l.toArray:=by
  intro s hs
  show rd P (s.bind fun x=>Sem.pure x.toArray) w.heap=_
  rw[Xk,hs];rfl
 rw[uE _ (afl w.heap _ fn.results.toList l ?_),Option.bind_some]
 ·match l with
  |[]=>rfl
  |[v]=>rfl
  |v::u::r=>simp[P0,aZ]
 ·exact(List.map_congr_left (fun x _=>by cases x<;>rfl)).trans hk
def Aj(P:Program)(L:List Nat)(fn:Func):Option Cd:=
 match fn.body with
 |some c=>strip P L fn.ntmps c
 |none=>none
theorem Tz{P:Program}{f:FuncId}{fn:Func}{cd:Cd}{L:List Nat}{ts:List (Nat × Option TypeId)}{args:List Value}{h:ar}{R:Value→ar→Prop}(hm:P.follows .mixedOrders=true)
 (hf:P.funcs[f]? =some fn)(hs:Aj P L fn=some cd)(hr:GQ fn=ts)(hn:args.length≤fn.ntmps∧L.all (fun t=>decide (t<fn.ntmps))=true)
 (hv:cd.vc P (gP P ts R) (oR args L) h):aF P f args.toArray h R:=by
 intro w hw;unfold Aj at hs;cases hb:fn.body with
 |none=>rw[hb]at hs;cases hs
 |some c=>
  rw[hb]at hs;simp only[]at hs;refine calls_of_wp hf hb ?_;have gB:(args.toArray++Array.replicate (fn.ntmps-args.toArray.size) undef).size=fn.ntmps:=by simp;omega
  have H:Ag L fn.ntmps {tmps:=args.toArray++Array.replicate (fn.ntmps-args.toArray.size) undef,defers:=[]} [] (oR args L):=by
   refine⟨rfl,gB,fun t v h=>by simp[Env.get]at h,?_,fun t v h=>by simp[Env.get]at h,fun t v h=>(Ln args L t v h).1⟩;intro t v h;obtain⟨h1,rfl⟩:=Ln args L t v h;have htn:t<fn.ntmps:=by
    have:=hn.2;rw[List.all_eq_true]at this;simpa using this t (by simpa using h1)
   by_cases hta:t<args.length
   ·simp[Array.getElem?_append,hta]
   ·have:t-args.length<fn.ntmps-args.length:=by omega
    simp[Array.getElem?_append,hta,this]
  refine wp_mono (ac7 hm c cd hs _ w _ _ w H (.refl w) (by rw[hw];exact hv)) ?_;intro e a' w' hq;have fin:∀ρ,Ag L fn.ntmps a' [] ρ→Same w w'→kh (uD P ρ w'.heap ts) (fun l=>R (P0 l) w'.heap)→
   a'.defers=[]∧∃v,(results fn a'.tmps).run P w'= .ok v w'∧(∃v',Ending.returned v= .returned v'∧Same w w'∧R v' w'.heap):=by
   intro ρ k1 k2 k3;cases hl:uD P ρ w'.heap ts with
   |none=>rw[hl]at k3;exact k3.elim
   |some l=>rw[hl]at k3;exact⟨k1.nod,P0 l,Xs (fun t v h=>k1.r1 t v h) (by rw[hr];exact hl),P0 l,rfl,k2,k3⟩
  cases e with
  |normal=>obtain⟨ρ,k1,k2,k3⟩:=hq;exact fin ρ k1 k2 k3
  |ret=>obtain⟨ρ,k1,k2,k3⟩:=hq;exact fin ρ k1 k2 k3
  |exit id=>obtain⟨ρ,k1,k2,k3⟩:=hq;exact k3.elim
  |_=>exact hq.elim
end
end Go.Vc
