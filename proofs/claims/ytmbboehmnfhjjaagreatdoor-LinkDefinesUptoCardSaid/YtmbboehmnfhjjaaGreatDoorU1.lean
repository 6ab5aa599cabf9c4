/- What each operation yields: the rewriting rules of the walk over heaps. No condition. Values: integers, strings, bools; what is read from the heap. No condition. Heaps: what is read, what is made, what is written. No condition. -/
import Derived.Test.YtmbboehmnfhjjaaGreatDoorU0
import Derived.WalkKit
import Derived.Deep.AppendSrc
import Derived.Laws.IdiomStrings
import Derived.Laws.CopyRow
set_option linter.unusedSimpArgs false
set_option linter.unusedVariables false
set_option linter.defProp false
namespace Go.Vc
section
abbrev nS:Value:= .slice none 0 0
abbrev az:=List UInt8
abbrev ao(n:Int):Value:= .int .i64 n
abbrev ax(n:Int):Value:= .int .u16 n
abbrev bH(n:Int):Value:= .int .u8 n
abbrev aE(b:Nat):Value:= .pointer (some ⟨b,0,none⟩)
def br(c:Prop)(x y:Unit→Prop):Prop:=(c→x ())∧(¬c→y ())
theorem Nx{c:Prop}{x y:Unit→Prop}(h1:c→x ())(h2:¬c→y ()):br c x y:=⟨h1,h2⟩
theorem afm{x y:Unit→Prop}:br True x y=x ():=by simp[br]
theorem ac8{x y:Unit→Prop}:br False x y=y ():=by simp[br]
theorem ai7{c:Prop}{x y:Unit→Prop}:br (¬c) x y=br c y x:=by
 unfold br;rw[Classical.not_not];exact propext ⟨fun h=>⟨h.2,h.1⟩,fun h=>⟨h.2,h.1⟩⟩
theorem Lo{c:Prop}{x y:Unit→Prop}(hc:c)(h:x ()):br c x y:=⟨fun _=>h,fun hn=>aww hc hn⟩
theorem aad{α:Type}{v:α}{K:α→Prop}:kh (some v) K=K v:=awx rfl
theorem aae{α:Type}{K:α→Prop}:kh none K=False:=awx rfl
theorem get_nil{t:Nat}:Env.get [] t=none:=awx rfl
theorem ac9{k t:Nat}{v:Value}{r:Env}:Env.get ((k,v)::r) t=if k=t then some v else Env.get r t:=awx rfl
theorem set_nil{t:Nat}{v:Value}:Env.set [] t v=[(t,v)]:=awx rfl
theorem ada{k t:Nat}{u v:Value}{r:Env}:Env.set ((k,u)::r) t v=if k=t then(k,v)::r else(k,u)::Env.set r t v:=awx rfl
theorem adb{ρ:Env}:Env.keep [] ρ=[]:=awx rfl
def acu(o:Option Value)(k:Nat)(r:Env):Env:=match o with
 |some v=>(k,v)::r
 |none=>r
theorem aaf{k:Nat}{ks:List Nat}{ρ:Env}:Env.keep (k::ks) ρ=acu (Env.get ρ k) k (Env.keep ks ρ):=by
 simp only[Env.keep,acu];cases Env.get ρ k<;>rfl
theorem aag{v:Value}{k:Nat}{r:Env}:acu (some v) k r=(k,v)::r:=awx rfl
theorem aah{k:Nat}{r:Env}:acu none k r=r:=awx rfl
theorem alW{τ ρ:Env}{t:Nat}:lk τ ρ t=(Env.get τ t).orElse fun _=>Env.get ρ t:=by unfold lk;cases Env.get τ t<;>rfl
theorem orElse_some{v:Value}{f:Unit→Option Value}:(some v).orElse f=some v:=awx rfl
theorem orElse_none{f:Unit→Option Value}:(none:Option Value).orElse f=f ():=awx rfl
theorem afn{τ ρ:Env}{t:Nat}:dC τ ρ (.tmp t)=lk τ ρ t:=awx rfl
theorem aai{τ ρ:Env}{v:Value}:dC τ ρ (.const v)=some v:=awx rfl
theorem ade{τ ρ:Env}{f:Nat}:dC τ ρ (.func f)=some (.func (.func f) #[] #[]):=awx rfl
theorem Xt{τ ρ:Env}{g:Nat}:dC τ ρ (.global g)=some (.pointer (some ⟨g,0,none⟩)):=awx rfl
theorem ai8{t:Nat}{v:Value}{τ:Env}:jq (some (t,false)) v τ=(t,v)::τ:=awx rfl
theorem ai9{t:Nat}{v:Value}{τ:Env}:jq (some (t,true)) v τ=τ:=awx rfl
theorem aja{v:Value}{τ:Env}:jq none v τ=τ:=awx rfl
theorem ajb{t:Nat}{v:Value}{ρ:Env}:jr (some (t,false)) v ρ=ρ:=awx rfl
theorem ajc{t:Nat}{v:Value}{ρ:Env}:jr (some (t,true)) v ρ=ρ.set t v:=awx rfl
theorem ajd{v:Value}{ρ:Env}:jr none v ρ=ρ:=awx rfl
theorem adf{args:List Value}:oR args []=[]:=awx rfl
theorem aaj{args:List Value}{t:Nat}{r:List Nat}:oR args (t::r)=(t,args.getD t undef)::oR args r:=awx rfl
theorem getD_nil{t:Nat}{u:Value}:([]:List Value).getD t u=u:=awx rfl
theorem aak{v u:Value}{r:List Value}:(v::r).getD 0 u=v:=awx rfl
theorem aal{t:Nat}{v u:Value}{r:List Value}:(v::r).getD (t+1) u=r.getD t u:=by simp
theorem aam{P:Program}{ρ:Env}{h:ar}:uD P ρ h []=some []:=awx rfl
theorem aje{P:Program}{ρ:Env}{h:ar}{t:Nat}:QN P ρ h (t,none)=Env.get ρ t:=awx rfl
def cellV(P:Program)(ty:TypeId)(h:ar)(v:Value):Option Value:=rd P (do loadVar ty (←asAddr v)) h
theorem ajf{P:Program}{ρ:Env}{h:ar}{t ty:Nat}:QN P ρ h (t,some ty)=(Env.get ρ t).bind (cellV P ty h):=awx rfl
theorem Xu{P:Program}{ρ:Env}{h:ar}{t:Nat × Option TypeId}{r:List (Nat × Option TypeId)}:uD P ρ h (t::r)=(QN P ρ h t).bind fun v=>(uD P ρ h r).map fun l=>v::l:=awx rfl
theorem afo{v:Value}:P0 [v]=v:=awx rfl
theorem afp:P0 []= .tuple #[]:=awx rfl
theorem afq{v u:Value}{r:List Value}:P0 (v::u::r)= .tuple (v::u::r).toArray:=awx rfl
section
variable{P:Program}
theorem afr{Q:Ex→Env→ar→Prop}{ρ:Env}{h:ar}:Cd.vc P .skip Q ρ h=Q .normal ρ h:=awx rfl
theorem ajg{Q:Ex→Env→ar→Prop}{ρ:Env}{h:ar}:Cd.vc P .ret Q ρ h=Q .ret ρ h:=awx rfl
theorem afs{Q:Ex→Env→ar→Prop}{ρ:Env}{h:ar}{id:Nat}:Cd.vc P (.exit id) Q ρ h=Q (.exit id) ρ h:=awx rfl
theorem ajh{Q:Ex→Env→ar→Prop}{ρ:Env}{h:ar}{a b:Cd}:Cd.vc P (.seq a b) Q ρ h=Cd.vc P a (Ex.thn (Cd.vc P b Q) Q) ρ h:=awx rfl
theorem adg{Q:Ex→Env→ar→Prop}{ρ:Env}{h:ar}{a:Cd}{id:Nat}:Cd.vc P (.block id a) Q ρ h=Cd.vc P a (Ex.Xm id Q) ρ h:=awx rfl
theorem aan{Q:Ex→Env→ar→Prop}{ρ:Env}{h:ar}{ops:List ep}:Cd.vc P (.region ops) Q ρ h=kL P (Q .normal) ops [] ρ h:=awx rfl
def ct(P:Program)(a:Cd)(Q:Ex→Env→ar→Prop)(ρ:Env)(h:ar):Unit→Prop:=fun _=>Cd.vc P a Q ρ h
def cc(P:Program)(a b:Cd)(Q:Ex→Env→ar→Prop)(ρ:Env)(h:ar):Bool→Prop:=fun t=>br (t=true) (ct P a Q ρ h) (ct P b Q ρ h)
theorem alX{Q:Ex→Env→ar→Prop}{ρ:Env}{h:ar}{a:Cd}{u:Unit}:ct P a Q ρ h u=Cd.vc P a Q ρ h:=awx rfl
theorem alY{Q:Ex→Env→ar→Prop}{ρ:Env}{h:ar}{a b:Cd}{t:Bool}:cc P a b Q ρ h t=br (t=true) (ct P a Q ρ h) (ct P b Q ρ h):=awx rfl
theorem aft{Q:Ex→Env→ar→Prop}{ρ:Env}{h:ar}{c:Operand}{a b:Cd}:
 Cd.vc P (.cond c a b) Q ρ h=kh ((dC [] ρ c).bind qg) (cc P a b Q ρ h):=by
 simp only[Cd.vc];cases(dC [] ρ c).bind qg with
 |none=>rfl
 |some t=>cases t<;>simp[kh,br,cc,ct]
theorem Xv{N:Env→ar→Prop}{Q:Ex→Env→ar→Prop}{ρ:Env}{h:ar}:Ex.thn N Q .normal ρ h=N ρ h:=awx rfl
theorem afu{N:Env→ar→Prop}{Q:Ex→Env→ar→Prop}{ρ:Env}{h:ar}:Ex.thn N Q .ret ρ h=Q .ret ρ h:=awx rfl
theorem adh{N:Env→ar→Prop}{Q:Ex→Env→ar→Prop}{ρ:Env}{h:ar}{id:Nat}:Ex.thn N Q (.exit id) ρ h=Q (.exit id) ρ h:=awx rfl
theorem Xw{Q:Ex→Env→ar→Prop}{ρ:Env}{h:ar}{id:Nat}:Ex.Xm id Q .normal ρ h=Q .normal ρ h:=awx rfl
theorem afv{Q:Ex→Env→ar→Prop}{ρ:Env}{h:ar}{id:Nat}:Ex.Xm id Q .ret ρ h=Q .ret ρ h:=awx rfl
theorem adi{Q:Ex→Env→ar→Prop}{ρ:Env}{h:ar}{id Z3:Nat}:Ex.Xm id Q (.exit Z3) ρ h=if Z3=id then Q .normal ρ h else Q (.exit Z3) ρ h:=awx rfl
def cr(R:Value→ar→Prop)(h:ar):List Value→Prop:=fun l=>R (P0 l) h
theorem alZ{R:Value→ar→Prop}{h:ar}{l:List Value}:cr R h l=R (P0 l) h:=awx rfl
theorem Xx{ts:List (Nat × Option TypeId)}{R:Value→ar→Prop}{ρ:Env}{h:ar}:gP P ts R .normal ρ h=kh (uD P ρ h ts) (cr R h):=awx rfl
theorem afw{ts:List (Nat × Option TypeId)}{R:Value→ar→Prop}{ρ:Env}{h:ar}:gP P ts R .ret ρ h=kh (uD P ρ h ts) (cr R h):=awx rfl
def afx(I:Nat→Env→ar→Prop)(ks:List Nat)(m:Nat):Env→ar→Prop:=fun sV h'=>∃m',m'<m∧I m' (Env.keep ks sV) h'
theorem adj{I:Nat→Env→ar→Prop}{ks:List Nat}{m:Nat}{ρ:Env}{h:ar}:afx I ks m ρ h=∃m',m'<m∧I m' (Env.keep ks ρ) h:=awx rfl
theorem aG{Q:Ex→Env→ar→Prop}{ρ:Env}{h:ar}{a:Cd}(ks:List Nat)(I:Nat→Env→ar→Prop)(h0:∃m,I m (Env.keep ks ρ) h)
 (hr:∀m ρ h,I m ρ h→Cd.vc P a (Ex.thn (afx I ks m) Q) ρ h):Cd.vc P (.loop a) Q ρ h:=⟨ks,I,h0,hr⟩
def lg(P:Program)(op:Op)(ty:TypeId)(τ ρ:Env)(h:ar):Option Value:=ri P ⟨none,op,ty,none,true⟩ τ ρ h
def li(P:Program)(op:Op)(ty:TypeId)(τ ρ:Env)(h:ar)(K:Value→ar→Prop):Prop:=Uq P ⟨none,op,ty,none,false⟩ τ ρ h K
theorem DV{d g:Option (Nat × Bool)}{op:Op}{ty:TypeId}{q:Bool}{τ ρ:Env}{h:ar}:ri P ⟨d,op,ty,g,q⟩ τ ρ h=lg P op ty τ ρ h:=by unfold lg ri;rfl
theorem Lp{d g:Option (Nat × Bool)}{op:Op}{ty:TypeId}{q:Bool}{τ ρ:Env}{h:ar}{K:Value→ar→Prop}:Uq P ⟨d,op,ty,g,q⟩ τ ρ h K=li P op ty τ ρ h K:=by unfold li Uq;rfl
theorem afy{K:Env→ar→Prop}{τ ρ:Env}{h:ar}:kL P K [] τ ρ h=K ρ h:=awx rfl
def kq(P:Program)(K:Env→ar→Prop)(r:List ep)(d:Option (Nat × Bool))(τ ρ:Env)(h:ar):Value→Prop:=fun v=>kL P K r (jq d v τ) (jr d v ρ) h
def ke(P:Program)(K:Env→ar→Prop)(r:List ep)(d:Option (Nat × Bool))(τ ρ:Env):Value→ar→Prop:=fun v h'=>kL P K r (jq d v τ) (jr d v ρ) h'
def kbq(P:Program)(K:Env→ar→Prop)(r:List ep)(d:Option (Nat × Bool))(op:Op)(ty:TypeId)(τ ρ:Env)(h:ar):Unit→Prop:=fun _=>kh (lg P op ty τ ρ h) (kq P K r d τ ρ h)
def kbe(P:Program)(K:Env→ar→Prop)(r:List ep)(d:Option (Nat × Bool))(op:Op)(ty:TypeId)(τ ρ:Env)(h:ar):Unit→Prop:=fun _=>li P op ty τ ρ h (ke P K r d τ ρ)
def kbu(P:Program)(K:Env→ar→Prop)(r:List ep)(d:Option (Nat × Bool))(τ ρ:Env)(h:ar):Unit→Prop:=fun _=>kL P K r (jq d undef τ) (jr d undef ρ) h
def kgq(P:Program)(K:Env→ar→Prop)(r:List ep)(d:Option (Nat × Bool))(op:Op)(ty:TypeId)(want:Bool)(τ ρ:Env)(h:ar):Value→Prop:=fun x=>br (qg x=some want) (kbq P K r d op ty τ ρ h) (kbu P K r d τ ρ h)
def kge(P:Program)(K:Env→ar→Prop)(r:List ep)(d:Option (Nat × Bool))(op:Op)(ty:TypeId)(want:Bool)(τ ρ:Env)(h:ar):Value→Prop:=fun x=>br (qg x=some want) (kbe P K r d op ty τ ρ h) (kbu P K r d τ ρ h)
theorem al2{K:Env→ar→Prop}{r:List ep}{d:Option (Nat × Bool)}{τ ρ:Env}{h:ar}{v:Value}:kq P K r d τ ρ h v=kL P K r (jq d v τ) (jr d v ρ) h:=awx rfl
theorem al3{K:Env→ar→Prop}{r:List ep}{d:Option (Nat × Bool)}{τ ρ:Env}{h:ar}{v:Value}:ke P K r d τ ρ v h=kL P K r (jq d v τ) (jr d v ρ) h:=awx rfl
theorem ajk{K:Env→ar→Prop}{r:List ep}{d:Option (Nat × Bool)}{op:Op}{ty:TypeId}{τ ρ:Env}{h:ar}{u:Unit}:kbq P K r d op ty τ ρ h u=kh (lg P op ty τ ρ h) (kq P K r d τ ρ h):=awx rfl
theorem ajl{K:Env→ar→Prop}{r:List ep}{d:Option (Nat × Bool)}{op:Op}{ty:TypeId}{τ ρ:Env}{h:ar}{u:Unit}:kbe P K r d op ty τ ρ h u=li P op ty τ ρ h (ke P K r d τ ρ):=awx rfl
theorem ajm{K:Env→ar→Prop}{r:List ep}{d:Option (Nat × Bool)}{τ ρ:Env}{h:ar}{u:Unit}:kbu P K r d τ ρ h u=kL P K r (jq d undef τ) (jr d undef ρ) h:=awx rfl
theorem ajn{K:Env→ar→Prop}{r:List ep}{d:Option (Nat × Bool)}{op:Op}{ty:TypeId}{want:Bool}{τ ρ:Env}{h:ar}{x:Value}:kgq P K r d op ty want τ ρ h x=br (qg x=some want) (kbq P K r d op ty τ ρ h) (kbu P K r d τ ρ h):=awx rfl
theorem ajo{K:Env→ar→Prop}{r:List ep}{d:Option (Nat × Bool)}{op:Op}{ty:TypeId}{want:Bool}{τ ρ:Env}{h:ar}{x:Value}:kge P K r d op ty want τ ρ h x=br (qg x=some want) (kbe P K r d op ty τ ρ h) (kbu P K r d τ ρ h):=awx rfl
theorem al4{K:Env→ar→Prop}{τ ρ:Env}{h:ar}{d:Option (Nat × Bool)}{op:Op}{ty:TypeId}{r:List ep}:
 kL P K (⟨d,op,ty,none,true⟩::r) τ ρ h=kh (lg P op ty τ ρ h) (kq P K r d τ ρ h):=by
 show kK P _ τ ρ h _=_
 simp only[kK,qn,aw0,DV];cases lg P op ty τ ρ h<;>rfl
theorem al5{K:Env→ar→Prop}{τ ρ:Env}{h:ar}{d:Option (Nat × Bool)}{op:Op}{ty:TypeId}{r:List ep}:
 kL P K (⟨d,op,ty,none,false⟩::r) τ ρ h=li P op ty τ ρ h (ke P K r d τ ρ):=by
 show kK P _ τ ρ h _=_
 simp only[kK,qn,awj,aw1,Lp];rfl
theorem ajp{K:Env→ar→Prop}{τ ρ:Env}{h:ar}{d:Option (Nat × Bool)}{op:Op}{ty:TypeId}{r:List ep}{g:Nat}{want:Bool}:
 kL P K (⟨d,op,ty,some (g,want),true⟩::r) τ ρ h=kh (lk τ ρ g) (kgq P K r d op ty want τ ρ h):=by
 show kK P _ τ ρ h _=_
 simp only[kK,qn,aw0,DV];cases lk τ ρ g with
 |none=>rfl
 |some x=>by_cases hx:qg x=some want<;>simp only[hx,br,kh,kgq,kbq,kbu,kq]<;>cases lg P op ty τ ρ h<;>simp[]
theorem ajq{K:Env→ar→Prop}{τ ρ:Env}{h:ar}{d:Option (Nat × Bool)}{op:Op}{ty:TypeId}{r:List ep}{g:Nat}{want:Bool}:
 kL P K (⟨d,op,ty,some (g,want),false⟩::r) τ ρ h=kh (lk τ ρ g) (kge P K r d op ty want τ ρ h):=by
 show kK P _ τ ρ h _=_
 simp only[kK,qn,awj,aw1,Lp];cases lk τ ρ g with
 |none=>rfl
 |some x=>by_cases hx:qg x=some want<;>simp[hx,br,kh,kge,kbe,kbu]<;>rfl
theorem afz{Q:Ex→Env→ar→Prop}{ρ:Env}{h:ar}{t:Dt}:Cd.vc P (.tree t) Q ρ h=pA P (Q .normal) t [] ρ h:=awx rfl
theorem afA{K:Env→ar→Prop}{τ ρ:Env}{h:ar}{a b:Dt}:pA P K (.both a b) τ ρ h=(pA P K a τ ρ h∧pA P K b τ ρ h):=awx rfl
theorem afB{K:Env→ar→Prop}{τ ρ:Env}{h:ar}:pA P K .done τ ρ h=K ρ h:=awx rfl
def tq(P:Program)(K:Env→ar→Prop)(r:Dt)(d:Option (Nat × Bool))(τ ρ:Env)(h:ar):Value→Prop:=fun v=>pA P K r (jq d v τ) (jr d v ρ) h
def te(P:Program)(K:Env→ar→Prop)(re:List ep)(r:Dt)(d:Option (Nat × Bool))(τ ρ:Env):Value→ar→Prop:=fun v h'=>lf P re (jq d v τ) (jr d v ρ) h'∧pA P K r (jq d v τ) (jr d v ρ) h'
def tbq(P:Program)(K:Env→ar→Prop)(r:Dt)(d:Option (Nat × Bool))(op:Op)(ty:TypeId)(τ ρ:Env)(h:ar):Unit→Prop:=fun _=>kh (lg P op ty τ ρ h) (tq P K r d τ ρ h)
def tbe(P:Program)(K:Env→ar→Prop)(re:List ep)(r:Dt)(d:Option (Nat × Bool))(op:Op)(ty:TypeId)(τ ρ:Env)(h:ar):Unit→Prop:=fun _=>li P op ty τ ρ h (te P K re r d τ ρ)
def tbu(P:Program)(K:Env→ar→Prop)(re:List ep)(r:Dt)(d:Option (Nat × Bool))(τ ρ:Env)(h:ar):Unit→Prop:=fun _=>lf P re (jq d undef τ) (jr d undef ρ) h∧pA P K r (jq d undef τ) (jr d undef ρ) h
def tgq(P:Program)(K:Env→ar→Prop)(r:Dt)(d:Option (Nat × Bool))(op:Op)(ty:TypeId)(want:Bool)(τ ρ:Env)(h:ar):Value→Prop:=fun x=>br (qg x=some want) (tbq P K r d op ty τ ρ h) (tbu P K [] r d τ ρ h)
def tge(P:Program)(K:Env→ar→Prop)(re:List ep)(r:Dt)(d:Option (Nat × Bool))(op:Op)(ty:TypeId)(want:Bool)(τ ρ:Env)(h:ar):Value→Prop:=fun x=>br (qg x=some want) (tbe P K re r d op ty τ ρ h) (tbu P K re r d τ ρ h)
theorem al8{K:Env→ar→Prop}{r:Dt}{d:Option (Nat × Bool)}{τ ρ:Env}{h:ar}{v:Value}:tq P K r d τ ρ h v=pA P K r (jq d v τ) (jr d v ρ) h:=awx rfl
theorem al9{K:Env→ar→Prop}{re:List ep}{r:Dt}{d:Option (Nat × Bool)}{τ ρ:Env}{h:ar}{v:Value}:te P K re r d τ ρ v h=(lf P re (jq d v τ) (jr d v ρ) h∧pA P K r (jq d v τ) (jr d v ρ) h):=awx rfl
theorem ajt{K:Env→ar→Prop}{r:Dt}{d:Option (Nat × Bool)}{op:Op}{ty:TypeId}{τ ρ:Env}{h:ar}{u:Unit}:tbq P K r d op ty τ ρ h u=kh (lg P op ty τ ρ h) (tq P K r d τ ρ h):=awx rfl
theorem aju{K:Env→ar→Prop}{re:List ep}{r:Dt}{d:Option (Nat × Bool)}{op:Op}{ty:TypeId}{τ ρ:Env}{h:ar}{u:Unit}:tbe P K re r d op ty τ ρ h u=li P op ty τ ρ h (te P K re r d τ ρ):=awx rfl
theorem ajv{K:Env→ar→Prop}{re:List ep}{r:Dt}{d:Option (Nat × Bool)}{τ ρ:Env}{h:ar}{u:Unit}:tbu P K re r d τ ρ h u=(lf P re (jq d undef τ) (jr d undef ρ) h∧pA P K r (jq d undef τ) (jr d undef ρ) h):=awx rfl
theorem ajw{K:Env→ar→Prop}{r:Dt}{d:Option (Nat × Bool)}{op:Op}{ty:TypeId}{want:Bool}{τ ρ:Env}{h:ar}{x:Value}:tgq P K r d op ty want τ ρ h x=br (qg x=some want) (tbq P K r d op ty τ ρ h) (tbu P K [] r d τ ρ h):=awx rfl
theorem ajx{K:Env→ar→Prop}{re:List ep}{r:Dt}{d:Option (Nat × Bool)}{op:Op}{ty:TypeId}{want:Bool}{τ ρ:Env}{h:ar}{x:Value}:tge P K re r d op ty want τ ρ h x=br (qg x=some want) (tbe P K re r d op ty τ ρ h) (tbu P K re r d τ ρ h):=awx rfl
theorem ao5{K:Env→ar→Prop}{τ ρ:Env}{h:ar}{d:Option (Nat × Bool)}{op:Op}{ty:TypeId}{r:Dt}:
 pA P K (.run ⟨d,op,ty,none,true⟩ [] r) τ ρ h=kh (lg P op ty τ ρ h) (tq P K r d τ ρ h):=by
 show kK P _ τ ρ h _=_
 simp only[kK,qn,aw0,DV,lf,aw5];cases lg P op ty τ ρ h<;>rfl
theorem ao6{K:Env→ar→Prop}{τ ρ:Env}{h:ar}{d:Option (Nat × Bool)}{op:Op}{ty:TypeId}{re:List ep}{r:Dt}:
 pA P K (.run ⟨d,op,ty,none,false⟩ re r) τ ρ h=li P op ty τ ρ h (te P K re r d τ ρ):=by
 show kK P _ τ ρ h _=_
 simp only[kK,qn,awj,aw1,Lp];rfl
theorem ama{K:Env→ar→Prop}{τ ρ:Env}{h:ar}{d:Option (Nat × Bool)}{op:Op}{ty:TypeId}{r:Dt}{g:Nat}{want:Bool}:
 pA P K (.run ⟨d,op,ty,some (g,want),true⟩ [] r) τ ρ h=kh (lk τ ρ g) (tgq P K r d op ty want τ ρ h):=by
 show kK P _ τ ρ h _=_
 simp only[kK,qn,aw0,lf,aw5,DV];cases lk τ ρ g with
 |none=>rfl
 |some x=>by_cases hx:qg x=some want<;>simp only[hx,br,kh,tgq,tbq,tbu,tq,lf]<;>cases lg P op ty τ ρ h<;>simp[]
theorem amb{K:Env→ar→Prop}{τ ρ:Env}{h:ar}{d:Option (Nat × Bool)}{op:Op}{ty:TypeId}{re:List ep}{r:Dt}{g:Nat}{want:Bool}:
 pA P K (.run ⟨d,op,ty,some (g,want),false⟩ re r) τ ρ h=kh (lk τ ρ g) (tge P K re r d op ty want τ ρ h):=by
 show kK P _ τ ρ h _=_
 simp only[kK,qn,awj,aw1,Lp];cases lk τ ρ g with
 |none=>rfl
 |some x=>by_cases hx:qg x=some want<;>simp[hx,br,kh,tge,tbe,tbu]<;>rfl
theorem Xy{τ ρ:Env}{h:ar}:lf P [] τ ρ h=True:=awx rfl
theorem VA{τ ρ:Env}{h:ar}{t:Nat}{l:Bool}{op:Op}{ty:TypeId}{q:Bool}{r:List ep}:
 lf P (⟨some (t,l),op,ty,none,q⟩::r) τ ρ h=((lg P op ty τ ρ h=lk τ ρ t∧(lk τ ρ t).isSome=true)∧lf P r τ ρ h):=rfl
theorem TA{τ ρ:Env}{h:ar}{t:Nat}{l:Bool}{op:Op}{ty:TypeId}{q:Bool}{r:List ep}{g:Nat}{want:Bool}:
 lf P (⟨some (t,l),op,ty,some (g,want),q⟩::r) τ ρ h=(kh (lk τ ρ g) (fun v=>qg v=some want→lg P op ty τ ρ h=lk τ ρ t∧(lk τ ρ t).isSome=true)∧lf P r τ ρ h):=by
 simp only[lf,still,DV];cases lk τ ρ g<;>rfl
theorem adk{b:Bool}:qg (.bool b)=some b:=awx rfl
theorem aaq:qg undef=none:=awx rfl
theorem QO{τ ρ:Env}{op:Op}{x:Operand}(h:op.operands=#[x]):known τ ρ op↔(dC τ ρ x).isSome=true:=by simp[known,h]
theorem Lq{τ ρ:Env}{op:Op}{x y:Operand}(h:op.operands=#[x,y]):known τ ρ op↔(dC τ ρ x).isSome=true∧(dC τ ρ y).isSome=true:=by simp[known,h]
theorem uF{op:Op}{ty:TypeId}{τ ρ:Env}{h:ar}{x:Operand}(ho:op.operands=#[x])(f:Value→Option Value)
 (hf:∀e:Operand→Value,valOf (rd P (execOp e (ep.oper ⟨none,op,ty,none,true⟩)) h)=f (e x)):lg P op ty τ ρ h=(dC τ ρ x).bind f:=by
 unfold lg ri;cases hx:dC τ ρ x with
 |none=>rw[av9 (by rw[QO ho];simp[hx])];rfl
 |some v=>rw[awa (by rw[QO ho];simp[hx]),hf];simp[js,hx]
theorem JH{op:Op}{ty:TypeId}{τ ρ:Env}{h:ar}{x y:Operand}(ho:op.operands=#[x,y])(f:Value→Value→Option Value)
 (hf:∀e:Operand→Value,valOf (rd P (execOp e (ep.oper ⟨none,op,ty,none,true⟩)) h)=f (e x) (e y)):lg P op ty τ ρ h=(dC τ ρ x).bind fun a=>(dC τ ρ y).bind fun b=>f a b:=by
 unfold lg ri;cases hx:dC τ ρ x with
 |none=>rw[av9 (by rw[Lq ho];simp[hx])];rfl
 |some v=>
  cases hy:dC τ ρ y with
  |none=>rw[av9 (by rw[Lq ho];simp[hy])];rfl
  |some u=>rw[awa (by rw[Lq ho];simp[hx,hy]),hf];simp[js,hx,hy]
theorem ki{s:Sem Value}{h:ar}:valOf (rd P (do pure (Next.value (←s))) h)=rd P s h:=by
 rw[aM];cases rd P s h<;>rfl
theorem adl{x:Operand}{ty:TypeId}{τ ρ:Env}{h:ar}:lg P (.move x) ty τ ρ h=dC τ ρ x:=by
 rw[uF (x:=x) rfl some fun e=>rfl];cases dC τ ρ x<;>rfl
theorem Xz{x:Operand}{ty:TypeId}{τ ρ:Env}{h:ar}:lg P (.assign x) ty τ ρ h=dC τ ρ x:=by
 rw[uF (x:=x) rfl some fun e=>rfl];cases dC τ ρ x<;>rfl
def aar(c a b:Value):Option Value:=match qg c with
 |some t=>some (if t=true then a else b)
 |none=>none
theorem XA{t:Bool}{a b:Value}:aar (.bool t) a b=some (if t=true then a else b):=awx rfl
theorem adn{c x y:Operand}{ty:TypeId}{τ ρ:Env}{h:ar}:lg P (.pick c x y) ty τ ρ h=(dC τ ρ c).bind fun vc=>(dC τ ρ x).bind fun a=>(dC τ ρ y).bind fun b=>aar vc a b:=by
 unfold lg ri;have hk:known τ ρ (.pick c x y)↔(dC τ ρ c).isSome=true∧(dC τ ρ x).isSome=true∧(dC τ ρ y).isSome=true:=by simp[known,Op.operands]
 cases hc:dC τ ρ c with
 |none=>rw[av9 (by rw[hk];simp[hc])];rfl
 |some vc=>
  cases hx:dC τ ρ x with
  |none=>rw[av9 (by rw[hk];simp[hx])];rfl
  |some vx=>
   cases hy:dC τ ρ y with
   |none=>rw[av9 (by rw[hk];simp[hy])];rfl
   |some vy=>
    rw[awa (by rw[hk];simp[hc,hx,hy])];simp only[execOp,ep.oper,js,hc,hx,hy,Option.getD_some,awc,aM,aar];cases vc<;>first|rfl|(simp only[asBool,qg];cases‹Bool›<;>rfl)
def exV(v:Value)(i:Nat):Option Value:=match v with
 | .tuple vs=>vs[i]?
 |_=>none
theorem aas{vs:Array Value}{i:Nat}:exV (.tuple vs) i=vs[i]? :=awx rfl
theorem VB{x:Operand}{i:Nat}{ty:TypeId}{τ ρ:Env}{h:ar}:lg P (.extract x i) ty τ ρ h=(dC τ ρ x).bind fun v=>exV v i:=by
 rw[uF (x:=x) rfl (fun v=>exV v i) fun e=>?_];simp only[execOp,ep.oper,ki];generalize e x=v;cases v<;>first|rfl|skip
 rename_i vs;simp only[Instr.extract,exV];cases vs[i]? <;>rfl
def ej(P:Program)(op:BinOp)(t:TypeId)(x y:Operand)(a b:Value)(h:ar):Option Value:=rd P (do eqGuard op t x y a b;binOp op t a b) h
theorem afC{op:BinOp}{t yt:TypeId}{x y:Operand}{ty:TypeId}{τ ρ:Env}{h:ar}:lg P (.binOp op t x y yt) ty τ ρ h=(dC τ ρ x).bind fun a=>(dC τ ρ y).bind fun b=>ej P op t x y a b h:=by
 rw[JH (x:=x) (y:=y) rfl (fun a b=>ej P op t x y a b h) fun e=>?_];simp only[execOp,ep.oper,ki];rfl
def unE(P:Program)(op:UnOp)(a:Value)(h:ar):Option Value:=rd P (Op.unary op a) h
theorem ajA{op:UnOp}{t:TypeId}{x:Operand}{ty:TypeId}{τ ρ:Env}{h:ar}:lg P (.unOp op t x) ty τ ρ h=(dC τ ρ x).bind fun a=>unE P op a h:=by
 rw[uF (x:=x) rfl (fun a=>unE P op a h) fun e=>?_];simp only[execOp,ep.oper,ki];rfl
def oS(P:Program)(s d:TypeId)(a:Value)(h:ar):Option Value:=rd P (convert s d a) h
theorem ajB{s d:TypeId}{x:Operand}{ty:TypeId}{τ ρ:Env}{h:ar}:lg P (.convert s d x) ty τ ρ h=(dC τ ρ x).bind fun a=>oS P s d a h:=by
 rw[uF (x:=x) rfl (fun a=>oS P s d a h) fun e=>?_];simp only[execOp,ep.oper,ki];rfl
def ldE(P:Program)(t:TypeId)(a:Value)(h:ar):Option Value:=rd P (Instr.loadAt t a) h
def ld(P:Program)(t:TypeId)(a:Addr)(h:ar):Option Value:=rd P (loadVar t a) h
theorem ado{ty:TypeId}{a:Addr}{h:ar}:cellV P ty h (.pointer (some a))=ld P ty a h:=awx rfl
theorem ajC{t:TypeId}{x:Operand}{ty:TypeId}{τ ρ:Env}{h:ar}:lg P (.load t x) ty τ ρ h=(dC τ ρ x).bind fun a=>ldE P t a h:=by
 rw[uF (x:=x) rfl (fun a=>ldE P t a h) fun e=>?_];simp only[execOp,ep.oper,ki];rfl
theorem afD{t:TypeId}{a:Addr}{h:ar}:ldE P t (.pointer (some a)) h=ld P t a h:=awx rfl
def faE(P:Program)(s:TypeId)(a:Value)(f:Nat)(h:ar):Option Value:=rd P (Instr.fieldAt s a f) h
theorem ajD{s:TypeId}{f:Nat}{x:Operand}{ty:TypeId}{τ ρ:Env}{h:ar}:lg P (.fieldAddr s x f) ty τ ρ h=(dC τ ρ x).bind fun a=>faE P s a f h:=by
 rw[uF (x:=x) rfl (fun a=>faE P s a f h) fun e=>?_];simp only[execOp,ep.oper,ki];rfl
def fdE(P:Program)(s:TypeId)(a:Value)(f:Nat)(h:ar):Option Value:=rd P (Instr.field s a f) h
theorem ajE{s:TypeId}{f:Nat}{x:Operand}{ty:TypeId}{τ ρ:Env}{h:ar}:lg P (.field s x f) ty τ ρ h=(dC τ ρ x).bind fun a=>fdE P s a f h:=by
 rw[uF (x:=x) rfl (fun a=>fdE P s a f h) fun e=>?_];simp only[execOp,ep.oper,ki];rfl
def TB(P:Program)(t:TypeId)(a i:Value)(h:ar):Option Value:=rd P (Instr.indexAt t a i) h
theorem ajF{t:TypeId}{x i:Operand}{ty:TypeId}{τ ρ:Env}{h:ar}:lg P (.indexAddr t x i) ty τ ρ h=(dC τ ρ x).bind fun a=>(dC τ ρ i).bind fun b=>TB P t a b h:=by
 rw[JH (x:=x) (y:=i) rfl (fun a b=>TB P t a b h) fun e=>?_];simp only[execOp,ep.oper,ki];rfl
def ixE(P:Program)(t:TypeId)(a i:Value)(h:ar):Option Value:=rd P (Instr.index t a i) h
theorem ajG{t:TypeId}{x i:Operand}{ty:TypeId}{τ ρ:Env}{h:ar}:lg P (.index t x i) ty τ ρ h=(dC τ ρ x).bind fun a=>(dC τ ρ i).bind fun b=>ixE P t a b h:=by
 rw[JH (x:=x) (y:=i) rfl (fun a b=>ixE P t a b h) fun e=>?_];simp only[execOp,ep.oper,ki];rfl
def vT(P:Program)(t:TypeId)(a i:Value)(ok:Bool)(h:ar):Option Value:=rd P (Instr.lookup t a i ok) h
theorem XB{t:TypeId}{x i:Operand}{ok:Bool}{ty:TypeId}{τ ρ:Env}{h:ar}:lg P (.lookup t x i ok) ty τ ρ h=(dC τ ρ x).bind fun a=>(dC τ ρ i).bind fun b=>vT P t a b ok h:=by
 rw[JH (x:=x) (y:=i) rfl (fun a b=>vT P t a b ok h) fun e=>?_];simp only[execOp,ep.oper,ki];rfl
def Lr(P:Program)(t ty:TypeId)(a:Value)(h:ar):Option Value:=rd P (Builtin.len_ #[t] ty #[a]) h
theorem afF{t:TypeId}{x:Operand}{ty:TypeId}{τ ρ:Env}{h:ar}:lg P (.call {callee:= .builtin .len,args:=#[x],argTypes:=#[t]}) ty τ ρ h=(dC τ ρ x).bind fun a=>Lr P t ty a h:=by
 rw[uF (x:=x) (by rfl) (fun a=>Lr P t ty a h) fun e=>?_];simp only[execOp,ep.oper,resolve,invoke,builtin,aM,aZ,awc,axe,awH,awI]
 show valOf ((rd P (Builtin.len_ #[t] ty #[e x]) h).bind fun v=>rd P (pure (Next.value v)) h)=_
 unfold Lr;cases rd P (Builtin.len_ #[t] ty #[e x]) h<;>rfl
def og(P:Program)(t:TypeId)(a:Value)(lo hi mx:Option Value)(h:ar):Option Value:=rd P (Instr.sliceAt t a lo hi mx) h
theorem adq{t:TypeId}{x:Operand}{ty:TypeId}{τ ρ:Env}{h:ar}:lg P (.slice t x none none none) ty τ ρ h=(dC τ ρ x).bind fun a=>og P t a none none none h:=by
 rw[uF (x:=x) (by rfl) (fun a=>og P t a none none none h) fun e=>?_];simp only[execOp,ep.oper,ki];rfl
theorem adr{t:TypeId}{x l:Operand}{ty:TypeId}{τ ρ:Env}{h:ar}:lg P (.slice t x (some l) none none) ty τ ρ h=(dC τ ρ x).bind fun a=>(dC τ ρ l).bind fun b=>og P t a (some b) none none h:=by
 rw[JH (x:=x) (y:=l) (by rfl) (fun a b=>og P t a (some b) none none h) fun e=>?_];simp only[execOp,ep.oper,ki];rfl
theorem ads{t:TypeId}{x u:Operand}{ty:TypeId}{τ ρ:Env}{h:ar}:lg P (.slice t x none (some u) none) ty τ ρ h=(dC τ ρ x).bind fun a=>(dC τ ρ u).bind fun b=>og P t a none (some b) none h:=by
 rw[JH (x:=x) (y:=u) (by rfl) (fun a b=>og P t a none (some b) none h) fun e=>?_];simp only[execOp,ep.oper,ki];rfl
theorem aat{t:TypeId}{x l u:Operand}{ty:TypeId}{τ ρ:Env}{h:ar}:lg P (.slice t x (some l) (some u) none) ty τ ρ h=(dC τ ρ x).bind fun a=>(dC τ ρ l).bind fun b=>(dC τ ρ u).bind fun c=>og P t a (some b) (some c) none h:=by
 unfold lg ri;have hk:known τ ρ (.slice t x (some l) (some u) none)↔(dC τ ρ x).isSome=true∧(dC τ ρ l).isSome=true∧(dC τ ρ u).isSome=true:=by simp[known,Op.operands]
 cases hc:dC τ ρ x with
 |none=>rw[av9 (by rw[hk];simp[hc])];rfl
 |some vc=>
  cases hx:dC τ ρ l with
  |none=>rw[av9 (by rw[hk];simp[hx])];rfl
  |some vx=>
   cases hy:dC τ ρ u with
   |none=>rw[av9 (by rw[hk];simp[hy])];rfl
   |some vy=>
    rw[awa (by rw[hk];simp[hc,hx,hy])];simp only[execOp,ep.oper,js,hc,hx,hy,Option.getD_some,awc,ki,axc];rfl
def ncE(P:Program)(a:Value)(h:ar):Option Value:=valOf (rd P (execOp (fun _=>a) (ep.oper ⟨none, .nilCheck (.tmp 0),0,none,true⟩)) h)
theorem afG{a:Addr}{h:ar}:ncE P (.pointer (some a)) h=some (.pointer (some a)):=awx rfl
theorem ajH{x:Operand}{ty:TypeId}{τ ρ:Env}{h:ar}:lg P (.nilCheck x) ty τ ρ h=(dC τ ρ x).bind fun a=>ncE P a h:=by
 rw[uF (x:=x) rfl (fun a=>ncE P a h) fun e=>?_];rfl
def qv(τ ρ:Env):List Operand→Option (List Value)
 |[]=>some []
 |x::r=>(dC τ ρ x).bind fun v=>(qv τ ρ r).map fun l=>v::l
theorem afH{τ ρ:Env}:qv τ ρ []=some []:=awx rfl
theorem adt{τ ρ:Env}{x:Operand}{r:List Operand}:qv τ ρ (x::r)=(dC τ ρ x).bind fun v=>(qv τ ρ r).map fun l=>v::l:=awx rfl
theorem yu{τ ρ:Env}:∀(l:List Operand)(vs:List Value),qv τ ρ l=some vs→(∀x∈l,(dC τ ρ x).isSome=true)∧l.map (js τ ρ)=vs:=by
 intro l
 induction l with
 |nil=>intro vs h;cases h;exact⟨by simp,rfl⟩
 |cons x r ih=>
  intro vs h;simp only[qv]at h;cases hx:dC τ ρ x with
  |none=>rw[hx]at h;cases h
  |some v=>
   rw[hx]at h;cases hr:qv τ ρ r with
   |none=>rw[hr]at h;cases h
   |some l'=>
    rw[hr]at h;cases h;obtain⟨h1,h2⟩:=ih l' hr;refine⟨?_,by simp[js,hx,←h2]⟩;intro y hy;rcases awL.1 hy with hy|hy
    ·rw[hy,hx];rfl
    ·exact h1 y hy
def mkF(fn:Fn)(vs:List Value):Option Value:=some (.func fn #[] vs.toArray)
theorem XC{fn:Fn}{cap:List Operand}{ty:TypeId}{τ ρ:Env}{h:ar}:lg P (.makeFunc fn #[] cap.toArray) ty τ ρ h=(qv τ ρ cap).bind (mkF fn):=by
 unfold lg ri;have hk:known τ ρ (.makeFunc fn #[] cap.toArray)↔∀x∈cap,(dC τ ρ x).isSome=true:=by simp[known,Op.operands]
 cases hv:qv τ ρ cap with
 |some vs=>
  obtain⟨h1,h2⟩:=yu cap vs hv;rw[awa (hk.2 h1)];simp only[execOp,ep.oper,axe,h2];rfl
 |none=>
  rw[av9]
  ·rfl
  ·intro hh
   have h1:=hk.1 hh;have:∀(l:List Operand),(∀x∈l,(dC τ ρ x).isSome=true)→∃vs,qv τ ρ l=some vs:=by
    intro l
    induction l with
    |nil=>intro _;exact⟨[],rfl⟩
    |cons x r ih=>
     intro hx;obtain⟨v,hv⟩:=Option.isSome_iff_exists.1 (hx x List.mem_cons_self);obtain⟨vs,Z7⟩:=ih fun y hy=>hx y (List.mem_cons_of_mem _ hy);exact⟨v::vs,by simp[qv,hv,Z7]⟩
   obtain⟨vs,Z7⟩:=this cap h1;rw[hv]at Z7;cases Z7
theorem ajI{fn:Fn}{vs:List Value}:mkF fn vs=some (.func fn #[] vs.toArray):=awx rfl
def pU(P:Program)(f:FuncId):Bool:=match P.funcs[f]? with
 |some fn=>fn.body.isSome&& !(fn.name== "runtime.NumGoroutine")
 |none=>false
theorem VC{f:FuncId}(hc:pU P f=true)(args:Array Value)(h:ar)(K:Next→ar→Prop):hr P (callFunc f args) h K=K (.enter f args) h:=by
 unfold pU at hc;cases hf:P.funcs[f]? with
 |none=>rw[hf]at hc;cases hc
 |some fn=>
  rw[hf]at hc;simp only[awm,Bool.not_eq_true']at hc;unfold callFunc;rw[uk]
  show hr P (match P.funcs[f]? with|none=>_|some fn=>_) h K=_
  rw[hf];simp only[hc.2,awj,aw1];have hb:fn.body.isNone=false:=by cases hx:fn.body with
   |none=>rw[hx]at hc;cases hc.1
   |some c=>rfl
  simp only[hb,awj,aw1];rfl
def QP(P:Program)(f:Value)(vs:List Value)(h:ar)(K:Value→ar→Prop):Prop:=match f with
 | .func (.func g) first cap=>pU P g=true∧aF P g (first++vs.toArray++cap) h K
 |_=>False
theorem Uv{g:FuncId}{first cap:Array Value}{vs:List Value}{h:ar}{K:Value→ar→Prop}:QP P (.func (.func g) first cap) vs h K=(pU P g=true∧aF P g (first.toList++vs++cap.toList).toArray h K):=by
 rw[show(first.toList++vs++cap.toList).toArray=first++vs.toArray++cap by apply Array.toList_inj.1;simp];rfl
def QQ(P:Program)(h:ar)(K:Value→ar→Prop)(fv:Value):List Value→Prop:=fun vs=>QP P fv vs h K
def aau(P:Program)(τ ρ:Env)(args:List Operand)(h:ar)(K:Value→ar→Prop):Value→Prop:=fun fv=>kh (qv τ ρ args) (QQ P h K fv)
theorem adu{h:ar}{K:Value→ar→Prop}{fv:Value}{vs:List Value}:QQ P h K fv vs=QP P fv vs h K:=awx rfl
theorem adv{τ ρ:Env}{args:List Operand}{h:ar}{K:Value→ar→Prop}{fv:Value}:aau P τ ρ args h K fv=kh (qv τ ρ args) (QQ P h K fv):=awx rfl
theorem dk{f:Operand}{args:List Operand}{eU:Array TypeId}{ty:TypeId}{τ ρ:Env}{h:ar}{K:Value→ar→Prop}
 (H:kh (dC τ ρ f) (aau P τ ρ args h K)):li P (.call {callee:= .value f,args:=args.toArray,argTypes:=eU}) ty τ ρ h K:=by
 cases hf:dC τ ρ f with
 |none=>rw[hf]at H;exact H.elim
 |some fv=>
  rw[hf]at H;simp only[kh,aau]at H;cases hv:qv τ ρ args with
  |none=>rw[hv]at H;exact H.elim
  |some vs=>
   rw[hv]at H;simp only[QQ]at H;obtain⟨k1,k2⟩:=yu args vs hv;cases fv<;>simp only[QP]at H
   rename_i fn first cap;cases fn<;>simp only[]at H
   rename_i g;refine⟨?_,?_⟩
   ·intro x hx
    simp only[Op.operands,Call.operands]at hx;rcases Array.mem_append.1 hx with hx|hx
    ·simp at hx;subst hx;rw[hf];rfl
    ·exact k1 x (by simpa using hx)
   ·simp only[execOp,ep.oper,resolve]
    refine uj ?_;rw[uk];have he:js τ ρ f= .func (.func g) first cap:=by simp[js,hf]
    rw[he]
    show hr P (callFunc g (first++args.toArray.map (js τ ρ)++cap)) h _
    rw[VC H.1,axe,k2];exact H.2
theorem JI{g:FuncId}{args:List Operand}{eU:Array TypeId}{ty:TypeId}{τ ρ:Env}{h:ar}{K:Value→ar→Prop}{vs:List Value}
 (hv:qv τ ρ args=some vs)(H:aF P g vs.toArray h K)(hc:pU P g=true:=by kernel_rfl):li P (.call {callee:= .value (.func g),args:=args.toArray,argTypes:=eU}) ty τ ρ h K:=by
 refine dk ?_
 show kh (qv τ ρ args) (QQ P h K (.func (.func g) #[] #[]))
 rw[hv]
 show QP P (.func (.func g) #[] #[]) vs h K
 rw[Uv];exact⟨hc,by simpa using H⟩
theorem aj{g:FuncId}{args:List Operand}{eU:Array TypeId}{ty:TypeId}{τ ρ:Env}{h:ar}{K Q:Value→ar→Prop}{vs:List Value}
 (hv:qv τ ρ args=some vs)(H:aF P g vs.toArray h Q)(k:∀v h',Q v h'→K v h')(hc:pU P g=true:=by kernel_rfl):li P (.call {callee:= .value (.func g),args:=args.toArray,argTypes:=eU}) ty τ ρ h K:=
 JI hv (H.mono k) hc
end
theorem gv{a b:Cd}(e:a=b):∀(P:Program)(Q:Ex→Env→ar→Prop)(ρ:Env)(h:ar),Cd.vc P a Q ρ h=Cd.vc P b Q ρ h:=by intros;rw[e]
@[reducible] def Cl(P:Program)(cd:Cd)(k n:Nat)(ts:List (Nat × Option TypeId))(L:List Nat):Prop:=
 ∀⦃args:List Value⦄ ⦃h:ar⦄ ⦃R:Value→ar→Prop⦄,args.length=n→Cd.vc P cd (gP P ts R) (oR args L) h→aF P k args.toArray h R
theorem cl{P:Program}{cd:Cd}{k n:Nat}{ts:List (Nat × Option TypeId)}{L:List Nat}{fn:Func}(hf:P.funcs[k]? =some fn)(hm:P.follows .mixedOrders=true)(hs:Aj P L fn=some cd)(hr:GQ fn=ts)
 (hn:(decide (n≤fn.ntmps)&&L.all (fun t=>decide (t<fn.ntmps)))=true):Cl P cd k n ts L:=by
 intro args h R hl hv;rw[awm,awo]at hn;exact Tz hm hf hs hr ⟨by rw[hl];exact hn.1,hn.2⟩ hv
namespace Z
@[reducible] def S(x y:Cd):Cd:= .seq x y
@[reducible] def I(x:Nat)(y z:Cd):Cd:= .cond (.tmp x) y z
@[reducible] def B(n:Nat)(y:Cd):Cd:= .block n y
theorem N{p q:Prop}(x:p)(y:q):p∧q:=⟨x,y⟩
end Z
end
section
def str(l:az):Value:= .string ⟨l.toArray⟩
theorem adw{l:az}:Value.string ⟨l.toArray⟩=str l:=awx rfl
theorem aav{l:az}:(str l).cells=#[str l]:=rfl
theorem aaw{k:IntKind}{n:Int}:(Value.int k n).cells=#[.int k n]:=rfl
theorem XD{b:Bool}:(Value.bool b).cells=#[.bool b]:=rfl
theorem aax{a:Option Addr}:(Value.pointer a).cells=#[.pointer a]:=rfl
theorem VD{a:Option Addr}{n c:Nat}:(Value.slice a n c).cells=#[.slice a n c]:=rfl
theorem aay{cs:Array Value}:(Value.agg cs).cells=cs:=rfl
theorem VE(s:ByteArray):∀(n i:Nat)(r:az),s.size-i=n→ByteArray.toList.loop s i r=r.reverse++s.data.toList.drop i:=by
 have hlen:s.data.toList.length=s.size:=Array.length_toList;intro n
 induction n with
 |zero=>
  intro i r h;rw[ByteArray.toList.loop,av9 (by omega),awV (by omega),List.append_nil]
 |succ n ih=>
  intro i r h;have aV:i<s.size:=by omega
  rw[ByteArray.toList.loop,awa aV,ih (i+1) _ (by omega)];have hd:s.data.toList.drop i=s.data.toList[i]'(by omega)::s.data.toList.drop (i+1):=by
   rw[awO]
  have hg:s.get! i=s.data.toList[i]'(by omega):=by
   show s.data[i]! =_
   have aK:i<s.data.size:=aV;rw[getElem!_pos s.data i aK];rfl
  rw[hd,hg,List.reverse_cons,awQ];rfl
theorem toList_mk(l:az):(ByteArray.mk l.toArray).toList=l:=by
 rw[ByteArray.toList,VE _ _ 0 [] rfl];rfl
section
variable{P:Program}{h:ar}{t:TypeId}{x y:Operand}
theorem fB{op:BinOp}{k k':IntKind}{a b:Int}:eqGuard op t x y (.int k a) (.int k' b)=pure ():=by
 unfold eqGuard;cases op<;>rfl
theorem Ak{op:BinOp}{a b:az}:eqGuard op t x y (str a) (str b)=pure ():=by
 unfold eqGuard;cases op<;>rfl
theorem IW{op:BinOp}{a b:Bool}:eqGuard op t x y (.bool a) (.bool b)=pure ():=by
 unfold eqGuard;cases op<;>rfl
theorem afI{k:IntKind}{a b:Int}:ej P .add t x y (.int k a) (.int k b) h=some (.int k (k.wrap (a+b))):=by
 unfold ej;rw[fB,aM,aZ];simp[binOp,Op.intArith,aZ]
theorem afJ{k:IntKind}{a b:Int}:ej P .sub t x y (.int k a) (.int k b) h=some (.int k (k.wrap (a-b))):=by
 unfold ej;rw[fB,aM,aZ];simp[binOp,Op.intArith,aZ]
theorem afK{k:IntKind}{a b:Int}:ej P .mul t x y (.int k a) (.int k b) h=some (.int k (k.wrap (a*b))):=by
 unfold ej;rw[fB,aM,aZ];simp[binOp,Op.intArith,aZ]
theorem afL{k:IntKind}{a b:Int}(hb:b≠0):ej P .quo t x y (.int k a) (.int k b) h=some (.int k (k.wrap (a.tdiv b))):=by
 unfold ej;rw[fB,aM,aZ];simp[binOp,Op.intDiv,hb,aZ]
theorem afM{k:IntKind}{a b:Int}(hb:b≠0):ej P .rem t x y (.int k a) (.int k b) h=some (.int k (a.tmod b)):=by
 unfold ej;rw[fB,aM,aZ];simp[binOp,Op.intDiv,hb,aZ]
theorem afN{k:IntKind}{a b:Int}:ej P .eql t x y (.int k a) (.int k b) h=some (.bool (decide (a=b))):=by
 unfold ej;rw[fB,aM,aZ];simp[binOp,Op.intCmp,aZ];rfl
theorem afO{k:IntKind}{a b:Int}:ej P .neq t x y (.int k a) (.int k b) h=some (.bool (decide (a≠b))):=by
 unfold ej;rw[fB,aM,aZ];simp[binOp,Op.intCmp,aZ];by_cases sW:a=b<;>simp[sW,bne]
theorem afP{k:IntKind}{a b:Int}:ej P .lss t x y (.int k a) (.int k b) h=some (.bool (decide (a<b))):=by
 unfold ej;rw[fB,aM,aZ];simp[binOp,Op.intCmp,aZ]
theorem afQ{k:IntKind}{a b:Int}:ej P .leq t x y (.int k a) (.int k b) h=some (.bool (decide (a≤b))):=by
 unfold ej;rw[fB,aM,aZ];simp[binOp,Op.intCmp,aZ]
theorem afR{k:IntKind}{a b:Int}:ej P .gtr t x y (.int k a) (.int k b) h=some (.bool (decide (b<a))):=by
 unfold ej;rw[fB,aM,aZ];simp[binOp,Op.intCmp,aZ]
theorem afS{k:IntKind}{a b:Int}:ej P .geq t x y (.int k a) (.int k b) h=some (.bool (decide (b≤a))):=by
 unfold ej;rw[fB,aM,aZ];simp[binOp,Op.intCmp,aZ]
theorem afT{k k':IntKind}{a b:Int}(hb:0≤b):ej P .shl t x y (.int k a) (.int k' b) h=some (.int k (k.wrap (a*2^(min b.toNat k.bits)))):=by
 unfold ej;rw[fB,aM,aZ];simp[binOp,Op.shift,aZ,show¬b<0 by omega]
theorem afU{k k':IntKind}{a b:Int}(hb:0≤b):ej P .shr t x y (.int k a) (.int k' b) h=some (.int k (a.fdiv (2^(min b.toNat k.bits)))):=by
 unfold ej;rw[fB,aM,aZ];simp[binOp,Op.shift,aZ,show¬b<0 by omega]
def cB(op:BinOp)(k:IntKind)(a b:Int):Int:=
 let x:=BitVec.ofInt k.bits a
 let y:=BitVec.ofInt k.bits b
 k.wrap (match op with
  | .and=>(x&&&y).toNat
  | .or=>(x|||y).toNat
  | .xor=>(x^^^y).toNat
  |_=>(x&&& ~~~y).toNat)
theorem afV{k:IntKind}{a b:Int}:ej P .and t x y (.int k a) (.int k b) h=some (.int k (cB .and k a b)):=by
 unfold ej;rw[fB,aM,aZ];simp[binOp,Op.intBits,aZ,cB]
theorem ajJ{k:IntKind}{a b:Int}:ej P .or t x y (.int k a) (.int k b) h=some (.int k (cB .or k a b)):=by
 unfold ej;rw[fB,aM,aZ];simp[binOp,Op.intBits,aZ,cB]
theorem afW{k:IntKind}{a b:Int}:ej P .xor t x y (.int k a) (.int k b) h=some (.int k (cB .xor k a b)):=by
 unfold ej;rw[fB,aM,aZ];simp[binOp,Op.intBits,aZ,cB]
theorem XE{k:IntKind}{a b:Int}:ej P .andNot t x y (.int k a) (.int k b) h=some (.int k (cB .andNot k a b)):=by
 unfold ej;rw[fB,aM,aZ];simp[binOp,Op.intBits,aZ,cB]
theorem tN{a b:az}(hl:a.length+b.length≤9223372036854775807):ej P .add t x y (str a) (str b) h=some (str (a++b)):=by
 unfold ej;rw[Ak,aM,aZ];have hm:IntKind.i64.max=9223372036854775807:=rfl;have hs:¬((((ByteArray.mk a.toArray).size+(ByteArray.mk b.toArray).size:Nat):Int)>IntKind.i64.max):=by
  rw[hm];simp only[ByteArray.size,awU];omega
 simp only[awc,binOp,str,Op.stringOp,av9 hs,aZ,awe,Value.string.injEq];apply ByteArray.ext;simp[ByteArray.data_append]
theorem VF{a b:az}:ej P .eql t x y (str a) (str b) h=some (.bool (decide (a=b))):=by
 unfold ej;rw[Ak,aM,aZ];simp only[awc,binOp,str,Op.stringOp,toList_mk,aZ]
 congr 2
 by_cases sW:a=b<;>simp[sW]
theorem VG{a b:az}:ej P .neq t x y (str a) (str b) h=some (.bool (decide (a≠b))):=by
 unfold ej;rw[Ak,aM,aZ];simp only[awc,binOp,str,Op.stringOp,toList_mk,aZ]
 congr 2
 by_cases sW:a=b<;>simp[sW]
theorem aY{d:TypeDesc}(hu:P.underlying t=some d):rd P (underlying t) h=some d:=by
 show(match rd P (match P.underlying t with|some d=>pure d|none=>stuck "no such type") h with|v=>v)=_
 rw[hu];rfl
theorem tO{i:TypeInfo}(hi:P.info? t=some i):rd P (typeInfo t) h=some i:=by
 show rd P (match P.info? t with|some i=>pure i|none=>stuck "no such type") h=_
 rw[hi];rfl
theorem jP{i:TypeInfo}(hi:P.info? t=some i):rd P (sizeOf t) h=some i.size:=by
 unfold sizeOf;rw[aM,tO hi];rfl
theorem yw{d:TypeDesc}(hu:P.underlying t=some d):rd P (isAgg t) h=some (match d with| .struct _| .array _ _=>true|_=>false):=by
 unfold isAgg;rw[aM,aY hu];cases d<;>rfl
theorem Ph{d:Nat}{a b:Bool}(hu:P.underlying t=some .bool):rd P (Op.equalIn (d+1) t (.bool a) (.bool b)) h=some (a==b):=by
 rw[Op.equalIn,aM,aY hu];rfl
theorem TC{a b:Bool}(hu:P.underlying t=some .bool):ej P .eql t x y (.bool a) (.bool b) h=some (.bool (decide (a=b))):=by
 unfold ej;rw[IW,aM,aZ,awc]
 show rd P (Op.equalIn (9999+1) t (.bool a) (.bool b)>>=fun b=>pure (Value.bool b)) h=_
 rw[aM,Ph hu,awc];cases a<;>cases b<;>rfl
theorem TD{a b:Bool}(hu:P.underlying t=some .bool):ej P .neq t x y (.bool a) (.bool b) h=some (.bool (decide (a≠b))):=by
 unfold ej;rw[IW,aM,aZ,awc]
 show rd P (Op.equalIn (9999+1) t (.bool a) (.bool b)>>=fun b=>pure (Value.bool (!b))) h=_
 rw[aM,Ph hu,awc];cases a<;>cases b<;>rfl
theorem ajK{b:Bool}:unE P .not (.bool b) h=some (.bool !b):=rfl
theorem qw{s d:TypeId}{ds:TypeDesc}{k k':IntKind}{n:Int}(hs:P.underlying s=some ds)(hd:P.underlying d=some (.int k')):oS P s d (.int k n) h=some (.int k' (k'.wrap n)):=by
 unfold oS convert;rw[aM,aY hs,awc,aM,aY hd,awc];cases ds<;>rfl
theorem afX{ty:TypeId}{l:az}(hu:P.underlying t=some .string):Lr P t ty (str l) h=some (.int .i64 l.length):=by
 unfold Lr Builtin.len_;simp only[str,awl,awA,aM,aY hu,awc];rfl
theorem aaz{ty e:TypeId}{a:Option Addr}{n c:Nat}(hu:P.underlying t=some (.slice e)):Lr P t ty (.slice a n c) h=some (.int .i64 n):=by
 unfold Lr Builtin.len_;simp only[awl,awA,aM,aY hu,awc];rfl
theorem ajL{l:az}{k:IntKind}{i:Int}(hu:P.underlying t=some .string)(h0:0≤i)(h1:i<l.length):ixE P t (str l) (.int k i) h=some (.int .u8 ((l.getD i.toNat 0).toNat:Int)):=by
 have aV:i.toNat<l.length:=by omega
 unfold ixE Instr.index;simp only[asIntOf,aM,aZ,awc,aY hu,str,awa h0];have hg:(ByteArray.mk l.toArray)[i.toNat]? =some l[i.toNat]:=by
  have:i.toNat<(ByteArray.mk l.toArray).size:=by simpa[ByteArray.size]using aV
  rw[getElem?_pos (ByteArray.mk l.toArray) i.toNat this];rfl
 simp only[hg,aZ,awe,Value.int.injEq,aw5];simp[aV]
theorem pV{k:IntKind}{i:Int}{n:Nat}{c:BoundsCode}(h0:0≤i)(h1:i≤n):rd P (Instr.sliceBound (.int k i) n c) h=some i.toNat:=by
 unfold Instr.sliceBound;simp only[asIntOf,aM,aZ,awc];rw[awa ⟨h0,h1⟩];rfl
theorem extract_mk(l:az)(a b:Nat):(ByteArray.mk l.toArray).extract a b=⟨((l.take b).drop a).toArray⟩:=by
 apply ByteArray.ext;rw[ByteArray.data_extract];apply Array.toList_inj.1;simp[List.extract_eq_take_drop,List.drop_take]
theorem aaA{l:az}{k k':IntKind}{a b:Int}(hu:P.underlying t=some .string)(h0:0≤a)(h1:a≤b)(h2:b≤l.length):
 og P t (str l) (some (.int k a)) (some (.int k' b)) none h=some (str ((l.take b.toNat).drop a.toNat)):=by
 unfold og Instr.sliceAt;rw[aM,aY hu,awc];simp only[Instr.slice,aM,aY hu,awc,str,Option.isSome_none,awj,aw1,Instr.sliceBounds,aZ];rw[pV (by omega) (by simp only[ByteArray.size,awU];omega)];simp only[awc];rw[pV h0 (by omega)];simp only[awc,extract_mk]
theorem adx{l:az}{k:IntKind}{a:Int}(hu:P.underlying t=some .string)(h0:0≤a)(h2:a≤l.length):
 og P t (str l) (some (.int k a)) none none h=some (str (l.drop a.toNat)):=by
 unfold og Instr.sliceAt;rw[aM,aY hu,awc];simp only[Instr.slice,aM,aY hu,awc,str,Option.isSome_none,awj,aw1,Instr.sliceBounds,aZ];rw[pV h0 (by simp only[ByteArray.size,awU];omega)];simp only[awc,extract_mk];simp[ByteArray.size]
theorem ady{l:az}{k':IntKind}{b:Int}(hu:P.underlying t=some .string)(h1:0≤b)(h2:b≤l.length):
 og P t (str l) none (some (.int k' b)) none h=some (str (l.take b.toNat)):=by
 unfold og Instr.sliceAt;rw[aM,aY hu,awc];simp only[Instr.slice,aM,aY hu,awc,str,Option.isSome_none,awj,aw1,Instr.sliceBounds,aZ];rw[pV h1 (by simp only[ByteArray.size,awU];omega)];simp only[awc,extract_mk,axd]
end
theorem wrap_i64{x:Int}(h0: -9223372036854775808≤x)(h1:x<9223372036854775808):IntKind.i64.wrap x=x:=by
 simp only[IntKind.wrap,IntKind.bits,IntKind.signed,Bool.true_and,Nat.reduceSub,Int.reducePow]
 split<;>rename_i hh<;>simp at hh<;>omega
theorem wrap_i32{x:Int}(h0: -2147483648≤x)(h1:x<2147483648):IntKind.i32.wrap x=x:=by
 simp only[IntKind.wrap,IntKind.bits,IntKind.signed,Bool.true_and,Nat.reduceSub,Int.reducePow]
 split<;>rename_i hh<;>simp at hh<;>omega
theorem wrap_u8{x:Int}(h0:0≤x)(h1:x<256):IntKind.u8.wrap x=x:=by
 simp only[IntKind.wrap,IntKind.bits,IntKind.signed,Bool.false_and,awj,aw1,Int.reducePow];omega
theorem wrap_u16{x:Int}(h0:0≤x)(h1:x<65536):IntKind.u16.wrap x=x:=by
 simp only[IntKind.wrap,IntKind.bits,IntKind.signed,Bool.false_and,awj,aw1,Int.reducePow];omega
theorem wrap_u32{x:Int}(h0:0≤x)(h1:x<4294967296):IntKind.u32.wrap x=x:=by
 simp only[IntKind.wrap,IntKind.bits,IntKind.signed,Bool.false_and,awj,aw1,Int.reducePow];omega
theorem wrap_u64{x:Int}(h0:0≤x)(h1:x<18446744073709551616):IntKind.u64.wrap x=x:=by
 simp only[IntKind.wrap,IntKind.bits,IntKind.signed,Bool.false_and,awj,aw1,Int.reducePow];omega
theorem Ls{k:IntKind}(hk:k.signed=false){x:Int}(h0:0≤x)(h1:x<2^k.bits):k.wrap x=x:=by
 simp only[IntKind.wrap,hk,Bool.false_and,awj,aw1];exact Int.emod_eq_of_lt h0 h1
theorem Uw{k:IntKind}(hk:k.signed=false)(a b:Nat)(ha:a<2^k.bits)(hb:b<2^k.bits):cB .and k a b=((a&&&b:Nat):Int):=by
 have h1:(BitVec.ofInt k.bits (a:Int))=BitVec.ofNat k.bits a:=by simp
 have h2:(BitVec.ofInt k.bits (b:Int))=BitVec.ofNat k.bits b:=by simp
 simp only[cB,h1,h2,BitVec.toNat_and,BitVec.toNat_ofNat,Nat.mod_eq_of_lt ha,Nat.mod_eq_of_lt hb];refine Ls hk (by omega) ?_;have:a&&&b<2^k.bits:=Nat.and_lt_two_pow a hb
 exact_mod_cast this
theorem Lt{k:IntKind}(hk:k.signed=false)(a b:Nat)(ha:a<2^k.bits)(hb:b<2^k.bits):cB .or k a b=((a|||b:Nat):Int):=by
 have h1:(BitVec.ofInt k.bits (a:Int))=BitVec.ofNat k.bits a:=by simp
 have h2:(BitVec.ofInt k.bits (b:Int))=BitVec.ofNat k.bits b:=by simp
 simp only[cB,h1,h2,BitVec.toNat_or,BitVec.toNat_ofNat,Nat.mod_eq_of_lt ha,Nat.mod_eq_of_lt hb];refine Ls hk (by omega) ?_;have:a|||b<2^k.bits:=Nat.or_lt_two_pow ha hb
 exact_mod_cast this
theorem ajM:IntKind.u8.bits=8:=rfl
theorem afY:IntKind.u16.bits=16:=rfl
theorem afZ:IntKind.u32.bits=32:=rfl
theorem QR:IntKind.u64.bits=64:=rfl
theorem adz:IntKind.i64.bits=64:=rfl
theorem adA:IntKind.i32.bits=32:=rfl
section
variable{P:Program}{h:ar}
def faT(P:Program)(s:TypeId)(f off:Nat):Bool:=match P.underlying s with
 |some (.struct fs)=>match fs[f]? with
  |some fld=>fld.offset==off&&(match P.info? fld.type with
   |some i=>decide (0<i.size)
   |none=>false)
  |none=>false
 |_=>false
theorem addr_add{b o n:Nat}:(⟨b,o,none⟩:Addr).add n=⟨b,o+n,none⟩:=by unfold Addr.add;split<;>simp_all
theorem af0{s:TypeId}{f off b o:Nat}(ht:faT P s f off=true):faE P s (.pointer (some ⟨b,o,none⟩)) f h=some (.pointer (some ⟨b,o+off,none⟩)):=by
 unfold faT at ht;cases hu:P.underlying s with
 |none=>rw[hu]at ht;cases ht
 |some d=>
  rw[hu]at ht;cases d<;>simp only[awj]at ht
  rename_i fs;cases hf:fs[f]? with
  |none=>rw[hf]at ht;cases ht
  |some fld=>
   rw[hf]at ht;simp only[awm,beq_iff_eq]at ht;cases hi:P.info? fld.type with
   |none=>rw[hi]at ht;cases ht.2
   |some i=>
    rw[hi]at ht;simp only[awo]at ht;unfold faE Instr.fieldAt;simp only[aM,aY hu,awc,hf,Instr.sureAddr,aZ,fieldPlace,jP hi];rw[av9 (by omega)];simp only[aZ,awc,addr_add,ht.1]
def ixT(P:Program)(t:TypeId)(size:Nat):Bool:=match P.underlying t with
 |some (.slice e)=>match P.info? e with
  |some i=>i.size==size
  |none=>false
 |_=>false
theorem amf{t:TypeId}{size b o n c:Nat}{k:IntKind}{i:Int}(ht:ixT P t size=true)(h0:0≤i)(h1:i<n):
 TB P t (.slice (some ⟨b,o,none⟩) n c) (.int k i) h=some (.pointer (some ⟨b,o+i.toNat*size,none⟩)):=by
 unfold ixT at ht;cases hu:P.underlying t with
 |none=>rw[hu]at ht;cases ht
 |some d=>
  rw[hu]at ht;cases d<;>simp only[awj]at ht
  rename_i e;cases hi:P.info? e with
  |none=>rw[hi]at ht;cases ht
  |some inf=>
   rw[hi]at ht;have hs:inf.size=size:=by simpa using ht
   unfold TB Instr.indexAt;simp only[asIntOf,aM,aZ,awc,aY hu,awa (awv h0 h1),jP hi,hs,addr_add]
end
end
section
theorem fo{h:ar}{cs:Array Value}{e:TypeId}{fz:Nat × Nat}{j:Nat}:cellAt (h.push (.cells cs e fz)) ⟨h.size,j,none⟩=cs[j]? :=by
 simp[cellAt]
theorem au{h:ar}{b j:Nat}{cs:Array Value}{e:TypeId}{fz:Nat × Nat}(hb:h[b]? =some (.cells cs e fz)):cellAt h ⟨b,j,none⟩=cs[j]? :=by
 simp[cellAt,hb]
theorem JJ{h:ar}{b j:Nat}{sp:Option Nat}{v:Value}(hc:cellAt h ⟨b,j,sp⟩=some v):b<h.size:=by
 rcases Nat.lt_or_ge b h.size with h'|h'
 ·exact h'
 ·simp[cellAt,Array.getElem?_eq_none h']at hc
theorem oT{h h':ar}{b j:Nat}{sp:Option Nat}(hb:h'[b]? =h[b]?):cellAt h' ⟨b,j,sp⟩=cellAt h ⟨b,j,sp⟩:=by simp[cellAt,hb]
theorem P6{h h':ar}{b j:Nat}{sp:Option Nat}(hb:h'[b]? =h[b]?):frozenAt h' ⟨b,j,sp⟩=frozenAt h ⟨b,j,sp⟩:=by simp[frozenAt,hb]
theorem DW{P:Program}{h:ar}{a:Addr}:rd P (load a) h=cellAt h a:=by
 unfold load;simp only[rd];cases cellAt h a<;>rfl
theorem G9{P:Program}{h h':ar}{b:Nat}(hb:h'[b]? =h[b]?):∀(n:Nat)(o:Nat)(sp:Option Nat)(i:Nat)(acc:Array Value),rd P (loadCellsFrom ⟨b,o,sp⟩ i n acc) h'=rd P (loadCellsFrom ⟨b,o,sp⟩ i n acc) h:=by
 intro n
 induction n with
 |zero=>intro o sp i acc;rfl
 |succ n ih=>
  intro o sp i acc;simp only[loadCellsFrom,aM,DW];have:cellAt h' ((⟨b,o,sp⟩:Addr).add i)=cellAt h ((⟨b,o,sp⟩:Addr).add i):=by
   unfold Addr.add;split<;>exact oT hb
  rw[this];cases cellAt h ((⟨b,o,sp⟩:Addr).add i)with
  |none=>rfl
  |some v=>exact ih o sp (i+1) (acc.push v)
theorem TE{P:Program}{t:TypeId}{h h':ar}:rd P (isAgg t) h'=rd P (isAgg t) h:=JG _ (IV t) h' h
theorem QS{P:Program}{t:TypeId}{h h':ar}:rd P (sizeOf t) h'=rd P (sizeOf t) h:=JG _ (uB t) h' h
theorem adB{P:Program}{t:TypeId}{h h':ar}{b o:Nat}{sp:Option Nat}(hb:h'[b]? =h[b]?):ld P t ⟨b,o,sp⟩ h'=ld P t ⟨b,o,sp⟩ h:=by
 unfold ld loadVar;rw[aM,aM,TE];cases rd P (isAgg t) h with
 |none=>rfl
 |some g=>
  simp only[awc]
  split
  ·rw[aM,aM,QS]
   cases rd P (sizeOf t) h with
   |none=>rfl
   |some n=>simp only[awc,aM,loadCells,G9 (P:=P) hb n o sp 0 #[]];rfl
  ·rw[DW,DW,oT hb]
def aaB(P:Program)(t:TypeId):Bool:=match P.underlying t with
 |some (.struct _)|some (.array _ _)|none=>false
 |_=>true
theorem af1{P:Program}{t:TypeId}(ht:aaB P t=true){h:ar}{a:Addr}:ld P t a h=cellAt h a:=by
 unfold aaB at ht;unfold ld loadVar;rw[aM];cases hu:P.underlying t with
 |none=>rw[hu]at ht;cases ht
 |some d=>
  rw[yw hu];rw[hu]at ht;cases d<;>first|(simp at ht;done)|exact DW
theorem JK{P:Program}{h:ar}{b o:Nat}:∀(n i:Nat)(acc:Array Value)(vs:List Value),vs.length=n→(∀j v,vs[j]? =some v→cellAt h ⟨b,o+(i+j),none⟩=some v)→
 rd P (loadCellsFrom ⟨b,o,none⟩ i n acc) h=some (acc++vs.toArray):=by
 intro n
 induction n with
 |zero=>intro i acc vs hl hv;have:vs=[]:=List.eq_nil_of_length_eq_zero hl;subst this;simp[loadCellsFrom,aZ]
 |succ n ih=>
  intro i acc vs hl hv;cases vs with
  |nil=>simp at hl
  |cons v vs=>
   simp only[loadCellsFrom,aM,DW];have h0:=hv 0 v rfl;have ha:(⟨b,o,none⟩:Addr).add i=⟨b,o+i,none⟩:=by unfold Addr.add;split<;>simp_all
   rw[ha];simp only[aw3]at h0;rw[h0,awc,ih (i+1) (acc.push v) vs (by simpa using hl) (fun j u hu=>by have:=hv (j+1) u (by simpa using hu);rwa[show o+(i+1+j)=o+(i+(j+1)) by omega])];simp
def Rd(h:ar)(b o:Nat)(vs:List Value):Prop:=∀j v,vs[j]? =some v→cellAt h ⟨b,o+j,none⟩=some v
theorem Rd.block{h h':ar}{b o:Nat}{vs:List Value}(H:Rd h b o vs)(hb:h'[b]? =h[b]?):Rd h' b o vs:=fun j v hv=>by rw[oT hb];exact H j v hv
theorem xC{P:Program}{h:ar}{b o n:Nat}{vs:List Value}(H:Rd h b o vs)(hl:vs.length=n):rd P (loadCells ⟨b,o,none⟩ n) h=some vs.toArray:=by
 unfold loadCells;rw[JK n 0 #[] vs hl (fun j v hv=>by rw[aw2];exact H j v hv)];simp
def qy(P:Program)(t:TypeId)(n:Nat):Bool:=(match P.underlying t with
 |some (.struct _)|some (.array _ _)=>true
 |_=>false)&&(match P.info? t with
 |some i=>i.size==n
 |none=>false)
theorem aS{P:Program}{t:TypeId}{n:Nat}(ht:qy P t n=true){h:ar}{b o:Nat}{vs:List Value}(H:Rd h b o vs)(hl:vs.length=n):ld P t ⟨b,o,none⟩ h=some (.agg vs.toArray):=by
 unfold qy at ht;rw[awm]at ht;obtain⟨h1,h2⟩:=ht;cases hu:P.underlying t with
 |none=>rw[hu]at h1;cases h1
 |some d=>
  cases hi:P.info? t with
  |none=>rw[hi]at h2;cases h2
  |some i=>
   rw[hi]at h2;have gB:i.size=n:=by simpa using h2
   unfold ld loadVar;rw[aM,yw hu];rw[hu]at h1;have fin:rd P (do let s←sizeOf t;let c←loadCells ⟨b,o,none⟩ s;pure (Value.agg c)) h=some (.agg vs.toArray):=by
    simp only[aM,jP hi,awc,gB,xC H hl,aZ]
   cases d<;>first|(simp at h1;done)|exact fin
structure Fr(S:Nat→Prop)(h h':ar):Prop where
 size:h.size≤h'.size
 same:∀k,k<h.size→¬S k→h'[k]? =h[k]?
theorem Fr.refl(S:Nat→Prop)(h:ar):Fr S h h:=⟨awp _,fun _ _ _=>rfl⟩
theorem Fr.trans{S S' T:Nat→Prop}{a b c:ar}(H:Fr S a b)(K:Fr S' b c)(h1:∀k,k<a.size→S k→T k)(h2:∀k,k<a.size→S' k→T k):Fr T a c:=
 ⟨awG H.size K.size,fun k hk hT=>(K.same k (awF hk H.size) (fun h=>hT (h2 k hk h))).trans (H.same k hk (fun h=>hT (h1 k hk h)))⟩
theorem Fr.mono{S T:Nat→Prop}{a b:ar}(H:Fr S a b)(h1:∀k,k<a.size→S k→T k):Fr T a b:=⟨H.size,fun k hk hT=>H.same k hk fun h=>hT (h1 k hk h)⟩
theorem Fr.push(S:Nat→Prop)(h:ar)(o:Obj):Fr S h (h.push o):=⟨by simp,fun k hk _=>by simp[Array.getElem?_push,show¬k=h.size by omega]⟩
theorem Fr.set{S:Nat→Prop}(h:ar)(a:Addr)(v:Value)(hS:a.block<h.size→S a.block):Fr S h (setAt h a v):=by
 refine⟨by simp[setAt],fun k hk hn=>?_⟩;have:a.block≠k:=fun e=>hn (e▸hS (e▸hk));simp[setAt,Array.getElem?_modify,this]
abbrev Ext:=Fr fun _=>False
theorem Fr.ld{S:Nat→Prop}{h h':ar}(H:Fr S h h'){P:Program}{t:TypeId}{b o:Nat}{sp:Option Nat}(hb:b<h.size)(hS:¬S b):ld P t ⟨b,o,sp⟩ h'=ld P t ⟨b,o,sp⟩ h:=adB (H.same b hb hS)
theorem Fr.cell{S:Nat→Prop}{h h':ar}(H:Fr S h h'){b o:Nat}{sp:Option Nat}(hb:b<h.size)(hS:¬S b):cellAt h' ⟨b,o,sp⟩=cellAt h ⟨b,o,sp⟩:=oT (H.same b hb hS)
theorem Fr.rd{S:Nat→Prop}{h h':ar}(H:Fr S h h'){b o:Nat}{vs:List Value}(hr:Rd h b o vs)(hb:b<h.size)(hS:¬S b):Rd h' b o vs:=hr.block (H.same b hb hS)
theorem Ext.ld{h h':ar}(H:Ext h h'){P:Program}{t:TypeId}{b o:Nat}{sp:Option Nat}(hb:b<h.size):Go.Vc.ld P t ⟨b,o,sp⟩ h'=Go.Vc.ld P t ⟨b,o,sp⟩ h:=Fr.ld H hb id
theorem Ext.trans{a b c:ar}(H:Ext a b)(K:Ext b c):Ext a c:=Fr.trans H K (fun _ _ h=>h) (fun _ _ h=>h)
theorem Ext.refl(h:ar):Ext h h:=Fr.refl _ h
theorem Ext.push(h:ar)(o:Obj):Ext h (h.push o):=Fr.push _ h o
theorem bu{h:ar}{b o:Nat}{cs:Array Value}{e:TypeId}{fz:Nat × Nat}(hb:h[b]? =some (.cells cs e fz))(v:Value):(setAt h ⟨b,o,none⟩ v)[b]? =some (.cells (cs.setIfInBounds o v) e fz):=by
 simp[setAt,Array.getElem?_modify,hb]
theorem Ux{h:ar}{a:Addr}{k:Nat}(hk:k≠a.block)(v:Value):(setAt h a v)[k]? =h[k]? :=by
 simp[setAt,Array.getElem?_modify,Ne.symm hk]
section
variable{P:Program}{τ ρ:Env}{h:ar}{K:Value→ar→Prop}{ty:TypeId}
theorem VH{op:Op}{x:Operand}(ho:op.operands=#[x]){v:Value}(hx:dC τ ρ x=some v)
 (H:∀e:Operand→Value,e x=v→sr P (execOp e (ep.oper ⟨none,op,ty,none,false⟩)) h (fun nx h'=>Ac P K nx h')):li P op ty τ ρ h K:=
 ⟨by rw[QO ho];simp[hx],H _ (by simp[js,hx])⟩
theorem VI{op:Op}{x y:Operand}(ho:op.operands=#[x,y]){v u:Value}(hx:dC τ ρ x=some v)(hy:dC τ ρ y=some u)
 (H:∀e:Operand→Value,e x=v→e y=u→sr P (execOp e (ep.oper ⟨none,op,ty,none,false⟩)) h (fun nx h'=>Ac P K nx h')):li P op ty τ ρ h K:=
 ⟨by rw[Lq ho];simp[hx,hy],H _ (by simp[js,hx]) (by simp[js,hy])⟩
theorem Al{α:Type}{s:Sem α}{h:ar}{K:α→ar→Prop}(H:∀w:World,w.heap=h→∃v w',s.run P w= .ok v w'∧Same w w'∧K v w'.heap):sr P s h K:=H
theorem Lu{s:Sem Value}(H:sr P s h K):sr P (do pure (Next.value (←s))) h (fun nx h'=>Ac P K nx h'):=by
 intro w hw;obtain⟨v,w',h1,h2,h3⟩:=H w hw;refine⟨.value v,w',?_,h2,h3⟩;rw[Sem.run_bind,h1];rfl
theorem acv{s:Sem Unit}(H:sr P s h (fun _ h'=>K undef h')):sr P (do s;pure Next.skip) h (fun nx h'=>Ac P K nx h'):=by
 intro w hw;obtain⟨v,w',h1,h2,h3⟩:=H w hw;refine⟨.skip,w',?_,h2,h3⟩;rw[Sem.run_bind,h1];rfl
def alc(K:Value→ar→Prop)(h:ar)(e:TypeId):Value→Prop:=fun v=>K (.pointer (some ⟨h.size,0,none⟩)) (h.push (.cells v.cells e))
theorem af2{K:Value→ar→Prop}{h:ar}{e:TypeId}{v:Value}:alc K h e v=K (.pointer (some ⟨h.size,0,none⟩)) (h.push (.cells v.cells e)):=awx rfl
theorem cT{e:TypeId}{x:Operand}(H:kh (dC τ ρ x) (alc K h e)):li P (.box e x) ty τ ρ h K:=by
 cases hx:dC τ ρ x with
 |none=>rw[hx]at H;exact H.elim
 |some v=>
  rw[hx]at H;refine VH rfl hx fun e' he=>?_;simp only[execOp,ep.oper,he];exact Lu (uj H)
theorem aaC{e:TypeId}{i:TypeInfo}{z:Value}(hi:P.info? e=some i)(hz:i.zero=some z)(H:K (.pointer (some ⟨h.size,0,none⟩)) (h.push (.cells z.cells e))):li P (.alloc e) ty τ ρ h K:=by
 refine⟨by intro x hx;simp[Op.operands]at hx,?_⟩;simp only[execOp,ep.oper];refine Lu fun w hw=>?_;subst hw;refine⟨.pointer (some ⟨w.heap.size,0,none⟩),{w with heap:=w.heap.push (.cells z.cells e)},?_,⟨rfl,rfl,rfl⟩,H⟩;have hzv:(zeroValue e).run P w= .ok z w:=by
  refine qq _ w z ?_;unfold zeroValue;rw[aM,tO hi]
  show rd P (match i.zero with|some v=>pure v|none=>_) w.heap=_
  rw[hz];rfl
 simp only[Instr.alloc,Sem.run_bind,hzv,Result.andThen];rfl
theorem foldl_set(off:Nat):∀(l:List Value)(k:Nat)(cells:Array Value)(pre mid post:List Value),cells.toList=pre++mid++post→pre.length=off+k→mid.length=l.length→
 (List.foldl (fun(cs:Array Value)(p:Value × Nat)=>cs.setIfInBounds (off+p.2) p.1) cells (l.zipIdx k)).toList=pre++l++post:=by
 intro l
 induction l with
 |nil=>
  intro k cells pre mid post h1 h2 h3;have:mid=[]:=List.eq_nil_of_length_eq_zero h3;subst this;simpa using h1
 |cons v l ih=>
  intro k cells pre mid post h1 h2 h3;cases mid with
  |nil=>simp at h3
  |cons m mid=>
   rw[List.zipIdx_cons,List.foldl_cons,ih (k+1) _ (pre++[v]) mid post ?_ (by simp;omega) (by simpa using h3)]
   ·simp
   ·rw[Array.toList_setIfInBounds,h1,←h2]
    simp
theorem adC(size:Nat):∀(vs:List Value)(k:Nat)(cells:Array Value)(pre mid post:List Value),cells.toList=pre++mid++post→pre.length=k*size→mid.length=vs.length*size→(∀v∈vs,v.cells.size=size)→
 ∃out,Instr.fill (fun i=>some (i*size,size)) cells ((vs.zipIdx k).map fun p=>(p.2,p.1))=some out∧out.toList=pre++vs.flatMap (fun v=>v.cells.toList)++post:=by
 intro vs
 induction vs with
 |nil=>
  intro k cells pre mid post h1 h2 h3 _;have:mid=[]:=List.eq_nil_of_length_eq_zero (by simpa using h3);subst this;exact⟨cells,rfl,by simpa using h1⟩
 |cons v vs ih=>
  intro k cells pre mid post h1 h2 h3 h4;have hv:=h4 v List.mem_cons_self;have hlen:cells.size=pre.length+mid.length+post.length:=by rw[←Array.length_toList,h1];simp;omega
  have h3':mid.length=size+vs.length*size:=by rw[h3,awy,Nat.add_mul];omega
  simp only[List.zipIdx_cons,awH,Instr.fill];rw[av9 (by rw[hv];simp;omega)];have ao9:cells.toList=pre++mid.take size++(mid.drop size++post):=by
   rw[h1,awQ pre (mid.take size),←awQ (mid.take size),List.take_append_drop,awQ]
  have apa:=foldl_set (k*size) v.cells.toList 0 cells pre (mid.take size) (mid.drop size++post) ao9 (by omega) (by simp;omega);have hf:(v.cells.zipIdx.foldl (fun cs(c,j)=>cs.setIfInBounds (k*size+j) c) cells).toList=pre++v.cells.toList++(mid.drop size++post):=by
   rw[←apa,←Array.foldl_toList,Array.toList_zipIdx]
  obtain⟨out,o1,o2⟩:=ih (k+1) _ (pre++v.cells.toList) (mid.drop size) post (by rw[hf];simp) (by simp[hv];rw[h2,Nat.add_mul];omega) (by simp;omega) (fun u hu=>h4 u (List.mem_cons_of_mem _ hu));exact⟨out,o1,by rw[o2];simp⟩
def pE(P:Program)(t e:TypeId)(size bytes:Nat):Bool:=(match P.underlying t with
 |some (.slice e')=>e'==e
 |_=>false)&&(match P.info? e with
 |some i=>i.size==size&&i.bytes==bytes&&(match i.zero with
  |some z=>z.cells.size==size
  |none=>false)
 |none=>false)&&decide (0<size)
theorem oh{t e:TypeId}{size bytes:Nat}(h:pE P t e size bytes=true):∃i z,P.underlying t=some (.slice e)∧P.info? e=some i∧i.zero=some z∧i.size=size∧i.bytes=bytes∧z.cells.size=size∧0<size:=by
 unfold pE at h;simp only[awm,awo]at h;obtain⟨⟨h1,h2⟩,h3⟩:=h;cases hu:P.underlying t with
 |none=>rw[hu]at h1;cases h1
 |some d=>
  rw[hu]at h1;cases d<;>simp only[awj]at h1
  rename_i e';have he:e'=e:=by simpa using h1
  subst he;cases hi:P.info? e' with
  |none=>rw[hi]at h2;cases h2
  |some i=>
   rw[hi]at h2;simp only[awm,beq_iff_eq]at h2;cases hz:i.zero with
   |none=>rw[hz]at h2;simp at h2
   |some z=>rw[hz]at h2;exact⟨i,z,rfl,rfl,hz,h2.1.1,h2.1.2,by simpa using h2.2,h3⟩
theorem aaD(xs:List Operand)(k:Nat)(e:Operand→Value):((xs.zipIdx k).map fun p=>(p.2,p.1)).map (fun(p:Nat × Operand)=>(p.1,e p.2))=((xs.map e).zipIdx k).map fun p=>(p.2,p.1):=by
 induction xs generalizing k with
 |nil=>rfl
 |cons x xs ih=>simp only[List.zipIdx_cons,awH,ih]
theorem af3{t e:TypeId}{size bytes:Nat}(hT:pE P t e size bytes=true)(xs:List Operand){n:Nat}{parts:Array (Nat × Operand)}(hp:parts.toList=(xs.zipIdx 0).map fun p=>(p.2,p.1))(hn:xs.length=n)(hsm:n*size≤16777216)
 {vs:List Value}(hv:qv τ ρ xs=some vs)(hc:∀v∈vs,v.cells.size=size)
 (H:K (.slice (some ⟨h.size,0,none⟩) n n) (h.push (.cells (vs.flatMap (fun v=>v.cells.toList)).toArray e))):li P (.buildSlice t n parts) ty τ ρ h K:=by
 obtain⟨i,z,t1,t2,t3,t4,t5,t6,t7⟩:=oh hT;obtain⟨k1,k2⟩:=yu xs vs hv;have hvl:vs.length=n:=by rw[←k2];simpa using hn
 refine⟨?_,?_⟩
 ·intro x hx
  simp only[Op.operands,hp,List.map_map]at hx;refine k1 x ?_;have:∀(xs:List Operand)(k:Nat),List.map ((fun x:Nat × Operand=>x.2)∘fun p:Operand × Nat=>(p.2,p.1)) (xs.zipIdx k)=xs:=by
   intro xs
   induction xs with
   |nil=>intro k;rfl
   |cons y ys ih=>intro k;simp only[List.zipIdx_cons,awH,ih];rfl
  rw[this]at hx;simpa using hx
 ·simp only[execOp,ep.oper]
  refine Lu fun w hw=>?_;subst hw;refine⟨.slice (some ⟨w.heap.size,0,none⟩) n n,{w with heap:=w.heap.push (.cells (vs.flatMap (fun v=>v.cells.toList)).toArray e)},?_,⟨rfl,rfl,rfl⟩,H⟩;have ajP:(parts.map fun(i,x)=>(i,js τ ρ x)).toList=(vs.zipIdx 0).map fun p=>(p.2,p.1):=by
   rw[Array.toList_map,hp,←k2];exact aaD xs 0 (js τ ρ)
  have hzv:∀w,(zeroValue e).run P w= .ok z w:=by
   intro w;refine qq _ w z ?_;unfold zeroValue;rw[aM,tO t2]
   show rd P (match i.zero with|some v=>pure v|none=>_) w.heap=_
   rw[t3];rfl
  have gB:∀w,(sizeOf e).run P w= .ok size w:=fun w=>qq _ w size (by rw[jP t2,t4]);have hu:∀w,(underlying t).run P w= .ok (.slice e) w:=fun w=>qq _ w _ (aY t1);have af4:∀cs:Array Value,cs.size=n*size→Instr.fill (fun i=>some (i*size,size)) cs (parts.map fun(i,x)=>(i,js τ ρ x)).toList=some (vs.flatMap (fun v=>v.cells.toList)).toArray:=by
   intro cs hcs;obtain⟨out,o1,o2⟩:=adC size vs 0 cs [] cs.toList [] (by simp) (by simp) (by rw[Array.length_toList,hcs,hvl]) hc;rw[ajP,o1]
   congr 1
   apply Array.toList_inj.1;rw[o2];simp
  simp only[Instr.buildSlice,Sem.run_bind,hu,gB,Result.andThen,av9 (show¬n*size>2^24 by omega)];by_cases hz:n*size=0
  ·rw[awa hz]
   simp only[Sem.run_bind,Sem.run_pure,Result.andThen];rw[af4 _ (by simp)];rfl
  ·rw[av9 hz]
   simp only[Sem.run_bind,Sem.run_pure,Result.andThen,hzv];rw[af4 _ (by simp)];rfl
def QT(size:Nat):List Value→Prop
 |[]=>True
 |v::r=>v.cells.size=size∧QT size r
theorem adD{size:Nat}:QT size []=True:=awx rfl
theorem aaE{size:Nat}{v:Value}{r:List Value}:QT size (v::r)=(v.cells.size=size∧QT size r):=awx rfl
theorem adE{size:Nat}:∀{l:List Value},QT size l→∀v∈l,v.cells.size=size:=by
 intro l
 induction l with
 |nil=>intro _ v hv;cases hv
 |cons x r ih=>
  intro h v hv;rcases awL.1 hv with hv|hv
  ·exact hv▸h.1
  ·exact ih h.2 v hv
def DX:List Value→List Value
 |[]=>[]
 |v::r=>v.cells.toList++DX r
theorem aaF:DX []=[]:=awx rfl
theorem XF{v:Value}{r:List Value}:DX (v::r)=v.cells.toList++DX r:=awx rfl
theorem adF:∀l:List Value,DX l=l.flatMap fun v=>v.cells.toList:=by
 intro l;induction l with
 |nil=>rfl
 |cons x r ih=>simp[DX,ih]
def ald(K:Value→ar→Prop)(h:ar)(n size:Nat)(e:TypeId):List Value→Prop:=fun vs=>QT size vs∧K (.slice (some ⟨h.size,0,none⟩) n n) (h.push (.cells (DX vs).toArray e))
theorem af5{n size:Nat}{e:TypeId}{vs:List Value}:ald K h n size e vs=(QT size vs∧K (.slice (some ⟨h.size,0,none⟩) n n) (h.push (.cells (DX vs).toArray e))):=awx rfl
theorem aU{t e:TypeId}{size bytes:Nat}(hT:pE P t e size bytes=true){n:Nat}{l:List (Nat × Operand)}(hp:l=((l.map (·.2)).zipIdx 0).map fun p=>(p.2,p.1))(hn:l.length=n)(hsm:n*size≤16777216)
 (H:kh (qv τ ρ (l.map (·.2))) (ald K h n size e)):li P (.buildSlice t n l.toArray) ty τ ρ h K:=by
 cases hv:qv τ ρ (l.map (·.2))with
 |none=>rw[hv]at H;exact H.elim
 |some vs=>
  rw[hv]at H;exact af3 hT (l.map (·.2)) (parts:=l.toArray) (by simpa using hp) (by simpa using hn) hsm hv (adE H.1) (by rw[←adF];exact H.2)
def Own(h:ar)(base:Nat)(e:TypeId)(size:Nat)(v:Value)(n:Nat)(xs:List Value):Prop:=
 xs.length=n*size∧
 ((v=nS∧n=0)∨
  ∃g cap cur fz,v= .slice (some ⟨g,0,none⟩) n cap∧base≤g∧h[g]? =some (.cells cur e fz)∧(∀j,j<cap*size→¬(fz.1≤j∧j<fz.2))∧n≤cap∧cap≤maxLen∧cur.size=cap*size∧cur.toList.take (n*size)=xs)
theorem Own.nil{h:ar}{base:Nat}{e:TypeId}{size:Nat}:Own h base e size nS 0 []:=⟨by simp, .inl ⟨rfl,rfl⟩⟩
theorem Own.fr{S:Nat→Prop}{h h':ar}{base:Nat}{e:TypeId}{size:Nat}{v:Value}{n:Nat}{xs:List Value}(H:Own h base e size v n xs)(hf:Fr S h h')(hS:∀k,v.ownBlock=some k→¬S k):Own h' base e size v n xs:=by
 refine⟨H.1,?_⟩;rcases H.2 with h1|⟨g,cap,cur,fz,rfl,h2,h3,h4⟩
 ·exact .inl h1
 ·refine .inr ⟨g,cap,cur,fz,rfl,h2,?_,h4⟩
  rw[hf.same g (awd.1 h3).1 (hS g rfl)];exact h3
theorem Own.push{h:ar}{base:Nat}{e:TypeId}{size:Nat}{v:Value}{n:Nat}{xs:List Value}(H:Own h base e size v n xs)(o:Obj):Own (h.push o) base e size v n xs:=
 H.fr (Fr.push (fun _=>False) h o) fun _ _=>awx
theorem Own.ext{h h':ar}{base:Nat}{e:TypeId}{size:Nat}{v:Value}{n:Nat}{xs:List Value}(H:Own h base e size v n xs)(hf:Ext h h'):Own h' base e size v n xs:=H.fr hf fun _ _=>awx
theorem Own.lt{h:ar}{base:Nat}{e:TypeId}{size:Nat}{v:Value}{n:Nat}{xs:List Value}(H:Own h base e size v n xs):∀k,v.ownBlock=some k→base≤k∧k<h.size:=by
 intro k hk;rcases H.2 with⟨rfl,_⟩|⟨g,cap,cur,fz,rfl,h2,h3,h4⟩
 ·simp[Value.ownBlock]at hk
 ·simp[Value.ownBlock]at hk;subst hk;exact⟨h2,(awd.1 h3).1⟩
theorem Own.mono{h:ar}{base QU:Nat}{e:TypeId}{size:Nat}{v:Value}{n:Nat}{xs:List Value}(H:Own h base e size v n xs)(hb:QU≤base):Own h QU e size v n xs:=by
 refine⟨H.1,?_⟩;rcases H.2 with h1|⟨g,cap,cur,fz,rfl,h2,h3⟩
 ·exact .inl h1
 ·exact .inr ⟨g,cap,cur,fz,rfl,by omega,h3⟩
theorem Ext.app{b hc h':ar}{v:Value}(H:Ext b hc)(hf:Fr (fun k=>v.ownBlock=some k) hc h')(aV:∀k,v.ownBlock=some k→b.size≤k):Ext b h':=
 Fr.trans H hf (fun _ _ h=>h) fun k hk h=>aww (aV k h) (by omega)
theorem adG{w w':World}{row:Option Nat}(h:w.grownBy w' row):Fr (fun k=>row=some k) w.heap w'.heap:=⟨h.size,fun k hk hn=>h.block k hk fun e=>hn e.symm⟩
theorem xD(g:Nat)(e:TypeId)(fz:Nat × Nat):∀(vs:List Value)(o:Nat)(cur:Array Value)(w:World),w.heap[g]? =some (.cells cur e fz)→o+vs.length≤cur.size→
 w.setCells g o vs=w.setRow g (cur.toList.take o++vs++cur.toList.drop (o+vs.length)).toArray
 |[],o,cur,w,hg,_=>by
  simp only[World.setCells,List.append_nil,awM,aw3,List.take_append_drop,Array.toArray_toList];rw[setRow_self w g cur e fz hg]
 |v::rest,o,cur,w,hg,hl=>by
  have ih:=xD g e fz rest (o+1) (cur.setIfInBounds o v) (w.setRow g (cur.setIfInBounds o v)) (setRow_heap w g cur _ e _ hg) (by simp at hl⊢;omega);rw[World.setCells,setCell_eq_setRow w g o cur e fz v hg,ih,setRow_setRow]
  congr 2
  have e:=list_seg_step cur.toList o v rest (by simp at hl⊢;omega);simpa[Array.toList_setIfInBounds,Nat.add_assoc]using e
theorem P7{P:Program}(w:World)(base:Nat)(t tx ty e:TypeId)(i:TypeInfo)(z:Value)(size bytes:Nat)(ht:P.underlying t=some (.slice e))(hi:P.info? e=some i)(hz:i.zero=some z)
 (aaG:i.size=size)(hby:i.bytes=bytes)(hzs:z.cells.size=size)(v:Value)(n m:Nat)(xs news:List Value)(x:Value)(gQ:Own w.heap base e size v n xs)(hs:Src P size tx x m news w)
 (Lv:n+m≤maxLen)(qz:(n+m)*bytes≤140737488355328)(rz:base≤w.heap.size):
 ∃v' w',(Builtin.append_ #[t,tx] ty #[v,x]).run P w= .ok v' w'∧Own w'.heap base e size v' (n+m) (xs++news)∧w.grownBy w' v.ownBlock∧(v'=nS↔v=nS∧m=0)∧∀k,v'.ownBlock=some k→v.ownBlock=some k∨w.heap.size≤k:=by
 subst aaG hby;have hlen:(xs++news).length=(n+m)*i.size:=by rw[awn,gQ.1,hs.newsLen,Nat.add_mul]
 have ajQ:((n+m:Nat):Int)≤9223372036854775807:=by simp only[maxLen]at Lv;omega
 have grow:∀(bo:Option Addr)(cap:Nat),v= .slice bo n cap→cap<n+m→(Builtin.firstCells i.size n (.slice bo n cap)).run P w.drew= .ok xs.toArray w.drew→
  ∃v' w',(Builtin.append_ #[t,tx] ty #[v,x]).run P w= .ok v' w'∧Own w'.heap base e i.size v' (n+m) (xs++news)∧w.grownBy w' v.ownBlock∧(v'=nS↔v= .slice none 0 0∧m=0)∧∀k,v'.ownBlock=some k→v.ownBlock=some k∨w.heap.size≤k:=by
  intro bo cap hv Lw hold;subst hv;have hr:=run_append_grow_src (P:=P) w t tx ty e i z ht hi hz bo n cap xs hold x m news hs Lw ajQ (growslice_fits Lw qz);have VJ:=grownCap_ge w (n+m) cap e;have apc:grownCap w (n+m) cap e≤maxLen:=grownCap_le_maxLen w (n+m) cap e Lv;refine⟨_,_,hr,⟨hlen, .inr ⟨w.heap.size,_,_,(0,0),rfl,rz,heap_alloc_new w.drew _,by intro j _;simp,VJ,apc,?_,?_⟩⟩,⟨rfl,rfl,rfl,by simp,fun k hk _=>by show(w.heap.push _)[k]? =_;rw[Array.getElem?_push,av9 (by omega)]⟩,?_,fun k hk=> .inr (by simp only[Value.ownBlock,awe]at hk;omega)⟩
  ·rw[Array.size_append,size_zeroCells,hzs,awU,hlen,←Nat.add_mul]
   congr 1;omega
  ·simp only[Array.toList_append,awQ]
   rw[←awQ,←hlen];exact List.take_left
  ·constructor
   ·intro h;cases h
   ·rintro⟨h1,h2⟩;cases h1;subst h2;simp at Lw
 rcases gQ.2 with⟨rfl,rfl⟩|⟨g,cap,cur,fz,rfl,yx,hg,Hf,hnc,hcm,hcs,af6⟩
 ·rcases Nat.eq_zero_or_pos m with rfl|hm
  ·refine⟨nS,w,?_,⟨hlen, .inl ⟨rfl,rfl⟩⟩,⟨rfl,rfl,rfl,awp _,fun _ _ _=>rfl⟩,by simp,fun k hk=> .inl hk⟩
   rcases hs.kind with⟨e',hk⟩|hk<;>simp[Builtin.append_,run_underlying ht,run_underlying hk,sizeOf,typeInfo,hi,hs.len,hs.cells]
  ·have QV:xs=[]:=List.eq_nil_of_length_eq_zero (by simpa using gQ.1)
   subst QV;exact grow none 0 rfl (by omega) (run_firstCells_none w.drew i.size 0 0 0)
 ·by_cases aaI:n+m≤cap
  ·have hnl:=hs.newsLen
   have hmul:(n+m)*i.size≤cap*i.size:=Nat.mul_le_mul_right _ aaI;rw[Nat.add_mul]at hmul;have hr:=run_append_room_src (P:=P) w t tx ty e i ht hi g 0 n cap x m news hs aaI
    (fun j hj=>by simp[World.cell?,hg];omega)
    (fun j hj=>by
     have:=Hf (0+n*i.size+j) (by omega);simp only[World.frozen?,hg,Bool.and_eq_false_iff,decide_eq_false_iff_not];omega)
   rw[xD g e fz news _ cur w hg (by omega)]at hr;refine⟨_,_,hr,⟨hlen, .inr ⟨g,cap,_,fz,rfl,yx,setRow_heap w g cur _ e _ hg,Hf,aaI,hcm,?_,?_⟩⟩,⟨rfl,rfl,rfl,by simp,fun k _ hk=>setRow_other w g k _ (fun e=>hk (by simp[Value.ownBlock,e]))⟩,by simp,fun k hk=> .inl hk⟩
   ·simp only[awU,awn,awz,aws,Array.length_toList]
    omega
   ·have ht':cur.toList.take (0+n*i.size)=xs:=by simpa using af6
    rw[ht',←hlen];exact List.take_left
  ·exact grow _ cap rfl (by omega) (run_firstCells_some w.drew i.size n ⟨g,0,none⟩ n cap xs gQ.1 (by
    intro j u hu;have ape:(⟨g,0,none⟩:Addr).add j=⟨g,j,none⟩:=by unfold Addr.add;split<;>simp_all
    rw[ape]
    show cellAt w.heap ⟨g,j,none⟩=_
    rw[au hg];rw[←af6,List.getElem?_take]at hu
    split at hu
    ·simpa using hu
    ·cases hu))
theorem yy{t tx e:TypeId}{size bytes:Nat}(hT:pE P t e size bytes=true){x y:Operand}{base:Nat}{v u:Value}{n m:Nat}{xs news:List Value}
 (hx:dC τ ρ x=some v)(hy:dC τ ρ y=some u)(gQ:Own h base e size v n xs)(af7:∀w:World,w.heap=h→Src P size tx u m news w)
 (Lv:n+m≤9223372036854775807)(qz:(n+m)*bytes≤140737488355328)(rz:base≤h.size)
 (H:∀v' h',Own h' base e size v' (n+m) (xs++news)→Fr (fun k=>v.ownBlock=some k) h h'→(v'=nS↔v=nS∧m=0)→(∀k,v'.ownBlock=some k→v.ownBlock=some k∨h.size≤k)→K v' h'):
 li P (.call {callee:= .builtin .append,args:=#[x,y],argTypes:=#[t,tx]}) ty τ ρ h K:=by
 obtain⟨i,z,t1,t2,t3,t4,t5,t6,t7⟩:=oh hT;refine VI (x:=x) (y:=y) (by rfl) hx hy fun f oG si=>?_;intro w hw;have hs:=af7 w hw;subst hw;obtain⟨v',w',r1,r2,r3,r4,r5⟩:=P7 (P:=P) w base t tx ty e i z size bytes t1 t2 t3 t4 t5 t6 v n m xs news u gQ hs (by simpa[maxLen]using Lv) qz rz;refine⟨.value v',w',?_,⟨r3.os,r3.tape,r3.output⟩,H v' w'.heap r2 (adG r3) r4 r5⟩;simp only[execOp,ep.oper,resolve,invoke,builtin,Sem.run_bind,Sem.run_pure,Result.andThen,axe,awH,awI,oG,si,r1]
theorem Bm{t tx e:TypeId}{size bytes:Nat}(hT:pE P t e size bytes=true){x y:Operand}{base:Nat}{v u:Value}{n m:Nat}{xs news:List Value}
 (hx:dC τ ρ x=some v)(hy:dC τ ρ y=some u)(gQ:Own h base e size v n xs)(af7:∀w:World,w.heap=h→Src P size tx u m news w)
 (Lv:n+m≤9223372036854775807)(qz:(n+m)*bytes≤140737488355328)(rz:base≤h.size)
 (H:∀v' h',Own h' base e size v' (n+m) (xs++news)→Fr (fun k=>v.ownBlock=some k) h h'→(v'=nS↔v=nS∧m=0)→K v' h'):
 li P (.call {callee:= .builtin .append,args:=#[x,y],argTypes:=#[t,tx]}) ty τ ρ h K:=
 yy hT hx hy gQ af7 Lv qz rz fun v' h' a b c _=>H v' h' a b c
theorem bF{t e:TypeId}{size bytes:Nat}(hT:pE P t e size bytes=true){x y:Operand}{base:Nat}{v:Value}{n m c:Nat}{xs news:List Value}{b o:Nat}
 (hx:dC τ ρ x=some v)(hy:dC τ ρ y=some (.slice (some ⟨b,o,none⟩) m c))(gQ:Own h base e size v n xs)(hl:news.length=m*size)(aaJ:Rd h b o news)(h1:∀u∈news,oneCell u=true)
 (Lv:n+m≤9223372036854775807)(qz:(n+m)*bytes≤140737488355328)(rz:base≤h.size)
 (H:∀v' h',Own h' base e size v' (n+m) (xs++news)→Fr (fun k=>v.ownBlock=some k) h h'→(v'=nS↔v=nS∧m=0)→K v' h'):
 li P (.call {callee:= .builtin .append,args:=#[x,y],argTypes:=#[t,t]}) ty τ ρ h K:=by
 obtain⟨i,z,t1,t2,t3,t4,t5,t6,t7⟩:=oh hT;refine Bm hT hx hy gQ (fun w hw=>?_) Lv qz rz H;subst hw;refine Src.ofSlice w t1 ⟨b,o,none⟩ m c news hl (fun j u hu=>?_) fun u hu=>by have:=h1 u hu;cases u<;>first|rfl|(simp[oneCell]at this)
 have ha:(⟨b,o,none⟩:Addr).add j=⟨b,o+j,none⟩:=by unfold Addr.add;split<;>simp_all
 rw[ha];exact aaJ j u hu
theorem j5{t e:TypeId}{size bytes:Nat}(hT:pE P t e size bytes=true){x y:Operand}{base:Nat}{v:Value}{n m c:Nat}{xs news:List Value}{b o:Nat}
 (hx:dC τ ρ x=some v)(hy:dC τ ρ y=some (.slice (some ⟨b,o,none⟩) m c))(gQ:Own h base e size v n xs)(hl:news.length=m*size)(aaJ:Rd h b o news)(h1:∀u∈news,oneCell u=true)
 (Lv:n+m≤9223372036854775807)(qz:(n+m)*bytes≤140737488355328)(rz:base≤h.size)
 (H:∀v' h',Own h' base e size v' (n+m) (xs++news)→Fr (fun k=>v.ownBlock=some k) h h'→(v'=nS↔v=nS∧m=0)→(∀k,v'.ownBlock=some k→v.ownBlock=some k∨h.size≤k)→K v' h'):
 li P (.call {callee:= .builtin .append,args:=#[x,y],argTypes:=#[t,t]}) ty τ ρ h K:=by
 obtain⟨i,z,t1,t2,t3,t4,t5,t6,t7⟩:=oh hT;refine yy hT hx hy gQ (fun w hw=>?_) Lv qz rz H;subst hw;refine Src.ofSlice w t1 ⟨b,o,none⟩ m c news hl (fun j u hu=>?_) fun u hu=>by have:=h1 u hu;cases u<;>first|rfl|(simp[oneCell]at this)
 have ha:(⟨b,o,none⟩:Addr).add j=⟨b,o+j,none⟩:=by unfold Addr.add;split<;>simp_all
 rw[ha];exact aaJ j u hu
def iL(l:az):List Value:=l.map fun c=> .int .u8 (c.toNat:Int)
theorem TG{s d e:TypeId}(hs:P.underlying s=some .string)(hd:P.underlying d=some (.slice e))(he:P.underlying e=some (.int .u8)){x:Operand}{l:az}{base:Nat}(hx:dC τ ρ x=some (str l))(hb:base≤h.size)(hl:l.length≤9223372036854775807)
 (H:∀v h',Own h' base e 1 v l.length (iL l)→Ext h h'→K v h'):li P (.convert s d x) ty τ ρ h K:=by
 refine VH (by rfl) hx fun f hf=>?_;simp only[execOp,ep.oper,hf];refine Lu fun w hw=>?_;subst hw;have hr:=run_bytes_of_string (P:=P) w s d e ⟨l.toArray⟩ hs hd he;have hz:(⟨l.toArray⟩:ByteArray).size=l.length:=by show l.toArray.size=_;simp
 rw[hz]at hr;refine⟨_,_,hr,⟨rfl,rfl,rfl⟩,H _ _ ⟨by simp[iL], .inr ⟨w.heap.size,_,_,_,rfl,hb,heap_alloc_new w.drew _,?_,grownCap_ge _ _ _ _,grownCap_le_maxLen _ _ _ _ (by simpa[maxLen]using hl),?_,?_⟩⟩ (Ext.push _ _)⟩
 ·intro j hj hc
  have VJ:=grownCap_ge w l.length 0 e;have:(bytesRow ⟨l.toArray⟩ (grownCap w l.length 0 e)).size=grownCap w l.length 0 e:=by simp[bytesRow,hz];omega
  rw[this]at hc;have:=hc.1;simp only at this;omega
 ·have VJ:=grownCap_ge w l.length 0 e
  simp[bytesRow,hz];omega
 ·simp only[bytesRow,Array.toList_append,Array.toList_map,Nat.mul_one]
  exact List.take_left' (by simp)
theorem P8(f:Value→ByteArray→Sem (ForInStep ByteArray))(hf:∀(c:UInt8)(r:ByteArray),rd P (f (.int .u8 (c.toNat:Int)) r) h=some (.yield (r.push c))):
 ∀(l:az)(s:ByteArray),rd P (forIn (iL l) s f) h=some ⟨(s.data.toList++l).toArray⟩:=by
 intro l
 induction l with
 |nil=>intro s;simp[iL,aZ]
 |cons c l ih=>
  intro s;have:=ih (s.push c);simp only[iL,awH,List.forIn_cons,aM,hf,awc]at this⊢;rw[this];simp[ByteArray.push]
theorem adH{s d e:TypeId}{b o n c:Nat}{l:az}(hs:P.underlying s=some (.slice e))(he:P.underlying e=some (.int .u8))(hd:P.underlying d=some .string)(H:Rd h b o (iL l))(hl:l.length=n):
 oS P s d (.slice (some ⟨b,o,none⟩) n c) h=some (str l):=by
 unfold oS convert;rw[aM,aY hs,awc,aM,aY hd,awc];simp only[aM,aY he,awc,Conv.bytesToString];rw[xC H (by simpa[iL]using hl),awc,List.forIn_toArray];rw[P8 _ (by intro c r;simp[aZ])];simp only[awc,aZ,str];rfl
theorem IX{s d e:TypeId}{c n:Nat}(hs:P.underlying s=some (.slice e))(he:P.underlying e=some (.int .u8))(hd:P.underlying d=some .string):
 oS P s d (.slice none n c) h=some (str []):=by
 unfold oS convert;rw[aM,aY hs,awc,aM,aY hd,awc];simp only[aM,aY he,awc,Conv.bytesToString,aZ];rfl
theorem QW(f:Value→ByteArray→Sem (ForInStep ByteArray))(hf:∀(n:Int)(r:ByteArray),rd P (f (.int .u8 n) r) h=some (.yield (r.push (UInt8.ofNat n.toNat)))):
 ∀(l:List Int)(s:ByteArray),rd P (forIn (l.map (Value.int .u8)) s f) h=some ⟨(s.data.toList++l.map fun n=>UInt8.ofNat n.toNat).toArray⟩:=by
 intro l
 induction l with
 |nil=>intro s;simp[aZ]
 |cons c l ih=>
  intro s;have:=ih (s.push (UInt8.ofNat c.toNat));simp only[awH,List.forIn_cons,aM,hf,awc]at this⊢;rw[this];simp[ByteArray.push]
theorem QX{s d e:TypeId}{b o n c:Nat}{l:List Int}(hs:P.underlying s=some (.slice e))(he:P.underlying e=some (.int .u8))(hd:P.underlying d=some .string)(H:Rd h b o (l.map (Value.int .u8)))(hl:l.length=n):
 oS P s d (.slice (some ⟨b,o,none⟩) n c) h=some (str (l.map fun n=>UInt8.ofNat n.toNat)):=by
 unfold oS convert;rw[aM,aY hs,awc,aM,aY hd,awc];simp only[aM,aY he,awc,Conv.bytesToString];rw[xC H (by simpa using hl),awc,List.forIn_toArray];rw[QW _ (by intro c r;simp[aZ])];simp only[awc,aZ,str];rfl
theorem bV{vs:List Value}{e:TypeId}{fz:Nat × Nat}:Rd (h.push (.cells vs.toArray e fz)) h.size 0 vs:=by
 intro j v hv;rw[aw2,fo];simpa using hv
theorem af8{s d e:TypeId}{c:Nat}{a:Int}{e':TypeId}{fz:Nat × Nat}(hs:P.underlying s=some (.slice e))(he:P.underlying e=some (.int .u8))(hd:P.underlying d=some .string):
 oS P s d (.slice (some ⟨h.size,0,none⟩) 1 c) (h.push (.cells #[.int .u8 a] e' fz))=some (str [UInt8.ofNat a.toNat]):=
 QX (l:=[a]) hs he hd (bV (vs:=[.int .u8 a])) rfl
theorem af9{s d e:TypeId}{c:Nat}{a b:Int}{e':TypeId}{fz:Nat × Nat}(hs:P.underlying s=some (.slice e))(he:P.underlying e=some (.int .u8))(hd:P.underlying d=some .string):
 oS P s d (.slice (some ⟨h.size,0,none⟩) 2 c) (h.push (.cells #[.int .u8 a, .int .u8 b] e' fz))=some (str [UInt8.ofNat a.toNat,UInt8.ofNat b.toNat]):=
 QX (l:=[a,b]) hs he hd (bV (vs:=[.int .u8 a, .int .u8 b])) rfl
theorem aga{s d e:TypeId}{c':Nat}{a b c:Int}{e':TypeId}{fz:Nat × Nat}(hs:P.underlying s=some (.slice e))(he:P.underlying e=some (.int .u8))(hd:P.underlying d=some .string):
 oS P s d (.slice (some ⟨h.size,0,none⟩) 3 c') (h.push (.cells #[.int .u8 a, .int .u8 b, .int .u8 c] e' fz))=some (str [UInt8.ofNat a.toNat,UInt8.ofNat b.toNat,UInt8.ofNat c.toNat]):=
 QX (l:=[a,b,c]) hs he hd (bV (vs:=[.int .u8 a, .int .u8 b, .int .u8 c])) rfl
theorem Own.rd{base:Nat}{e:TypeId}{size:Nat}{v:Value}{n:Nat}{xs:List Value}(H:Own h base e size v n xs):(v=nS∧n=0∧xs=[])∨∃g cap,v= .slice (some ⟨g,0,none⟩) n cap∧base≤g∧Rd h g 0 xs:=by
 obtain⟨h1,h2⟩:=H;rcases h2 with⟨rfl,rfl⟩|⟨g,cap,cur,fz,rfl,h3,h4,_,h5,h6,h7,h8⟩
 ·exact .inl ⟨rfl,rfl,List.eq_nil_of_length_eq_zero (by simpa using h1)⟩
 ·refine .inr ⟨g,cap,rfl,h3,?_⟩
  intro j v hv;rw[au h4,aw2];rw[←h8,List.getElem?_take]at hv
  split at hv
  ·simpa using hv
  ·cases hv
theorem ajS{s d e:TypeId}{base:Nat}{e':TypeId}{v:Value}{n:Nat}{l:az}(hs:P.underlying s=some (.slice e))(he:P.underlying e=some (.int .u8))(hd:P.underlying d=some .string)(H:Own h base e' 1 v n (iL l)):
 oS P s d v h=some (str l):=by
 have hl:l.length=n:=by have:=H.1;simpa[iL]using this
 rcases H.rd with⟨rfl,_,h3⟩|⟨g,cap,rfl,_,h3⟩
 ·have:l=[]:=by simpa[iL]using h3
  subst this;exact IX hs he hd
 ·exact adH hs he hd h3 hl
def Sl(h:ar)(v:Value)(xs:List Value):Prop:=∃a c,v= .slice a xs.length c∧(xs=[]∨∃b o,a=some ⟨b,o,none⟩∧Rd h b o xs)
theorem Own.sl{base:Nat}{e:TypeId}{v:Value}{n:Nat}{xs:List Value}(H:Own h base e 1 v n xs):Sl h v xs:=by
 have hl:=H.1;rcases H.rd with⟨rfl,_,rfl⟩|⟨g,cap,rfl,_,h3⟩
 ·exact⟨none,0,rfl, .inl rfl⟩
 ·exact⟨some ⟨g,0,none⟩,cap,by rw[hl];simp, .inr ⟨g,0,rfl,h3⟩⟩
theorem Rd.lt{b o:Nat}{xs:List Value}(H:Rd h b o xs)(cN:xs≠[]):b<h.size:=by
 cases xs with
 |nil=>exact aww rfl cN
 |cons x r=>exact JJ (H 0 x rfl)
theorem Sl.fr{S:Nat→Prop}{h':ar}{v:Value}{xs:List Value}(H:Sl h v xs)(hf:Fr S h h')(hS:∀k,k<h.size→v.ownBlock=some k→¬S k):Sl h' v xs:=by
 obtain⟨a,c,rfl,h1⟩:=H;refine⟨a,c,rfl,?_⟩;rcases h1 with h1|⟨b,o,rfl,h1⟩
 ·exact .inl h1
 ·by_cases cN:xs=[]
  ·exact .inl cN
  ·have hb:=h1.lt cN
   exact .inr ⟨b,o,rfl,hf.rd h1 hb (hS b hb rfl)⟩
theorem Sl.ext{h':ar}{v:Value}{xs:List Value}(H:Sl h v xs)(hf:Ext h h'):Sl h' v xs:=H.fr hf fun _ _ _=>awx
theorem Sl.at{v:Value}{xs:List Value}(H:Sl h v xs){i:Nat}(hi:i<xs.length):∃b o c,v= .slice (some ⟨b,o,none⟩) xs.length c∧b<h.size∧cellAt h ⟨b,o+i,none⟩=some (xs.getD i undef):=by
 obtain⟨a,c,rfl,h1⟩:=H;rcases h1 with rfl|⟨b,o,rfl,h1⟩
 ·simp at hi
 ·refine⟨b,o,c,rfl,h1.lt (by intro e;subst e;simp at hi),?_⟩
  refine h1 i _ ?_;simp[hi]
theorem rA{t e:TypeId}{size bytes:Nat}(hT:pE P t e size bytes=true){x y:Operand}{k k':IntKind}{n:Int}(hx:dC τ ρ x=some (.int k n))(hy:dC τ ρ y=some (.int k' n))(h0:0≤n)(hb:(bytes:Int)*n≤281474976710656)(Lv:n≤9223372036854775807)
 (H:∀cs:Array Value,∀z i,P.info? e=some i→i.zero=some z→cs=madeCells z.cells (n.toNat*size)→K (.slice (some ⟨h.size,0,none⟩) n.toNat n.toNat) (h.push (.cells cs e))):li P (.makeSlice t x y) ty τ ρ h K:=by
 obtain⟨i,z,t1,t2,t3,t4,t5,t6,t7⟩:=oh hT;refine VI (x:=x) (y:=y) (by rfl) hx hy fun f oG si=>?_;simp only[execOp,ep.oper,oG,si];refine Lu fun w hw=>?_;subst hw;have hr:=run_make (P:=P) w t e i z t1 t2 t3 k k' n n h0 (Int.le_refl _) (by rw[t5];exact hb) Lv;rw[t4]at hr;exact⟨_,_,hr,⟨rfl,rfl,rfl⟩,H _ z i t2 t3 rfl⟩
theorem XG{t:TypeId}{i:TypeInfo}(hi:P.info? t=some i)(gB:i.size=1){x y:Operand}{b o:Nat}{v u:Value}(hx:dC τ ρ x=some (.pointer (some ⟨b,o,none⟩)))(hy:dC τ ρ y=some v)
 (hv:v.cells=#[v])(eY:oneCell v=true)(hc:cellAt h ⟨b,o,none⟩=some u)(hz:frozenAt h ⟨b,o,none⟩=false)(H:K undef (setAt h ⟨b,o,none⟩ v)):li P (.store t x y) ty τ ρ h K:=by
 refine VI (x:=x) (y:=y) (by rfl) hx hy fun f oG si=>?_;simp only[execOp,ep.oper,oG,si];refine acv (uj ?_)
 show hr P (storeVar t ⟨b,o,none⟩ v) h _
 unfold storeVar;rw[uk];refine Nq _ _ i.size _ (jP hi) ?_;rw[hv,gB];exact⟨eY,by show(cellAt h ⟨b,o,none⟩).isSome=true;rw[hc];rfl,hz,H⟩
theorem jv{t:TypeId}{i:TypeInfo}(hi:P.info? t=some i){x y:Operand}{b o:Nat}{v:Value}{cur:Array Value}{e:TypeId}{fz:Nat × Nat}
 (hx:dC τ ρ x=some (.pointer (some ⟨b,o,none⟩)))(hy:dC τ ρ y=some v)(gB:v.cells.size=i.size)(eY:∀u∈v.cells.toList,oneCell u=true)
 (hb:h[b]? =some (.cells cur e fz))(hlen:o+i.size≤cur.size)(Hf:∀j,o≤j→j<o+i.size→¬(fz.1≤j∧j<fz.2))
 (H:∀h',Fr (fun k=>k=b) h h'→h'.size=h.size→h'[b]? =some (.cells (cur.toList.take o++v.cells.toList++cur.toList.drop (o+i.size)).toArray e fz)→K undef h'):li P (.store t x y) ty τ ρ h K:=by
 refine VI (x:=x) (y:=y) (by rfl) hx hy fun f oG si=>?_;simp only[execOp,ep.oper,oG,si];refine acv fun w hw=>?_;subst hw;have amh:∀u∈v.cells.toList,u.oneCell'=true:=fun u hu=>by have:=eY u hu;cases u<;>first|rfl|(simp[oneCell]at this)
 have hl:v.cells.toList.length=i.size:=by rw[Array.length_toList,gB]
 have gl:=run_storeCells_cells (P:=P) b o v.cells.toList 0 w (fun j hj=>by simp[World.cell?,hb];omega)
  (fun j hj=>by
   have:=Hf (o+0+j) (by omega) (by omega);simp only[World.frozen?,hb,Bool.and_eq_false_iff,decide_eq_false_iff_not];simp only[aw3]at this⊢;omega) amh
 simp only[aw3]at gl;rw[xD b e fz v.cells.toList o cur w hb (by omega),hl]at gl;refine⟨(),w.setRow b (cur.toList.take o++v.cells.toList++cur.toList.drop (o+i.size)).toArray,?_,⟨rfl,rfl,rfl⟩,H _ ⟨by simp,fun k hk hn=>setRow_other w b k _ hn⟩ (by simp) (setRow_heap w b cur _ e _ hb)⟩
 show(storeVar t ⟨b,o,none⟩ v).run P w=_
 have aaG:(sizeOf t).run P w= .ok i.size w:=qq _ w i.size (by rw[jP hi]);unfold storeVar;rw[Sem.run_bind,aaG];simp only[Result.andThen,gB,ne_eq,not_true_eq_false,aw1];exact gl
theorem QY{t:TypeId}{i:TypeInfo}(hi:P.info? t=some i){x y:Operand}{v:Value}{cs:Array Value}{e:TypeId}
 (hx:dC τ ρ x=some (.pointer (some ⟨h.size,0,none⟩)))(hy:dC τ ρ y=some v)(gB:v.cells.size=i.size)(eY:∀u∈v.cells.toList,oneCell u=true)(hcs:cs.size=i.size)
 (H:∀h',Ext h h'→h.size<h'.size→Rd h' h.size 0 v.cells.toList→h'[h.size]? =some (.cells v.cells e (0,0))→K undef h'):li P (.store t x y) ty τ ρ (h.push (.cells cs e)) K:=by
 refine jv (cur:=cs) (e:=e) (fz:=(0,0)) hi hx hy gB eY (by simp) (by omega) (by intro j _ _;simp) fun h' hf hs hb=>?_;have ju:h'[h.size]? =some (.cells v.cells e (0,0)):=by
  rw[hb];have:cs.toList.drop (0+i.size)=[]:=by rw[List.drop_eq_nil_iff];simp;omega
  rw[this];simp
 refine H h' (Fr.trans (Ext.push h _) hf (fun _ _ h=>h) fun k hk hS=>by omega) (by rw[hs];simp) ?_ ju;intro j u hu;rw[aw2,au ju];simpa using hu
def fN(P:Program)(t:TypeId)(cs:Array Value):Prop:=((P.info? t).bind fun i=>i.zero.map fun z=>(z.cells,i.size))=some (cs,cs.size)
theorem jx{t:TypeId}{cs:Array Value}(H:fN P t cs):∃i z,P.info? t=some i∧i.zero=some z∧z.cells=cs∧i.size=cs.size:=by
 unfold fN at H;cases hi:P.info? t with
 |none=>rw[hi]at H;cases H
 |some i=>
  rw[hi]at H;cases hz:i.zero with
  |none=>rw[awc,hz]at H;cases H
  |some z=>
   rw[awc,hz]at H;simp only[axc,awe,aw8]at H;exact⟨i,z,rfl,hz,H.1,H.2⟩
theorem aD{e:TypeId}{cs:Array Value}(hz:fN P e cs)(H:K (.pointer (some ⟨h.size,0,none⟩)) (h.push (.cells cs e))):li P (.alloc e) ty τ ρ h K:=by
 obtain⟨i,z,h1,h2,rfl,_⟩:=jx hz;exact aaC h1 h2 H
theorem aC{t:TypeId}{cs:Array Value}(hz:fN P t cs)(gB:cs.size=1){x y:Operand}{b o:Nat}{v u:Value}(hx:dC τ ρ x=some (.pointer (some ⟨b,o,none⟩)))(hy:dC τ ρ y=some v)
 (hv:v.cells=#[v])(eY:oneCell v=true)(hc:cellAt h ⟨b,o,none⟩=some u)(Hf:frozenAt h ⟨b,o,none⟩=false)(H:K undef (setAt h ⟨b,o,none⟩ v)):li P (.store t x y) ty τ ρ h K:=by
 obtain⟨i,z,h1,h2,rfl,h3⟩:=jx hz;exact XG h1 (by omega) hx hy hv eY hc Hf H
theorem aI{t:TypeId}{cz:Array Value}(hz:fN P t cz){x y:Operand}{v:Value}{cs:Array Value}{e:TypeId}
 (hx:dC τ ρ x=some (.pointer (some ⟨h.size,0,none⟩)))(hy:dC τ ρ y=some v)(gB:v.cells.size=cz.size)(eY:∀u∈v.cells.toList,oneCell u=true)(hcs:cs.size=cz.size)
 (H:∀h',Ext h h'→h.size<h'.size→Rd h' h.size 0 v.cells.toList→h'[h.size]? =some (.cells v.cells e (0,0))→K undef h'):li P (.store t x y) ty τ ρ (h.push (.cells cs e)) K:=by
 obtain⟨i,z,h1,h2,rfl,h3⟩:=jx hz;exact QY h1 hx hy (by omega) eY (by omega) H
def fR(h:ar)(size:Nat)(v:Value)(n:Nat)(xs:List Value):Prop:=xs.length=n*size∧∃a c,v= .slice a n c∧(n=0∨∃b o,a=some ⟨b,o,none⟩∧Rd h b o xs)
theorem Own.dQ{base:Nat}{e:TypeId}{size:Nat}{v:Value}{n:Nat}{xs:List Value}(H:Own h base e size v n xs):fR h size v n xs:=by
 refine⟨H.1,?_⟩;rcases H.rd with⟨rfl,rfl,rfl⟩|⟨g,cap,rfl,_,h3⟩
 ·exact⟨none,0,rfl, .inl rfl⟩
 ·exact⟨_,cap,rfl, .inr ⟨g,0,rfl,h3⟩⟩
theorem fR.fr{S:Nat→Prop}{h':ar}{size:Nat}{v:Value}{n:Nat}{xs:List Value}(H:fR h size v n xs)(gB:0<size)(hf:Fr S h h')(hS:∀k,k<h.size→v.ownBlock=some k→¬S k):fR h' size v n xs:=by
 obtain⟨hl,a,c,rfl,h1⟩:=H;refine⟨hl,a,c,rfl,?_⟩;rcases h1 with h1|⟨b,o,rfl,h1⟩
 ·exact .inl h1
 ·by_cases cN:xs=[]
  ·subst cN
   rcases Nat.eq_zero_or_pos n with h0|h0
   ·exact .inl h0
   ·exact aww hl (by have:=Nat.mul_pos h0 gB;simp;omega)
  ·have hb:=h1.lt cN
   exact .inr ⟨b,o,rfl,hf.rd h1 hb (hS b hb rfl)⟩
theorem fR.ext{h':ar}{size:Nat}{v:Value}{n:Nat}{xs:List Value}(H:fR h size v n xs)(gB:0<size)(hf:Ext h h'):fR h' size v n xs:=H.fr gB hf fun _ _ _=>awx
theorem Rd.sub{b o:Nat}{xs:List Value}(H:Rd h b o xs)(k m:Nat):Rd h b (o+k) ((xs.drop k).take m):=by
 intro j v hv;rw[List.getElem?_take]at hv
 split at hv
 ·rw[List.getElem?_drop]at hv
  have:=H (k+j) v hv;rwa[←Nat.add_assoc]at this
 ·cases hv
theorem fR.at{size:Nat}{v:Value}{n:Nat}{xs:List Value}(H:fR h size v n xs){i:Nat}(hi:i<n):∃b o c,v= .slice (some ⟨b,o,none⟩) n c∧Rd h b (o+i*size) ((xs.drop (i*size)).take size)∧((xs.drop (i*size)).take size).length=size:=by
 obtain⟨hl,a,c,rfl,h1⟩:=H;rcases h1 with rfl|⟨b,o,rfl,h1⟩
 ·omega
 ·refine⟨b,o,c,rfl,h1.sub _ _,?_⟩
  rw[awz,aws,hl];have:(i+1)*size≤n*size:=Nat.mul_le_mul_right _ hi;rw[Nat.add_mul]at this;omega
end
theorem gU{k:Nat}(h:k<9223372036854775807):IntKind.i64.wrap ((k:Int)+1)=((k+1:Nat):Int):=by rw[wrap_i64 (by omega) (by omega)];omega
end
end Go.Vc
