/- The stripped code of a function, had by rewriting out of the program's own form. Short words for the printed code. The stripped code of some functions of this seat's program, printed by a program; that it is that code is proved by the kernel. -/
import Derived.Test.YtmbboehmnfhjjaaGreatDoorU1
import Derived.KernelRfl
import Derived.Test.YtmbboehmnfhjjaaGreatDoorProg
set_option linter.defProp false
set_option maxRecDepth 100000
set_option linter.unusedSimpArgs false
set_option linter.unusedVariables false
namespace Go.Vc
section
structure Fc where
 c:Code
 L:List Nat
 n:Nat
def gm:Code→List Code
 | .region i ops d=>[.region i ops d]
 | .seq a b=>gm a++gm b
 | .cond _ a b=>gm a++gm b
 | .block _ a=>gm a
 | .loop a=>gm a
 | .scope a=>gm a
 |_=>[]
def rg(P:Program)(F:Fc)(k:Nat):Cd:=match(gm F.c)[k]? with
 |some r=>(strip P F.L F.n r).getD .skip
 |none=> .skip
def sk(f:Nat→Cd):Code→Nat→Cd
 | .region ..,k=>f k
 | .seq a b,k=> .seq (sk f a k) (sk f b (k+(gm a).length))
 | .cond o a b,k=> .cond o (sk f a k) (sk f b (k+(gm a).length))
 | .block i a,k=> .block i (sk f a k)
 | .loop a,k=> .loop (sk f a k)
 | .scope a,k=>sk f a k
 | .exit i,_=> .exit i
 | .ret,_=> .ret
 | .goto _,_=> .cond (.const (.int .i64 0)) .skip .skip
 |_,_=> .skip
def fc(fn:Func)(L:List Nat):Fc:=⟨fn.body.getD .skip,L,fn.ntmps⟩
def cdF(P:Program)(F:Fc):Cd:=sk (rg P F) F.c 0
theorem adI{P:Program}{L:List Nat}{n:Nat}{C:Code}:∀(c:Code)(k:Nat)(cd:Cd),strip P L n c=some cd→(∀i,i<(gm c).length→(gm C)[k+i]? =(gm c)[i]?)→sk (rg P ⟨C,L,n⟩) c k=cd:=by
 intro c
 induction c with
 |region i ops d=>
  intro k cd h hr;have:=hr 0 (by simp[gm]);simp only[sk,rg,aw3]at*;rw[this];simp[gm,h]
 |seq a b Am ihb=>
  intro k cd h hr;simp only[strip]at h;cases ha:strip P L n a with
  |none=>simp[ha]at h
  |some x=>
   cases hb:strip P L n b with
   |none=>simp[ha,hb]at h
   |some y=>
    simp only[ha,hb,awe]at h;simp only[gm,awn]at hr;rw[sk,Am k x ha (fun i hi=>by rw[hr i (by omega),awS hi]),ihb _ y hb (fun i hi=>by rw[Nat.add_assoc,hr _ (by omega),awT (by omega),Nat.add_sub_cancel_left]),h]
 |cond o a b Am ihb=>
  intro k cd h hr;simp only[strip]at h;cases ha:strip P L n a with
  |none=>simp[ha]at h
  |some x=>
   cases hb:strip P L n b with
   |none=>simp[ha,hb]at h
   |some y=>
    simp only[ha,hb,awe]at h;simp only[gm,awn]at hr;rw[sk,Am k x ha (fun i hi=>by rw[hr i (by omega),awS hi]),ihb _ y hb (fun i hi=>by rw[Nat.add_assoc,hr _ (by omega),awT (by omega),Nat.add_sub_cancel_left]),h]
 |block i a Am=>
  intro k cd h hr;simp only[strip]at h;cases ha:strip P L n a with
  |none=>simp[ha]at h
  |some x=>simp only[ha,axc,awe]at h;rw[sk,Am k x ha hr,h]
 |loop a Am=>
  intro k cd h hr;simp only[strip]at h;cases ha:strip P L n a with
  |none=>simp[ha]at h
  |some x=>simp only[ha,axc,awe]at h;rw[sk,Am k x ha hr,h]
 |scope a Am=>intro k cd h hr;exact Am k cd h hr
 |skip=>intro k cd h _;simpa[strip,sk]using h
 |exit i=>intro k cd h _;simpa[strip,sk]using h
 |ret=>intro k cd h _;simpa[strip,sk]using h
 |label l=>intro k cd h _;simpa[strip,sk]using h
 |goto l=>intro k cd h _;simpa[strip,sk]using h
 |rangeFunc=>intro k cd h _;simp[strip]at h
 |refuse=>intro k cd h _;simp[strip]at h
theorem ajT{P:Program}{fn:Func}{L:List Nat}(h:(Aj P L fn).isSome=true):Aj P L fn=some (cdF P (fc fn L)):=by
 obtain⟨cd,An⟩:=Option.isSome_iff_exists.1 h;rw[An];unfold Aj at An;cases hb:fn.body with
 |none=>rw[hb]at An;cases An
 |some c=>
  rw[hb]at An;simp only[cdF,fc,hb,Option.getD_some];rw[adI c 0 cd An (fun i _=>by rw[aw2])]
def d2(L:List Nat):Option Nat→Option (Nat × Bool)
 |none=>none
 |some t=>some (t,L.contains t)
def dN:List Oper→Nat→Nat
 |[],_=>0
 |o::_,0=>o.dst.getD 0
 |_::r,n+1=>dN r n
def g2(all:List Oper):Option (Nat × Bool)→Option (Nat × Bool)
 |none=>none
 |some (j,w)=>some (dN all j,w)
def qO(P:Program)(o:Op):Bool:=yn P o
def IY(P:Program)(L:List Nat)(all:List Oper):List Oper→List ep
 |[]=>[]
 |o::r=>⟨d2 L o.dst,o.op,o.type,g2 all o.guard,qO P o.op⟩::IY P L all r
theorem acw:∀(l:List Oper)(j g:Nat),(l[j]?).bind (·.dst)=some g→dN l j=g:=by
 intro l
 induction l with
 |nil=>intro j g h;simp at h
 |cons o r ih=>
  intro j g h;cases j with
  |zero=>simp at h;simp[dN,h]
  |succ j=>exact ih j g (by simpa using h)
theorem agb{P:Program}{L:List Nat}{n:Nat}{all:List Oper}:∀(l:List Oper)(s:List ep),kV P L n all l=some s→IY P L all l=s:=by
 intro l
 induction l with
 |nil=>intro s h;simpa[kV,IY]using h
 |cons o r ih=>
  intro s h;simp only[kV]at h;cases h1:oP P L n all o with
  |none=>simp[h1]at h
  |some x=>
   cases h2:kV P L n all r with
   |none=>simp[h1,h2]at h
   |some y=>
    simp only[h1,h2,awe]at h;rw[IY,ih y h2,←h]
    congr 1
    unfold oP at h1
    split at h1
    ·rcases o with⟨d,op,ty,pos,af,g⟩
     cases d with
     |none=>
      cases g with
      |none=>simp only[awe]at h1;rw[←h1];rfl
      |some jw=>
       obtain⟨j,w⟩:=jw;cases hg:(all[j]?).bind (·.dst)with
       |none=>simp[hg]at h1
       |some g=>simp only[hg,awe]at h1;rw[←h1];simp[d2,g2,qO,acw all j g hg]
     |some t=>
      by_cases ht:t<n
      ·cases g with
       |none=>simp only[ht,aw0,awe]at h1;rw[←h1];rfl
       |some jw=>
        obtain⟨j,w⟩:=jw;cases hg:(all[j]?).bind (·.dst)with
        |none=>simp[hg]at h1
        |some g=>simp only[hg,ht,aw0,awe]at h1;rw[←h1];simp[d2,g2,qO,acw all j g hg]
      ·simp[ht]at h1
    ·cases h1
inductive It where
 |a
 |o
 |q (i n:Nat) (t:It)
 |r (i:Nat) (l:List Nat) (t:It)
 |b (x y:It)
def so(P:Program)(L:List Nat)(all:List Oper):List Oper→Nat→ep
 |[],_=>⟨none, .move (.tmp 0),0,none,false⟩
 |o::_,0=>⟨d2 L o.dst,o.op,o.type,g2 all o.guard,qO P o.op⟩
 |_::r,n+1=>so P L all r n
def sl(P:Program)(L:List Nat)(all:List Oper):List Nat→List ep
 |[]=>[]
 |i::r=>so P L all all i::sl P L all r
def qs(P:Program)(L:List Nat)(all:List Oper):List Oper→Nat→Dt→Dt
 |o::r,n+1,t=> .run ⟨d2 L o.dst,o.op,o.type,g2 all o.guard,qO P o.op⟩ [] (qs P L all r n t)
 |_,_,t=>t
def qa(P:Program)(L:List Nat)(all:List Oper):List Oper→Dt
 |o::r=> .run ⟨d2 L o.dst,o.op,o.type,g2 all o.guard,qO P o.op⟩ [] (qa P L all r)
 |[]=> .done
def dp:List Oper→Nat→List Oper
 |_::r,n+1=>dp r n
 |l,_=>l
def DY(P:Program)(L:List Nat)(all:List Oper):It→Dt
 | .a=>qa P L all all
 | .o=> .done
 | .q i n t=>qs P L all (dp all i) n (DY P L all t)
 | .r i l t=> .run (so P L all all i) (sl P L all l) (DY P L all t)
 | .b x y=> .both (DY P L all x) (DY P L all y)
def Qa(D:List (Nat × It))(k:Nat):It:=match D with
 |[]=> .a
 |(j,t)::r=>if j=k then t else Qa r k
def rgE(P:Program)(F:Fc)(D:List (Nat × It))(ops:List Oper)(d:Bool)(k:Nat)(Q:Ex→Env→ar→Prop)(ρ:Env)(h:ar):Prop:=match d with
 |false=>kL P (Q .normal) (IY P F.L ops ops) [] ρ h
 |true=>pA P (Q .normal) (DY P F.L ops (Qa D k)) [] ρ h
def nR:Code→Nat
 | .region .. =>1
 | .seq a b=>nR a+nR b
 | .cond _ a b=>nR a+nR b
 | .block _ a=>nR a
 | .loop a=>nR a
 | .scope a=>nR a
 |_=>0
def tc(j:Nat):Code→Nat→Option Code
 | .seq a b,k=>bif Nat.beq (k+nR a) j&& !Nat.beq (nR b) 0 then some b else match tc j a k with
  |none=>tc j b (k+nR a)
  |x=>x
 | .cond _ a b,k=>match tc j a k with
  |none=>tc j b (k+nR a)
  |x=>x
 | .block _ a,k=>tc j a k
 | .loop a,k=>bif Nat.beq (k+1000) j then some a else tc j a k
 | .scope a,k=>tc j a k
 |_,_=>none
def tl(P:Program)(F:Fc)(j:Nat):Cd:=match tc j F.c 0 with
 |some b=>sk (rg P F) b (j%1000)
 |none=> .skip
def jn(P:Program)(F:Fc)(J:List Nat)(k n:Nat)(y:Cd):Cd:=bif J.contains k&&k !=n then tl P F k else y
def Qb(P:Program)(F:Fc)(J:List Nat):Code→Nat→Cd
 | .region ..,k=>rg P F k
 | .seq a b,k=> .seq (Qb P F J a k) (jn P F J (k+nR a) (k+nR a+nR b) (Qb P F J b (k+nR a)))
 | .cond o a b,k=> .cond o (Qb P F J a k) (Qb P F J b (k+nR a))
 | .block i a,k=> .block i (Qb P F J a k)
 | .loop a,k=> .loop (jn P F J (k+1000) k (Qb P F J a k))
 | .scope a,k=>Qb P F J a k
 | .exit i,_=> .exit i
 | .ret,_=> .ret
 | .goto _,_=> .cond (.const (.int .i64 0)) .skip .skip
 |_,_=> .skip
def gK(P:Program)(F:Fc)(w:Bool)(J:List Nat)(D:List (Nat × It)):Code→Nat→(Cd→Nat→Prop)→Prop
 | .region _ ops d,k,c=>(w=true→∀Q ρ h,Cd.vc P (rg P F k) Q ρ h=rgE P F D ops.toList d k Q ρ h)∧c (rg P F k) (k+1)
 | .seq a b,k,c=>gK P F w J D a k fun x k=>gK P F w J D b k fun y n=>c (.seq x (jn P F J k n y)) n
 | .cond o a b,k,c=>gK P F w J D a k fun x k=>gK P F w J D b k fun y k=>c (.cond o x y) k
 | .block i a,k,c=>gK P F w J D a k fun x k=>c (.block i x) k
 | .loop a,k,c=>gK P F w J D a k fun x n=>c (.loop (jn P F J (k+1000) k x)) n
 | .scope a,k,c=>gK P F w J D a k c
 | .exit i,k,c=>c (.exit i) k
 | .ret,k,c=>c .ret k
 | .goto _,k,c=>c (.cond (.const (.int .i64 0)) .skip .skip) k
 |_,k,c=>c .skip k
theorem agc{P:Program}{F:Fc}{w:Bool}{J:List Nat}{D:List (Nat × It)}:∀(c:Code)(k:Nat)(K:Cd→Nat→Prop),(w=true→∀i n ops d,(gm c)[i]? =some (.region n ops d)→∀Q ρ h,Cd.vc P (rg P F (k+i)) Q ρ h=rgE P F D ops.toList d (k+i) Q ρ h)→
 K (Qb P F J c k) (k+nR c)→gK P F w J D c k K:=by
 have len:∀c:Code,(gm c).length=nR c:=by
  intro c
  induction c<;>simp_all[gm,nR]
 intro c
 induction c with
 |region n ops d=>intro k K hr hK;exact⟨fun hw=>hr hw 0 n ops d (by simp[gm]),hK⟩
 |seq a b Am ihb=>
  intro k K hr hK;simp only[gm]at hr;refine Am k _ (fun hw i n ops d h=>hr hw i n ops d (by rw[awS (List.getElem?_eq_some_iff.1 h).1,h])) (ihb _ _ (fun hw i n ops d h=>?_) (by rw[show k+nR (.seq a b)=k+nR a+nR b from(Nat.add_assoc ..).symm]at hK;exact hK));rw[Nat.add_assoc];exact hr hw (nR a+i) n ops d (by rw[←len,awT (by omega),Nat.add_sub_cancel_left,h])
 |cond o a b Am ihb=>
  intro k K hr hK;simp only[gm]at hr;refine Am k _ (fun hw i n ops d h=>hr hw i n ops d (by rw[awS (List.getElem?_eq_some_iff.1 h).1,h])) (ihb _ _ (fun hw i n ops d h=>?_) (by rw[Nat.add_assoc];exact hK));rw[Nat.add_assoc];exact hr hw (nR a+i) n ops d (by rw[←len,awT (by omega),Nat.add_sub_cancel_left,h])
 |block i a Am=>intro k K hr hK;exact Am k _ hr hK
 |loop a Am=>intro k K hr hK;exact Am k _ hr hK
 |scope a Am=>intro k K hr hK;exact Am k _ hr hK
 |_=>intro k K _ hK;exact hK
def dA(P:Program)(F:Fc)(D:List (Nat × It)):List Code→Nat→List (Cd × Cd)
 | .region _ ops true::r,k=>(rg P F k, .tree (DY P F.L ops.toList (Qa D k)))::dA P F D r (k+1)
 |_::r,k=>dA P F D r (k+1)
 |[],_=>[]
theorem ami{P:Program}{F:Fc}{D:List (Nat × It)}:∀(l:List Code)(k:Nat),(dA P F D l k).map (·.1)=(dA P F D l k).map (·.2)→∀i n ops,l[i]? =some (.region n ops true)→rg P F (k+i)= .tree (DY P F.L ops.toList (Qa D (k+i))):=by
 intro l
 induction l with
 |nil=>intro k _ i n ops h;simp at h
 |cons x r ih=>
  intro k H i n ops h;cases i with
  |zero=>
   simp only[awA,awe]at h;subst h;simp only[dA,awH,aw9]at H;exact H.1
  |succ i=>
   rw[Nat.add_comm i 1,←Nat.add_assoc];refine ih (k+1) ?_ i n ops (by simpa using h);unfold dA at H
   split at H
   ·simp only[awH,aw9]at H;rename_i e;cases e;exact H.2
   ·rename_i e;cases e;exact H
   ·rename_i e;cases e
def gE(P:Program)(x:Cd):Cd→Nat→Prop:=fun y _=>∀Q ρ h,Cd.vc P x Q ρ h=Cd.vc P y Q ρ h
theorem amj{P:Program}{x y:Cd}{k:Nat}:gE P x y k=∀Q ρ h,Cd.vc P x Q ρ h=Cd.vc P y Q ρ h:=awx rfl
theorem apf{P:Program}{fn:Func}{L J:List Nat}{D:List (Nat × It)}{F:Fc}{c:Code}(hF:F=fc fn L)(hb:fn.body=some c)(hs:(gm c).all (fun r=>(strip P L fn.ntmps r).isSome)=true)
 (hJ:cdF P F=Qb P F J c 0)(hD:(dA P F D (gm c) 0).map (·.1)=(dA P F D (gm c) 0).map (·.2)):gK P F true J D c 0 (gE P (cdF P F)):=by
 refine agc c 0 _ (fun _ i n ops d h Q ρ h'=>?_) fun Q ρ h=>by rw[hJ]
 rw[aw2];cases d with
 |true=>have:=ami _ 0 hD i n ops h;rw[aw2]at this;rw[this];rfl
 |false=>
  rw[List.all_eq_true]at hs;obtain⟨cd,An⟩:=Option.isSome_iff_exists.1 (hs _ (awR h));subst hF;have e:rg P (fc fn L) i=cd:=by simp only[rg,fc,hb,Option.getD_some,h];rw[An];rfl
  rw[e];simp only[strip]at An;cases h1:kV P L fn.ntmps ops.toList ops.toList with
  |none=>simp[h1]at An
  |some s=>
   simp only[h1,axc,awe]at An;rw[←An]
   show kL P (Q .normal) s [] ρ h'=kL P (Q .normal) (IY P L ops.toList ops.toList) [] ρ h'
   rw[agb _ _ h1]
theorem gtl{P:Program}{J:List Nat}{F:Fc}{b:Code}{j k:Nat}(hT:tl P F j=Qb P F J b k):gK P F false J [] b k (gE P (tl P F j)):=
 agc b k _ (fun h=>by cases h) fun Q ρ h=>by rw[hT]
theorem apg{L:List Nat}:d2 L none=none:=awx rfl
theorem aph{L:List Nat}{t:Nat}(h:L.contains t=true):d2 L (some t)=some (t,true):=by rw[d2,h]
theorem apj{L:List Nat}{t:Nat}(h:L.contains t=false):d2 L (some t)=some (t,false):=by rw[d2,h]
theorem q_t{P:Program}{o:Op}(h:yn P o=true):qO P o=true:=h
theorem q_f{P:Program}{o:Op}(h:yn P o=false):qO P o=false:=h
section
variable{P:Program}{F:Fc}{k i n:Nat}{c:Cd→Nat→Prop}{w v:Bool}{J L l:List Nat}{D:List (Nat × It)}{t x y:It}{o:Oper}{all r ops:List Oper}{a b:Code}{q:Operand}{u:Cd}{m:Dt}{d:Option Nat}{op:Op}{ty:TypeId}{pos:String}{af:Array Edge}{g:Option (Nat × Bool)}
theorem ajV:gK P F true J D (.region i ops.toArray false) k c=((∀Q ρ h,Cd.vc P (rg P F k) Q ρ h=kL P (Q .normal) (IY P F.L ops ops) [] ρ h)∧c (rg P F k) (k+1)):=by simp only[gK,rgE,forall_const]
theorem agd:gK P F true J D (.region i ops.toArray true) k c=((∀Q ρ h,Cd.vc P (rg P F k) Q ρ h=pA P (Q .normal) (DY P F.L ops (Qa D k)) [] ρ h)∧c (rg P F k) (k+1)):=by simp only[gK,rgE,forall_const]
theorem amk{ops:Array Oper}:gK P F false J D (.region i ops v) k c=c (rg P F k) (k+1):=by simp[gK]
theorem ajW:gK P F w J D (.seq a b) k c=gK P F w J D a k fun x k=>gK P F w J D b k fun y n=>c (.seq x (jn P F J k n y)) n:=awx rfl
theorem agf:gK P F w J D (.cond q a b) k c=gK P F w J D a k fun x k=>gK P F w J D b k fun y k=>c (.cond q x y) k:=awx rfl
theorem adJ:gK P F w J D (.block i a) k c=gK P F w J D a k fun x k=>c (.block i x) k:=awx rfl
theorem agh:gK P F w J D (.loop a) k c=gK P F w J D a k fun x n=>c (.loop (jn P F J (k+1000) k x)) n:=awx rfl
theorem adK:gK P F w J D (.scope a) k c=gK P F w J D a k c:=awx rfl
theorem agi:gK P F w J D (.exit i) k c=c (.exit i) k:=awx rfl
theorem ajX:gK P F w J D .ret k c=c .ret k:=awx rfl
theorem agj:gK P F w J D (.goto i) k c=c (.cond (.const (.int .i64 0)) .skip .skip) k:=awx rfl
theorem agk:gK P F w J D .skip k c=c .skip k:=awx rfl
theorem adL:gK P F w J D (.label i) k c=c .skip k:=awx rfl
theorem apk:jn P F [] k n u=u:=awx rfl
theorem apl(h:(J.contains k&&k !=n)=true):jn P F J k n u=tl P F k:=by rw[jn,h];rfl
theorem apm(h:(J.contains k&&k !=n)=false):jn P F J k n u=u:=by rw[jn,h];rfl
theorem adM:IY P L all []=[]:=awx rfl
theorem aaL:IY P L all (⟨d,op,ty,pos,af,g⟩::r)=⟨d2 L d,op,ty,g2 all g,qO P op⟩::IY P L all r:=awx rfl
theorem apn:g2 all none=none:=awx rfl
theorem apo:g2 all (some (n,w))=some (dN all n,w):=awx rfl
theorem apq:dN (⟨some n,op,ty,pos,af,g⟩::r) 0=n:=awx rfl
theorem apr:dN (o::r) (n+1)=dN r n:=awx rfl
theorem aps:so P L all (⟨d,op,ty,pos,af,g⟩::r) 0=⟨d2 L d,op,ty,g2 all g,qO P op⟩:=awx rfl
theorem apt:so P L all (o::r) (n+1)=so P L all r n:=awx rfl
theorem ajY:sl P L all []=[]:=awx rfl
theorem agl:sl P L all (i::l)=so P L all all i::sl P L all l:=awx rfl
theorem apu:qs P L all (⟨d,op,ty,pos,af,g⟩::r) (n+1) m= .run ⟨d2 L d,op,ty,g2 all g,qO P op⟩ [] (qs P L all r n m):=awx rfl
theorem apv:qs P L all r 0 m=m:=by cases r<;>rfl
theorem agm:qa P L all (⟨d,op,ty,pos,af,g⟩::r)= .run ⟨d2 L d,op,ty,g2 all g,qO P op⟩ [] (qa P L all r):=awx rfl
theorem ajZ:qa P L all []= .done:=awx rfl
theorem apw:dp (o::r) (n+1)=dp r n:=awx rfl
theorem apx:dp r 0=r:=by cases r<;>rfl
theorem aml:DY P L all .a=qa P L all all:=awx rfl
theorem amm:DY P L all .o= .done:=awx rfl
theorem amn:DY P L all (.q i n t)=qs P L all (dp all i) n (DY P L all t):=awx rfl
theorem amo:DY P L all (.r i l t)= .run (so P L all all i) (sl P L all l) (DY P L all t):=awx rfl
theorem amq:DY P L all (.b x y)= .both (DY P L all x) (DY P L all y):=awx rfl
theorem apy:Qa [] k= .a:=by rw[Qa]
theorem apz:Qa ((k,t)::D) k=t:=by rw[Qa];simp
theorem apA(h:(n==k)=false):Qa ((n,t)::D) k=Qa D k:=by rw[Qa,av9 (by simpa using h)]
end
def gs:=Z.N @ajV<|Z.N @agd<|Z.N @amk<|Z.N @ajW<|Z.N @agf<|Z.N @adJ<|Z.N @agh<|Z.N @adK<|Z.N @agi<|Z.N @ajX<|Z.N @agj<|Z.N @agk<|Z.N @adL<|Z.N @amj<|Z.N @apk<|Z.N @apl<|Z.N @apm<|Z.N @adM<|Z.N @aaL<|Z.N @apg<|Z.N @aph<|Z.N @apj<|Z.N @q_t<|Z.N @q_f<|Z.N @apn<|Z.N @apo<|Z.N @apq<|Z.N @apr<|Z.N @aps<|Z.N @apt<|Z.N @ajY<|Z.N @agl<|Z.N @apu<|Z.N @apv<|Z.N @agm<|Z.N @ajZ<|Z.N @apw<|Z.N @apx<|Z.N @aml<|Z.N @amm<|Z.N @amn<|Z.N @amo<|Z.N @amq<|Z.N @apy<|Z.N @apz<| @apA
end
end Go.Vc
namespace Go.Proofs.YtmbboehmnfhjjaaGreatDoor
open Go.Vc
theorem aQ(F:Fc){k:Nat}{fn:Func}(hf:Tryz.prog.funcs[k]? =some fn)(n:Nat)(ts:List (Nat × Option TypeId)){L:List Nat}(hF:F=fc fn L:=by rfl)(hs:(Aj Tryz.prog L fn).isSome=true:=by kernel_rfl)(hm:Tryz.prog.follows .mixedOrders=true:=by kernel_rfl)(hr:GQ fn=ts:=by kernel_rfl)
 (hn:(decide (n≤fn.ntmps)&&L.all (fun t=>decide (t<fn.ntmps)))=true:=by kernel_rfl):Cl Tryz.prog (cdF Tryz.prog F) k n ts L:=by
 subst hF;exact cl hf hm (ajT hs) hr hn
theorem aR(F:Fc)(J:List Nat:=[])(D:List (Nat × It):=[]){fn:Func}{L:List Nat}{c:Code}{p:Prop}(hF:F=fc fn L:=by rfl)(hb:fn.body=some c:=by rfl)(hs:(gm c).all (fun r=>(strip Tryz.prog L fn.ntmps r).isSome)=true:=by kernel_rfl)
 (hJ:cdF Tryz.prog F=Qb Tryz.prog F J c 0:=by kernel_rfl)(hD:(dA Tryz.prog F D (gm c) 0).map (·.1)=(dA Tryz.prog F D (gm c) 0).map (·.2):=by kernel_rfl)
 (k:gK Tryz.prog F true J D c 0 (gE Tryz.prog (cdF Tryz.prog F))→p:=by intro h;simp(config := { maxSteps := 1000000 }) (decide:=true)only[gs,Nat.reduceAdd]at h;exact h):p:=k (apf hF hb hs hJ hD)
theorem eZ(F:Fc)(j:Nat)(J:List Nat:=[]){fn:Func}{L:List Nat}{c b:Code}{p:Prop}(hF:F=fc fn L:=by rfl)(hb:fn.body=some c:=by rfl)(ht:tc j c 0=some b:=by rfl)(hT:tl Tryz.prog F j=Qb Tryz.prog F J b (j%1000):=by kernel_rfl)
 (k:gK Tryz.prog F false J [] b (j%1000) (gE Tryz.prog (tl Tryz.prog F j))→p:=by intro h;simp(config := { maxSteps := 1000000 }) (decide:=true)only[gs,Nat.reduceAdd,Nat.reduceMod]at h;exact h):p:=k (gtl hT)
noncomputable def Bn:=fc Tryz.f255 [0,2,3,6,9,12,43,58,61,76,79,82,85,88,91,94,97]
def Hg:=aQ Bn Tryz.func255 1 [(2,none)]
def Lx:=aR Bn
noncomputable def Bo:=fc Tryz.f284 [0,2,4]
def Hh:=aQ Bo Tryz.func284 1 [(2,none)]
def vZ:=aR Bo
noncomputable def IZ:=fc Tryz.f89 [0,1,2,6]
def Ly:=aQ IZ Tryz.func89 3 [(6,none)]
def sX:=aR IZ
noncomputable def wh:=fc Tryz.f37 [0,1,4,8]
def Ct:=aQ wh Tryz.func37 2 [(4,none)]
def oH:=aR wh
noncomputable def I1:=fc Tryz.f175 [0,1,2,6]
def wj:=aQ I1 Tryz.func175 3 [(6,none)]
def po:=aR I1
noncomputable def wq:=fc Tryz.f104 [0,1,4,5,8]
def Cu:=aQ wq Tryz.func104 2 [(4,none),(5,none)]
def oI:=aR wq
noncomputable def uG:=fc Tryz.f103 [0,1,4,5,9]
def qA:=aQ uG Tryz.func103 2 [(4,none),(5,none)]
def jy:=aR uG
end Go.Proofs.YtmbboehmnfhjjaaGreatDoor
