/- A constant checked, by the reference. The flags of a method, by the reference. Code checked, by the reference. -/
import Derived.Test.YtmbboehmnfhjjaaGreatDoorU22
set_option maxRecDepth 100000
set_option maxHeartbeats 8000000
set_option linter.unusedSimpArgs false
set_option linter.unusedVariables false
set_option linter.defProp false
namespace Go.Proofs.YtmbboehmnfhjjaaGreatDoor
open Go.Vc
section
theorem aeo(na nd:az)(tag:Nat)(ht:tag=9∨tag=10∨tag=11):A9 na nd (decide (tag=9)) (decide (tag=10))=
 (if tag=9 then(if dc na false=0 then 8 else if cG nd=false then 9 else 0)
  else if dc na true=0∨dc na true=3∨(dc na true=2∧tag=11)then 8
  else if(fV nd).isSome=false∨(dc na true=2∧mG nd≠[86])then 9 else 0):=by
 have h1:=MV na true;unfold A9;by_cases t9:tag=9
 ·rw[awa t9,awh t9,awa rfl]
  by_cases m0:dc na false=0
  ·rw[awa m0,awg (by omega)];rfl
  ·rw[av9 m0,awh (by omega)]
   cases cG nd<;>rfl
 ·rw[av9 t9,awg t9,av9 (by decide)]
  generalize dc na true=kd at*;by_cases c1:kd=0∨kd=3∨(kd=2∧tag=11)
  ·rw[awa c1]
   have:(decide (kd=1)||(decide (kd=2)&&decide (tag=10)))=false:=by
    rw[Bool.or_eq_false_iff,Bool.and_eq_false_iff,decide_eq_false_iff_not,decide_eq_false_iff_not,decide_eq_false_iff_not];omega
   rw[this];rfl
  ·rw[av9 c1]
   have:(decide (kd=1)||(decide (kd=2)&&decide (tag=10)))=true:=by
    rw[awX,awm,awo,awo,awo];omega
   rw[this];by_cases k2:kd=2
   ·by_cases hg:mG nd=[86]
    ·rw[awh hg,awg (by simp[k2])]
     cases(fV nd).isSome
     ·rw[awa (.inl rfl)];rfl
     ·rw[av9 (by simp[hg])];rfl
    ·rw[awg hg,awg (by simp[k2]),awa (.inr ⟨k2,hg⟩)]
     cases(fV nd).isSome<;>rfl
   ·rw[awh (show kd≠2 from k2)]
    cases(fV nd).isSome
    ·rw[awa (.inl rfl)];rfl
    ·rw[av9 (by simp[k2])];rfl
section
variable{h:ar}{g:Nat}{c:iP}{vp vi vf vm:Value}
theorem Qw(H:RB h g c vp vi vf vm)(F:CF c)(k:aX)(hk:k.Fit):
 aF Tryz.prog 99 #[nU g,MN k] h fun v h'=>Ext h h'∧v=ao (jL c.pool k:Nat):=by
 refine C0 (args:=[nU g,MN k]) rfl ?_;simp(disch:=omega)only[aB,ae,seval];refine cT ?_;have E:=Ext.push h (MW k);have qc:(h.push (MW k))[h.size]? =some (MW k):=by simp
 simp(disch:=omega)only[aB,ae,seval,aw2];generalize h.push _=h1,h.size=q at*;have H1:=H.ext E;have key:∀h3,Ext h1 h3→cellAt h3 ⟨q,0,none⟩=some (bH k.tag)∧cellAt h3 ⟨q,3,none⟩=some (ax k.a)∧cellAt h3 ⟨q,4,none⟩=some (ax k.b):=by
  intro h3 x3;have b2:=ay x3 qc awx;refine⟨?_,?_,?_⟩
  all_goals rw[au b2];rfl
 obtain⟨k0,k3,k4⟩:=key h1 (Ext.refl _);have la:=F.str k.a;have lb:=F.str k.b;simp(disch:=omega)only[aB,ae,seval,k3];refine aj rfl (jd H1 k.a hk.a) ?_;rintro v2 h2⟨rfl,rfl⟩;simp(disch:=omega)only[aB,ae,seval,k4];refine aj rfl (jd H1 k.b hk.b) ?_;rintro v3 h3⟨rfl,rfl⟩;have c5:cellAt h3 ⟨g,5,none⟩=some vp:=H1.at rfl;unfold jL;by_cases t9:k.tag=9∨k.tag=10∨k.tag=11
 ·rw[av9 (by omega),av9 (by omega),av9 (by omega),awa t9]
  have wa:IntKind.i64.wrap (k.a:Int)=(k.a:Int):=by have:=hk.a;exact wrap_i64 (by omega) (by omega)
  have wb:IntKind.i64.wrap (k.b:Int)=(k.b:Int):=by have:=hk.b;exact wrap_i64 (by omega) (by omega)
  have hd9:decide ((k.tag:Int)=9)=decide (k.tag=9):=decide_eq_decide.2 (by omega);have aqs:decide ((k.tag:Int)=10)=decide (k.tag=10):=decide_eq_decide.2 (by omega);have hme:acI c.pool k=(if eV c.pool k.a 7=false∨eV c.pool k.b 12=false then 7
   else if eV c.pool (c.pool.getD k.b aX.zero).a 1=false∨eV c.pool (c.pool.getD k.b aX.zero).b 1=false then 7
   else A9 (bM c.pool (c.pool.getD k.b aX.zero).a) (bM c.pool (c.pool.getD k.b aX.zero).b) (decide (k.tag=9)) (decide (k.tag=10))):=by
   rw[aeo _ _ _ t9];rfl
  rw[hme];rcases t9 with t|t|t
  all_goals
   simp(disch:=omega)only[aB,ae,seval,k0,c5,k3,wa,va];refine aj rfl (zH k.a 7 H1.cls.p) ?_;rintro v4 h4⟨rfl,rfl⟩;cases h7:eV c.pool k.a 7 with
   |false=>
    rw[awa (.inl rfl)];simp(disch:=omega)only[aB,ae,↓reduceIte,Nat.reduceEqDiff,reduceCtorEq,Nat.reduceLeDiff,Nat.reducePow,Int.reducePow,Int.reduceToNat,Nat.reduceAdd,va];exact⟨E,rfl⟩
   |true=>
   simp(disch:=omega)only[aB,ae,seval,c5,k4,wb,va];refine aj rfl (zH k.b 12 H1.cls.p) ?_;rintro v5 h5⟨rfl,rfl⟩;cases xV:eV c.pool k.b 12 with
   |false=>
    rw[awa (.inr rfl)];simp(disch:=omega)only[aB,ae,↓reduceIte,Nat.reduceEqDiff,reduceCtorEq,Nat.reduceLeDiff,Nat.reducePow,Int.reducePow,Int.reduceToNat,Nat.reduceAdd,va];exact⟨E,rfl⟩
   |true=>
   rw[av9 (by simp)];obtain⟨_,pD⟩:=sf xV;have AF:(k.b:Int)<(c.pool.length:Int):=by omega
   have hs:=H1.cls.p;obtain⟨b,o,c',Sm,di,_⟩:=hs.at pD;subst Sm;rw[iu pD]at di;have RF:=F.fit.pool (c.pool.getD k.b aX.zero) (by simp[pD]);generalize c.pool.getD k.b aX.zero=y at*;have y3:cellAt h5 ⟨b,o+k.b*5+3,none⟩=some (ax y.a):=di 3 _ rfl;have y4:cellAt h5 ⟨b,o+k.b*5+4,none⟩=some (ax y.b):=di 4 _ rfl;have la:=F.str y.a;have lb:=F.str y.b;simp(disch:=omega)only[aB,ae,seval,c5,k4,AF,y3,va];refine aj rfl (jd H1 y.a RF.a) ?_;rintro v6 h6⟨rfl,rfl⟩;simp(disch:=omega)only[aB,ae,seval,c5,k4,AF,y4,va];refine aj rfl (jd H1 y.b RF.b) ?_;rintro v7 h7⟨rfl,rfl⟩;generalize bM c.pool y.a=na,bM c.pool y.b=nd at*;cases eV c.pool y.a 1 with
   |false=>
    rw[awa (.inl rfl)];simp(disch:=omega)only[aB,ae,↓reduceIte,Nat.reduceEqDiff,reduceCtorEq,Nat.reduceLeDiff,Nat.reducePow,Int.reducePow,Int.reduceToNat,Nat.reduceAdd,va];exact⟨E,rfl⟩
   |true=>
   cases eV c.pool y.b 1 with
   |false=>
    rw[awa (.inr rfl)];simp(disch:=omega)only[aB,ae,↓reduceIte,Nat.reduceEqDiff,reduceCtorEq,Nat.reduceLeDiff,Nat.reducePow,Int.reducePow,Int.reduceToNat,Nat.reduceAdd,va];exact⟨E,rfl⟩
   |true=>
   rw[av9 (by simp)];simp(disch:=omega)only[aB,ae,seval,k0,hd9,aqs];refine aj rfl (yg na nd la lb (decide (k.tag=9)) (decide (k.tag=10))) ?_;rintro v8 h8⟨x8,rfl⟩;simp(disch:=omega)only[aB,ae,seval]
   first|exact E.trans x8|exact⟨E.trans x8,by simp[t]⟩
 generalize bM c.pool k.a=na,bM c.pool k.b=nd,eV c.pool k.a 1=i1,eV c.pool k.b 1=i2 at*;by_cases t7:k.tag=7
 ·rw[awa t7]
  have fin:jM [eT i1 7,eT (jA na) 8]=(if i1=false then 7 else if jA na=false then 8 else 0):=by
   cases i1<;>cases jA na<;>rfl
  rw[←fin];simp(disch:=omega)only[aB,ae,seval,k0,va];refine aj rfl (bO i1 7) ?_;rintro v4 h4⟨rfl,rfl⟩;simp(disch:=omega)only[aB,ae,seval];refine aj rfl (Pu na la) ?_;rintro v5 h5⟨rfl,rfl⟩;simp(disch:=omega)only[aB,ae,seval];refine aj rfl (bO (jA na) 8) ?_;rintro v6 h6⟨rfl,rfl⟩;generalize eT i1 7=e1,eT (jA na) 8=e2 at*;simp(disch:=omega)only[aB,ae,seval];refine aU eC rfl rfl (by simp[oneCell]) ?_;simp(disch:=omega)only[aB,ae,seval];have E2:=Ext.push h6 (.cells #[ao e1,ao e2] 48);have t8:Sl (h6.push (.cells #[ao e1,ao e2] 48)) (.slice (some ⟨h6.size,0,none⟩) 2 2) (([e1,e2]:List Nat).map fun t:Nat=>ao t):=gT (es:=[e1,e2]) (bV (vs:=[ao e1,ao e2]));generalize h6.push _=h7,h6.size=q7 at*;refine aj rfl (gS [e1,e2] (by simp) t8) ?_;rintro v8 h8⟨rfl,rfl⟩;simp(disch:=omega)only[aB,ae,seval];exact E.trans E2
 rw[av9 t7];by_cases t8:k.tag=8
 ·rw[awa t8]
  have fin:eT i1 7=(if i1=false then 7 else 0):=by cases i1<;>rfl
  rw[←fin];simp(disch:=omega)only[aB,ae,seval,k0,va];refine aj rfl (bO i1 7) ?_;rintro v4 h4⟨rfl,rfl⟩;simp(disch:=omega)only[aB,ae,seval];exact E
 rw[av9 t8];by_cases t12:k.tag=12
 ·rw[awa t12]
  simp(disch:=omega)only[aB,ae,seval,k0,va];refine aj rfl (tP nd lb) ?_;rintro v4 h4⟨x4,hm⟩;obtain⟨sv,rfl,_⟩:=jX hm;generalize(fV nd).isSome=ok,mG nd=gv at*;have X4:=E.trans x4;simp(disch:=omega)only[aB,ae,seval];refine aj rfl (tQ na true la) ?_;rintro v5 h5⟨rfl,rfl⟩;by_cases m0:0<dc na true
  case pos=>
   simp(disch:=omega)only[aB,ae,seval,va];cases i1 with
   |false=>
    have fin:jM [eT false 7,eT true 8,eT (ok||cG nd) 9]=(if(false:Bool)=false∨i2=false then 7 else if dc na true=0∧dc na false=0 then 8 else if ok=false∧cG nd=false then 9 else 0):=by
     rw[awa (.inl rfl)];rfl
    rw[←fin];simp(disch:=omega)only[aB,ae,seval,va];refine aj rfl (bO false 7) ?_;rintro v7 h7⟨rfl,rfl⟩;simp(disch:=omega)only[aB,ae,seval,va];refine aj rfl (bO true 8) ?_;rintro v8 h8⟨rfl,rfl⟩;cases ok with
    |true=>
     simp(disch:=omega)only[aB,ae,seval,va];refine aj rfl (bO true 9) ?_;rintro v10 d9⟨rfl,rfl⟩;rw[show(true||cG nd)=true from rfl];generalize eT false 7=e1,eT true 8=e2,eT true 9=e3 at*;simp(disch:=omega)only[aB,ae,seval];refine aU eC rfl rfl (by simp[oneCell]) ?_;simp(disch:=omega)only[aB,ae,seval];have E2:=Ext.push d9 (.cells #[ao e1,ao e2,ao e3] 48);have rf:Sl (d9.push (.cells #[ao e1,ao e2,ao e3] 48)) (.slice (some ⟨d9.size,0,none⟩) 3 3) (([e1,e2,e3]:List Nat).map fun t:Nat=>ao t):=gT (es:=[e1,e2,e3]) (bV (vs:=[ao e1,ao e2,ao e3]));generalize d9.push _=AY,d9.size=SA at*;refine aj rfl (gS [e1,e2,e3] (by simp) rf) ?_;rintro v12 xV⟨rfl,rfl⟩;simp(disch:=omega)only[aB,ae,seval];exact X4.trans E2
    |false=>
     simp(disch:=omega)only[aB,ae,seval,va];refine aj rfl (lD nd lb) ?_;rintro v9 h9⟨rfl,rfl⟩;simp(disch:=omega)only[aB,ae,seval,va];refine aj rfl (bO (cG nd) 9) ?_;rintro v10 d9⟨rfl,rfl⟩;rw[show(false||cG nd)=cG nd from rfl];generalize eT false 7=e1,eT true 8=e2,eT (cG nd) 9=e3 at*;simp(disch:=omega)only[aB,ae,seval];refine aU eC rfl rfl (by simp[oneCell]) ?_;simp(disch:=omega)only[aB,ae,seval];have E2:=Ext.push d9 (.cells #[ao e1,ao e2,ao e3] 48);have rf:Sl (d9.push (.cells #[ao e1,ao e2,ao e3] 48)) (.slice (some ⟨d9.size,0,none⟩) 3 3) (([e1,e2,e3]:List Nat).map fun t:Nat=>ao t):=gT (es:=[e1,e2,e3]) (bV (vs:=[ao e1,ao e2,ao e3]));generalize d9.push _=AY,d9.size=SA at*;refine aj rfl (gS [e1,e2,e3] (by simp) rf) ?_;rintro v12 xV⟨rfl,rfl⟩;simp(disch:=omega)only[aB,ae,seval];exact X4.trans E2
   |true=>
    have fin:jM [eT i2 7,eT true 8,eT (ok||cG nd) 9]=(if(true:Bool)=false∨i2=false then 7 else if dc na true=0∧dc na false=0 then 8 else if ok=false∧cG nd=false then 9 else 0):=by
     have hn:(dc na true=0∧dc na false=0)↔true=false:=by exact⟨fun h=>aww h.1 (by omega),fun h=>aww h (by decide)⟩
     simp only[hn];cases i2<;>cases ok<;>cases cG nd<;>rfl
    rw[←fin];simp(disch:=omega)only[aB,ae,seval,va];refine aj rfl (bO i2 7) ?_;rintro v7 h7⟨rfl,rfl⟩;simp(disch:=omega)only[aB,ae,seval,va];refine aj rfl (bO true 8) ?_;rintro v8 h8⟨rfl,rfl⟩;cases ok with
    |true=>
     simp(disch:=omega)only[aB,ae,seval,va];refine aj rfl (bO true 9) ?_;rintro v10 d9⟨rfl,rfl⟩;rw[show(true||cG nd)=true from rfl];generalize eT i2 7=e1,eT true 8=e2,eT true 9=e3 at*;simp(disch:=omega)only[aB,ae,seval];refine aU eC rfl rfl (by simp[oneCell]) ?_;simp(disch:=omega)only[aB,ae,seval];have E2:=Ext.push d9 (.cells #[ao e1,ao e2,ao e3] 48);have rf:Sl (d9.push (.cells #[ao e1,ao e2,ao e3] 48)) (.slice (some ⟨d9.size,0,none⟩) 3 3) (([e1,e2,e3]:List Nat).map fun t:Nat=>ao t):=gT (es:=[e1,e2,e3]) (bV (vs:=[ao e1,ao e2,ao e3]));generalize d9.push _=AY,d9.size=SA at*;refine aj rfl (gS [e1,e2,e3] (by simp) rf) ?_;rintro v12 xV⟨rfl,rfl⟩;simp(disch:=omega)only[aB,ae,seval];exact X4.trans E2
    |false=>
     simp(disch:=omega)only[aB,ae,seval,va];refine aj rfl (lD nd lb) ?_;rintro v9 h9⟨rfl,rfl⟩;simp(disch:=omega)only[aB,ae,seval,va];refine aj rfl (bO (cG nd) 9) ?_;rintro v10 d9⟨rfl,rfl⟩;rw[show(false||cG nd)=cG nd from rfl];generalize eT i2 7=e1,eT true 8=e2,eT (cG nd) 9=e3 at*;simp(disch:=omega)only[aB,ae,seval];refine aU eC rfl rfl (by simp[oneCell]) ?_;simp(disch:=omega)only[aB,ae,seval];have E2:=Ext.push d9 (.cells #[ao e1,ao e2,ao e3] 48);have rf:Sl (d9.push (.cells #[ao e1,ao e2,ao e3] 48)) (.slice (some ⟨d9.size,0,none⟩) 3 3) (([e1,e2,e3]:List Nat).map fun t:Nat=>ao t):=gT (es:=[e1,e2,e3]) (bV (vs:=[ao e1,ao e2,ao e3]));generalize d9.push _=AY,d9.size=SA at*;refine aj rfl (gS [e1,e2,e3] (by simp) rf) ?_;rintro v12 xV⟨rfl,rfl⟩;simp(disch:=omega)only[aB,ae,seval];exact X4.trans E2
  simp(disch:=omega)only[aB,ae,seval,va];refine aj rfl (tQ na false la) ?_;rintro v6 h6⟨rfl,rfl⟩;have hd:decide ((0:Int)<((dc na false:Nat):Int))=decide (0<dc na false):=decide_eq_decide.2 (by omega);by_cases m1:0<dc na false
  case pos=>
   cases i1 with
   |false=>
    have fin:jM [eT false 7,eT true 8,eT (ok||cG nd) 9]=(if(false:Bool)=false∨i2=false then 7 else if dc na true=0∧dc na false=0 then 8 else if ok=false∧cG nd=false then 9 else 0):=by
     rw[awa (.inl rfl)];rfl
    rw[←fin];simp(disch:=omega)only[aB,ae,seval,va];refine aj rfl (bO false 7) ?_;rintro v7 h7⟨rfl,rfl⟩;simp(disch:=omega)only[aB,ae,seval,va];refine aj rfl (bO true 8) ?_;rintro v8 h8⟨rfl,rfl⟩;cases ok with
    |true=>
     simp(disch:=omega)only[aB,ae,seval,va];refine aj rfl (bO true 9) ?_;rintro v10 d9⟨rfl,rfl⟩;rw[show(true||cG nd)=true from rfl];generalize eT false 7=e1,eT true 8=e2,eT true 9=e3 at*;simp(disch:=omega)only[aB,ae,seval];refine aU eC rfl rfl (by simp[oneCell]) ?_;simp(disch:=omega)only[aB,ae,seval];have E2:=Ext.push d9 (.cells #[ao e1,ao e2,ao e3] 48);have rf:Sl (d9.push (.cells #[ao e1,ao e2,ao e3] 48)) (.slice (some ⟨d9.size,0,none⟩) 3 3) (([e1,e2,e3]:List Nat).map fun t:Nat=>ao t):=gT (es:=[e1,e2,e3]) (bV (vs:=[ao e1,ao e2,ao e3]));generalize d9.push _=AY,d9.size=SA at*;refine aj rfl (gS [e1,e2,e3] (by simp) rf) ?_;rintro v12 xV⟨rfl,rfl⟩;simp(disch:=omega)only[aB,ae,seval];exact X4.trans E2
    |false=>
     simp(disch:=omega)only[aB,ae,seval,va];refine aj rfl (lD nd lb) ?_;rintro v9 h9⟨rfl,rfl⟩;simp(disch:=omega)only[aB,ae,seval,va];refine aj rfl (bO (cG nd) 9) ?_;rintro v10 d9⟨rfl,rfl⟩;rw[show(false||cG nd)=cG nd from rfl];generalize eT false 7=e1,eT true 8=e2,eT (cG nd) 9=e3 at*;simp(disch:=omega)only[aB,ae,seval];refine aU eC rfl rfl (by simp[oneCell]) ?_;simp(disch:=omega)only[aB,ae,seval];have E2:=Ext.push d9 (.cells #[ao e1,ao e2,ao e3] 48);have rf:Sl (d9.push (.cells #[ao e1,ao e2,ao e3] 48)) (.slice (some ⟨d9.size,0,none⟩) 3 3) (([e1,e2,e3]:List Nat).map fun t:Nat=>ao t):=gT (es:=[e1,e2,e3]) (bV (vs:=[ao e1,ao e2,ao e3]));generalize d9.push _=AY,d9.size=SA at*;refine aj rfl (gS [e1,e2,e3] (by simp) rf) ?_;rintro v12 xV⟨rfl,rfl⟩;simp(disch:=omega)only[aB,ae,seval];exact X4.trans E2
   |true=>
    have fin:jM [eT i2 7,eT true 8,eT (ok||cG nd) 9]=(if(true:Bool)=false∨i2=false then 7 else if dc na true=0∧dc na false=0 then 8 else if ok=false∧cG nd=false then 9 else 0):=by
     have hn:(dc na true=0∧dc na false=0)↔true=false:=by exact⟨fun h=>aww h.2 (by omega),fun h=>aww h (by decide)⟩
     simp only[hn];cases i2<;>cases ok<;>cases cG nd<;>rfl
    rw[←fin];simp(disch:=omega)only[aB,ae,seval,va];refine aj rfl (bO i2 7) ?_;rintro v7 h7⟨rfl,rfl⟩;simp(disch:=omega)only[aB,ae,seval,va];refine aj rfl (bO true 8) ?_;rintro v8 h8⟨rfl,rfl⟩;cases ok with
    |true=>
     simp(disch:=omega)only[aB,ae,seval,va];refine aj rfl (bO true 9) ?_;rintro v10 d9⟨rfl,rfl⟩;rw[show(true||cG nd)=true from rfl];generalize eT i2 7=e1,eT true 8=e2,eT true 9=e3 at*;simp(disch:=omega)only[aB,ae,seval];refine aU eC rfl rfl (by simp[oneCell]) ?_;simp(disch:=omega)only[aB,ae,seval];have E2:=Ext.push d9 (.cells #[ao e1,ao e2,ao e3] 48);have rf:Sl (d9.push (.cells #[ao e1,ao e2,ao e3] 48)) (.slice (some ⟨d9.size,0,none⟩) 3 3) (([e1,e2,e3]:List Nat).map fun t:Nat=>ao t):=gT (es:=[e1,e2,e3]) (bV (vs:=[ao e1,ao e2,ao e3]));generalize d9.push _=AY,d9.size=SA at*;refine aj rfl (gS [e1,e2,e3] (by simp) rf) ?_;rintro v12 xV⟨rfl,rfl⟩;simp(disch:=omega)only[aB,ae,seval];exact X4.trans E2
    |false=>
     simp(disch:=omega)only[aB,ae,seval,va];refine aj rfl (lD nd lb) ?_;rintro v9 h9⟨rfl,rfl⟩;simp(disch:=omega)only[aB,ae,seval,va];refine aj rfl (bO (cG nd) 9) ?_;rintro v10 d9⟨rfl,rfl⟩;rw[show(false||cG nd)=cG nd from rfl];generalize eT i2 7=e1,eT true 8=e2,eT (cG nd) 9=e3 at*;simp(disch:=omega)only[aB,ae,seval];refine aU eC rfl rfl (by simp[oneCell]) ?_;simp(disch:=omega)only[aB,ae,seval];have E2:=Ext.push d9 (.cells #[ao e1,ao e2,ao e3] 48);have rf:Sl (d9.push (.cells #[ao e1,ao e2,ao e3] 48)) (.slice (some ⟨d9.size,0,none⟩) 3 3) (([e1,e2,e3]:List Nat).map fun t:Nat=>ao t):=gT (es:=[e1,e2,e3]) (bV (vs:=[ao e1,ao e2,ao e3]));generalize d9.push _=AY,d9.size=SA at*;refine aj rfl (gS [e1,e2,e3] (by simp) rf) ?_;rintro v12 xV⟨rfl,rfl⟩;simp(disch:=omega)only[aB,ae,seval];exact X4.trans E2
  cases i1 with
  |false=>
   have fin:jM [eT false 7,eT false 8,eT (ok||cG nd) 9]=(if(false:Bool)=false∨i2=false then 7 else if dc na true=0∧dc na false=0 then 8 else if ok=false∧cG nd=false then 9 else 0):=by
    rw[awa (.inl rfl)];rfl
   rw[←fin];simp(disch:=omega)only[aB,ae,seval,va];refine aj rfl (bO false 7) ?_;rintro v7 h7⟨rfl,rfl⟩;simp(disch:=omega)only[aB,ae,seval,va];refine aj rfl (bO false 8) ?_;rintro v8 h8⟨rfl,rfl⟩;cases ok with
   |true=>
    simp(disch:=omega)only[aB,ae,seval,va];refine aj rfl (bO true 9) ?_;rintro v10 d9⟨rfl,rfl⟩;rw[show(true||cG nd)=true from rfl];generalize eT false 7=e1,eT false 8=e2,eT true 9=e3 at*;simp(disch:=omega)only[aB,ae,seval];refine aU eC rfl rfl (by simp[oneCell]) ?_;simp(disch:=omega)only[aB,ae,seval];have E2:=Ext.push d9 (.cells #[ao e1,ao e2,ao e3] 48);have rf:Sl (d9.push (.cells #[ao e1,ao e2,ao e3] 48)) (.slice (some ⟨d9.size,0,none⟩) 3 3) (([e1,e2,e3]:List Nat).map fun t:Nat=>ao t):=gT (es:=[e1,e2,e3]) (bV (vs:=[ao e1,ao e2,ao e3]));generalize d9.push _=AY,d9.size=SA at*;refine aj rfl (gS [e1,e2,e3] (by simp) rf) ?_;rintro v12 xV⟨rfl,rfl⟩;simp(disch:=omega)only[aB,ae,seval];exact X4.trans E2
   |false=>
    simp(disch:=omega)only[aB,ae,seval,va];refine aj rfl (lD nd lb) ?_;rintro v9 h9⟨rfl,rfl⟩;simp(disch:=omega)only[aB,ae,seval,va];refine aj rfl (bO (cG nd) 9) ?_;rintro v10 d9⟨rfl,rfl⟩;rw[show(false||cG nd)=cG nd from rfl];generalize eT false 7=e1,eT false 8=e2,eT (cG nd) 9=e3 at*;simp(disch:=omega)only[aB,ae,seval];refine aU eC rfl rfl (by simp[oneCell]) ?_;simp(disch:=omega)only[aB,ae,seval];have E2:=Ext.push d9 (.cells #[ao e1,ao e2,ao e3] 48);have rf:Sl (d9.push (.cells #[ao e1,ao e2,ao e3] 48)) (.slice (some ⟨d9.size,0,none⟩) 3 3) (([e1,e2,e3]:List Nat).map fun t:Nat=>ao t):=gT (es:=[e1,e2,e3]) (bV (vs:=[ao e1,ao e2,ao e3]));generalize d9.push _=AY,d9.size=SA at*;refine aj rfl (gS [e1,e2,e3] (by simp) rf) ?_;rintro v12 xV⟨rfl,rfl⟩;simp(disch:=omega)only[aB,ae,seval];exact X4.trans E2
  |true=>
   have fin:jM [eT i2 7,eT false 8,eT (ok||cG nd) 9]=(if(true:Bool)=false∨i2=false then 7 else if dc na true=0∧dc na false=0 then 8 else if ok=false∧cG nd=false then 9 else 0):=by
    have hn:(dc na true=0∧dc na false=0)↔false=false:=by exact⟨fun _=>rfl,fun _=>⟨by omega,by omega⟩⟩
    simp only[hn];cases i2<;>cases ok<;>cases cG nd<;>rfl
   rw[←fin];simp(disch:=omega)only[aB,ae,seval,va];refine aj rfl (bO i2 7) ?_;rintro v7 h7⟨rfl,rfl⟩;simp(disch:=omega)only[aB,ae,seval,va];refine aj rfl (bO false 8) ?_;rintro v8 h8⟨rfl,rfl⟩;cases ok with
   |true=>
    simp(disch:=omega)only[aB,ae,seval,va];refine aj rfl (bO true 9) ?_;rintro v10 d9⟨rfl,rfl⟩;rw[show(true||cG nd)=true from rfl];generalize eT i2 7=e1,eT false 8=e2,eT true 9=e3 at*;simp(disch:=omega)only[aB,ae,seval];refine aU eC rfl rfl (by simp[oneCell]) ?_;simp(disch:=omega)only[aB,ae,seval];have E2:=Ext.push d9 (.cells #[ao e1,ao e2,ao e3] 48);have rf:Sl (d9.push (.cells #[ao e1,ao e2,ao e3] 48)) (.slice (some ⟨d9.size,0,none⟩) 3 3) (([e1,e2,e3]:List Nat).map fun t:Nat=>ao t):=gT (es:=[e1,e2,e3]) (bV (vs:=[ao e1,ao e2,ao e3]));generalize d9.push _=AY,d9.size=SA at*;refine aj rfl (gS [e1,e2,e3] (by simp) rf) ?_;rintro v12 xV⟨rfl,rfl⟩;simp(disch:=omega)only[aB,ae,seval];exact X4.trans E2
   |false=>
    simp(disch:=omega)only[aB,ae,seval,va];refine aj rfl (lD nd lb) ?_;rintro v9 h9⟨rfl,rfl⟩;simp(disch:=omega)only[aB,ae,seval,va];refine aj rfl (bO (cG nd) 9) ?_;rintro v10 d9⟨rfl,rfl⟩;rw[show(false||cG nd)=cG nd from rfl];generalize eT i2 7=e1,eT false 8=e2,eT (cG nd) 9=e3 at*;simp(disch:=omega)only[aB,ae,seval];refine aU eC rfl rfl (by simp[oneCell]) ?_;simp(disch:=omega)only[aB,ae,seval];have E2:=Ext.push d9 (.cells #[ao e1,ao e2,ao e3] 48);have rf:Sl (d9.push (.cells #[ao e1,ao e2,ao e3] 48)) (.slice (some ⟨d9.size,0,none⟩) 3 3) (([e1,e2,e3]:List Nat).map fun t:Nat=>ao t):=gT (es:=[e1,e2,e3]) (bV (vs:=[ao e1,ao e2,ao e3]));generalize d9.push _=AY,d9.size=SA at*;refine aj rfl (gS [e1,e2,e3] (by simp) rf) ?_;rintro v12 xV⟨rfl,rfl⟩;simp(disch:=omega)only[aB,ae,seval];exact X4.trans E2
 rw[av9 t12,av9 t9];simp(disch:=omega)only[aB,ae,↓reduceIte,Nat.reduceEqDiff,reduceCtorEq,Nat.reduceLeDiff,Nat.reducePow,Int.reducePow,Int.reduceToNat,Nat.reduceAdd,k0,va];exact⟨E,rfl⟩
end
end
section
theorem M1(f i:Nat):(f&&&2^i=2^i)↔f&&&2^i≠0:=by
 have h:0<2^i:=Nat.two_pow_pos i;by_cases hb:f.testBit i=true
 ·have e:f&&&2^i=2^i:=by
   apply Nat.eq_of_testBit_eq;intro j;rw[Nat.testBit_and,Nat.testBit_two_pow];by_cases hj:i=j
   ·subst hj;simp[hb]
   ·simp[hj]
  rw[e];exact⟨fun _=>by omega,fun _=>rfl⟩
 ·have e:f&&&2^i=0:=by
   apply Nat.eq_of_testBit_eq;intro j;rw[Nat.testBit_and,Nat.testBit_two_pow];by_cases hj:i=j
   ·subst hj;simp[hb]
   ·simp[hj]
  rw[e];exact⟨fun x=>by omega,fun x=>aww rfl x⟩
theorem anC(f:Nat):decide (f&&&8=8)=decide (f&&&8≠0):=decide_eq_decide.2 (M1 f 3)
theorem akz(f:Nat):decide (f&&&16=16)=decide (f&&&16≠0):=decide_eq_decide.2 (M1 f 4)
theorem ahC(f:Nat):decide (f&&&512=512)=decide (f&&&512≠0):=decide_eq_decide.2 (M1 f 9)
theorem aep(f:Nat):decide (f&&&1024=1024)=decide (f&&&1024≠0):=decide_eq_decide.2 (M1 f 10)
section
variable{h:ar}{g:Nat}{c:iP}{vp vi vf vm:Value}
theorem ahD(f:Nat)(hf:f<65536):aF Tryz.prog 177 #[ax f,ax 8] h fun v h'=>h'=h∧v= .bool (decide (f&&&8≠0)):=by rw[←anC];exact Gv f 8 hf (by decide)
theorem akA(f:Nat)(hf:f<65536):aF Tryz.prog 177 #[ax f,ax 16] h fun v h'=>h'=h∧v= .bool (decide (f&&&16≠0)):=by rw[←akz];exact Gv f 16 hf (by decide)
theorem SB(f:Nat)(hf:f<65536):aF Tryz.prog 177 #[ax f,ax 512] h fun v h'=>h'=h∧v= .bool (decide (f&&&512≠0)):=by rw[←ahC];exact Gv f 512 hf (by decide)
theorem Oy(f:Nat)(hf:f<65536):aF Tryz.prog 177 #[ax f,ax 1024] h fun v h'=>h'=h∧v= .bool (decide (f&&&1024≠0)):=by rw[←aep];exact Gv f 1024 hf (by decide)
theorem WV(H:RB h g c vp vi vf vm)(F:CF c)(f:Nat)(hf:f<65536)(na:az):
 aF Tryz.prog 181 #[nU g,ax f,str na] h fun v h'=>h'=h∧v= .bool (Gr c.flags f (dc na true)):=by
 refine Kf (args:=[nU g,ax f,str na]) rfl ?_;have c2:cellAt h ⟨g,2,none⟩=some (ax c.flags):=H.at rfl;have a3:cB .and .u16 (f:Int) 1280=((f&&&1280:Nat):Int):=jR _ 1280 hf (by decide);have a5:cB .and .u16 (f:Int) 3391=((f&&&3391:Nat):Int):=jR _ 3391 hf (by decide);have a7:cB .and .u16 (f:Int) 314=((f&&&314:Nat):Int):=jR _ 314 hf (by decide);have a8:cB .and .u16 (f:Int) 312=((f&&&312:Nat):Int):=jR _ 312 hf (by decide);have k3:=QF na;have k2:=acD na;have H8:=fun h=>ahD (h:=h) f hf;have HF:=fun h=>Oy (h:=h) f hf;have HC:=fun h=>SB (h:=h) c.flags F.fit.flags;have HD:=fun h=>Oy (h:=h) c.flags F.fit.flags;unfold Gr;generalize dc na true=kd,c.flags&&&512=z1,c.flags&&&1024=z2,f&&&1280=z3,f&&&8=z4,f&&&3391=z5,f&&&1024=z6,f&&&314=z7,f&&&312=z8 at*;by_cases n3:na=[60,99,108,105,110,105,116,62]
 ·rw[awa (k3.2 n3)]
  simp only[fJ,ae,seval,av8 n3];refine aj rfl (H8 h) ?_;rintro v1 h1⟨rfl,rfl⟩;by_cases y4:z4=0
  ·rw[show decide (z4≠0)=false by simp[y4]]
   simp only[ae,seval];simp
  ·rw[show decide (z4≠0)=true by simp[y4]]
   by_cases y3:z3=0
   all_goals
    simp(disch:=omega)only[ae,seval,a3,va];simp[]
 rw[av9 (fun x=>n3 (k3.1 x))];simp only[fJ,ae,seval,av7 n3,c2];refine aj rfl (HC h) ?_;rintro v1 h1⟨rfl,rfl⟩;by_cases y1:z1≠0
 ·rw[awh y1,awa y1]
  by_cases n2:na=[60,105,110,105,116,62]
  ·have kk:=k2.2 n2
   by_cases y5:z5=1025
   all_goals
    simp(disch:=omega)only[fJ,ae,seval,a5,av8 n2,va];simp[]
  ·have kk:¬kd=2:=fun x=>n2 (k2.1 x)
   by_cases y5:z5=1025
   all_goals
    simp(disch:=omega)only[fJ,ae,seval,a5,av7 n2,va];simp[]
 rw[awg y1,av9 y1];simp only[fJ,ae,seval];refine aj rfl (Sz f hf) ?_;rintro v2 h2⟨rfl,rfl⟩;cases oL f [1,2,4]with
 |false=>
  rw[awa rfl];simp only[fJ,ae,seval]
 |true=>
  rw[av9 (by decide)];simp only[fJ,ae,seval];refine aj rfl (HF h2) ?_;rintro v3 h3⟨rfl,rfl⟩;by_cases y6:z6≠0
  ·rw[awh y6,awa y6]
   by_cases y7:z7=0
   ·simp(disch:=omega)only[fJ,ae,seval,a7,c2,va]
    refine aj rfl (HD h3) ?_;rintro v4 h4⟨rfl,rfl⟩;by_cases y2:z2=0
    ·rw[show decide (z2≠0)=false by simp[y2]]
     simp only[ae,seval];simp
    ·rw[show decide (z2≠0)=true by simp[y2]]
     by_cases n2:na=[60,105,110,105,116,62]
     ·have kk:=k2.2 n2
      simp(disch:=omega)only[ae,seval,av8 n2,va];simp[]
     ·have kk:¬kd=2:=fun x=>n2 (k2.1 x)
      simp(disch:=omega)only[ae,seval,av7 n2,va];simp[]
   ·simp(disch:=omega)only[fJ,ae,seval,a7,va]
    simp[]
  ·rw[awg y6,av9 y6]
   by_cases n2:na=[60,105,110,105,116,62]
   ·rw[awa (k2.2 n2)]
    by_cases y8:z8=0
    all_goals
     simp(disch:=omega)only[fJ,ae,seval,a8,av8 n2,va]
     try simp[y8]
   ·rw[av9 (fun x=>n2 (k2.1 x))]
    simp only[fJ,ae,seval,av7 n2]
    try rfl
end
end
section
theorem Zm{eU:List Int}{L:Int}{x:ns}:PF eU L x=false↔(x.from'∈eU∨x.from'=L)∧(x.to∈eU∨x.to=L)∧x.target∈eU∧x.from'<x.to:=by
 unfold PF;rw[Bool.not_eq_false',awm,awm,awm,awo,awo,awo,awo];exact⟨fun h=>⟨h.1.1,h.1.2,h.2.1,h.2.2⟩,fun h=>⟨⟨h.1,h.2.1⟩,h.2.2.1,h.2.2.2⟩⟩
def ahE(eU:List Int)(L:Int)(x:ns):Prop:=0≤x.from'∧x.to≤L∧x.from'<x.to∧0≤x.target∧x.target<L∧x.from'∈eU∧(L≤x.to∨x.to∈eU)∧x.target∈eU
theorem Oz{eU:List Int}{L:Int}{x:ns}(hb:∀a∈eU,0≤a∧a<L):PF eU L x=false↔ahE eU L x:=by
 rw[Zm];constructor
 ·rintro⟨h1,h2,h3,h4⟩
  have b3:=hb _ h3;have t1:x.to≤L:=by
   rcases h2 with h2|h2
   ·have:=hb _ h2;omega
   ·omega
  have f1:x.from'∈eU:=h1.resolve_right (by omega);have b1:=hb _ f1;refine⟨b1.1,t1,h4,b3.1,b3.2,f1,?_,h3⟩;rcases h2 with h2|h2
  ·exact .inr h2
  ·exact .inl (by omega)
 ·rintro⟨h1,h2,h3,h4,h5,h6,h7,h8⟩
  refine⟨.inl h6,?_,h8,h3⟩;rcases h7 with h7|h7
  ·exact .inr (by omega)
  ·exact .inl h7
theorem akB{eU:List Int}{L:Int}{x:ns}(hb:∀a∈eU,0≤a∧a<L)(h:¬ahE eU L x):PF eU L x=true:=by
 cases hh:PF eU L x with
 |true=>rfl
 |false=>exact aww ((Oz hb).1 hh) h
section
variable{h:ar}{g:Nat}{c:iP}{vp vi vf vm:Value}
theorem Zn(H:RB h g c vp vi vf vm)(F:CF c)(cd:vu){vH:Value}(IL:cd.Fit)(hH:fR h 4 vH cd.hs.length (gZ cd.hs))(kO:cd.bytes.length≤1073741824)(A6:cd.hs.length≤1073741824):
 aF Tryz.prog 183 #[nU g,cdA cd vH] h fun v h'=>Ext h h'∧v= .tuple #[ao (JB c.pool cd).1,ao (JB c.pool cd).2]:=by
 obtain⟨_,ah,ch,rfl,_⟩:=id hH;refine LW (args:=[nU g,cdA cd (.slice ah cd.hs.length ch)]) rfl ?_;simp only[cn,ae,seval];refine cT ?_;have E:=Ext.push h (.cells #[ao cd.maxS,ao cd.fF,str cd.bytes, .slice ah cd.hs.length ch,str cd.map] 88);have qc:(h.push (.cells #[ao cd.maxS,ao cd.fF,str cd.bytes, .slice ah cd.hs.length ch,str cd.map] 88))[h.size]? =some (.cells #[ao cd.maxS,ao cd.fF,str cd.bytes, .slice ah cd.hs.length ch,str cd.map] 88 (0,0)):=by simp
 simp only[cn,ae,seval];generalize h.push _=h2,h.size=q2 at*;have key:∀h3,Ext h2 h3→cellAt h3 ⟨q2,1,none⟩=some (ao cd.fF)∧cellAt h3 ⟨q2,2,none⟩=some (str cd.bytes)∧cellAt h3 ⟨q2,3,none⟩=some (.slice ah cd.hs.length ch)∧RB h3 g c vp vi vf vm:=by
  intro h3 x3;have b2:=ay x3 qc awx;refine⟨?_,?_,?_,H.ext (E.trans x3)⟩
  all_goals rw[au b2];rfl
 obtain⟨k1,k2,k3,H2⟩:=key h2 (Ext.refl _);simp only[ae,seval,k2];refine aj rfl (WB cd.bytes h2 kO) ?_;rintro v3 h3⟨x3,sv,rfl,hIF⟩;have hI:=hIF.alp;have TV:=Zh cd.bytes;have MP:=UZ cd.bytes kO;have aqj:=U3 cd.bytes;have aqt:(j0 cd.bytes).2.1=0→cd.bytes.length≤65535:=by
  intro h0;by_cases hh:cd.bytes.length=0∨65535<cd.bytes.length
  ·unfold j0 at h0;rw[awa hh]at h0;cases h0
  ·omega
 have U4:∀a∈(j0 cd.bytes).1.map In.at',0≤a∧a<(cd.bytes.length:Int):=by
  intro a ha;obtain⟨x,hx,rfl⟩:=List.mem_map.1 ha;exact TV x hx
 unfold JB;generalize(j0 cd.bytes).2.1=e1,(j0 cd.bytes).2.2=e2,(j0 cd.bytes).1=l at*;have xx3:=E.trans x3;by_cases Wl:e1≠0
 ·rw[awa Wl]
  simp(disch:=omega)only[cn,ae,seval,va];exact xx3
 rw[av9 Wl];have hL:=aqt (by omega);obtain⟨k1,k2,k3,H3⟩:=key h3 x3;have c5:cellAt h3 ⟨g,5,none⟩=some vp:=H3.at rfl;obtain⟨_,_,hr2,_⟩:=id hI;obtain⟨_,al,cl,rfl,_⟩:=hr2;simp(disch:=omega)only[cn,ae,seval,c5,k1,va];refine aj rfl (YR l _ h3 hI MP (by omega) cd.fF (by have:=IL.l2;omega) F.len F.fit.pool F.txt H3.cls.p) ?_;rintro v4 h4⟨x4,rfl⟩;have rM:=KX c.pool cd.fF l;have WR:=xx3.trans x4;by_cases hk:(iM c.pool cd.fF l).1≠0
 ·rw[awa hk]
  generalize iM c.pool cd.fF l=kk at*;have AF:kk.1=15:=by omega
  rw[AF];simp only[cn,ae,seval,Int.reduceEq];exact WR
 rw[av9 hk];have AF:(iM c.pool cd.fF l).1=0:=by omega
 rw[AF];generalize(iM c.pool cd.fF l).2=k22 at*;have Ow:=x3.trans x4;simp only[cn,ae,seval,];refine rA FN rfl rfl (by decide) (by decide) (by decide) ?_;intro cs z i' xy nl hcs;have hzc:z.cells=#[.bool false]:=by
  obtain⟨i2,z2,e1,e2,e3,_⟩:=jx jf;rw[xy]at e1;cases e1;rw[nl]at e2;cases e2;exact e3
 rw[hzc,show((65536:Int)).toNat*1=65536 from rfl,KG]at hcs;subst hcs;have e5:=Ext.push h4 (.cells (ku 65536 []).toArray 4);have kb5:(h4.push (.cells (ku 65536 []).toArray 4))[h4.size]? =some (.cells (ku 65536 []).toArray 4 (0,0)):=by simp
 generalize h4.push _=h5 at*;obtain⟨gb,hgb⟩:∃y,y=h4.size:=⟨_,rfl⟩;rw[←hgb]at kb5⊢;simp only[cn,ae,seval];refine aG [0,3,9,44,45,46] (fun m ρ hc=>∃i:Nat,m=l.length-i∧i≤l.length∧
  ρ=[(0,nU g),(3,aE q2),(9, .slice (some ⟨gb,0,none⟩) 65536 65536),(44, .slice al l.length cl),(45,ao l.length),(46,ao i)]∧Ext h4 hc∧
  hc[gb]? =some (.cells (ku 65536 ((l.take i).map In.at')).toArray 4 (0,0))) ?_ ?_
 ·simp only[ae,seval]
  exact⟨_,0,rfl,awb _,rfl,e5,by simpa using kb5⟩
 rintro m ρ hc⟨i,rfl,hi,rfl,hx,hkb⟩;by_cases aV:i<l.length
 ·have aK:(i:Int)<(l.length:Int):=by omega
  have w1:=gU (k:=i) (by omega);obtain⟨b,o,c',vk,vt,heq,tG,sk,_,st,_⟩:=(hI.ext (x4.trans hx)).at aV;cases heq;have hax:=U4 (l.getD i l8).at' (List.mem_map_of_mem (dF aV));have gl:=iU (l:=l) (d:=l8) aV;generalize l.getD i l8=x at*;obtain⟨_,ak,ck,rfl,_⟩:=sk;obtain⟨_,bk,cb,rfl,_⟩:=st;have bm:=aS gg tG rfl;simp only[fu]at bm;obtain⟨p,hp⟩:∃p:Nat,x.at'=(p:Int):=⟨x.at'.toNat,by omega⟩;rw[hp]at bm hax;have oz:p<65536:=by omega
  simp(disch:=omega)only[cn,ae,seval,aK,bm];refine aD eB ?_;simp only[ae,seval];refine aI eB rfl rfl rfl (by simp[Value.cells,oneCell]) rfl ?_;intro h7 x7 _ qR b7;have c0:cellAt h7 ⟨hc.size,0,none⟩=some (ao p):=qR 0 _ rfl;have Zo:=ay x7 hkb awx;have p1:(0:Int)≤(p:Int):=by omega
  have p2:(p:Int)<65536:=by omega
  have Oo:cellAt h7 ⟨gb,p,none⟩=some (.bool (((l.take i).map In.at').contains ((p:Nat):Int))):=by
   rw[au Zo,awl];exact sH oz _
  simp(disch:=omega)only[cn,ae,seval,c0,];refine aC jf rfl rfl rfl rfl rfl Oo (by simp[frozenAt,Zo]) ?_;have f8:Fr (fun k=>k=gb) h7 (setAt h7 ⟨gb,p,none⟩ (.bool true)):=Fr.set (S:=fun k=>k=gb) _ _ _ fun _=>rfl;have kb8:=bu (o:=p) Zo (.bool true);rw[N3]at kb8;generalize setAt h7 ⟨gb,p,none⟩ (.bool true)=h8 at*;have x48:Ext h4 h8:=Fr.trans (hx.trans x7) f8 (fun _ _ h=>h) (fun k hk hS=>by omega);simp only[cn,ae,seval,w1];refine⟨l.length-(i+1),by omega,i+1,rfl,by omega,rfl,x48,?_⟩;rw[gl,List.map_append,List.map_singleton,hp];exact kb8
 have aK:¬(i:Int)<(l.length:Int):=by omega
 rw[List.take_of_length_le (by omega)]at hkb;generalize l.map In.at'=eU at*;obtain⟨k1,k2,k3,H5⟩:=key hc (Ow.trans hx);simp only[cn,ae,seval,aK,k3];refine aG [0,3,9,56,57,58] (fun m ρ hd=>∃i:Nat,m=cd.hs.length-i∧i≤cd.hs.length∧
  ρ=[(0,nU g),(3,aE q2),(9, .slice (some ⟨gb,0,none⟩) 65536 65536),(56, .slice ah cd.hs.length ch),(57,ao cd.hs.length),(58,ao i)]∧Ext hc hd∧
  JA c.pool eU (cd.bytes.length:Int) 0 cd.hs=JA c.pool eU (cd.bytes.length:Int) i (cd.hs.drop i)) ?_ ?_
 ·simp only[ae,seval]
  exact⟨_,0,rfl,awb _,rfl,Ext.refl _,by simp⟩
 rintro m ρ hd⟨j,rfl,hj,rfl,rR,nK⟩;have KY:=(WR.trans hx).trans rR;by_cases vR:j<cd.hs.length
 case neg=>
  have rq:¬(j:Int)<(cd.hs.length:Int):=by omega
  rw[nK,awV (by omega)];simp only[cn,ae,seval,rq]
  first|exact⟨KY,rfl⟩|exact KY
 have rq:(j:Int)<(cd.hs.length:Int):=by omega
 have w1:=gU (k:=j) (by omega);obtain⟨b,o,c',heq,di,_⟩:=(hH.ext (by decide) KY).at vR;cases heq;rw[U1 vR]at di;rw[gL (d:=ns.zero) vR,JA]at nK;have hxf:=IL.hs _ (dF (d:=ns.zero) vR);generalize cd.hs.getD j ns.zero=x at*;have bm:=aS KC di rfl;simp only[ns.cells]at bm;simp(disch:=omega)only[cn,ae,seval,rq,bm];refine aD rF ?_;simp only[ae,seval];refine aI rF rfl rfl rfl (by simp[Value.cells,oneCell]) rfl ?_;intro h7 x7 _ qR b7;have c0:cellAt h7 ⟨hd.size,0,none⟩=some (ao x.from'):=qR 0 _ rfl;have c1:cellAt h7 ⟨hd.size,1,none⟩=some (ao x.to):=qR 1 _ rfl;have c2:cellAt h7 ⟨hd.size,2,none⟩=some (ao x.target):=qR 2 _ rfl;have c3:cellAt h7 ⟨hd.size,3,none⟩=some (ax x.type):=qR 3 _ rfl;have rS:=KY.trans x7;obtain⟨_,m2,_,H7⟩:=key h7 (((Ow.trans hx).trans rR).trans x7);have Zo:=ay (rR.trans x7) hkb awx;have bg:∀p:Nat,p<65536→cellAt h7 ⟨gb,p,none⟩=some (.bool (decide ((p:Int)∈eU))):=by
  intro p hp;rw[au Zo,awl,sH hp];simp
 generalize hd.size=qh at*;have bad:PF eU (cd.bytes.length:Int) x=true→JA c.pool eU (cd.bytes.length:Int) 0 cd.hs=(16,(j:Int)):=fun h=>by rw[nK,awa h]
 have bd:=fun h=>bad (akB U4 h);by_cases p1:x.from'<0
 ·rw[bd (fun g=>by have:=g.1;omega)]
  simp(disch:=omega)only[cn,ae,seval,c0,va];exact rS
 by_cases p2:(cd.bytes.length:Int)<x.to
 ·rw[bd (fun g=>by have:=g.2.1;omega)]
  simp(disch:=omega)only[cn,ae,seval,c0,c1,m2,va];exact rS
 by_cases p3:x.to≤x.from'
 ·rw[bd (fun g=>by have:=g.2.2.1;omega)]
  simp(disch:=omega)only[cn,ae,seval,c0,c1,m2,va];exact rS
 by_cases p4:x.target<0
 ·rw[bd (fun g=>by have:=g.2.2.2.1;omega)]
  simp(disch:=omega)only[cn,ae,seval,c0,c1,c2,m2,va];exact rS
 by_cases p5:(cd.bytes.length:Int)≤x.target
 ·rw[bd (fun g=>by have:=g.2.2.2.2.1;omega)]
  simp(disch:=omega)only[cn,ae,seval,c0,c1,c2,m2,va];exact rS
 have f0:0≤x.from':=by omega
 have f1:x.from'<65536:=by omega
 have b1:cellAt h7 ⟨gb,x.from'.toNat,none⟩=some (.bool (decide (x.from'∈eU))):=by
  have:=bg x.from'.toNat (by omega);rw[Int.toNat_of_nonneg f0]at this;exact this
 by_cases p6:x.from'∈eU
 case neg=>
  rw[bd (fun g=>p6 g.2.2.2.2.2.1)];rw[awg p6]at b1;simp(disch:=omega)only[cn,ae,seval,c0,c1,c2,m2,b1,va];exact rS
 rw[awh p6]at b1;have g0:0≤x.target:=by omega
 have g1:x.target<65536:=by omega
 have b3:cellAt h7 ⟨gb,x.target.toNat,none⟩=some (.bool (decide (x.target∈eU))):=by
  have:=bg x.target.toNat (by omega);rw[Int.toNat_of_nonneg g0]at this;exact this
 by_cases p7:x.to<(cd.bytes.length:Int)
 case pos=>
  have r0:0≤x.to:=by omega
  have r1:x.to<65536:=by omega
  have b2:cellAt h7 ⟨gb,x.to.toNat,none⟩=some (.bool (decide (x.to∈eU))):=by
   have:=bg x.to.toNat (by omega);rw[Int.toNat_of_nonneg r0]at this;exact this
  by_cases p8:x.to∈eU
  case neg=>
   rw[bd (fun g=>by
    rcases g.2.2.2.2.2.2.1 with h|h
    ·omega
    ·exact p8 h)]
   rw[awg p8]at b2;simp(disch:=omega)only[cn,ae,seval,c0,c1,c2,m2,b1,b2,va];exact rS
  rw[awh p8]at b2;by_cases p9:x.target∈eU
  case neg=>
   rw[bd (fun g=>p9 g.2.2.2.2.2.2.2)];rw[awg p9]at b3;simp(disch:=omega)only[cn,ae,seval,c0,c1,c2,m2,b1,b2,b3,va];exact rS
  rw[awh p9]at b3;have abN:=(Oz U4).2 ⟨f0,by omega,by omega,g0,by omega,p6, .inr p8,p9⟩;rw[av9 (by rw[abN];decide)]at nK;obtain⟨_,_,_,H7'⟩:=key h7 (((Ow.trans hx).trans rR).trans x7);by_cases t0:x.type=0
  case pos=>
   rw[av9 (by simp[t0])]at nK;simp(disch:=omega)only[cn,ae,seval,c0,c1,c2,m2,b1,b2,b3,c3,w1,va];exact⟨cd.hs.length-(j+1),by omega,j+1,rfl,by omega,rfl,rR.trans x7,nK⟩
  simp(disch:=omega)only[cn,ae,seval,c0,c1,c2,m2,b1,b2,b3,c3,va];refine aj rfl (oA H7' F x.type hxf.type) ?_;rintro v9 h9⟨rfl,rfl⟩;cases mY:(bZ c.pool x.type).2 with
  |true=>
   rw[mY,av9 (by simp)]at nK;simp only[cn,ae,seval,w1];exact⟨cd.hs.length-(j+1),by omega,j+1,rfl,by omega,rfl,rR.trans x7,nK⟩
  |false=>
   rw[mY,awa ⟨t0,rfl⟩]at nK;rw[nK];simp only[cn,ae,seval];exact rS
 by_cases p9:x.target∈eU
 case neg=>
  rw[bd (fun g=>p9 g.2.2.2.2.2.2.2)];rw[awg p9]at b3;simp(disch:=omega)only[cn,ae,seval,c0,c1,c2,m2,b1,b3,va];exact rS
 rw[awh p9]at b3;have abN:=(Oz U4).2 ⟨f0,by omega,by omega,g0,by omega,p6, .inl (by omega),p9⟩;rw[av9 (by rw[abN];decide)]at nK;obtain⟨_,_,_,H7'⟩:=key h7 (((Ow.trans hx).trans rR).trans x7);by_cases t0:x.type=0
 case pos=>
  rw[av9 (by simp[t0])]at nK;simp(disch:=omega)only[cn,ae,seval,c0,c1,c2,m2,b1,b3,c3,w1,va];exact⟨cd.hs.length-(j+1),by omega,j+1,rfl,by omega,rfl,rR.trans x7,nK⟩
 simp(disch:=omega)only[cn,ae,seval,c0,c1,c2,m2,b1,b3,c3,va];refine aj rfl (oA H7' F x.type hxf.type) ?_;rintro v9 h9⟨rfl,rfl⟩;cases mY:(bZ c.pool x.type).2 with
 |true=>
  rw[mY,av9 (by simp)]at nK;simp only[cn,ae,seval,w1];exact⟨cd.hs.length-(j+1),by omega,j+1,rfl,by omega,rfl,rR.trans x7,nK⟩
 |false=>
  rw[mY,awa ⟨t0,rfl⟩]at nK;rw[nK];simp only[cn,ae,seval];exact rS
end
end
end Go.Proofs.YtmbboehmnfhjjaaGreatDoor
