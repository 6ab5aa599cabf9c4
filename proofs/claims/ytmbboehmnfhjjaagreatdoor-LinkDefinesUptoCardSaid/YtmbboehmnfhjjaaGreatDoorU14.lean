/- Calls of methods as operands, by the program. Operands of instructions, by the program. Operands of instructions, by the reference. -/
import Derived.Test.YtmbboehmnfhjjaaGreatDoorU13
import Derived.Test.YtmbboehmnfhjjaaGreatDoorU9
set_option maxRecDepth 100000
set_option maxHeartbeats 16000000
set_option linter.unusedSimpArgs false
set_option linter.unusedVariables false
set_option linter.defProp false
namespace Go.Proofs.YtmbboehmnfhjjaaGreatDoor
open Go.Vc
section
section
variable{x:In}{ak bk:Option Addr}{nk ck nb cb:Nat}{p:List aX}{vp:Value}
abbrev MN(c:aX):Value:= .agg #[bH c.tag,str c.text, .int .u64 (c.bits:Int),ax c.a,ax c.b]
theorem abk(ts:List (az)):dB ts≤2*ts.length:=by
 unfold dB
 induction ts with
 |nil=>simp
 |cons t r ih=>rw[awH,List.sum_cons,awy];have:=rH t;omega
theorem qI(ts:List (az))(t:az):dB (ts++[t])=dB ts+mf t:=by simp[dB]
theorem tT{ts:List (az)}(i:Nat):dB (ts.take i)≤2*ts.length:=by
 have:=abk (ts.take i);rw[awz]at this;omega
theorem pY{h:ar}(k:Nat)(hk:k<65536)(hs:fR h 5 vp p.length (du p)):
 aF Tryz.prog 37 #[vp,ax k] h fun v h'=>h'=h∧v=str (bM p k):=FP k hk hs
theorem Pv{h:ar}(c:aX)(F0:c.b<65536)(hf:∀c∈p,c.Fit)(vW:∀c∈p,c.text.length≤4294967296)(hs:fR h 5 vp p.length (du p)):
 aF Tryz.prog 328 #[tF x ak bk nk ck nb cb,vp,MN c] h fun v h'=>Ext h h'∧v= .bool (pe x.op x.B p c.b):=by
 refine Cv (args:=[tF x ak bk nk ck nb cb,vp,MN c]) rfl ?_;simp only[cL,ae,seval];refine cT ?_;have q0:(h.push (kH x ak bk nk ck nb cb))[h.size]? =some (kH x ak bk nk ck nb cb):=by simp
 have E1:=Ext.push h (kH x ak bk nk ck nb cb);simp only[ae,seval];generalize h.push _=h1,h.size=q at*;refine cT ?_;have E2:=Ext.push h1 (.cells #[bH c.tag,str c.text, .int .u64 (c.bits:Int),ax c.a,ax c.b] 160);have q4:cellAt (h1.push (.cells #[bH c.tag,str c.text, .int .u64 (c.bits:Int),ax c.a,ax c.b] 160)) ⟨h1.size,4,none⟩=some (ax c.b):=by rw[fo];rfl
 simp only[cL,ae,seval];have q0:=dw (o':= .cells #[bH c.tag,str c.text, .int .u64 (c.bits:Int),ax c.a,ax c.b] 160) q0;generalize h1.push _=h2,h1.size=q2 at*;have nO:=E1.trans E2;have q1:cellAt h2 ⟨q,1,none⟩=some (bH x.op):=by rw[au q0];rfl
 have j8:=hs.ext (by decide) nO;generalize c.b=b at*;simp only[ae,seval,q4];refine aj rfl (lC b 12 F0 j8) ?_;rintro v3 h3⟨rfl,rfl⟩;unfold pe;cases xV:eV p b 12 with
 |false=>
  simp only[cL,ae,seval];exact⟨nO,rfl⟩
 |true=>
  obtain⟨Wh,kO⟩:=sf xV;have apT:(b:Int)<(p.length:Int):=by omega
  obtain⟨bb,oo,cc,rfl,di,_⟩:=j8.at kO;rw[iu kO]at di;have RF:=hf (p.getD b aX.zero) (by simp[kO]);generalize p.getD b aX.zero=y at*;have c3:cellAt h3 ⟨bb,oo+b*5+3,none⟩=some (ax y.a):=di 3 _ rfl;have c4:cellAt h3 ⟨bb,oo+b*5+4,none⟩=some (ax y.b):=di 4 _ rfl;simp(disch:=omega)only[cL,ae,seval,q4,c3,c4];refine aj rfl (pY y.a RF.a j8) ?_;rintro v4 h4⟨rfl,rfl⟩;simp(disch:=omega)only[ae,seval,q4,c4];refine aj rfl (pY y.b RF.b j8) ?_;rintro v5 h5⟨rfl,rfl⟩;have la:=pX vW y.a;have lb:=pX vW y.b;generalize bM p y.a=na,bM p y.b=nd at*;simp only[cL,ae,seval];refine aj rfl (nP na true la) ?_;rintro v6 h6⟨AS,rfl⟩;have q1':cellAt h6 ⟨q,1,none⟩=some (bH x.op):=by rw[au (ay AS q0 awx)];rfl
  generalize dc na true=kd at*;by_cases k3:kd=3
  ·have k3':(kd:Int)=3:=by omega
   rw[show(true&&(!(decide (kd=3)||(decide (kd=2)&&decide (x.op≠183)))&&((fV nd).isSome&&(decide (x.op≠185)||decide (((1+dB (mT nd):Nat):Int)=x.B)))))=false by simp[k3]];simp only[cL,ae,seval,av8 k3',];exact nO.trans AS
  have k3':¬(kd:Int)=3:=by omega
  by_cases k2:kd=2∧x.op≠183
  ·have k2':(kd:Int)=2:=by omega
   have o1:¬(x.op:Int)=183:=by omega
   rw[show(true&&(!(decide (kd=3)||(decide (kd=2)&&decide (x.op≠183)))&&((fV nd).isSome&&(decide (x.op≠185)||decide (((1+dB (mT nd):Nat):Int)=x.B)))))=false by simp[k2.1,k2.2]];simp only[cL,ae,seval,av7 k3',av8 k2',q1',av7 o1,];exact nO.trans AS
  rw[show(true&&(!(decide (kd=3)||(decide (kd=2)&&decide (x.op≠183)))&&((fV nd).isSome&&(decide (x.op≠185)||decide (((1+dB (mT nd):Nat):Int)=x.B)))))=((fV nd).isSome&&(decide (x.op≠185)||decide (((1+dB (mT nd):Nat):Int)=x.B))) by
   have:(decide (kd=2)&&decide (x.op≠183))=false:=by
    rw[Bool.and_eq_false_iff,decide_eq_false_iff_not,decide_eq_false_iff_not];omega
   rw[this,awg k3];rfl]
  by_cases k2:kd=2
  case pos=>
   have k2':(kd:Int)=2:=by omega
   have o1:(x.op:Int)=183:=by omega
   simp only[cL,ae,seval,av7 k3',av8 k2',q1',av8 o1,];refine aj rfl (sJ nd lb) ?_;rintro v7 h7⟨pQ,hm⟩;obtain⟨sv,rfl,zN⟩:=jX hm;have q7:=ay (AS.trans pQ) q0 awx;have Cm:cellAt h7 ⟨q,1,none⟩=some (bH x.op):=by rw[au q7];rfl
   have hx:=(nO.trans AS).trans pQ;have AU:=ML nd;generalize mT nd=ts,(fV nd).isSome=ok at*;by_cases Ga:x.op=185
   case neg=>
    have o2:¬(x.op:Int)=185:=by omega
    rw[show(ok&&(decide (x.op≠185)||decide (((1+dB ts:Nat):Int)=x.B)))=ok by simp[Ga]];simp only[cL,ae,seval,Cm,av7 o2,];exact hx
   have o2:(x.op:Int)=185:=by omega
   rw[show(ok&&(decide (x.op≠185)||decide (((1+dB ts:Nat):Int)=x.B)))=(ok&&decide (((1+dB ts:Nat):Int)=x.B)) by simp[Ga]];have YO:=zN;obtain⟨a9,c9,rfl,_⟩:=YO;rw[awk];simp only[cL,ae,seval,Cm,av8 o2,];refine aG [3,12,13,60,61,62] (fun m ρ hc=>∃i:Nat,m=ts.length-i∧i≤ts.length∧
    ρ=[(3,aE q),(12, .bool ok),(13,ao ((1+dB (ts.take i):Nat):Int)),(60, .slice a9 ts.length c9),(61,ao ts.length),(62,ao i)]∧hc=h7) ?_ ?_
   case refine_1=>
    simp only[ae,seval];exact⟨_,0,rfl,awb _,rfl⟩
   rintro m ρ hc⟨i,rfl,hi,rfl,rfl⟩;by_cases aV:i<ts.length
   case pos=>
    have aK:(i:Int)<(ts.length:Int):=by omega
    obtain⟨b1,o1,td,fD,_,eR⟩:=zN.at (i:=i) (by simpa using aV);rw[awk]at fD;cases fD;have e1:cellAt hc ⟨b1,o1+i,none⟩=some (str (ts.getD i [])):=by rw[eR];simp[aV]
    have gl:ts.take (i+1)=ts.take i++[ts.getD i []]:=by rw[List.take_add_one];simp[aV]
    generalize ts.getD i []=t at*;have w1:=gU (k:=i) (by omega);have w2:IntKind.i64.wrap (((1+dB (ts.take i):Nat):Int)+(mf t:Int))=((1+dB (ts.take (i+1)):Nat):Int):=by
     rw[gl,qI,wrap_i64 (by omega) (by omega)];omega
    simp(disch:=omega)only[cL,ae,seval,aK,e1,];refine aj rfl (AQ t) ?_;rintro v9 h9⟨rfl,rfl⟩;simp only[cL,ae,seval,w1,w2];exact⟨ts.length-(i+1),by omega,i+1,rfl,by omega,rfl⟩
   have aK:¬(i:Int)<(ts.length:Int):=by omega
   rw[List.take_of_length_le (show ts.length≤i by omega)];have UQ:cellAt hc ⟨q,4,none⟩=some (ao x.B):=by rw[au q7];rfl
   cases ok with
   |false=>
    simp only[cL,ae,seval,aK,];exact⟨hx,rfl⟩
   |true=>
    simp only[cL,ae,seval,aK,UQ,];exact⟨hx,rfl⟩
  have k2':¬(kd:Int)=2:=by omega
  simp only[cL,ae,seval,av7 k3',av7 k2',];refine aj rfl (sJ nd lb) ?_;rintro v7 h7⟨pQ,hm⟩;obtain⟨sv,rfl,zN⟩:=jX hm;have q7:=ay (AS.trans pQ) q0 awx;have Cm:cellAt h7 ⟨q,1,none⟩=some (bH x.op):=by rw[au q7];rfl
  have hx:=(nO.trans AS).trans pQ;have AU:=ML nd;generalize mT nd=ts,(fV nd).isSome=ok at*;by_cases Ga:x.op=185
  case neg=>
   have o2:¬(x.op:Int)=185:=by omega
   rw[show(ok&&(decide (x.op≠185)||decide (((1+dB ts:Nat):Int)=x.B)))=ok by simp[Ga]];simp only[cL,ae,seval,Cm,av7 o2,];exact hx
  have o2:(x.op:Int)=185:=by omega
  rw[show(ok&&(decide (x.op≠185)||decide (((1+dB ts:Nat):Int)=x.B)))=(ok&&decide (((1+dB ts:Nat):Int)=x.B)) by simp[Ga]];have YO:=zN;obtain⟨a9,c9,rfl,_⟩:=YO;rw[awk];simp only[cL,ae,seval,Cm,av8 o2,];refine aG [3,12,13,60,61,62] (fun m ρ hc=>∃i:Nat,m=ts.length-i∧i≤ts.length∧
   ρ=[(3,aE q),(12, .bool ok),(13,ao ((1+dB (ts.take i):Nat):Int)),(60, .slice a9 ts.length c9),(61,ao ts.length),(62,ao i)]∧hc=h7) ?_ ?_
  case refine_1=>
   simp only[ae,seval];exact⟨_,0,rfl,awb _,rfl⟩
  rintro m ρ hc⟨i,rfl,hi,rfl,rfl⟩;by_cases aV:i<ts.length
  case pos=>
   have aK:(i:Int)<(ts.length:Int):=by omega
   obtain⟨b1,o1,td,fD,_,eR⟩:=zN.at (i:=i) (by simpa using aV);rw[awk]at fD;cases fD;have e1:cellAt hc ⟨b1,o1+i,none⟩=some (str (ts.getD i [])):=by rw[eR];simp[aV]
   have gl:ts.take (i+1)=ts.take i++[ts.getD i []]:=by rw[List.take_add_one];simp[aV]
   have pB:=tT (ts:=ts) i;generalize ts.getD i []=t at*;have MK:=rH t;have w1:=gU (k:=i) (by omega);have w2:IntKind.i64.wrap (((1+dB (ts.take i):Nat):Int)+(mf t:Int))=((1+dB (ts.take (i+1)):Nat):Int):=by
    rw[gl,qI,wrap_i64 (by omega) (by omega)];omega
   simp(disch:=omega)only[cL,ae,seval,aK,e1,];refine aj rfl (AQ t) ?_;rintro v9 h9⟨rfl,rfl⟩;simp only[cL,ae,seval,w1,w2];exact⟨ts.length-(i+1),by omega,i+1,rfl,by omega,rfl⟩
  have aK:¬(i:Int)<(ts.length:Int):=by omega
  rw[List.take_of_length_le (show ts.length≤i by omega)];have UQ:cellAt hc ⟨q,4,none⟩=some (ao x.B):=by rw[au q7];rfl
  cases ok with
  |false=>
   simp only[cL,ae,seval,aK,];exact⟨hx,rfl⟩
  |true=>
   simp only[cL,ae,seval,aK,UQ,];exact⟨hx,rfl⟩
end
end
section
section
variable{x:In}{ak bk:Option Addr}{nk ck nb cb:Nat}{p:List aX}{vp:Value}
theorem RH{p:List aX}(hp:p.length≤65536){A:Int}{t:Nat}(h:jh p A t=true):sL A=A.toNat∧0<A.toNat∧A.toNat<p.length:=by
 have h':=h;rw[acB hp,awm,awo]at h';have:=sf h'.2;omega
theorem Wi{h:ar}(rG:x.op<256)(hp:p.length≤65536)(hf:∀c∈p,c.Fit)(vW:∀c∈p,c.text.length≤4294967296)(hs:fR h 5 vp p.length (du p)):
 aF Tryz.prog 302 #[tF x ak bk nk ck nb cb,vp] h fun v h'=>Ext h h'∧v= .bool (fe x.op x.A x.B p):=by
 have hs':=hs;obtain⟨_,a,c,rfl,_⟩:=hs';refine Ap (args:=[tF x ak bk nk ck nb cb, .slice a p.length c]) rfl ?_;simp only[dP,ae,seval];refine cT ?_;have q0:(h.push (kH x ak bk nk ck nb cb))[h.size]? =some (kH x ak bk nk ck nb cb):=by simp
 have E1:=Ext.push h (kH x ak bk nk ck nb cb);simp only[ae,seval];generalize h.push _=h1,h.size=gx at*;refine cT ?_;have q2:(h1.push (.cells #[.slice a p.length c] 45))[h1.size]? =some (.cells #[.slice a p.length c] 45 (0,0)):=by simp
 have E2:=Ext.push h1 (.cells #[.slice a p.length c] 45);have q1:=ay E2 q0 awx;simp only[dP,ae,seval];generalize h1.push _=h2,h1.size=gp at*;have x3:cellAt h2 ⟨gx,3,none⟩=some (ao x.A):=by rw[au q1];rfl
 simp only[ae,seval,x3,abj];refine aD eN ?_;simp only[ae,seval];refine aI eN rfl rfl rfl (by simp[Value.cells,oneCell]) rfl ?_;intro h3 e3 _ _ b3;have iG:=(E1.trans E2).trans e3;have qx:=ay e3 q1 awx;have qp:=ay e3 q2 awx;have qk:h3[h2.size]? =some (.cells #[ax (sL x.A:Nat)] 40 (0,0)):=b3;generalize h2.size=gk at*;have x1:cellAt h3 ⟨gx,1,none⟩=some (bH x.op):=by rw[au qx];rfl
 simp only[dP,ae,seval,x1];have key:∀h4,Ext h3 h4→cellAt h4 ⟨gk,0,none⟩=some (ax (sL x.A:Nat))∧cellAt h4 ⟨gx,3,none⟩=some (ao x.A)∧cellAt h4 ⟨gx,4,none⟩=some (ao x.B)∧cellAt h4 ⟨gp,0,none⟩=some (.slice a p.length c)∧fR h4 5 (.slice a p.length c) p.length (du p)∧h4[gx]? =some (kH x ak bk nk ck nb cb):=by
  intro h4 e;have q1:=ay e qx awx;have q2:=ay e qp awx;have q3:=ay e qk awx;refine⟨?_,?_,?_,?_,hs.ext (by decide) (iG.trans e),q1⟩
  ·rw[au q3];rfl
  ·rw[au q1];rfl
  ·rw[au q1];rfl
  ·rw[au q2];rfl
 by_cases g0:x.op=18∨x.op=19
 case pos=>
  rw[show fe x.op x.A x.B p=([3,4,8].any (jh p x.A)) by unfold fe;rw[awa (by omega)]];rcases g0 with e|e
  all_goals
   simp(disch:=omega)only[dP,ae,seval,va];refine aU gI rfl rfl (by decide) ?_;simp only[ae,seval];have e4:=Ext.push h3 (.cells #[bH 3,bH 4,bH 8] 5);have rJ:Sl (h3.push (.cells #[bH 3,bH 4,bH 8] 5)) (.slice (some ⟨h3.size,0,none⟩) 3 3) (([3,4,8]:List Nat).map fun t:Nat=>bH t):=⟨_,_,rfl, .inr ⟨_,_,rfl,bV (vs:=[bH 3,bH 4,bH 8])⟩⟩;generalize h3.push _=h4,h3.size=gt at*;obtain⟨c1,c2,c5,c3,nh,qx⟩:=key h4 e4;refine dk ?_;simp only[ae,seval];refine(qH [3,4,8] (by decide) rJ c1 c2 c3 hp nh).mono ?_;rintro v5 h5⟨rfl,rfl⟩;simp only[ae,seval]
   first|exact iG.trans e4|exact⟨iG.trans e4,rfl⟩
 by_cases g1:x.op=20
 case pos=>
  rw[show fe x.op x.A x.B p=([5,6].any (jh p x.A)) by unfold fe;rw[av9 (by omega),awa (by omega)]];simp(disch:=omega)only[dP,ae,seval,va];refine aU gI rfl rfl (by decide) ?_;simp only[ae,seval];have e4:=Ext.push h3 (.cells #[bH 5,bH 6] 5);have rJ:Sl (h3.push (.cells #[bH 5,bH 6] 5)) (.slice (some ⟨h3.size,0,none⟩) 2 2) (([5,6]:List Nat).map fun t:Nat=>bH t):=⟨_,_,rfl, .inr ⟨_,_,rfl,bV (vs:=[bH 5,bH 6])⟩⟩;generalize h3.push _=h4,h3.size=gt at*;obtain⟨c1,c2,c5,c3,nh,qx⟩:=key h4 e4;refine dk ?_;simp only[ae,seval];refine(qH [5,6] (by decide) rJ c1 c2 c3 hp nh).mono ?_;rintro v5 h5⟨rfl,rfl⟩;simp only[ae,seval]
  first|exact iG.trans e4|exact⟨iG.trans e4,rfl⟩
 by_cases g2:x.op=178∨x.op=179∨x.op=180∨x.op=181
 case pos=>
  rw[show fe x.op x.A x.B p=([9].any (jh p x.A)) by unfold fe;rw[av9 (by omega),av9 (by omega),awa (by omega)]];rcases g2 with e|e|e|e
  all_goals
   simp(disch:=omega)only[dP,ae,seval,va];refine aU gI rfl rfl (by decide) ?_;simp only[ae,seval];have e4:=Ext.push h3 (.cells #[bH 9] 5);have rJ:Sl (h3.push (.cells #[bH 9] 5)) (.slice (some ⟨h3.size,0,none⟩) 1 1) (([9]:List Nat).map fun t:Nat=>bH t):=⟨_,_,rfl, .inr ⟨_,_,rfl,bV (vs:=[bH 9])⟩⟩;generalize h3.push _=h4,h3.size=gt at*;obtain⟨c1,c2,c5,c3,nh,qx⟩:=key h4 e4;refine dk ?_;simp only[ae,seval];refine(qH [9] (by decide) rJ c1 c2 c3 hp nh).mono ?_;rintro v5 h5⟨rfl,rfl⟩;simp only[ae,seval]
   first|exact iG.trans e4|exact⟨iG.trans e4,rfl⟩
 by_cases g3:x.op=182∨x.op=183∨x.op=184
 case pos=>
  rw[show fe x.op x.A x.B p=([10].any (jh p x.A)&&pe x.op x.B p (p.getD x.A.toNat aX.zero).b) by unfold fe;rw[av9 (by omega),av9 (by omega),av9 (by omega),awa (by omega)]];rcases g3 with e|e|e
  all_goals
   simp(disch:=omega)only[dP,ae,seval,va];refine aU gI rfl rfl (by decide) ?_;simp only[ae,seval];have e4:=Ext.push h3 (.cells #[bH 10] 5);have rJ:Sl (h3.push (.cells #[bH 10] 5)) (.slice (some ⟨h3.size,0,none⟩) 1 1) (([10]:List Nat).map fun t:Nat=>bH t):=⟨_,_,rfl, .inr ⟨_,_,rfl,bV (vs:=[bH 10])⟩⟩;generalize h3.push _=h4,h3.size=gt at*;obtain⟨c1,c2,c5,c3,nh,qx⟩:=key h4 e4;refine dk ?_;simp only[ae,seval];refine(qH [10] (by decide) rJ c1 c2 c3 hp nh).mono ?_;rintro v5 h5⟨rfl,rfl⟩;cases hb:([10]:List Nat).any (jh p x.A)with
   |false=>
    simp only[ae,seval]
    first|exact iG.trans e4|exact⟨iG.trans e4,rfl⟩
   |true=>
    obtain⟨kk,k0,kl⟩:=RH hp (t:=10) (by simpa using hb);rw[kk]at c1;have kl':((x.A.toNat:Nat):Int)<(p.length:Int):=by omega
    obtain⟨b,o,c',heq,di,_⟩:=nh.at kl;cases heq;rw[iu kl]at di;have hy:=hf (p.getD x.A.toNat aX.zero) (by simp[kl]);generalize p.getD x.A.toNat aX.zero=y at*;have bm:=aS eA di rfl;simp only[aX.cells]at bm;have Cn:=aS gg (aN (vs:=[ao x.at',bH x.op, .bool x.wide,ao x.A,ao x.B,ao x.low, .slice ak nk ck, .slice bk nb cb]) qx) rfl;simp(disch:=omega)only[ae,seval,c1,c3,bm,Cn];refine aj rfl (Pv (ak:=ak) (bk:=bk) (nk:=nk) (ck:=ck) (nb:=nb) (cb:=cb) (x:=x) y hy.b hf vW nh) ?_;rintro v6 h6⟨AS,rfl⟩;simp only[ae,seval]
    first|exact(iG.trans e4).trans AS|exact⟨(iG.trans e4).trans AS,rfl⟩
 by_cases g4:x.op=185
 case pos=>
  rw[show fe x.op x.A x.B p=([11].any (jh p x.A)&&pe x.op x.B p (p.getD x.A.toNat aX.zero).b) by unfold fe;rw[av9 (by omega),av9 (by omega),av9 (by omega),av9 (by omega),awa (by omega)]];simp(disch:=omega)only[dP,ae,seval,va];refine aU gI rfl rfl (by decide) ?_;simp only[ae,seval];have e4:=Ext.push h3 (.cells #[bH 11] 5);have rJ:Sl (h3.push (.cells #[bH 11] 5)) (.slice (some ⟨h3.size,0,none⟩) 1 1) (([11]:List Nat).map fun t:Nat=>bH t):=⟨_,_,rfl, .inr ⟨_,_,rfl,bV (vs:=[bH 11])⟩⟩;generalize h3.push _=h4,h3.size=gt at*;obtain⟨c1,c2,c5,c3,nh,qx⟩:=key h4 e4;refine dk ?_;simp only[ae,seval];refine(qH [11] (by decide) rJ c1 c2 c3 hp nh).mono ?_;rintro v5 h5⟨rfl,rfl⟩;cases hb:([11]:List Nat).any (jh p x.A)with
  |false=>
   simp only[ae,seval]
   first|exact iG.trans e4|exact⟨iG.trans e4,rfl⟩
  |true=>
   obtain⟨kk,k0,kl⟩:=RH hp (t:=11) (by simpa using hb);rw[kk]at c1;have kl':((x.A.toNat:Nat):Int)<(p.length:Int):=by omega
   obtain⟨b,o,c',heq,di,_⟩:=nh.at kl;cases heq;rw[iu kl]at di;have hy:=hf (p.getD x.A.toNat aX.zero) (by simp[kl]);generalize p.getD x.A.toNat aX.zero=y at*;have bm:=aS eA di rfl;simp only[aX.cells]at bm;have Cn:=aS gg (aN (vs:=[ao x.at',bH x.op, .bool x.wide,ao x.A,ao x.B,ao x.low, .slice ak nk ck, .slice bk nb cb]) qx) rfl;simp(disch:=omega)only[ae,seval,c1,c3,bm,Cn];refine aj rfl (Pv (ak:=ak) (bk:=bk) (nk:=nk) (ck:=ck) (nb:=nb) (cb:=cb) (x:=x) y hy.b hf vW nh) ?_;rintro v6 h6⟨AS,rfl⟩;simp only[ae,seval]
   first|exact(iG.trans e4).trans AS|exact⟨(iG.trans e4).trans AS,rfl⟩
 by_cases g5:x.op=187
 case pos=>
  rw[show fe x.op x.A x.B p=([7].any (jh p x.A)&&decide (dq (kM p x.A)=0)) by unfold fe;rw[av9 (by omega),av9 (by omega),av9 (by omega),av9 (by omega),av9 (by omega),awa (by omega)]];simp(disch:=omega)only[dP,ae,seval,va];refine aU gI rfl rfl (by decide) ?_;simp only[ae,seval];have e4:=Ext.push h3 (.cells #[bH 7] 5);have rJ:Sl (h3.push (.cells #[bH 7] 5)) (.slice (some ⟨h3.size,0,none⟩) 1 1) (([7]:List Nat).map fun t:Nat=>bH t):=⟨_,_,rfl, .inr ⟨_,_,rfl,bV (vs:=[bH 7])⟩⟩;generalize h3.push _=h4,h3.size=gt at*;obtain⟨c1,c2,c5,c3,nh,qx⟩:=key h4 e4;refine dk ?_;simp only[ae,seval];refine(qH [7] (by decide) rJ c1 c2 c3 hp nh).mono ?_;rintro v5 h5⟨rfl,rfl⟩;cases hb:([7]:List Nat).any (jh p x.A)with
  |false=>
   simp only[ae,seval]
   first|exact iG.trans e4|exact⟨iG.trans e4,rfl⟩
  |true=>
   obtain⟨kk,k0,kl⟩:=RH hp (t:=7) (by simpa using hb);rw[kk]at c1;simp only[ae,seval];refine dk ?_;simp only[ae,seval];refine(FZ kl (by omega) hf c1 c3 nh).mono ?_;rintro v6 h6⟨rfl,rfl⟩;have hln:=pX vW (p.getD x.A.toNat aX.zero).a;simp only[ae,seval];refine aj rfl (Og (bM p (p.getD x.A.toNat aX.zero).a) hln) ?_;rintro v7 h7⟨rfl,rfl⟩;have hd:decide (((dq (bM p (p.getD x.A.toNat aX.zero).a):Nat):Int)=0)=decide (dq (kM p x.A)=0):=decide_eq_decide.2 (by unfold kM;omega);rw[Bool.true_and,←hd];simp only[ae,seval]
   first|exact iG.trans e4|exact⟨iG.trans e4,rfl⟩
 by_cases g6:x.op=189
 case pos=>
  rw[show fe x.op x.A x.B p=([7].any (jh p x.A)&&decide (dq (kM p x.A)<255)) by unfold fe;rw[av9 (by omega),av9 (by omega),av9 (by omega),av9 (by omega),av9 (by omega),av9 (by omega),awa (by omega)]];simp(disch:=omega)only[dP,ae,seval,va];refine aU gI rfl rfl (by decide) ?_;simp only[ae,seval];have e4:=Ext.push h3 (.cells #[bH 7] 5);have rJ:Sl (h3.push (.cells #[bH 7] 5)) (.slice (some ⟨h3.size,0,none⟩) 1 1) (([7]:List Nat).map fun t:Nat=>bH t):=⟨_,_,rfl, .inr ⟨_,_,rfl,bV (vs:=[bH 7])⟩⟩;generalize h3.push _=h4,h3.size=gt at*;obtain⟨c1,c2,c5,c3,nh,qx⟩:=key h4 e4;refine dk ?_;simp only[ae,seval];refine(qH [7] (by decide) rJ c1 c2 c3 hp nh).mono ?_;rintro v5 h5⟨rfl,rfl⟩;cases hb:([7]:List Nat).any (jh p x.A)with
  |false=>
   simp only[ae,seval]
   first|exact iG.trans e4|exact⟨iG.trans e4,rfl⟩
  |true=>
   obtain⟨kk,k0,kl⟩:=RH hp (t:=7) (by simpa using hb);rw[kk]at c1;simp only[ae,seval];refine dk ?_;simp only[ae,seval];refine(FZ kl (by omega) hf c1 c3 nh).mono ?_;rintro v6 h6⟨rfl,rfl⟩;have hln:=pX vW (p.getD x.A.toNat aX.zero).a;simp only[ae,seval];refine aj rfl (Og (bM p (p.getD x.A.toNat aX.zero).a) hln) ?_;rintro v7 h7⟨rfl,rfl⟩;have hd:decide (((dq (bM p (p.getD x.A.toNat aX.zero).a):Nat):Int)<255)=decide (dq (kM p x.A)<255):=decide_eq_decide.2 (by unfold kM;omega);rw[Bool.true_and,←hd];simp only[ae,seval]
   first|exact iG.trans e4|exact⟨iG.trans e4,rfl⟩
 by_cases g7:x.op=192∨x.op=193
 case pos=>
  rw[show fe x.op x.A x.B p=([7].any (jh p x.A)) by unfold fe;rw[av9 (by omega),av9 (by omega),av9 (by omega),av9 (by omega),av9 (by omega),av9 (by omega),av9 (by omega),awa (by omega)]];rcases g7 with e|e
  all_goals
   simp(disch:=omega)only[dP,ae,seval,va];refine aU gI rfl rfl (by decide) ?_;simp only[ae,seval];have e4:=Ext.push h3 (.cells #[bH 7] 5);have rJ:Sl (h3.push (.cells #[bH 7] 5)) (.slice (some ⟨h3.size,0,none⟩) 1 1) (([7]:List Nat).map fun t:Nat=>bH t):=⟨_,_,rfl, .inr ⟨_,_,rfl,bV (vs:=[bH 7])⟩⟩;generalize h3.push _=h4,h3.size=gt at*;obtain⟨c1,c2,c5,c3,nh,qx⟩:=key h4 e4;refine dk ?_;simp only[ae,seval];refine(qH [7] (by decide) rJ c1 c2 c3 hp nh).mono ?_;rintro v5 h5⟨rfl,rfl⟩;simp only[ae,seval]
   first|exact iG.trans e4|exact⟨iG.trans e4,rfl⟩
 by_cases g8:x.op=197
 case pos=>
  rw[show fe x.op x.A x.B p=([7].any (jh p x.A)&&decide (x.B≤(dq (kM p x.A):Int))) by unfold fe;rw[av9 (by omega),av9 (by omega),av9 (by omega),av9 (by omega),av9 (by omega),av9 (by omega),av9 (by omega),av9 (by omega),awa (by omega)]];simp(disch:=omega)only[dP,ae,seval,va];refine aU gI rfl rfl (by decide) ?_;simp only[ae,seval];have e4:=Ext.push h3 (.cells #[bH 7] 5);have rJ:Sl (h3.push (.cells #[bH 7] 5)) (.slice (some ⟨h3.size,0,none⟩) 1 1) (([7]:List Nat).map fun t:Nat=>bH t):=⟨_,_,rfl, .inr ⟨_,_,rfl,bV (vs:=[bH 7])⟩⟩;generalize h3.push _=h4,h3.size=gt at*;obtain⟨c1,c2,c5,c3,nh,qx⟩:=key h4 e4;refine dk ?_;simp only[ae,seval];refine(qH [7] (by decide) rJ c1 c2 c3 hp nh).mono ?_;rintro v5 h5⟨rfl,rfl⟩;cases hb:([7]:List Nat).any (jh p x.A)with
  |false=>
   simp only[ae,seval]
   first|exact iG.trans e4|exact⟨iG.trans e4,rfl⟩
  |true=>
   obtain⟨kk,k0,kl⟩:=RH hp (t:=7) (by simpa using hb);rw[kk]at c1;simp only[ae,seval,c5];refine dk ?_;simp only[ae,seval];refine(FZ kl (by omega) hf c1 c3 nh).mono ?_;rintro v6 h6⟨rfl,rfl⟩;have hln:=pX vW (p.getD x.A.toNat aX.zero).a;simp only[ae,seval,c5];refine aj rfl (Og (bM p (p.getD x.A.toNat aX.zero).a) hln) ?_;rintro v7 h7⟨rfl,rfl⟩;have hd:decide (x.B≤((dq (bM p (p.getD x.A.toNat aX.zero).a):Nat):Int))=decide (x.B≤(dq (kM p x.A):Int)):=decide_eq_decide.2 (by unfold kM;omega);rw[Bool.true_and,←hd];simp only[ae,seval,c5]
   first|exact iG.trans e4|exact⟨iG.trans e4,rfl⟩
 rw[show fe x.op x.A x.B p=true by unfold fe;rw[av9 (by omega),av9 (by omega),av9 (by omega),av9 (by omega),av9 (by omega),av9 (by omega),av9 (by omega),av9 (by omega),av9 (by omega)]];simp(disch:=omega)only[dP,ae,seval,va];exact iG
end
end
section
section
variable{x:In}{ak bk:Option Addr}{nk ck nb cb:Nat}{p:List aX}{vp:Value}
theorem QF(s:az):dc s true=3↔s=[60,99,108,105,110,105,116,62]:=by
 unfold dc;by_cases h1:s=[60,105,110,105,116,62]
 ·subst h1;decide
 by_cases h2:s=[60,99,108,105,110,105,116,62]
 ·subst h2;decide
 rw[av9 (by simp[h1]),av9 (by simp[h2])];constructor
 ·intro h;split at h<;>cases h
 ·intro h;exact aww h h2
theorem acD(s:az):dc s true=2↔s=[60,105,110,105,116,62]:=by
 unfold dc;by_cases h1:s=[60,105,110,105,116,62]
 ·subst h1;decide
 by_cases h2:s=[60,99,108,105,110,105,116,62]
 ·subst h2;decide
 rw[av9 (by simp[h1]),av9 (by simp[h2])];constructor
 ·intro h;split at h<;>cases h
 ·intro h;exact aww h h1
theorem AV{h:ar}(k:Nat)(hs:fR h 5 vp p.length (du p)):
 aF Tryz.prog 104 #[vp,ao k] h fun v h'=>h'=h∧v= .tuple #[str (bM p k), .bool (eV p k 1)]:=AL k hs
theorem MO{h:ar}(hA0:0≤x.A)(hAl:x.A.toNat<p.length)(hf:∀c∈p,c.Fit)(vW:∀c∈p,c.text.length≤4294967296)(hs:fR h 5 vp p.length (du p)):
 aF Tryz.prog 330 #[tF x ak bk nk ck nb cb,vp] h fun v h'=>Ext h h'∧v= .bool (pe x.op x.B p (p.getD x.A.toNat aX.zero).b):=by
 have hs':=hs;obtain⟨_,a,c,rfl,_⟩:=hs';refine Cw (args:=[tF x ak bk nk ck nb cb, .slice a p.length c]) rfl ?_;simp only[db,ae,seval];refine cT ?_;have q0:(h.push (kH x ak bk nk ck nb cb))[h.size]? =some (kH x ak bk nk ck nb cb):=by simp
 have E1:=Ext.push h (kH x ak bk nk ck nb cb);simp only[db,ae,seval];generalize h.push _=h1,h.size=q at*;have xW:=hs.ext (by decide) E1;have q1:cellAt h1 ⟨q,1,none⟩=some (bH x.op):=by rw[au q0];rfl
 have q3:cellAt h1 ⟨q,3,none⟩=some (ao x.A):=by rw[au q0];rfl
 obtain⟨b0,o0,c0',apV,tG,_⟩:=xW.at hAl;cases apV;rw[iu hAl]at tG;have Yv:=hf (p.getD x.A.toNat aX.zero) (by simp[hAl]);generalize p.getD x.A.toNat aX.zero=z at*;obtain⟨b,hb⟩:∃b,b=z.b:=⟨_,rfl⟩;have r4:cellAt h1 ⟨b0,o0+x.A.toNat*5+4,none⟩=some (ax b):=by rw[hb];exact tG 4 _ rfl
 have hb6:b<65536:=by rw[hb];exact Yv.b
 rw[←hb];have l1:x.A<(p.length:Int):=by omega
 have w1:IntKind.i64.wrap (b:Int)=(b:Int):=wrap_i64 (by omega) (by omega);simp(disch:=omega)only[db,ae,seval,q3,r4,w1];refine aj rfl (zH b 12 xW) ?_;rintro v3 h3⟨rfl,rfl⟩;unfold pe;cases xV:eV p b 12 with
 |false=>
  simp only[db,ae,seval];exact⟨E1,rfl⟩
 |true=>
  obtain⟨_,kO⟩:=sf xV;have apT:(b:Int)<(p.length:Int):=by omega
  have Pw:(0:Int)≤(b:Int):=by omega
  obtain⟨bb,oo,cc,fD,di,_⟩:=xW.at kO;cases fD;rw[iu kO]at di;have RF:=hf (p.getD b aX.zero) (by simp[kO]);generalize p.getD b aX.zero=y at*;have c3:cellAt h3 ⟨b0,o0+b*5+3,none⟩=some (ax y.a):=di 3 _ rfl;have c4:cellAt h3 ⟨b0,o0+b*5+4,none⟩=some (ax y.b):=di 4 _ rfl;have w3:IntKind.i64.wrap (y.a:Int)=(y.a:Int):=by have:=RF.a;exact wrap_i64 (by omega) (by omega)
  have w4:IntKind.i64.wrap (y.b:Int)=(y.b:Int):=by have:=RF.b;exact wrap_i64 (by omega) (by omega)
  simp(disch:=omega)only[db,ae,seval,c3,w3];refine aj rfl (AV y.a xW) ?_;rintro v4 h4⟨rfl,rfl⟩;simp(disch:=omega)only[db,ae,seval,c4,w4];refine aj rfl (AV y.b xW) ?_;rintro v5 h5⟨rfl,rfl⟩;have lb:=pX vW y.b;generalize eV p y.a 1=i1,eV p y.b 1=i2,bM p y.a=na,bM p y.b=nd at*;simp only[db,ae,seval];refine aj rfl (tP nd lb) ?_;rintro v7 h7⟨pQ,hm⟩;obtain⟨sv,rfl,zN⟩:=jX hm;have q7:=ay pQ q0 awx;have Cm:cellAt h7 ⟨q,1,none⟩=some (bH x.op):=by rw[au q7];rfl
  have UQ:cellAt h7 ⟨q,4,none⟩=some (ao x.B):=by rw[au q7];rfl
  have hx:=E1.trans pQ;have AU:=ML nd;generalize mT nd=ts,(fV nd).isSome=ok at*;have YO:=zN;obtain⟨a9,c9,rfl,_⟩:=YO;rw[awk];simp only[db,ae,seval];refine aG [2,6,12,13,55,56,57] (fun m ρ hc=>∃i:Nat,m=ts.length-i∧i≤ts.length∧
   ρ=[(2,aE q),(6,str na),(12, .bool ok),(13,ao ((1+dB (ts.take i):Nat):Int)),(55, .slice a9 ts.length c9),(56,ao ts.length),(57,ao i)]∧hc=h7) ?_ ?_
  ·simp only[ae,seval]
   exact⟨_,0,rfl,awb _,rfl⟩
  rintro m ρ hc⟨i,rfl,hi,rfl,rfl⟩;by_cases aV:i<ts.length
  ·have aK:(i:Int)<(ts.length:Int):=by omega
   obtain⟨b1,o1,td,fD,_,eR⟩:=zN.at (i:=i) (by simpa using aV);rw[awk]at fD;cases fD;have e1:cellAt hc ⟨b1,o1+i,none⟩=some (str (ts.getD i [])):=by rw[eR];simp[aV]
   have gl:ts.take (i+1)=ts.take i++[ts.getD i []]:=by rw[List.take_add_one];simp[aV]
   have pB:=tT (ts:=ts) i;generalize ts.getD i []=t at*;have MK:=rH t;have w1:=gU (k:=i) (by omega);have w2:IntKind.i64.wrap (((1+dB (ts.take i):Nat):Int)+(mf t:Int))=((1+dB (ts.take (i+1)):Nat):Int):=by
    rw[gl,qI,wrap_i64 (by omega) (by omega)];omega
   simp(disch:=omega)only[db,ae,seval,aK,e1,];refine aj rfl (FX t) ?_;rintro v9 h9⟨rfl,rfl⟩;simp only[db,ae,seval,w1,w2];exact⟨ts.length-(i+1),by omega,i+1,rfl,by omega,rfl⟩
  have aK:¬(i:Int)<(ts.length:Int):=by omega
  rw[List.take_of_length_le (show ts.length≤i by omega)];have k3:=QF na;have k2:=acD na;by_cases n3:na=[60,99,108,105,110,105,116,62]
  ·rw[show(true&&(!(decide (dc na true=3)||(decide (dc na true=2)&&decide (x.op≠183)))&&(ok&&(decide (x.op≠185)||decide (((1+dB ts:Nat):Int)=x.B)))))=false by simp[k3.2 n3]]
   simp only[db,ae,seval,aK,av8 n3,];exact hx
  by_cases n2:na=[60,105,110,105,116,62]∧x.op≠183
  ·have o1:¬(x.op:Int)=183:=by omega
   rw[show(true&&(!(decide (dc na true=3)||(decide (dc na true=2)&&decide (x.op≠183)))&&(ok&&(decide (x.op≠185)||decide (((1+dB ts:Nat):Int)=x.B)))))=false by simp[k2.2 n2.1,n2.2]];simp only[db,ae,seval,aK,Cm,av7 n3,av8 n2.1,av7 o1,];exact hx
  rw[show(true&&(!(decide (dc na true=3)||(decide (dc na true=2)&&decide (x.op≠183)))&&(ok&&(decide (x.op≠185)||decide (((1+dB ts:Nat):Int)=x.B)))))=(ok&&(decide (x.op≠185)||decide (((1+dB ts:Nat):Int)=x.B))) by
   have:(decide (dc na true=2)&&decide (x.op≠183))=false:=by
    rw[Bool.and_eq_false_iff,decide_eq_false_iff_not,decide_eq_false_iff_not,k2];by_cases hn:na=[60,105,110,105,116,62]
    ·exact .inr fun h=>n2 ⟨hn,h⟩
    ·exact .inl hn
   rw[this,awg (fun h=>n3 (k3.1 h))];rfl]
  by_cases m2:na=[60,105,110,105,116,62]
  ·have o1:(x.op:Int)=183:=by
    by_cases ho:x.op=183
    ·omega
    ·exact aww ⟨m2,ho⟩ n2
   cases ok with
   |false=>
    simp only[db,ae,seval,aK,Cm,av7 n3,av8 m2,av8 o1,];exact⟨hx,rfl⟩
   |true=>
    by_cases Ga:x.op=185
    case neg=>
     have o2:¬(x.op:Int)=185:=by omega
     rw[show(true&&(decide (x.op≠185)||decide (((1+dB ts:Nat):Int)=x.B)))=true by simp[Ga]];simp only[db,ae,seval,aK,Cm,av7 n3,av8 m2,av8 o1,av7 o2,];exact hx
    have o2:(x.op:Int)=185:=by omega
    rw[show(true&&(decide (x.op≠185)||decide (((1+dB ts:Nat):Int)=x.B)))=decide (((1+dB ts:Nat):Int)=x.B) by simp[Ga]];simp only[db,ae,seval,aK,Cm,UQ,av7 n3,av8 m2,av8 o1,av8 o2,];exact hx
  ·skip
   cases ok with
   |false=>
    simp only[db,ae,seval,aK,av7 n3,av7 m2,];exact⟨hx,rfl⟩
   |true=>
    by_cases Ga:x.op=185
    case neg=>
     have o2:¬(x.op:Int)=185:=by omega
     rw[show(true&&(decide (x.op≠185)||decide (((1+dB ts:Nat):Int)=x.B)))=true by simp[Ga]];simp only[db,ae,seval,aK,Cm,av7 n3,av7 m2,av7 o2,];exact hx
    have o2:(x.op:Int)=185:=by omega
    rw[show(true&&(decide (x.op≠185)||decide (((1+dB ts:Nat):Int)=x.B)))=decide (((1+dB ts:Nat):Int)=x.B) by simp[Ga]];simp only[db,ae,seval,aK,Cm,UQ,av7 n3,av7 m2,av8 o2,];exact hx
theorem KN{h:ar}(l:az)(hl:l.length≤4294967296):aF Tryz.prog 331 #[str l] h fun v h'=>h'=h∧v=ao (dq l:Nat):=by
 refine Hl (args:=[str l]) rfl ?_;simp only[ny,ae,seval];refine aG [0,3] (fun m ρ hc=>∃i:Nat,m=l.length-i∧i≤l.length∧ρ=[(0,str l),(3,ao i)]∧hc=h∧dq l=i+dq (l.drop i)) ?_ ?_
 ·simp only[ae,seval]
  exact⟨_,0,rfl,awb _,rfl,by simp⟩
 rintro m ρ hc⟨i,rfl,hi,rfl,rfl,hn⟩;by_cases aV:i<l.length
 ·have aK:(i:Int)<(l.length:Int):=by omega
  have hd:l.drop i=l.getD i 0::l.drop (i+1):=by rw[awO aV];simp[aV]
  by_cases hb:l.getD i 0=91
  ·have ju:((l.getD i 0).toNat:Int)=91:=by rw[hb];rfl
   have w1:=gU (k:=i) (by omega);simp(disch:=omega)only[ny,ae,seval,aK,ju,w1,];refine⟨l.length-(i+1),by omega,i+1,rfl,by omega,rfl,?_⟩;rw[hn,hd,dq,awa hb];omega
  ·have ju:¬((l.getD i 0).toNat:Int)=91:=by
    intro e;apply hb;apply UInt8.toNat_inj.1;show _=91;omega
   have vh:dq l=i:=by rw[hn,hd,dq,av9 hb];rfl
   rw[vh];simp(disch:=omega)only[ny,ae,seval,aK,ju,]
 ·have mL:i=l.length:=by omega
  subst mL;have aK:¬(l.length:Int)<(l.length:Int):=by omega
  have vh:dq l=l.length:=by rw[hn,List.drop_length];rfl
  rw[vh];simp only[ny,ae,seval,aK,]
def Gb(p:List aX)(A:Int):Nat:=if 0<A∧A<(p.length:Int)then(p.getD A.toNat aX.zero).tag else 0
theorem agT(p:List aX)(A:Int)(t:Nat)(ht:t≠0):jh p A t=decide (((Gb p A:Nat):Int)=(t:Int)):=by
 unfold jh eV Gb;rw[Bool.eq_iff_iff];simp only[awm,awo]
 split
 ·constructor
  ·rintro⟨_,_,_,h⟩;omega
  ·intro h;refine⟨?_,?_,?_,?_⟩<;>omega
 ·constructor
  ·rintro⟨_,_,_,_⟩;omega
  ·intro h;omega
theorem YP{p:List aX}{A:Int}(h:jh p A 7=true):(bZ p A.toNat).1=kM p A:=by
 unfold jh at h;rw[awm]at h;unfold bZ;rw[awa h.2];rfl
theorem Wj{h:ar}(k:Int)(hf:∀c∈p,c.Fit)(hs:fR h 5 vp p.length (du p)):
 aF Tryz.prog 103 #[vp,ao k] h fun v h'=>h'=h∧v= .tuple #[str (bZ p k.toNat).1, .bool (bZ p k.toNat).2]:=by
 by_cases h0:0≤k
 ·have:=AN (vp:=vp) k.toNat hf hs
  rw[Int.toNat_of_nonneg h0]at this;exact this
 ·have hz:bZ p k.toNat=([],false):=by
   unfold bZ;rw[av9 (by rw[show k.toNat=0 by omega];simp[eV])]
  rw[hz];refine qA (args:=[vp,ao k]) rfl ?_;simp only[jy,ae,seval];refine JI rfl (aF.mono (R:=fun v h'=>h'=h∧v= .bool false) ?_ ?_)
  ·refine wj (args:=[vp,ao k,bH 7]) rfl ?_
   have h0':¬(0:Int)<k:=by omega
   have hs':=hs;obtain⟨_,a,c,rfl,_⟩:=hs';simp only[po,ae,seval,h0']
  ·rintro v1 h1⟨rfl,rfl⟩
   simp only[jy,ae,seval]
theorem RI{h0 h:ar}{gx:Nat}{a:Option Addr}{c:Nat}{u0 u17:Value}(t:Nat)(ht:t=Gb p x.A)(ht8:t<256)(rG:x.op<256)(hf:∀c∈p,c.Fit)(vW:∀c∈p,c.text.length≤4294967296)
 (hs:fR h 5 (.slice a p.length c) p.length (du p))(hx:Ext h0 h)(q0:h[gx]? =some (kH x ak bk nk ck nb cb)):
 Cd.vc Tryz.prog Hm (gP Tryz.prog [(4,none)] fun v h'=>Ext h0 h'∧v= .bool (fe x.op x.A x.B p))
  [(0,u0),(1, .slice a p.length c),(2,aE gx),(4, .bool false),(5,bH t),(6,undef),(17,u17),(32,undef),(33,undef),(46,undef),(54,undef),(61,undef),(72,undef),(81,undef),(90,undef),(99,undef),(104,undef)] h:=by
 rw[Ar];have q1:cellAt h ⟨gx,1,none⟩=some (bH x.op):=by rw[au q0];rfl
 have q3:cellAt h ⟨gx,3,none⟩=some (ao x.A):=by rw[au q0];rfl
 have q4:cellAt h ⟨gx,4,none⟩=some (ao x.B):=by rw[au q0];rfl
 have Cn:=aS gg (aN (vs:=[ao x.at',bH x.op, .bool x.wide,ao x.A,ao x.B,ao x.low, .slice ak nk ck, .slice bk nb cb]) q0) rfl;simp only[bW,ae,seval,q3];refine aj rfl (Wj x.A hf hs) ?_;rintro v1 h1⟨rfl,rfl⟩;have DT:∀k:Nat,k≠0→jh p x.A k=decide ((t:Int)=(k:Int)):=fun k hk=>by rw[ht];exact agT p x.A k hk
 have kQ:(bZ p x.A.toNat).1.length≤4294967296:=by
  unfold bZ
  split
  ·exact pX vW _
  ·simp
 have hcn:= @YP p x.A;generalize(bZ p x.A.toNat).1=nm,(bZ p x.A.toNat).2=nb2 at*;have YQ:∀k:Nat,k≠0→([k]:List Nat).any (jh p x.A)=decide ((t:Int)=(k:Int)):=fun k hk=>by simp[DT k hk]
 by_cases g0:x.op=18∨x.op=19
 case pos=>
  rw[show fe x.op x.A x.B p=([3,4,8].any (jh p x.A)) by unfold fe;rw[awa (by omega)]];rcases g0 with e|e
  all_goals
   have hr:([3,4,8]:List Nat).any (jh p x.A)=(decide ((t:Int)=3)||(decide ((t:Int)=4)||decide ((t:Int)=8))):=by simp only[List.any_cons,List.any_nil,Bool.or_false];rw[DT 3 (by decide),DT 4 (by decide),DT 8 (by decide)];rfl
   rw[hr];by_cases t3:(t:Int)=3
   case pos=>
    simp(disch:=omega)only[bW,ae,seval,q1,va]
    first|exact hx|exact⟨hx,rfl⟩|exact⟨hx,by simp[t3]⟩
   by_cases t4:(t:Int)=4
   case pos=>
    simp(disch:=omega)only[bW,ae,seval,q1,va]
    first|exact hx|exact⟨hx,rfl⟩|exact⟨hx,by simp[t4]⟩
   simp(disch:=omega)only[bW,ae,seval,q1,va]
   first|exact hx|exact⟨hx,rfl⟩|exact⟨hx,by simp[t3,t4]⟩
 by_cases g1:x.op=20
 case pos=>
  rw[show fe x.op x.A x.B p=([5,6].any (jh p x.A)) by unfold fe;rw[av9 (by omega),awa (by omega)]];have hr:([5,6]:List Nat).any (jh p x.A)=(decide ((t:Int)=5)||decide ((t:Int)=6)):=by simp only[List.any_cons,List.any_nil,Bool.or_false];rw[DT 5 (by decide),DT 6 (by decide)];rfl
  rw[hr];by_cases t5:(t:Int)=5
  case pos=>
   simp(disch:=omega)only[bW,ae,seval,q1,va]
   first|exact hx|exact⟨hx,rfl⟩|exact⟨hx,by simp[t5]⟩
  simp(disch:=omega)only[bW,ae,seval,q1,va]
  first|exact hx|exact⟨hx,rfl⟩|exact⟨hx,by simp[t5]⟩
 by_cases g2:x.op=178∨x.op=179∨x.op=180∨x.op=181
 case pos=>
  rw[show fe x.op x.A x.B p=([9].any (jh p x.A)) by unfold fe;rw[av9 (by omega),av9 (by omega),awa (by omega)]];rcases g2 with e|e|e|e
  all_goals
   have hr:([9]:List Nat).any (jh p x.A)=decide ((t:Int)=9):=by simp only[List.any_cons,List.any_nil,Bool.or_false];rw[DT 9 (by decide)];rfl
   rw[hr];simp(disch:=omega)only[bW,ae,seval,q1,va]
   first|exact hx|exact⟨hx,rfl⟩|exact⟨hx,by simp⟩
 by_cases g3:x.op=182∨x.op=183∨x.op=184
 case pos=>
  rw[show fe x.op x.A x.B p=([10].any (jh p x.A)&&pe x.op x.B p (p.getD x.A.toNat aX.zero).b) by unfold fe;rw[av9 (by omega),av9 (by omega),av9 (by omega),awa (by omega)]];rcases g3 with e|e|e
  all_goals
   rw[show([10]:List Nat).any (jh p x.A)=decide ((t:Int)=10)from YQ 10 (by decide)];by_cases tk:(t:Int)=10
   case neg=>
    rw[awg tk];simp(disch:=omega)only[bW,ae,seval,q1,va];exact⟨hx,rfl⟩
   have hA:0<x.A∧x.A<(p.length:Int):=by
    unfold Gb at ht
    split at ht
    ·assumption
    ·omega
   rw[awh tk];simp(disch:=omega)only[bW,ae,seval,q1,Cn,va];refine aj rfl (MO (ak:=ak) (bk:=bk) (nk:=nk) (ck:=ck) (nb:=nb) (cb:=cb) (x:=x) (by omega) (by omega) hf vW hs) ?_;rintro v6 h6⟨AS,rfl⟩;simp only[ae,seval]
   first|exact hx.trans AS|exact⟨hx.trans AS,rfl⟩
 by_cases g4:x.op=185
 case pos=>
  rw[show fe x.op x.A x.B p=([11].any (jh p x.A)&&pe x.op x.B p (p.getD x.A.toNat aX.zero).b) by unfold fe;rw[av9 (by omega),av9 (by omega),av9 (by omega),av9 (by omega),awa (by omega)]];rw[show([11]:List Nat).any (jh p x.A)=decide ((t:Int)=11)from YQ 11 (by decide)];by_cases tk:(t:Int)=11
  case neg=>
   rw[awg tk];simp(disch:=omega)only[bW,ae,seval,q1,va];exact⟨hx,rfl⟩
  have hA:0<x.A∧x.A<(p.length:Int):=by
   unfold Gb at ht
   split at ht
   ·assumption
   ·omega
  rw[awh tk];simp(disch:=omega)only[bW,ae,seval,q1,Cn,va];refine aj rfl (MO (ak:=ak) (bk:=bk) (nk:=nk) (ck:=ck) (nb:=nb) (cb:=cb) (x:=x) (by omega) (by omega) hf vW hs) ?_;rintro v6 h6⟨AS,rfl⟩;simp only[ae,seval]
  first|exact hx.trans AS|exact⟨hx.trans AS,rfl⟩
 by_cases g5:x.op=187
 case pos=>
  rw[show fe x.op x.A x.B p=([7].any (jh p x.A)&&decide (dq (kM p x.A)=0)) by unfold fe;rw[av9 (by omega),av9 (by omega),av9 (by omega),av9 (by omega),av9 (by omega),awa (by omega)]];rw[show([7]:List Nat).any (jh p x.A)=decide ((t:Int)=7)from YQ 7 (by decide)];by_cases tk:(t:Int)=7
  case neg=>
   rw[awg tk];simp(disch:=omega)only[bW,ae,seval,q1,va];exact⟨hx,rfl⟩
  have hn:nm=kM p x.A:=hcn (by rw[DT 7 (by decide)];exact awh tk);rw[awh tk];simp(disch:=omega)only[bW,ae,seval,q1,va];refine aj rfl (KN nm kQ) ?_;rintro v6 h6⟨rfl,rfl⟩;have hd:decide (((dq nm:Nat):Int)=0)=decide (dq (kM p x.A)=0):=decide_eq_decide.2 (by rw[←hn]<;>omega)
  rw[Bool.true_and,←hd];simp only[ae,seval]
  first|exact hx|exact⟨hx,rfl⟩
 by_cases g6:x.op=189
 case pos=>
  rw[show fe x.op x.A x.B p=([7].any (jh p x.A)&&decide (dq (kM p x.A)<255)) by unfold fe;rw[av9 (by omega),av9 (by omega),av9 (by omega),av9 (by omega),av9 (by omega),av9 (by omega),awa (by omega)]];rw[show([7]:List Nat).any (jh p x.A)=decide ((t:Int)=7)from YQ 7 (by decide)];by_cases tk:(t:Int)=7
  case neg=>
   rw[awg tk];simp(disch:=omega)only[bW,ae,seval,q1,va];exact⟨hx,rfl⟩
  have hn:nm=kM p x.A:=hcn (by rw[DT 7 (by decide)];exact awh tk);rw[awh tk];simp(disch:=omega)only[bW,ae,seval,q1,va];refine aj rfl (KN nm kQ) ?_;rintro v6 h6⟨rfl,rfl⟩;have hd:decide (((dq nm:Nat):Int)<255)=decide (dq (kM p x.A)<255):=decide_eq_decide.2 (by rw[←hn]<;>omega)
  rw[Bool.true_and,←hd];simp only[ae,seval]
  first|exact hx|exact⟨hx,rfl⟩
 by_cases g7:x.op=192∨x.op=193
 case pos=>
  rw[show fe x.op x.A x.B p=([7].any (jh p x.A)) by unfold fe;rw[av9 (by omega),av9 (by omega),av9 (by omega),av9 (by omega),av9 (by omega),av9 (by omega),av9 (by omega),awa (by omega)]];rcases g7 with e|e
  all_goals
   have hr:([7]:List Nat).any (jh p x.A)=decide ((t:Int)=7):=by simp only[List.any_cons,List.any_nil,Bool.or_false];rw[DT 7 (by decide)];rfl
   rw[hr];simp(disch:=omega)only[bW,ae,seval,q1,va]
   first|exact hx|exact⟨hx,rfl⟩|exact⟨hx,by simp⟩
 by_cases g8:x.op=197
 case pos=>
  rw[show fe x.op x.A x.B p=([7].any (jh p x.A)&&decide (x.B≤(dq (kM p x.A):Int))) by unfold fe;rw[av9 (by omega),av9 (by omega),av9 (by omega),av9 (by omega),av9 (by omega),av9 (by omega),av9 (by omega),av9 (by omega),awa (by omega)]];rw[show([7]:List Nat).any (jh p x.A)=decide ((t:Int)=7)from YQ 7 (by decide)];by_cases tk:(t:Int)=7
  case neg=>
   rw[awg tk];simp(disch:=omega)only[bW,ae,seval,q1,va];exact⟨hx,rfl⟩
  have hn:nm=kM p x.A:=hcn (by rw[DT 7 (by decide)];exact awh tk);rw[awh tk];simp(disch:=omega)only[bW,ae,seval,q1,q4,va];refine aj rfl (KN nm kQ) ?_;rintro v6 h6⟨rfl,rfl⟩;have hd:decide (x.B≤((dq nm:Nat):Int))=decide (x.B≤(dq (kM p x.A):Int)):=decide_eq_decide.2 (by rw[←hn]<;>omega)
  rw[Bool.true_and,←hd];simp only[ae,seval,q4]
  first|exact hx|exact⟨hx,rfl⟩
 rw[show fe x.op x.A x.B p=true by unfold fe;rw[av9 (by omega),av9 (by omega),av9 (by omega),av9 (by omega),av9 (by omega),av9 (by omega),av9 (by omega),av9 (by omega),av9 (by omega)]];simp(disch:=omega)only[bW,ae,seval,q1,va];exact hx
theorem TW{h:ar}(rG:x.op<256)(hf:∀c∈p,c.Fit)(vW:∀c∈p,c.text.length≤4294967296)(hs:fR h 5 vp p.length (du p)):
 aF Tryz.prog 304 #[tF x ak bk nk ck nb cb,vp] h fun v h'=>Ext h h'∧v= .bool (fe x.op x.A x.B p):=by
 have hs':=hs;obtain⟨_,a,c,rfl,_⟩:=hs';refine Aq (args:=[tF x ak bk nk ck nb cb, .slice a p.length c]) rfl ?_;simp only[bW,ae,seval];refine cT ?_;have q0:(h.push (kH x ak bk nk ck nb cb))[h.size]? =some (kH x ak bk nk ck nb cb):=by simp
 have E1:=Ext.push h (kH x ak bk nk ck nb cb);simp only[bW,ae,seval];generalize h.push _=h1,h.size=gx at*;have xW:=hs.ext (by decide) E1;have q3:cellAt h1 ⟨gx,3,none⟩=some (ao x.A):=by rw[au q0];rfl
 by_cases a0:0<x.A
 ·by_cases al:x.A<(p.length:Int)
  ·have pD:x.A.toNat<p.length:=by omega
   have ht:(p.getD x.A.toNat aX.zero).tag=Gb p x.A:=by unfold Gb;rw[awa ⟨a0,al⟩]
   have hft:=hf (p.getD x.A.toNat aX.zero) (by simp[pD]);have j8:=xW;obtain⟨b,o,c',heq,di,_⟩:=j8.at pD;cases heq;rw[iu pD]at di;generalize p.getD x.A.toNat aX.zero=y at*;have r0:cellAt h1 ⟨b,o+x.A.toNat*5,none⟩=some (bH y.tag):=di 0 _ rfl;have a0':0≤x.A:=by omega
   simp(disch:=omega)only[bW,ae,seval,q3,a0,al,r0,];exact RI y.tag ht hft.tag rG hf vW xW E1 q0
  ·have ht:0=Gb p x.A:=by unfold Gb;rw[av9 (by omega)]
   simp only[ae,seval,q3,a0,al,];exact RI 0 ht (by decide) rG hf vW xW E1 q0
 ·have ht:0=Gb p x.A:=by unfold Gb;rw[av9 (by omega)]
  simp only[ae,seval,q3,a0,];exact RI 0 ht (by decide) rG hf vW xW E1 q0
end
end
end Go.Proofs.YtmbboehmnfhjjaaGreatDoor
