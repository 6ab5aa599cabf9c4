/- The reference's names and descriptors. What Method gives, in three parts. Names of classes and members, by both. Locals of instructions, by the program and by the reference. Room for locals, by the program and by the reference. Operands of instructions, plainly, and by the program. -/
import Derived.Test.YtmbboehmnfhjjaaGreatDoorU12
import Derived.Test.YtmbboehmnfhjjaaGreatDoorU3
import Derived.Test.YtmbboehmnfhjjaaGreatDoorU11
import Derived.Test.YtmbboehmnfhjjaaGreatDoorU9
set_option maxRecDepth 100000
set_option maxHeartbeats 16000000
set_option linter.unusedSimpArgs false
set_option linter.unusedVariables false
set_option linter.defProp false
namespace Go.Proofs.YtmbboehmnfhjjaaGreatDoor
open Go.Vc
theorem oY{h:ar}(l cs:az)(hl:l.length≤4294967296)(lQ:cs.length≤1000):aF Tryz.prog 193 #[str l,str cs] h fun v h'=>h'=h∧v= .bool (without cs l):=by
 refine As (args:=[str l,str cs]) rfl ?_;simp only[iH,ae,seval];refine aG [0,1,5] (fun m ρ hc=>∃i:Nat,m=l.length-i∧i≤l.length∧ρ=[(0,str l),(1,str cs),(5,ao i)]∧hc=h∧∀j,j<i→l.getD j 0∉cs) ?_ ?_
 ·simp only[ae,seval]
  exact⟨_,0,rfl,awb _,rfl,fun j hj=>aww hj (awq _)⟩
 rintro m ρ hc⟨i,rfl,hi,rfl,rfl,hn⟩;by_cases aV:i<l.length
 ·have aK:(i:Int)<(l.length:Int):=by omega
  have w1:=gU (k:=i) (by omega);simp only[iH,ae,seval,aK,];refine aG [0,1,5,6] (fun m ρ hc'=>∃k:Nat,m=cs.length-k∧k≤cs.length∧ρ=[(0,str l),(1,str cs),(5,ao i),(6,ao k)]∧hc'=hc∧∀j,j<k→cs.getD j 0≠l.getD i 0) ?_ ?_
  ·simp only[ae,seval]
   exact⟨_,0,rfl,awb _,rfl,fun j hj=>aww hj (awq _)⟩
  rintro m ρ hc'⟨k,rfl,hk,rfl,rfl,mX⟩;by_cases hkt:k<cs.length
  ·have acA:(k:Int)<(cs.length:Int):=by omega
   have w2:=gU (k:=k) (by omega);by_cases hb:cs.getD k 0=l.getD i 0
   ·have ju:((l.getD i 0).toNat:Int)=((cs.getD k 0).toNat:Int):=by rw[hb]
    simp(disch:=omega)only[iH,ae,seval,acA,ju,];have pP:l.getD i 0∈cs:=by rw[←hb];simp[hkt]
    rw[without,AO aV pP];simp
   ·have ju:¬((l.getD i 0).toNat:Int)=((cs.getD k 0).toNat:Int):=by
     intro e;apply hb;apply UInt8.toNat_inj.1;omega
    simp(disch:=omega)only[iH,ae,seval,acA,ju,w2,];refine⟨cs.length-(k+1),by omega,k+1,rfl,by omega,rfl,fun j hj=>?_⟩;rcases Nat.lt_or_ge j k with h1|h1
    ·exact mX j h1
    ·rw[show j=k by omega];exact hb
  ·have acA:¬(k:Int)<(cs.length:Int):=by omega
   simp only[iH,ae,seval,acA,w1,];refine⟨l.length-(i+1),by omega,i+1,rfl,by omega,rfl,fun j hj=>?_⟩;rcases Nat.lt_or_ge j i with h1|h1
   ·exact hn j h1
   ·rw[show j=i by omega]
    intro pP;obtain⟨q,hq,he⟩:=List.getElem_of_mem pP;apply mX q (by omega);simp only[awu,awJ hq,Option.getD_some,he]
 ·have aK:¬(i:Int)<(l.length:Int):=by omega
  simp only[iH,ae,seval,aK,];rw[without,xU (fun j hj=>hn j (by omega))];simp
theorem KJ{h:ar}(l:az)(hl:l.length≤4294967296):aF Tryz.prog 111 #[str l] h fun v h'=>h'=h∧v= .bool (eJ l):=by
 refine Hq (args:=[str l]) rfl ?_;simp only[gu,ae,seval];refine aG [0,3,4] (fun m ρ hc=>∃i a:Nat,m=l.length+1-i∧i≤l.length+1∧ρ=[(0,str l),(3,ao a),(4,ao i)]∧hc=h∧a≤i∧
  (i≤l.length→eJ l=vg ((l.take i).drop a) (l.drop i))∧(i=l.length+1→eJ l=true)) ?_ ?_
 ·simp only[ae,seval]
  exact⟨_,0,0,rfl,awb _,rfl,awp _,fun _=>by simp[eJ],fun h=>by omega⟩
 rintro m ρ hc⟨i,a,rfl,hi,rfl,rfl,hai,h1,h2⟩;have w1:=gU (k:=i) (by omega);by_cases hgt:i=l.length+1
 ·have hle:¬(i:Int)≤(l.length:Int):=by omega
  rw[h2 hgt];simp only[gu,ae,seval,hle]
 have hle:(i:Int)≤(l.length:Int):=by omega
 have hp:=h1 (by omega);have avb:(a:Int)≤(i:Int):=by omega
 by_cases aV:i<l.length
 ·have aK:(i:Int)<(l.length:Int):=by omega
  have cN:¬(i:Int)=(l.length:Int):=by omega
  have hd:l.drop i=l.getD i 0::l.drop (i+1):=by rw[awO aV];simp[aV]
  rw[hd,YE]at hp;by_cases hb:l.getD i 0=47
  ·have ju:((l.getD i 0).toNat:Int)=47:=by rw[hb];rfl
   rw[awa hb]at hp;simp(disch:=omega)only[gu,ae,seval,hle,cN,ju,];refine aj rfl (oY ((l.take i).drop a) A3 (by simp;omega) (by decide)) ?_;rintro v1 h3⟨rfl,rfl⟩;cases hw:without A3 ((l.take i).drop a)with
   |false=>
    rw[hw]at hp;simp only[gu,ae,seval];rw[hp];rfl
   |true=>
    rw[hw,Bool.true_and]at hp;simp only[gu,ae,seval,w1];refine⟨l.length+1-(i+1),by omega,i+1,i+1,rfl,by omega,rfl,awp _,fun _=>?_,fun h=>by omega⟩;have zM:(l.take (i+1)).drop (i+1)=[]:=List.drop_eq_nil_of_le (by rw[awz];omega);rw[hp,zM]
  ·have ju:¬((l.getD i 0).toNat:Int)=47:=by
    intro e;apply hb;apply UInt8.toNat_inj.1;show _=47;omega
   rw[av9 hb]at hp;simp(disch:=omega)only[gu,ae,seval,hle,cN,ju,w1,];refine⟨l.length+1-(i+1),by omega,i+1,a,rfl,by omega,rfl,by omega,fun _=>?_,fun h=>by omega⟩;rw[hp,List.take_add_one]
   congr 1
   rw[List.drop_append,show a-(l.take i).length=0 by rw[awz];omega];simp[aV]
 ·have mL:(i:Int)=(l.length:Int):=by omega
  obtain rfl:i=l.length:=by omega
  rw[List.drop_length,aa8,List.take_length]at hp;simp(disch:=omega)only[gu,ae,seval,hle,];rw[List.take_length];refine aj rfl (oY (l.drop a) A3 (by rw[aws];omega) (by decide)) ?_;rintro v1 h3⟨rfl,rfl⟩;cases hw:without A3 (l.drop a)with
  |false=>
   rw[hw]at hp;simp only[gu,ae,seval];rw[hp]
  |true=>
   rw[hw]at hp;simp only[gu,ae,seval,w1];exact⟨l.length+1-(l.length+1),by omega,l.length+1,l.length+1,rfl,by omega,rfl,awp _,fun h=>by omega,fun _=>hp⟩
def YK(l:az)(d:Nat)(v:Value):Prop:=∃t r,v= .tuple #[str t,str r, .bool (jc l d).isSome]∧t.length≤l.length∧∀m,jc l d=some m→t=l.take m∧r=l.drop m
theorem amz{l:az}{c:UInt8}{i:Nat}(hi:i<l.length)(hc:l.getD i 0=c)(hn:∀j,j<i→l.getD j 0≠c):ib l c=(i:Int):=by
 rcases ve c l with⟨_,h⟩|⟨k,hk,h1,h2,h3⟩
 ·exact aww (by rw[←hc];simp[hi]) h
 ·rw[h1]
  rcases Nat.lt_trichotomy k i with h|h|h
  ·exact aww (by simp[h2]) (hn k h)
  ·rw[h]
  ·refine aww ?_ h3
   rw[List.mem_take_iff_getElem];exact⟨i,by omega,by simpa[hi]using hc⟩
theorem Oe:∀(l:az)(d:Nat){h:ar},d≤256→l.length≤4294967296→
 aF Tryz.prog 192 #[str l,ao d] h fun v h'=>h'=h∧YK l d v
 |[],d,h,hd,hl=>by
  refine uK (args:=[str [],ao d]) rfl ?_;simp only[fZ,ae,seval,];exact⟨[],[],rfl,awb _,fun m hm=>by cases hm⟩
 |b::r,d,h,hd,hl=>by
  refine uK (args:=[str (b::r),ao d]) rfl ?_;have hr:r.length≤4294967296:=by simp at hl;omega
  have ne:¬b::r=[]:=by simp
  have lp:(0:Int)<(((b::r).length:Nat):Int):=by rw[awy];omega
  by_cases Pt:255<d
  ·have g1:(255:Int)<(d:Int):=by omega
   simp only[fZ,ae,seval,ne,g1,];have ho:jc (b::r) d=none:=by rw[jc,awa Pt]
   unfold YK;rw[ho];exact⟨[],[],rfl,awb _,fun m hm=>by cases hm⟩
  have g1:¬(255:Int)<(d:Int):=by omega
  have b0:((b::r).getD 0 0)=b:=rfl;by_cases hm:b∈B8
  ·have ho:jc (b::r) d=some 1:=by
    rw[jc,av9 Pt,av9 (by rintro rfl;revert hm;decide),rm,awa hm]
   have AR:(1:Int)≤(((b::r).length:Nat):Int):=by rw[awy];omega
   have fin:∃t r',Value.tuple #[str ((b::r).take 1),str ((b::r).drop 1), .bool true]= .tuple #[str t,str r', .bool (jc (b::r) d).isSome]∧t.length≤(b::r).length∧∀m,jc (b::r) d=some m→t=(b::r).take m∧r'=(b::r).drop m:=by
    rw[ho];exact⟨_,_,rfl,by simp,fun m hm=>by cases hm;exact⟨rfl,rfl⟩⟩
   have hb:(b.toNat:Int)=66∨(b.toNat:Int)=67∨(b.toNat:Int)=68∨(b.toNat:Int)=70∨(b.toNat:Int)=73∨(b.toNat:Int)=74∨(b.toNat:Int)=83∨(b.toNat:Int)=90:=by
    simp only[B8,awL,awP,aw6]at hm;rcases hm with rfl|rfl|rfl|rfl|rfl|rfl|rfl|rfl<;>decide
   rcases hb with e|e|e|e|e|e|e|e
   all_goals
    simp(disch:=omega)only[fZ,ae,seval,ne,g1,b0,e,Int.reduceEq,];exact fin
  have e66:¬(b.toNat:Int)=66:=by intro e;apply hm;rw[show b=66 by apply UInt8.toNat_inj.1;show _=66;omega];decide
  have e67:¬(b.toNat:Int)=67:=by intro e;apply hm;rw[show b=67 by apply UInt8.toNat_inj.1;show _=67;omega];decide
  have e68:¬(b.toNat:Int)=68:=by intro e;apply hm;rw[show b=68 by apply UInt8.toNat_inj.1;show _=68;omega];decide
  have e70:¬(b.toNat:Int)=70:=by intro e;apply hm;rw[show b=70 by apply UInt8.toNat_inj.1;show _=70;omega];decide
  have e73:¬(b.toNat:Int)=73:=by intro e;apply hm;rw[show b=73 by apply UInt8.toNat_inj.1;show _=73;omega];decide
  have e74:¬(b.toNat:Int)=74:=by intro e;apply hm;rw[show b=74 by apply UInt8.toNat_inj.1;show _=74;omega];decide
  have e83:¬(b.toNat:Int)=83:=by intro e;apply hm;rw[show b=83 by apply UInt8.toNat_inj.1;show _=83;omega];decide
  have e90:¬(b.toNat:Int)=90:=by intro e;apply hm;rw[show b=90 by apply UInt8.toNat_inj.1;show _=90;omega];decide
  by_cases KL:b=91
  ·subst KL
   have AR:(1:Int)≤(((91::r:az).length:Nat):Int):=by rw[awy];omega
   have w1:=gU (k:=d) (by omega);have hdr:(91::r:az).drop 1=r:=rfl;simp(disch:=omega)only[fZ,ae,seval,ne,g1,hdr,w1,b0,Int.reduceEq,];refine aj rfl (Oe r (d+1) (by omega) hr) ?_;rintro v1 h1⟨rfl,t,r',rfl,KM,hv⟩;have apO:([91]:az).length+t.length≤9223372036854775807:=by rw[awt];omega
   simp only[fZ,ae,seval,tN apO];have ho:jc (91::r) d=(jc r (d+1)).map (·+1):=by rw[jc,av9 Pt,awa rfl]
   unfold YK;rw[ho,Option.isSome_map];refine⟨[91]++t,r',rfl,by simp;exact KM,fun m hm=>?_⟩;cases hq:jc r (d+1)with
   |none=>rw[hq]at hm;cases hm
   |some k=>
    rw[hq]at hm;cases hm;obtain⟨rfl,rfl⟩:=hv k hq;exact⟨rfl,rfl⟩
  have e91:¬(b.toNat:Int)=91:=by intro e;apply KL;apply UInt8.toNat_inj.1;show _=91;omega
  have ho:jc (b::r) d=rm (b::r):=by rw[jc,av9 Pt,av9 KL]
  by_cases sK:b=76
  ·subst sK
   have hoL:jc (76::r) d=if ib (76::r) 59<0 then none else if eJ (((76::r).take (ib (76::r) 59).toNat).drop 1)then some ((ib (76::r) 59).toNat+1)else none:=by
    rw[ho,rm,av9 hm,awa rfl]
   have l0:((76::r:az).getD 0 0)=76:=rfl;have AR:1≤(76::r:az).length:=by rw[awy];omega
   generalize 76::r=l at*;simp(disch:=omega)only[fZ,ae,seval,ne,g1,b0,Int.reduceEq,];refine aG [0,10] (fun m ρ hc=>∃i:Nat,m=l.length-i∧1≤i∧i≤l.length∧ρ=[(0,str l),(10,ao i)]∧hc=h∧∀j,j<i→l.getD j 0≠59) ?_ ?_
   ·simp only[ae,seval]
    refine⟨_,1,rfl,awp _,AR,rfl,fun j hj=>?_⟩;rw[show j=0 by omega,l0];decide
   rintro m ρ hc⟨i,rfl,hi1,hi,rfl,rfl,hn⟩;have w1:=gU (k:=i) (by omega);by_cases aV:i<l.length
   ·have aK:(i:Int)<(l.length:Int):=by omega
    by_cases h59:l.getD i 0=59
    ·have ju:((l.getD i 0).toNat:Int)=59:=by rw[h59];rfl
     have k1:((i+1:Nat):Int)≤(l.length:Int):=by omega
     have k2:(1:Int)≤(i:Int):=by omega
     have k3:(i:Int)≤(l.length:Int):=by omega
     simp(disch:=omega)only[fZ,ae,seval,aK,ju,w1,];refine aj rfl (KJ ((l.take i).drop 1) (by rw[aws,awz];omega)) ?_;rintro v1 h1⟨rfl,rfl⟩;have qY:=amz aV h59 hn;have n0:¬(i:Int)<0:=by omega
     rw[qY,av9 n0,Int.toNat_natCast]at hoL;have fin:∃t r',Value.tuple #[str (l.take (i+1)),str (l.drop (i+1)), .bool (eJ ((l.take i).drop 1))]= .tuple #[str t,str r', .bool (jc l d).isSome]∧t.length≤l.length∧∀m,jc l d=some m→t=l.take m∧r'=l.drop m:=by
      rw[hoL];cases eJ ((l.take i).drop 1)with
      |false=>exact⟨_,_,rfl,by rw[awz];omega,fun m hm=>by cases hm⟩
      |true=>exact⟨_,_,rfl,by rw[awz];omega,fun m hm=>by cases hm;exact⟨rfl,rfl⟩⟩
     simp(disch:=omega)only[ae,seval,w1,];exact fin
    ·have ju:¬((l.getD i 0).toNat:Int)=59:=by
      intro e;apply h59;apply UInt8.toNat_inj.1;show _=59;omega
     simp(disch:=omega)only[fZ,ae,seval,aK,ju,w1,];refine⟨l.length-(i+1),by omega,i+1,rfl,by omega,by omega,rfl,fun j hj=>?_⟩;rcases Nat.lt_or_ge j i with h1|h1
     ·exact hn j h1
     ·rw[show j=i by omega];exact h59
   ·have aK:¬(i:Int)<(l.length:Int):=by omega
    have mX:(59:UInt8)∉l:=by
     intro pP;obtain⟨q,hq,he⟩:=List.getElem_of_mem pP;apply hn q (by omega);simp only[awu,awJ hq,Option.getD_some,he]
    simp only[fZ,ae,seval,aK,];unfold YK;rw[hoL,YD mX];exact⟨[],[],rfl,awb _,fun m hm=>by cases hm⟩
  have e76:¬(b.toNat:Int)=76:=by intro e;apply sK;apply UInt8.toNat_inj.1;show _=76;omega
  simp(disch:=omega)only[fZ,ae,seval,ne,g1,b0,e66,e67,e68,e70,e73,e74,e83,e90,e91,e76,];unfold YK;rw[ho,rm,av9 hm,av9 sK];exact⟨[],[],rfl,awb _,fun m hm=>by cases hm⟩
theorem lD{h:ar}(l:az)(hl:l.length≤4294967296):aF Tryz.prog 110 #[str l] h fun v h'=>h'=h∧v= .bool (cG l):=by
 refine Ei (args:=[str l]) rfl ?_;simp only[pJ,ae,seval];refine aj rfl (Oe l 0 (by decide) hl) ?_;rintro v1 h1⟨rfl,t,r,rfl,_,hv⟩;cases ho:jc l 0 with
 |none=>
  rw[show cG l=false by unfold cG;rw[ho];rfl];simp only[pJ,ae,seval,Option.isSome_none]
 |some m=>
  obtain⟨rfl,rfl⟩:=hv m ho;rw[Wa ho];simp only[pJ,ae,seval]
theorem FX{h:ar}(l:az):aF Tryz.prog 182 #[str l] h fun v h'=>h'=h∧v=ao (mf l:Nat):=by
 refine Ej (args:=[str l]) rfl ?_;unfold mf;have q1:¬([74]:az)=[86]:=by decide
 have q2:¬([68]:az)=[86]:=by decide
 have q3:¬([86]:az)=[74]:=by decide
 have q4:¬([86]:az)=[68]:=by decide
 have q5:¬([68]:az)=[74]:=by decide
 by_cases h1:l=[86]
 ·subst h1
  simp(disch:=omega)only[mC,ae,↓reduceIte,Nat.reduceEqDiff,reduceCtorEq,Nat.reduceLeDiff,Nat.reducePow,Int.reducePow,Int.reduceToNat,Nat.reduceAdd,av7 q1,av7 q2,av7 q3,av7 q4,awY,awZ];rfl
 by_cases h2:l=[74]
 ·subst h2
  simp(disch:=omega)only[mC,ae,seval,av7 q1,av7 q2,av7 q3,av7 q4,awY,awZ];rfl
 by_cases h3:l=[68]
 ·subst h3
  simp(disch:=omega)only[mC,ae,seval,av7 q1,av7 q2,av7 q5,av7 q4,awY,awZ];rfl
 rw[av9 h1,av9 (by simp[h2,h3])];simp(disch:=omega)only[mC,ae,↓reduceIte,Nat.reduceEqDiff,reduceCtorEq,Nat.reduceLeDiff,Nat.reducePow,Int.reducePow,Int.reduceToNat,Nat.reduceAdd,h1,h2,h3,av7 h1,av7 h2,av7 h3,awZ];rfl
theorem tP{h:ar}(s:az)(hl:s.length≤4294967296):aF Tryz.prog 138 #[str s] h fun v h'=>Ext h h'∧FW s v h':=by
 refine CH (args:=[str s]) rfl ?_;by_cases cN:s=[]
 ·subst cN
  simp only[dM,ae,seval,];exact⟨Ext.refl _,rfl⟩
 have pT:1≤s.length:=awr.2 cN;have lp0:(0:Int)<(s.length:Int):=by omega
 by_cases hh:s.head?=some 40
 ·have hm:fV s=ng (zJ s.length (s.drop 1) [] 0):=by unfold fV;rw[awa hh]
  have g0:((s.getD 0 0).toNat:Int)=40:=(iY cN 40).1 hh;unfold FW;rw[hm];have g1:(1:Int)≤(s.length:Int):=by omega
  simp(disch:=omega)only[dM,ae,seval,cN,g0,];generalize hR:zJ s.length (s.drop 1) [] 0=R;refine aG [0,5,6] (fun m ρ hc=>∃(l:az)(ts:List (az))(sl:Nat)(out:Value),m=l.length∧ρ=[(0,str l),(5,out),(6,ao sl)]∧
   Own hc h.size 9 1 out ts.length (ts.map str)∧Ext h hc∧l.length+ts.length≤s.length∧sl≤2*ts.length∧∃f,l.length<f∧zJ f l ts sl=R) ?_ ?_
  ·simp only[ae,seval]
   exact⟨_,s.drop 1,[],0,_,rfl,rfl,Own.nil,Ext.refl _,by simp,by simp,s.length,by simp;omega,hR⟩
  rintro m ρ hc⟨l,ts,sl,out,rfl,rfl,gQ,hx,hlen,pB,f,hf,my⟩;obtain⟨f,rfl⟩:∃k,f=k+1:=⟨f-1,by omega⟩;rw[zJ]at my;by_cases he:l=[]
  ·subst he
   rw[awa (.inl rfl)]at my;subst my;simp only[dM,ae,seval,];exact⟨hx,by simp[ng]⟩
  have hlp:(0:Int)<(l.length:Int):=by have:=awr.2 he;omega
  have AR:(1:Int)≤(l.length:Int):=by omega
  by_cases Ru:l.head?=some 41
  ·have g2:((l.getD 0 0).toNat:Int)=41:=(iY he 41).1 Ru
   rw[awa (.inr Ru)]at my;subst my;by_cases Rv:254<sl
   ·have g3:(254:Int)<(sl:Int):=by omega
    simp(disch:=omega)only[dM,ae,seval,he,g2,g3,];exact⟨hx,by simp[ng,Rv]⟩
   have g3:¬(254:Int)<(sl:Int):=by omega
   have hVV:l=[41,86]↔l.drop 1=[86]:=by
    constructor
    ·rintro rfl;rfl
    ·intro e
     cases l with
     |nil=>exact aww rfl he
     |cons b r=>
      simp only[List.head?_cons,awe]at Ru;simp only[List.drop_succ_cons,axd]at e;rw[Ru,e]
   by_cases hV:l.drop 1=[86]
   ·have hV':=hVV.2 hV
    simp(disch:=omega)only[dM,ae,seval,he,g2,g3,av8 hV',];refine⟨hx,?_⟩;simp only[ng,he,hV,Rv,aw7,ne_eq,not_true_eq_false,false_and,aw1];exact⟨_,rfl,gQ.sl⟩
   ·have hV':¬l=[41,86]:=fun x=>hV (hVV.1 x)
    simp(disch:=omega)only[dM,ae,seval,he,g2,g3,av7 hV',];refine aj rfl (lD (l.drop 1) (by rw[aws];omega)) ?_;rintro v2 h2⟨rfl,rfl⟩;cases KI:cG (l.drop 1)with
    |true=>
     simp(disch:=omega)only[dM,ae,seval];refine⟨hx,?_⟩;simp only[ng,he,hV,Rv,KI,aw7,ne_eq,not_false_eq_true,aw5,Bool.true_eq_false,aw1];exact⟨_,rfl,gQ.sl⟩
    |false=>
     simp only[dM,ae,seval];refine⟨hx,?_⟩;rw[show ng (some (ts,sl,l))=none by unfold ng;simp only[];rw[awa (.inr (.inr ⟨hV,KI⟩))]]
     trivial
  ·have g2:¬((l.getD 0 0).toNat:Int)=41:=fun x=>Ru ((iY he 41).2 x)
   rw[av9 (by simp[he,Ru])]at my;simp(disch:=omega)only[dM,ae,seval,he,g2,];refine aj rfl (Oe l 0 (by decide) (by omega)) ?_;rintro v2 h2⟨rfl,t,r,rfl,_,hv⟩;cases ho:jc l 0 with
   |none=>
    rw[ho]at my;subst my;simp only[dM,ae,seval,Option.isSome_none,];exact⟨hx,by simp[ng]⟩
   |some k=>
    rw[ho]at my;have hk:=FQ ho;obtain⟨ht,hr⟩:=hv k ho;have vb:r.length=l.length-k:=by rw[hr,aws]
    simp only[]at my;rw[←ht,←hr]at my;have MK:=rH t;have w1:IntKind.i64.wrap ((sl:Int)+(mf t:Int))=((sl+mf t:Nat):Int):=by rw[wrap_i64 (by omega) (by omega)];omega
    simp only[dM,ae,seval,];refine aU dE rfl rfl (by decide) ?_;simp only[ae,seval];have gB:=hx.size;refine bF dE rfl rfl (gQ.push _) rfl (bV (vs:=[str t])) (by intro u hu;simp only[awf]at hu;subst hu;rfl) (by omega) (by omega) (by simp;omega) ?_;intro v' h' iV nI _;simp only[dM,ae,seval];refine aj rfl (FX t) ?_;rintro v3 h3⟨rfl,rfl⟩;simp only[dM,ae,seval,w1];refine⟨r.length,by omega,r,ts++[t],sl+mf t,v',rfl,rfl,by simpa using iV,
     Ext.app (hx.trans (Ext.push _ _)) nI (fun k hk=>by have:=(gQ.lt k hk).1;simpa using this),by rw[awn,awt];omega,by simp;omega,f,by omega,my⟩
 ·have hm:fV s=none:=by unfold fV;rw[av9 hh]
  have g0:¬((s.getD 0 0).toNat:Int)=40:=fun x=>hh ((iY cN 40).2 x);unfold FW;rw[hm];simp(disch:=omega)only[dM,ae,seval,cN,g0,];exact Ext.refl _
def mT(s:az):List (az):=match fV s with
 |none=>[]
 |some x=>x.1
def mG(s:az):az:=match fV s with
 |none=>[]
 |some x=>x.2
theorem jX{s:az}{v:Value}{h:ar}(H:FW s v h):∃sv,v= .tuple #[sv,str (mG s), .bool (fV s).isSome]∧Sl h sv ((mT s).map str):=by
 unfold FW at H;unfold mG mT;cases hm:fV s with
 |none=>
  rw[hm]at H;exact⟨_,H,none,0,rfl, .inl rfl⟩
 |some x=>
  rw[hm]at H;obtain⟨sv,rfl,hs⟩:=H;exact⟨sv,rfl,hs⟩
theorem UO:∀{f:Nat}{l:az}{ts:List (az)}{sl:Nat}{ts':List (az)}{sl':Nat}{l':az},
 zJ f l ts sl=some (ts',sl',l')→ts'.length≤ts.length+l.length
 |0,_,_,_,_,_,_,h=>by cases h
 |f+1,l,ts,sl,ts',sl',l',h=>by
  rw[zJ]at h
  split at h
  ·cases h;omega
  ·cases ho:jc l 0 with
   |none=>rw[ho]at h;cases h
   |some m=>
    rw[ho]at h;have h1:=UO h;have h2:=FQ ho;rw[awn,awt,aws]at h1;omega
theorem ML(s:az):(mT s).length≤s.length:=by
 unfold mT;cases hm:fV s with
 |none=>simp
 |some x=>
  obtain⟨ts,g⟩:=x;unfold fV at hm
  split at hm
  ·cases hr:zJ s.length (s.drop 1) [] 0 with
   |none=>rw[hr]at hm;cases hm
   |some y=>
    obtain⟨ts',sl',l'⟩:=y;rw[hr]at hm;unfold ng at hm;simp only[]at hm
    split at hm
    ·cases hm
    ·cases hm
     have:=UO hr;rw[aws,awM]at this;simp only[];omega
  ·cases hm
theorem Rx{h:ar}(l:az)(hl:l.length≤4294967296):aF Tryz.prog 43 #[str l] h fun v h'=>Ext h h'∧v= .bool (jA l):=by
 refine Ee (args:=[str l]) rfl ?_;unfold jA;simp only[pH,ae,seval];refine aj rfl (FU 91 l) ?_;rintro v1 h1⟨rfl,rfl⟩;by_cases hh:l.head?=some 91
 ·rw[awa hh,awh hh]
  simp only[pH,ae,seval];refine aj rfl (rI l hl) ?_;rintro v1 h1⟨hx,rfl⟩;simp only[ae,seval];exact hx
 ·rw[av9 hh,awg hh]
  simp only[pH,ae,seval];refine aj rfl (UM l hl) ?_;rintro v1 h1⟨hx,rfl⟩;simp only[ae,seval];exact hx
theorem tQ{h:ar}(l:az)(m:Bool)(hl:l.length≤4294967296):aF Tryz.prog 174 #[str l, .bool m] h fun v h'=>h'=h∧v=ao (dc l m:Nat):=by
 refine CG (args:=[str l, .bool m]) rfl ?_;cases m with
 |false=>
  simp only[gW,ae,seval];refine aj rfl (oY l A4 hl (by decide)) ?_;rintro v1 h1⟨rfl,rfl⟩;unfold dc;cases without A4 l
  all_goals
   simp only[gW,ae,seval];rfl
 |true=>
  by_cases e1:l=[60,105,110,105,116,62]
  ·simp only[gW,ae,seval,av8 e1]
   simp[dc,e1]
  by_cases e2:l=[60,99,108,105,110,105,116,62]
  ·simp only[gW,ae,seval,av7 e1,av8 e2,]
   simp[dc,e2]
  have hm:dc l true=if without A4 l=false∨without [60,62] l=false then 0 else 1:=by simp[dc,e1,e2]
  rw[hm];simp only[gW,ae,seval,av7 e1,av7 e2];refine aj rfl (oY l A4 hl (by decide)) ?_;rintro v1 h1⟨rfl,rfl⟩;cases hw:without A4 l with
  |false=>
   simp only[gW,ae,seval];rfl
  |true=>
   simp only[ae,seval];refine aj rfl (oY l [60,62] hl (by decide)) ?_;rintro v2 h2⟨rfl,rfl⟩;cases without [60,62] l
   all_goals
    simp only[gW,ae,seval];rfl
theorem Pu{h:ar}(l:az)(hl:l.length≤4294967296):aF Tryz.prog 47 #[str l] h fun v h'=>h'=h∧v= .bool (jA l):=by
 refine Eh (args:=[str l]) rfl ?_;unfold jA;by_cases he:l=[]
 ·subst he
  rw[av9 (by simp)];simp only[pI,ae,seval,];refine aj rfl (KJ [] hl) ?_;rintro v1 h1⟨rfl,rfl⟩;simp only[ae,seval]
 have lp:(0:Int)<(l.length:Int):=by have:=awr.2 he;omega
 by_cases hh:l.head?=some 91
 ·have g2:((l.getD 0 0).toNat:Int)=91:=(iY he 91).1 hh
  rw[awa hh];simp(disch:=omega)only[pI,ae,seval,he,g2,];refine aj rfl (lD l hl) ?_;rintro v1 h1⟨rfl,rfl⟩;simp only[ae,seval]
 ·have g2:¬((l.getD 0 0).toNat:Int)=91:=fun x=>hh ((iY he 91).2 x)
  rw[av9 hh];simp(disch:=omega)only[pI,ae,seval,he,g2,];refine aj rfl (KJ l hl) ?_;rintro v1 h1⟨rfl,rfl⟩;simp only[ae,seval]
section
def FY(op:Nat):Bool:=decide (op=22∨op=24∨op=55∨op=57∨(30≤op∧op≤33)∨(38≤op∧op≤41)∨(63≤op∧op≤66)∨(71≤op∧op≤74))
def oZ(op:Nat)(A:Int):Int:=if(21≤op∧op≤25)∨(54≤op∧op≤58)∨op=132 then A else if 26≤op∧op≤45 then(((op-26)%4:Nat):Int)else if 59≤op∧op≤78 then(((op-59)%4:Nat):Int)else-1
def agP(op:Nat):Bool:=decide ((21≤op∧op≤45)∨(54≤op∧op≤78)∨op=132)
def rK(op:Nat)(A L:Int):Bool:= !agP op||(decide (0≤oZ op A)&&decide (oZ op A<L)&&(!FY op||decide (oZ op A+1<L)))
theorem Ry:∀op,op<256→(d6 op=6↔(21≤op∧op≤25)∨(54≤op∧op≤58))∧(d6 op=7↔op=132):=by decide+kernel
theorem agQ:∀op,op<256→(tE op=[108]↔(21≤op∧op≤25)∨(54≤op∧op≤58))∧(tE op=[110]↔op=132):=by decide+kernel
theorem Rz(op:Nat)(rG:op<256)(h:ar):aF Tryz.prog 325 #[bH op] h fun v h'=>h'=h∧v= .bool (FY op):=by
 refine xE (args:=[bH op]) rfl ?_;have cs:(0≤op∧op≤21)∨op=22∨op=23∨op=24∨(25≤op∧op≤29)∨(30≤op∧op≤33)∨(34≤op∧op≤37)∨(38≤op∧op≤41)∨(42≤op∧op≤54)∨op=55∨op=56∨op=57∨(58≤op∧op≤62)∨(63≤op∧op≤66)∨(67≤op∧op≤70)∨(71≤op∧op≤74)∨(75≤op∧op≤255):=by omega
 rcases cs with c|c|c|c|c|c|c|c|c|c|c|c|c|c|c|c|c
 all_goals
  first|rw[show FY op=true from awh (by omega)]|rw[show FY op=false from awg (by omega)]
  simp(disch:=omega)only[Ao,ae,seval,va]
  try rfl
section
variable{x:In}{ak bk:Option Addr}{nk ck nb cb:Nat}
abbrev kH(x:In)(ak bk:Option Addr)(nk ck nb cb:Nat):Obj:= .cells #[ao x.at',bH x.op, .bool x.wide,ao x.A,ao x.B,ao x.low, .slice ak nk ck, .slice bk nb cb] 204
abbrev tF(x:In)(ak bk:Option Addr)(nk ck nb cb:Nat):Value:= .agg #[ao x.at',bH x.op, .bool x.wide,ao x.A,ao x.B,ao x.low, .slice ak nk ck, .slice bk nb cb]
theorem abg(rG:x.op<256)(h:ar):aF Tryz.prog 268 #[tF x ak bk nk ck nb cb] h fun v h'=>Ext h h'∧v=ao (oZ x.op x.A):=by
 refine DZ (args:=[tF x ak bk nk ck nb cb]) rfl ?_;simp only[pF,ae,seval];refine cT ?_;have E:=Ext.push h (kH x ak bk nk ck nb cb);have q1:cellAt (h.push (kH x ak bk nk ck nb cb)) ⟨h.size,1,none⟩=some (bH x.op):=by rw[fo];rfl
 have q3:cellAt (h.push (kH x ak bk nk ck nb cb)) ⟨h.size,3,none⟩=some (ao x.A):=by rw[fo];rfl
 simp only[pF,ae,seval];generalize h.push _=h1 at*;simp only[ae,seval,q1];refine aj rfl (GZ x.op rG h1) ?_;rintro v2 h2⟨rfl,rfl⟩;obtain⟨op,apQ⟩:∃n,n=x.op:=⟨_,rfl⟩;rw[←apQ]at q1 rG⊢;have hf:=Ry op rG;have cs:d6 op=6∨d6 op=7∨(26≤op∧op≤45)∨(59≤op∧op≤78)∨(d6 op≠6∧d6 op≠7∧op<26)∨(d6 op≠6∧d6 op≠7∧45<op∧op<59)∨(d6 op≠6∧d6 op≠7∧78<op):=by omega
 rcases cs with c|c|c|c|c|c|c
 all_goals
  first
   |rw[show oZ op x.A=x.A from awa (by omega)]
   |rw[show oZ op x.A=((op:Int)-26)%4 by unfold oZ;rw[av9 (by omega),awa (by omega)];omega]
   |rw[show oZ op x.A=((op:Int)-59)%4 by unfold oZ;rw[av9 (by omega),av9 (by omega),awa (by omega)];omega]
   |rw[show oZ op x.A= -1 by unfold oZ;rw[av9 (by omega),av9 (by omega),av9 (by omega)]]
  simp(disch:=omega)only[pF,ae,seval,q1,q3,va];exact E
end
end
section
section
variable{x:In}{ak bk:Option Addr}{nk ck nb cb:Nat}
theorem aea(rG:x.op<256)(L:Int)(h:ar)(hL:L<9223372036854775808):aF Tryz.prog 301 #[tF x ak bk nk ck nb cb,ao L] h fun v h'=>Ext h h'∧v= .bool (rK x.op x.A L):=by
 refine Hi (args:=[tF x ak bk nk ck nb cb,ao L]) rfl ?_;simp only[iR,ae,seval];refine cT ?_;have E:=Ext.push h (kH x ak bk nk ck nb cb);have q0:(h.push (kH x ak bk nk ck nb cb))[h.size]? =some (kH x ak bk nk ck nb cb):=by simp
 have q1:cellAt (h.push (kH x ak bk nk ck nb cb)) ⟨h.size,1,none⟩=some (bH x.op):=by rw[fo];rfl
 simp only[iR,ae,seval];generalize h.push _=h1,h.size=q at*;simp only[ae,seval,q1];refine aj rfl (GZ x.op rG h1) ?_;rintro v2 h2⟨rfl,rfl⟩;have hf:=Ry x.op rG;have bm:=aS gg (aN (vs:=[ao x.at',bH x.op, .bool x.wide,ao x.A,ao x.B,ao x.low, .slice ak nk ck, .slice bk nb cb]) q0) rfl;generalize hn:oZ x.op x.A=n at*;cases hh:agP x.op with
 |false=>
  have h':¬((21≤x.op∧x.op≤45)∨(54≤x.op∧x.op≤78)∨x.op=132):=of_decide_eq_false hh;have f6':¬((d6 x.op:Nat):Int)=6:=by omega
  have f7':¬((d6 x.op:Nat):Int)=7:=by omega
  rw[show rK x.op x.A L=true by unfold rK;rw[hh];rfl];rcases(by omega:x.op<26∨(45<x.op∧x.op<59)∨78<x.op)with c|c|c
  all_goals
   simp(disch:=omega)only[iR,ae,seval,q1,va];exact E
 |true=>
  have h':(21≤x.op∧x.op≤45)∨(54≤x.op∧x.op≤78)∨x.op=132:=awW hh;rw[show rK x.op x.A L=(decide (0≤n)&&decide (n<L)&&(!FY x.op||decide (n+1<L))) by unfold rK;rw[hh,hn];rfl];rcases(by omega:d6 x.op=6∨d6 x.op=7∨(26≤x.op∧x.op≤45)∨(59≤x.op∧x.op≤78))with c|c|c|c
  all_goals
   simp(disch:=omega)only[iR,ae,seval,q1,bm,va];refine aj rfl (abg rG h2) ?_;rintro v3 h3⟨iG,rfl⟩;have q1':cellAt h3 ⟨q,1,none⟩=some (bH x.op):=by rw[au (ay iG q0 awx)];rfl
   rw[hn];by_cases n0:0≤n
   case neg=>
    rw[show decide (0≤n)=false from awg n0];simp only[iR,ae,seval,n0];exact⟨E.trans iG,by simp⟩
   by_cases nL:n<L
   case neg=>
    rw[show decide (n<L)=false from awg nL];simp only[iR,ae,seval,n0,nL];exact⟨E.trans iG,by simp⟩
   rw[show decide (0≤n)=true from awh n0,show decide (n<L)=true from awh nL];simp only[iR,ae,seval,q1',n0,nL];refine aj rfl (Rz x.op rG h3) ?_;rintro v4 h4⟨rfl,rfl⟩;have el:decide (n<L-1)=decide (n+1<L):=decide_eq_decide.2 (by omega);cases htw:FY x.op
   all_goals
    simp(disch:=omega)only[ae,seval,el];exact⟨E.trans iG,by simp⟩
theorem YL(rG:x.op<256)(h:ar):aF Tryz.prog 298 #[tF x ak bk nk ck nb cb] h fun v h'=>Ext h h'∧v= .tuple #[ao (oZ x.op x.A), .bool (FY x.op)]:=by
 refine Ec (args:=[tF x ak bk nk ck nb cb]) rfl ?_;simp only[pG,ae,seval];refine cT ?_;have E:=Ext.push h (kH x ak bk nk ck nb cb);have q1:cellAt (h.push (kH x ak bk nk ck nb cb)) ⟨h.size,1,none⟩=some (bH x.op):=by rw[fo];rfl
 have q3:cellAt (h.push (kH x ak bk nk ck nb cb)) ⟨h.size,3,none⟩=some (ao x.A):=by rw[fo];rfl
 have w0:IntKind.i64.wrap (x.op:Int)=(x.op:Int):=wrap_i64 (by omega) (by omega);simp only[pG,ae,seval];generalize h.push _=h1,h.size=q at*;generalize x.A=vA at*;generalize x.op=op at*;have cs:(0≤op∧op≤20)∨op=21∨op=22∨op=23∨op=24∨op=25∨(26≤op∧op≤29)∨(30≤op∧op≤33)∨(34≤op∧op≤37)∨(38≤op∧op≤41)∨(42≤op∧op≤45)∨(46≤op∧op≤53)∨op=54∨op=55∨op=56∨op=57∨op=58∨(59≤op∧op≤62)∨(63≤op∧op≤66)∨(67≤op∧op≤70)∨(71≤op∧op≤74)∨(75≤op∧op≤78)∨(79≤op∧op≤131)∨op=132∨(133≤op∧op≤255):=by omega
 rcases cs with c|c|c|c|c|c|c|c|c|c|c|c|c|c|c|c|c|c|c|c|c|c|c|c|c
 all_goals
  first|rw[show FY op=true from awh (by omega)]|rw[show FY op=false from awg (by omega)]
  first
   |rw[show oZ op vA=vA from awa (by omega)]
   |rw[show oZ op vA=((op:Int)-26)%4 by unfold oZ;rw[av9 (by omega),awa (by omega)];omega]
   |rw[show oZ op vA=((op:Int)-59)%4 by unfold oZ;rw[av9 (by omega),av9 (by omega),awa (by omega)];omega]
   |rw[show oZ op vA= -1 by unfold oZ;rw[av9 (by omega),av9 (by omega),av9 (by omega)]]
  simp(disch:=omega)only[pG,ae,seval,q1,q3,va];exact E
theorem abh(rG:x.op<256)(L:Int)(h:ar)(hL:L<9223372036854775808):aF Tryz.prog 303 #[tF x ak bk nk ck nb cb,ao L] h fun v h'=>Ext h h'∧v= .bool (rK x.op x.A L):=by
 refine Hk (args:=[tF x ak bk nk ck nb cb,ao L]) rfl ?_;simp only[gn,ae,seval];refine cT ?_;have E:=Ext.push h (kH x ak bk nk ck nb cb);have q0:(h.push (kH x ak bk nk ck nb cb))[h.size]? =some (kH x ak bk nk ck nb cb):=by simp
 have q1:cellAt (h.push (kH x ak bk nk ck nb cb)) ⟨h.size,1,none⟩=some (bH x.op):=by rw[fo];rfl
 have w0:IntKind.i64.wrap (x.op:Int)=(x.op:Int):=wrap_i64 (by omega) (by omega);simp only[gn,ae,seval];generalize h.push _=h1,h.size=q at*;simp only[gn,ae,seval,q1,w0];refine aj rfl (vd x.op rG h1) ?_;rintro v2 h2⟨rfl,rfl⟩;have hf:=agQ x.op rG;have bm:=aS gg (aN (vs:=[ao x.at',bH x.op, .bool x.wide,ao x.A,ao x.B,ao x.low, .slice ak nk ck, .slice bk nb cb]) q0) rfl;generalize hn:oZ x.op x.A=n at*;cases hh:agP x.op with
 |false=>
  have h':¬((21≤x.op∧x.op≤45)∨(54≤x.op∧x.op≤78)∨x.op=132):=of_decide_eq_false hh;have f6':¬tE x.op=[108]:=fun e=>by have:=hf.1.1 e;omega
  have f7':¬tE x.op=[110]:=fun e=>by have:=hf.2.1 e;omega
  rw[show rK x.op x.A L=true by unfold rK;rw[hh];rfl];simp only[ae,seval,av7 f6'];refine aj rfl (vd x.op rG h2) ?_;rintro v2 h2⟨rfl,rfl⟩;rcases(by omega:x.op<26∨(45<x.op∧x.op<59)∨78<x.op)with c|c|c
  all_goals
   simp(disch:=omega)only[gn,ae,seval,av7 f7',va];exact E
 |true=>
  have h':(21≤x.op∧x.op≤45)∨(54≤x.op∧x.op≤78)∨x.op=132:=awW hh;rw[show rK x.op x.A L=(decide (0≤n)&&decide (n<L)&&(!FY x.op||decide (n+1<L))) by unfold rK;rw[hh,hn];rfl];have hc:(tE x.op=[108]∧((21≤x.op∧x.op≤25)∨(54≤x.op∧x.op≤58)))∨(¬tE x.op=[108]∧tE x.op=[110])∨(¬tE x.op=[108]∧¬tE x.op=[110]∧26≤x.op∧x.op≤45)∨(¬tE x.op=[108]∧¬tE x.op=[110]∧59≤x.op∧x.op≤78):=by
   obtain⟨a,b⟩:=hf;by_cases f6:tE x.op=[108]
   ·exact .inl ⟨f6,a.1 f6⟩
   by_cases f7:tE x.op=[110]
   ·exact .inr (.inl ⟨f6,f7⟩)
   have f6n:¬((21≤x.op∧x.op≤25)∨(54≤x.op∧x.op≤58)):=fun e=>f6 (a.2 e);have f7n:¬x.op=132:=fun e=>f7 (b.2 e);by_cases d:x.op≤45
   ·exact .inr (.inr (.inl ⟨f6,f7,by omega,d⟩))
   ·exact .inr (.inr (.inr ⟨f6,f7,by omega,by omega⟩))
  rcases hc with⟨c,_⟩|⟨c,d⟩|⟨c,d,_,_⟩|⟨c,d,_,_⟩
  all_goals
   simp only[gn,ae,seval,bm,c]
   try refine aj rfl (vd x.op rG h2) ?_
   try rintro v2 h2⟨rfl,rfl⟩
   try simp(disch:=omega)only[gn,ae,seval,bm,d,va]
   refine aj rfl (YL rG _) ?_;rintro v3 h3⟨iG,rfl⟩;rw[hn];by_cases n0:n<0
   case pos=>
    rw[show decide (0≤n)=false from awg (by omega)];simp only[gn,ae,seval,n0];exact⟨E.trans iG,by simp⟩
   by_cases nL:L≤n
   case pos=>
    rw[show decide (n<L)=false from awg (by omega)];simp only[gn,ae,seval,n0,nL];exact⟨E.trans iG,by simp⟩
   rw[show decide (0≤n)=true from awh (by omega),show decide (n<L)=true from awh (by omega)];have el:decide (1<L-n)=decide (n+1<L):=decide_eq_decide.2 (by omega);cases htw:FY x.op
   all_goals
    simp(disch:=omega)only[gn,ae,seval,n0,nL,el];exact⟨E.trans iG,by simp⟩
end
end
section
def bM(p:List aX)(k:Nat):az:=if eV p k 1=true then(p.getD k aX.zero).text else []
def jh(p:List aX)(A:Int)(t:Nat):Bool:=decide (0≤A)&&eV p A.toNat t
def kM(p:List aX)(A:Int):az:=bM p (p.getD A.toNat aX.zero).a
def dB(ts:List (az)):Nat:=(ts.map mf).sum
def pe(op:Nat)(B:Int)(p:List aX)(b:Nat):Bool:=
 eV p b 12&&(!(decide (dc (bM p (p.getD b aX.zero).a) true=3)||(decide (dc (bM p (p.getD b aX.zero).a) true=2)&&decide (op≠183)))&&
  ((fV (bM p (p.getD b aX.zero).b)).isSome&&(decide (op≠185)||decide (((1+dB (mT (bM p (p.getD b aX.zero).b)):Nat):Int)=B))))
def fe(op:Nat)(A B:Int)(p:List aX):Bool:=
 if op=18∨op=19 then [3,4,8].any (jh p A)
 else if op=20 then [5,6].any (jh p A)
 else if 178≤op∧op≤181 then [9].any (jh p A)
 else if 182≤op∧op≤184 then [10].any (jh p A)&&pe op B p (p.getD A.toNat aX.zero).b
 else if op=185 then [11].any (jh p A)&&pe op B p (p.getD A.toNat aX.zero).b
 else if op=187 then [7].any (jh p A)&&decide (dq (kM p A)=0)
 else if op=189 then [7].any (jh p A)&&decide (dq (kM p A)<255)
 else if op=192∨op=193 then [7].any (jh p A)
 else if op=197 then [7].any (jh p A)&&decide (B≤(dq (kM p A):Int))
 else true
theorem pX{p:List aX}(H:∀c∈p,c.text.length≤4294967296)(k:Nat):(bM p k).length≤4294967296:=by
 unfold bM
 split
 ·rename_i h
  unfold eV at h;simp only[awm,awo]at h;exact H _ (by simp[h.1])
 ·simp
theorem sf{p:List aX}{k t:Nat}(h:eV p k t=true):0<k∧k<p.length:=by
 unfold eV at h;simp only[awm,awo]at h;exact⟨h.2.1,h.1⟩
def sL(A:Int):Nat:=(A%65536).toNat
theorem YM(A:Int):sL A<65536:=by unfold sL;omega
theorem abj(A:Int):IntKind.u16.wrap A=((sL A:Nat):Int):=by
 unfold sL;simp only[IntKind.wrap,IntKind.signed,IntKind.bits]
 first|(simp;done)|(simp;omega)|omega
theorem acB{p:List aX}(hp:p.length≤65536)(A:Int)(t:Nat):jh p A t=(decide (((sL A:Nat):Int)=A)&&eV p (sL A) t):=by
 unfold jh sL;by_cases h0:0≤A
 ·by_cases h1:A<65536
  ·rw[awh h0,awh (by omega),show(A%65536).toNat=A.toNat by omega]
  ·rw[awg (show¬(((A%65536).toNat:Nat):Int)=A by omega),Bool.false_and]
   have:¬A.toNat<p.length:=by omega
   unfold eV;rw[awg this];simp
 ·rw[awg h0,awg (show¬(((A%65536).toNat:Nat):Int)=A by omega)]
  simp
theorem Og{h:ar}(l:az)(hl:l.length≤4294967296):aF Tryz.prog 329 #[str l] h fun v h'=>h'=h∧v=ao (dq l:Nat):=by
 refine Hj (args:=[str l]) rfl ?_;simp only[nu,ae,seval];refine aG [0,3] (fun m ρ hc=>∃i:Nat,m=l.length-i∧i≤l.length∧ρ=[(0,str l),(3,ao i)]∧hc=h∧dq l=i+dq (l.drop i)) ?_ ?_
 ·simp only[ae,seval]
  exact⟨_,0,rfl,awb _,rfl,by simp⟩
 rintro m ρ hc⟨i,rfl,hi,rfl,rfl,hn⟩;by_cases aV:i<l.length
 ·have aK:(i:Int)<(l.length:Int):=by omega
  have hd:l.drop i=l.getD i 0::l.drop (i+1):=by rw[awO aV];simp[aV]
  by_cases hb:l.getD i 0=91
  ·have ju:((l.getD i 0).toNat:Int)=91:=by rw[hb];rfl
   have w1:=gU (k:=i) (by omega);simp(disch:=omega)only[nu,ae,seval,aK,ju,w1,];refine⟨l.length-(i+1),by omega,i+1,rfl,by omega,rfl,?_⟩;rw[hn,hd,dq,awa hb];omega
  ·have ju:¬((l.getD i 0).toNat:Int)=91:=by
    intro e;apply hb;apply UInt8.toNat_inj.1;show _=91;omega
   have vh:dq l=i:=by rw[hn,hd,dq,av9 hb];rfl
   rw[vh];simp(disch:=omega)only[nu,ae,seval,aK,ju,]
 ·have mL:i=l.length:=by omega
  subst mL;have aK:¬(l.length:Int)<(l.length:Int):=by omega
  have vh:dq l=l.length:=by rw[hn,List.drop_length];rfl
  rw[vh];simp only[nu,ae,seval,aK,]
section
variable{p:List aX}{vp:Value}{g1 g2 g3:Nat}{A:Int}
theorem qH{h:ar}{tv:Value}(ts:List Nat)(hlen:ts.length≤1000)(rJ:Sl h tv (ts.map fun t:Nat=>bH t))
 (c1:cellAt h ⟨g1,0,none⟩=some (ax (sL A:Nat)))(c2:cellAt h ⟨g2,3,none⟩=some (ao A))(c3:cellAt h ⟨g3,0,none⟩=some vp)(hp:p.length≤65536)(hs:fR h 5 vp p.length (du p)):
 aF Tryz.prog 326 #[tv,aE g1,aE g2,aE g3] h fun v h'=>h'=h∧v= .bool (ts.any (jh p A)):=by
 refine LA (args:=[tv,aE g1,aE g2,aE g3]) rfl ?_;have YN:=rJ;obtain⟨a,c,rfl,_⟩:=YN;rw[awk];simp only[kW,ae,seval];refine aG [1,2,3,8,9,10] (fun m ρ hc=>∃i:Nat,m=ts.length-i∧i≤ts.length∧
  ρ=[(1,aE g1),(2,aE g2),(3,aE g3),(8, .slice a ts.length c),(9,ao ts.length),(10,ao i)]∧hc=h∧(ts.take i).any (jh p A)=false) ?_ ?_
 ·simp only[ae,seval]
  exact⟨_,0,rfl,awb _,rfl,by simp⟩
 rintro m ρ hc⟨i,rfl,hi,rfl,rfl,mX⟩;by_cases aV:i<ts.length
 ·have aK:(i:Int)<(ts.length:Int):=by omega
  obtain⟨b,o,c',heq,_,hcell⟩:=rJ.at (i:=i) (by simpa using aV);rw[awk]at heq;cases heq;have se:cellAt hc ⟨b,o+i,none⟩=some (bH (ts.getD i 0:Nat)):=by rw[hcell];simp[aV]
  have gl:ts.take (i+1)=ts.take i++[ts.getD i 0]:=by rw[List.take_add_one];simp[aV]
  have kG:ts.getD i 0∈ts:=by simp[aV]
  have w1:=gU (k:=i) (by omega);have w2:IntKind.i64.wrap ((sL A:Nat):Int)=((sL A:Nat):Int):=by have:=YM A;rw[wrap_i64 (by omega) (by omega)]
  have acC:=acB hp A (ts.getD i 0);generalize ts.getD i 0=t at*;have RA:jh p A t=false→∃m'<ts.length-i,∃j:Nat,m'=ts.length-j∧j≤ts.length∧
   ([(1,aE g1),(2,aE g2),(3,aE g3),(8, .slice (some ⟨b,o,none⟩) ts.length c),(9,ao ts.length),(10,ao (i+1:Nat))]:Env)=
   [(1,aE g1),(2,aE g2),(3,aE g3),(8, .slice (some ⟨b,o,none⟩) ts.length c),(9,ao ts.length),(10,ao j)]∧(ts.take j).any (jh p A)=false:=by
   intro hf;refine⟨ts.length-(i+1),by omega,i+1,rfl,by omega,rfl,?_⟩;rw[gl,List.any_append,mX];simp[hf]
  by_cases hk:((sL A:Nat):Int)=A
  ·rw[awh hk,Bool.true_and]at acC
   have hdk:decide (((sL A:Nat):Int)=A)=true:=awh hk;simp(disch:=omega)only[kW,ae,seval,aK,se,c1,c2,c3,w2,hdk];refine aj rfl (lC (sL A) t (YM A) hs) ?_;rintro v1 h1⟨rfl,rfl⟩;rw[←acC];cases hb:jh p A t with
   |true=>
    simp only[kW,ae,seval];have:ts.any (jh p A)=true:=List.any_eq_true.2 ⟨t,kG,hb⟩;rw[this]
   |false=>
    simp only[kW,ae,seval,w1];exact RA hb
  ·rw[awg hk,Bool.false_and]at acC
   have hdk:decide (((sL A:Nat):Int)=A)=false:=awg hk;simp(disch:=omega)only[kW,ae,seval,aK,se,c1,c2,w2,hdk,w1];exact RA acC
 ·have aK:¬(i:Int)<(ts.length:Int):=by omega
  rw[List.take_of_length_le (by omega)]at mX;rw[mX];simp only[kW,ae,seval,aK,]
theorem FZ{h:ar}{k:Nat}(hk:k<p.length)(hk6:k<65536)(hf:∀c∈p,c.Fit)
 (c1:cellAt h ⟨g1,0,none⟩=some (ax k))(c3:cellAt h ⟨g3,0,none⟩=some vp)(hs:fR h 5 vp p.length (du p)):
 aF Tryz.prog 327 #[aE g3,aE g1] h fun v h'=>h'=h∧v=str (bM p (p.getD k aX.zero).a):=by
 refine Ea (args:=[aE g3,aE g1]) rfl ?_;have AF:(k:Int)<(p.length:Int):=by omega
 obtain⟨b,o,c',rfl,di,_⟩:=hs.at hk;rw[iu hk]at di;have Yv:(p.getD k aX.zero).a<65536:=(hf _ (by simp[hk])).a;generalize p.getD k aX.zero=x at*;have c4:cellAt h ⟨b,o+k*5+3,none⟩=some (ax x.a):=di 3 _ rfl;simp(disch:=omega)only[JL,ae,seval,c1,c3,c4];refine aj rfl (FP x.a Yv hs) ?_;rintro v1 h1⟨rfl,rfl⟩;simp only[ae,seval,];rfl
end
end
end Go.Proofs.YtmbboehmnfhjjaaGreatDoor
