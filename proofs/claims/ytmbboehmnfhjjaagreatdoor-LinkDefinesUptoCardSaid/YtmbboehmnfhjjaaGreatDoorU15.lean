/- The first instruction whose operand may not be, by both; the law. The reader's functions, one by one. Instructions out of bytes: what is read (plain). The decoder of instructions: numbers with a sign, switches. -/
import Derived.Test.YtmbboehmnfhjjaaGreatDoorU14
import Derived.Test.YtmbboehmnfhjjaaGreatDoorU11
import Derived.Test.YtmbboehmnfhjjaaGreatDoorU3
set_option maxRecDepth 100000
set_option maxHeartbeats 4000000
set_option linter.unusedSimpArgs false
set_option linter.unusedVariables false
set_option linter.defProp false
namespace Go.Proofs.YtmbboehmnfhjjaaGreatDoor
open Go.Vc
def iM(p:List aX)(L:Int):List In→Int × Int
 |[]=>(0,0)
 |x::r=>if rK x.op x.A L&&fe x.op x.A x.B p then iM p L r else(15,x.at')
theorem abm(l:List In)(v:Value)(h:ar)(hl:Pr h v l)(hlf:∀x∈l,x.Fit)(hll:l.length≤1048576)(L:Int)(hL:L<9223372036854775808){p:List aX}{vp:Value}(hp:p.length≤65536)
 (hf:∀c∈p,c.Fit)(vW:∀c∈p,c.text.length≤4294967296)(hs:fR h 5 vp p.length (du p)):
 aF Tryz.prog 247 #[v,vp,ao L] h fun r h'=>Ext h h'∧r= .tuple #[ao (iM p L l).1,ao (iM p L l).2]:=by
 obtain⟨_,_,hr2,_⟩:=id hl;obtain⟨_,a,c,rfl,_⟩:=hr2;obtain⟨_,a2,c2,rfl,_⟩:=id hs;refine Eb (args:=[.slice a l.length c, .slice a2 p.length c2,ao L]) rfl ?_;simp only[iC,ae,seval];refine aG [1,2,10,11,12] (fun m ρ hc=>∃i:Nat,m=l.length-i∧i≤l.length∧
  ρ=[(1, .slice a2 p.length c2),(2,ao L),(10, .slice a l.length c),(11,ao l.length),(12,ao i)]∧Ext h hc∧iM p L l=iM p L (l.drop i)) ?_ ?_
 ·simp only[ae,seval]
  exact⟨_,0,rfl,awb _,rfl,Ext.refl _,by simp⟩
 rintro m ρ hc⟨i,rfl,hi,rfl,hx,rM⟩;by_cases aV:i<l.length
 case neg=>
  have aK:¬(i:Int)<(l.length:Int):=by omega
  rw[rM,awV (by omega)];simp only[iC,ae,seval,aK];exact⟨hx,rfl⟩
 have aK:(i:Int)<(l.length:Int):=by omega
 have w1:=gU (k:=i) (by omega);rw[gL (d:=l8) aV,iM]at rM;have MP:=hlf (l.getD i l8) (dF aV);obtain⟨b,o,c',vk,vt,heq,tG,sk,_,st,_⟩:=hl.at aV;cases heq;generalize l.getD i l8=x at*;have di:Rd hc b (o+i*8) (fu x vk vt):=hx.rd tG (tG.lt (by simp[fu])) awx;obtain⟨_,ak,ck,rfl,_⟩:=sk;obtain⟨_,bk,cb,rfl,_⟩:=st;have bm:=aS gg di rfl;simp only[fu]at bm;simp(disch:=omega)only[iC,ae,seval,aK,bm];refine aD eB ?_;simp only[ae,seval];refine aI eB rfl rfl rfl (by simp[Value.cells,oneCell]) rfl ?_;intro h3 x3 nQ Gc b3;change h3[hc.size]? =some (kH x ak bk x.keys.length ck x.bX.length cb)at b3;have iG:=hx.trans x3;generalize hc.size=q at*;have ldx:∀h4,Ext h3 h4→_:=fun h4 e4=>aS gg (aN (vs:=[ao x.at',bH x.op, .bool x.wide,ao x.A,ao x.B,ao x.low, .slice ak x.keys.length ck, .slice bk x.bX.length cb]) (ay e4 b3 awx)) rfl;have ld3:=ldx h3 (Ext.refl _);simp only[iC,ae,seval,ld3];refine aj rfl (aea (ak:=ak) (bk:=bk) (ck:=ck) (cb:=cb) (nk:=x.keys.length) (nb:=x.bX.length) MP.op L h3 hL) ?_;rintro v4 h4⟨x4,rfl⟩;have c4:cellAt h4 ⟨q,0,none⟩=some (ao x.at'):=by rw[au (ay x4 b3 awx)];rfl
 cases hr:rK x.op x.A L with
 |false=>
  rw[hr,Bool.false_and,av9 (by decide)]at rM;rw[rM];simp only[iC,ae,seval,c4];exact iG.trans x4
 |true=>
  rw[hr,Bool.true_and]at rM;have ld4:=ldx h4 x4;simp only[ae,seval,ld4];refine aj rfl (Wi (ak:=ak) (bk:=bk) (ck:=ck) (cb:=cb) (nk:=x.keys.length) (nb:=x.bX.length) MP.op hp hf vW (hs.ext (by decide) (iG.trans x4))) ?_;rintro v5 h5⟨x5,rfl⟩;have c5:cellAt h5 ⟨q,0,none⟩=some (ao x.at'):=by rw[au (ay (x4.trans x5) b3 awx)];rfl
  cases ho:fe x.op x.A x.B p with
  |false=>
   rw[ho,av9 (by decide)]at rM;rw[rM];simp only[iC,ae,seval,c5];exact(iG.trans x4).trans x5
  |true=>
   rw[ho,awa rfl]at rM;simp only[iC,ae,seval,w1];exact⟨l.length-(i+1),by omega,i+1,rfl,by omega,rfl,(iG.trans x4).trans x5,rM⟩
theorem YR(l:List In)(v:Value)(h:ar)(hl:Pr h v l)(hlf:∀x∈l,x.Fit)(hll:l.length≤1048576)(L:Int)(hL:L<9223372036854775808){p:List aX}{vp:Value}(hp:p.length≤65536)
 (hf:∀c∈p,c.Fit)(vW:∀c∈p,c.text.length≤4294967296)(hs:fR h 5 vp p.length (du p)):
 aF Tryz.prog 249 #[v,vp,ao L] h fun r h'=>Ext h h'∧r= .tuple #[ao (iM p L l).1,ao (iM p L l).2]:=by
 obtain⟨_,_,hr2,_⟩:=id hl;obtain⟨_,a,c,rfl,_⟩:=hr2;obtain⟨_,a2,c2,rfl,_⟩:=id hs;refine Ed (args:=[.slice a l.length c, .slice a2 p.length c2,ao L]) rfl ?_;simp only[iD,ae,seval];refine aG [1,2,10,11,12] (fun m ρ hc=>∃i:Nat,m=l.length-i∧i≤l.length∧
  ρ=[(1, .slice a2 p.length c2),(2,ao L),(10, .slice a l.length c),(11,ao l.length),(12,ao i)]∧Ext h hc∧iM p L l=iM p L (l.drop i)) ?_ ?_
 ·simp only[ae,seval]
  exact⟨_,0,rfl,awb _,rfl,Ext.refl _,by simp⟩
 rintro m ρ hc⟨i,rfl,hi,rfl,hx,rM⟩;by_cases aV:i<l.length
 case neg=>
  have aK:¬(i:Int)<(l.length:Int):=by omega
  rw[rM,awV (by omega)];simp only[iD,ae,seval,aK];exact⟨hx,rfl⟩
 have aK:(i:Int)<(l.length:Int):=by omega
 have w1:=gU (k:=i) (by omega);rw[gL (d:=l8) aV,iM]at rM;have MP:=hlf (l.getD i l8) (dF aV);obtain⟨b,o,c',vk,vt,heq,tG,sk,_,st,_⟩:=hl.at aV;cases heq;generalize l.getD i l8=x at*;have di:Rd hc b (o+i*8) (fu x vk vt):=hx.rd tG (tG.lt (by simp[fu])) awx;obtain⟨_,ak,ck,rfl,_⟩:=sk;obtain⟨_,bk,cb,rfl,_⟩:=st;have bm:=aS gg di rfl;simp only[fu]at bm;simp(disch:=omega)only[iD,ae,seval,aK,bm];refine aD eB ?_;simp only[ae,seval];refine aI eB rfl rfl rfl (by simp[Value.cells,oneCell]) rfl ?_;intro h3 x3 nQ Gc b3;change h3[hc.size]? =some (kH x ak bk x.keys.length ck x.bX.length cb)at b3;have iG:=hx.trans x3;generalize hc.size=q at*;have ldx:∀h4,Ext h3 h4→_:=fun h4 e4=>aS gg (aN (vs:=[ao x.at',bH x.op, .bool x.wide,ao x.A,ao x.B,ao x.low, .slice ak x.keys.length ck, .slice bk x.bX.length cb]) (ay e4 b3 awx)) rfl;have ld3:=ldx h3 (Ext.refl _);simp only[iD,ae,seval,ld3];refine aj rfl (abh (ak:=ak) (bk:=bk) (ck:=ck) (cb:=cb) (nk:=x.keys.length) (nb:=x.bX.length) MP.op L h3 hL) ?_;rintro v4 h4⟨x4,rfl⟩;have c4:cellAt h4 ⟨q,0,none⟩=some (ao x.at'):=by rw[au (ay x4 b3 awx)];rfl
 cases hr:rK x.op x.A L with
 |false=>
  rw[hr,Bool.false_and,av9 (by decide)]at rM;rw[rM];simp only[iD,ae,seval,c4];exact iG.trans x4
 |true=>
  rw[hr,Bool.true_and]at rM;have ld4:=ldx h4 x4;simp only[ae,seval,ld4];refine aj rfl (TW (ak:=ak) (bk:=bk) (ck:=ck) (cb:=cb) (nk:=x.keys.length) (nb:=x.bX.length) MP.op hf vW (hs.ext (by decide) (iG.trans x4))) ?_;rintro v5 h5⟨x5,rfl⟩;have c5:cellAt h5 ⟨q,0,none⟩=some (ao x.at'):=by rw[au (ay (x4.trans x5) b3 awx)];rfl
  cases ho:fe x.op x.A x.B p with
  |false=>
   rw[ho,av9 (by decide)]at rM;rw[rM];simp only[iD,ae,seval,c5];exact(iG.trans x4).trans x5
  |true=>
   rw[ho,awa rfl]at rM;simp only[iD,ae,seval,w1];exact⟨l.length-(i+1),by omega,i+1,rfl,by omega,rfl,(iG.trans x4).trans x5,rM⟩
section
section
variable{h:ar}{g:Nat}{l:az}{s:RS}
theorem Gd(l:az)(h:ar):aF Tryz.prog 72 #[str l] h fun v h'=>Ext h h'∧v=aE h.size∧eF h' h.size l ⟨0,0,0⟩∧h.size<h'.size:=by
 refine xF (args:=[str l]) rfl ?_;simp only[Aw,ae,seval];refine cT ?_;simp only[ae,seval];exact⟨Ext.push _ _,⟨by simp,awb _⟩,by simp⟩
theorem YS(H:eF h g l s):aF Tryz.prog 84 #[aE g] h fun v h'=>h'=h∧v= .tuple #[ao s.e,ao s.es]:=by
 refine Es (args:=[aE g]) rfl ?_;have c2:=H.c2;have c3:=H.c3;simp only[JP,ae,seval,c2,c3]
theorem xh(H:eF h g l s):aF Tryz.prog 83 #[aE g] h fun v h'=>h'=h∧v=ao s.p:=by
 refine Hy (args:=[aE g]) rfl ?_;have c1:=H.c1;simp only[LG,ae,seval,c1]
theorem jB(H:eF h g l s):aF Tryz.prog 77 #[aE g] h fun v h'=>h'=h∧v= .bool (decide (s.e≠0)):=by
 refine Eu (args:=[aE g]) rfl ?_;have c2:=H.c2;have hd:decide ¬(s.e:Int)=0=decide ¬s.e=0:=by simp
 simp only[JQ,ae,seval,c2,hd]
theorem Oh(hl:l.length≤1073741824)(H:eF h g l s):aF Tryz.prog 82 #[aE g] h fun v h'=>h'=h∧v=ao (l.length-s.p:Nat):=by
 refine CQ (args:=[aE g]) rfl ?_;have c0:=H.c0;have c1:=H.c1;have h2:=H.2;have e:(l.length:Int)-(s.p:Int)=((l.length-s.p:Nat):Int):=by omega
 simp(disch:=omega)only[HB,ae,seval,c0,c1,e]
theorem fA(e q:Nat)(H:eF h g l s):aF Tryz.prog 74 #[aE g,ao e,ao q] h fun v h'=>Fr (fun k=>k=g) h h'∧eF h' g l (cg e q s):=by
 refine CO (args:=[aE g,ao e,ao q]) rfl ?_;have c2:=H.c2;by_cases he:s.e=0
 ·have dH:(s.e:Int)=0:=by omega
  simp only[tw,ae,seval,c2,av8 dH];refine aC zF rfl rfl rfl rfl rfl (u:=ao s.e) c2 ?_ ?_
  ·simp[frozenAt,H.1]
  have b1:=bu (o:=2) H.1 (ao e);simp only[ae,seval];have hc:cellAt (setAt h ⟨g,2,none⟩ (ao e)) ⟨g,3,none⟩=some (ao s.es):=by rw[au b1];rfl
  refine aC dI rfl rfl rfl rfl rfl (u:=ao s.es) hc ?_ ?_
  ·simp[frozenAt,b1]
  have b2:=bu (o:=3) b1 (ao q);simp only[ae,seval];refine⟨Fr.trans (Fr.set (S:=fun k=>k=g) _ _ _ fun _=>rfl) (Fr.set (S:=fun k=>k=g) _ _ _ fun _=>rfl) (fun _ _ h=>h) (fun _ _ h=>h),?_⟩;unfold cg;rw[awa he];exact⟨b2,H.2⟩
 ·have dH:¬(s.e:Int)=0:=by omega
  simp only[tw,ae,seval,c2,av7 dH];unfold cg;rw[av9 he];exact⟨Fr.refl _ _,H⟩
theorem zO(n:Nat)(hl:l.length≤1073741824)(hn:n≤1099511627776)(H:eF h g l s):aF Tryz.prog 151 #[aE g,ao n] h fun v h'=>Fr (fun k=>k=g) h h'∧eF h' g l (cV l n s).2∧v=str (cV l n s).1:=by
 refine CP (args:=[aE g,ao n]) rfl ?_;simp only[gX,ae,seval];refine aj rfl (jB H) ?_;rintro v1 h1⟨rfl,rfl⟩;by_cases he:s.e=0
 ·have h2:=H.2
  have n0:¬(n:Int)<0:=by omega
  simp only[gX,ae,seval,he,];simp only[ae,seval,n0];refine aj rfl (Oh hl H) ?_;rintro v2 h3⟨rfl,rfl⟩;have c0:=H.c0;have c1:=H.c1;by_cases aV:l.length<s.p+n
  ·have q:(((l.length-s.p:Nat):Int))<(n:Int):=by omega
   simp only[gX,ae,seval,q,c0];refine aj rfl (fA 1 l.length H) ?_;rintro v4 h4⟨f4,r4⟩;simp only[gX,ae,seval];unfold cV;unfold cg at r4;rw[awa he]at r4;rw[av9 (by simp[he]),awa aV];exact⟨f4,r4,rfl⟩
  ·have q:¬(((l.length-s.p:Nat):Int))<(n:Int):=by omega
   simp(disch:=omega)only[gX,ae,seval,q,c0,c1];refine aC dI rfl rfl rfl rfl rfl (u:=ao s.p) c1 ?_ ?_
   ·simp[frozenAt,H.1]
   have b1:=bu (o:=1) H.1 (ao ((s.p:Int)+(n:Int)));simp only[gX,ae,seval];unfold cV;rw[av9 (by simp[he]),av9 aV];refine⟨Fr.set (S:=fun k=>k=g) _ _ _ fun _=>rfl,⟨?_,by simp only;omega⟩,?_⟩
   ·rw[he]at b1;exact b1
   ·have e1:((s.p:Int)+(n:Int)).toNat=s.p+n:=by omega
    rw[e1,List.drop_take,Nat.add_sub_cancel_left]
 ·have dH:(decide (s.e≠0))=true:=by simp[he]
  simp only[gX,ae,seval,dH];unfold cV;rw[awa he];exact⟨Fr.refl _ _,H,rfl⟩
theorem Wk(a b:Nat)(ha:a<9223372036854775808)(hb:b<9223372036854775808):cB .or .i64 (a:Int) (b:Int)=((a|||b:Nat):Int):=by
 have h1:(BitVec.ofInt 64 (a:Int))=BitVec.ofNat 64 a:=by simp
 have h2:(BitVec.ofInt 64 (b:Int))=BitVec.ofNat 64 b:=by simp
 have h3:a|||b<9223372036854775808:=Nat.or_lt_two_pow (n:=63) ha hb
 show IntKind.i64.wrap (((BitVec.ofInt 64 (a:Int)|||BitVec.ofInt 64 (b:Int)).toNat:Nat):Int)=_
 rw[h1,h2,BitVec.toNat_or,BitVec.toNat_ofNat,BitVec.toNat_ofNat];rw[Nat.mod_eq_of_lt (by omega),Nat.mod_eq_of_lt (by omega),wrap_i64 (by omega) (by omega)]
theorem akf{x:Nat}(hx:x<36028797018963968)(b:UInt8):cB .or .i64 ((x:Int)*256) (b.toNat:Int)=((x*256+b.toNat:Nat):Int):=by
 have hb:=UInt8.toNat_lt b;simp only[Nat.reducePow]at hb;have h:=Wk (x*256) b.toNat (by omega) (by omega);have h2:x*256|||b.toNat=x*256+b.toNat:=QC 8 x b.toNat (by omega);rw[h2]at h;rw[←h,Int.natCast_mul];rfl
theorem dU(n:Nat)(hl:l.length≤1073741824)(hn:n≤7)(H:eF h g l s):aF Tryz.prog 73 #[aE g,ao n] h fun v h'=>Fr (fun k=>k=g) h h'∧eF h' g l (aA l n s).2∧v=ao (aA l n s).1:=by
 refine Et (args:=[aE g,ao n]) rfl ?_;simp only[pK,ae,seval];refine aj rfl (zO n hl (by omega) H) ?_;rintro v1 h1⟨f1,r1,rfl⟩;have ht:(cV l n s).1.length≤n:=uZ;unfold aA;generalize cV l n s=tk at*;obtain⟨bs,s'⟩:=tk;simp only at r1 ht⊢;simp only[ae,seval];refine TG (base:=h1.size) Tryz.underlying9 Tryz.underlying245 Tryz.underlying5 rfl (awp _) (by omega) ?_;intro sv h2 qJ x2;obtain⟨a,c,rfl,_⟩:=qJ.sl;have kO:(iL bs).length=bs.length:=by simp[iL]
 rw[kO]at qJ⊢;have f2:Fr (fun k=>k=g) h h2:=Fr.trans f1 x2 (fun _ _ h=>h) (fun _ _ h=>h.elim);simp only[ae,seval];refine aG [0,1,5,11,12,13] (fun m ρ hc=>∃i:Nat,m=bs.length-i∧i≤bs.length∧
  ρ=[(0,aE g),(1,ao n),(5,ao (eh (bs.take i))),(11, .slice a bs.length c),(12,ao bs.length),(13,ao i)]∧hc=h2) ?_ ?_
 ·simp only[ae,seval]
  exact⟨_,0,rfl,awb _,by simp[eh]⟩
 ·rintro m ρ hc⟨i,rfl,hi,rfl,rfl⟩
  rcases Nat.lt_or_ge i bs.length with aV|VJ
  ·have aK:(i:Int)<bs.length:=by omega
   obtain⟨b,o,c',heq,hb,hcell⟩:=qJ.sl.at (i:=i) (by rw[kO];exact aV);rw[kO]at heq;cases heq;have hg:(iL bs).getD i undef=bH ((bs.getD i 0).toNat:Int):=by simp[iL,aV]
   rw[hg]at hcell;have hx:=oX (bs.take i);have hp:256^(bs.take i).length≤256^6:=Nat.pow_le_pow_right (by decide) (by simp;omega);have nO:eh (bs.take i)<281474976710656:=by
    have:(256:Nat)^6=281474976710656:=by decide
    omega
   have hsh:=akf (x:=eh (bs.take i)) (by omega) (bs.getD i 0);have hb8:=UInt8.toNat_lt (bs.getD i 0);simp only[Nat.reducePow]at hb8;have gl:eh (bs.take (i+1))=eh (bs.take i)*256+(bs.getD i 0).toNat:=by
    rw[List.take_succ_eq_append_getElem aV,ow];simp[aV]
   simp(disch:=omega)only[pK,ae,seval,aK,hcell,hsh];exact⟨bs.length-(i+1),by omega,i+1,rfl,by omega,by rw[gl];rfl⟩
  ·have aK:¬(i:Int)<bs.length:=by omega
   have pP:i=bs.length:=by omega
   subst pP;simp only[pK,ae,seval,aK];rw[List.take_length];exact⟨f2,r1.fr x2 id,rfl⟩
theorem ei(hl:l.length≤1073741824)(H:eF h g l s):aF Tryz.prog 75 #[aE g] h fun v h'=>Fr (fun k=>k=g) h h'∧eF h' g l (aA l 2 s).2∧v=ax (aA l 2 s).1:=by
 refine Ax (args:=[aE g]) rfl ?_;simp only[Ev,ae,seval];refine aj rfl (dU 2 hl (by omega) H) ?_;rintro v1 h1⟨f1,r1,rfl⟩;have aV:(aA l 2 s).1<65536:=dJ;have hw:IntKind.u16.wrap ((aA l 2 s).1:Int)=((aA l 2 s).1:Int):=wrap_u16 (by omega) (by omega);simp only[ae,seval,hw];exact⟨f1,r1⟩
end
end
def kI(x n:Nat):Int:=if 128*256^(n-1)≤x then(x:Int)-(256^n:Nat)else(x:Int)
def fE(l:az)(n:Nat)(s:RS):Int × RS:=(kI (aA l n s).1 n,(aA l n s).2)
def xj(l:az)(at':Nat):Nat→RS→RS
 |0,s=>s
 |k+1,s=>if s.p%4=0∨s.e≠0 then s else xj l at' k (if(aA l 1 s).1≠0 then cg 15 at' (aA l 1 s).2 else(aA l 1 s).2)
abbrev KT:=List Int × List Int × RS
def Co(f:Nat)(l:az)(at':Nat)(ks:List Int)(s:RS):List Int × RS:=
 if f=11 then
  (ks++[(fE l 4 s).1],if ks≠[]∧(fE l 4 s).1≤ks.getD (ks.length-1) 0 then cg 15 at' (fE l 4 s).2 else(fE l 4 s).2)
 else(ks,s)
def mF(f:Nat)(l:az)(at':Nat):Nat→KT→KT
 |0,c=>c
 |r+1,c=>if c.2.2.e≠0 then c else
  mF f l at' r ((Co f l at' c.1 c.2.2).1,c.2.1++[(at':Int)+(fE l 4 (Co f l at' c.1 c.2.2).2).1],(fE l 4 (Co f l at' c.1 c.2.2).2).2)
def sM(x:In)(at' f:Nat)(l:az)(s:RS):In × RS:=
 let t0:=fE l 4 (xj l at' 4 s)
 let n:=fE l 4 t0.2
 if f=10 then
  let hi:=fE l 4 n.2
  if hi.1<n.1 then({x with low:=n.1,bX:=[(at':Int)+t0.1]},cg 15 at' hi.2)
  else
   let c:=mF f l at' (hi.1-n.1+1).toNat ([],[(at':Int)+t0.1],hi.2)
   ({x with low:=n.1,keys:=c.1,bX:=c.2.1},c.2.2)
 else if n.1<0 then({x with bX:=[(at':Int)+t0.1]},cg 15 at' n.2)
 else
  let c:=mF f l at' n.1.toNat ([],[(at':Int)+t0.1],n.2)
  ({x with keys:=c.1,bX:=c.2.1},c.2.2)
def nH(x:In)(at' f:Nat)(l:az)(s:RS):In × RS:=
 let sz:=if x.wide=true then 2 else 1
 if f=1 then(x,cg 14 at' s)
 else if f=2 then({x with A:=(fE l 1 s).1},(fE l 1 s).2)
 else if f=3 then({x with A:=(fE l 2 s).1},(fE l 2 s).2)
 else if f=4 then({x with A:=(aA l 1 s).1},(aA l 1 s).2)
 else if f=5 then({x with A:=(aA l 2 s).1},(aA l 2 s).2)
 else if f=6 then({x with A:=(aA l sz s).1},(aA l sz s).2)
 else if f=7 then({x with A:=(aA l sz s).1,B:=(fE l sz (aA l sz s).2).1},(fE l sz (aA l sz s).2).2)
 else if f=8 then({x with bX:=[(at':Int)+(fE l 2 s).1]},(fE l 2 s).2)
 else if f=9 then({x with bX:=[(at':Int)+(fE l 4 s).1]},(fE l 4 s).2)
 else if f=10∨f=11 then sM x at' f l s
 else if f=12 then
  let a:=aA l 2 s
  let b:=aA l 1 a.2
  let c:=aA l 1 b.2
  ({x with A:=a.1,B:=b.1},if c.1≠0∨b.1=0 then cg 15 at' c.2 else c.2)
 else if f=13 then({x with A:=(aA l 1 s).1},if(aA l 1 s).1<4∨11<(aA l 1 s).1 then cg 15 at' (aA l 1 s).2 else(aA l 1 s).2)
 else if f=14 then
  let a:=aA l 2 s
  let b:=aA l 1 a.2
  ({x with A:=a.1,B:=b.1},if b.1=0 then cg 15 at' b.2 else b.2)
 else(x,s)
def jZ(p op:Nat)(w:Bool):In:=⟨p,op,w,0,0,0,[],[]⟩
def sN(l:az)(s:RS):In × RS:=
 let o:=aA l 1 s
 if d6 o.1=15 then
  let o2:=aA l 1 o.2
  if d6 o2.1≠6∧d6 o2.1≠7 then(jZ s.p o2.1 true,cg 14 s.p o2.2)
  else nH (jZ s.p o2.1 true) s.p (d6 o2.1) l o2.2
 else nH (jZ s.p o.1 false) s.p (d6 o.1) l o.2
def xk(l:az):Nat→List In→RS→List In × RS
 |0,xs,s=>(xs,s)
 |k+1,xs,s=>if s.p<l.length∧s.e=0 then xk l k (xs++[(sN l s).1]) (sN l s).2 else(xs,s)
def RJ(n:Nat)(eU:List Int)(t:Int):Bool:= !(decide (0≤t)&&decide (t<n)&&eU.contains t)
def Ge(n:Nat)(eU:List Int)(a:Nat):List Int→RS→RS
 |[],s=>s
 |t::r,s=>Ge n eU a r (if RJ n eU t=true then cg 16 a s else s)
def Cp(n:Nat)(eU:List Int):List In→RS→RS
 |[],s=>s
 |x::r,s=>Cp n eU r (Ge n eU x.at'.toNat x.bX s)
def Px(l:az)(r:List In × RS):List In × Nat × Nat:=
 let s:=Cp l.length (r.1.map In.at') r.1 r.2
 if s.e≠0 then([],s.e,s.es)else(r.1,0,0)
def j0(l:az):List In × Nat × Nat:=
 if l.length=0∨65535<l.length then([],12,0)else Px l (xk l l.length [] ⟨0,0,0⟩)
def Ok(l:az)(s s':RS):Prop:=s.p≤s'.p∧(s.p≤l.length→s'.p≤l.length)∧(s'.e≤16∨s'.e=s.e)∧(s'.es≤l.length∨s'.es=s.es)
theorem Ok.refl(l:az)(s:RS):Ok l s s:=⟨awp _,id,axb rfl,axb rfl⟩
theorem Ok.trans{l:az}{a b c:RS}(H:Ok l a b)(K:Ok l b c):Ok l a c:=by
 obtain⟨h1,h2,h3,h4⟩:=H;obtain⟨k1,k2,k3,k4⟩:=K;refine⟨by omega,fun h=>k2 (h2 h),?_,?_⟩
 ·rcases k3 with k|k
  ·exact axa k
  ·rw[k];exact h3
 ·rcases k4 with k|k
  ·exact axa k
  ·rw[k];exact h4
theorem qK(l:az)(e q:Nat)(s:RS)(he:e≤16)(hq:q≤l.length):Ok l s (cg e q s):=by
 unfold cg
 split
 ·exact⟨awp _,id,axa he,axa hq⟩
 ·exact Ok.refl _ _
theorem lE(l:az)(n:Nat)(s:RS):Ok l s (aA l n s).2:=by
 unfold aA cV
 split
 ·exact Ok.refl _ _
 ·rename_i he
  split
  ·exact⟨awp _,id,axa (show 1≤16 by decide),axa (awp _)⟩
  ·exact⟨Nat.le_add_right _ _,fun _=>by simp only;omega,axa (show 0≤16 by decide),axb rfl⟩
theorem qL(l:az)(n:Nat)(s:RS):Ok l s (fE l n s).2:=lE l n s
theorem MQ(l:az)(s a b:RS)(c:Prop) [Decidable c](h1:Ok l s a)(h2:Ok l s b):Ok l s (if c then a else b):=by
 split<;>assumption
theorem akg(l:az)(at':Nat)(ha:at'≤l.length):∀(k:Nat)(s:RS),Ok l s (xj l at' k s):=by
 intro k
 induction k with
 |zero=>intro s;exact Ok.refl _ _
 |succ k ih=>
  intro s;rw[xj]
  split
  ·exact Ok.refl _ _
  ·refine Ok.trans (MQ l s _ _ _ ((lE l 1 s).trans (qK l 15 at' _ (by decide) ha)) (lE l 1 s)) (ih _)
theorem akh(f:Nat)(l:az)(at':Nat)(ha:at'≤l.length)(ks:List Int)(s:RS):Ok l s (Co f l at' ks s).2:=by
 unfold Co
 split
 ·exact MQ l s _ _ _ ((qL l 4 s).trans (qK l 15 at' _ (by decide) ha)) (qL l 4 s)
 ·exact Ok.refl _ _
theorem YT(f:Nat)(l:az)(at':Nat)(ha:at'≤l.length):∀(r:Nat)(c:KT),Ok l c.2.2 (mF f l at' r c).2.2:=by
 intro r
 induction r with
 |zero=>intro c;exact Ok.refl _ _
 |succ r ih=>
  intro c;rw[mF]
  split
  ·exact Ok.refl _ _
  ·exact((akh f l at' ha c.1 c.2.2).trans (qL l 4 _)).trans (ih ((Co f l at' c.1 c.2.2).1,c.2.1++[(at':Int)+(fE l 4 (Co f l at' c.1 c.2.2).2).1],(fE l 4 (Co f l at' c.1 c.2.2).2).2))
theorem aki(x:In)(at' f:Nat)(l:az)(s:RS)(ha:at'≤l.length):Ok l s (sM x at' f l s).2:=by
 have h1:=((akg l at' ha 4 s).trans (qL l 4 _)).trans (qL l 4 _);unfold sM;simp only
 split
 ·have h2:=h1.trans (qL l 4 _)
  split
  ·exact h2.trans (qK l 15 at' _ (by decide) ha)
  ·exact h2.trans (YT f l at' ha _ ([],_,_))
 ·split
  ·exact h1.trans (qK l 15 at' _ (by decide) ha)
  ·exact h1.trans (YT f l at' ha _ ([],_,_))
theorem acE(x:In)(at' f:Nat)(l:az)(s:RS)(ha:at'≤l.length):Ok l s (nH x at' f l s).2:=by
 have hi:∀(c:Prop) [Decidable c](y z:In × RS),Ok l s y.2→Ok l s z.2→Ok l s (if c then y else z).2:=by
  intro c _ y z hy hz
  split<;>assumption
 unfold nH;simp only;refine hi _ _ _ (qK l 14 at' _ (by decide) ha) (hi _ _ _ (qL ..) (hi _ _ _ (qL ..) (hi _ _ _ (lE ..) (hi _ _ _ (lE ..) (hi _ _ _ (lE ..) (hi _ _ _ ((lE ..).trans (qL ..)) (hi _ _ _ (qL ..) (hi _ _ _ (qL ..) (hi _ _ _ (aki x at' f l s ha) (hi _ _ _ ?_ (hi _ _ _ ?_ (hi _ _ _ ?_ (Ok.refl _ _)))))))))))))
 ·have h1:=((lE l 2 s).trans (lE l 1 _)).trans (lE l 1 _)
  exact MQ l s _ _ _ (h1.trans (qK l 15 at' _ (by decide) ha)) h1
 ·exact MQ l s _ _ _ ((lE l 1 s).trans (qK l 15 at' _ (by decide) ha)) (lE l 1 s)
 ·have h1:=(lE l 2 s).trans (lE l 1 _)
  exact MQ l s _ _ _ (h1.trans (qK l 15 at' _ (by decide) ha)) h1
theorem Oi(l:az)(s:RS)(h1:s.p<l.length)(h2:s.e=0):(aA l 1 s).2.p=s.p+1∧(aA l 1 s).2.e=0:=by
 unfold aA cV;rw[av9 (by omega),av9 (by omega)];exact⟨rfl,rfl⟩
theorem ok_one(l:az)(s:RS)(ha:s.p≤l.length):Ok l s (sN l s).2∧(s.p<l.length→s.e=0→s.p+1≤(sN l s).2.p):=by
 have key:∀r:RS,Ok l (aA l 1 s).2 r→Ok l s r∧(s.p<l.length→s.e=0→s.p+1≤r.p):=by
  intro r hr;refine⟨(lE l 1 s).trans hr,fun h1 h2=>?_⟩;have:=(Oi l s h1 h2).1;have:=hr.1;omega
 unfold sN;simp only
 split
 ·split
  ·exact key _ ((lE l 1 _).trans (qK l 14 s.p _ (by decide) ha))
  ·exact key _ ((lE l 1 _).trans (acE _ s.p _ l _ ha))
 ·exact key _ (acE _ s.p _ l _ ha)
section
theorem aec(x n:Nat)(hn:n=1∨n=2∨n=4)(hx:x<256^n)(h:ar):
 aF Tryz.prog 310 #[ao x,ao n] h fun v h'=>h'=h∧v=ao (kI x n):=by
 refine HE (args:=[ao x,ao n]) rfl ?_;rcases hn with rfl|rfl|rfl
 ·have hx:x<256:=hx
  rw[show((1:Nat):Int)=1 from rfl];by_cases g:128≤x
  ·have g':(128:Int)≤x:=by omega
   have e:kI x 1=(x:Int)-256:=by unfold kI;rw[awa (by simpa using g)];rfl
   rw[e];simp(disch:=omega)only[jH,ae,seval,g',Int.reduceMul,Int.reduceSub]
  ·have g':¬(128:Int)≤x:=by omega
   have e:kI x 1=(x:Int):=by unfold kI;rw[av9 (by simpa using g)]
   rw[e];simp(disch:=omega)only[jH,ae,seval,g',Int.reduceMul,Int.reduceSub]
 ·have hx:x<65536:=hx
  rw[show((2:Nat):Int)=2 from rfl];by_cases g:32768≤x
  ·have g':(32768:Int)≤x:=by omega
   have e:kI x 2=(x:Int)-65536:=by unfold kI;rw[awa (by simpa using g)];rfl
   rw[e];simp(disch:=omega)only[jH,ae,seval,g',Int.reduceMul,Int.reduceSub]
  ·have g':¬(32768:Int)≤x:=by omega
   have e:kI x 2=(x:Int):=by unfold kI;rw[av9 (by simpa using g)]
   rw[e];simp(disch:=omega)only[jH,ae,seval,g',Int.reduceMul,Int.reduceSub]
 ·have hx:x<4294967296:=hx
  rw[show((4:Nat):Int)=4 from rfl];by_cases g:2147483648≤x
  ·have g':(2147483648:Int)≤x:=by omega
   have e:kI x 4=(x:Int)-4294967296:=by unfold kI;rw[awa (by simpa using g)];rfl
   rw[e];simp(disch:=omega)only[jH,ae,seval,g',Int.reduceMul,Int.reduceSub]
  ·have g':¬(2147483648:Int)≤x:=by omega
   have e:kI x 4=(x:Int):=by unfold kI;rw[av9 (by simpa using g)]
   rw[e];simp(disch:=omega)only[jH,ae,seval,g',Int.reduceMul,Int.reduceSub]
theorem aed(x n:Nat)(hn:n=1∨n=2∨n=4)(hx:x<256^n): -2147483648≤kI x n∧kI x n<2147483648:=by
 unfold kI;rcases hn with rfl|rfl|rfl
 ·have hx:x<256:=hx
  split<;>simp<;>omega
 ·have hx:x<65536:=hx
  split<;>simp<;>omega
 ·have hx:x<4294967296:=hx
  have:(128*256^(4-1):Nat)=2147483648:=rfl;have h2:((256^4:Nat):Int)=4294967296:=rfl;rw[h2]
  split<;>omega
theorem k9(l:az)(n:Nat)(s:RS)(hn:n=1∨n=2∨n=4): -2147483648≤(fE l n s).1∧(fE l n s).1<2147483648:=aed _ n hn dJ
section
variable{h:ar}{g:Nat}{l:az}{s:RS}
theorem mS(n:Nat)(hn:n=1∨n=2∨n=4)(hl:l.length≤1073741824)(H:eF h g l s):
 aF Tryz.prog 256 #[.agg #[aE g],ao n] h fun v h'=>Fr (fun k=>k=g) h h'∧eF h' g l (fE l n s).2∧v=ao (fE l n s).1:=by
 refine Ew (args:=[.agg #[aE g],ao n]) rfl ?_;simp only[uO,ae,seval];refine cT ?_;have E:=Ext.push h (.cells #[aE g] 284);have H1:=H.fr E id;have c0:cellAt (h.push (.cells #[aE g] 284)) ⟨h.size,0,none⟩=some (aE g):=by rw[fo];rfl
 simp only[uO,ae,seval,c0];generalize h.push _=h1 at*;refine aj rfl (dU n hl (by omega) H1) ?_;rintro v2 h2⟨f2,r2,rfl⟩;simp only[ae,seval];refine aj rfl (aec _ n hn dJ h2) ?_;rintro v3 h3⟨rfl,rfl⟩;simp only[ae,seval];exact⟨Fr.trans E f2 (fun _ _ h=>h.elim) (fun _ _ h=>h),r2,rfl⟩
end
def XR(h:ar)(base q:Nat)(x:In):Prop:=∃vk vt,h[q]? =some (.cells (fu x vk vt).toArray 204 (0,0))∧Own h base 3 1 vk x.keys.length (eI x.keys)∧Own h base 3 1 vt x.bX.length (eI x.bX)∧∀k,vk.ownBlock=some k→¬vt.ownBlock=some k
theorem XR.fr{S:Nat→Prop}{h h':ar}{base q:Nat}{x:In}(H:XR h base q x)(hf:Fr S h h')(hq:¬S q)(hS:∀k,k<h.size→S k→(∃cs t fz,h[k]? =some (.cells cs t fz)∧t≠3)):XR h' base q x:=by
 obtain⟨vk,vt,h1,h2,h3,h4⟩:=H;refine⟨vk,vt,ay hf h1 hq,h2.fr hf ?_,h3.fr hf ?_,h4⟩
 ·intro k hk hs
  obtain⟨cs,t,fz,e1,e2⟩:=hS k (h2.lt k hk).2 hs;exact bK h2 e1 (Ne.symm e2) hk
 ·intro k hk hs
  obtain⟨cs,t,fz,e1,e2⟩:=hS k (h3.lt k hk).2 hs;exact bK h3 e1 (Ne.symm e2) hk
theorem XR.lt{h:ar}{base q:Nat}{x:In}(H:XR h base q x):q<h.size:=by
 obtain⟨vk,vt,h1,_⟩:=H;exact(awd.1 h1).1
structure DS(h h':ar)(g q bd:Nat)(l:az)(x:In)(s:RS):Prop where
 fr:Fr (fun k=>k=g∨k=q) h h'
 rd:eF h' g l s
 xr:XR h' h.size q x
 bx:h'[bd]? =some (.cells #[aE g] 284 (0,0))
theorem eF.akj{h:ar}{g:Nat}{l:az}{s:RS}(H:eF h g l s):∃cs t fz,h[g]? =some (.cells cs t fz)∧t≠3:=⟨_,_,_,H.1,by decide⟩
section
variable{h h1 h2:ar}{g q bd:Nat}{l:az}{x:In}{s s':RS}
theorem DS.gq(H:DS h h1 g q bd l x s):q≠g∧bd≠g∧bd≠q:=by
 obtain⟨vk,vt,k1,_⟩:=H.xr;have k2:=H.rd.1;have k3:=H.bx;refine⟨?_,?_,?_⟩
 ·intro e;subst e;rw[k1]at k2;cases k2
 ·intro e;subst e;rw[k3]at k2;cases k2
 ·intro e;subst e;rw[k3]at k1;cases k1
theorem DS.step(H:DS h h1 g q bd l x s)(f:Fr (fun k=>k=g) h1 h2)(r:eF h2 g l s'):DS h h2 g q bd l x s':=by
 obtain⟨e1,e2,_⟩:=H.gq;refine⟨Fr.trans H.fr f (fun _ _ h=>h) (fun _ _ h=>axa h),r,H.xr.fr f e1 ?_,ay f H.bx e2⟩;intro k hk hs;subst hs;exact H.rd.akj
theorem DS.cells(H:DS h h1 g q bd l x s):cellAt h1 ⟨q,0,none⟩=some (ao x.at')∧cellAt h1 ⟨q,1,none⟩=some (bH x.op)∧cellAt h1 ⟨q,2,none⟩=some (.bool x.wide)∧cellAt h1 ⟨q,3,none⟩=some (ao x.A)∧cellAt h1 ⟨q,4,none⟩=some (ao x.B)∧cellAt h1 ⟨q,5,none⟩=some (ao x.low)∧cellAt h1 ⟨bd,0,none⟩=some (aE g)∧ld Tryz.prog 284 ⟨bd,0,none⟩ h1=some (.agg #[aE g]):=by
 obtain⟨vk,vt,k1,_⟩:=H.xr;refine⟨by rw[au k1];rfl,by rw[au k1];rfl,by rw[au k1];rfl,by rw[au k1];rfl,by rw[au k1];rfl,by rw[au k1];rfl,by rw[au H.bx];rfl,?_⟩;exact aS KD (vs:=[aE g]) (fun j v hv=>by rw[au H.bx,aw2];simpa using hv) rfl
theorem DS.set(H:DS h h1 g q bd l x s)(o:Nat)(v:Value)(x':In)(hk:x'.keys=x.keys)(ht:x'.bX=x.bX)(hv:∀vk vt,(fu x vk vt).toArray.setIfInBounds o v=(fu x' vk vt).toArray):
 DS h (setAt h1 ⟨q,o,none⟩ v) g q bd l x' s:=by
 obtain⟨e1,e2,e3⟩:=H.gq;obtain⟨vk,vt,k1,k2,k3,k4⟩:=H.xr;have f:Fr (fun k=>k=q) h1 (setAt h1 ⟨q,o,none⟩ v):=Fr.set (S:=fun k=>k=q) _ _ _ fun _=>rfl;have b1:=bu (o:=o) k1 v;rw[hv]at b1;refine⟨Fr.trans H.fr f (fun _ _ h=>h) (fun _ _ h=>axb h),H.rd.fr f (Ne.symm e1),⟨vk,vt,b1,?_,?_,k4⟩,ay f H.bx e3⟩
 ·rw[hk];exact k2.fr f fun k hk hS=>by subst hS;exact bK k2 k1 (by decide) hk
 ·rw[ht];exact k3.fr f fun k hk hS=>by subst hS;exact bK k3 k1 (by decide) hk
theorem DS.fW(H:DS h h1 g q bd l x s)(o:Nat):frozenAt h1 ⟨q,o,none⟩=false:=by
 obtain⟨vk,vt,k1,_⟩:=H.xr;simp[frozenAt,k1]
theorem DS.size(H:DS h h1 g q bd l x s):h.size≤h1.size:=H.fr.size
theorem DS.RL(H:DS h h1 g q bd l x s)(n:Int):
 DS h (setAt (h1.push (.cells #[ao n] 3)) ⟨q,7,none⟩ (.slice (some ⟨h1.size,0,none⟩) 1 1)) g q bd l {x with bX:=[n]} s:=by
 obtain⟨e1,e2,e3⟩:=H.gq;obtain⟨vk,vt,k1,k2,k3,k4⟩:=H.xr;have E:=Ext.push h1 (.cells #[ao n] 3);have hs:=H.size;have f:Fr (fun k=>k=q) (h1.push (.cells #[ao n] 3)) (setAt (h1.push (.cells #[ao n] 3)) ⟨q,7,none⟩ (.slice (some ⟨h1.size,0,none⟩) 1 1)):=Fr.set (S:=fun k=>k=q) _ _ _ fun _=>rfl;have k1':=dw (o':= .cells #[ao n] 3) k1;have b1:=bu (o:=7) k1' (.slice (some ⟨h1.size,0,none⟩) 1 1);have Gf:Own (h1.push (.cells #[ao n] 3)) h.size 3 1 (.slice (some ⟨h1.size,0,none⟩) 1 1) 1 [ao n]:=Own.new (vs:=[ao n]) rfl (by decide) hs;refine⟨Fr.trans (Fr.trans H.fr E (fun _ _ h=>h) (fun _ _ h=>h.elim)) f (fun _ _ h=>h) (fun _ _ h=>axb h),(H.rd.fr E id).fr f (Ne.symm e1),⟨vk,_,b1,?_,?_,?_⟩,ay f (ay E H.bx id) e3⟩
 ·exact(k2.ext E).fr f fun k hk hS=>by subst hS;exact bK (k2.ext E) k1' (by decide) hk
 ·exact Gf.fr f fun k hk hS=>by subst hS;exact bK Gf k1' (by decide) hk
 ·intro k hk qM
  simp only[Value.ownBlock,awe]at qM;have:=(k2.lt k hk).2;omega
end
end
end Go.Proofs.YtmbboehmnfhjjaaGreatDoor
