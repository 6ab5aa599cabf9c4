/- A class checked, by the reference. Classes out of bytes: what is read (plain). pool.Units: the closure that reads a byte more. The reference's units. The reference's sizes. -/
import Derived.Test.YtmbboehmnfhjjaaGreatDoorU24
import Derived.Test.YtmbboehmnfhjjaaGreatDoorU11
import Derived.Test.YtmbboehmnfhjjaaGreatDoorU20
import Derived.Test.YtmbboehmnfhjjaaGreatDoorU5
import Derived.Test.YtmbboehmnfhjjaaGreatDoorU10
set_option maxRecDepth 100000
set_option maxHeartbeats 1600000
set_option linter.unusedSimpArgs false
set_option linter.unusedVariables false
set_option linter.defProp false
namespace Go.Proofs.YtmbboehmnfhjjaaGreatDoor
open Go.Vc
section
section
variable{h:ar}{c:iP}{vp vi vf vm:Value}
theorem OB(hC:sO h c vp vi vf vm)(F:CF c)(L:CL c):
 aF Tryz.prog 39 #[.agg (mP c vp vi vf vm).toArray] h fun v h'=>Ext h h'∧v=acL (lI c):=by
 have hL1:=F.len;obtain⟨_,ap,cp,Sm,_⟩:=id hC.p;obtain⟨_,ai,ci,hvi,_⟩:=id hC.i;obtain⟨_,af,cf,hvf,_⟩:=id hC.f;obtain⟨rws,_,qQ,_⟩:=id hC.m;obtain⟨_,am,cm,hvm,_⟩:=id qQ;subst Sm hvi hvf hvm;simp only[mP];refine EQ (args:=[.agg #[ax c.minor,ax c.major,ax c.flags,ax c.this,ax c.super, .slice ap c.pool.length cp, .slice ai c.ifs.length ci, .slice af c.fields.length cf, .slice am c.methods.length cm]]) rfl ?_;simp only[de,ae,seval];refine cT ?_;have E:=Ext.push h (.cells #[ax c.minor,ax c.major,ax c.flags,ax c.this,ax c.super, .slice ap c.pool.length cp, .slice ai c.ifs.length ci, .slice af c.fields.length cf, .slice am c.methods.length cm] 96);have CB1:CB (h.push (.cells #[ax c.minor,ax c.major,ax c.flags,ax c.this,ax c.super, .slice ap c.pool.length cp, .slice ai c.ifs.length ci, .slice af c.fields.length cf, .slice am c.methods.length cm] 96)) h.size c (.slice ap c.pool.length cp) (.slice ai c.ifs.length ci) (.slice af c.fields.length cf) (.slice am c.methods.length cm):=⟨by simp[mP],hC.ext E⟩;simp only[de,ae,seval];generalize h.push _=h1,h.size=q at*;have bm:=aS mR (aN CB1.blk) rfl;simp only[mP]at bm;simp only[ae,seval,bm];refine cT ?_;have E2:=Ext.push h1 (.cells #[ax c.minor,ax c.major,ax c.flags,ax c.this,ax c.super, .slice ap c.pool.length cp, .slice ai c.ifs.length ci, .slice af c.fields.length cf, .slice am c.methods.length cm] 181);have RB2:RB (h1.push (.cells #[ax c.minor,ax c.major,ax c.flags,ax c.this,ax c.super, .slice ap c.pool.length cp, .slice ai c.ifs.length ci, .slice af c.fields.length cf, .slice am c.methods.length cm] 181)) h1.size c (.slice ap c.pool.length cp) (.slice ai c.ifs.length ci) (.slice af c.fields.length cf) (.slice am c.methods.length cm):=⟨by simp[mP],(hC.ext E).ext E2⟩;have Zl:=CB1.ext E2;simp only[de,ae,seval];generalize h1.push _=h2,h1.size=g at*;have xx2:=E.trans E2;have p5:cellAt h2 ⟨q,5,none⟩=some (.slice ap c.pool.length cp):=Zl.at rfl;simp only[ae,seval,p5];refine aG [1,6,20,21,22] (fun m ρ hc=>∃i:Nat,m=c.pool.length-i∧i≤c.pool.length∧
  ρ=[(1,aE q),(6,nU g),(20, .slice ap c.pool.length cp),(21,ao c.pool.length),(22,ao i)]∧Ext h2 hc∧
  mg c.pool 0 c.pool=mg c.pool i (c.pool.drop i)∧∀j,j<i→jL c.pool (c.pool.getD j aX.zero)=0) ?_ ?_
 ·simp only[ae,seval]
  exact⟨_,0,rfl,awb _,rfl,Ext.refl _,by simp,fun j hj=>aww hj (awq _)⟩
 rintro m ρ hc⟨i,rfl,hi,rfl,hx,ye,jV⟩;by_cases aV:i<c.pool.length
 ·have aK:(i:Int)<(c.pool.length:Int):=by omega
  have w1:=gU (k:=i) (by omega);obtain⟨b,o,c',heq,di,_⟩:=(Zl.ext hx).cls.p.at aV;cases heq;rw[iu aV]at di;rw[gL (d:=aX.zero) aV,mg]at ye;have vB:=F.fit.pool _ (dF (d:=aX.zero) aV);have Sy:jL c.pool (c.pool.getD i aX.zero)=0→∀j,j<i+1→jL c.pool (c.pool.getD j aX.zero)=0:=by
   intro h0 j hj;rcases Nat.lt_or_ge j i with lR|lR
   ·exact jV j lR
   ·rw[show j=i by omega];exact h0
  generalize c.pool.getD i aX.zero=k at*;have bm:=aS eA di rfl;simp only[aX.cells]at bm;simp(disch:=omega)only[de,ae,seval,aK,bm];refine aD gi ?_;simp only[ae,seval];refine aI gi rfl rfl rfl (by simp[Value.cells,oneCell,str]) rfl ?_;intro h3 x3 _ _ b3;change h3[hc.size]? =some (MW k)at b3;have iG:=hx.trans x3;have cl:=WE b3;generalize hc.size=q3 at*;simp only[de,ae,seval,cl];refine aj rfl (Qw (RB2.ext iG) F k vB) ?_;rintro v4 h4⟨x4,rfl⟩;have WR:=(xx2.trans iG).trans x4;by_cases h0:jL c.pool k=0
  ·rw[av9 (by simp[h0])]at ye
   simp(disch:=omega)only[de,ae,seval,w1,va];exact⟨c.pool.length-(i+1),by omega,i+1,rfl,by omega,rfl,iG.trans x4,ye,Sy h0⟩
  ·rw[awa h0]at ye
   have hz:lI c=((jL c.pool k:Int),0,(i:Int),0):=by unfold lI;rw[ye]
   rw[hz];simp(disch:=omega)only[de,ae,seval,va];exact⟨WR,rfl⟩
 have aK:¬(i:Int)<(c.pool.length:Int):=by omega
 rw[awV (by omega)]at ye;have hp:∀x∈c.pool,jL c.pool x=0:=by
  intro x hxm;obtain⟨j,hj,rfl⟩:=List.getElem_of_mem hxm;have:=jV j (by omega);simpa[hj]using this
 have RBc:=RB2.ext hx;have xxc:=xx2.trans hx;simp only[de,ae,seval,aK];refine aj rfl (Uc RBc F hp L.i) ?_;rintro v5 h5⟨x5,rfl⟩;have A8:=xxc.trans x5;by_cases hit:oE c=0
 case neg=>
  have hz:lI c=((oE c:Int),1,0,0):=by unfold lI;rw[ye];simp only[mg];rw[awa hit]
  rw[hz];simp(disch:=omega)only[de,ae,seval,va];exact⟨A8,rfl⟩
 have RB5:=RBc.ext x5;have Sb:∀r,oM c.flags c.pool 0 [] c.fields=some r→lI c=((r.1:Int),2,(r.2:Int),0):=by
  intro r hr;unfold lI;rw[ye];simp only[mg];rw[av9 (by simp[hit]),hr]
 have hz2:oM c.flags c.pool 0 [] c.fields=none→∀r,tj c.flags c.pool 0 [] c.methods=some r→lI c=(r.1.1,3,(r.2:Int),r.1.2):=by
  intro hf r hr;unfold lI;rw[ye];simp only[mg];rw[av9 (by simp[hit]),hf];simp only[];rw[hr]
 have hz3:oM c.flags c.pool 0 [] c.fields=none→tj c.flags c.pool 0 [] c.methods=none→lI c=(0,0,0,0):=by
  intro hf hr;unfold lI;rw[ye];simp only[mg];rw[av9 (by simp[hit]),hf];simp only[];rw[hr]
 have CB5:=(Zl.ext hx).ext x5;have p7:cellAt h5 ⟨q,7,none⟩=some (.slice af c.fields.length cf):=CB5.at rfl;simp(disch:=omega)only[de,ae,seval,p7,va];refine aG [1,6,42,43] (fun m ρ hd=>∃i:Nat,m=c.fields.length-i∧i≤c.fields.length∧
  ρ=[(1,aE q),(6,nU g),(42,ao c.fields.length),(43,ao i)]∧Ext h5 hd∧
  oM c.flags c.pool 0 [] c.fields=oM c.flags c.pool i ((c.fields.take i).map (IP c.pool)) (c.fields.drop i)) ?_ ?_
 ·simp only[ae,seval]
  exact⟨_,0,rfl,awb _,rfl,Ext.refl _,by simp⟩
 rintro m ρ hd⟨j,rfl,hj,rfl,rR,Gt⟩;by_cases ji:j<c.fields.length
 ·have KZ:(j:Int)<(c.fields.length:Int):=by omega
  have w1:IntKind.i64.wrap ((j:Int)+1)=((j+1:Nat):Int):=by have:=L.f;rw[wrap_i64 (by omega) (by omega)];omega
  rw[gL (d:=fC.zero) ji,oM]at Gt;have mq:(c.fields.take (j+1)).map (IP c.pool)=(c.fields.take j).map (IP c.pool)++[(bM c.pool (c.fields.getD j fC.zero).name,bM c.pool (c.fields.getD j fC.zero).type)]:=by
   rw[iU (d:=fC.zero) ji];simp[IP]
  simp only[de,ae,seval,KZ];refine aj rfl (WX (RB5.ext rR) F j ji L.f) ?_;rintro v8 h8⟨x8,rfl⟩;generalize c.fields.getD j fC.zero=f,(c.fields.take j).map (IP c.pool)=seen at*;by_cases h0:Pz c.flags c.pool seen f=0
  ·rw[av9 (by simp[h0])]at Gt
   rw[←mq]at Gt;simp(disch:=omega)only[de,ae,seval,w1,va];exact⟨c.fields.length-(j+1),by omega,j+1,rfl,by omega,rfl,rR.trans x8,Gt⟩
  ·rw[awa h0]at Gt
   rw[Sb _ Gt];simp(disch:=omega)only[de,ae,seval,va];exact⟨(A8.trans rR).trans x8,rfl⟩
 have KZ:¬(j:Int)<(c.fields.length:Int):=by omega
 rw[awV (by omega)]at Gt;have DU:oM c.flags c.pool 0 [] c.fields=none:=by rw[Gt];rfl
 have hz2:=hz2 DU;have hz3:=hz3 DU;have RBd:=RB5.ext rR;have KY:=A8.trans rR;have p8:cellAt hd ⟨q,8,none⟩=some (.slice am c.methods.length cm):=(CB5.ext rR).at rfl;simp only[de,ae,seval,KZ,p8];refine aG [6,56,57] (fun m ρ he=>∃i:Nat,m=c.methods.length-i∧i≤c.methods.length∧
  ρ=[(6,nU g),(56,ao c.methods.length),(57,ao i)]∧Ext hd he∧
  tj c.flags c.pool 0 [] c.methods=tj c.flags c.pool i ((c.methods.take i).map (Gw c.pool)) (c.methods.drop i)) ?_ ?_
 ·simp only[ae,seval]
  exact⟨_,0,rfl,awb _,rfl,Ext.refl _,by simp⟩
 rintro m ρ he⟨k,rfl,hk,rfl,WT,Gu⟩;by_cases nQ:k<c.methods.length
 ·have K8:(k:Int)<(c.methods.length:Int):=by omega
  have w1:IntKind.i64.wrap ((k:Int)+1)=((k+1:Nat):Int):=by have:=L.m;rw[wrap_i64 (by omega) (by omega)];omega
  rw[gL (d:=fj.zero) nQ,tj]at Gu;have hkb:=L.b _ (dF (d:=fj.zero) nQ);have hkh:=L.h _ (dF (d:=fj.zero) nQ);have mq:(c.methods.take (k+1)).map (Gw c.pool)=(c.methods.take k).map (Gw c.pool)++[(bM c.pool (c.methods.getD k fj.zero).name,bM c.pool (c.methods.getD k fj.zero).type)]:=by
   rw[iU (d:=fj.zero) nQ];simp[Gw]
  simp only[de,ae,seval,K8];refine aj rfl (Uf (RBd.ext WT) F k nQ L.m hkb hkh) ?_;rintro v8 h8⟨x8,rfl⟩;generalize c.methods.getD k fj.zero=f,(c.methods.take k).map (Gw c.pool)=seen at*;generalize MY c.flags c.pool seen f=ee at*;obtain⟨e1,e2⟩:=ee;by_cases h0:e1=0
  ·rw[av9 (by simp[h0])]at Gu
   rw[←mq]at Gu;simp(disch:=omega)only[de,ae,seval,w1,va];exact⟨c.methods.length-(k+1),by omega,k+1,rfl,by omega,rfl,WT.trans x8,Gu⟩
  ·rw[awa h0]at Gu
   rw[hz2 _ Gu];simp(disch:=omega)only[de,ae,seval,va];exact⟨(KY.trans WT).trans x8,rfl⟩
 have K8:¬(k:Int)<(c.methods.length:Int):=by omega
 rw[awV (by omega)]at Gu;rw[hz3 (by rw[Gu];rfl)];simp only[de,ae,seval,K8];exact⟨KY.trans WT,rfl⟩
end
end
def ky(p:List aX)(k:Nat):az:=if eV p k 1=true then(p.getD k aX.zero).text else []
abbrev Take(σ:Type):=az→Nat→Nat→σ→RS→Option (σ × RS)
def eS{σ:Type}(p:List aX)(l:az)(take:Take σ):Nat→σ→RS→σ × RS
 |0,x,s=>(x,s)
 |k+1,x,s=>
  if s.e≠0 then(x,s)
  else if(aA l 4 (if eV p (aA l 2 s).1 1=true then(aA l 2 s).2 else cg 7 s.p (aA l 2 s).2)).2.e≠0 then
   (x,(aA l 4 (if eV p (aA l 2 s).1 1=true then(aA l 2 s).2 else cg 7 s.p (aA l 2 s).2)).2)
  else
   let b:=aA l 4 (if eV p (aA l 2 s).1 1=true then(aA l 2 s).2 else cg 7 s.p (aA l 2 s).2)
   match take (ky p (aA l 2 s).1) s.p b.1 x b.2 with
   |none=>eS p l take k x (cV l b.1 b.2).2
   |some y=>eS p l take k y.1 (if y.2.p=b.2.p+b.1 then y.2 else cg 12 s.p y.2)
theorem jD{σ:Type}{p:List aX}{l:az}{take:Take σ}{k:Nat}{x:σ}{s:RS}(h:s.e≠0):eS p l take k x s=(x,s):=by
 cases k with
 |zero=>rfl
 |succ k=>rw[eS,awa h]
def pk(p:List aX)(l:az)(s:RS):Nat × RS:=aA l 4 (if eV p (aA l 2 s).1 1=true then(aA l 2 s).2 else cg 7 s.p (aA l 2 s).2)
theorem qS{σ:Type}{p:List aX}{l:az}{take:Take σ}{k:Nat}{x:σ}{s:RS}(h:s.e=0):
 eS p l take (k+1) x s=if(pk p l s).2.e≠0 then(x,(pk p l s).2)
  else match take (ky p (aA l 2 s).1) s.p (pk p l s).1 x (pk p l s).2 with
   |none=>eS p l take k x (cV l (pk p l s).1 (pk p l s).2).2
   |some y=>eS p l take k y.1 (if y.2.p=(pk p l s).2.p+(pk p l s).1 then y.2 else cg 12 s.p y.2):=by
 rw[eS,av9 (by simp[h])];rfl
def eo{α:Type}(f:RS→α × RS):Nat→List α→RS→List α × RS
 |0,xs,s=>(xs,s)
 |k+1,xs,s=>if s.e≠0 then(xs,s)else eo f k (xs++[(f s).1]) (f s).2
theorem mH{α:Type}{f:RS→α × RS}{k:Nat}{xs:List α}{s:RS}(h:s.e≠0):eo f k xs s=(xs,s):=by
 cases k with
 |zero=>rfl
 |succ k=>rw[eo,awa h]
def kR(seen:Bool)(q:Nat)(s:RS):RS:=if seen=true then cg 11 q s else s
def sP(l:az):Take (Bool × Nat):=fun name q _ x s=>if name=cvN then some ((true,(aA l 2 (kR x.1 q s)).1),(aA l 2 (kR x.1 q s)).2)else none
def d7(p:List aX)(l:az)(s:RS):fC × RS:=
 let a:=aA l 2 s
 let b:=aA l 2 a.2
 let c:=aA l 2 b.2
 let k:=aA l 2 c.2
 let r:=eS p l (sP l) k.1 (false,0) k.2
 (⟨a.1,b.1,c.1,r.1.2⟩,r.2)
def mh(l:az)(s:RS):ns × RS:=
 let a:=aA l 2 s
 let b:=aA l 2 a.2
 let c:=aA l 2 b.2
 let d:=aA l 2 c.2
 (⟨(a.1:Int),(b.1:Int),(c.1:Int),d.1⟩,d.2)
def IQ(l:az):Take (Bool × az):=fun name q n x s=>if name=smN then some ((true,(cV l n (kR x.1 q s)).1),(cV l n (kR x.1 q s)).2)else none
def iO(p:List aX)(l:az)(s:RS):vu × RS:=
 let a:=aA l 2 s
 let b:=aA l 2 a.2
 let n:=aA l 4 b.2
 let t:=cV l n.1 n.2
 let k:=aA l 2 t.2
 let hs:=eo (mh l) k.1 [] k.2
 let j:=aA l 2 hs.2
 let r:=eS p l (IQ l) j.1 (false,[]) j.2
 (⟨(a.1:Int),(b.1:Int),t.1,hs.1,r.1.2⟩,r.2)
def DK(p:List aX)(l:az):Take (Bool × vu):=fun name q _ x s=>if name=cdN then some ((true,(iO p l (kR x.1 q s)).1),(iO p l (kR x.1 q s)).2)else none
def Cs:vu:=⟨0,0,[],[],[]⟩
def bT(p:List aX)(l:az)(s:RS):fj × RS:=
 let a:=aA l 2 s
 let b:=aA l 2 a.2
 let c:=aA l 2 b.2
 let k:=aA l 2 c.2
 let r:=eS p l (DK p l) k.1 (false,Cs) k.2
 (⟨a.1,b.1,c.1,r.1.1,r.1.2⟩,r.2)
def noT:Take Unit:=fun _ _ _ _ _=>none
def jE(p:List aX)(l:az)(mi ma:Nat)(s:RS):iP × RS:=
 let a:=aA l 2 s
 let b:=aA l 2 a.2
 let c:=aA l 2 b.2
 let n1:=aA l 2 c.2
 let i:=eo (aA l 2) n1.1 [] n1.2
 let n2:=aA l 2 i.2
 let f:=eo (d7 p l) n2.1 [] n2.2
 let n3:=aA l 2 f.2
 let m:=eo (bT p l) n3.1 [] n3.2
 let n4:=aA l 2 m.2
 let z:=(eS p l noT n4.1 () n4.2).2
 (⟨mi,ma,a.1,b.1,c.1,p,i.1,f.1,m.1⟩,if z.p<l.length then cg 2 z.p z else z)
def M3:iP:=⟨0,0,0,0,0,[],[],[],[]⟩
def mj(r:iP × RS):iP × Nat × Nat:=if r.2.e≠0 then(M3,r.2.e,r.2.es)else(r.1,0,0)
theorem acN{l:az}{n:Nat}{s:RS}(h:s.e≠0):(aA l n s).2=s:=by
 unfold aA cV;simp[h]
theorem SE{p:List aX}{l:az}{mi ma:Nat}{s:RS}(h:s.e≠0):(jE p l mi ma s).2=s:=by
 have e1:=acN (l:=l) (n:=2) h;unfold jE;simp only[e1,mH h,jD h]
 split
 ·exact MG h
 ·rfl
def SF(l:az)(i:Nat):Value:=match je l i with
 |some x=> .tuple #[ax x, .bool true]
 |none=> .tuple #[ax 0, .bool false]
theorem uu{l:az}{i:Nat}(h:je l i=none):SF l i= .tuple #[ax 0, .bool false]:=by simp[SF,h]
theorem vF{l:az}{i x:Nat}(h:je l i=some x):SF l i= .tuple #[ax x, .bool true]:=by simp[SF,h]
theorem zV(l:az)(i:Int)(b:Nat)(h:ar)(hi:0≤i)(hb:cellAt h ⟨b,0,none⟩=some (str l)):
 aF Tryz.prog 299 #[ao i,aE b] h fun v h'=>h'=h∧v=SF l i.toNat:=by
 refine Ay (args:=[ao i,aE b]) rfl ?_;simp only[lr,ae,seval,hb];refine Nx (fun h1=>?_) (fun h1=>?_)
 ·simp only[lr,ae,seval,h1]
  exact(uu (av9 (by omega))).symm
 ·simp(disch:=omega)only[ae,seval,hb,h1,agz]
  refine Nx (fun h2=>?_) (fun h2=>?_)
  ·simp(disch:=omega)only[lr,ae,seval,hb,h2,aj4]
   exact(vF (awa (by omega))).symm
  ·simp only[lr,ae,seval,h2]
   exact(uu (av9 (by omega))).symm
theorem anG{u:Nat}(h1:0<u)(h2:u<128):enc u=[UInt8.ofNat u]:=awa ⟨h1,h2⟩
theorem ahH{u:Nat}(h1:¬(0<u∧u<128))(h2:u<2048):enc u=[UInt8.ofNat (192+u/64),UInt8.ofNat (128+u%64)]:=by rw[enc,av9 h1,awa h2]
theorem anH{u:Nat}(h1:¬u<2048):enc u=[UInt8.ofNat (224+u/4096),UInt8.ofNat (128+u/64%64),UInt8.ofNat (128+u%64)]:=by rw[enc,av9 (by omega),av9 h1]
theorem uw(u:Nat)(h:ar)(hu:u<65536):
 aF Tryz.prog 248 #[ao u] h fun v h'=>Ext h h'∧v=str (enc u):=by
 refine HZ (args:=[ao u]) rfl ?_;simp only[iS,ae,seval];by_cases hs:0<u∧u<128
 ·refine Lo (by omega) ?_
  simp only[ae,seval,show 0<(u:Int) by omega];refine Lo (by omega) ?_;simp(disch:=omega)only[iS,ae,seval,show(u:Int)<128 by omega];refine aU gI rfl rfl (by decide) ?_;simp only[ae,seval,anG hs.1 hs.2];exact Ext.push _ _
 ·by_cases hm:u<2048
  ·have e1:(192+(u:Int)/64).toNat=192+u/64:=by omega
   have e2:(128+(u:Int)%64).toNat=128+u%64:=by omega
   refine Nx (fun h1=>?_) (fun h1=>?_)
   ·simp only[iS,ae,seval,h1,show¬(u:Int)<128 by omega]
    refine Lo (by omega) ?_;simp(disch:=omega)only[iS,ae,seval,show(u:Int)<2048 by omega];refine aU gI rfl rfl (by decide) ?_;simp only[ae,seval,ahH hs hm,e1,e2];exact Ext.push _ _
   ·simp only[iS,ae,seval,h1]
    refine Lo (by omega) ?_;simp(disch:=omega)only[iS,ae,seval,show(u:Int)<2048 by omega];refine aU gI rfl rfl (by decide) ?_;simp only[ae,seval,ahH hs hm,e1,e2];exact Ext.push _ _
  ·have e0:(224+(u:Int)/4096).toNat=224+u/4096:=by omega
   have e1:(128+(u:Int)/64%64).toNat=128+u/64%64:=by omega
   have e2:(128+(u:Int)%64).toNat=128+u%64:=by omega
   refine Lo (by omega) ?_;simp(disch:=omega)only[iS,ae,seval,show 0<(u:Int) by omega,show¬(u:Int)<128 by omega,show¬(u:Int)<2048 by omega];refine aU gI rfl rfl (by decide) ?_;simp only[ae,seval,anH hm,e0,e1,e2];exact Ext.push _ _
def U7(k:IntKind)(e:TypeId)(base:Nat)(o:Option (List Nat))(v:Value)(h:ar):Prop:=match o with
 |none=>v= .tuple #[nS, .bool false]
 |some us=>∃sv,v= .tuple #[sv, .bool true]∧Own h base e 1 sv us.length (us.map fun u:Nat=> .int k (u:Int))
theorem abR(l:az)(h:ar)(hl:l.length≤1073741824):
 aF Tryz.prog 244 #[str l] h fun v h'=>Ext h h'∧U7 .u16 40 h.size (jK l) v h':=by
 refine ER (args:=[str l]) rfl ?_;simp only[cF,ae,seval];refine cT ?_;simp only[cF,ae,seval];refine aG [1,4,5,6] (fun m ρ hc=>∃(i:Nat)(us:List Nat)(out:Value),m=l.length-i∧i≤l.length∧us.length≤i∧
  ρ=[(1,aE h.size),(4,out),(5, .func (.func 299) #[] #[aE h.size]),(6,ao i)]∧
  Own hc (h.size+1) 40 1 out us.length (us.map fun u:Nat=>ax u)∧Ext (h.push (.cells #[str l] 9)) hc∧
  jK l=(gJ l (l.length-i) i).map fun r=>us++r) ?_ ?_
 ·simp only[ae,seval]
  exact⟨_,0,[],_,rfl,awb _,awp _,rfl,Own.nil,Ext.refl _,by simp[jK]⟩
 ·rintro m ρ hc⟨i,us,out,rfl,hi,hul,rfl,gQ,jN,hS⟩
  have hcell:cellAt hc ⟨h.size,0,none⟩=some (str l):=by
   rw[Fr.cell jN (by simp) (fun h=>h),fo];rfl
  have gB:h.size+1≤hc.size:=by have:=jN.size;simp at this;omega
  have hc8:=UInt8.toNat_lt (l.getD i 0);by_cases aV:i<l.length
  ·have aK:(i:Int)<l.length:=by omega
   have hmc:=fun(j:Nat)=>zV l (j:Int) h.size hc (by omega) hcell;by_cases a1:0<(l.getD i 0).toNat∧(l.getD i 0).toNat<128
   ·simp(disch:=omega)only[cF,ae,seval,hcell,aK,show 0<((l.getD i 0).toNat:Int) by omega,show((l.getD i 0).toNat:Int)<128 by omega]
    refine aU fL rfl rfl (by decide) ?_;simp only[ae,seval];refine bF fL rfl rfl (gQ.push _) rfl (bV (vs:=[ax ((l.getD i 0).toNat:Int)])) (by simp[oneCell]) (by omega) (by omega) (by simp;omega) ?_;intro v' h' iV nI _;simp(disch:=omega)only[cF,ae,seval];exact⟨l.length-(i+1),by omega,i+1,us++[(l.getD i 0).toNat],v',rfl,by omega,by simp;omega,by simp,by simpa using iV,
     Ext.app (jN.trans (Ext.push _ _)) nI (fun k hk=>by have:=(gQ.lt k hk).1;simpa using this),lB hS aV (aj5 a1)⟩
   ·by_cases a2:(l.getD i 0).toNat/32=6
    ·have b1:0<((l.getD i 0).toNat:Int):=by omega
     have b2:¬((l.getD i 0).toNat:Int)<128:=by omega
     have b3:(((l.getD i 0).toNat/32*32:Nat):Int)=192:=by omega
     simp(disch:=omega)only[cF,ae,seval,hcell,aK,b1,b2,ME,b3];refine dk ?_;simp only[ae,seval];refine(zV l ((i:Int)+1) h.size hc (by omega) hcell).mono ?_;rintro v h'⟨rfl,rfl⟩;rw[show((i:Int)+1).toNat=i+1 by omega];cases hm:je l (i+1)with
     |none=>
      rw[uu hm];simp(disch:=omega)only[cF,ae,seval,QB];rw[il hS aV (agC a2 hm)];exact⟨(Ext.push _ _).trans jN,rfl⟩
     |some x=>
      obtain⟨hx,hlx⟩:=zG hm;rw[vF hm];by_cases hu:(l.getD i 0).toNat%32*64+x<128∧(l.getD i 0).toNat%32*64+x≠0
      ·have c1:(((l.getD i 0).toNat%32*64+x:Nat):Int)<128:=by omega
       have c2:¬(((l.getD i 0).toNat%32*64+x:Nat):Int)=0:=by omega
       simp(disch:=omega)only[cF,ae,seval,QB,Yp,c1,c2];rw[il hS aV (agD a2 hm hu)];exact⟨(Ext.push _ _).trans jN,rfl⟩
      ·have c1:(decide ((((l.getD i 0).toNat%32*64+x:Nat):Int)<128)&&decide (¬(((l.getD i 0).toNat%32*64+x:Nat):Int)=0))=false:=by
        simp only[Bool.and_eq_false_iff,decide_eq_false_iff_not];omega
       have fin:∀(i0:Nat),i0=i→∀(v':Value)(SG:ar),Own SG (h.size+1) 40 1 v' (us.length+1) (us.map (fun u:Nat=>ax u)++[ax (((l.getD i 0).toNat%32*64+x:Nat):Int)])→
        Fr (fun k=>out.ownBlock=some k) (h'.push (.cells #[ax (((l.getD i 0).toNat%32*64+x:Nat):Int)] 40)) SG→
        ∃m',m'<l.length-i∧∃(i:Nat)(us:List Nat)(out:Value),m'=l.length-i∧i≤l.length∧us.length≤i∧
        [(1,Value.pointer (some ⟨h.size,0,none⟩)),(4,v'),(5, .func (.func 299) #[] #[aE h.size]),(6,ao ((i0:Int)+2))]=[(1,aE h.size),(4,out),(5, .func (.func 299) #[] #[aE h.size]),(6,ao i)]∧
        Own SG (h.size+1) 40 1 out us.length (us.map fun u:Nat=>ax u)∧Ext (h.push (.cells #[str l] 9)) SG∧
        jK l=(gJ l (l.length-i) i).map fun r=>us++r:=by
        intro i0 hi0 v' SG iV nI;subst hi0;exact⟨l.length-(i0+2),by omega,i0+2,us++[(l.getD i0 0).toNat%32*64+x],v',rfl,by omega,by simp;omega,by simp,by simpa using iV,
         Ext.app (jN.trans (Ext.push _ _)) nI (fun k hk=>by have:=(gQ.lt k hk).1;simpa using this),lB hS aV (aj6 a2 hm hu)⟩
       by_cases c3:(((l.getD i 0).toNat%32*64+x:Nat):Int)<128
       ·have c4:(((l.getD i 0).toNat%32*64+x:Nat):Int)=0:=by omega
        simp(disch:=omega)only[cF,ae,seval,QB,Yp,c3,av8 c4];refine aU fL rfl rfl (by decide) ?_;simp only[ae,seval];refine bF fL rfl rfl (gQ.push _) rfl (bV (vs:=[ax (((l.getD i 0).toNat%32*64+x:Nat):Int)])) (by simp[oneCell]) (by omega) (by omega) (by simp;omega) ?_;intro v' SG iV nI _;simp(disch:=omega)only[cF,ae,seval];exact fin i rfl v' SG iV nI
       ·simp(disch:=omega)only[cF,ae,seval,QB,Yp,c3]
        refine aU fL rfl rfl (by decide) ?_;simp only[ae,seval];refine bF fL rfl rfl (gQ.push _) rfl (bV (vs:=[ax (((l.getD i 0).toNat%32*64+x:Nat):Int)])) (by simp[oneCell]) (by omega) (by omega) (by simp;omega) ?_;intro v' SG iV nI _;simp(disch:=omega)only[cF,ae,seval];exact fin i rfl v' SG iV nI
    ·have b1:((l.getD i 0).toNat/16=14→0<((l.getD i 0).toNat:Int)):=by omega
     have b3:¬(((l.getD i 0).toNat/32*32:Nat):Int)=192:=by omega
     by_cases a3:(l.getD i 0).toNat/16=14
     ·have b1:0<((l.getD i 0).toNat:Int):=by omega
      have b2:¬((l.getD i 0).toNat:Int)<128:=by omega
      have b4:(((l.getD i 0).toNat/16*16:Nat):Int)=224:=by omega
      simp(disch:=omega)only[cF,ae,seval,hcell,aK,b1,b2,ME,Rp,b3,b4];refine dk ?_;simp only[ae,seval];refine(zV l ((i:Int)+1) h.size hc (by omega) hcell).mono ?_;rintro v h'⟨rfl,rfl⟩;rw[show((i:Int)+1).toNat=i+1 by omega];cases hm:je l (i+1)with
      |none=>
       rw[uu hm];simp(disch:=omega)only[cF,ae,seval];refine dk ?_;simp only[ae,seval];refine(zV l ((i:Int)+2) h.size h' (by omega) hcell).mono ?_;rintro v SG⟨rfl,rfl⟩;rw[show((i:Int)+2).toNat=i+2 by omega];cases qQ:je l (i+2)with
       |none=>
        rw[uu qQ];simp(disch:=omega)only[cF,ae,seval,MF];rw[il hS aV (Yq a3 hm)];exact⟨(Ext.push _ _).trans jN,rfl⟩
       |some y=>
        rw[vF qQ];simp(disch:=omega)only[cF,ae,seval,MF];rw[il hS aV (Yq a3 hm)];exact⟨(Ext.push _ _).trans jN,rfl⟩
      |some x=>
       obtain⟨hx,hlx⟩:=zG hm;rw[vF hm];simp(disch:=omega)only[cF,ae,seval];refine dk ?_;simp only[ae,seval];refine(zV l ((i:Int)+2) h.size h' (by omega) hcell).mono ?_;rintro v SG⟨rfl,rfl⟩;rw[show((i:Int)+2).toNat=i+2 by omega];cases qQ:je l (i+2)with
       |none=>
        rw[uu qQ];simp(disch:=omega)only[cF,ae,seval,MF];rw[il hS aV (agF a3 qQ)];exact⟨(Ext.push _ _).trans jN,rfl⟩
       |some y=>
        obtain⟨hy,hly⟩:=zG qQ;rw[vF qQ];have e1:(((l.getD i 0).toNat%16*64+x)*64+y)=(l.getD i 0).toNat%16*4096+x*64+y:=by omega
        by_cases hu:(l.getD i 0).toNat%16*4096+x*64+y<2048
        ·have c1:(((l.getD i 0).toNat%16*4096+x*64+y:Nat):Int)<2048:=by omega
         simp(disch:=omega)only[cF,ae,seval,MF,agA,Yp,e1,c1];rw[il hS aV (agE a3 hm qQ hu)];exact⟨(Ext.push _ _).trans jN,rfl⟩
        ·have c1:¬(((l.getD i 0).toNat%16*4096+x*64+y:Nat):Int)<2048:=by omega
         simp(disch:=omega)only[cF,ae,seval,MF,agA,Yp,e1,c1];refine aU fL rfl rfl (by decide) ?_;simp only[ae,seval];refine bF fL rfl rfl (gQ.push _) rfl (bV (vs:=[ax (((l.getD i 0).toNat%16*4096+x*64+y:Nat):Int)])) (by simp[oneCell]) (by omega) (by omega) (by simp;omega) ?_;intro v' h2 iV nI _;simp(disch:=omega)only[cF,ae,seval];exact⟨l.length-(i+3),by omega,i+3,us++[(l.getD i 0).toNat%16*4096+x*64+y],v',rfl,by omega,by simp;omega,by simp,by simpa using iV,
          Ext.app (jN.trans (Ext.push _ _)) nI (fun k hk=>by have:=(gQ.lt k hk).1;simpa using this),lB hS aV (aj7 a3 hm qQ hu)⟩
     ·have b4:¬(((l.getD i 0).toNat/16*16:Nat):Int)=224:=by omega
      by_cases c0:0<((l.getD i 0).toNat:Int)
      ·have b2:¬((l.getD i 0).toNat:Int)<128:=by omega
       simp(disch:=omega)only[cF,ae,seval,hcell,aK,c0,b2,ME,Rp,b3,b4];rw[il hS aV (acx a1 a2 a3)];exact⟨(Ext.push _ _).trans jN,rfl⟩
      ·simp(disch:=omega)only[cF,ae,seval,hcell,aK,c0,ME,Rp,b3,b4]
       rw[il hS aV (acx a1 a2 a3)];exact⟨(Ext.push _ _).trans jN,rfl⟩
  ·have aK:¬(i:Int)<l.length:=by omega
   simp only[cF,ae,seval,hcell,aK];rw[Pq hS aV];exact⟨(Ext.push _ _).trans jN,_,rfl,gQ.mono (by omega)⟩
theorem Zs(l:az)(h:ar)(hl:l.length≤1073741824):
 aF Tryz.prog 169 #[str l] h fun v h'=>Ext h h'∧U7 .i64 3 h.size (jK l) v h':=by
 refine ES (args:=[str l]) rfl ?_;simp only[bS,ae,seval];refine aG [0,4] (fun m ρ hc=>∃(i:Nat)(us:List Nat)(out:Value),m=l.length-i∧i≤l.length∧us.length≤i∧
  ρ=[(0,str (l.drop i)),(4,out)]∧Own hc h.size 3 1 out us.length (us.map fun u:Nat=>ao u)∧Ext h hc∧
  jK l=(gJ l (l.length-i) i).map fun r=>us++r) ?_ ?_
 ·simp only[ae,seval]
  exact⟨_,0,[],_,rfl,awb _,awp _,by rw[axd],Own.nil,Ext.refl _,by simp[jK]⟩
 ·rintro m ρ hc⟨i,us,out,rfl,hi,hul,rfl,gQ,jN,hS⟩
  have sg:(l.drop i).length=l.length-i:=by simp
  by_cases aV:i<l.length
  ·have cN:¬l.drop i=[]:=by intro e;rw[e]at sg;simp at sg;omega
   have hc8:=UInt8.toNat_lt (l.getD i 0);have hb8:=UInt8.toNat_lt (l.getD (i+1) 0);have hd8:=UInt8.toNat_lt (l.getD (i+2) 0);simp only[Nat.reducePow]at hc8 hb8 hd8;by_cases a3:224≤(l.getD i 0).toNat∧3≤l.length-i
   ·have hr:Ju l i=((l.getD i 0).toNat%16*4096+(l.getD (i+1) 0).toNat%64*64+(l.getD (i+2) 0).toNat%64,3):=by unfold Ju;simp only[];rw[awa a3]
    have eu:(((l.getD i 0).toNat:Int)%16*4096+((l.getD (i+1) 0).toNat:Int)%64*64+((l.getD (i+2) 0).toNat:Int)%64)=(((l.getD i 0).toNat%16*4096+(l.getD (i+1) 0).toNat%64*64+(l.getD (i+2) 0).toNat%64:Nat):Int):=by omega
    have c1:(224:Int)≤((l.getD i 0).toNat:Int):=by omega
    have c2:(3:Int)≤((l.length-i:Nat):Int):=by omega
    simp(disch:=omega)only[bS,ae,seval,cN,getD_drop,aws,c1,c2,eu];have hd:=uo aV;rw[hr]at hd;simp only[]at hd;refine aj rfl (uw ((l.getD i 0).toNat%16*4096+(l.getD (i+1) 0).toNat%64*64+(l.getD (i+2) 0).toNat%64) hc (by omega)) ?_;rintro v' h'⟨hx,rfl⟩;by_cases he:enc ((l.getD i 0).toNat%16*4096+(l.getD (i+1) 0).toNat%64*64+(l.getD (i+2) 0).toNat%64)=(l.drop i).take 3
    ·rw[awa he]at hd
     simp(disch:=omega)only[bS,ae,seval,av8 he];refine aU dS rfl rfl (by decide) ?_;simp only[ae,seval];refine bF dS rfl rfl ((gQ.ext hx).push _) rfl (bV (vs:=[ao (((l.getD i 0).toNat%16*4096+(l.getD (i+1) 0).toNat%64*64+(l.getD (i+2) 0).toNat%64:Nat):Int)])) (by simp[oneCell]) (by omega) (by omega) (by have:=jN.size;have:=hx.size;simp;omega) ?_;intro v' h2 iV nI _;simp(disch:=omega)only[bS,ae,seval,awN];exact⟨l.length-(i+3),by omega,i+3,us++[(l.getD i 0).toNat%16*4096+(l.getD (i+1) 0).toNat%64*64+(l.getD (i+2) 0).toNat%64],v',rfl,by omega,by simp;omega,by rfl,by simpa using iV,
      Ext.app ((jN.trans hx).trans (Ext.push _ _)) nI (fun k hk=>(gQ.lt k hk).1),lB hS aV hd⟩
    ·rw[av9 he]at hd
     simp(disch:=omega)only[bS,ae,seval,av7 he];rw[il hS aV hd];exact⟨jN.trans hx,rfl⟩
   ·by_cases a2:192≤(l.getD i 0).toNat∧2≤l.length-i
    ·have hr:Ju l i=((l.getD i 0).toNat%32*64+(l.getD (i+1) 0).toNat%64,2):=by unfold Ju;simp only[];rw[av9 a3,awa a2]
     have eu:(((l.getD i 0).toNat:Int)%32*64+((l.getD (i+1) 0).toNat:Int)%64)=(((l.getD i 0).toNat%32*64+(l.getD (i+1) 0).toNat%64:Nat):Int):=by omega
     have c3:(192:Int)≤((l.getD i 0).toNat:Int):=by omega
     have c4:(2:Int)≤((l.length-i:Nat):Int):=by omega
     by_cases c1:(224:Int)≤((l.getD i 0).toNat:Int)
     ·have c2:¬(3:Int)≤((l.length-i:Nat):Int):=by omega
      simp(disch:=omega)only[bS,ae,seval,cN,getD_drop,aws,c1,c2,c3,c4,eu];have hd:=uo aV;rw[hr]at hd;simp only[]at hd;refine aj rfl (uw ((l.getD i 0).toNat%32*64+(l.getD (i+1) 0).toNat%64) hc (by omega)) ?_;rintro v' h'⟨hx,rfl⟩;by_cases he:enc ((l.getD i 0).toNat%32*64+(l.getD (i+1) 0).toNat%64)=(l.drop i).take 2
      ·rw[awa he]at hd
       simp(disch:=omega)only[bS,ae,seval,av8 he];refine aU dS rfl rfl (by decide) ?_;simp only[ae,seval];refine bF dS rfl rfl ((gQ.ext hx).push _) rfl (bV (vs:=[ao (((l.getD i 0).toNat%32*64+(l.getD (i+1) 0).toNat%64:Nat):Int)])) (by simp[oneCell]) (by omega) (by omega) (by have:=jN.size;have:=hx.size;simp;omega) ?_;intro v' h2 iV nI _;simp(disch:=omega)only[bS,ae,seval,awN];exact⟨l.length-(i+2),by omega,i+2,us++[(l.getD i 0).toNat%32*64+(l.getD (i+1) 0).toNat%64],v',rfl,by omega,by simp;omega,by rfl,by simpa using iV,
        Ext.app ((jN.trans hx).trans (Ext.push _ _)) nI (fun k hk=>(gQ.lt k hk).1),lB hS aV hd⟩
      ·rw[av9 he]at hd
       simp(disch:=omega)only[bS,ae,seval,av7 he];rw[il hS aV hd];exact⟨jN.trans hx,rfl⟩
     ·simp(disch:=omega)only[bS,ae,seval,cN,getD_drop,aws,c1,c3,c4,eu]
      have hd:=uo aV;rw[hr]at hd;simp only[]at hd;refine aj rfl (uw ((l.getD i 0).toNat%32*64+(l.getD (i+1) 0).toNat%64) hc (by omega)) ?_;rintro v' h'⟨hx,rfl⟩;by_cases he:enc ((l.getD i 0).toNat%32*64+(l.getD (i+1) 0).toNat%64)=(l.drop i).take 2
      ·rw[awa he]at hd
       simp(disch:=omega)only[bS,ae,seval,av8 he];refine aU dS rfl rfl (by decide) ?_;simp only[ae,seval];refine bF dS rfl rfl ((gQ.ext hx).push _) rfl (bV (vs:=[ao (((l.getD i 0).toNat%32*64+(l.getD (i+1) 0).toNat%64:Nat):Int)])) (by simp[oneCell]) (by omega) (by omega) (by have:=jN.size;have:=hx.size;simp;omega) ?_;intro v' h2 iV nI _;simp(disch:=omega)only[bS,ae,seval,awN];exact⟨l.length-(i+2),by omega,i+2,us++[(l.getD i 0).toNat%32*64+(l.getD (i+1) 0).toNat%64],v',rfl,by omega,by simp;omega,by rfl,by simpa using iV,
        Ext.app ((jN.trans hx).trans (Ext.push _ _)) nI (fun k hk=>(gQ.lt k hk).1),lB hS aV hd⟩
      ·rw[av9 he]at hd
       simp(disch:=omega)only[bS,ae,seval,av7 he];rw[il hS aV hd];exact⟨jN.trans hx,rfl⟩
    ·have hr:Ju l i=((l.getD i 0).toNat,1):=by unfold Ju;simp only[];rw[av9 a3,av9 a2]
     by_cases c3:(192:Int)≤((l.getD i 0).toNat:Int)
     ·have c4:¬(2:Int)≤((l.length-i:Nat):Int):=by omega
      by_cases c1:(224:Int)≤((l.getD i 0).toNat:Int)
      ·have c2:¬(3:Int)≤((l.length-i:Nat):Int):=by omega
       simp(disch:=omega)only[bS,ae,seval,cN,getD_drop,aws,c1,c2,c3,c4];have hd:=uo aV;rw[hr]at hd;simp only[]at hd;refine aj rfl (uw ((l.getD i 0).toNat) hc (by omega)) ?_;rintro v' h'⟨hx,rfl⟩;by_cases he:enc ((l.getD i 0).toNat)=(l.drop i).take 1
       ·rw[awa he]at hd
        simp(disch:=omega)only[bS,ae,seval,av8 he];refine aU dS rfl rfl (by decide) ?_;simp only[ae,seval];refine bF dS rfl rfl ((gQ.ext hx).push _) rfl (bV (vs:=[ao (((l.getD i 0).toNat:Nat):Int)])) (by simp[oneCell]) (by omega) (by omega) (by have:=jN.size;have:=hx.size;simp;omega) ?_;intro v' h2 iV nI _;simp(disch:=omega)only[bS,ae,seval,awN];exact⟨l.length-(i+1),by omega,i+1,us++[(l.getD i 0).toNat],v',rfl,by omega,by simp;omega,by rfl,by simpa using iV,
         Ext.app ((jN.trans hx).trans (Ext.push _ _)) nI (fun k hk=>(gQ.lt k hk).1),lB hS aV hd⟩
       ·rw[av9 he]at hd
        simp(disch:=omega)only[bS,ae,seval,av7 he];rw[il hS aV hd];exact⟨jN.trans hx,rfl⟩
      ·simp(disch:=omega)only[bS,ae,seval,cN,getD_drop,aws,c1,c3,c4]
       have hd:=uo aV;rw[hr]at hd;simp only[]at hd;refine aj rfl (uw ((l.getD i 0).toNat) hc (by omega)) ?_;rintro v' h'⟨hx,rfl⟩;by_cases he:enc ((l.getD i 0).toNat)=(l.drop i).take 1
       ·rw[awa he]at hd
        simp(disch:=omega)only[bS,ae,seval,av8 he];refine aU dS rfl rfl (by decide) ?_;simp only[ae,seval];refine bF dS rfl rfl ((gQ.ext hx).push _) rfl (bV (vs:=[ao (((l.getD i 0).toNat:Nat):Int)])) (by simp[oneCell]) (by omega) (by omega) (by have:=jN.size;have:=hx.size;simp;omega) ?_;intro v' h2 iV nI _;simp(disch:=omega)only[bS,ae,seval,awN];exact⟨l.length-(i+1),by omega,i+1,us++[(l.getD i 0).toNat],v',rfl,by omega,by simp;omega,by rfl,by simpa using iV,
         Ext.app ((jN.trans hx).trans (Ext.push _ _)) nI (fun k hk=>(gQ.lt k hk).1),lB hS aV hd⟩
       ·rw[av9 he]at hd
        simp(disch:=omega)only[bS,ae,seval,av7 he];rw[il hS aV hd];exact⟨jN.trans hx,rfl⟩
     ·have c1:¬(224:Int)≤((l.getD i 0).toNat:Int):=by omega
      simp(disch:=omega)only[bS,ae,seval,cN,getD_drop,c1,c3];have hd:=uo aV;rw[hr]at hd;simp only[]at hd;refine aj rfl (uw ((l.getD i 0).toNat) hc (by omega)) ?_;rintro v' h'⟨hx,rfl⟩;by_cases he:enc ((l.getD i 0).toNat)=(l.drop i).take 1
      ·rw[awa he]at hd
       simp(disch:=omega)only[bS,ae,seval,av8 he];refine aU dS rfl rfl (by decide) ?_;simp only[ae,seval];refine bF dS rfl rfl ((gQ.ext hx).push _) rfl (bV (vs:=[ao (((l.getD i 0).toNat:Nat):Int)])) (by simp[oneCell]) (by omega) (by omega) (by have:=jN.size;have:=hx.size;simp;omega) ?_;intro v' h2 iV nI _;simp(disch:=omega)only[bS,ae,seval,awN];exact⟨l.length-(i+1),by omega,i+1,us++[(l.getD i 0).toNat],v',rfl,by omega,by simp;omega,by rfl,by simpa using iV,
        Ext.app ((jN.trans hx).trans (Ext.push _ _)) nI (fun k hk=>(gQ.lt k hk).1),lB hS aV hd⟩
      ·rw[av9 he]at hd
       simp(disch:=omega)only[bS,ae,seval,av7 he];rw[il hS aV hd];exact⟨jN.trans hx,rfl⟩
  ·have cN:l.drop i=[]:=awV (by omega)
   simp only[bS,ae,seval,cN];rw[Pq hS aV];exact⟨jN,_,rfl,gQ⟩
def mI(t:Nat):Int:=if t=1∨t=7∨t=8 then 2 else if t=3∨t=4∨t=9∨t=10∨t=11∨t=12 then 4 else if t=5∨t=6 then 8 else-1
theorem abS(t:Nat)(h:ar):aF Tryz.prog 168 #[bH t] h fun v h'=>h'=h∧v=ao (mI t):=by
 refine ET (args:=[bH t]) rfl ?_;by_cases t1:t=1
 ·subst t1
  rw[show((1:Nat):Int)=1 from rfl];simp only[ey,ae,seval];rfl
 by_cases t7:t=7
 ·subst t7
  rw[show((7:Nat):Int)=7 from rfl];simp only[ey,ae,seval,Int.reduceEq];rfl
 by_cases t8:t=8
 ·subst t8
  rw[show((8:Nat):Int)=8 from rfl];simp only[ey,ae,seval,Int.reduceEq];rfl
 by_cases t3:t=3
 ·subst t3
  rw[show((3:Nat):Int)=3 from rfl];simp only[ey,ae,seval,Int.reduceEq];rfl
 by_cases t4:t=4
 ·subst t4
  rw[show((4:Nat):Int)=4 from rfl];simp only[ey,ae,seval,Int.reduceEq];rfl
 by_cases t9:t=9
 ·subst t9
  rw[show((9:Nat):Int)=9 from rfl];simp only[ey,ae,seval,Int.reduceEq];rfl
 by_cases t10:t=10
 ·subst t10
  rw[show((10:Nat):Int)=10 from rfl];simp only[ey,ae,seval,Int.reduceEq];rfl
 by_cases rf:t=11
 ·subst rf
  rw[show((11:Nat):Int)=11 from rfl];simp only[ey,ae,seval,Int.reduceEq];rfl
 by_cases t12:t=12
 ·subst t12
  rw[show((12:Nat):Int)=12 from rfl];simp only[ey,ae,seval,Int.reduceEq];rfl
 by_cases t5:t=5
 ·subst t5
  rw[show((5:Nat):Int)=5 from rfl];simp only[ey,ae,seval,Int.reduceEq];rfl
 by_cases t6:t=6
 ·subst t6
  rw[show((6:Nat):Int)=6 from rfl];simp only[ey,ae,seval,Int.reduceEq];rfl
 have n1:¬(t:Int)=1:=by omega
 have n7:¬(t:Int)=7:=by omega
 have n8:¬(t:Int)=8:=by omega
 have n3:¬(t:Int)=3:=by omega
 have n4:¬(t:Int)=4:=by omega
 have n9:¬(t:Int)=9:=by omega
 have n10:¬(t:Int)=10:=by omega
 have n11:¬(t:Int)=11:=by omega
 have n12:¬(t:Int)=12:=by omega
 have n5:¬(t:Int)=5:=by omega
 have n6:¬(t:Int)=6:=by omega
 simp only[ey,ae,seval,av7 n1,av7 n7,av7 n8,av7 n3,av7 n4,av7 n9,av7 n10,av7 n11,av7 n12,av7 n5,av7 n6];simp[mI,t1,t7,t8,t3,t4,t9,t10,rf,t12,t5,t6]
end Go.Proofs.YtmbboehmnfhjjaaGreatDoor
