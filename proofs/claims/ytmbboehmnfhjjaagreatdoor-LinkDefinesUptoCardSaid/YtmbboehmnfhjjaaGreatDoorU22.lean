/- A method checked, by the program. A method checked, by the program, whole. A class checked, by the program. Small functions of the reference's check of a class. Constants checked, by the reference. -/
import Derived.Test.YtmbboehmnfhjjaaGreatDoorU21
import Derived.Test.YtmbboehmnfhjjaaGreatDoorU5
set_option maxRecDepth 100000
set_option maxHeartbeats 16000000
set_option linter.unusedSimpArgs false
set_option linter.unusedVariables false
set_option linter.defProp false
namespace Go.Proofs.YtmbboehmnfhjjaaGreatDoor
open Go.Vc
section
def ahv(fl:Nat)(nd:az):Nat:=dB (mT nd)+(if fl&&&8=0 then 1 else 0)
def U5(p:List aX)(m:fj)(nd:az):Int × Int:=if m.code.fF<((ahv m.flags nd:Nat):Int)then(12,0)else JB p m.code
def MY(fl:Nat)(p:List aX)(seen:List TT)(m:fj):Int × Int:=
 if eV p m.name 1=false∨eV p m.type 1=false then(7,0)
 else if dc (bM p m.name) true=0 then(8,0)
 else if(fV (bM p m.type)).isSome=false∨(dc (bM p m.name) true=2∧mG (bM p m.type)≠[86])∨(dc (bM p m.name) true=3∧bM p m.type≠[40,41,86])then(9,0)
 else if Gr fl m.flags (dc (bM p m.name) true)=false then(10,0)
 else if(bM p m.name,bM p m.type)∈seen then(11,0)
 else if decide (m.flags&&&1280≠0)=m.has then(13,0)
 else if m.flags&&&1280≠0 then(0,0)
 else U5 p m (bM p m.type)
abbrev Gs(m:fj)(vH:Value):Obj:= .cells #[ax m.flags,ax m.name,ax m.type, .bool m.has,ao m.code.maxS,ao m.code.fF,str m.code.bytes,vH,str m.code.map] 107
abbrev ahw(m:fj)(vH:Value):Value:= .agg #[ax m.flags,ax m.name,ax m.type, .bool m.has,ao m.code.maxS,ao m.code.fF,str m.code.bytes,vH,str m.code.map]
section
variable{h0 h:ar}{g mb:Nat}{c:iP}{vp vi vf vm:Value}{seen:List TT}
def alv(h0:ar)(mb:Nat)(seen:List TT)(k:TT)(e:Int × Int)(v:Value)(h':ar):Prop:=
 Ext h0 h'∧v= .tuple #[ao e.1,ao e.2]∧(e.1=0→iT kP h' mb (cntF (seen++[k])))
theorem A7{q q2:Nat}{a9:Option Addr}{c9:Nat}{vH u0 u1 u2 u8 u9 u10 u11 u12 u14 u15 u16 u46 u53 u56 u75 u82 u87 u92:Value}{k:TT}(m:fj)(nd:az)(X:Ext h0 h)(B:Bx h q g)(qc:h[q2]? =some (Gs m vH))(H:CB h g c vp vi vf vm)(F:CF c)
 (tZ:m.Fit)(hH:fR h 4 vH m.code.hs.length (gZ m.code.hs))(kO:m.code.bytes.length≤1073741824)(A6:m.code.hs.length≤1073741824)(lb:nd.length≤4294967296)
 (zN:Sl h (.slice a9 (mT nd).length c9) ((mT nd).map str))(HM:iT kP h mb (cntF (seen++[k]))):
 Cd.vc Tryz.prog NA (gP Tryz.prog [(6,none),(7,none)] (alv h0 mb seen k (U5 c.pool m nd)))
  [(0,u0),(1,u1),(2,u2),(3,aE q),(4,aE q2),(6,ao 0),(7,ao 0),(8,u8),(9,u9),(10,u10),(11,u11),(12,u12),(13, .slice a9 (mT nd).length c9),(14,u14),(15,u15),(16,u16),(17,undef),(19,undef),(46,u46),(53,u53),(56,u56),(75,u75),(82,u82),(87,u87),(92,u92),(94,undef),(95,undef),(96,undef),(97,undef),(108,undef),(115,undef)] h:=by
 rw[HN];have AU:=ML nd;unfold U5 ahv;generalize mT nd=ts at*;have c0:cellAt h ⟨q2,0,none⟩=some (ax m.flags):=by rw[au qc];rfl
 have c5:cellAt h ⟨q2,5,none⟩=some (ao m.code.fF):=by rw[au qc];rfl
 have di:=aN (vs:=[ax m.flags,ax m.name,ax m.type, .bool m.has,ao m.code.maxS,ao m.code.fF,str m.code.bytes,vH,str m.code.map]) qc;have hrc:Rd h q2 4 [ao m.code.maxS,ao m.code.fF,str m.code.bytes,vH,str m.code.map]:=by
  intro j v hv;have:=di (4+j) v (by
   rw[show 4+j=j+4 by omega];simpa using hv)
  simpa using this
 have bm:=aS pW hrc rfl;have a8:cB .and .u16 (m.flags:Int) 8=((m.flags&&&8:Nat):Int):=jR _ 8 tZ.flags (by decide);have bl:=B.l;simp only[aW,ae,seval];refine aG [3,4,17,94,95,96] (fun m ρ hc=>∃i:Nat,m=ts.length-i∧i≤ts.length∧
  ρ=[(3,aE q),(4,aE q2),(17,ao ((dB (ts.take i):Nat):Int)),(94, .slice a9 ts.length c9),(95,ao ts.length),(96,ao i)]∧hc=h) ?_ ?_
 ·simp only[ae,seval]
  exact⟨_,0,rfl,awb _,rfl⟩
 rintro m' ρ hc⟨i,rfl,hi,rfl,rfl⟩;have pB:=tT (ts:=ts) i;by_cases aV:i<ts.length
 ·have aK:(i:Int)<(ts.length:Int):=by omega
  obtain⟨b1,o1,td,fD,_,eR⟩:=zN.at (i:=i) (by simpa using aV);rw[awk]at fD;cases fD;have e1:cellAt hc ⟨b1,o1+i,none⟩=some (str (ts.getD i [])):=by rw[eR];simp[aV]
  have gl:ts.take (i+1)=ts.take i++[ts.getD i []]:=iU aV;generalize ts.getD i []=t at*;have MK:=rH t;have w1:=gU (k:=i) (by omega);have w2:IntKind.i64.wrap (((dB (ts.take i):Nat):Int)+(mf t:Int))=((dB (ts.take (i+1)):Nat):Int):=by
   rw[gl,qI,wrap_i64 (by omega) (by omega)];omega
  simp(disch:=omega)only[aW,ae,seval,aK,e1,];refine aj rfl (AQ t) ?_;rintro v9 h9⟨rfl,rfl⟩;simp only[aW,ae,seval,w1,w2];exact⟨ts.length-(i+1),by omega,i+1,rfl,by omega,rfl⟩
 have aK:¬(i:Int)<(ts.length:Int):=by omega
 rw[List.take_of_length_le (show ts.length≤i by omega)]at pB⊢;have w3:IntKind.i64.wrap (((dB ts:Nat):Int)+1)=((dB ts+1:Nat):Int):=by rw[wrap_i64 (by omega) (by omega)];omega
 generalize m.flags&&&8=f8 at*;by_cases z8:f8=0
 ·rw[awa z8]
  by_cases MZ:m.code.fF<((dB ts+1:Nat):Int)
  ·rw[awa MZ]
   simp(disch:=omega)only[aW,ae,seval,aK,c0,a8,w3,c5,MZ,va];exact⟨X,rfl,fun h=>aww h (by decide)⟩
  ·rw[av9 MZ]
   simp(disch:=omega)only[aW,ae,seval,aK,c0,a8,w3,c5,MZ,bl,bm,va];obtain⟨_,ah,ch,rfl,_⟩:=id hH;refine aj rfl (PG H F m.code tZ.code hH kO A6) ?_;rintro v5 h5⟨x5,rfl⟩;simp only[ae,seval];exact⟨X.trans x5,rfl,fun _=>HM.fr x5 awx⟩
 ·rw[av9 z8,aw3]
  by_cases MZ:m.code.fF<((dB ts:Nat):Int)
  ·rw[awa MZ]
   simp(disch:=omega)only[aW,ae,seval,aK,c0,a8,c5,MZ,va];exact⟨X,rfl,fun h=>aww h (by decide)⟩
  ·rw[av9 MZ]
   simp(disch:=omega)only[aW,ae,seval,aK,c0,a8,c5,MZ,bl,bm,va];obtain⟨_,ah,ch,rfl,_⟩:=id hH;refine aj rfl (PG H F m.code tZ.code hH kO A6) ?_;rintro v5 h5⟨x5,rfl⟩;simp only[ae,seval];exact⟨X.trans x5,rfl,fun _=>HM.fr x5 awx⟩
end
end
section
section
variable{h0 h:ar}{g mb:Nat}{c:iP}{vp vi vf vm:Value}{seen:List TT}
theorem T6(H:CB h0 g c vp vi vf vm)(F:CF c)(X:Ext h0 h)(hm:h0.size≤mb)(HM:iT kP h mb (cntF seen))(m:fj){vH:Value}(tZ:m.Fit)(hH:fR h0 4 vH m.code.hs.length (gZ m.code.hs))(kO:m.code.bytes.length≤1073741824)(A6:m.code.hs.length≤1073741824):
 aF Tryz.prog 88 #[vw g,ahw m vH, .map (some mb)] h (alv h0 mb seen (bM c.pool m.name,bM c.pool m.type) (MY c.flags c.pool seen m)):=by
 obtain⟨_,ah,ch,rfl,_⟩:=id hH;refine HL (args:=[vw g,ahw m (.slice ah m.code.hs.length ch), .map (some mb)]) rfl ?_;have AU:=HM.lt;simp only[aW,ae,seval];refine cT ?_;have B:=Bx.new (h:=h) (g:=g);have E:=Ext.push h (.cells #[aE g] 157);simp only[ae,seval];generalize h.push _=h1 at*;have hqm:mb<h.size:=AU;generalize h.size=q at*;refine cT ?_;have E1:=Ext.push h1 (Gs m (.slice ah m.code.hs.length ch));have qc:(h1.push (Gs m (.slice ah m.code.hs.length ch)))[h1.size]? =some (Gs m (.slice ah m.code.hs.length ch)):=by simp
 have B:=B.ext E1;simp only[aW,ae,seval];generalize h1.push _=h2 at*;have aqh:mb<h1.size:=by have:=(HM.fr E awx).lt;omega
 generalize h1.size=q2 at*;have x2:=(X.trans E).trans E1;have M2:=(HM.fr E awx).fr E1 awx;have key:∀h3,Fr (fun k=>k=mb) h2 h3→cellAt h3 ⟨q2,0,none⟩=some (ax m.flags)∧cellAt h3 ⟨q2,1,none⟩=some (ax m.name)∧cellAt h3 ⟨q2,2,none⟩=some (ax m.type)∧cellAt h3 ⟨q2,3,none⟩=some (.bool m.has)∧Bx h3 q g∧CB h3 g c vp vi vf vm∧
  h3[q2]? =some (Gs m (.slice ah m.code.hs.length ch))∧fR h3 4 (.slice ah m.code.hs.length ch) m.code.hs.length (gZ m.code.hs):=by
  intro h3 x3;have b2:=ay x3 qc (by omega);have xx:=vD x2 x3 hm;refine⟨?_,?_,?_,?_,ay x3 B (by omega),H.ext xx,b2,hH.ext (by decide) xx⟩
  all_goals rw[au b2];rfl
 have up:∀{a b:ar},Ext a b→Fr (fun k=>k=mb) a b:=fun e=>⟨e.size,fun k hk _=>e.same k hk awx⟩;have tr:∀{a b c:ar},Fr (fun k=>k=mb) a b→Fr (fun k=>k=mb) b c→Fr (fun k=>k=mb) a c:=fun p q=>Fr.trans p q (fun _ _ h=>h) (fun _ _ h=>h);obtain⟨k0,k1,k2,k3,B2,H2,_,_⟩:=key h2 (up (Ext.refl _));have la:=F.str m.name;have lb:=F.str m.type;have bl:=B2.l;simp only[ae,seval,bl,k1];refine aj rfl (jC H2 m.name tZ.name) ?_;rintro v3 h3⟨x3,rfl⟩;obtain⟨k0,k1,k2,k3,B3,H3,_,_⟩:=key h3 (up x3);have bl:=B3.l;simp only[aW,ae,seval,bl,k2];refine aj rfl (jC H3 m.type tZ.type) ?_;rintro v4 h4⟨x4,rfl⟩;unfold MY;generalize bM c.pool m.name=na,bM c.pool m.type=nd,eV c.pool m.name 1=i1,eV c.pool m.type 1=i2 at*;simp only[aW,ae,seval];refine aj rfl (nP na true la) ?_;rintro v5 h5⟨x5,rfl⟩;simp only[aW,ae,seval];refine aj rfl (sJ nd lb) ?_;rintro v6 h6⟨x6,hmv⟩;obtain⟨sv,rfl,zN⟩:=jX hmv;obtain⟨a9,c9,rfl,_⟩:=id zN;rw[awk]at zN⊢;have WL:=((x3.trans x4).trans x5).trans x6;have Sw:=x2.trans WL;obtain⟨k0,k1,k2,k3,B6,H6,_,_⟩:=key h6 (up WL);have a1:cB .and .u16 (m.flags:Int) 1280=((m.flags&&&1280:Nat):Int):=jR _ 1280 tZ.flags (by decide);have RY:=MV na true;generalize dc na true=kd,(fV nd).isSome=ok,mG nd=gv,m.flags&&&1280=zb at*;cases i1 with
 |false=>
  rw[awa (.inl rfl)];simp only[aW,ae,seval,k0,a1];exact⟨Sw,rfl,fun h=>aww h (by decide)⟩
 |true=>
 cases i2 with
 |false=>
  rw[awa (.inr rfl)];simp only[aW,ae,seval,k0,a1];exact⟨Sw,rfl,fun h=>aww h (by decide)⟩
 |true=>
 rw[av9 (by simp)];by_cases d0:kd=0
 ·rw[awa d0]
  simp(disch:=omega)only[aW,ae,seval,k0,a1,va];exact⟨Sw,rfl,fun h=>aww h (by decide)⟩
 rw[av9 d0];cases ok with
 |false=>
  rw[awa (.inl rfl)];simp(disch:=omega)only[aW,ae,seval,k0,a1,va];exact⟨Sw,rfl,fun h=>aww h (by decide)⟩
 |true=>
 by_cases d2:kd=2
 case pos=>
  by_cases hg:gv=[86]
  case neg=>
   rw[awa (.inr (.inl ⟨d2,hg⟩))];simp(disch:=omega)only[aW,ae,seval,k0,a1,av7 hg,va];exact⟨Sw,rfl,fun h=>aww h (by decide)⟩
  rw[av9 (by
   rintro(h|⟨_,h⟩|⟨h,_⟩)
   ·cases h
   ·exact h hg
   ·omega)]
  have bl:=B6.l;simp(disch:=omega)only[aW,ae,seval,k0,a1,bl,av8 hg,va];refine aj rfl (A5 H6 F m.flags tZ.flags kd RY) ?_;rintro v7 h7⟨x7,rfl⟩;have rS:=Sw.trans x7;have Gp:=WL.trans x7;have M7:=M2.fr Gp awx;cases Gr c.flags m.flags kd with
  |false=>
   rw[awa rfl];simp only[aW,ae,seval];exact⟨rS,rfl,fun h=>aww h (by decide)⟩
  |true=>
  rw[av9 (by decide)];simp only[aW,ae,seval];refine aj rfl (vC M7 na nd) ?_;rintro v8 h8⟨f8,rfl,WS⟩;obtain⟨k0,k1,k2,k3,B8,H8,q8,s8⟩:=key h8 (tr (up Gp) f8);have A0:=vD rS f8 hm;by_cases hs:(na,nd)∈seen
  case pos=>
   rw[awa hs];simp only[aW,ae,seval,awh hs];exact⟨A0,rfl,fun h=>aww h (by decide)⟩
  rw[av9 hs];have M8:=WS hs;have Zi:Sl h8 (.slice a9 (mT nd).length c9) ((mT nd).map str):=by
   obtain⟨a',c',e',hr⟩:=zN;refine⟨a',c',e',?_⟩;rcases hr with hr|⟨b',o',e2,hr⟩
   ·exact .inl hr
   ·refine .inr ⟨b',o',e2,?_⟩
    by_cases zM:(mT nd).map str=[]
    ·rw[zM];intro j v hv;simp at hv
    ·have aV:=hr.lt zM
     have Zj:Rd h7 b' o' ((mT nd).map str):=x7.rd hr aV awx;by_cases Zk:b'=mb
     ·obtain⟨es,cl,uE,_⟩:=M7
      obtain⟨u,hu⟩:∃u,((mT nd).map str)[0]? =some u:=by
       cases hl:(mT nd).map str with
       |nil=>exact aww hl zM
       |cons u r=>exact⟨u,rfl⟩
      have:=Zj 0 u hu;subst Zk;unfold cellAt at this;rw[uE]at this;cases this
     ·exact f8.rd Zj (by have:=x7.size;omega) Zk
  cases hhas:m.has with
  |false=>
   rw[hhas]at k3;by_cases zz:zb=0
   ·rw[awa (by simp[zz])]
    simp(disch:=omega)only[aW,ae,seval,awg hs,k3,va];exact⟨A0,rfl,fun h=>aww h (by decide)⟩
   ·rw[av9 (by simp[zz]),awa zz]
    simp(disch:=omega)only[aW,ae,seval,awg hs,k3,va];exact⟨A0,rfl,fun _=>M8⟩
  |true=>
   rw[hhas]at k3;by_cases zz:zb=0
   ·rw[av9 (by simp[zz]),av9 (by simp[zz])]
    simp(disch:=omega)only[aW,ae,seval,awg hs,k3,va];exact A7 m nd A0 B8 q8 H8 F tZ s8 kO A6 lb Zi M8
   ·rw[awa (by simp[zz])]
    simp(disch:=omega)only[aW,ae,seval,awg hs,k3,va];exact⟨A0,rfl,fun h=>aww h (by decide)⟩
 by_cases d3:kd=3
 case pos=>
  by_cases hg:nd=[40,41,86]
  case neg=>
   rw[awa (.inr (.inr ⟨d3,hg⟩))];simp(disch:=omega)only[aW,ae,seval,k0,a1,av7 hg,va];exact⟨Sw,rfl,fun h=>aww h (by decide)⟩
  rw[av9 (by
   rintro(h|⟨h,_⟩|⟨_,h⟩)
   ·cases h
   ·omega
   ·exact h hg)]
  have bl:=B6.l;simp(disch:=omega)only[aW,ae,seval,k0,a1,bl,av8 hg,va];refine aj rfl (A5 H6 F m.flags tZ.flags kd RY) ?_;rintro v7 h7⟨x7,rfl⟩;have rS:=Sw.trans x7;have Gp:=WL.trans x7;have M7:=M2.fr Gp awx;cases Gr c.flags m.flags kd with
  |false=>
   rw[awa rfl];simp only[aW,ae,seval];exact⟨rS,rfl,fun h=>aww h (by decide)⟩
  |true=>
  rw[av9 (by decide)];simp only[aW,ae,seval];refine aj rfl (vC M7 na nd) ?_;rintro v8 h8⟨f8,rfl,WS⟩;obtain⟨k0,k1,k2,k3,B8,H8,q8,s8⟩:=key h8 (tr (up Gp) f8);have A0:=vD rS f8 hm;by_cases hs:(na,nd)∈seen
  case pos=>
   rw[awa hs];simp only[aW,ae,seval,awh hs];exact⟨A0,rfl,fun h=>aww h (by decide)⟩
  rw[av9 hs];have M8:=WS hs;have Zi:Sl h8 (.slice a9 (mT nd).length c9) ((mT nd).map str):=by
   obtain⟨a',c',e',hr⟩:=zN;refine⟨a',c',e',?_⟩;rcases hr with hr|⟨b',o',e2,hr⟩
   ·exact .inl hr
   ·refine .inr ⟨b',o',e2,?_⟩
    by_cases zM:(mT nd).map str=[]
    ·rw[zM];intro j v hv;simp at hv
    ·have aV:=hr.lt zM
     have Zj:Rd h7 b' o' ((mT nd).map str):=x7.rd hr aV awx;by_cases Zk:b'=mb
     ·obtain⟨es,cl,uE,_⟩:=M7
      obtain⟨u,hu⟩:∃u,((mT nd).map str)[0]? =some u:=by
       cases hl:(mT nd).map str with
       |nil=>exact aww hl zM
       |cons u r=>exact⟨u,rfl⟩
      have:=Zj 0 u hu;subst Zk;unfold cellAt at this;rw[uE]at this;cases this
     ·exact f8.rd Zj (by have:=x7.size;omega) Zk
  cases hhas:m.has with
  |false=>
   rw[hhas]at k3;by_cases zz:zb=0
   ·rw[awa (by simp[zz])]
    simp(disch:=omega)only[aW,ae,seval,awg hs,k3,va];exact⟨A0,rfl,fun h=>aww h (by decide)⟩
   ·rw[av9 (by simp[zz]),awa zz]
    simp(disch:=omega)only[aW,ae,seval,awg hs,k3,va];exact⟨A0,rfl,fun _=>M8⟩
  |true=>
   rw[hhas]at k3;by_cases zz:zb=0
   ·rw[av9 (by simp[zz]),av9 (by simp[zz])]
    simp(disch:=omega)only[aW,ae,seval,awg hs,k3,va];exact A7 m nd A0 B8 q8 H8 F tZ s8 kO A6 lb Zi M8
   ·rw[awa (by simp[zz])]
    simp(disch:=omega)only[aW,ae,seval,awg hs,k3,va];exact⟨A0,rfl,fun h=>aww h (by decide)⟩
 rw[av9 (by
  rintro(h|⟨h,_⟩|⟨h,_⟩)
  ·cases h
  ·omega
  ·omega)]
 have bl:=B6.l;simp(disch:=omega)only[aW,ae,seval,k0,a1,bl,va];refine aj rfl (A5 H6 F m.flags tZ.flags kd RY) ?_;rintro v7 h7⟨x7,rfl⟩;have rS:=Sw.trans x7;have Gp:=WL.trans x7;have M7:=M2.fr Gp awx;cases Gr c.flags m.flags kd with
 |false=>
  rw[awa rfl];simp only[aW,ae,seval];exact⟨rS,rfl,fun h=>aww h (by decide)⟩
 |true=>
 rw[av9 (by decide)];simp only[aW,ae,seval];refine aj rfl (vC M7 na nd) ?_;rintro v8 h8⟨f8,rfl,WS⟩;obtain⟨k0,k1,k2,k3,B8,H8,q8,s8⟩:=key h8 (tr (up Gp) f8);have A0:=vD rS f8 hm;by_cases hs:(na,nd)∈seen
 case pos=>
  rw[awa hs];simp only[aW,ae,seval,awh hs];exact⟨A0,rfl,fun h=>aww h (by decide)⟩
 rw[av9 hs];have M8:=WS hs;have Zi:Sl h8 (.slice a9 (mT nd).length c9) ((mT nd).map str):=by
  obtain⟨a',c',e',hr⟩:=zN;refine⟨a',c',e',?_⟩;rcases hr with hr|⟨b',o',e2,hr⟩
  ·exact .inl hr
  ·refine .inr ⟨b',o',e2,?_⟩
   by_cases zM:(mT nd).map str=[]
   ·rw[zM];intro j v hv;simp at hv
   ·have aV:=hr.lt zM
    have Zj:Rd h7 b' o' ((mT nd).map str):=x7.rd hr aV awx;by_cases Zk:b'=mb
    ·obtain⟨es,cl,uE,_⟩:=M7
     obtain⟨u,hu⟩:∃u,((mT nd).map str)[0]? =some u:=by
      cases hl:(mT nd).map str with
      |nil=>exact aww hl zM
      |cons u r=>exact⟨u,rfl⟩
     have:=Zj 0 u hu;subst Zk;unfold cellAt at this;rw[uE]at this;cases this
    ·exact f8.rd Zj (by have:=x7.size;omega) Zk
 cases hhas:m.has with
 |false=>
  rw[hhas]at k3;by_cases zz:zb=0
  ·rw[awa (by simp[zz])]
   simp(disch:=omega)only[aW,ae,seval,awg hs,k3,va];exact⟨A0,rfl,fun h=>aww h (by decide)⟩
  ·rw[av9 (by simp[zz]),awa zz]
   simp(disch:=omega)only[aW,ae,seval,awg hs,k3,va];exact⟨A0,rfl,fun _=>M8⟩
 |true=>
  rw[hhas]at k3;by_cases zz:zb=0
  ·rw[av9 (by simp[zz]),av9 (by simp[zz])]
   simp(disch:=omega)only[aW,ae,seval,awg hs,k3,va];exact A7 m nd A0 B8 q8 H8 F tZ s8 kO A6 lb Zi M8
  ·rw[awa (by simp[zz])]
   simp(disch:=omega)only[aW,ae,seval,awg hs,k3,va];exact⟨A0,rfl,fun h=>aww h (by decide)⟩
end
end
section
def mg(p:List aX):Nat→List aX→Option (Nat × Nat)
 |_,[]=>none
 |i,x::r=>if jL p x≠0 then some (jL p x,i)else mg p (i+1) r
def oM(fl:Nat)(p:List aX):Nat→List TT→List fC→Option (Nat × Nat)
 |_,_,[]=>none
 |i,seen,f::r=>if Pz fl p seen f≠0 then some (Pz fl p seen f,i)else oM fl p (i+1) (seen++[(bM p f.name,bM p f.type)]) r
def tj(fl:Nat)(p:List aX):Nat→List TT→List fj→Option ((Int × Int) × Nat)
 |_,_,[]=>none
 |i,seen,m::r=>if(MY fl p seen m).1≠0 then some (MY fl p seen m,i)else tj fl p (i+1) (seen++[(bM p m.name,bM p m.type)]) r
def lI(c:iP):Int × Int × Int × Int:=
 match mg c.pool 0 c.pool with
 |some (e,i)=>((e:Int),0,(i:Int),0)
 |none=>if oE c≠0 then((oE c:Int),1,0,0)else
  match oM c.flags c.pool 0 [] c.fields with
  |some (e,i)=>((e:Int),2,(i:Int),0)
  |none=>match tj c.flags c.pool 0 [] c.methods with
   |some (e,i)=>(e.1,3,(i:Int),e.2)
   |none=>(0,0,0,0)
def acL(x:Int × Int × Int × Int):Value:= .tuple #[ao x.1,ao x.2.1,ao x.2.2.1,ao x.2.2.2]
structure CL(c:iP):Prop where
 i:c.ifs.length≤1073741824
 f:c.fields.length≤1073741824
 m:c.methods.length≤1073741824
 b:∀m∈c.methods,m.code.bytes.length≤1073741824
 h:∀m∈c.methods,m.code.hs.length≤1073741824
theorem U6:(fun _:TT=>(none:Option Value))=cntF []:=by funext s;simp[cntF]
section
variable{h:ar}{c:iP}{vp vi vf vm:Value}
theorem Qv(hC:sO h c vp vi vf vm)(F:CF c)(L:CL c):
 aF Tryz.prog 35 #[.agg (mP c vp vi vf vm).toArray] h fun v h'=>Ext h h'∧v=acL (lI c):=by
 have hL1:=F.len;obtain⟨_,ap,cp,Sm,_⟩:=id hC.p;obtain⟨_,ai,ci,hvi,_⟩:=id hC.i;obtain⟨_,af,cf,hvf,_⟩:=id hC.f;obtain⟨rws,_,qQ,_⟩:=id hC.m;obtain⟨_,am,cm,hvm,_⟩:=id qQ;subst Sm hvi hvf hvm;simp only[mP];refine CZ (args:=[.agg #[ax c.minor,ax c.major,ax c.flags,ax c.this,ax c.super, .slice ap c.pool.length cp, .slice ai c.ifs.length ci, .slice af c.fields.length cf, .slice am c.methods.length cm]]) rfl ?_;simp only[co,ae,seval];refine cT ?_;have E:=Ext.push h (.cells #[ax c.minor,ax c.major,ax c.flags,ax c.this,ax c.super, .slice ap c.pool.length cp, .slice ai c.ifs.length ci, .slice af c.fields.length cf, .slice am c.methods.length cm] 96);have CB1:CB (h.push (.cells #[ax c.minor,ax c.major,ax c.flags,ax c.this,ax c.super, .slice ap c.pool.length cp, .slice ai c.ifs.length ci, .slice af c.fields.length cf, .slice am c.methods.length cm] 96)) h.size c (.slice ap c.pool.length cp) (.slice ai c.ifs.length ci) (.slice af c.fields.length cf) (.slice am c.methods.length cm):=⟨by simp[mP],hC.ext E⟩;simp only[co,ae,seval];generalize h.push _=h1,h.size=g at*;refine aD Rl ?_;simp only[ae,seval];refine aI Rl rfl rfl rfl (by simp[Value.cells,oneCell]) rfl ?_;intro h2 x2 _ _ b2;have B2:Bx h2 h1.size g:=b2;generalize h1.size=q at*;have xx2:=E.trans x2;have Zl:=CB1.ext x2;have p5:cellAt h2 ⟨g,5,none⟩=some (.slice ap c.pool.length cp):=Zl.at rfl;simp only[co,ae,seval,p5];refine aG [1,6,21,22,23] (fun m ρ hc=>∃i:Nat,m=c.pool.length-i∧i≤c.pool.length∧
  ρ=[(1,aE g),(6,aE q),(21, .slice ap c.pool.length cp),(22,ao c.pool.length),(23,ao i)]∧Ext h2 hc∧
  mg c.pool 0 c.pool=mg c.pool i (c.pool.drop i)∧∀j,j<i→jL c.pool (c.pool.getD j aX.zero)=0) ?_ ?_
 ·simp only[ae,seval]
  exact⟨_,0,rfl,awb _,rfl,Ext.refl _,by simp,fun j hj=>aww hj (awq _)⟩
 rintro m ρ hc⟨i,rfl,hi,rfl,hx,ye,jV⟩;by_cases aV:i<c.pool.length
 ·have aK:(i:Int)<(c.pool.length:Int):=by omega
  have w1:=gU (k:=i) (by omega);obtain⟨b,o,c',heq,di,_⟩:=(Zl.ext hx).cls.p.at aV;cases heq;rw[iu aV]at di;rw[gL (d:=aX.zero) aV,mg]at ye;have vB:=F.fit.pool _ (dF (d:=aX.zero) aV);have Sy:jL c.pool (c.pool.getD i aX.zero)=0→∀j,j<i+1→jL c.pool (c.pool.getD j aX.zero)=0:=by
   intro h0 j hj;rcases Nat.lt_or_ge j i with lR|lR
   ·exact jV j lR
   ·rw[show j=i by omega];exact h0
  generalize c.pool.getD i aX.zero=k at*;have bm:=aS eA di rfl;simp only[aX.cells]at bm;simp(disch:=omega)only[co,ae,seval,aK,bm];refine aD gi ?_;simp only[ae,seval];refine aI gi rfl rfl rfl (by simp[Value.cells,oneCell,str]) rfl ?_;intro h3 x3 _ _ b3;change h3[hc.size]? =some (MW k)at b3;have iG:=hx.trans x3;have bl:=(B2.ext iG).l;have cl:=WE b3;generalize hc.size=q3 at*;simp only[co,ae,seval,bl,cl];refine aj rfl (Qt (Zl.ext iG) F k vB) ?_;rintro v4 h4⟨x4,rfl⟩;have WR:=(xx2.trans iG).trans x4;by_cases h0:jL c.pool k=0
  ·rw[av9 (by simp[h0])]at ye
   simp(disch:=omega)only[co,ae,seval,w1,va];exact⟨c.pool.length-(i+1),by omega,i+1,rfl,by omega,rfl,iG.trans x4,ye,Sy h0⟩
  ·rw[awa h0]at ye
   have hz:lI c=((jL c.pool k:Int),0,(i:Int),0):=by unfold lI;rw[ye]
   rw[hz];simp(disch:=omega)only[co,ae,seval,va];exact⟨WR,rfl⟩
 have aK:¬(i:Int)<(c.pool.length:Int):=by omega
 rw[awV (by omega)]at ye;have hp:∀x∈c.pool,jL c.pool x=0:=by
  intro x hxm;obtain⟨j,hj,rfl⟩:=List.getElem_of_mem hxm;have:=jV j (by omega);simpa[hj]using this
 have CBc:=Zl.ext hx;have bl:=(B2.ext hx).l;have xxc:=xx2.trans hx;simp only[co,ae,seval,aK,bl];refine aj rfl (T4 CBc F hp L.i) ?_;rintro v5 h5⟨x5,rfl⟩;have A8:=xxc.trans x5;by_cases hit:oE c=0
 case neg=>
  have hz:lI c=((oE c:Int),1,0,0):=by unfold lI;rw[ye];simp only[mg];rw[awa hit]
  rw[hz];simp(disch:=omega)only[co,ae,seval,va];exact⟨A8,rfl⟩
 have CB5:=CBc.ext x5;have B5:=(B2.ext hx).ext x5;have Sb:∀r,oM c.flags c.pool 0 [] c.fields=some r→lI c=((r.1:Int),2,(r.2:Int),0):=by
  intro r hr;unfold lI;rw[ye];simp only[mg];rw[av9 (by simp[hit]),hr]
 have hz2:oM c.flags c.pool 0 [] c.fields=none→∀r,tj c.flags c.pool 0 [] c.methods=some r→lI c=(r.1.1,3,(r.2:Int),r.1.2):=by
  intro hf r hr;unfold lI;rw[ye];simp only[mg];rw[av9 (by simp[hit]),hf];simp only[];rw[hr]
 have hz3:oM c.flags c.pool 0 [] c.fields=none→tj c.flags c.pool 0 [] c.methods=none→lI c=(0,0,0,0):=by
  intro hf hr;unfold lI;rw[ye];simp only[mg];rw[av9 (by simp[hit]),hf];simp only[];rw[hr]
 simp(disch:=omega)only[co,ae,seval,va];refine qF ?_;have M0:iT kP (h5.push (.map #[] 0)) h5.size (fun _=>none):=iT.new;rw[U6]at M0;have e6:=Ext.push h5 (.map #[] 0);have p7:cellAt (h5.push (.map #[] 0)) ⟨g,7,none⟩=some (.slice af c.fields.length cf):=(CB5.ext e6).at rfl;generalize h5.push _=h6 at*;obtain⟨mb,hmb⟩:∃y,y=h5.size:=⟨_,rfl⟩;rw[←hmb]at M0⊢;simp only[co,ae,seval,p7];refine aG [1,6,11,43,44,45] (fun m ρ hd=>∃i:Nat,m=c.fields.length-i∧i≤c.fields.length∧
  ρ=[(1,aE g),(6,aE q),(11, .map (some mb)),(43, .slice af c.fields.length cf),(44,ao c.fields.length),(45,ao i)]∧Ext h5 hd∧
  iT kP hd mb (cntF ((c.fields.take i).map fun f=>(bM c.pool f.name,bM c.pool f.type)))∧
  oM c.flags c.pool 0 [] c.fields=oM c.flags c.pool i ((c.fields.take i).map fun f=>(bM c.pool f.name,bM c.pool f.type)) (c.fields.drop i)) ?_ ?_
 ·simp only[ae,seval]
  exact⟨_,0,rfl,awb _,rfl,e6,by simpa using M0,by simp⟩
 rintro m ρ hd⟨j,rfl,hj,rfl,rR,hMd,Gt⟩;by_cases ji:j<c.fields.length
 ·have KZ:(j:Int)<(c.fields.length:Int):=by omega
  have w1:IntKind.i64.wrap ((j:Int)+1)=((j+1:Nat):Int):=by have:=L.f;rw[wrap_i64 (by omega) (by omega)];omega
  obtain⟨b,o,c',heq,di,_⟩:=(CB5.ext rR).cls.f.at ji;cases heq;rw[zT ji]at di;rw[gL (d:=fC.zero) ji,oM]at Gt;have vB:=F.fit.fields _ (dF (d:=fC.zero) ji);have mq:(c.fields.take (j+1)).map (fun f=>(bM c.pool f.name,bM c.pool f.type))=(c.fields.take j).map (fun f=>(bM c.pool f.name,bM c.pool f.type))++[(bM c.pool (c.fields.getD j fC.zero).name,bM c.pool (c.fields.getD j fC.zero).type)]:=by
   rw[iU (d:=fC.zero) ji];simp
  generalize c.fields.getD j fC.zero=f at*;have bm:=aS lN di rfl;simp only[fC.cells]at bm;simp(disch:=omega)only[co,ae,seval,KZ,bm];refine aD eG ?_;simp only[ae,seval];refine aI eG rfl rfl rfl (by simp[Value.cells,oneCell]) rfl ?_;intro h7 x7 _ _ b7;change h7[hd.size]? =some (Ss f)at b7;have pQ:=rR.trans x7;have bl:=(B5.ext pQ).l;have fl7:ld Tryz.prog 103 ⟨hd.size,0,none⟩ h7=some (ahr f):=aS lN (aN (vs:=[ax f.flags,ax f.name,ax f.type,ax f.value]) b7) rfl;have M7:=hMd.fr x7 awx;generalize hd.size=q7 at*;simp only[co,ae,seval,bl,fl7];refine aj rfl (WK CB5 F pQ (by omega) M7 f vB) ?_;rintro v8 h8⟨x8,rfl,WS⟩;generalize(c.fields.take j).map (fun f=>(bM c.pool f.name,bM c.pool f.type))=seen at*;by_cases h0:Pz c.flags c.pool seen f=0
  ·rw[av9 (by simp[h0])]at Gt
   have M8:=WS h0;rw[←mq]at M8 Gt;simp(disch:=omega)only[co,ae,seval,w1,va];exact⟨c.fields.length-(j+1),by omega,j+1,rfl,by omega,rfl,x8,M8,Gt⟩
  ·rw[awa h0]at Gt
   rw[Sb _ Gt];simp(disch:=omega)only[co,ae,seval,va];exact⟨A8.trans x8,rfl⟩
 have KZ:¬(j:Int)<(c.fields.length:Int):=by omega
 rw[awV (by omega)]at Gt;have DU:oM c.flags c.pool 0 [] c.fields=none:=by rw[Gt];rfl
 have hz2:=hz2 DU;have hz3:=hz3 DU;have CBd:=CB5.ext rR;have Bd:=B5.ext rR;have KY:=A8.trans rR;simp only[co,ae,seval,KZ];refine qF ?_;have N0:iT kP (hd.push (.map #[] 0)) hd.size (fun _=>none):=iT.new;rw[U6]at N0;have e9:=Ext.push hd (.map #[] 0);have p8:cellAt (hd.push (.map #[] 0)) ⟨g,8,none⟩=some (.slice am c.methods.length cm):=(CBd.ext e9).at rfl;generalize hd.push _=h9 at*;obtain⟨nb,hnb⟩:∃y,y=hd.size:=⟨_,rfl⟩;rw[←hnb]at N0⊢;simp only[co,ae,seval,p8];refine aG [1,6,11,61,62,63] (fun m ρ he=>∃i:Nat,m=c.methods.length-i∧i≤c.methods.length∧
  ρ=[(1,aE g),(6,aE q),(11, .map (some nb)),(61, .slice am c.methods.length cm),(62,ao c.methods.length),(63,ao i)]∧Ext hd he∧
  iT kP he nb (cntF ((c.methods.take i).map fun f=>(bM c.pool f.name,bM c.pool f.type)))∧
  tj c.flags c.pool 0 [] c.methods=tj c.flags c.pool i ((c.methods.take i).map fun f=>(bM c.pool f.name,bM c.pool f.type)) (c.methods.drop i)) ?_ ?_
 ·simp only[ae,seval]
  exact⟨_,0,rfl,awb _,rfl,e9,by simpa using N0,by simp⟩
 rintro m ρ he⟨k,rfl,hk,rfl,WT,hMe,Gu⟩;by_cases nQ:k<c.methods.length
 ·have K8:(k:Int)<(c.methods.length:Int):=by omega
  have w1:IntKind.i64.wrap ((k:Int)+1)=((k+1:Nat):Int):=by have:=L.m;rw[wrap_i64 (by omega) (by omega)];omega
  obtain⟨b,o,c',vH,heq,di,WU,_⟩:=(CBd.ext WT).cls.m.at nQ;cases heq;rw[gL (d:=fj.zero) nQ,tj]at Gu;have vB:=F.fit.methods _ (dF (d:=fj.zero) nQ);have hkb:=L.b _ (dF (d:=fj.zero) nQ);have hkh:=L.h _ (dF (d:=fj.zero) nQ);have aqm:fR hd 4 vH (c.methods.getD k fj.zero).code.hs.length (gZ (c.methods.getD k fj.zero).code.hs):=by
   obtain⟨b',o',c'',vH',aqo,alw,aqp,_⟩:=CBd.cls.m.at nQ;cases aqo;have vE:Rd he b (o+k*9) (fQ (c.methods.getD k fj.zero) vH'):=WT.rd alw (alw.lt (by simp[fQ,fX])) awx;have e1:=di 7 vH rfl;have e2:=vE 7 vH' rfl;rw[e1]at e2;cases e2;exact aqp
  have mq:(c.methods.take (k+1)).map (fun f=>(bM c.pool f.name,bM c.pool f.type))=(c.methods.take k).map (fun f=>(bM c.pool f.name,bM c.pool f.type))++[(bM c.pool (c.methods.getD k fj.zero).name,bM c.pool (c.methods.getD k fj.zero).type)]:=by
   rw[iU (d:=fj.zero) nQ];simp
  generalize c.methods.getD k fj.zero=f at*;obtain⟨_,ah,ch,rfl,_⟩:=id WU;have bm:=aS lO di rfl;simp only[fQ,fX,awC,awD]at bm;simp(disch:=omega)only[co,ae,seval,K8,bm];refine aD eH ?_;simp only[ae,seval];refine aI eH rfl rfl rfl (by simp[Value.cells,oneCell,str]) rfl ?_;intro h7 x7 _ _ b7;change h7[he.size]? =some (Gs f (.slice ah f.code.hs.length ch))at b7;have pQ:=WT.trans x7;have bl:=(Bd.ext pQ).l;have fl7:ld Tryz.prog 107 ⟨he.size,0,none⟩ h7=some (ahw f (.slice ah f.code.hs.length ch)):=aS lO (aN (vs:=[ax f.flags,ax f.name,ax f.type, .bool f.has,ao f.code.maxS,ao f.code.fF,str f.code.bytes, .slice ah f.code.hs.length ch,str f.code.map]) b7) rfl;have M7:=hMe.fr x7 awx;generalize he.size=q7 at*;simp only[co,ae,seval,bl,fl7];refine aj rfl (T6 CBd F pQ (by omega) M7 f vB aqm hkb hkh) ?_;rintro v8 h8⟨x8,rfl,WS⟩;generalize(c.methods.take k).map (fun f=>(bM c.pool f.name,bM c.pool f.type))=seen at*;generalize MY c.flags c.pool seen f=ee at*;obtain⟨e1,e2⟩:=ee;by_cases h0:e1=0
  ·rw[av9 (by simp[h0])]at Gu
   have M8:=WS h0;rw[←mq]at M8 Gu;simp(disch:=omega)only[co,ae,seval,w1,va];exact⟨c.methods.length-(k+1),by omega,k+1,rfl,by omega,rfl,x8,M8,Gu⟩
  ·rw[awa h0]at Gu
   rw[hz2 _ Gu];simp(disch:=omega)only[co,ae,seval,va];exact⟨KY.trans x8,rfl⟩
 have K8:¬(k:Int)<(c.methods.length:Int):=by omega
 rw[awV (by omega)]at Gu;rw[hz3 (by rw[Gu];rfl)];simp only[co,ae,seval,K8];exact⟨KY.trans WT,rfl⟩
end
end
section
structure RB(h:ar)(g:Nat)(c:iP)(vp vi vf vm:Value):Prop where
 blk:h[g]? =some (.cells (mP c vp vi vf vm).toArray 181 (0,0))
 cls:sO h c vp vi vf vm
theorem RB.ext{h h':ar}{g:Nat}{c:iP}{vp vi vf vm:Value}(H:RB h g c vp vi vf vm)(x:Ext h h'):RB h' g c vp vi vf vm:=⟨ay x H.blk awx,H.cls.ext x⟩
theorem RB.at{h:ar}{g:Nat}{c:iP}{vp vi vf vm:Value}(H:RB h g c vp vi vf vm){i:Nat}{v:Value}(hi:(mP c vp vi vf vm)[i]? =some v):cellAt h ⟨g,i,none⟩=some v:=by
 rw[au H.blk];simpa using hi
abbrev nU(g:Nat):Value:=aE g
def jM:List Nat→Nat
 |[]=>0
 |e::r=>if e≠0 then e else jM r
def eT(b:Bool)(e:Nat):Nat:=if b=true then 0 else e
section
variable{h:ar}{g:Nat}{c:iP}{vp vi vf vm:Value}
theorem jd(H:RB h g c vp vi vf vm)(k:Nat)(hk:k<65536):
 aF Tryz.prog 171 #[nU g,ax k] h fun v h'=>h'=h∧v= .tuple #[str (bM c.pool k), .bool (eV c.pool k 1)]:=by
 refine LV (args:=[nU g,ax k]) rfl ?_;have c5:cellAt h ⟨g,5,none⟩=some vp:=H.at rfl;have w1:IntKind.i64.wrap (k:Int)=(k:Int):=wrap_i64 (by omega) (by omega);simp only[Qg,ae,seval,c5,w1];refine aj rfl (AV k H.cls.p) ?_;rintro v2 h2⟨rfl,rfl⟩;simp only[ae,seval]
theorem oA(H:RB h g c vp vi vf vm)(F:CF c)(k:Nat)(hk:k<65536):
 aF Tryz.prog 178 #[nU g,ax k] h fun v h'=>h'=h∧v= .tuple #[str (bZ c.pool k).1, .bool (bZ c.pool k).2]:=by
 refine J7 (args:=[nU g,ax k]) rfl ?_;have c5:cellAt h ⟨g,5,none⟩=some vp:=H.at rfl;have w1:IntKind.i64.wrap (k:Int)=(k:Int):=wrap_i64 (by omega) (by omega);simp only[NC,ae,seval,c5,w1];refine aj rfl (AN k F.fit.pool H.cls.p) ?_;rintro v2 h2⟨rfl,rfl⟩;simp only[ae,seval]
theorem bO(b:Bool)(e:Nat):aF Tryz.prog 173 #[.bool b,ao e] h fun v h'=>h'=h∧v=ao (eT b e:Nat):=by
 refine C9 (args:=[.bool b,ao e]) rfl ?_;unfold eT;cases b
 all_goals
  simp only[HX,ae,seval]
  try rfl
theorem gS(es:List Nat)(hlen:es.length≤1000){tv:Value}(rJ:Sl h tv (es.map fun t:Nat=>ao t)):
 aF Tryz.prog 172 #[tv] h fun v h'=>h'=h∧v=ao (jM es:Nat):=by
 refine Kg (args:=[tv]) rfl ?_;have YN:=rJ;obtain⟨a,c,rfl,_⟩:=YN;rw[awk];simp only[ou,ae,seval];refine aG [5,6,7] (fun m ρ hc=>∃i:Nat,m=es.length-i∧i≤es.length∧
  ρ=[(5, .slice a es.length c),(6,ao es.length),(7,ao i)]∧hc=h∧jM es=jM (es.drop i)) ?_ ?_
 ·simp only[ae,seval]
  exact⟨_,0,rfl,awb _,rfl,by simp⟩
 rintro m ρ hc⟨i,rfl,hi,rfl,rfl,hf⟩;by_cases aV:i<es.length
 ·have aK:(i:Int)<(es.length:Int):=by omega
  obtain⟨b,o,c',heq,_,hcell⟩:=rJ.at (i:=i) (by simpa using aV);rw[awk]at heq;cases heq;have se:cellAt hc ⟨b,o+i,none⟩=some (ao (es.getD i 0:Nat)):=by rw[hcell];simp[aV]
  have w1:=gU (k:=i) (by omega);rw[gL (d:=0) aV,jM]at hf;generalize es.getD i 0=t at*;by_cases hz:t=0
  ·rw[av9 (by simp[hz])]at hf
   simp(disch:=omega)only[ou,ae,seval,aK,se,w1,va];exact⟨es.length-(i+1),by omega,i+1,rfl,by omega,rfl,hf⟩
  ·rw[awa hz]at hf
   rw[hf];simp(disch:=omega)only[ou,ae,seval,aK,se,va]
 ·have aK:¬(i:Int)<(es.length:Int):=by omega
  rw[hf,awV (by omega)];simp only[ou,ae,seval,aK]
  try rfl
theorem Gv(f m:Nat)(hf:f<65536)(hm:m<65536):aF Tryz.prog 177 #[ax f,ax m] h fun v h'=>h'=h∧v= .bool (decide (f&&&m=m)):=by
 refine Kh (args:=[ax f,ax m]) rfl ?_;have a:=jR f m hf hm;have e:decide (((f&&&m:Nat):Int)=(m:Int))=decide (f&&&m=m):=decide_eq_decide.2 (by omega);simp only[NJ,ae,seval,a,e]
def pZ(s:az):Bool:=decide (s≠[])&&decide (s.head?≠some 91)
theorem K9(s:az):aF Tryz.prog 179 #[str s] h fun v h'=>h'=h∧v= .bool (pZ s):=by
 refine EP (args:=[str s]) rfl ?_;unfold pZ;by_cases he:s=[]
 ·subst he
  simp only[pM,ae,seval,]
  try rfl
 have lp:(0:Int)<(s.length:Int):=by have:=awr.2 he;omega
 by_cases hb:s.head?=some 91
 ·have g1:((s.getD 0 0).toNat:Int)=91:=(iY he 91).1 hb
  simp(disch:=omega)only[pM,ae,seval,he,g1];simp[hb]
 ·have g1:¬((s.getD 0 0).toNat:Int)=91:=fun x=>hb ((iY he 91).2 x)
  simp(disch:=omega)only[pM,ae,seval,he,g1,va];simp[]
theorem aqr:∀f,f<8→(decide (pg f [1,2,4]≤1))=(decide (f=0)||(decide (f=1)||(decide (f=2)||decide (f=4)))):=by decide+kernel
theorem ahB(f:Nat):f&&&1=f%8&&&1∧f&&&2=f%8&&&2∧f&&&4=f%8&&&4:=by
 have key:∀m,m<8→f&&&m=f%8&&&m:=by
  intro m hm;have h8:(8:Nat)=2^3:=rfl;rw[h8];apply Nat.eq_of_testBit_eq;intro i;rw[Nat.testBit_and,Nat.testBit_and,Nat.testBit_mod_two_pow];by_cases hi:i<3
  ·simp[hi]
  ·have:m.testBit i=false:=Nat.testBit_lt_two_pow (awF hm (by rw[h8];exact Nat.pow_le_pow_right (by decide) (by omega)))
   simp[this]
 exact⟨key 1 (by decide),key 2 (by decide),key 4 (by decide)⟩
theorem anB(f:Nat):oL f [1,2,4]=(decide (f%8=0)||(decide (f%8=1)||(decide (f%8=2)||decide (f%8=4)))):=by
 have h:=aqr (f%8) (by omega);have⟨h1,h2,h4⟩:=ahB f;have e:pg f [1,2,4]=pg (f%8) [1,2,4]:=by simp only[pg];rw[h1,h2,h4]
 rw[←h];unfold oL;rw[e]
theorem Sz(f:Nat)(hf:f<65536):aF Tryz.prog 180 #[ax f] h fun v h'=>h'=h∧v= .bool (oL f [1,2,4]):=by
 refine HY (args:=[ax f]) rfl ?_;rw[anB];have w0:(0:Int)≤(f:Int):=by omega
 have w1:IntKind.u16.wrap ((f:Int)%8)=((f%8:Nat):Int):=by rw[wrap_u16 (by omega) (by omega)];omega
 have aV:f%8<8:=by omega
 by_cases z0:f%8=0
 ·rw[z0]at w1
  simp(disch:=omega)only[lq,ae,seval,va];simp[]
 by_cases z1:f%8=1
 ·simp(disch:=omega)only[lq,ae,seval,va]
  simp[]
 by_cases z2:f%8=2
 ·simp(disch:=omega)only[lq,ae,seval,va]
  simp[]
 by_cases z4:f%8=4
 ·simp(disch:=omega)only[lq,ae,seval,va]
  simp[]
 ·simp(disch:=omega)only[lq,ae,seval,va]
  simp[]
end
end
section
theorem gT{h:ar}{b:Nat}{es:List Nat}(H:Rd h b 0 (es.map fun t:Nat=>ao t)):Sl h (.slice (some ⟨b,0,none⟩) es.length es.length) (es.map fun t:Nat=>ao t):=
 ⟨some ⟨b,0,none⟩,es.length,by rw[awk], .inr ⟨b,0,rfl,H⟩⟩
section
variable{h:ar}{g:Nat}{c:iP}{vp vi vf vm:Value}
def A9(na nd:az)(field init:Bool):Nat:=
 if field=true then jM [eT (decide (0<dc na false)) 8,eT (cG nd) 9]
 else jM [eT (decide (dc na true=1)||(decide (dc na true=2)&&init)) 8,eT ((fV nd).isSome&&(decide (dc na true≠2)||decide (mG nd=[86]))) 9]
theorem yg(na nd:az)(la:na.length≤4294967296)(lb:nd.length≤4294967296)(field init:Bool):
 aF Tryz.prog 176 #[str na,str nd, .bool field, .bool init] h fun v h'=>Ext h h'∧v=ao (A9 na nd field init:Nat):=by
 refine Da (args:=[str na,str nd, .bool field, .bool init]) rfl ?_;unfold A9;cases field with
 |true=>
  rw[awa rfl];simp only[fG,ae,seval];refine aj rfl (tQ na false la) ?_;rintro v1 h1⟨rfl,rfl⟩;have hd:decide ((0:Int)<((dc na false:Nat):Int))=decide (0<dc na false):=decide_eq_decide.2 (by omega);simp only[ae,seval,hd];refine aj rfl (bO (decide (0<dc na false)) 8) ?_;rintro v2 h2⟨rfl,rfl⟩;simp only[ae,seval];refine aj rfl (lD nd lb) ?_;rintro v3 h3⟨rfl,rfl⟩;simp only[ae,seval];refine aj rfl (bO (cG nd) 9) ?_;rintro v4 h4⟨rfl,rfl⟩;generalize eT (decide (0<dc na false)) 8=e1,eT (cG nd) 9=e2 at*;simp only[ae,seval];refine aU eC rfl rfl (by simp[]) ?_;simp only[ae,seval];have E:=Ext.push h4 (.cells #[ao e1,ao e2] 48);have t7:Sl (h4.push (.cells #[ao e1,ao e2] 48)) (.slice (some ⟨h4.size,0,none⟩) 2 2) (([e1,e2]:List Nat).map fun t:Nat=>ao t):=gT (es:=[e1,e2]) (bV (vs:=[ao e1,ao e2]));generalize h4.push _=h5,h4.size=q5 at*;refine aj rfl (gS [e1,e2] (by simp) t7) ?_;rintro v6 h6⟨rfl,rfl⟩;simp only[ae,seval];exact E
 |false=>
  rw[av9 (by decide)];simp only[fG,ae,seval];refine aj rfl (tQ na true la) ?_;rintro v1 h1⟨rfl,rfl⟩;simp only[fG,ae,seval];refine aj rfl (tP nd lb) ?_;rintro v2 h2⟨x2,hm⟩;obtain⟨sv,rfl,_⟩:=jX hm;generalize(fV nd).isSome=ok,mG nd=gv at*;have hk4:=MV na true;generalize dc na true=kd at*;by_cases k1:kd=1
  case pos=>
   cases ok with
   |false=>
    rw[show(decide (kd=1)||(decide (kd=2)&&init))=true by simp[k1],show(false&&(decide (kd≠2)||decide (gv=[86])))=false by simp[k1]];simp(disch:=omega)only[fG,ae,seval,va];refine aj rfl (bO true 8) ?_;rintro v3 h3⟨rfl,rfl⟩;simp only[ae,seval];refine aj rfl (bO false 9) ?_;rintro v4 h4⟨rfl,rfl⟩;generalize eT true 8=e1,eT false 9=e2 at*;simp only[ae,seval];refine aU eC rfl rfl (by simp[]) ?_;simp only[ae,seval];have E:=Ext.push h4 (.cells #[ao e1,ao e2] 48);have t7:Sl (h4.push (.cells #[ao e1,ao e2] 48)) (.slice (some ⟨h4.size,0,none⟩) 2 2) (([e1,e2]:List Nat).map fun t:Nat=>ao t):=gT (es:=[e1,e2]) (bV (vs:=[ao e1,ao e2]));generalize h4.push _=h5,h4.size=q5 at*;refine aj rfl (gS [e1,e2] (by simp) t7) ?_;rintro v6 h6⟨rfl,rfl⟩;simp only[ae,seval];exact x2.trans E
   |true=>
    rw[show(decide (kd=1)||(decide (kd=2)&&init))=true by simp[k1],show(true&&(decide (kd≠2)||decide (gv=[86])))=true by simp[k1]];simp(disch:=omega)only[fG,ae,seval,va];refine aj rfl (bO true 8) ?_;rintro v3 h3⟨rfl,rfl⟩;simp(disch:=omega)only[ae,seval,va];refine aj rfl (bO true 9) ?_;rintro v4 h4⟨rfl,rfl⟩;generalize eT true 8=e1,eT true 9=e2 at*;simp only[ae,seval];refine aU eC rfl rfl (by simp[]) ?_;simp only[ae,seval];have E:=Ext.push h4 (.cells #[ao e1,ao e2] 48);have t7:Sl (h4.push (.cells #[ao e1,ao e2] 48)) (.slice (some ⟨h4.size,0,none⟩) 2 2) (([e1,e2]:List Nat).map fun t:Nat=>ao t):=gT (es:=[e1,e2]) (bV (vs:=[ao e1,ao e2]));generalize h4.push _=h5,h4.size=q5 at*;refine aj rfl (gS [e1,e2] (by simp) t7) ?_;rintro v6 h6⟨rfl,rfl⟩;simp only[ae,seval];exact x2.trans E
  by_cases k2:kd=2
  case pos=>
   cases ok with
   |false=>
    rw[show(decide (kd=1)||(decide (kd=2)&&init))=init by simp[k2],show(false&&(decide (kd≠2)||decide (gv=[86])))=false by simp[k2]];simp(disch:=omega)only[fG,ae,seval,va];refine aj rfl (bO init 8) ?_;rintro v3 h3⟨rfl,rfl⟩;simp only[ae,seval];refine aj rfl (bO false 9) ?_;rintro v4 h4⟨rfl,rfl⟩;generalize eT init 8=e1,eT false 9=e2 at*;simp only[ae,seval];refine aU eC rfl rfl (by simp[]) ?_;simp only[ae,seval];have E:=Ext.push h4 (.cells #[ao e1,ao e2] 48);have t7:Sl (h4.push (.cells #[ao e1,ao e2] 48)) (.slice (some ⟨h4.size,0,none⟩) 2 2) (([e1,e2]:List Nat).map fun t:Nat=>ao t):=gT (es:=[e1,e2]) (bV (vs:=[ao e1,ao e2]));generalize h4.push _=h5,h4.size=q5 at*;refine aj rfl (gS [e1,e2] (by simp) t7) ?_;rintro v6 h6⟨rfl,rfl⟩;simp only[ae,seval];exact x2.trans E
   |true=>
    rw[show(decide (kd=1)||(decide (kd=2)&&init))=init by simp[k2],show(true&&(decide (kd≠2)||decide (gv=[86])))=decide (gv=[86]) by simp[k2]];simp(disch:=omega)only[fG,ae,seval,va];refine aj rfl (bO init 8) ?_;rintro v3 h3⟨rfl,rfl⟩;simp(disch:=omega)only[ae,seval,va];refine aj rfl (bO (decide (gv=[86])) 9) ?_;rintro v4 h4⟨rfl,rfl⟩;generalize eT init 8=e1,eT (decide (gv=[86])) 9=e2 at*;simp only[ae,seval];refine aU eC rfl rfl (by simp[]) ?_;simp only[ae,seval];have E:=Ext.push h4 (.cells #[ao e1,ao e2] 48);have t7:Sl (h4.push (.cells #[ao e1,ao e2] 48)) (.slice (some ⟨h4.size,0,none⟩) 2 2) (([e1,e2]:List Nat).map fun t:Nat=>ao t):=gT (es:=[e1,e2]) (bV (vs:=[ao e1,ao e2]));generalize h4.push _=h5,h4.size=q5 at*;refine aj rfl (gS [e1,e2] (by simp) t7) ?_;rintro v6 h6⟨rfl,rfl⟩;simp only[ae,seval];exact x2.trans E
  cases ok with
  |false=>
   rw[show(decide (kd=1)||(decide (kd=2)&&init))=false by simp[k1,k2],show(false&&(decide (kd≠2)||decide (gv=[86])))=false by simp[k2]];simp(disch:=omega)only[fG,ae,seval,va];refine aj rfl (bO false 8) ?_;rintro v3 h3⟨rfl,rfl⟩;simp only[ae,seval];refine aj rfl (bO false 9) ?_;rintro v4 h4⟨rfl,rfl⟩;generalize eT false 8=e1,eT false 9=e2 at*;simp only[ae,seval];refine aU eC rfl rfl (by simp[]) ?_;simp only[ae,seval];have E:=Ext.push h4 (.cells #[ao e1,ao e2] 48);have t7:Sl (h4.push (.cells #[ao e1,ao e2] 48)) (.slice (some ⟨h4.size,0,none⟩) 2 2) (([e1,e2]:List Nat).map fun t:Nat=>ao t):=gT (es:=[e1,e2]) (bV (vs:=[ao e1,ao e2]));generalize h4.push _=h5,h4.size=q5 at*;refine aj rfl (gS [e1,e2] (by simp) t7) ?_;rintro v6 h6⟨rfl,rfl⟩;simp only[ae,seval];exact x2.trans E
  |true=>
   rw[show(decide (kd=1)||(decide (kd=2)&&init))=false by simp[k1,k2],show(true&&(decide (kd≠2)||decide (gv=[86])))=true by simp[k2]];simp(disch:=omega)only[fG,ae,seval,va];refine aj rfl (bO false 8) ?_;rintro v3 h3⟨rfl,rfl⟩;simp(disch:=omega)only[ae,seval,va];refine aj rfl (bO true 9) ?_;rintro v4 h4⟨rfl,rfl⟩;generalize eT false 8=e1,eT true 9=e2 at*;simp only[ae,seval];refine aU eC rfl rfl (by simp[]) ?_;simp only[ae,seval];have E:=Ext.push h4 (.cells #[ao e1,ao e2] 48);have t7:Sl (h4.push (.cells #[ao e1,ao e2] 48)) (.slice (some ⟨h4.size,0,none⟩) 2 2) (([e1,e2]:List Nat).map fun t:Nat=>ao t):=gT (es:=[e1,e2]) (bV (vs:=[ao e1,ao e2]));generalize h4.push _=h5,h4.size=q5 at*;refine aj rfl (gS [e1,e2] (by simp) t7) ?_;rintro v6 h6⟨rfl,rfl⟩;simp only[ae,seval];exact x2.trans E
end
end
end Go.Proofs.YtmbboehmnfhjjaaGreatDoor
