/- The reference's reading of classes: fields. The reference's reading of classes: code. The reference's reading of classes: methods. How far a pool's reading goes (plain); the magic number. -/
import Derived.Test.YtmbboehmnfhjjaaGreatDoorU29
set_option maxRecDepth 100000
set_option maxHeartbeats 8000000
set_option linter.unusedSimpArgs false
set_option linter.unusedVariables false
set_option linter.defProp false
namespace Go.Proofs.YtmbboehmnfhjjaaGreatDoor
open Go.Vc
section
structure GX(h0:ar)(g gc rb fb:Nat)(l:az)(p:List aX)(vp:Value)(ty:TypeId)(zs:Array Value)(cs:List Value)(t:RS)(hx:ar):Prop where
 rg:RG hx g gc l p vp t
 bf:hx[fb]? =some (.cells cs.toArray ty (0,0))
 bz:hx[rb]? =some (.cells zs ty (0,0))
 fr:eW gc h0 hx
 o1:h0.size≤rb
 o2:h0.size≤fb
 o3:rb≠fb
 o4:g<h0.size∧gc<h0.size
 p0:fR h0 5 vp p.length (du p)
section
variable{h0 hx hy:ar}{g gc rb fb:Nat}{l:az}{p:List aX}{vp:Value}{ty:TypeId}{zs:Array Value}{cs:List Value}{t u:RS}
theorem GX.cY(D:GX h0 g gc rb fb l p vp ty zs cs t hx)(f:eW gc hx hy)(r:iK hy gc l u):GX h0 g gc rb fb l p vp ty zs cs u hy:=by
 have o1:=D.o1;have o2:=D.o2;have o4:=D.o4;exact⟨D.rg.cY f r,ay f D.bf (by omega),ay f D.bz (by omega),eW.trans' D.fr f,o1,o2,D.o3,o4,D.p0⟩
theorem GX.out{b:Nat}(D:GX h0 g gc rb fb l p vp ty zs cs t hx)(f:Fr (fun k=>k=b) hx hy)(hb:h0.size≤b)(h1:b≠rb)(h2:b≠fb):GX h0 g gc rb fb l p vp ty zs cs t hy:=by
 have o4:=D.o4;exact⟨⟨ay f D.rg.q (by omega),D.rg.r.fr f (by omega),D.p0.fr (by decide) (D.fr.new f hb) (fun k _ hk hS=>D.rg.nb (by rw[hk,hS])),D.rg.nb,D.rg.ne⟩,ay f D.bf (Ne.symm h2),ay f D.bz (Ne.symm h1),D.fr.new f hb,D.o1,D.o2,D.o3,o4,D.p0⟩
theorem GX.ext(D:GX h0 g gc rb fb l p vp ty zs cs t hx)(x:Ext hx hy):GX h0 g gc rb fb l p vp ty zs cs t hy:=D.cY (eW.ext x) (D.rg.r.fr x id)
theorem GX.put(D:GX h0 g gc rb fb l p vp ty zs cs t hx){ds:List Value}(f:Fr (fun k=>k=fb) hx hy)(hb:hy[fb]? =some (.cells ds.toArray ty (0,0))):GX h0 g gc rb fb l p vp ty zs ds t hy:=by
 have o2:=D.o2;have o3:=D.o3;have o4:=D.o4;exact⟨⟨ay f D.rg.q (by omega),D.rg.r.fr f (by omega),D.p0.fr (by decide) (D.fr.new f o2) (fun k _ hk hS=>D.rg.nb (by rw[hk,hS])),D.rg.nb,D.rg.ne⟩,hb,ay f D.bz o3,D.fr.new f o2,D.o1,D.o2,D.o3,o4,D.p0⟩
theorem GX.set(D:GX h0 g gc rb fb l p vp ty zs cs t hx)(k:Nat)(v:Value):GX h0 g gc rb fb l p vp ty zs (cs.set k v) t (setAt hx ⟨fb,k,none⟩ v):=by
 have b1:=bu (o:=k) D.bf v;exact D.put (Fr.set (S:=fun k=>k=fb) _ _ _ fun _=>rfl) (by rw[b1];simp)
theorem GX.cell(D:GX h0 g gc rb fb l p vp ty zs cs t hx)(k:Nat):cellAt hx ⟨fb,k,none⟩=cs[k]? :=by
 rw[au D.bf];simp
theorem GX.frozen(D:GX h0 g gc rb fb l p vp ty zs cs t hx)(k:Nat):frozenAt hx ⟨fb,k,none⟩=false:=by simp[frozenAt,D.bf]
theorem G5{n q:Nat}{en:Int}(he:u.e=0)(hen:en=((u.p+n:Nat):Int)):nX l false q en u=(cV l n u).2:=by
 have:(en-(u.p:Int)).toNat=n:=by omega
 unfold nX;simp[he,this]
theorem Lc{n pp q:Nat}{en:Int}(hen:en=((pp+n:Nat):Int)):nX l true q en u=if u.p=pp+n then u else cg 12 q u:=by
 unfold nX;by_cases hh:u.p=pp+n
 ·rw[awa rfl,awa (by omega),awa hh]
 ·rw[awa rfl,av9 (by omega),av9 hh]
theorem Ba{q:Nat}(he:u.e≠0):nX l false q (-1) u=u:=by unfold nX;simp[he]
end
section
variable{h:ar}{g gc:Nat}{l:az}{p:List aX}{vp:Value}{s:RS}
theorem aid(hl:l.length≤1073741824)(D:RG h g gc l p vp s):
 aF Tryz.prog 95 #[aE g] h fun r h'=>eW gc h h'∧iK h' gc l (d7 p l s).2∧r= .agg (d7 p l s).1.cells.toArray:=by
 refine Km (args:=[aE g]) rfl ?_;have hgc:=D.r.lt;have hg:g<h.size:=(awd.1 D.q).1;simp only[dv,ae,seval];refine aD eG ?_;have e1:Ext h (h.push (.cells #[ax 0,ax 0,ax 0,ax 0] 103)):=Ext.push _ _;have b1:(h.push (.cells #[ax 0,ax 0,ax 0,ax 0] 103))[h.size]? =some (.cells #[ax 0,ax 0,ax 0,ax 0] 103 (0,0)):=by simp
 have s1:(h.push (.cells #[ax 0,ax 0,ax 0,ax 0] 103)).size=h.size+1:=by simp
 simp only[dv,ae,seval];generalize h.push _=h1 at*;obtain⟨rb,uC⟩:∃x,x=h.size:=⟨_,rfl⟩;rw[←uC]at b1⊢;refine aD eG ?_;simp only[ae,seval];refine aI eG rfl rfl rfl (by simp[Value.cells,oneCell]) rfl ?_;intro h2 x2 ji vE b2;obtain⟨fb,M5⟩:∃x,x=h1.size:=⟨_,rfl⟩;rw[←M5]at b2⊢;have D2:GX h g gc rb fb l p vp 103 #[ax 0,ax 0,ax 0,ax 0] [ax 0,ax 0,ax 0,ax 0] s h2:=
  ⟨D.cY (eW.ext (e1.trans x2)) (D.r.fr (e1.trans x2) id),b2,ay x2 b1 id,eW.ext (e1.trans x2),by omega,by omega,by omega,⟨hg,hgc⟩,D.p⟩
 simp only[dv,ae,seval];refine aj rfl (iq hl D2.rg) ?_;rintro _ y3⟨f3,r3,rfl⟩;have E3:=D2.cY f3 r3;have kc:cellAt y3 ⟨fb,0,none⟩=some (ax 0):=by rw[E3.cell];rfl
 simp only[ae,seval];refine aC eN rfl rfl rfl rfl rfl kc (E3.frozen _) ?_;have D3:=E3.set 0 ((ax ((aA l 2 s).1:Int)));generalize setAt y3 ⟨fb,0,none⟩ _=h3 at*;simp only[dv,ae,seval];refine aj rfl (iq hl D3.rg) ?_;rintro _ y4⟨f4,r4,rfl⟩;have E4:=D3.cY f4 r4;have kc:cellAt y4 ⟨fb,1,none⟩=some (ax 0):=by rw[E4.cell];rfl
 simp only[ae,seval];refine aC eN rfl rfl rfl rfl rfl kc (E4.frozen _) ?_;have D4:=E4.set 1 ((ax ((aA l 2 (aA l 2 s).2).1:Int)));generalize setAt y4 ⟨fb,1,none⟩ _=h4 at*;simp only[dv,ae,seval];refine aj rfl (iq hl D4.rg) ?_;rintro _ y5⟨f5,r5,rfl⟩;have E5:=D4.cY f5 r5;have kc:cellAt y5 ⟨fb,2,none⟩=some (ax 0):=by rw[E5.cell];rfl
 simp only[ae,seval];refine aC eN rfl rfl rfl rfl rfl kc (E5.frozen _) ?_;have D5:=E5.set 2 ((ax ((aA l 2 (aA l 2 (aA l 2 s).2).2).1:Int)));generalize setAt y5 ⟨fb,2,none⟩ _=h5 at*;obtain⟨f1,oG⟩:∃x,x=(aA l 2 s).1:=⟨_,rfl⟩;obtain⟨f2,si⟩:∃x,x=(aA l 2 (aA l 2 s).2).1:=⟨_,rfl⟩;obtain⟨f3,hf3⟩:∃x,x=(aA l 2 (aA l 2 (aA l 2 s).2).2).1:=⟨_,rfl⟩;obtain⟨s3,hs3⟩:∃x,x=(aA l 2 (aA l 2 (aA l 2 s).2).2).2:=⟨_,rfl⟩;rw[←oG,←si,←hf3,←hs3]at D5;have D6:GX h g gc rb fb l p vp 103 #[ax 0,ax 0,ax 0,ax 0] (fC.cells ⟨f1,f2,f3,(false,0).2⟩) s3 h5:=D5;have k0:=D6.rg.k0;simp only[dv,ae,seval,k0];refine aj rfl (gM 2 hl (by omega) D6.rg.r) ?_;rintro _ w1⟨g1,q1,rfl⟩;have hk:= @dJ l 2 s3;simp only[Nat.reducePow]at hk;have Dw:=D6.cY g1 q1;obtain⟨K,hK⟩:∃K,K=aA l 2 s3:=⟨_,rfl⟩;rw[←hK]at hk Dw⊢;obtain⟨R,hR⟩:∃R,R=eS p l (sP l) K.1 (false,0) K.2:=⟨_,rfl⟩;simp only[ae,seval];refine aG [0,2,3,4,5] (fun m ρ hc=>∃(k:Nat)(x:Bool × Nat)(u:RS),m=k∧k<65536∧ρ=[(0,aE g),(2,aE rb),(3,aE fb),(4, .bool x.1),(5,ao k)]∧GX h g gc rb fb l p vp 103 #[ax 0,ax 0,ax 0,ax 0] (fC.cells ⟨f1,f2,f3,x.2⟩) u hc∧eS p l (sP l) k x u=R) ?_ ?_
 ·simp only[ae,seval]
  exact⟨_,K.1,(false,0),K.2,rfl,by simpa using hk,rfl,Dw,hR.symm⟩
 rintro m ρ hc⟨k,x,u,rfl,mY,rfl,Dx,hL⟩;have k0:=Dx.rg.k0;have c2:=Dx.rg.r.c2;refine Or.elim (Classical.em (0<m∧u.e=0)) (fun hgo=>?vI) (fun hgo=>?Qx)
 case vI=>
  obtain⟨pT,he⟩:=hgo;obtain⟨j,rfl⟩:∃j,m=j+1:=⟨m-1,by omega⟩;have jS:(0:Int)<((j+1:Nat):Int):=by omega
  have dH:(u.e:Int)=0:=by omega
  rw[qS he]at hL;have hw:IntKind.i64.wrap (((j+1:Nat):Int)-1)=(j:Int):=by rw[wrap_i64 (by omega) (by omega)];omega
  simp only[dv,ae,seval,jS,k0,c2,av8 dH];refine aj rfl (pz hl Dx.rg) ?_;rintro _ h4⟨f4,r4,nm,en,rfl,hA⟩;have D4:=Dx.cY f4 r4;have Oq:=hA.lt;have hbp:=D4.rg.r.2;have hAb:=hA.bad;have hAo:=hA.ok;generalize pk p l u=b at*;by_cases nY:b.2.e=0
  case neg=>
   obtain⟨rfl,rfl⟩:=hAb nY;rw[awa nY]at hL;simp only[dv,ae,seval];refine aj rfl (kA hl D4.rg false u.p (-1) (by omega) (by omega) (fun _ hh=>aww hh nY)) ?_;rintro _ h5⟨f5,r5⟩;rw[Ba nY]at r5;have D5:=D4.cY f5 r5;simp only[dv,ae,seval,hw];exact⟨_,by omega,j,x,b.2,rfl,by omega,rfl,D5,(jD nY).trans hL⟩
  case pos=>
   obtain⟨rfl,rfl⟩:=hAo nY;rw[av9 (by simp[nY])]at hL;by_cases kQ:ky p (aA l 2 u).1=cvN
   case neg=>
    have hT:(sP l) (ky p (aA l 2 u).1) u.p b.1 x b.2=none:=by unfold sP;rw[av9 kQ]
    rw[hT]at hL;have sR:¬ky p (aA l 2 u).1=[67,111,110,115,116,97,110,116,86,97,108,117,101]:=kQ;simp only[dv,ae,seval,av7 sR];refine aj rfl (kA hl D4.rg false u.p _ (by omega) (by omega) (fun _ _=>by omega)) ?_;rintro _ h5⟨f5,r5⟩;rw[G5 nY rfl]at r5;have D5:=D4.cY f5 r5;simp only[dv,ae,seval,hw];exact⟨_,by omega,j,x,_,rfl,by omega,rfl,D5,hL⟩
   case pos=>
    obtain⟨sn,sv⟩:=x;obtain⟨y0,Nb⟩:∃y0,y0=kR sn u.p b.2:=⟨_,rfl⟩;have hT:(sP l) (ky p (aA l 2 u).1) u.p b.1 (sn,sv) b.2=some ((true,(aA l 2 y0).1),(aA l 2 y0).2):=by unfold sP;rw[awa kQ,Nb]
    rw[hT]at hL;have sR:ky p (aA l 2 u).1=[67,111,110,115,116,97,110,116,86,97,108,117,101]:=kQ;have aii:y0.p=b.2.p:=by rw[Nb];unfold kR cg;(repeat' split)<;>rfl<;>rfl
    have k0:=D4.rg.k0;refine Or.elim (show sn=true∨sn=false by cases sn<;>simp) (fun hs=>?caS) (fun hs=>?cbS)
    case' caS=>
     subst hs;simp only[dv,ae,seval,av8 sR,k0];refine aj rfl (jF 11 u.p D4.rg.r) ?_;rintro _ h5⟨f5,r5⟩;have D5:=D4.cY f5 (show iK h5 gc l y0 by rw[Nb];exact r5);simp only[dv,ae,seval]
    case' cbS=>
     subst hs;have hb5:y0=b.2:=by rw[Nb];rfl
     simp only[dv,ae,seval,av8 sR];obtain⟨h5,ZD⟩:∃h5,h5=h4:=⟨_,rfl⟩;rw[←ZD];have D5:=D4.cY (eW.ext (Ext.refl _)) (show iK h4 gc l y0 by rw[hb5];exact D4.rg.r);rw[←ZD]at D5
    all_goals
     refine aj rfl (iq hl D5.rg) ?_;rintro _ h6⟨f6,r6,rfl⟩;have D6:=D5.cY f6 r6;have kc:cellAt h6 ⟨fb,3,none⟩=some (ax sv):=by rw[D6.cell];rfl
     simp only[ae,seval];refine aC eN rfl rfl rfl rfl rfl kc (D6.frozen _) ?_;have D7:=D6.set 3 (ax ((aA l 2 y0).1:Int));generalize setAt h6 ⟨fb,3,none⟩ _=h7 at*;simp only[dv,ae,seval];refine aj rfl (kA hl D7.rg true u.p _ (by omega) (by omega) (fun hh=>by cases hh)) ?_;rintro _ h8⟨f8,r8⟩;rw[Lc rfl]at r8;have D8:=D7.cY f8 r8;simp only[dv,ae,seval,hw];exact⟨_,by omega,j,(true,(aA l 2 y0).1),_,rfl,by omega,rfl,D8,hL⟩
 have yh:R=(x,u):=by
  rw[←hL];rcases Nat.eq_zero_or_pos m with h0|h0
  ·subst h0;rfl
  ·exact jD (fun he=>hgo ⟨h0,he⟩)
 refine Or.elim (Classical.em (m=0)) (fun h0=>?ccG) (fun h0=>?yj)
 case' ccG=>
  have hz:¬(0:Int)<(m:Int):=by omega
  simp only[dv,ae,seval,hz]
 case' yj=>
  have hz:(0:Int)<(m:Int):=by omega
  have dH:¬(u.e:Int)=0:=fun he=>hgo ⟨by omega,by omega⟩;simp only[dv,ae,seval,hz,k0,c2,av7 dH]
 all_goals
  have vl:d7 p l s=((⟨f1,f2,f3,x.2⟩:fC),u):=by
   unfold d7;simp only[←oG,←si,←hf3,←hs3,←hK,←hR,yh]
  rw[vl];have bm:=aS lN (aN (vs:=fC.cells ⟨f1,f2,f3,x.2⟩) Dx.bf) rfl;simp only[fC.cells]at bm;simp only[ae,seval,bm];refine dD eG rfl rfl rfl (by simp[Value.cells,oneCell]) Dx.bz (by decide) (fun j _ _=>by simp) ?_;intro h6 f6 b6;have di:Rd h6 rb 0 (fC.cells ⟨f1,f2,f3,x.2⟩):=aN (by simpa[Value.cells,fC.cells]using b6);have GA:=aS lN di rfl;simp only[fC.cells]at GA;have o1:=Dx.o1;simp only[ae,seval,GA];exact⟨Dx.fr.new f6 o1,Dx.rg.r.fr f6 (by omega),rfl⟩
end
end
section
structure GH(h0:ar)(g gc rb fb:Nat)(l:az)(p:List aX)(vp:Value)(ty:TypeId)(zs:Array Value)(cs:List Value)(w:Value)(hs:List ns)(t:RS)(hx:ar):Prop where
 x:GX h0 g gc rb fb l p vp ty zs cs t hx
 o:Own hx h0.size 226 4 w hs.length (gZ hs)
section
variable{h0 hx hy:ar}{g gc rb fb:Nat}{l:az}{p:List aX}{vp w:Value}{ty:TypeId}{zs:Array Value}{cs:List Value}{hs:List ns}{t u:RS}
theorem GH.rg(D:GH h0 g gc rb fb l p vp ty zs cs w hs t hx):RG hx g gc l p vp t:=D.x.rg
theorem GH.cY(D:GH h0 g gc rb fb l p vp ty zs cs w hs t hx)(f:eW gc hx hy)(r:iK hy gc l u):GH h0 g gc rb fb l p vp ty zs cs w hs u hy:=
 ⟨D.x.cY f r,da D.o f (e:=170) (fun k _ hk=>⟨_,_,hk▸D.x.rg.r.1⟩) (by decide)⟩
theorem GH.ext(D:GH h0 g gc rb fb l p vp ty zs cs w hs t hx)(x:Ext hx hy):GH h0 g gc rb fb l p vp ty zs cs w hs t hy:=⟨D.x.ext x,D.o.ext x⟩
theorem GH.put(D:GH h0 g gc rb fb l p vp ty zs cs w hs t hx){ds:List Value}(cN:226≠ty)(f:Fr (fun k=>k=fb) hx hy)(hb:hy[fb]? =some (.cells ds.toArray ty (0,0))):GH h0 g gc rb fb l p vp ty zs ds w hs t hy:=
 ⟨D.x.put f hb,da D.o f (e:=ty) (fun k _ hk=>⟨_,_,hk▸D.x.bf⟩) cN⟩
theorem GH.set(D:GH h0 g gc rb fb l p vp ty zs cs w hs t hx)(cN:226≠ty)(k:Nat)(v:Value):GH h0 g gc rb fb l p vp ty zs (cs.set k v) w hs t (setAt hx ⟨fb,k,none⟩ v):=by
 have b1:=bu (o:=k) D.x.bf v;exact D.put cN (Fr.set (S:=fun k=>k=fb) _ _ _ fun _=>rfl) (by rw[b1];simp)
theorem GH.cell(D:GH h0 g gc rb fb l p vp ty zs cs w hs t hx)(k:Nat):cellAt hx ⟨fb,k,none⟩=cs[k]? :=D.x.cell k
theorem GH.frozen(D:GH h0 g gc rb fb l p vp ty zs cs w hs t hx)(k:Nat):frozenAt hx ⟨fb,k,none⟩=false:=D.x.frozen k
theorem GH.out{b:Nat}(D:GH h0 g gc rb fb l p vp ty zs cs w hs t hx)(f:Fr (fun k=>k=b) hx hy)(hb:h0.size≤b)(h1:b≠rb)(h2:b≠fb)(h3:∀k,w.ownBlock=some k→k≠b):GH h0 g gc rb fb l p vp ty zs cs w hs t hy:=
 ⟨D.x.out f hb h1 h2,D.o.fr f (fun k hk hS=>h3 k hk hS)⟩
theorem GH.app(D:GH h0 g gc rb fb l p vp ty zs cs w hs t hx)(cN:226≠ty)(f:Fr (fun k=>w.ownBlock=some k) hx hy){w':Value}{hs':List ns}(O:Own hy h0.size 226 4 w' hs'.length (gZ hs')):GH h0 g gc rb fb l p vp ty zs cs w' hs' t hy:=by
 have hS:∀k,k<hx.size→w.ownBlock=some k→∃cs fz,hx[k]? =some (.cells cs 226 fz):=fun k _ hk=>(mJ D.o k hk).2;have nI:eW gc h0 hy:=Fr.trans D.x.fr f (fun _ _ hh=>hh) (fun k hk hS=>by have:=(mJ D.o k hS).1;omega);exact⟨⟨⟨dG D.x.rg.q f hS (by decide),⟨dG D.x.rg.r.1 f hS (by decide),D.x.rg.r.2⟩,D.x.p0.fr (by decide) nI (fun k _ hk hS=>D.x.rg.nb (by rw[hk,hS])),D.x.rg.nb,D.x.rg.ne⟩,dG D.x.bf f hS (Ne.symm cN),dG D.x.bz f hS (Ne.symm cN),nI,D.x.o1,D.x.o2,D.x.o3,D.x.o4,D.x.p0⟩,O⟩
end
section
variable{h:ar}{g gc:Nat}{l:az}{p:List aX}{vp:Value}{s:RS}
theorem ab9(hl:l.length≤1073741824)(D:RG h g gc l p vp s):
 aF Tryz.prog 170 #[aE g] h fun r h'=>eW gc h h'∧iK h' gc l (iO p l s).2∧∃vH,r= .agg (fX (iO p l s).1 vH).toArray∧Own h' h.size 226 4 vH (iO p l s).1.hs.length (gZ (iO p l s).1.hs):=by
 refine Mc (args:=[aE g]) rfl ?_;have hgc:=D.r.lt;have hg:g<h.size:=(awd.1 D.q).1;simp only[cK,ae,seval];refine aD iX ?_;have e1:Ext h (h.push (.cells #[ao 0,ao 0,str [],nS,str []] 88)):=Ext.push _ _;have b1:(h.push (.cells #[ao 0,ao 0,str [],nS,str []] 88))[h.size]? =some (.cells #[ao 0,ao 0,str [],nS,str []] 88 (0,0)):=by simp
 have s1:(h.push (.cells #[ao 0,ao 0,str [],nS,str []] 88)).size=h.size+1:=by simp
 simp only[cK,ae,seval];generalize h.push _=h1 at*;obtain⟨rb,uC⟩:∃x,x=h.size:=⟨_,rfl⟩;rw[←uC]at b1⊢;refine aD iX ?_;simp only[ae,seval];refine aI iX rfl rfl rfl (by simp[Value.cells,oneCell,str]) rfl ?_;intro h2 x2 ji vE b2;obtain⟨fb,M5⟩:∃x,x=h1.size:=⟨_,rfl⟩;rw[←M5]at b2⊢;have D2:GX h g gc rb fb l p vp 88 #[ao 0,ao 0,str [],nS,str []] [ao 0,ao 0,str [],nS,str []] s h2:=
  ⟨D.cY (eW.ext (e1.trans x2)) (D.r.fr (e1.trans x2) id),b2,ay x2 b1 id,eW.ext (e1.trans x2),by omega,by omega,by omega,⟨hg,hgc⟩,D.p⟩
 have k0:=D2.rg.k0;simp only[cK,ae,seval,k0];refine aj rfl (gM 2 hl (by omega) D2.rg.r) ?_;rintro _ y3⟨f3,r3,rfl⟩;have E3:=D2.cY f3 r3;have kc:cellAt y3 ⟨fb,0,none⟩=some (ao 0):=by rw[E3.cell];rfl
 simp only[ae,seval];refine aC dI rfl rfl rfl rfl rfl kc (E3.frozen _) ?_;have D3:=E3.set 0 ((ao ((aA l 2 s).1:Int)));generalize setAt y3 ⟨fb,0,none⟩ _=h3 at*;have k0:=D3.rg.k0;simp only[cK,ae,seval,k0];refine aj rfl (gM 2 hl (by omega) D3.rg.r) ?_;rintro _ y4⟨f4,r4,rfl⟩;have E4:=D3.cY f4 r4;have kc:cellAt y4 ⟨fb,1,none⟩=some (ao 0):=by rw[E4.cell];rfl
 simp only[ae,seval];refine aC dI rfl rfl rfl rfl rfl kc (E4.frozen _) ?_;have D4:=E4.set 1 ((ao ((aA l 2 (aA l 2 s).2).1:Int)));generalize setAt y4 ⟨fb,1,none⟩ _=h4 at*;obtain⟨a,ha⟩:∃x,x=(aA l 2 s).1:=⟨_,rfl⟩;obtain⟨b0,Wh⟩:∃x,x=(aA l 2 (aA l 2 s).2).1:=⟨_,rfl⟩;obtain⟨s2,j8⟩:∃x,x=(aA l 2 (aA l 2 s).2).2:=⟨_,rfl⟩;rw[←ha,←Wh,←j8]at D4;have k0:=D4.rg.k0;simp only[cK,ae,seval,k0];refine aj rfl (gM 4 hl (by omega) D4.rg.r) ?_;rintro _ y5⟨f5,r5,rfl⟩;have D5:=D4.cY f5 r5;have hn4:= @dJ l 4 s2;simp only[Nat.reducePow]at hn4;have k0:=D5.rg.k0;simp only[ae,seval,k0];refine aj rfl (sQ (aA l 4 s2).1 hl (by omega) D5.rg.r) ?_;rintro _ y6⟨f6,r6,rfl⟩;have E6:=D5.cY f6 r6;obtain⟨M,hM⟩:∃M,M=cV l (aA l 4 s2).1 (aA l 4 s2).2:=⟨_,rfl⟩;rw[←hM]at E6⊢;have kc:cellAt y6 ⟨fb,2,none⟩=some (str []):=by rw[E6.cell];rfl
 simp only[ae,seval];refine aC nM rfl rfl rfl rfl rfl kc (E6.frozen _) ?_;have D6':=E6.set 2 (str M.1);generalize setAt y6 ⟨fb,2,none⟩ _=h6 at*;have D6:GH h g gc rb fb l p vp 88 #[ao 0,ao 0,str [],nS,str []] (fX ⟨(a:Int),(b0:Int),M.1,[],[]⟩ nS) nS [] M.2 h6:=⟨D6',Own.nil⟩;have k0:=D6.rg.k0;simp only[cK,ae,seval,k0];refine aj rfl (gM 2 hl (by omega) D6.rg.r) ?_;rintro _ w1⟨g1,q1,rfl⟩;have hk:= @dJ l 2 M.2;simp only[Nat.reducePow]at hk;have Dw:=D6.cY g1 q1;obtain⟨K0,hK0⟩:∃K,K=aA l 2 M.2:=⟨_,rfl⟩;rw[←hK0]at hk Dw⊢;obtain⟨R0,hR0⟩:∃R,R=eo (mh l) K0.1 [] K0.2:=⟨_,rfl⟩;simp only[ae,seval];refine aG [0,2,3,4] (fun m ρ hc=>∃(k:Nat)(hs:List ns)(w:Value)(u:RS),m=k∧hs.length+k≤65535∧ρ=[(0,aE g),(2,aE rb),(3,aE fb),(4,ao k)]∧GH h g gc rb fb l p vp 88 #[ao 0,ao 0,str [],nS,str []] (fX ⟨(a:Int),(b0:Int),M.1,hs,[]⟩ w) w hs u hc∧eo (mh l) k hs u=R0) ?_ ?_
 ·simp only[ae,seval]
  exact⟨_,K0.1,[],_,K0.2,rfl,by simp;omega,rfl,Dw,hR0.symm⟩
 rintro m ρ hc⟨k,hs,w,u,rfl,mY,rfl,Dx,hL⟩;have k0:=Dx.rg.k0;have c2:=Dx.rg.r.c2;refine Or.elim (Classical.em (0<m∧u.e=0)) (fun hgo=>?vI) (fun hgo=>?Qx)
 case vI=>
  obtain⟨pT,he⟩:=hgo;obtain⟨j,rfl⟩:∃j,m=j+1:=⟨m-1,by omega⟩;have jS:(0:Int)<((j+1:Nat):Int):=by omega
  have dH:(u.e:Int)=0:=by omega
  rw[eo,av9 (by simp[he])]at hL;have hw:IntKind.i64.wrap (((j+1:Nat):Int)-1)=(j:Int):=by rw[wrap_i64 (by omega) (by omega)];omega
  simp only[cK,ae,seval,jS,k0,c2,av8 dH];refine aD rF ?_;simp only[ae,seval];refine aI rF rfl rfl rfl (by simp[Value.cells,oneCell]) rfl ?_;intro z2 x2 ji vE B19;have aqY:=(awd.1 Dx.x.bf).1;have aqZ:=(awd.1 Dx.x.bz).1;have hwb:∀k,w.ownBlock=some k→k<hc.size:=fun k hk=>(Dx.o.lt k hk).2;have gB:=Dx.x.fr.size;have E0:=Dx.ext x2;obtain⟨hb,hhb⟩:∃x,x=hc.size:=⟨_,rfl⟩;rw[←hhb]at B19 aqY aqZ hwb gB⊢;have k0:=E0.rg.k0;simp only[cK,ae,seval,k0];refine aj rfl (gM 2 hl (by omega) E0.rg.r) ?_;rintro _ y20⟨f20,r20,rfl⟩;have E20:=E0.cY f20 r20;have B20:=ay f20 B19 (show¬hb=gc by omega);have kc:cellAt y20 ⟨hb,0,none⟩=some (ao 0):=by rw[au B20];rfl
  have kz:frozenAt y20 ⟨hb,0,none⟩=false:=by simp[frozenAt,B20]
  simp only[ae,seval];refine aC dI rfl rfl rfl rfl rfl kc kz ?_;have F20:Fr (fun k=>k=hb) y20 (setAt y20 ⟨hb,0,none⟩ (ao ((aA l 2 u).1:Int))):=Fr.set (S:=fun k=>k=hb) _ _ _ fun _=>rfl;have D20:=E20.out F20 (by omega) (by omega) (by omega) (fun k hk=>by have:=hwb k hk;omega);have C20:=bu (o:=0) B20 (ao ((aA l 2 u).1:Int));have C20:(setAt y20 ⟨hb,0,none⟩ (ao ((aA l 2 u).1:Int)))[hb]? =some (.cells #[ao ((aA l 2 u).1:Int),ao 0,ao 0,ax 0] 226 (0,0)):=C20;generalize setAt y20 ⟨hb,0,none⟩ _=z20 at*;have B21:=C20;have k0:=D20.rg.k0;simp only[cK,ae,seval,k0];refine aj rfl (gM 2 hl (by omega) D20.rg.r) ?_;rintro _ y22⟨f22,r22,rfl⟩;have E22:=D20.cY f22 r22;have B22:=ay f22 B21 (show¬hb=gc by omega);have kc:cellAt y22 ⟨hb,1,none⟩=some (ao 0):=by rw[au B22];rfl
  have kz:frozenAt y22 ⟨hb,1,none⟩=false:=by simp[frozenAt,B22]
  simp only[ae,seval];refine aC dI rfl rfl rfl rfl rfl kc kz ?_;have F22:Fr (fun k=>k=hb) y22 (setAt y22 ⟨hb,1,none⟩ (ao ((aA l 2 (aA l 2 u).2).1:Int))):=Fr.set (S:=fun k=>k=hb) _ _ _ fun _=>rfl;have D22:=E22.out F22 (by omega) (by omega) (by omega) (fun k hk=>by have:=hwb k hk;omega);have C22:=bu (o:=1) B22 (ao ((aA l 2 (aA l 2 u).2).1:Int));have C22:(setAt y22 ⟨hb,1,none⟩ (ao ((aA l 2 (aA l 2 u).2).1:Int)))[hb]? =some (.cells #[ao ((aA l 2 u).1:Int),ao ((aA l 2 (aA l 2 u).2).1:Int),ao 0,ax 0] 226 (0,0)):=C22;generalize setAt y22 ⟨hb,1,none⟩ _=z22 at*;have B23:=C22;have k0:=D22.rg.k0;simp only[cK,ae,seval,k0];refine aj rfl (gM 2 hl (by omega) D22.rg.r) ?_;rintro _ y24⟨f24,r24,rfl⟩;have E24:=D22.cY f24 r24;have B24:=ay f24 B23 (show¬hb=gc by omega);have kc:cellAt y24 ⟨hb,2,none⟩=some (ao 0):=by rw[au B24];rfl
  have kz:frozenAt y24 ⟨hb,2,none⟩=false:=by simp[frozenAt,B24]
  simp only[ae,seval];refine aC dI rfl rfl rfl rfl rfl kc kz ?_;have F24:Fr (fun k=>k=hb) y24 (setAt y24 ⟨hb,2,none⟩ (ao ((aA l 2 (aA l 2 (aA l 2 u).2).2).1:Int))):=Fr.set (S:=fun k=>k=hb) _ _ _ fun _=>rfl;have D24:=E24.out F24 (by omega) (by omega) (by omega) (fun k hk=>by have:=hwb k hk;omega);have C24:=bu (o:=2) B24 (ao ((aA l 2 (aA l 2 (aA l 2 u).2).2).1:Int));have C24:(setAt y24 ⟨hb,2,none⟩ (ao ((aA l 2 (aA l 2 (aA l 2 u).2).2).1:Int)))[hb]? =some (.cells #[ao ((aA l 2 u).1:Int),ao ((aA l 2 (aA l 2 u).2).1:Int),ao ((aA l 2 (aA l 2 (aA l 2 u).2).2).1:Int),ax 0] 226 (0,0)):=C24;generalize setAt y24 ⟨hb,2,none⟩ _=z24 at*;have B25:=C24;simp only[cK,ae,seval];refine aj rfl (iq hl D24.rg) ?_;rintro _ y26⟨f26,r26,rfl⟩;have E26:=D24.cY f26 r26;have B26:=ay f26 B25 (show¬hb=gc by omega);have kc:cellAt y26 ⟨hb,3,none⟩=some (ax 0):=by rw[au B26];rfl
  have kz:frozenAt y26 ⟨hb,3,none⟩=false:=by simp[frozenAt,B26]
  simp only[ae,seval];refine aC eN rfl rfl rfl rfl rfl kc kz ?_;have F26:Fr (fun k=>k=hb) y26 (setAt y26 ⟨hb,3,none⟩ (ax ((aA l 2 (aA l 2 (aA l 2 (aA l 2 u).2).2).2).1:Int))):=Fr.set (S:=fun k=>k=hb) _ _ _ fun _=>rfl;have D26:=E26.out F26 (by omega) (by omega) (by omega) (fun k hk=>by have:=hwb k hk;omega);have C26:=bu (o:=3) B26 (ax ((aA l 2 (aA l 2 (aA l 2 (aA l 2 u).2).2).2).1:Int));have C26:(setAt y26 ⟨hb,3,none⟩ (ax ((aA l 2 (aA l 2 (aA l 2 (aA l 2 u).2).2).2).1:Int)))[hb]? =some (.cells #[ao ((aA l 2 u).1:Int),ao ((aA l 2 (aA l 2 u).2).1:Int),ao ((aA l 2 (aA l 2 (aA l 2 u).2).2).1:Int),ax ((aA l 2 (aA l 2 (aA l 2 (aA l 2 u).2).2).2).1:Int)] 226 (0,0)):=C26;generalize setAt y26 ⟨hb,3,none⟩ _=z26 at*;have B27:=C26;change eo (mh l) j (hs++[(mh l u).1]) (mh l u).2=R0 at hL;obtain⟨y,hy⟩:∃y,y=(mh l u).1:=⟨_,rfl⟩;have B28:z26[hb]? =some (.cells y.cells.toArray 226 (0,0)):=by rw[hy];exact B27
  have D28:GH h g gc rb fb l p vp 88 #[ao 0,ao 0,str [],nS,str []] (fX ⟨(a:Int),(b0:Int),M.1,hs,[]⟩ w) w hs (mh l u).2 z26:=D26;rw[←hy]at hL;have bm:=aS KC (aN B28) rfl;simp only[ns.cells]at bm;have k3:cellAt z26 ⟨fb,3,none⟩=some w:=by rw[D28.cell];rfl
  simp only[cK,ae,seval,k3,bm];refine aU AI rfl rfl (by decide) ?_;have hyc:y.cells=[ao y.from',ao y.to,ao y.target,ax y.type]:=rfl;have ex:Ext z26 (z26.push (.cells y.cells.toArray 226)):=Ext.push _ _;have ba:(z26.push (.cells y.cells.toArray 226))[z26.size]? =some (.cells y.cells.toArray 226 (0,0)):=by simp
  have D29:=D28.ext ex;rw[hyc]at ex ba D29;simp only[ae,seval];generalize z26.push _=z5,z26.size=lb at*;rw[←hyc]at ba;have pB:fR z5 4 (.slice (some ⟨lb,0,none⟩) 1 1) 1 y.cells:=⟨rfl,_,_,rfl, .inr ⟨lb,0,rfl,aN ba⟩⟩;have eY:∀w∈y.cells,oneCell w=true:=fun w hw=>ahm [y] w (by simpa[gZ]using hw);refine gO (m:=1) (news:=y.cells) AI rfl rfl D29.o pB eY (by first|omega|(simp only;omega)) (by first|omega|(simp only;omega)) D29.x.fr.size ?_;intro w6 z6 kx f6;have D30:=D29.app (by decide) f6 (hs':=hs++[y]) (dR kx (by simp) (by simp[gZ]));obtain⟨a6,c6,rfl,_⟩:=kx.dQ.2;have k36:cellAt z6 ⟨fb,3,none⟩=some w:=by rw[D30.cell];rfl
  simp only[ae,seval];refine aC UG rfl rfl rfl rfl rfl k36 (D30.frozen _) ?_;have D31:=D30.set (by decide) 3 (.slice a6 (hs.length+1) c6);simp only[cK,ae,seval,hw];exact⟨_,by omega,j,hs++[y],_,_,rfl,by simp;omega,rfl,D31,hL⟩
 have aq3:R0=(hs,u):=by
  rw[←hL];rcases Nat.eq_zero_or_pos m with h0|h0
  ·subst h0;rfl
  ·exact mH (fun he=>hgo ⟨h0,he⟩)
 have pR:∀x52:Value,Cd.vc Tryz.prog Q7 (gP Tryz.prog [(2,some 88)] fun r h'=>eW gc h h'∧iK h' gc l (iO p l s).2∧∃vH,r= .agg (fX (iO p l s).1 vH).toArray∧Own h' rb 226 4 vH (iO p l s).1.hs.length (gZ (iO p l s).1.hs)) [(0,aE g),(2,aE rb),(3,aE fb),(4,ao m),(52,x52)] hc:=by
  intro x52;rw[Md];have D6:GH h g gc rb fb l p vp 88 #[ao 0,ao 0,str [],nS,str []] (fX ⟨(a:Int),(b0:Int),M.1,hs,(false,([]:az)).2⟩ w) w hs u hc:=Dx;have k0:=D6.rg.k0;simp only[cK,ae,seval,k0];refine aj rfl (gM 2 hl (by omega) D6.rg.r) ?_;rintro _ w1⟨g1,q1,rfl⟩;have hk:= @dJ l 2 u;simp only[Nat.reducePow]at hk;have Dw:=D6.cY g1 q1;obtain⟨K,hK⟩:∃K,K=aA l 2 u:=⟨_,rfl⟩;rw[←hK]at hk Dw⊢;obtain⟨R,hR⟩:∃R,R=eS p l (IQ l) K.1 (false,[]) K.2:=⟨_,rfl⟩;simp only[ae,seval];refine aG [0,2,3,6,7] (fun m ρ hc=>∃(k:Nat)(x:Bool × az)(u:RS),m=k∧k<65536∧ρ=[(0,aE g),(2,aE rb),(3,aE fb),(6, .bool x.1),(7,ao k)]∧GH h g gc rb fb l p vp 88 #[ao 0,ao 0,str [],nS,str []] (fX ⟨(a:Int),(b0:Int),M.1,hs,x.2⟩ w) w hs u hc∧eS p l (IQ l) k x u=R) ?_ ?_
  ·simp only[ae,seval]
   exact⟨_,K.1,(false,[]),K.2,rfl,by simpa using hk,rfl,Dw,hR.symm⟩
  rintro m ρ hc⟨k,x,u,rfl,mY,rfl,Dx,hL⟩;have k0:=Dx.rg.k0;have c2:=Dx.rg.r.c2;refine Or.elim (Classical.em (0<m∧u.e=0)) (fun hgo=>?aq5) (fun hgo=>?avj)
  case aq5=>
   obtain⟨pT,he⟩:=hgo;obtain⟨j,rfl⟩:∃j,m=j+1:=⟨m-1,by omega⟩;have jS:(0:Int)<((j+1:Nat):Int):=by omega
   have dH:(u.e:Int)=0:=by omega
   rw[qS he]at hL;have hw:IntKind.i64.wrap (((j+1:Nat):Int)-1)=(j:Int):=by rw[wrap_i64 (by omega) (by omega)];omega
   simp only[cK,ae,seval,jS,k0,c2,av8 dH];refine aj rfl (pz hl Dx.rg) ?_;rintro _ h4⟨f4,r4,nm,en,rfl,hA⟩;have D4:=Dx.cY f4 r4;have Oq:=hA.lt;have hbp:=D4.rg.r.2;have hAb:=hA.bad;have hAo:=hA.ok;generalize pk p l u=b at*;by_cases nY:b.2.e=0
   case neg=>
    obtain⟨rfl,rfl⟩:=hAb nY;rw[awa nY]at hL;simp only[cK,ae,seval];refine aj rfl (kA hl D4.rg false u.p (-1) (by omega) (by omega) (fun _ hh=>aww hh nY)) ?_;rintro _ h5⟨f5,r5⟩;rw[Ba nY]at r5;have D5:=D4.cY f5 r5;simp only[cK,ae,seval,hw];exact⟨_,by omega,j,x,b.2,rfl,by omega,rfl,D5,(jD nY).trans hL⟩
   case pos=>
    obtain⟨rfl,rfl⟩:=hAo nY;rw[av9 (by simp[nY])]at hL;by_cases kQ:ky p (aA l 2 u).1=smN
    case neg=>
     have hT:(IQ l) (ky p (aA l 2 u).1) u.p b.1 x b.2=none:=by unfold IQ;rw[av9 kQ]
     rw[hT]at hL;have sR:¬ky p (aA l 2 u).1=[83,116,97,99,107,77,97,112,84,97,98,108,101]:=kQ;simp only[cK,ae,seval,av7 sR];refine aj rfl (kA hl D4.rg false u.p _ (by omega) (by omega) (fun _ _=>by omega)) ?_;rintro _ h5⟨f5,r5⟩;rw[G5 nY rfl]at r5;have D5:=D4.cY f5 r5;simp only[cK,ae,seval,hw];exact⟨_,by omega,j,x,_,rfl,by omega,rfl,D5,hL⟩
    case pos=>
     obtain⟨sn,sv⟩:=x;obtain⟨y0,Nb⟩:∃y0,y0=kR sn u.p b.2:=⟨_,rfl⟩;have hT:(IQ l) (ky p (aA l 2 u).1) u.p b.1 (sn,sv) b.2=some ((true,(cV l b.1 y0).1),(cV l b.1 y0).2):=by unfold IQ;rw[awa kQ,Nb]
     rw[hT]at hL;have sR:ky p (aA l 2 u).1=[83,116,97,99,107,77,97,112,84,97,98,108,101]:=kQ;have aii:y0.p=b.2.p:=by rw[Nb];unfold kR cg;(repeat' split)<;>rfl<;>rfl
     have k0:=D4.rg.k0;refine Or.elim (show sn=true∨sn=false by cases sn<;>simp) (fun hs=>?aq6) (fun hs=>?aq7)
     case' aq6=>
      subst hs;simp only[cK,ae,seval,av8 sR,k0];refine aj rfl (jF 11 u.p D4.rg.r) ?_;rintro _ h5⟨f5,r5⟩;have D5:=D4.cY f5 (show iK h5 gc l y0 by rw[Nb];exact r5);simp only[cK,ae,seval]
     case' aq7=>
      subst hs;have hb5:y0=b.2:=by rw[Nb];rfl
      simp only[cK,ae,seval,av8 sR];obtain⟨h5,ZD⟩:∃h5,h5=h4:=⟨_,rfl⟩;rw[←ZD];have D5:=D4.cY (eW.ext (Ext.refl _)) (show iK h4 gc l y0 by rw[hb5];exact D4.rg.r);rw[←ZD]at D5
     all_goals
      have k0:=D5.rg.k0;have c1:=D5.rg.r.c1;have hwt:IntKind.i64.wrap (((b.2.p+b.1:Nat):Int)-(y0.p:Int))=(b.1:Int):=by rw[aii,wrap_i64 (by omega) (by omega)];omega
      simp only[ae,seval,k0,c1,hwt];refine aj rfl (sQ b.1 hl (by omega) D5.rg.r) ?_;rintro _ h6⟨f6,r6,rfl⟩;have D6:=D5.cY f6 r6;have kc:cellAt h6 ⟨fb,4,none⟩=some (str sv):=by rw[D6.cell];rfl
      simp only[ae,seval];refine aC nM rfl rfl rfl rfl rfl kc (D6.frozen _) ?_;have D7:=D6.set (by decide) 4 (str (cV l b.1 y0).1);generalize setAt h6 ⟨fb,4,none⟩ _=h7 at*;simp only[cK,ae,seval];refine aj rfl (kA hl D7.rg true u.p _ (by omega) (by omega) (fun hh=>by cases hh)) ?_;rintro _ h8⟨f8,r8⟩;rw[Lc rfl]at r8;have D8:=D7.cY f8 r8;simp only[cK,ae,seval,hw];exact⟨_,by omega,j,(true,(cV l b.1 y0).1),_,rfl,by omega,rfl,D8,hL⟩
  have yh:R=(x,u):=by
   rw[←hL];rcases Nat.eq_zero_or_pos m with h0|h0
   ·subst h0;rfl
   ·exact jD (fun he=>hgo ⟨h0,he⟩)
  refine Or.elim (Classical.em (m=0)) (fun h0=>?aq8) (fun h0=>?aq9)
  case' aq8=>
   have hz:¬(0:Int)<(m:Int):=by omega
   simp only[cK,ae,seval,hz]
  case' aq9=>
   have hz:(0:Int)<(m:Int):=by omega
   have dH:¬(u.e:Int)=0:=fun he=>hgo ⟨by omega,by omega⟩;simp only[cK,ae,seval,hz,k0,c2,av7 dH]
  all_goals
   have vl:iO p l s=((⟨(a:Int),(b0:Int),M.1,hs,x.2⟩:vu),u):=by
    unfold iO;simp only[←ha,←Wh,←j8,←hM,←hK0,←hR0,aq3,←hK,←hR,yh]
   rw[vl];obtain⟨aH,cH,rfl,_⟩:=Dx.o.dQ.2;have bm:=aS pW (aN Dx.x.bf) rfl;simp only[fX]at bm;simp only[ae,seval,bm];refine dD iX rfl rfl rfl (by simp[Value.cells,oneCell,str]) Dx.x.bz (by decide) (fun j _ _=>by simp) ?_;intro h6 f6 b6;have di:Rd h6 rb 0 (fX ⟨(a:Int),(b0:Int),M.1,hs,x.2⟩ (.slice aH hs.length cH)):=aN (by simpa[Value.cells,fX]using b6);have GA:=aS pW di rfl;simp only[fX]at GA;have o1:=Dx.x.o1;simp only[ae,seval,GA];refine⟨Dx.x.fr.new f6 o1,Dx.rg.r.fr f6 (by omega), .slice aH hs.length cH,rfl,?_⟩;rw[uC];exact da Dx.o f6 (e:=88) (fun k _ hk=>⟨_,_,hk▸Dx.x.bz⟩) (by decide)
 refine Or.elim (Classical.em (m=0)) (fun h0=>?ccG) (fun h0=>?yj)
 case' ccG=>
  have hz:¬(0:Int)<(m:Int):=by omega
  simp only[cK,ae,seval,hz]
 case' yj=>
  have hz:(0:Int)<(m:Int):=by omega
  have dH:¬(u.e:Int)=0:=fun he=>hgo ⟨by omega,by omega⟩;simp only[cK,ae,seval,hz,k0,c2,av7 dH]
 all_goals
  exact pR _
end
end
section
section
variable{h:ar}{g gc:Nat}{l:az}{p:List aX}{vp:Value}{s:RS}
theorem ail(hl:l.length≤1073741824)(D:RG h g gc l p vp s):
 aF Tryz.prog 96 #[aE g] h fun r h'=>eW gc h h'∧iK h' gc l (bT p l s).2∧∃vH,r= .agg (fQ (bT p l s).1 vH).toArray∧Own h' h.size 226 4 vH (bT p l s).1.code.hs.length (gZ (bT p l s).1.code.hs):=by
 refine Ig (args:=[aE g]) rfl ?_;have hgc:=D.r.lt;have hg:g<h.size:=(awd.1 D.q).1;simp only[dl,ae,seval];refine aD eH ?_;have e1:Ext h (h.push (.cells #[ax 0,ax 0,ax 0, .bool false,ao 0,ao 0,str [],nS,str []] 107)):=Ext.push _ _;have b1:(h.push (.cells #[ax 0,ax 0,ax 0, .bool false,ao 0,ao 0,str [],nS,str []] 107))[h.size]? =some (.cells #[ax 0,ax 0,ax 0, .bool false,ao 0,ao 0,str [],nS,str []] 107 (0,0)):=by simp
 have s1:(h.push (.cells #[ax 0,ax 0,ax 0, .bool false,ao 0,ao 0,str [],nS,str []] 107)).size=h.size+1:=by simp
 simp only[dl,ae,seval];generalize h.push _=h1 at*;obtain⟨rb,uC⟩:∃x,x=h.size:=⟨_,rfl⟩;rw[←uC]at b1⊢;refine aD eH ?_;simp only[ae,seval];refine aI eH rfl rfl rfl (by simp[Value.cells,oneCell,str]) rfl ?_;intro h2 x2 ji vE b2;obtain⟨fb,M5⟩:∃x,x=h1.size:=⟨_,rfl⟩;rw[←M5]at b2⊢;have D2:GX h g gc rb fb l p vp 107 #[ax 0,ax 0,ax 0, .bool false,ao 0,ao 0,str [],nS,str []] [ax 0,ax 0,ax 0, .bool false,ao 0,ao 0,str [],nS,str []] s h2:=
  ⟨D.cY (eW.ext (e1.trans x2)) (D.r.fr (e1.trans x2) id),b2,ay x2 b1 id,eW.ext (e1.trans x2),by omega,by omega,by omega,⟨hg,hgc⟩,D.p⟩
 simp only[dl,ae,seval];refine aj rfl (iq hl D2.rg) ?_;rintro _ y3⟨f3,r3,rfl⟩;have E3:=D2.cY f3 r3;have kc:cellAt y3 ⟨fb,0,none⟩=some (ax 0):=by rw[E3.cell];rfl
 simp only[ae,seval];refine aC eN rfl rfl rfl rfl rfl kc (E3.frozen _) ?_;have D3:=E3.set 0 ((ax ((aA l 2 s).1:Int)));generalize setAt y3 ⟨fb,0,none⟩ _=h3 at*;simp only[dl,ae,seval];refine aj rfl (iq hl D3.rg) ?_;rintro _ y4⟨f4,r4,rfl⟩;have E4:=D3.cY f4 r4;have kc:cellAt y4 ⟨fb,1,none⟩=some (ax 0):=by rw[E4.cell];rfl
 simp only[ae,seval];refine aC eN rfl rfl rfl rfl rfl kc (E4.frozen _) ?_;have D4:=E4.set 1 ((ax ((aA l 2 (aA l 2 s).2).1:Int)));generalize setAt y4 ⟨fb,1,none⟩ _=h4 at*;simp only[dl,ae,seval];refine aj rfl (iq hl D4.rg) ?_;rintro _ y5⟨f5,r5,rfl⟩;have E5:=D4.cY f5 r5;have kc:cellAt y5 ⟨fb,2,none⟩=some (ax 0):=by rw[E5.cell];rfl
 simp only[ae,seval];refine aC eN rfl rfl rfl rfl rfl kc (E5.frozen _) ?_;have D5:=E5.set 2 ((ax ((aA l 2 (aA l 2 (aA l 2 s).2).2).1:Int)));generalize setAt y5 ⟨fb,2,none⟩ _=h5 at*;obtain⟨f1,oG⟩:∃x,x=(aA l 2 s).1:=⟨_,rfl⟩;obtain⟨f2,si⟩:∃x,x=(aA l 2 (aA l 2 s).2).1:=⟨_,rfl⟩;obtain⟨f3,hf3⟩:∃x,x=(aA l 2 (aA l 2 (aA l 2 s).2).2).1:=⟨_,rfl⟩;obtain⟨s3,hs3⟩:∃x,x=(aA l 2 (aA l 2 (aA l 2 s).2).2).2:=⟨_,rfl⟩;rw[←oG,←si,←hf3,←hs3]at D5;have D6:GH h g gc rb fb l p vp 107 #[ax 0,ax 0,ax 0, .bool false,ao 0,ao 0,str [],nS,str []] (fQ ⟨f1,f2,f3,false,Cs⟩ nS) nS Cs.hs s3 h5:=⟨D5,Own.nil⟩;have k0:=D6.rg.k0;simp only[dl,ae,seval,k0];refine aj rfl (gM 2 hl (by omega) D6.rg.r) ?_;rintro _ w1⟨g1,q1,rfl⟩;have hk:= @dJ l 2 s3;simp only[Nat.reducePow]at hk;have Dw:=D6.cY g1 q1;obtain⟨K,hK⟩:∃K,K=aA l 2 s3:=⟨_,rfl⟩;rw[←hK]at hk Dw⊢;obtain⟨R,hR⟩:∃R,R=eS p l (DK p l) K.1 (false,Cs) K.2:=⟨_,rfl⟩;simp only[ae,seval];refine aG [0,2,3,4] (fun m ρ hc=>∃(k:Nat)(x:Bool × vu)(u:RS)(w:Value),m=k∧k<65536∧ρ=[(0,aE g),(2,aE rb),(3,aE fb),(4,ao k)]∧GH h g gc rb fb l p vp 107 #[ax 0,ax 0,ax 0, .bool false,ao 0,ao 0,str [],nS,str []] (fQ ⟨f1,f2,f3,x.1,x.2⟩ w) w x.2.hs u hc∧eS p l (DK p l) k x u=R) ?_ ?_
 ·simp only[ae,seval]
  exact⟨_,K.1,(false,Cs),K.2,_,rfl,by simpa using hk,rfl,Dw,hR.symm⟩
 rintro m ρ hc⟨k,x,u,w,rfl,mY,rfl,Dx,hL⟩;have k0:=Dx.rg.k0;have c2:=Dx.rg.r.c2;refine Or.elim (Classical.em (0<m∧u.e=0)) (fun hgo=>?vI) (fun hgo=>?Qx)
 case vI=>
  obtain⟨pT,he⟩:=hgo;obtain⟨j,rfl⟩:∃j,m=j+1:=⟨m-1,by omega⟩;have jS:(0:Int)<((j+1:Nat):Int):=by omega
  have dH:(u.e:Int)=0:=by omega
  rw[qS he]at hL;have hw:IntKind.i64.wrap (((j+1:Nat):Int)-1)=(j:Int):=by rw[wrap_i64 (by omega) (by omega)];omega
  simp only[dl,ae,seval,jS,k0,c2,av8 dH];refine aj rfl (pz hl Dx.rg) ?_;rintro _ h4⟨f4,r4,nm,en,rfl,hA⟩;have D4:=Dx.cY f4 r4;have Oq:=hA.lt;have hbp:=D4.rg.r.2;have hAb:=hA.bad;have hAo:=hA.ok;generalize pk p l u=b at*;by_cases nY:b.2.e=0
  case neg=>
   obtain⟨rfl,rfl⟩:=hAb nY;rw[awa nY]at hL;simp only[dl,ae,seval];refine aj rfl (kA hl D4.rg false u.p (-1) (by omega) (by omega) (fun _ hh=>aww hh nY)) ?_;rintro _ h5⟨f5,r5⟩;rw[Ba nY]at r5;have D5:=D4.cY f5 r5;simp only[dl,ae,seval,hw];exact⟨_,by omega,j,x,b.2,_,rfl,by omega,rfl,D5,(jD nY).trans hL⟩
  case pos=>
   obtain⟨rfl,rfl⟩:=hAo nY;rw[av9 (by simp[nY])]at hL;by_cases kQ:ky p (aA l 2 u).1=cdN
   case neg=>
    have hT:(DK p l) (ky p (aA l 2 u).1) u.p b.1 x b.2=none:=by unfold DK;rw[av9 kQ]
    rw[hT]at hL;have sR:¬ky p (aA l 2 u).1=[67,111,100,101]:=kQ;simp only[dl,ae,seval,av7 sR];refine aj rfl (kA hl D4.rg false u.p _ (by omega) (by omega) (fun _ _=>by omega)) ?_;rintro _ h5⟨f5,r5⟩;rw[G5 nY rfl]at r5;have D5:=D4.cY f5 r5;simp only[dl,ae,seval,hw];exact⟨_,by omega,j,x,_,_,rfl,by omega,rfl,D5,hL⟩
   case pos=>
    obtain⟨sn,sv⟩:=x;obtain⟨y0,Nb⟩:∃y0,y0=kR sn u.p b.2:=⟨_,rfl⟩;have hT:(DK p l) (ky p (aA l 2 u).1) u.p b.1 (sn,sv) b.2=some ((true,(iO p l y0).1),(iO p l y0).2):=by unfold DK;rw[awa kQ,Nb]
    rw[hT]at hL;have sR:ky p (aA l 2 u).1=[67,111,100,101]:=kQ;have aii:y0.p=b.2.p:=by rw[Nb];unfold kR cg;(repeat' split)<;>rfl<;>rfl
    have k0:=D4.rg.k0;have kc:cellAt h4 ⟨fb,3,none⟩=some (.bool sn):=by rw[D4.cell];rfl
    refine Or.elim (show sn=true∨sn=false by cases sn<;>simp) (fun hs=>?caS) (fun hs=>?cbS)
    case' caS=>
     subst hs;simp only[dl,ae,seval,av8 sR,k0,kc];refine aj rfl (jF 11 u.p D4.rg.r) ?_;rintro _ h5⟨f5,r5⟩;have D5:=D4.cY f5 (show iK h5 gc l y0 by rw[Nb];exact r5);simp only[dl,ae,seval]
    case' cbS=>
     subst hs;have hb5:y0=b.2:=by rw[Nb];rfl
     simp only[dl,ae,seval,av8 sR,kc];obtain⟨h5,ZD⟩:∃h5,h5=h4:=⟨_,rfl⟩;rw[←ZD];have D5:=D4.cY (eW.ext (Ext.refl _)) (show iK h4 gc l y0 by rw[hb5];exact D4.rg.r);rw[←ZD]at D5
    all_goals
     obtain⟨z5,kc⟩:∃z,cellAt h5 ⟨fb,3,none⟩=some (.bool z):=⟨_,by rw[D5.cell];rfl⟩;refine aC jf rfl rfl rfl rfl rfl kc (D5.frozen _) ?_;have D6:=D5.set (by decide) 3 (.bool true);generalize setAt h5 ⟨fb,3,none⟩ _=h6 at*;simp only[dl,ae,seval];refine aj rfl (ab9 hl D6.rg) ?_;rintro _ h7⟨f7,r7,vH,rfl,acT⟩;have D7:=D6.cY f7 r7;have SP:=acT.mono D6.x.fr.size;generalize iO p l y0=v at*;obtain⟨aH,cH,rfl,_⟩:=acT.dQ.2;simp only[fX];simp only[ae,seval];refine dD iX rfl rfl rfl (by simp[Value.cells,oneCell,str]) D7.x.bf (by simp[fQ,fX]) (fun j _ _=>by simp) ?_;intro h8 f8 b8;have D8:GH h g gc rb fb l p vp 107 #[ax 0,ax 0,ax 0, .bool false,ao 0,ao 0,str [],nS,str []] (fQ ⟨f1,f2,f3,true,v.1⟩ (.slice aH v.1.hs.length cH)) (.slice aH v.1.hs.length cH) v.1.hs v.2 h8:=
      ⟨D7.x.put f8 (by rw[b8];simp[fQ,fX,Value.cells]),da SP f8 (e:=107) (fun k _ hk=>⟨_,_,hk▸D7.x.bf⟩) (by decide)⟩
     simp only[dl,ae,seval];refine aj rfl (kA hl D8.rg true u.p _ (by omega) (by omega) (fun hh=>by cases hh)) ?_;rintro _ h9⟨f9,r9⟩;rw[Lc rfl]at r9;have D9:=D8.cY f9 r9;simp only[dl,ae,seval,hw];exact⟨_,by omega,j,(true,v.1),_,_,rfl,by omega,rfl,D9,hL⟩
 have yh:R=(x,u):=by
  rw[←hL];rcases Nat.eq_zero_or_pos m with h0|h0
  ·subst h0;rfl
  ·exact jD (fun he=>hgo ⟨h0,he⟩)
 refine Or.elim (Classical.em (m=0)) (fun h0=>?ccG) (fun h0=>?yj)
 case' ccG=>
  have hz:¬(0:Int)<(m:Int):=by omega
  simp only[dl,ae,seval,hz]
 case' yj=>
  have hz:(0:Int)<(m:Int):=by omega
  have dH:¬(u.e:Int)=0:=fun he=>hgo ⟨by omega,by omega⟩;simp only[dl,ae,seval,hz,k0,c2,av7 dH]
 all_goals
  have vl:bT p l s=((⟨f1,f2,f3,x.1,x.2⟩:fj),u):=by
   unfold bT;simp only[←oG,←si,←hf3,←hs3,←hK,←hR,yh]
  rw[vl];obtain⟨aH,cH,rfl,_⟩:=Dx.o.dQ.2;have bm:=aS lO (aN Dx.x.bf) rfl;simp only[fQ,fX,awC,awD]at bm;simp only[ae,seval,bm];refine dD eH rfl rfl rfl (by simp[Value.cells,oneCell,str]) Dx.x.bz (by decide) (fun j _ _=>by simp) ?_;intro h6 f6 b6;have di:Rd h6 rb 0 (fQ ⟨f1,f2,f3,x.1,x.2⟩ (.slice aH x.2.hs.length cH)):=aN (by simpa[Value.cells,fQ,fX]using b6);have GA:=aS lO di rfl;simp only[fQ,fX,awC,awD]at GA;have o1:=Dx.x.o1;simp only[ae,seval,GA];refine⟨Dx.x.fr.new f6 o1,Dx.rg.r.fr f6 (by omega), .slice aH x.2.hs.length cH,rfl,?_⟩;rw[uC];exact da Dx.o f6 (e:=107) (fun k _ hk=>⟨_,_,hk▸Dx.x.bz⟩) (by decide)
end
end
section
structure lK(l:az)(s:RS):Prop where
 p:s.p≤l.length
 es:s.es≤l.length
section
variable{l:az}{s:RS}
theorem lK.take{n:Nat}(H:lK l s):lK l (cV l n s).2:=by
 unfold cV
 split
 ·exact H
 ·split
  ·exact⟨H.p,awp _⟩
  ·exact⟨by simp only;omega,H.es⟩
theorem lK.num{n:Nat}(H:lK l s):lK l (aA l n s).2:=H.take
theorem lK.fail{e q:Nat}(H:lK l s)(hq:q≤l.length):lK l (cg e q s):=by
 unfold cg;split
 ·exact⟨H.p,hq⟩
 ·exact H
theorem lK.ite{c:Prop} [Decidable c]{a b:RS}(h1:lK l a)(h2:lK l b):lK l (if c then a else b):=by split<;>assumption
theorem lK.one(H:lK l s):lK l (gj l s).2:=by
 have h1:lK l (aA l 1 s).2:=H.num;have hp:=H.p;unfold gj;dsimp only;generalize aA l 1 s=a at*
 split
 ·exact lK.ite (h1.num.take.fail hp) h1.num.take
 ·split
  ·exact h1.num
  ·split
   ·exact h1.num.num
   ·split
    ·exact h1.num
    ·split
     ·exact h1.num.num
     ·exact h1.fail hp
theorem lK.loop{n:Nat}:∀(k:Nat)(cs:List aX)(s:RS),lK l s→lK l (jl l n k cs s).2:=by
 intro k
 induction k with
 |zero=>intro cs s H;exact H
 |succ k ih=>
  intro cs s H;rw[jl]
  split
  ·split
   ·exact ih _ _ (lK.ite (H.one.fail H.p) H.one)
   ·exact ih _ _ H.one
  ·exact H
theorem lK.pool(H:lK l s):lK l (hE l s).2:=lK.loop _ _ _ (lK.ite (H.num.fail H.p) H.num)
theorem ZE(l:az):(lJ l).2.1≤l.length∧(lJ l).2.2.2≤l.length:=by
 have H:lK l (hE l ⟨0,0,0⟩).2:=lK.pool ⟨awb _,awb _⟩;rw[←OE];unfold JC
 split
 ·exact⟨awb _,H.es⟩
 ·exact⟨H.p,awb _⟩
theorem aca(l:az)(h:(lJ l).2.2.1≠0):(lJ l).2.1=0:=by
 rw[←OE]at h⊢;unfold JC at h⊢;by_cases he:(hE l ⟨0,0,0⟩).2.e=0
 ·simp[he]at h
 ·simp[he]
theorem SU:(cV l 4 s).1=[202,254,186,190]↔(aA l 4 s).1=3405691582:=by
 have hlen:= @uZ l 4 s;have hn:(aA l 4 s).1=eh (cV l 4 s).1:=rfl;rw[hn];generalize(cV l 4 s).1=b at*;constructor
 ·intro h;subst h;decide
 ·intro h
  by_cases h4:b.length=4
  ·match b,h4 with
   |[a0,a1,a2,a3],_=>
    have t0:=UInt8.toNat_lt a0;have t1:=UInt8.toNat_lt a1;have t2:=UInt8.toNat_lt a2;have t3:=UInt8.toNat_lt a3;simp only[Nat.reducePow]at t0 t1 t2 t3;have hv:eh [a0,a1,a2,a3]=((a0.toNat*256+a1.toNat)*256+a2.toNat)*256+a3.toNat:=by simp[eh]
    rw[hv]at h;have e0:a0=202:=UInt8.toNat.inj (by show a0.toNat=202;omega);have e1:a1=254:=UInt8.toNat.inj (by show a1.toNat=254;omega);have e2:a2=186:=UInt8.toNat.inj (by show a2.toNat=186;omega);have e3:a3=190:=UInt8.toNat.inj (by show a3.toNat=190;omega);rw[e0,e1,e2,e3]
  ·have h5:=oX b
   have:256^b.length≤256^3:=Nat.pow_le_pow_right (by decide) (by omega);omega
end
end
end Go.Proofs.YtmbboehmnfhjjaaGreatDoor
