/- ReadClass of the reference, by its stages. ReadClass of the reference: its beginning. Linking, plainly: the class in a name, worlds of classes, and what is right above what. -/
import Derived.Test.YtmbboehmnfhjjaaGreatDoorU30
import Derived.Test.YtmbboehmnfhjjaaGreatDoorU29
import Derived.Test.YtmbboehmnfhjjaaGreatDoorU6
import Derived.Test.YtmbboehmnfhjjaaGreatDoorU27
import Derived.Test.YtmbboehmnfhjjaaGreatDoorU11
set_option maxRecDepth 100000
set_option maxHeartbeats 8000000
set_option linter.unusedSimpArgs false
set_option linter.unusedVariables false
set_option linter.defProp false
namespace Go.Proofs.YtmbboehmnfhjjaaGreatDoor
open Go.Vc
section
structure RE(h0:ar)(g gc cb rb:Nat)(l:az)(rc:List Value)(p:List aX)(is:List Nat)(fs:List fC)(ms:List fj)(vp vi vf vm:Value)(t:RS)(hx:ar):Prop where
 b:hx[cb]? =some (.cells rc.toArray 96 (0,0))
 q:hx[g]? =some (.cells #[aE gc,vp] 172 (0,0))
 r:iK hx gc l t
 p:Own hx h0.size 160 5 vp p.length (du p)
 i:Own hx h0.size 40 1 vi is.length (Cq is)
 f:Own hx h0.size 103 4 vf fs.length (vr fs)
 m:∃rows,HO h0.size hx vm ms rows
 x:Ext h0 hx
 z:hx[rb]? =some (.cells GB 96 (0,0))
 g0:h0.size≤g
 g1:h0.size≤gc
 g2:h0.size≤cb
 g3:h0.size≤rb
 ne:cb≠rb
section
variable{h0 hx hy:ar}{g gc cb rb mi ma fl th su:Nat}{l:az}{rc:List Value}{p:List aX}{is:List Nat}{fs:List fC}{ms:List fj}{vp vi vf vm x6 x7 x8 x9 W1 Uj pj x13 W2 x16 x17 WM x53 x66 x83 Va Vb Vd SV Ve ZF:Value}{t u:RS}{X:iP × Nat × Nat}
theorem RE.rg(D:RE h0 g gc cb rb l rc p is fs ms vp vi vf vm t hx):RG hx g gc l p vp t:=⟨D.q,D.r,D.p.dQ,bK D.p D.r.1 (by decide),vJ D.q D.r.1 (by decide)⟩
theorem RE.tJ{S:Nat→Prop}(D:RE h0 g gc cb rb l rc p is fs ms vp vi vf vm t hx)(f:Fr S hx hy)(hS0:∀k,k<hx.size→S k→h0.size≤k):Ext h0 hy:=
 Fr.trans D.x f (fun _ _ h=>h) (fun k hk hSk=>by have:=hS0 k (by have:=D.x.size;omega) hSk;omega)
theorem RE.cY(D:RE h0 g gc cb rb l rc p is fs ms vp vi vf vm t hx)(f:eW gc hx hy)(r:iK hy gc l u):RE h0 g gc cb rb l rc p is fs ms vp vi vf vm u hy:=by
 have hS:∀k,k<hx.size→k=gc→∃cs fz,hx[k]? =some (.cells cs 170 fz):=fun k _ hk=>⟨_,_,hk▸D.r.1⟩;obtain⟨rows,hm⟩:=D.m;exact⟨dG D.b f hS (by decide),dG D.q f hS (by decide),r,da D.p f hS (by decide),da D.i f hS (by decide),da D.f f hS (by decide),⟨rows,hm.keep f hS (by decide) (by decide)⟩,
  D.tJ f (fun k _ hk=>by have:=D.g1;omega),dG D.z f hS (by decide),D.g0,D.g1,D.g2,D.g3,D.ne⟩
theorem RE.cell(D:RE h0 g gc cb rb l rc p is fs ms vp vi vf vm t hx)(k:Nat):cellAt hx ⟨cb,k,none⟩=rc[k]? :=by
 rw[au D.b];simp
theorem RE.frozen(D:RE h0 g gc cb rb l rc p is fs ms vp vi vf vm t hx)(k:Nat):frozenAt hx ⟨cb,k,none⟩=false:=by simp[frozenAt,D.b]
theorem RE.set(D:RE h0 g gc cb rb l rc p is fs ms vp vi vf vm t hx)(k:Nat)(v:Value):RE h0 g gc cb rb l (rc.set k v) p is fs ms vp vi vf vm t (setAt hx ⟨cb,k,none⟩ v):=by
 have f:Fr (fun b=>b=cb) hx (setAt hx ⟨cb,k,none⟩ v):=Fr.set (S:=fun b=>b=cb) _ _ _ fun _=>rfl;have hS:∀b,b<hx.size→b=cb→∃cs fz,hx[b]? =some (.cells cs 96 fz):=fun b _ hk=>⟨_,_,hk▸D.b⟩;have b1:=bu (o:=k) D.b v;obtain⟨rows,hm⟩:=D.m;exact⟨by rw[b1];simp,dG D.q f hS (by decide),⟨dG D.r.1 f hS (by decide),D.r.2⟩,da D.p f hS (by decide),da D.i f hS (by decide),da D.f f hS (by decide),⟨rows,hm.keep f hS (by decide) (by decide)⟩,
  D.tJ f (fun b _ hk=>by have:=D.g2;omega),ay f D.z (fun hh=>D.ne hh.symm),D.g0,D.g1,D.g2,D.g3,D.ne⟩
theorem RE.ahZ(D:RE h0 g gc cb rb l rc p is fs ms vp vi vf vm t hx)(f:Fr (fun k=>vi.ownBlock=some k) hx hy){is':List Nat}{vi':Value}(O:Own hy h0.size 40 1 vi' is'.length (Cq is')):RE h0 g gc cb rb l rc p is' fs ms vp vi' vf vm t hy:=by
 have hS:∀k,k<hx.size→vi.ownBlock=some k→∃cs fz,hx[k]? =some (.cells cs 40 fz):=fun k _ hk=>(mJ D.i k hk).2;obtain⟨rows,hm⟩:=D.m;exact⟨dG D.b f hS (by decide),dG D.q f hS (by decide),⟨dG D.r.1 f hS (by decide),D.r.2⟩,da D.p f hS (by decide),O,da D.f f hS (by decide),⟨rows,hm.keep f hS (by decide) (by decide)⟩,
  D.tJ f (fun k _ hk=>(mJ D.i k hk).1),dG D.z f hS (by decide),D.g0,D.g1,D.g2,D.g3,D.ne⟩
theorem RE.ah1(D:RE h0 g gc cb rb l rc p is fs ms vp vi vf vm t hx)(f:Fr (fun k=>vf.ownBlock=some k) hx hy){fs':List fC}{vf':Value}(O:Own hy h0.size 103 4 vf' fs'.length (vr fs')):RE h0 g gc cb rb l rc p is fs' ms vp vi vf' vm t hy:=by
 have hS:∀k,k<hx.size→vf.ownBlock=some k→∃cs fz,hx[k]? =some (.cells cs 103 fz):=fun k _ hk=>(mJ D.f k hk).2;obtain⟨rows,hm⟩:=D.m;exact⟨dG D.b f hS (by decide),dG D.q f hS (by decide),⟨dG D.r.1 f hS (by decide),D.r.2⟩,da D.p f hS (by decide),da D.i f hS (by decide),O,⟨rows,hm.keep f hS (by decide) (by decide)⟩,
  D.tJ f (fun k _ hk=>(mJ D.f k hk).1),dG D.z f hS (by decide),D.g0,D.g1,D.g2,D.g3,D.ne⟩
theorem RE.ah4(D:RE h0 g gc cb rb l rc p is fs ms vp vi vf vm t hx){rows:List (List Value)}(hm:HO h0.size hx vm ms rows)(f:Fr (fun k=>vm.ownBlock=some k) hx hy){ms':List fj}{Zz:Value}{KU:List (List Value)}(O:HO h0.size hy Zz ms' KU):RE h0 g gc cb rb l rc p is fs ms' vp vi vf Zz t hy:=by
 have hS:∀k,k<hx.size→vm.ownBlock=some k→∃cs fz,hx[k]? =some (.cells cs 107 fz):=fun k _ hk=>(mJ hm.o k hk).2;exact⟨dG D.b f hS (by decide),dG D.q f hS (by decide),⟨dG D.r.1 f hS (by decide),D.r.2⟩,da D.p f hS (by decide),da D.i f hS (by decide),da D.f f hS (by decide),⟨_,O⟩,
  D.tJ f (fun k _ hk=>(mJ hm.o k hk).1),dG D.z f hS (by decide),D.g0,D.g1,D.g2,D.g3,D.ne⟩
theorem RE.k0(D:RE h0 g gc cb rb l rc p is fs ms vp vi vf vm t hx):cellAt hx ⟨g,0,none⟩=some (aE gc):=D.rg.k0
theorem Vf(D:RE h0 g gc cb rb l [ax mi,ax ma,ax fl,ax th,ax su,vp,vi,vf,vm] p is fs ms vp vi vf vm t hx)(hX:mj (⟨mi,ma,fl,th,su,p,is,fs,ms⟩,t)=X):
 Cd.vc Tryz.prog Dd (gP Tryz.prog [(2,some 96),(3,none),(4,none)] (jj h0 X)) [(0,str l),(2,aE rb),(3,ao 0),(4,ao 0),(5,aE g),(6,aE cb),(14,W2),(219,SV),(241,Ve)] hx:=by
 rw[xH];have k0:=D.k0;have c2:=D.r.c2;have c3:=D.r.c3;have hg3:=D.g3;by_cases he:t.e=0
 case neg=>
  have dH:¬(t.e:Int)=0:=by omega
  have hc:mj (⟨mi,ma,fl,th,su,p,is,fs,ms⟩,t)=(M3,t.e,t.es):=by unfold mj;rw[awa he]
  rw[←hX,hc];simp only[aJ,ae,seval,k0,c2,c3,av7 dH];refine aO jJ rfl rfl rfl (by simp[Value.cells,oneCell]) D.z rfl ?_;intro h2 f2 b2;have bm:=aS mR (aN (vs:=mP M3 nS nS nS nS) b2) rfl;simp only[mP,M3,Int.ofNat_zero]at bm;simp only[ae,seval,bm];have hq:=ay f2 D.q (vJ D.q D.z (by decide));have hr:=D.r.fr f2 (vJ D.r.1 D.z (by decide));have kk:cellAt h2 ⟨g,0,none⟩=some (aE gc):=by rw[au hq];rfl
  exact⟨⟨kk,hr.c2,kk,hr.c3⟩,D.tJ f2 (fun k _ hk=>by omega),_,_,_,_,rfl,acS _⟩
 case pos=>
  have dH:(t.e:Int)=0:=by omega
  have hc:mj (⟨mi,ma,fl,th,su,p,is,fs,ms⟩,t)=(⟨mi,ma,fl,th,su,p,is,fs,ms⟩,0,0):=by unfold mj;rw[av9 (by simp[he])]
  rw[←hX,hc];have AR:=aS mR (aN D.b) rfl;simp only[aJ,ae,seval,k0,c2,av8 dH,AR];obtain⟨rows,hm⟩:=D.m;obtain⟨a1,c1,rfl,_⟩:=D.p.dQ.2;obtain⟨a2,c2',rfl,_⟩:=D.i.dQ.2;obtain⟨a3,c3',rfl,_⟩:=D.f.dQ.2;obtain⟨a4,c4,rfl,_⟩:=hm.o.dQ.2;refine aO jJ rfl rfl rfl (by simp[Value.cells,oneCell]) D.z rfl ?_;intro h2 f2 b2;have bm:=aS mR (aN (vs:=mP ⟨mi,ma,fl,th,su,p,is,fs,ms⟩ (.slice a1 p.length c1) (.slice a2 is.length c2') (.slice a3 fs.length c3') (.slice a4 ms.length c4)) b2) rfl;simp only[mP]at bm;simp only[ae,seval,bm];have hS:∀k,k<hx.size→k=rb→∃cs fz,hx[k]? =some (.cells cs 96 fz):=fun k _ hk=>⟨_,_,hk▸D.z⟩;have q1:=da D.p f2 hS (by decide);have q2:=da D.i f2 hS (by decide);have q3:=da D.f f2 hS (by decide);have q4:=hm.keep f2 hS (by decide) (by decide);exact⟨D.tJ f2 (fun k _ hk=>by omega),_,_,_,_,rfl,⟨q1.dQ,q1.gH,q2.dQ,q2.gH,q3.dQ,q3.gH,q4.cls,q4.o.gH⟩⟩
theorem aeI(D:RE h0 g gc cb rb l [ax mi,ax ma,ax fl,ax th,ax su,vp,vi,vf,vm] p is fs ms vp vi vf vm t hx)(qm:mj (⟨mi,ma,fl,th,su,p,is,fs,ms⟩,if t.p<l.length then cg 2 t.p t else t)=X):
 Cd.vc Tryz.prog De (gP Tryz.prog [(2,some 96),(3,none),(4,none)] (jj h0 X)) [(0,str l),(2,aE rb),(3,ao 0),(4,ao 0),(5,aE g),(6,aE cb),(14,W2),(219,SV)] hx:=by
 rw[xI];have k0:=D.k0;have c1:=D.r.c1;by_cases aV:t.p<l.length
 ·have q:(t.p:Int)<(l.length:Int):=by omega
  rw[awa aV]at qm;simp only[aJ,ae,seval,k0,c1,q];refine aj rfl (jF 2 t.p D.r) ?_;rintro _ h4⟨f4,r4⟩;simp only[ae,seval];exact Vf (D.cY f4 r4) qm
 ·have q:¬(t.p:Int)<(l.length:Int):=by omega
  rw[av9 aV]at qm;simp only[aJ,ae,seval,k0,c1,q];exact Vf D qm
theorem aeJ(hl:l.length≤1073741824)(D:RE h0 g gc cb rb l [ax mi,ax ma,ax fl,ax th,ax su,vp,vi,vf,vm] p is fs ms vp vi vf vm t hx)(hX:tailA p l ⟨mi,ma,fl,th,su,p,is,fs,ms⟩ t=X):
 Cd.vc Tryz.prog Df (gP Tryz.prog [(2,some 96),(3,none),(4,none)] (jj h0 X)) [(0,str l),(2,aE rb),(3,ao 0),(4,ao 0),(5,aE g),(6,aE cb),(13,x13),(193,Vd)] hx:=by
 rw[xJ];have k0:=D.k0;simp only[aJ,ae,seval,k0];refine aj rfl (gM 2 hl (by omega) D.r) ?_;rintro _ h1⟨f1,r1,rfl⟩;have D1:=D.cY f1 r1;have hk:= @dJ l 2 t;simp only[Nat.reducePow]at hk;obtain⟨K,hK⟩:∃K,K=aA l 2 t:=⟨_,rfl⟩;rw[←hK]at r1 hk D1⊢;obtain⟨R,vG⟩:∃R,R=(eS p l noT K.1 () K.2).2:=⟨_,rfl⟩;have qm:mj (⟨mi,ma,fl,th,su,p,is,fs,ms⟩,if R.p<l.length then cg 2 R.p R else R)=X:=by rw[←hX,vG,hK];rfl
 simp only[ae,seval];refine aG [0,2,3,4,5,6,14] (fun m ρ hc=>∃(k:Nat)(u:RS),m=k∧k<65536∧ρ=[(0,str l),(2,aE rb),(3,ao 0),(4,ao 0),(5,aE g),(6,aE cb),(14,ao k)]∧
  RE h0 g gc cb rb l [ax mi,ax ma,ax fl,ax th,ax su,vp,vi,vf,vm] p is fs ms vp vi vf vm u hc∧(eS p l noT k () u).2=R) ?_ ?_
 ·simp only[ae,seval]
  exact⟨_,K.1,K.2,rfl,by omega,rfl,D1,vG.symm⟩
 rintro m ρ hc⟨k,u,rfl,mY,rfl,Dx,hL⟩;have k0:=Dx.k0;have c2:=Dx.r.c2;refine Or.elim (Classical.em (0<m∧u.e=0)) (fun hgo=>?vI) (fun hgo=>?Qx)
 case vI=>
  obtain⟨pT,he⟩:=hgo;obtain⟨j,rfl⟩:∃j,m=j+1:=⟨m-1,by omega⟩;have jS:(0:Int)<((j+1:Nat):Int):=by omega
  have dH:(u.e:Int)=0:=by omega
  have hw:IntKind.i64.wrap (((j+1:Nat):Int)-1)=(j:Int):=by rw[wrap_i64 (by omega) (by omega)];omega
  rw[qS he]at hL;simp only[aJ,ae,seval,jS,k0,c2,av8 dH];refine aj rfl (pz hl Dx.rg) ?_;rintro _ h4⟨f4,r4,nm,en,rfl,hA⟩;have D4:=Dx.cY f4 r4;have Oq:=hA.lt;have hbp:=D4.r.2;have hAb:=hA.bad;have hAo:=hA.ok;generalize pk p l u=b at*;by_cases nY:b.2.e=0
  case neg=>
   obtain⟨rfl,rfl⟩:=hAb nY;rw[awa nY]at hL;simp only[aJ,ae,seval];refine aj rfl (kA hl D4.rg false u.p (-1) (by omega) (by omega) (fun _ hh=>aww hh nY)) ?_;rintro _ h5⟨f5,r5⟩;rw[Ba nY]at r5;have D5:=D4.cY f5 r5;simp only[aJ,ae,seval,hw];exact⟨_,by omega,j,b.2,rfl,by omega,rfl,D5,by rw[jD nY];exact hL⟩
  case pos=>
   obtain⟨rfl,rfl⟩:=hAo nY;rw[av9 (by simp[nY])]at hL;simp only[aJ,ae,seval];refine aj rfl (kA hl D4.rg false u.p _ (by omega) (by omega) (fun _ _=>by omega)) ?_;rintro _ h5⟨f5,r5⟩;rw[G5 nY rfl]at r5;have D5:=D4.cY f5 r5;simp only[aJ,ae,seval,hw];exact⟨_,by omega,j,_,rfl,by omega,rfl,D5,hL⟩
 have yh:R=u:=by
  rw[←hL];rcases Nat.eq_zero_or_pos m with h0|h0
  ·subst h0;rfl
  ·rw[jD (fun he=>hgo ⟨h0,he⟩)]
 rw[yh]at qm;refine Or.elim (Classical.em (m=0)) (fun h0=>?ccG) (fun h0=>?yj)
 case' ccG=>
  have hz:¬(0:Int)<(m:Int):=by omega
  simp only[aJ,ae,seval,hz]
 case' yj=>
  have hz:(0:Int)<(m:Int):=by omega
  have dH:¬(u.e:Int)=0:=fun he=>hgo ⟨by omega,by omega⟩;simp only[aJ,ae,seval,hz,k0,c2,av7 dH]
 all_goals
  exact aeI Dx qm
theorem aeK(hl:l.length≤1073741824)(D:RE h0 g gc cb rb l [ax mi,ax ma,ax fl,ax th,ax su,vp,vi,vf,nS] p is fs [] vp vi vf nS t hx)(hX:SQ p l mi ma fl th su is fs t=X):
 Cd.vc Tryz.prog Dg (gP Tryz.prog [(2,some 96),(3,none),(4,none)] (jj h0 X)) [(0,str l),(2,aE rb),(3,ao 0),(4,ao 0),(5,aE g),(6,aE cb),(12,pj),(167,Vb)] hx:=by
 rw[xK];have k0:=D.k0;simp only[aJ,ae,seval,k0];refine aj rfl (gM 2 hl (by omega) D.r) ?_;rintro _ h1⟨f1,r1,rfl⟩;have D1:=D.cY f1 r1;have hk:= @dJ l 2 t;simp only[Nat.reducePow]at hk;obtain⟨K,hK⟩:∃K,K=aA l 2 t:=⟨_,rfl⟩;rw[←hK]at r1 hk D1⊢;obtain⟨R,vG⟩:∃R,R=eo (bT p l) K.1 [] K.2:=⟨_,rfl⟩;have qm:tailA p l ⟨mi,ma,fl,th,su,p,is,fs,R.1⟩ R.2=X:=by rw[←hX,vG,hK];rfl
 simp only[ae,seval];refine aG [0,2,3,4,5,6,13] (fun m ρ hc=>∃(k:Nat)(xs:List fj)(w:Value)(u:RS),m=k∧xs.length+k≤65535∧ρ=[(0,str l),(2,aE rb),(3,ao 0),(4,ao 0),(5,aE g),(6,aE cb),(13,ao k)]∧
  RE h0 g gc cb rb l [ax mi,ax ma,ax fl,ax th,ax su,vp,vi,vf,w] p is fs xs vp vi vf w u hc∧eo (bT p l) k xs u=R) ?_ ?_
 ·simp only[ae,seval]
  exact⟨_,K.1,[],_,K.2,rfl,by simp;omega,rfl,D1,vG.symm⟩
 rintro m ρ hc⟨k,xs,w,u,rfl,mY,rfl,Dx,hL⟩;have k0:=Dx.k0;have c2:=Dx.r.c2;refine Or.elim (Classical.em (0<m∧u.e=0)) (fun hgo=>?vI) (fun hgo=>?Qx)
 case vI=>
  obtain⟨pT,he⟩:=hgo;obtain⟨j,rfl⟩:∃j,m=j+1:=⟨m-1,by omega⟩;have jS:(0:Int)<((j+1:Nat):Int):=by omega
  have dH:(u.e:Int)=0:=by omega
  have hw:IntKind.i64.wrap (((j+1:Nat):Int)-1)=(j:Int):=by rw[wrap_i64 (by omega) (by omega)];omega
  rw[eo,av9 (by simp[he])]at hL;have k7:cellAt hc ⟨cb,8,none⟩=some w:=by rw[Dx.cell];rfl
  simp only[aJ,ae,seval,jS,k0,c2,av8 dH,k7];refine aj rfl (ail hl Dx.rg) ?_;rintro _ h4⟨f4,r4,wH,rfl,PK⟩;have D4:=Dx.cY f4 r4;have SP:=PK.mono Dx.x.size;obtain⟨aH,cH,rfl,_⟩:=PK.dQ.2;have k7:cellAt h4 ⟨cb,8,none⟩=some w:=by rw[D4.cell];rfl
  have hx:fQ (bT p l u).1 (.slice aH (bT p l u).1.code.hs.length cH)=[ax ((bT p l u).1.flags:Int),ax ((bT p l u).1.name:Int),ax ((bT p l u).1.type:Int), .bool (bT p l u).1.has,ao (bT p l u).1.code.maxS,ao (bT p l u).1.code.fF,str (bT p l u).1.code.bytes, .slice aH (bT p l u).1.code.hs.length cH,str (bT p l u).1.code.map]:=rfl;rw[hx];simp only[ae,seval,k7];refine aU pO rfl rfl (by decide) ?_;have ex:Ext h4 (h4.push (.cells (fQ (bT p l u).1 (.slice aH (bT p l u).1.code.hs.length cH)).toArray 107)):=Ext.push _ _;have ba:(h4.push (.cells (fQ (bT p l u).1 (.slice aH (bT p l u).1.code.hs.length cH)).toArray 107))[h4.size]? =some (.cells (fQ (bT p l u).1 (.slice aH (bT p l u).1.code.hs.length cH)).toArray 107 (0,0)):=by simp
  have D5:=D4.cY (eW.ext ex) (D4.r.fr ex id);rw[hx]at ex ba D5;simp only[ae,seval];refine⟨by rw[D5.cell];rfl,?_⟩;generalize h4.push _=z5,h4.size=lb at*;rw[←hx]at ba;have pB:fR z5 9 (.slice (some ⟨lb,0,none⟩) 1 1) 1 (fQ (bT p l u).1 (.slice aH (bT p l u).1.code.hs.length cH)):=⟨rfl,_,_,rfl, .inr ⟨lb,0,rfl,aN ba⟩⟩;obtain⟨rows,hm⟩:=D5.m;have ab5:=SP.ext ex;refine gO (m:=1) (news:=(fQ (bT p l u).1 (.slice aH (bT p l u).1.code.hs.length cH))) pO rfl rfl hm.o pB (abE rfl) (by first|omega|(simp only;omega)) (by first|omega|(simp only;omega)) D5.x.size ?_;intro v6 z6 kx f6;have D6:=D5.ah4 hm f6 (hm.snoc ab5 f6 kx);obtain⟨a6,c6,rfl,_⟩:=kx.dQ.2;have SS:cellAt z6 ⟨cb,8,none⟩=some w:=by rw[D6.cell];rfl
  simp only[ae,seval];refine aC UI rfl rfl rfl rfl rfl SS (D6.frozen _) ?_;have D7:=D6.set 8 (.slice a6 (xs.length+1) c6);simp only[aJ,ae,seval,hw];exact⟨_,by omega,j,xs++[(bT p l u).1],_,_,rfl,by simp;omega,rfl,D7,hL⟩
 have yh:R=(xs,u):=by
  rw[←hL];rcases Nat.eq_zero_or_pos m with h0|h0
  ·subst h0;rfl
  ·exact mH (fun he=>hgo ⟨h0,he⟩)
 rw[yh]at qm;refine Or.elim (Classical.em (m=0)) (fun h0=>?ccG) (fun h0=>?yj)
 case' ccG=>
  have hz:¬(0:Int)<(m:Int):=by omega
  simp only[aJ,ae,seval,hz]
 case' yj=>
  have hz:(0:Int)<(m:Int):=by omega
  have dH:¬(u.e:Int)=0:=fun he=>hgo ⟨by omega,by omega⟩;simp only[aJ,ae,seval,hz,k0,c2,av7 dH]
 all_goals
  exact aeJ hl Dx qm
theorem aeL(hl:l.length≤1073741824)(D:RE h0 g gc cb rb l [ax mi,ax ma,ax fl,ax th,ax su,vp,vi,nS,nS] p is [] [] vp vi nS nS t hx)(hX:SR p l mi ma fl th su is t=X):
 Cd.vc Tryz.prog Dh (gP Tryz.prog [(2,some 96),(3,none),(4,none)] (jj h0 X)) [(0,str l),(2,aE rb),(3,ao 0),(4,ao 0),(5,aE g),(6,aE cb),(11,Uj),(141,Va)] hx:=by
 rw[xL];have k0:=D.k0;simp only[aJ,ae,seval,k0];refine aj rfl (gM 2 hl (by omega) D.r) ?_;rintro _ h1⟨f1,r1,rfl⟩;have D1:=D.cY f1 r1;have hk:= @dJ l 2 t;simp only[Nat.reducePow]at hk;obtain⟨K,hK⟩:∃K,K=aA l 2 t:=⟨_,rfl⟩;rw[←hK]at r1 hk D1⊢;obtain⟨R,vG⟩:∃R,R=eo (d7 p l) K.1 [] K.2:=⟨_,rfl⟩;have qm:SQ p l mi ma fl th su is R.1 R.2=X:=by rw[←hX,vG,hK];rfl
 simp only[ae,seval];refine aG [0,2,3,4,5,6,12] (fun m ρ hc=>∃(k:Nat)(xs:List fC)(w:Value)(u:RS),m=k∧xs.length+k≤65535∧ρ=[(0,str l),(2,aE rb),(3,ao 0),(4,ao 0),(5,aE g),(6,aE cb),(12,ao k)]∧
  RE h0 g gc cb rb l [ax mi,ax ma,ax fl,ax th,ax su,vp,vi,w,nS] p is xs [] vp vi w nS u hc∧eo (d7 p l) k xs u=R) ?_ ?_
 ·simp only[ae,seval]
  exact⟨_,K.1,[],_,K.2,rfl,by simp;omega,rfl,D1,vG.symm⟩
 rintro m ρ hc⟨k,xs,w,u,rfl,mY,rfl,Dx,hL⟩;have k0:=Dx.k0;have c2:=Dx.r.c2;refine Or.elim (Classical.em (0<m∧u.e=0)) (fun hgo=>?vI) (fun hgo=>?Qx)
 case vI=>
  obtain⟨pT,he⟩:=hgo;obtain⟨j,rfl⟩:∃j,m=j+1:=⟨m-1,by omega⟩;have jS:(0:Int)<((j+1:Nat):Int):=by omega
  have dH:(u.e:Int)=0:=by omega
  have hw:IntKind.i64.wrap (((j+1:Nat):Int)-1)=(j:Int):=by rw[wrap_i64 (by omega) (by omega)];omega
  rw[eo,av9 (by simp[he])]at hL;have k7:cellAt hc ⟨cb,7,none⟩=some w:=by rw[Dx.cell];rfl
  simp only[aJ,ae,seval,jS,k0,c2,av8 dH,k7];refine aj rfl (aid hl Dx.rg) ?_;rintro _ h4⟨f4,r4,rfl⟩;have D4:=Dx.cY f4 r4;have k7:cellAt h4 ⟨cb,7,none⟩=some w:=by rw[D4.cell];rfl
  have hx:(d7 p l u).1.cells=[ax ((d7 p l u).1.flags:Int),ax ((d7 p l u).1.name:Int),ax ((d7 p l u).1.type:Int),ax ((d7 p l u).1.value:Int)]:=rfl;rw[hx];simp only[ae,seval,k7];refine aU pN rfl rfl (by decide) ?_;have ex:Ext h4 (h4.push (.cells (d7 p l u).1.cells.toArray 103)):=Ext.push _ _;have ba:(h4.push (.cells (d7 p l u).1.cells.toArray 103))[h4.size]? =some (.cells (d7 p l u).1.cells.toArray 103 (0,0)):=by simp
  have D5:=D4.cY (eW.ext ex) (D4.r.fr ex id);rw[hx]at ex ba D5;simp only[ae,seval];refine⟨by rw[D5.cell];rfl,?_⟩;generalize h4.push _=z5,h4.size=lb at*;rw[←hx]at ba;have pB:fR z5 4 (.slice (some ⟨lb,0,none⟩) 1 1) 1 (d7 p l u).1.cells:=⟨rfl,_,_,rfl, .inr ⟨lb,0,rfl,aN ba⟩⟩;refine gO (m:=1) (news:=(d7 p l u).1.cells) pN rfl rfl D5.f pB (fun w hw=>ahl [(d7 p l u).1] w (by simpa[vr]using hw)) (by first|omega|(simp only;omega)) (by first|omega|(simp only;omega)) D5.x.size ?_;intro v6 z6 kx f6;have D6:=D5.ah1 f6 (fs':=xs++[(d7 p l u).1]) (dR kx (by simp) (by simp[vr]));obtain⟨a6,c6,rfl,_⟩:=kx.dQ.2;have SS:cellAt z6 ⟨cb,7,none⟩=some w:=by rw[D6.cell];rfl
  simp only[ae,seval];refine aC UH rfl rfl rfl rfl rfl SS (D6.frozen _) ?_;have D7:=D6.set 7 (.slice a6 (xs.length+1) c6);simp only[aJ,ae,seval,hw];exact⟨_,by omega,j,xs++[(d7 p l u).1],_,_,rfl,by simp;omega,rfl,D7,hL⟩
 have yh:R=(xs,u):=by
  rw[←hL];rcases Nat.eq_zero_or_pos m with h0|h0
  ·subst h0;rfl
  ·exact mH (fun he=>hgo ⟨h0,he⟩)
 rw[yh]at qm;refine Or.elim (Classical.em (m=0)) (fun h0=>?ccG) (fun h0=>?yj)
 case' ccG=>
  have hz:¬(0:Int)<(m:Int):=by omega
  simp only[aJ,ae,seval,hz]
 case' yj=>
  have hz:(0:Int)<(m:Int):=by omega
  have dH:¬(u.e:Int)=0:=fun he=>hgo ⟨by omega,by omega⟩;simp only[aJ,ae,seval,hz,k0,c2,av7 dH]
 all_goals
  exact aeK hl Dx qm
theorem aeM(hl:l.length≤1073741824)(D:RE h0 g gc cb rb l [ax mi,ax ma,ax fl,ax th,ax su,vp,nS,nS,nS] p [] [] [] vp nS nS nS t hx)(hX:ab3 p l mi ma fl th su t=X):
 Cd.vc Tryz.prog Di (gP Tryz.prog [(2,some 96),(3,none),(4,none)] (jj h0 X)) [(0,str l),(2,aE rb),(3,ao 0),(4,ao 0),(5,aE g),(6,aE cb),(7,x7),(8,x8),(9,x9),(10,W1),(11,Uj),(12,pj),(13,x13),(14,W2),(16,x16),(17,x17),(28,WM),(53,x53),(66,x66),(83,x83),(141,Va),(167,Vb),(193,Vd),(219,SV),(241,Ve),(261,ZF)] hx:=by
 rw[xM];have k0:=D.k0;simp only[aJ,ae,seval,k0];refine aj rfl (gM 2 hl (by omega) D.r) ?_;rintro _ h1⟨f1,r1,rfl⟩;have D1:=D.cY f1 r1;have hk:= @dJ l 2 t;simp only[Nat.reducePow]at hk;obtain⟨K,hK⟩:∃K,K=aA l 2 t:=⟨_,rfl⟩;rw[←hK]at r1 hk D1⊢;obtain⟨R,vG⟩:∃R,R=eo (aA l 2) K.1 [] K.2:=⟨_,rfl⟩;have qm:SR p l mi ma fl th su R.1 R.2=X:=by rw[←hX,vG,hK];rfl
 simp only[ae,seval];refine aG [0,2,3,4,5,6,11] (fun m ρ hc=>∃(k:Nat)(xs:List Nat)(w:Value)(u:RS),m=k∧xs.length+k≤65535∧ρ=[(0,str l),(2,aE rb),(3,ao 0),(4,ao 0),(5,aE g),(6,aE cb),(11,ao k)]∧
  RE h0 g gc cb rb l [ax mi,ax ma,ax fl,ax th,ax su,vp,w,nS,nS] p xs [] [] vp w nS nS u hc∧eo (aA l 2) k xs u=R) ?_ ?_
 ·simp only[ae,seval]
  exact⟨_,K.1,[],_,K.2,rfl,by simp;omega,rfl,D1,vG.symm⟩
 rintro m ρ hc⟨k,xs,w,u,rfl,mY,rfl,Dx,hL⟩;have k0:=Dx.k0;have c2:=Dx.r.c2;refine Or.elim (Classical.em (0<m∧u.e=0)) (fun hgo=>?vI) (fun hgo=>?Qx)
 case vI=>
  obtain⟨pT,he⟩:=hgo;obtain⟨j,rfl⟩:∃j,m=j+1:=⟨m-1,by omega⟩;have jS:(0:Int)<((j+1:Nat):Int):=by omega
  have dH:(u.e:Int)=0:=by omega
  have hw:IntKind.i64.wrap (((j+1:Nat):Int)-1)=(j:Int):=by rw[wrap_i64 (by omega) (by omega)];omega
  rw[eo,av9 (by simp[he])]at hL;have k7:cellAt hc ⟨cb,6,none⟩=some w:=by rw[Dx.cell];rfl
  simp only[aJ,ae,seval,jS,k0,c2,av8 dH,k7];refine aj rfl (iq hl Dx.rg) ?_;rintro _ h4⟨f4,r4,rfl⟩;have D4:=Dx.cY f4 r4;have k7:cellAt h4 ⟨cb,6,none⟩=some w:=by rw[D4.cell];rfl
  simp only[ae,seval,k7];refine aU fL rfl rfl (by decide) ?_;have ex:Ext h4 (h4.push (.cells [ax ((aA l 2 u).1:Int)].toArray 40)):=Ext.push _ _;have ba:(h4.push (.cells [ax ((aA l 2 u).1:Int)].toArray 40))[h4.size]? =some (.cells [ax ((aA l 2 u).1:Int)].toArray 40 (0,0)):=by simp
  have D5:=D4.cY (eW.ext ex) (D4.r.fr ex id);simp only[ae,seval];refine⟨by rw[D5.cell];rfl,?_⟩;generalize h4.push _=z5,h4.size=lb at*;have pB:fR z5 1 (.slice (some ⟨lb,0,none⟩) 1 1) 1 [ax ((aA l 2 u).1:Int)]:=⟨rfl,_,_,rfl, .inr ⟨lb,0,rfl,aN ba⟩⟩;refine gO (m:=1) (news:=[ax ((aA l 2 u).1:Int)]) fL rfl rfl D5.i pB (fun w hw=>by simp at hw;subst hw;rfl) (by first|omega|(simp only;omega)) (by first|omega|(simp only;omega)) D5.x.size ?_;intro v6 z6 kx f6;have D6:=D5.ahZ f6 (is':=xs++[(aA l 2 u).1]) (dR kx (by simp) (by simp[Cq]));obtain⟨a6,c6,rfl,_⟩:=kx.dQ.2;have SS:cellAt z6 ⟨cb,6,none⟩=some w:=by rw[D6.cell];rfl
  simp only[ae,seval];refine aC N2 rfl rfl rfl rfl rfl SS (D6.frozen _) ?_;have D7:=D6.set 6 (.slice a6 (xs.length+1) c6);simp only[aJ,ae,seval,hw];exact⟨_,by omega,j,xs++[(aA l 2 u).1],_,_,rfl,by simp;omega,rfl,D7,hL⟩
 have yh:R=(xs,u):=by
  rw[←hL];rcases Nat.eq_zero_or_pos m with h0|h0
  ·subst h0;rfl
  ·exact mH (fun he=>hgo ⟨h0,he⟩)
 rw[yh]at qm;refine Or.elim (Classical.em (m=0)) (fun h0=>?ccG) (fun h0=>?yj)
 case' ccG=>
  have hz:¬(0:Int)<(m:Int):=by omega
  simp only[aJ,ae,seval,hz]
 case' yj=>
  have hz:(0:Int)<(m:Int):=by omega
  have dH:¬(u.e:Int)=0:=fun he=>hgo ⟨by omega,by omega⟩;simp only[aJ,ae,seval,hz,k0,c2,av7 dH]
 all_goals
  exact aeL hl Dx qm
end
end
section
section
variable{h0 hx:ar}{g gc cb rb mi ma fl th su:Nat}{l:az}{p:List aX}{vp x6 x7 x8 x9 W1 Uj pj x13 W2 x16 x17 WM x53 x66 x83 Va Vb Vd SV Ve ZF:Value}{t:RS}{X:iP × Nat × Nat}
theorem Vg(hl:l.length≤1073741824)(D:RE h0 g gc cb rb l [ax mi,ax ma,ax 0,ax 0,ax 0,vp,nS,nS,nS] p [] [] [] vp nS nS nS t hx)(hX:mj (jE p l mi ma t)=X):
 Cd.vc Tryz.prog Dj (gP Tryz.prog [(2,some 96),(3,none),(4,none)] (jj h0 X)) [(0,str l),(2,aE rb),(3,ao 0),(4,ao 0),(5,aE g),(6,aE cb),(7,x7),(8,x8),(9,x9),(10,W1),(11,Uj),(12,pj),(13,x13),(14,W2),(16,x16),(17,x17),(28,WM),(53,x53),(66,x66),(83,x83),(141,Va),(167,Vb),(193,Vd),(219,SV),(241,Ve),(261,ZF)] hx:=by
 rw[xN];simp only[aJ,ae,seval];refine aj rfl (iq hl D.rg) ?_;rintro _ y3⟨f3,r3,rfl⟩;have E3:=D.cY f3 r3;have kc:cellAt y3 ⟨cb,2,none⟩=some (ax 0):=by rw[E3.cell];rfl
 simp only[ae,seval];refine aC eN rfl rfl rfl rfl rfl kc (E3.frozen _) ?_;have D3:=E3.set 2 (ax ((aA l 2 t).1:Int));generalize setAt y3 ⟨cb,2,none⟩ _=h3 at*;simp only[aJ,ae,seval];refine aj rfl (iq hl D3.rg) ?_;rintro _ y4⟨f4,r4,rfl⟩;have E4:=D3.cY f4 r4;have kc:cellAt y4 ⟨cb,3,none⟩=some (ax 0):=by rw[E4.cell];rfl
 simp only[ae,seval];refine aC eN rfl rfl rfl rfl rfl kc (E4.frozen _) ?_;have D4:=E4.set 3 (ax ((aA l 2 (aA l 2 t).2).1:Int));generalize setAt y4 ⟨cb,3,none⟩ _=h4 at*;simp only[aJ,ae,seval];refine aj rfl (iq hl D4.rg) ?_;rintro _ y5⟨f5,r5,rfl⟩;have E5:=D4.cY f5 r5;have kc:cellAt y5 ⟨cb,4,none⟩=some (ax 0):=by rw[E5.cell];rfl
 simp only[ae,seval];refine aC eN rfl rfl rfl rfl rfl kc (E5.frozen _) ?_;have D5:=E5.set 4 (ax ((aA l 2 (aA l 2 (aA l 2 t).2).2).1:Int));generalize setAt y5 ⟨cb,4,none⟩ _=h5 at*;simp only[ae,seval];exact aeM hl D5 ((PL p l mi ma t).trans hX)
theorem RE.ara{rc:List Value}{is:List Nat}{fs:List fC}{ms:List fj}{vi vf vm vq:Value}{q:List aX}(D:RE h0 g gc cb rb l rc p is fs ms vp vi vf vm t hx)(O:Own hx h0.size 160 5 vq q.length (du q)):RE h0 g gc cb rb l rc q is fs ms vq vi vf vm t (setAt hx ⟨g,1,none⟩ vq):=by
 have f:Fr (fun b=>b=g) hx (setAt hx ⟨g,1,none⟩ vq):=Fr.set (S:=fun b=>b=g) _ _ _ fun _=>rfl;have hS:∀b,b<hx.size→b=g→∃cs fz,hx[b]? =some (.cells cs 172 fz):=fun b _ hk=>⟨_,_,hk▸D.q⟩;have b1:=bu (o:=1) D.q vq;obtain⟨rows,hm⟩:=D.m;exact⟨dG D.b f hS (by decide),by rw[b1];simp,⟨dG D.r.1 f hS (by decide),D.r.2⟩,da O f hS (by decide),da D.i f hS (by decide),da D.f f hS (by decide),⟨rows,hm.keep f hS (by decide) (by decide)⟩,
  D.tJ f (fun b _ hk=>by have:=D.g0;omega),dG D.z f hS (by decide),D.g0,D.g1,D.g2,D.g3,D.ne⟩
theorem G6(hl:l.length≤1073741824)(D:RE h0 g gc cb rb l [ax mi,ax ma,ax 0,ax 0,ax 0,nS,nS,nS,nS] [] [] [] [] nS nS nS nS t hx)(hX:mj (jE (tm l t).1 l mi ma (tm l t).2)=X):
 Cd.vc Tryz.prog Dk (gP Tryz.prog [(2,some 96),(3,none),(4,none)] (jj h0 X)) [(0,str l),(2,aE rb),(3,ao 0),(4,ao 0),(5,aE g),(6,aE cb),(7,x7),(8,x8),(9,x9),(10,W1),(11,Uj),(12,pj),(13,x13),(14,W2),(16,x16),(17,x17),(28,WM),(53,x53),(66,x66),(83,x83),(141,Va),(167,Vb),(193,Vd),(219,SV),(241,Ve),(261,ZF)] hx:=by
 rw[xO];have k0:=D.k0;have c2:=D.r.c2;have c1:=D.r.c1;have hp:=D.r.2;by_cases he:t.e=0
 case neg=>
  have dH:¬(t.e:Int)=0:=by omega
  have hq:tm l t=([],t):=by unfold tm;rw[awa he]
  rw[hq]at hX;simp only[aJ,ae,seval,k0,c2,av7 dH];exact Vg hl D hX
 case pos=>
  have dH:(t.e:Int)=0:=by omega
  have hT:((t.p:Nat):Int).toNat=t.p:=by omega
  obtain⟨Q,hQ⟩:∃Q,Q=lJ (l.drop t.p):=⟨_,rfl⟩;have jV:=ZE (l.drop t.p);have hp0:=aca (l.drop t.p);rw[←hQ,aws]at jV;rw[←hQ]at hp0;have hq:tm l t=(Q.1,⟨(if Q.2.2.1=0 then t else cg Q.2.2.1 (t.p+Q.2.2.2) t).p+Q.2.1,(if Q.2.2.1=0 then t else cg Q.2.2.1 (t.p+Q.2.2.2) t).e,(if Q.2.2.1=0 then t else cg Q.2.2.1 (t.p+Q.2.2.2) t).es⟩):=by unfold tm;rw[av9 (by simp[he]),←hQ]
  rw[hq]at hX;simp(disch:=omega)only[aJ,ae,seval,k0,c1,c2,av8 dH];refine aj rfl (abU (l.drop t.p) hx (by simp;omega)) ?_;rintro _ h1⟨x1,sv,rfl,Gf⟩;rw[←hQ]at Gf⊢;have D1:=D.cY (eW.ext x1) (D.r.fr x1 id);have ais:=Gf.mono D.x.size;obtain⟨aP,cP,rfl,_⟩:=Gf.dQ.2;have k0:=D1.k0;have c1:=D1.r.c1;refine Or.elim (Classical.em (Q.2.2.1=0)) (fun hQe=>?vI) (fun hQe=>?Qx)
  case' vI=>
   have hQ':(Q.2.2.1:Int)=0:=by omega
   simp only[awa hQe]at hX;simp only[aJ,ae,seval,av8 hQ'];obtain⟨t2,YU⟩:∃t2,t2=t:=⟨_,rfl⟩;have D2:RE h0 g gc cb rb l [ax mi,ax ma,ax 0,ax 0,ax 0,nS,nS,nS,nS] [] [] [] [] nS nS nS nS t2 h1:=by rw[YU];exact D1
   rw[←YU]at hX;have arb:t2.p=t.p:=by rw[YU]
   have qJ:=ais;obtain⟨h2,hh2⟩:∃x,x=h1:=⟨_,rfl⟩;rw[←hh2]at D2 qJ⊢
  case' Qx=>
   have hQ':¬(Q.2.2.1:Int)=0:=by omega
   simp only[av9 hQe]at hX;have hwe:IntKind.i64.wrap ((t.p:Int)+(Q.2.2.2:Int))=((t.p+Q.2.2.2:Nat):Int):=by rw[wrap_i64 (by omega) (by omega)];omega
   simp only[aJ,ae,seval,av7 hQ',k0,c1,hwe];refine aj rfl (jF Q.2.2.1 (t.p+Q.2.2.2) D1.r) ?_;rintro _ h2⟨f2,r2⟩;have D2':=D1.cY f2 r2;have qJ:=da ais f2 (e:=170) (fun k _ hk=>⟨_,_,hk▸D1.r.1⟩) (by decide);obtain⟨t2,YU⟩:∃t2,t2=cg Q.2.2.1 (t.p+Q.2.2.2) t:=⟨_,rfl⟩;rw[←YU]at D2' hX;have D2:RE h0 g gc cb rb l [ax mi,ax ma,ax 0,ax 0,ax 0,nS,nS,nS,nS] [] [] [] [] nS nS nS nS t2 h2:=D2';have arb:t2.p=t.p:=by rw[YU];unfold cg;split<;>rfl
   simp only[aJ,ae,seval]
  all_goals
   have k0:=D2.k0;have c1:=D2.r.c1;have hwn:IntKind.i64.wrap ((t2.p:Int)+(Q.2.1:Int))=((t2.p+Q.2.1:Nat):Int):=by rw[wrap_i64 (by omega) (by omega)];omega
   simp only[ae,seval,k0,c1,hwn];refine aC dI rfl rfl rfl rfl rfl (u:=ao t2.p) c1 (by simp[frozenAt,D2.r.1]) ?_;have f3:eW gc h2 (setAt h2 ⟨gc,1,none⟩ (ao (t2.p+Q.2.1:Nat))):=Fr.set (S:=fun k=>k=gc) _ _ _ fun _=>rfl;have b3:=bu (o:=1) D2.r.1 (ao (t2.p+Q.2.1:Nat));have D3:=D2.cY (u:=⟨t2.p+Q.2.1,t2.e,t2.es⟩) f3 ⟨b3,by simp only;omega⟩;have ard:=da qJ f3 (e:=170) (fun k _ hk=>⟨_,_,hk▸D2.r.1⟩) (by decide);generalize setAt h2 ⟨gc,1,none⟩ _=h3 at*;have k1:=D3.rg.k1;simp only[aJ,ae,seval];refine aC NY rfl rfl rfl rfl rfl k1 (by simp[frozenAt,D3.q]) ?_;have D4:=D3.ara ard;generalize setAt h3 ⟨g,1,none⟩ _=h4 at*;have k5:cellAt h4 ⟨cb,5,none⟩=some nS:=by rw[D4.cell];rfl
   simp only[aJ,ae,seval];refine aC NY rfl rfl rfl rfl rfl k5 (D4.frozen _) ?_;have D5:=D4.set 5 (.slice aP Q.1.length cP);simp only[ae,seval];exact Vg hl D5 hX
theorem Vh(hl:l.length≤1073741824)(D:iK hx gc l t)(D0:hx[g]? =some (.cells #[aE gc,nS] 172 (0,0)))(D1:hx[rb]? =some (.cells GB 96 (0,0)))(D2:Ext h0 hx)(o1:h0.size≤g)(o2:h0.size≤gc)(o3:h0.size≤rb)(a b:Nat)(s2:RS)(ha:a=(aA l 2 t).1)(hb:b=(aA l 2 (aA l 2 t).2).1)
 (hs:s2=if(b=50∨b=51)∧a=0 then(aA l 2 (aA l 2 t).2).2 else cg 4 4 (aA l 2 (aA l 2 t).2).2)(hX:mj (jE (tm l s2).1 l a b (tm l s2).2)=X):
 Cd.vc Tryz.prog Dl (gP Tryz.prog [(2,some 96),(3,none),(4,none)] (jj h0 X)) [(0,str l),(2,aE rb),(3,ao 0),(4,ao 0),(5,aE g),(6,x6),(7,x7),(8,x8),(9,x9),(10,W1),(11,Uj),(12,pj),(13,x13),(14,W2),(16,x16),(17,x17),(28,WM),(53,x53),(66,x66),(83,x83),(141,Va),(167,Vb),(193,Vd),(219,SV),(241,Ve),(261,ZF)] hx:=by
 rw[xP];simp only[aJ,ae,seval];refine aD jJ ?_;simp only[ae,seval];refine aI jJ rfl rfl rfl (by simp[Value.cells,oneCell]) rfl ?_;intro h2 x2 ji vE b2;have vb:=(awd.1 D1).1;have Ws:=D2.size;have E0:RE h0 g gc hx.size rb l [ax 0,ax 0,ax 0,ax 0,ax 0,nS,nS,nS,nS] [] [] [] [] nS nS nS nS t h2:=
  ⟨b2,ay x2 D0 id,D.fr x2 id,Own.nil,Own.nil,Own.nil,⟨[],rfl,Own.nil,fun j hj=>aww hj (awq j)⟩,D2.trans x2,ay x2 D1 id,o1,o2,Ws,o3,by omega⟩
 generalize hx.size=cb at*;simp only[aJ,ae,seval];refine aj rfl (iq hl E0.rg) ?_;rintro _ y4⟨f4,r4,rfl⟩;have E4:=E0.cY f4 r4;rw[←ha];have kc:cellAt y4 ⟨cb,0,none⟩=some (ax 0):=by rw[E4.cell];rfl
 simp only[ae,seval];refine aC eN rfl rfl rfl rfl rfl kc (E4.frozen _) ?_;have D4:=E4.set 0 (ax a);generalize setAt y4 ⟨cb,0,none⟩ _=h4 at*;simp only[aJ,ae,seval];refine aj rfl (iq hl D4.rg) ?_;rintro _ y6⟨f6,r6,rfl⟩;have E6:=D4.cY f6 r6;rw[←hb];have kc:cellAt y6 ⟨cb,1,none⟩=some (ax 0):=by rw[E6.cell];rfl
 simp only[ae,seval];refine aC eN rfl rfl rfl rfl rfl kc (E6.frozen _) ?_;have D6:=E6.set 1 (ax b);generalize setAt y6 ⟨cb,1,none⟩ _=h6 at*;have c1:cellAt h6 ⟨cb,0,none⟩=some (ax a):=by rw[D6.cell];rfl
 have c2:cellAt h6 ⟨cb,1,none⟩=some (ax b):=by rw[D6.cell];rfl
 have D7:RE h0 g gc cb rb l [ax a,ax b,ax 0,ax 0,ax 0,nS,nS,nS,nS] [] [] [] [] nS nS nS nS _ h6:=D6;have k0:=D7.k0;by_cases h00:a=0
 ·have i0:(a:Int)=0:=by omega
  by_cases h50:b=50
  ·have i50:(b:Int)=50:=by omega
   rw[awa ⟨.inl h50,h00⟩]at hs;subst hs;simp only[aJ,ae,seval,c1,c2,av8 i0,av8 i50];exact G6 hl D7 hX
  ·have i50:¬(b:Int)=50:=by omega
   by_cases h51:b=51
   ·have i51:(b:Int)=51:=by omega
    rw[awa ⟨.inr h51,h00⟩]at hs;subst hs;simp only[aJ,ae,seval,c1,c2,av8 i0,av7 i50,av8 i51];exact G6 hl D7 hX
   ·have i51:¬(b:Int)=51:=by omega
    rw[av9 (fun hh=>hh.1.elim h50 h51)]at hs;subst hs;simp only[aJ,ae,seval,c1,c2,av8 i0,av7 i50,av7 i51,k0];refine aj rfl (jF 4 4 D7.r) ?_;rintro _ h8⟨f8,r8⟩;have D8:=D7.cY f8 r8;simp only[ae,seval];exact G6 hl D8 hX
 ·have i0:¬(a:Int)=0:=by omega
  rw[av9 (fun hh=>h00 hh.2)]at hs;subst hs;simp only[aJ,ae,seval,c1,av7 i0,k0];refine aj rfl (jF 4 4 D7.r) ?_;rintro _ h8⟨f8,r8⟩;have D8:=D7.cY f8 r8;simp only[ae,seval];exact G6 hl D8 hX
theorem ait(l:az)(h:ar)(hl:l.length≤1073741824):aF Tryz.prog 38 #[str l] h (jj h (OJ l)):=by
 refine xG (args:=[str l]) rfl ?_;simp only[aJ,ae,seval];refine aD jJ ?_;have e1:Ext h (h.push (.cells GB 96)):=Ext.push _ _;have b1:(h.push (.cells GB 96))[h.size]? =some (.cells GB 96 (0,0)):=by simp
 simp only[aJ,ae,seval];change li _ _ _ _ _ (h.push (.cells GB 96)) _;generalize h.push _=h1 at*;refine cT ?_;have e2:Ext h1 (h1.push (.cells #[str l,ao 0,ao 0,ao 0] 170)):=Ext.push _ _;have b2:(h1.push (.cells #[str l,ao 0,ao 0,ao 0] 170))[h1.size]? =some (.cells #[str l,ao 0,ao 0,ao 0] 170 (0,0)):=by simp
 simp only[ae,seval];generalize h1.push _=h2 at*;have xW:=e1.size;have Uh:=ay e2 b1 id;have j8:=e2.size;have aV:=(awd.1 b2).1;generalize h1.size=gc at*;refine cT ?_;have e3:Ext h2 (h2.push (.cells #[aE gc,nS] 172)):=Ext.push _ _;have b3:(h2.push (.cells #[aE gc,nS] 172))[h2.size]? =some (.cells #[aE gc,nS] 172 (0,0)):=by simp
 simp only[aJ,ae,seval];generalize h2.push _=h3 at*;have D0:iK h3 gc l ⟨0,0,0⟩:=⟨ay e3 b2 id,awb _⟩;have z0:=ay e3 Uh id;have X0:Ext h h3:=(e1.trans e2).trans e3;have o1:h.size≤h2.size:=(e1.trans e2).size;generalize h2.size=g at*;have k0:cellAt h3 ⟨g,0,none⟩=some (aE gc):=by rw[au b3];rfl
 simp only[ae,seval,k0];refine aj rfl (sQ 4 hl (by omega) D0) ?_;rintro _ h4⟨f4,r4,rfl⟩;have b4:=ay f4 b3 (vJ b3 D0.1 (by decide));have z4:=ay f4 z0 (vJ z0 D0.1 (by decide));have X4:Ext h h4:=Fr.trans X0 f4 (fun _ _ hh=>hh) (fun k hk hS=>by omega);have k0:cellAt h4 ⟨g,0,none⟩=some (aE gc):=by rw[au b4];rfl
 have gB:h.size≤gc:=by omega
 by_cases hm:(cV l 4 ⟨0,0,0⟩).1=[202,254,186,190]
 ·have qQ:=SU.1 hm
  simp only[ae,seval,av8 hm];refine Vh hl r4 b4 z4 X4 o1 gB (awp _) _ _ _ rfl rfl rfl ?_;unfold OJ oF;simp only[awa qQ];rfl
 ·have qQ:¬(aA l 4 ⟨0,0,0⟩).1=3405691582:=fun hh=>hm (SU.2 hh)
  simp only[aJ,ae,seval,av7 hm,k0];refine aj rfl (jF 3 0 r4) ?_;rintro _ h5⟨f5,r5⟩;simp only[ae,seval];refine Vh hl r5 (ay f5 b4 (vJ b4 r4.1 (by decide))) (ay f5 z4 (vJ z4 r4.1 (by decide))) (Fr.trans X4 f5 (fun _ _ hh=>hh) (fun k hk hS=>by omega)) o1 gB (awp _) _ _ _ rfl rfl rfl ?_;unfold OJ oF;simp only[av9 qQ];rfl
end
end
section
def jm(s:az):az:=
 if dq s≠0∧(s.drop (dq s)).head?=some 76∧2<(s.drop (dq s)).length then((s.drop (dq s)).take ((s.drop (dq s)).length-1)).drop 1 else s.drop (dq s)
def kU(s:az):Bool:=decide (dq s≠0)&&decide ((s.drop (dq s)).head?≠some 76)
theorem aeN{s:az}(h:s.head?≠some 91):dq s=0:=by
 cases s with
 |nil=>rfl
 |cons b r=>
  simp only[List.head?_cons,ne_eq,awe]at h;rw[dq,av9 h]
theorem aiu{s:az}(h:dq s≠0):s.head?=some 91:=by
 cases s with
 |nil=>exact aww rfl h
 |cons b r=>rw[dq]at h;split at h<;>simp_all
theorem jO{s:az}(h:eJ s=true):s≠[]∧s.head?≠some 91:=by
 cases s with
 |nil=>simp[eJ,vg,pieces,without]at h
 |cons b r=>
  refine⟨by simp,fun e=>?_⟩;simp only[List.head?_cons,awe]at e;subst e;unfold eJ vg at h;rw[pieces,av9 (by decide)]at h;have key:∀(l acc:az),(91:UInt8)∈acc→(pieces acc l).all (without A3)=false:=by
   intro l
   induction l with
   |nil=>
    intro acc ha;simp only[pieces,List.all_cons,List.all_nil,Bool.and_true,without,Bool.and_eq_false_iff,Bool.not_eq_false'];refine .inr ?_;unfold nG;rw[List.any_eq_true];exact⟨91,ha,by decide⟩
   |cons c l ih=>
    intro acc ha;rw[pieces]
    split
    ·rw[List.all_cons,Bool.and_eq_false_iff]
     refine .inl ?_;simp only[without,Bool.and_eq_false_iff,Bool.not_eq_false'];refine .inr ?_;unfold nG;rw[List.any_eq_true];exact⟨91,ha,by decide⟩
    ·exact ih _ (by simp[ha])
  rw[key r _ (by simp)]at h;cases h
theorem GF{s:az}(h:eJ s=true):jm s=s∧kU s=false∧dq s=0:=by
 have:=aeN (jO h).2;simp[jm,kU,this]
theorem Bb{s:az}(h:jA s=true):s.drop (dq s)≠[]∧(kU s=false→eJ (jm s)=true∧(dq s≠0→2<(s.drop (dq s)).length)):=by
 unfold jA at h
 split at h
 ·rename_i KL
  have hn:dq s≠0:=by
   cases s with
   |nil=>simp at KL
   |cons b r=>simp only[List.head?_cons,awe]at KL;rw[dq,awa KL];omega
  unfold cG at h;rw[awo,zI]at h
  split at h
  ·cases h
  cases hf:rm (s.drop (dq s))with
  |none=>rw[hf]at h;cases h
  |some m=>
   rw[hf]at h;simp only[axc,awe]at h;have hl:=G2 s;cases ht:s.drop (dq s)with
   |nil=>rw[ht]at hf;cases hf
   |cons b r=>
    refine⟨by simp,fun hv=>?_⟩;have sK:b=76:=by
     simp only[kU,ht,List.head?_cons,ne_eq,awe,decide_not,Bool.and_eq_false_iff,Bool.not_eq_false',awo]at hv;rcases hv with hv|hv
     ·exact aww hv hn
     ·exact hv
    subst sK;have hlen:(76::r:az).length=m:=by rw[←ht,aws];omega
    rw[ht]at hf;rw[rm,av9 (by decide),awa rfl]at hf
    split at hf
    ·cases hf
    split at hf
    ·rename_i hp
     simp only[awe]at hf;have e1:(ib (76::r) 59).toNat=(76::r:az).length-1:=by omega
     rw[e1]at hp;have h3:2<(76::r:az).length:=by
      have:=(jO hp).1;by_cases hc:2<(76::r:az).length
      ·exact hc
      ·exfalso
       apply this;apply List.drop_eq_nil_of_le;rw[awz];simp only[awy]at hc⊢;omega
     rw[jm,ht,awa ⟨hn,rfl,h3⟩];exact⟨hp,fun _=>h3⟩
    ·cases hf
 ·rename_i KL
  have hp:=GF h;rw[hp.1,hp.2.2];exact⟨(jO h).1,fun _=>⟨h,fun x=>aww rfl x⟩⟩
theorem lL{s:az}(h:jA s=true):s≠[]:=fun e=>(Bb h).1 (by rw[e];rfl)
structure LC where
 nm:az
 sup:az
 ifs:List (az)
 fl:Nat
 fds:List (List Value)
 iw:List (List Value)
def LC0:LC:=⟨[],[],[],0,[],[]⟩
abbrev LS:=Nat→Nat × Int
def LS.put(S:LS)(i:Nat)(v:Nat × Int):LS:=fun j=>if j=i then v else S j
def kB(S:LS)(i:Nat):Prop:=S i=(2,0)
def at'(W:List LC)(i:Nat):LC:=W.getD i LC0
def rh(W:List LC)(S:LS)(n:az):Prop:=∃i,i<W.length∧(at' W i).nm=n∧kB S i
def pn(W:List LC)(S:LS)(n:az):Prop:=jA n=true∧(kU n=true∨rh W S (jm n))
def nt:az:=[106,97,118,97,47,108,97,110,103,47,79,98,106,101,99,116]
structure ek(W:List LC)(S:LS)(rk:Nat→Nat):Prop where
 ob:∃i,i<W.length∧(at' W i).nm=nt∧(at' W i).sup=[]∧(at' W i).ifs=[]
 st:∀i,i<W.length→(S i).1≤2
 nm:∀i,i<W.length→eJ (at' W i).nm=true
 un:∀i j,i<W.length→j<W.length→(at' W i).nm=(at' W j).nm→i=j
 sp:∀i,i<W.length→((at' W i).sup=[]∧(at' W i).ifs=[])∨eJ (at' W i).sup=true
 ip:∀i,i<W.length→∀f∈(at' W i).ifs,eJ f=true
 su:∀i,i<W.length→kB S i→(at' W i).sup≠[]→∃j,j<W.length∧(at' W j).nm=(at' W i).sup∧kB S j∧rk j<rk i
 fa:∀i,i<W.length→kB S i→∀f∈(at' W i).ifs,∃j,j<W.length∧(at' W j).nm=f∧kB S j∧rk j<rk i
def Bc(S S':LS):Prop:=∀i,((S i).1≠0→S' i=S i)∧((S i).1=0→(S' i).1=0∨(S' i).1=2)
theorem Bc.refl(S:LS):Bc S S:=fun _=>⟨fun _=>rfl,fun h=> .inl h⟩
theorem Bc.trans{S T U:LS}(h:Bc S T)(k:Bc T U):Bc S U:=fun i=>by
 refine⟨fun hi=>?_,fun hi=>?_⟩
 ·rw[(k i).1 (by rw[(h i).1 hi];exact hi),(h i).1 hi]
 ·rcases(h i).2 hi with h0|h2
  ·exact(k i).2 h0
  ·right;rw[(k i).1 (by omega)];exact h2
theorem Bc.ok{S T:LS}(h:Bc S T){i:Nat}(hi:kB S i):kB T i:=by
 unfold kB at*;rw[(h i).1 (by rw[hi];decide),hi]
theorem Bc.rh{W:List LC}{S T:LS}(h:Bc S T){n:az}(hn:rh W S n):rh W T n:=by
 obtain⟨i,a,b,c⟩:=hn;exact⟨i,a,b,h.ok c⟩
theorem Bc.pn{W:List LC}{S T:LS}(h:Bc S T){n:az}(hn:pn W S n):pn W T n:=⟨hn.1,hn.2.imp awx h.rh⟩
theorem fM{S:LS}{i:Nat}{v:Nat × Int}:S.put i v i=v:=by simp[LS.put]
theorem jY{S:LS}{i j:Nat}{v:Nat × Int}(h:j≠i):S.put i v j=S j:=by simp[LS.put,h]
def tK(S:LS):Nat→Nat
 |0=>0
 |n+1=>tK S n+if(S n).1=0 then 1 else 0
theorem SX{S T:LS}(h:Bc S T):∀n,tK T n≤tK S n
 |0=>awp _
 |n+1=>by
  have:=SX h n;simp only[tK];by_cases h0:(S n).1=0
  ·rw[awa h0];split<;>omega
  ·rw[(h n).1 h0];omega
theorem OL{S:LS}{i:Nat}{v:Nat × Int}(h0:(S i).1=0)(hv:v.1≠0):∀n,i<n→tK (S.put i v) n<tK S n
 |0,h=>aww h (awq _)
 |n+1,h=>by
  have hle:∀m,tK (S.put i v) m≤tK S m:=by
   intro m
   induction m with
   |zero=>exact awp _
   |succ m ih=>
    simp only[tK];by_cases hm:m=i
    ·subst hm;rw[fM,av9 hv];omega
    ·rw[jY hm];omega
  simp only[tK];by_cases hn:n=i
  ·subst hn
   rw[fM,av9 hv,awa h0];have:=hle n;omega
  ·have:=OL (S:=S) h0 hv n (by omega)
   rw[jY hn];omega
section
variable{W:List LC}{S T:LS}{rk:Nat→Nat}
theorem ek.begin(H:ek W S rk){i:Nat}(h0:(S i).1=0)(e:Int):ek W (S.put i (1,e)) rk:=by
 have hk:∀j,kB (S.put i (1,e)) j→kB S j:=by
  intro j hj;by_cases lR:j=i
  ·subst lR;unfold kB at hj;rw[fM]at hj;cases hj
  ·unfold kB at*;rw[jY lR]at hj;exact hj
 have qM:∀j,kB S j→kB (S.put i (1,e)) j:=by
  intro j hj;have:j≠i:=fun x=>by subst x;unfold kB at hj;rw[hj]at h0;cases h0
  unfold kB at*;rw[jY this];exact hj
 refine⟨H.ob,fun j hj=>?_,H.nm,H.un,H.sp,H.ip,fun j hj jV hs=>?_,fun j hj jV f hf=>?_⟩
 ·by_cases lR:j=i
  ·subst lR;rw[fM];simp
  ·rw[jY lR];exact H.st j hj
 ·obtain⟨a,b,c,d,e⟩:=H.su j hj (hk j jV) hs;exact⟨a,b,c,qM a d,e⟩
 ·obtain⟨a,b,c,d,e⟩:=H.fa j hj (hk j jV) f hf;exact⟨a,b,c,qM a d,e⟩
theorem ek.done(H:ek W T rk){i:Nat}(h1:(T i).1=1)(e:Int)(he:e=0→((at' W i).sup≠[]→rh W T (at' W i).sup)∧∀f∈(at' W i).ifs,rh W T f):∃mo,ek W (T.put i (2,e)) mo:=by
 have cN:∀j,kB T j→j≠i:=fun j hj x=>by subst x;unfold kB at hj;rw[hj]at h1;cases h1
 have Uk:∀j,kB T j→kB (T.put i (2,e)) j:=fun j hj=>by have:=cN j hj;unfold kB at*;rw[jY this];exact hj
 have hdn:∀j,j≠i→kB (T.put i (2,e)) j→kB T j:=fun j hj h=>by unfold kB at*;rw[jY hj]at h;exact h
 obtain⟨M,hM⟩:∃M,∀j,j<W.length→rk j<M:=by
  have:∀n,∃M,∀j,j<n→rk j<M:=by
   intro n
   induction n with
   |zero=>exact⟨0,fun j hj=>aww hj (awq _)⟩
   |succ n ih=>
    obtain⟨M,hM⟩:=ih;refine⟨max M (rk n+1),fun j hj=>?_⟩;rcases Nat.lt_succ_iff_lt_or_eq.1 hj with h|rfl
    ·have:=hM j h;omega
    ·omega
  exact this _
 refine⟨fun j=>if j=i then M else rk j,H.ob,fun j hj=>?_,H.nm,H.un,H.sp,H.ip,fun j hj jV hs=>?_,fun j hj jV f hf=>?_⟩
 ·by_cases lR:j=i
  ·subst lR;rw[fM];simp
  ·rw[jY lR];exact H.st j hj
 ·by_cases lR:j=i
  ·subst lR
   have DF:e=0:=by unfold kB at jV;rw[fM]at jV;exact(Prod.mk.inj jV).2
   obtain⟨k,k1,k2,k3⟩:=(he DF).1 hs;exact⟨k,k1,k2,Uk k k3,by simp[cN k k3,hM k k1]⟩
  ·obtain⟨k,k1,k2,k3,k4⟩:=H.su j hj (hdn j lR jV) hs
   exact⟨k,k1,k2,Uk k k3,by simp[cN k k3,lR,k4]⟩
 ·by_cases lR:j=i
  ·subst lR
   have DF:e=0:=by unfold kB at jV;rw[fM]at jV;exact(Prod.mk.inj jV).2
   obtain⟨k,k1,k2,k3⟩:=(he DF).2 f hf;exact⟨k,k1,k2,Uk k k3,by simp[cN k k3,hM k k1]⟩
  ·obtain⟨k,k1,k2,k3,k4⟩:=H.fa j hj (hdn j lR jV) f hf
   exact⟨k,k1,k2,Uk k k3,by simp[cN k k3,lR,k4]⟩
def zZ(W:List LC)(S:LS)(i:Nat):Prop:=kB S i∨((at' W i).sup=[]∧(at' W i).ifs=[])
theorem ek.su'(H:ek W S rk){i:Nat}(hi:i<W.length)(h:zZ W S i)(hs:(at' W i).sup≠[]):∃j,j<W.length∧(at' W j).nm=(at' W i).sup∧kB S j∧rk j<rk i:=by
 rcases h with h|h
 ·exact H.su i hi h hs
 ·exact aww h.1 hs
theorem ek.fa'(H:ek W S rk){i:Nat}(hi:i<W.length)(h:zZ W S i):∀f∈(at' W i).ifs,∃j,j<W.length∧(at' W j).nm=f∧kB S j∧rk j<rk i:=by
 rcases h with h|h
 ·exact H.fa i hi h
 ·intro f hf;rw[h.2]at hf;cases hf
end
end
end Go.Proofs.YtmbboehmnfhjjaaGreatDoor
