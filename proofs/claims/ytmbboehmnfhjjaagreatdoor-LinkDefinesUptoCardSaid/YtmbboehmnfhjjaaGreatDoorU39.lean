/- Define, by the reference: it answers as the bytes say; the world has the class. Both worlds, step by step. One step of the law, on both worlds. -/
import Derived.Test.YtmbboehmnfhjjaaGreatDoorU37
import Derived.Test.YtmbboehmnfhjjaaGreatDoorU38
import Derived.Test.YtmbboehmnfhjjaaGreatDoorU8
set_option maxRecDepth 100000
set_option maxHeartbeats 32000000
set_option linter.unusedSimpArgs false
set_option linter.unusedVariables false
set_option linter.defProp false
namespace Go.Proofs.YtmbboehmnfhjjaaGreatDoor
open Go.Vc
section
section
variable{h0 h h7:ar}{g b nv:Nat}{vL:Value}{bs:List Nat}{W:List LC}{S:LS}{rk:Nat→Nat}{c:LC}{vp ui uf uv um vo v7:Value}
theorem Lh{p:List aX}{k:Nat}(hf:∀c∈p,c.Fit)(hs:fR h 5 vp p.length (du p))(hk:k<65536):
 aF Tryz.prog 40 #[vp,ax k] h fun v h'=>h'=h∧v=str (bZ p k).1:=by
 refine Kt (args:=[vp,ax k]) rfl ?_;have w:IntKind.i64.wrap (k:Int)=(k:Int):=wrap_i64 (by omega) (by omega);simp only[zA,ae,seval,w];refine aj rfl (AN k hf hs) ?_;rintro _ h⟨rfl,rfl⟩;simp only[zA,ae,seval]
theorem Bl{p:List aX}{k:Nat}(hs:fR h 5 vp p.length (du p))(hk:k<65536):
 aF Tryz.prog 42 #[vp,ax k] h fun v h'=>h'=h∧v=str (bM p k):=by
 refine Mj (args:=[vp,ax k]) rfl ?_;have w:IntKind.i64.wrap (k:Int)=(k:Int):=wrap_i64 (by omega) (by omega);simp only[Ca,ae,seval,w];refine aj rfl (AV k hs) ?_;rintro _ h⟨rfl,rfl⟩;simp only[Ca,ae,seval]
theorem PE.aiU(N:PE h0 h b c vp ui uf uv um vo nv){y:az}(O:Own h7 h0.size 9 1 v7 (c.ifs.length+1) (c.ifs.map str++[str y]))(f:Fr (fun k=>ui.ownBlock=some k) h h7):
 cellAt h7 ⟨b,2,none⟩=some ui∧frozenAt h7 ⟨b,2,none⟩=false∧PE h0 (setAt h7 ⟨b,2,none⟩ v7) b {c with ifs:=c.ifs++[y]} vp v7 uf uv um vo nv:=by
 obtain⟨a1,a2,a3,a4,K,L⟩:=sT N.k.b N.b N.x N.i (by decide) f 2 v7;have O:=L (show Own h7 h0.size 9 1 v7 (c.ifs++[y]).length ((c.ifs++[y]).map str)from dR O (by simp) (by simp));have A:=K N.f (by decide) (by decide);have B:=K N.m (by decide) (by decide);exact⟨by rw[au a1];rfl,a2,⟨a3,O.mono (awb _),A.mono (awb _),B.mono (awb _)⟩,N.b,O,A,N.v.imp fun _ a=>K a (by decide) (by decide),B,a4⟩
theorem PE.aiV(N:PE h0 h b c vp ui uf uv um vo nv){r:List Value}(O:Own h7 h0.size 72 4 v7 (c.fds.length+1) (c.fds.flatten++r))(f:Fr (fun k=>uf.ownBlock=some k) h h7):
 cellAt h7 ⟨b,5,none⟩=some uf∧frozenAt h7 ⟨b,5,none⟩=false∧PE h0 (setAt h7 ⟨b,5,none⟩ v7) b {c with fds:=c.fds++[r]} vp ui v7 uv um vo nv:=by
 obtain⟨a1,a2,a3,a4,K,L⟩:=sT N.k.b N.b N.x N.f (by decide) f 5 v7;have O:=L (show Own h7 h0.size 72 4 v7 (c.fds++[r]).length ((c.fds++[r]).flatten)from dR O (by simp) (by simp));have A:=K N.i (by decide) (by decide);have B:=K N.m (by decide) (by decide);exact⟨by rw[au a1];rfl,a2,⟨a3,A.mono (awb _),O.mono (awb _),B.mono (awb _)⟩,N.b,A,O,N.v.imp fun _ a=>K a (by decide) (by decide),B,a4⟩
theorem PE.arE(N:PE h0 h b c vp ui uf uv um vo nv){xs ys:List Value}(Ov:Own h h0.size 40 1 uv nv xs)(O:Own h7 h0.size 40 1 v7 (nv+1) ys)(f:Fr (fun k=>uv.ownBlock=some k) h h7):
 cellAt h7 ⟨b,6,none⟩=some uv∧frozenAt h7 ⟨b,6,none⟩=false∧PE h0 (setAt h7 ⟨b,6,none⟩ v7) b c vp ui uf v7 um vo (nv+1):=by
 obtain⟨a1,a2,a3,a4,K,L⟩:=sT N.k.b N.b N.x Ov (by decide) f 6 v7;have A:=K N.i (by decide) (by decide);have B:=K N.f (by decide) (by decide);have D:=K N.m (by decide) (by decide);exact⟨by rw[au a1];rfl,a2,⟨a3,A.mono (awb _),B.mono (awb _),D.mono (awb _)⟩,N.b,A,B,⟨_,L O⟩,D,a4⟩
theorem RC.c6{s:Nat × Int}(H:RC h b c s ui vp uf uv um vo):cellAt h ⟨b,6,none⟩=some uv:=by rw[au H.b];rfl
theorem arF{h:ar}{x y:Operand}:ej Tryz.prog .neq 56 x y (.pointer none) (.pointer none) h=some (.bool false):=sd (a:=none) Tryz.underlying56
theorem arG{h:ar}{a:Addr}{x y:Operand}:ej Tryz.prog .neq 56 x y (.pointer (some a)) (.pointer none) h=some (.bool true):=sd (a:=some a) Tryz.underlying56
def Vu(g:Nat)(vL:Value)(bs:List Nat)(W:List LC)(S:LS)(l:az)(h:ar)(v:Value)(h':ar):Prop:=∃n e,v= .tuple #[str n,ao e]∧xq l (JF W) n e∧
 ((e≠0∧RW h' g vL bs W S∧Ext h h')∨e=0∧∃b c vL',h.size≤b∧alI (kT l).1 0 c∧RW h' g vL' (bs++[b]) (W++[c]) (S.put W.length (0,0))∧(∀i,i<W.length→(at' W i).nm≠c.nm)∧Fr (fun k=>k=g∨vL.ownBlock=some k) h h'∧∀k,vL'.ownBlock=some k→vL.ownBlock=some k∨h.size≤k)
theorem Xj(H:RW h g vL bs W S)(I:ek W S rk)(l:az)(hl:l.length≤1048576)(tf:(W.map fun c=>c.fds.length).sum≤549755813888)(tn:W.length<1048576):
 aF Tryz.prog 16 #[aE g,str l] h (Vu g vL bs W S l h):=by
 refine Ip (args:=[aE g,str l]) rfl ?_;have G:=ac2 l;simp only[cZ,ae,seval];refine aj rfl (ait l h (by omega)) ?_;rw[aiR];rintro _ h1⟨x1,vp,vi,vf,vm,rfl,C1⟩;obtain⟨X,hX⟩:∃X,X=kT l:=⟨_,rfl⟩;rw[←hX]at G C1⊢;obtain⟨K,e0,at0⟩:=X;dsimp only at C1 G⊢;have F:=G.cf (by omega);have L:=G.cl (by omega);have rM:=fun h'(x:Ext h1 h')=>OB (h:=h') (sO.ext C1 x) F L;obtain⟨a1,c1,a2,c2,a3,c3,a4,c4,rfl,rfl,rfl,rfl⟩:=sO.sl C1;simp only[mP]at rM⊢;simp only[ae,seval];refine aD jJ ?_;simp only[ae,seval];refine aI jJ rfl rfl rfl (by simp[Value.cells,oneCell]) rfl ?_;intro h2 x2 _ _ b2;have X2:=x1.trans x2;have hq:h.size≤h1.size:=x1.size;generalize h1.size=q at*;by_cases he:e0=0
 case neg=>
  have dH:¬(e0:Int)=0:=by omega
  simp only[cZ,ae,seval,av7 dH];unfold Vu xq;rw[←hX];refine⟨[],e0,rfl,?_, .inl ⟨dH,H.ext X2,X2⟩⟩;rw[awa he];exact⟨rfl,rfl⟩
 have dH:(e0:Int)=0:=by omega
 have bm:=aS mR (aN (vs:=[ax K.minor,ax K.major,ax K.flags,ax K.this,ax K.super, .slice a1 K.pool.length c1, .slice a2 K.ifs.length c2, .slice a3 K.fields.length c3, .slice a4 K.methods.length c4]) b2) rfl;simp only[cZ,ae,seval,av8 dH,bm];refine aj rfl (rM h2 x2) ?_;rintro _ h3⟨x3,rfl⟩;have X3:=X2.trans x3;have C3:=(sO.ext C1 x2).ext x3;have b3:=ay x3 b2 awx;have tH:= @aiT K;unfold acL;obtain⟨z,KH⟩:∃z,z=lI K:=⟨_,rfl⟩;rw[←KH]at tH⊢;obtain⟨z1,z2,z3,z4⟩:=z;dsimp only at tH⊢;by_cases hz:z1=0
 case neg=>
  simp only[cZ,ae,seval,av7 hz];unfold Vu xq;rw[←hX,←KH];refine⟨[],z1,rfl,?_, .inl ⟨hz,H.ext X3,X3⟩⟩;rw[av9 (by simp[he]),awa hz];exact⟨rfl,rfl⟩
 obtain⟨k1,k2,k3⟩:=tH hz;subst hz;have q5:cellAt h3 ⟨q,5,none⟩=some (.slice a1 K.pool.length c1):=by rw[au b3];rfl
 have q3:cellAt h3 ⟨q,3,none⟩=some (ax K.this):=by rw[au b3];rfl
 have q4:cellAt h3 ⟨q,4,none⟩=some (ax K.super):=by rw[au b3];rfl
 have q2:cellAt h3 ⟨q,2,none⟩=some (ax K.flags):=by rw[au b3];rfl
 have tle:=Tt G.t;have sle:=ZY G.t;simp only[cZ,ae,seval,q5,q3,q4,q2];refine aj rfl (Lh G.fit.pool C3.p G.fit.this) ?_;rintro _ h3⟨rfl,rfl⟩;simp only[ae,seval,q5,q4,q2];refine aj rfl (Lh G.fit.pool C3.p G.fit.super) ?_;rintro _ h3⟨rfl,rfl⟩;rw[show(bZ K.pool K.this).1=jT K K.this from rfl,show(bZ K.pool K.super).1=jT K K.super from rfl];simp only[ae,seval,q5,q2];refine cT ?_;have N4:PE h3 (h3.push (.cells #[str (jT K K.this),str (jT K K.super),nS,ax K.flags, .slice a1 K.pool.length c1,nS,nS,nS, .bool true,ao 0,ao 0] 62)) h3.size ⟨jT K K.this,jT K K.super,[],K.flags,[],[]⟩ (.slice a1 K.pool.length c1) nS nS nS nS (.bool true) 0:=
  ⟨⟨by simp[acZ],Own.nil,Own.nil,Own.nil⟩,awp _,Own.nil,Own.nil,⟨_,Own.nil⟩,Own.nil,Ext.push _ _⟩
 have OH:=X3.size;simp only[cZ,ae,seval];generalize h3.push _=h4 at*;obtain⟨b,hb⟩:∃x,x=h3.size:=⟨_,rfl⟩;rw[←hb]at N4⊢;have P4:=H.ext (X3.trans N4.x);have c0:=N4.k.c0;have q6:cellAt h4 ⟨q,6,none⟩=some (.slice a2 K.ifs.length c2):=by rw[au (ay N4.x b3 awx)];rfl
 dsimp only at c0;simp only[ae,seval,c0];refine aj rfl (fT P4 I (jT K K.this)) ?_;rintro _ h4⟨rfl,rfl⟩;rcases Vq (bs:=bs) (W:=W) (n:=jT K K.this)with⟨e,mX⟩|⟨i,hi,vh,e⟩
 case inr=>
  rw[e];simp only[cZ,ae,seval,arG];unfold Vu xq;rw[←hX,←KH];refine⟨[],26,rfl,?_, .inl ⟨by decide,P4,X3.trans N4.x⟩⟩;rw[av9 (by simp[he]),av9 (by simp)];exact .inl ⟨⟨i,hi,vh⟩,rfl,rfl⟩
 rw[e];simp only[cZ,ae,seval,arF,q6];have F3:=fun{hc:ar}(x:Ext h3 hc)=>awv (ay x b3 awx) (C3.ext x);have arB:=G.i;have arC:=G.f;have arD:=G.m;have Oq:h3.size≤b:=Nat.le_of_eq hb.symm;refine aG [0,6,9,59,60,61] (fun m ρ hc=>∃(i:Nat)(c:LC)(ui:Value),m=K.ifs.length-i∧i≤K.ifs.length∧
  ρ=[(0,aE g),(6,aE q),(9,aE b),(59, .slice a2 K.ifs.length c2),(60,ao K.ifs.length),(61,ao i)]∧
  PE h3 hc b c (.slice a1 K.pool.length c1) ui nS nS nS (.bool true) 0∧c.nm=jT K K.this∧c.sup=jT K K.super∧c.fl=K.flags∧c.fds=[]∧c.iw=[]∧c.ifs.length=i∧∀f∈c.ifs,eJ f=true∧f.length≤l.length) ?_ ?_
 case refine_1=>
  simp only[ae,seval];exact⟨_,0,_,_,rfl,awb _,rfl,N4,rfl,rfl,rfl,rfl,rfl,rfl,fun f hf=>by cases hf⟩
 rintro m ρ hc⟨i,c,ui,rfl,hi,rfl,N,n1,n2,n3,n4,n5,n6,n7⟩;obtain⟨bq,Cc⟩:=F3 N.x;by_cases aV:i<K.ifs.length
 case pos=>
  have aK:(i:Int)<(K.ifs.length:Int):=by omega
  obtain⟨b',o,c',heq,di,_⟩:=Cc.i.at aV;cases heq;rw[Gn aV]at di;have hk3:=k3 _ (dF (d:=0) aV);have pD:=G.fit.ifs _ (dF (d:=0) aV);generalize K.ifs.getD i 0=k at*;have r0:cellAt hc ⟨b',o+i,none⟩=some (ax k):=by
   have:=di 0 (ax k) rfl;simpa using this
  have q5:cellAt hc ⟨q,5,none⟩=some (.slice a1 K.pool.length c1):=by rw[au bq];rfl
  have c2:=N.k.c2;simp(disch:=omega)only[cZ,ae,seval,aK,r0,q5,c2];refine aj rfl (Lh G.fit.pool Cc.p pD) ?_;rintro _ hc⟨rfl,rfl⟩;simp only[ae,seval,c2];refine aU dE rfl rfl (by decide) ?_;have N6:=N.ext (Ext.push hc (.cells #[str (bZ K.pool k).1] 9));have c2:=N6.k.c2;simp only[ae,seval,c2];have gB:=N6.x.size;refine bF (m:=1) dE rfl rfl N6.i rfl (bV (vs:=[str (bZ K.pool k).1])) (by simp[oneCell,str]) (by omega) (by omega) gB ?_;intro v7 h7 O7 f7 _;obtain⟨c7,z7,N8⟩:=N6.aiU O7 f7;obtain⟨_,ma,mc,rfl,_⟩:=id O7.dQ;simp only[ae,seval];refine aC zE rfl rfl rfl rfl rfl c7 z7 ?_;generalize setAt h7 ⟨b,2,none⟩ _=h8 at*;have w1:=gU (k:=i) (by omega);simp only[cZ,ae,seval,w1];refine⟨_,by omega,i+1,_,_,rfl,by omega,rfl,N8,n1,n2,n3,n4,n5,by simp[n6],fun f hf=>?_⟩;rcases awi.1 hf with h|h
  ·exact n7 f h
  ·rw[awf.1 h];exact⟨hk3.1,tle k⟩
 have aK:¬(i:Int)<(K.ifs.length:Int):=by omega
 have q7:cellAt hc ⟨q,7,none⟩=some (.slice a3 K.fields.length c3):=by rw[au bq];rfl
 simp only[cZ,ae,seval,aK,q7];refine aG [0,6,9,80,81,82] (fun m ρ hc=>∃(j:Nat)(c:LC)(uf uv:Value),m=K.fields.length-j∧j≤K.fields.length∧
  ρ=[(0,aE g),(6,aE q),(9,aE b),(80, .slice a3 K.fields.length c3),(81,ao K.fields.length),(82,ao j)]∧
  PE h3 hc b c (.slice a1 K.pool.length c1) ui uf uv nS (.bool true) j∧c.nm=jT K K.this∧c.sup=jT K K.super∧c.fl=K.flags∧c.fds.length=j∧c.iw=[]∧c.ifs.length=i∧(∀f∈c.ifs,eJ f=true∧f.length≤l.length)∧∀r∈c.fds,rv (jT K K.this) 0 r) ?_ ?_
 case refine_1=>
  simp only[ae,seval];exact⟨_,0,_,_,_,rfl,awb _,rfl,N,n1,n2,n3,by simp[n4],n5,n6,n7,fun r hr=>by rw[n4]at hr;cases hr⟩
 rintro m ρ hc⟨j,c,uf,uv,rfl,hj,rfl,N,n1,n2,n3,n4,n5,n6,n7,n8⟩;obtain⟨bq,Cc⟩:=F3 N.x;by_cases aV:j<K.fields.length
 case pos=>
  have aK:(j:Int)<(K.fields.length:Int):=by omega
  obtain⟨b',o,c',heq,di,_⟩:=Cc.f.at aV;cases heq;rw[zT aV]at di;have vB:=G.fit.fields _ (dF (d:=fC.zero) aV);generalize K.fields.getD j fC.zero=f at*;have bm:=aS lN di rfl;simp only[fC.cells]at bm;simp(disch:=omega)only[cZ,ae,seval,aK,bm];refine aD eG ?_;simp only[ae,seval];refine aI eG rfl rfl rfl (by simp[Value.cells,oneCell]) rfl ?_;intro h5 x5 _ _ b5;have N5:=N.ext x5;have C5:=Cc.ext x5;have bq5:=ay x5 bq awx;generalize hc.size=p at*;have p0:cellAt h5 ⟨p,0,none⟩=some (ax f.flags):=by rw[au b5];rfl
  have p1:cellAt h5 ⟨p,1,none⟩=some (ax f.name):=by rw[au b5];rfl
  have p2:cellAt h5 ⟨p,2,none⟩=some (ax f.type):=by rw[au b5];rfl
  have q5:cellAt h5 ⟨q,5,none⟩=some (.slice a1 K.pool.length c1):=by rw[au bq5];rfl
  have c5:=N5.k.c5;have c0:=N5.k.c0;rw[n1]at c0;simp only[cZ,ae,seval,p0,p1,p2,q5,c5,c0];refine aj rfl (Bl C5.p vB.name) ?_;rintro _ h5⟨rfl,rfl⟩;simp only[ae,seval,p0,p2,q5,c5,c0];refine aj rfl (Bl C5.p vB.type) ?_;rintro _ h5⟨rfl,rfl⟩;simp only[ae,seval,p0,c5,c0];refine aU rE rfl rfl (by decide) ?_;have N6:=N5.ext (Ext.push h5 (.cells #[str (jT K K.this),str (bM K.pool f.name),str (bM K.pool f.type),ax f.flags] 72));have b6:=ay (Ext.push h5 (.cells #[str (jT K K.this),str (bM K.pool f.name),str (bM K.pool f.type),ax f.flags] 72)) b5 awx;have c5:=N6.k.c5;have c0:=N6.k.c0;rw[n1]at c0;simp only[ae,seval,c5];have gB:=N6.x.size;refine bF (m:=1) rE rfl rfl N6.f rfl (bV (vs:=[str (jT K K.this),str (bM K.pool f.name),str (bM K.pool f.type),ax f.flags])) (by simp[oneCell,str]) (by omega) (by omega) gB ?_;intro v7 h7 O7 f7 _;obtain⟨c7,z7,N8⟩:=N6.aiV O7 f7;have b7:=ay f7 b6 (bK N6.f b6 (by decide));obtain⟨_,ma,mc,rfl,_⟩:=id O7.dQ;simp only[ae,seval];refine aC ad7 rfl rfl rfl rfl rfl c7 z7 ?_;have OP:p≠b:=fun e=>by have:=N5.k.b;rw[←e,b5]at this;simp at this
  have b8:=ay (Fr.set (S:=fun k=>k=b) h7 ⟨b,5,none⟩ (.slice ma (c.fds.length+1) mc) fun _=>rfl) b7 OP;generalize setAt h7 ⟨b,5,none⟩ _=h8 at*;obtain⟨vs,Ov⟩:=N8.v;obtain⟨_,oa,oc,rfl,_⟩:=id Ov.dQ;have c6:=N8.k.c6;have p3:cellAt h8 ⟨p,3,none⟩=some (ax f.value):=by rw[au b8];rfl
  simp only[cZ,ae,seval,c6,p3];refine aU fL rfl rfl (by decide) ?_;have E9:=Ext.push h8 (.cells #[ax f.value] 40);have N9:=N8.ext E9;have Ov:=Ov.ext E9;have c6:=N9.k.c6;simp only[ae,seval,c6];refine bF (m:=1) fL rfl rfl Ov rfl (bV (vs:=[ax f.value])) (by simp[oneCell]) (by omega) (by omega) N9.x.size ?_;intro v10 d9 O10 f10 _;obtain⟨c10,z10,N11⟩:=N9.arE Ov O10 f10;obtain⟨_,pa,pc,rfl,_⟩:=id O10.dQ;simp only[ae,seval];refine aC N2 rfl rfl rfl rfl rfl c10 z10 ?_;generalize setAt d9 ⟨b,6,none⟩ _=AY at*;have w1:=gU (k:=j) (by omega);simp only[cZ,ae,seval,w1];refine⟨_,by omega,j+1,_,_,_,rfl,by omega,rfl,N11,n1,n2,n3,by simp[n4],n5,n6,n7,fun r hr=>?_⟩;rcases awi.1 hr with h|h
  ·exact n8 r h
  ·rw[awf.1 h];exact⟨_,_,_,[],rfl,rfl,by simp⟩
 have aK:¬(j:Int)<(K.fields.length:Int):=by omega
 have q8:cellAt hc ⟨q,8,none⟩=some (.slice a4 K.methods.length c4):=by rw[au bq];rfl
 simp only[cZ,ae,seval,aK,q8];refine aG [0,6,9,125,126,127] (fun m ρ hc=>∃(k:Nat)(c:LC)(um:Value),m=K.methods.length-k∧k≤K.methods.length∧
  ρ=[(0,aE g),(6,aE q),(9,aE b),(125, .slice a4 K.methods.length c4),(126,ao K.methods.length),(127,ao k)]∧
  PE h3 hc b c (.slice a1 K.pool.length c1) ui uf uv um (.bool true) j∧c.nm=jT K K.this∧c.sup=jT K K.super∧c.fl=K.flags∧c.fds.length=j∧c.iw.length=k∧c.ifs.length=i∧(∀f∈c.ifs,eJ f=true∧f.length≤l.length)∧(∀r∈c.fds,rv (jT K K.this) 0 r)∧∀r∈c.iw,rv (jT K K.this) 6 r) ?_ ?_
 case refine_1=>
  simp only[ae,seval];exact⟨_,0,_,_,rfl,awb _,rfl,N,n1,n2,n3,n4,by simp[n5],n6,n7,n8,fun r hr=>by rw[n5]at hr;cases hr⟩
 rintro m ρ hc⟨k,c,um,rfl,hk,rfl,N,n1,n2,n3,n4,n5,n6,n7,n8,n9⟩;obtain⟨bq,Cc⟩:=F3 N.x;by_cases aV:k<K.methods.length
 case pos=>
  have aK:(k:Int)<(K.methods.length:Int):=by omega
  obtain⟨b',o,c',vH,heq,di,WU,_⟩:=Cc.m.at aV;cases heq;have vB:=G.fit.methods _ (dF (d:=fj.zero) aV);generalize K.methods.getD k fj.zero=f at*;obtain⟨_,ah,ch,rfl,_⟩:=id WU;have bm:=aS lO di rfl;simp only[fQ,fX,awC,awD]at bm;simp(disch:=omega)only[cZ,ae,seval,aK,bm];refine aD eH ?_;simp only[ae,seval];refine aI eH rfl rfl rfl (by simp[Value.cells,oneCell,str]) rfl ?_;intro h5 x5 _ _ b5;have N5:=N.ext x5;have C5:=Cc.ext x5;have bq5:=ay x5 bq awx;generalize hc.size=p at*;have p0:cellAt h5 ⟨p,0,none⟩=some (ax f.flags):=by rw[au b5];rfl
  have p1:cellAt h5 ⟨p,1,none⟩=some (ax f.name):=by rw[au b5];rfl
  have p2:cellAt h5 ⟨p,2,none⟩=some (ax f.type):=by rw[au b5];rfl
  have p3:cellAt h5 ⟨p,3,none⟩=some (.bool f.has):=by rw[au b5];rfl
  have p4:ld Tryz.prog 88 ⟨p,4,none⟩ h5=some (.agg #[ao f.code.maxS,ao f.code.fF,str f.code.bytes, .slice ah f.code.hs.length ch,str f.code.map]):=aS pW ((aN (vs:=[ax f.flags,ax f.name,ax f.type, .bool f.has,ao f.code.maxS,ao f.code.fF,str f.code.bytes, .slice ah f.code.hs.length ch,str f.code.map]) b5).sub 4 5) rfl;have q5:cellAt h5 ⟨q,5,none⟩=some (.slice a1 K.pool.length c1):=by rw[au bq5];rfl
  have c7m:=N5.k.c7;have c0:=N5.k.c0;rw[n1]at c0;simp only[cZ,ae,seval,p0,p1,p2,p3,p4,q5,c7m,c0];refine aj rfl (Bl C5.p vB.name) ?_;rintro _ h5⟨rfl,rfl⟩;simp only[ae,seval,p0,p2,p3,p4,q5,c7m,c0];refine aj rfl (Bl C5.p vB.type) ?_;rintro _ h5⟨rfl,rfl⟩;simp only[ae,seval,p0,p3,p4,c7m,c0];refine aU AH rfl rfl (by decide) ?_;have N6:=N5.ext (Ext.push h5 (.cells #[str (jT K K.this),str (bM K.pool f.name),str (bM K.pool f.type),ax f.flags, .bool f.has,ao f.code.maxS,ao f.code.fF,str f.code.bytes, .slice ah f.code.hs.length ch,str f.code.map] 92));have c7m:=N6.k.c7;have c0:=N6.k.c0;rw[n1]at c0;simp only[ae,seval,c7m];have gB:=N6.x.size;refine bF (m:=1) AH rfl rfl N6.m rfl (bV (vs:=[str (jT K K.this),str (bM K.pool f.name),str (bM K.pool f.type),ax f.flags, .bool f.has,ao f.code.maxS,ao f.code.fF,str f.code.bytes, .slice ah f.code.hs.length ch,str f.code.map])) (by simp[oneCell,str]) (by omega) (by omega) gB ?_;intro v7 h7 O7 f7 _;obtain⟨c7,z7,N8⟩:=N6.GN O7 f7;obtain⟨_,ma,mc,rfl,_⟩:=id O7.dQ;simp only[ae,seval];refine aC UF rfl rfl rfl rfl rfl c7 z7 ?_;generalize setAt h7 ⟨b,7,none⟩ _=h8 at*;have w1:=gU (k:=k) (by omega);simp only[cZ,ae,seval,w1];refine⟨_,by omega,k+1,_,_,rfl,by omega,rfl,N8,n1,n2,n3,n4,by simp[n5],n6,n7,n8,fun r hr=>?_⟩;rcases awi.1 hr with h|h
  ·exact n9 r h
  ·rw[awf.1 h];exact⟨_,_,_,[.bool f.has,ao f.code.maxS,ao f.code.fF,str f.code.bytes, .slice ah f.code.hs.length ch,str f.code.map],rfl,rfl,by simp[oneCell,str]⟩
 have aK:¬(k:Int)<(K.methods.length:Int):=by omega
 have Pc:=H.ext (X3.trans N.x);have l0:=Pc.l0;have ln:=H.ln;have XN:=X3.trans N.x;obtain⟨_,ga,gc,rfl,_⟩:=id Pc.l.dQ;simp only[cZ,ae,seval,aK,l0];refine aU uY rfl rfl (by decide) ?_;have E9:=Ext.push hc (.cells #[fh b] 56);have P9:=Pc.ext E9;have N9:=N.ext E9;have l0:=P9.l0;simp only[ae,seval];refine j5 (m:=1) uY rfl rfl P9.l rfl (bV (vs:=[fh b])) (by simp[oneCell,fh]) (by omega) (by omega) (awb _) ?_;intro v7 h7 O7 f7 _ acT;have nb:∀x∈bs,x<h3.size:=fun x hx=>by obtain⟨_,_,hx⟩:=(H.ext X3).cells hx;exact(awd.1 hx).1
 have hnew:∀i,i<W.length→(at' W i).nm≠c.nm:=fun i hi e=>mX ⟨i,hi,by rw[e,n1]⟩;have l1:=tle K.this;have l2:=tle K.super;have ok:PS 0 c:=⟨by rw[n3];exact G.fit.flags,by rw[n1];exact n8,by rw[n1];exact n9,by rw[n1,n2];exact⟨by omega,by omega,fun f hf=>by have:=(n7 f hf).2;omega,by omega,by omega,by omega⟩⟩;obtain⟨c7,z7,R8,f8⟩:=P9.snoc N9.k (fun hx=>by have:=nb b hx;omega) ok (by rw[List.map_append,List.sum_append];simp;omega) (by omega) O7 f7;have d0:cellAt (setAt h7 ⟨g,0,none⟩ v7) ⟨b,0,none⟩=some (str c.nm):=by
  rw[au (ay f8 N9.k.b fun hT=>?_)]
  ·rfl
  ·rcases hT with rfl|hT
   ·have:=N9.k.b;rw[P9.w]at this;simp at this
   ·exact bK P9.l N9.k.b (by decide) hT
 obtain⟨_,ma,mc,rfl,_⟩:=id O7.dQ;simp only[ae,seval];refine aC NZ rfl rfl rfl rfl rfl c7 z7 ?_;generalize setAt h7 ⟨g,0,none⟩ _=h8 at*;simp only[cZ,ae,seval,d0];unfold Vu xq;rw[←hX,←KH];refine⟨_,0,rfl,by rw[av9 (by simp[he]),av9 (by simp)];exact .inr ⟨mX,n1,rfl⟩, .inr ⟨rfl,b,c,_,by omega,⟨n1,ok,by rw[n1];exact k1.1,by rw[n2];exact k2.1,fun f hf=>(n7 f hf).1,by omega⟩,R8,hnew,Fr.trans (XN.trans E9) f8 (fun _ _ h=>h.elim) (fun _ _ h=>h),fun k hk=>?_⟩⟩;rcases acT k hk with z|z
 ·exact .inl z
 ·exact .inr (awG (XN.trans E9).size z)
end
end
section
section
variable{h0 h h1 h2:ar}{d:JD}{n:Nat}{S':LS}{r':Nat→Nat}
theorem JW.mono{m:Nat}(J:JW h0 h d n)(hm:n≤m):JW h0 h d m:=⟨J.w,J.p,J.ip,J.r,J.ir,J.nm,J.x,J.np,J.nr,by have:=J.ct;omega⟩
def Kp(h h':ar):Prop:=∀(k:Nat)(cs:Array Value)(fz:Nat × Nat)(e:TypeId),h[k]? =some (.cells cs e fz)→(e=26∨e=33∨e=72)→h'[k]? =some (.cells cs e fz)
theorem Kp.ext(x:Ext h h1):Kp h h1:=fun k cs fz e hb _=>ay x hb awx
theorem Kp.far{T:Nat→Prop}(f:Fr T h h1)(F:∀{e},e=26∨e=33∨e=72→pS h T e):Kp h h1:=fun k cs fz e hb he=>(F he).blk f hb
theorem JW.pkp(J:JW h0 h d n)(P:gR d.gp d.mp d.bp d.Wp d.Sp h h1 S' r'):Kp h h1:=Kp.far P.2.2.2 fun he=>Bh (by rcases he with rfl|rfl|rfl<;>decide) fun k hk=>J.p.cells hk
theorem JW.rkp(J:JW h0 h d n)(P:fY d.gr d.vL d.br d.Wr d.Sr h h1 S' r'):Kp h h1:=Kp.far P.2.2.2.1 fun he=>Bh (by rcases he with rfl|rfl|rfl<;>decide) fun k hk=>J.r.cells hk
def KO(h h':ar):Prop:=∀(k:Nat)(cs:Array Value)(fz:Nat × Nat),h[k]? =some (Obj.cells cs 26 fz)→h'[k]? =some (Obj.cells cs 26 fz)
theorem KO.trans(a:KO h h1)(b:KO h1 h2):KO h h2:=fun k cs fz hb=>b k cs fz (a k cs fz hb)
theorem KO.ext(x:Ext h h1):KO h h1:=fun k cs fz hb=>ay x hb awx
theorem Kp.ko(a:Kp h h1):KO h h1:=fun k cs fz hb=>a k cs fz _ hb (.inl rfl)
theorem JW.arI{l:az}{v1:Value}(J:JW h0 h d n)(A:Vs d.gp d.mp d.bp d.Wp d.Sp l h v1 h1):
 ∃nm e,v1= .tuple #[str nm,ao e]∧RW h1 d.gr d.vL d.br d.Wr d.Sr∧Kp h h1∧∀v2 h2,Vu d.gr d.vL d.br d.Wr d.Sr l h1 v2 h2→v2= .tuple #[str nm,ao e]∧KO h1 h2∧∃d',d'.gw=d.gw∧JW h0 h2 d' (n+1):=by
 obtain⟨nm,e,rfl,R1,f1,A⟩:=A;have uE:∀{k},k=d.mp→∀cs e fz,h[k]?≠some (.cells cs e fz):=fun hk cs e fz hc=>by
  obtain⟨es,c,hm,_⟩:=J.p.mp;rw[hk,hm]at hc;cases hc
 have F1:∀e,pS h (fun k=>k=d.mp) e:=fun e k hk cs fz=>uE hk cs e fz;have Rw:=J.r.far f1 ⟨F1 _,F1 _,F1 _,F1 _,F1 _,F1 _⟩;have w1:=(F1 _).blk f1 J.w;have x1:=Nn J.x f1 fun k hk=>by rw[hk];exact J.np.1
 refine⟨nm,e,rfl,Rw,Kp.far f1 fun _=>F1 _,fun v2 h2 B=>?_⟩;obtain⟨nm',e',rfl,R2,B⟩:=B;obtain⟨rfl,rfl⟩:=R1.det J.nm R2;refine⟨rfl,?_⟩;rcases A with⟨he,P1⟩|⟨he,b,c,hb,C1,P1,n1⟩<;>rcases B with⟨dH,Q2,x2⟩|⟨dH,b',c',vL',ju,C2,Q2,n2,f2,o2⟩
 ·exact⟨KO.ext x2,d,rfl,ay x2 w1 awx,P1.ext x2,J.ip,Q2,J.ir,J.nm,x1.trans x2,J.np,J.nr,by have:=J.ct;omega⟩
 ·exact aww dH he
 ·exact aww he dH
 have F2:∀{e},55≠e→56≠e→pS h1 (fun k=>k=d.gr∨d.vL.ownBlock=some k) e:=fun h1 h2 k hk cs fz hc=>by
  rcases hk with rfl|hk
  ·rw[Rw.w]at hc;simp only[awe,awE]at hc;exact h1 hc.2.1
  ·obtain⟨Qn,Yu,h3⟩:=uh Rw.l hk
   rw[h3]at hc;simp only[awe,awE]at hc;exact h2 hc.2.1
 have qQ:¬(d.mp=d.gr∨d.vL.ownBlock=some d.mp):=fun hk=>by
  obtain⟨es,cl,hm,_⟩:=P1.mp;rcases hk with hk|hk
  ·have:=Rw.w;rw[←hk,hm]at this;cases this
  ·obtain⟨Qn,Yu,h3⟩:=uh Rw.l hk
   rw[hm]at h3;cases h3
 have Ws:=J.x.size;have xW:=f1.size;have ct:=J.ct;refine⟨fun k cs fz hb=>(F2 (by decide) (by decide)).blk f2 hb,⟨d.gw,d.gp,d.mp,d.bp++[b],d.Wp++[c],d.Sp.put d.Wp.length (0,0),d.rp,d.gr,vL',d.br++[b'],d.Wr++[c'],d.Sr.put d.Wr.length (0,0),d.rr⟩,rfl,
  (F2 (by decide) (by decide)).blk f2 w1,P1.far f2 qQ ⟨F2 (by decide) (by decide),F2 (by decide) (by decide),F2 (by decide) (by decide),F2 (by decide) (by decide),F2 (by decide) (by decide)⟩,J.ip.snoc C1.p1 n1 (.inr C1.p2) C1.p3,Q2,J.ir.snoc C2.p1 n2 (.inr C2.p2) C2.p3,fun x=>?_,?_,⟨J.np.1,fun x hx=>?_⟩,⟨J.nr.1,fun x hx=>?_,fun k hk=>?_⟩,?_⟩
 ·dsimp only
  rw[To,To,J.nm,C1.nm,C2.nm]
 ·refine Nn x1 f2 fun k hk=>?_
  rcases hk with rfl|hk
  ·exact J.nr.1
  ·exact J.nr.2.2 k hk
 ·rcases awi.1 hx with hx|hx
  ·exact J.np.2 x hx
  ·rw[awf.1 hx];omega
 ·rcases awi.1 hx with hx|hx
  ·exact J.nr.2.1 x hx
  ·rw[awf.1 hx];omega
 ·rcases o2 k hk with z|z
  ·exact J.nr.2.2 k z
  ·omega
 ·have a1:=C1.fd
  have a2:=C2.fd;simp only[awn,awt,List.map_append,List.sum_append,awH,awI,List.sum_cons,List.sum_nil];omega
end
end
section
structure rV where
 k:Int
 Li:az
 fr:az
 cl:az
 nm:az
 ty:az
 th:az
 fc:Bool
def rV.cells(o:rV):List Value:=[ao o.k,str o.Li,str o.fr,str o.cl,str o.nm,str o.ty,str o.th, .bool o.fc]
structure rV.Fit(o:rV):Prop where
 a:o.Li.length≤1048576
 b:o.fr.length≤1048576
 c:o.cl.length≤1048576
 d:o.nm.length≤1048576
 e:o.ty.length≤1048576
 f:o.th.length≤1048576
structure SJ(h0 hb h:ar)(gw gp gr q:Nat)(o:rV)(d:JD)(n:Nat):Prop where
 j:JW h0 h d n
 q:h[q]? =some (.cells o.cells.toArray 26)
 w:h[gw]? =some (.cells #[fh gp,fh gr] 33)
 e:gw=d.gw∧gp=d.gp∧gr=d.gr
 b:∃S,RW hb d.gr d.vL d.br d.Wr S
 k:KF d.br hb h
 z:h0.size≤hb.size∧hb.size≤h.size
 o:KO hb h
section
variable{h0 hb h h1:ar}{gw gp gr q:Nat}{o:rV}{d:JD}{n:Nat}{S':LS}{r':Nat→Nat}
theorem SJ.all(H:SJ h0 hb h gw gp gr q o d n):cellAt h ⟨gw,0,none⟩=some (aE gp)∧cellAt h ⟨gw,1,none⟩=some (aE gr)∧cellAt h ⟨q,1,none⟩=some (str o.Li)∧cellAt h ⟨q,2,none⟩=some (str o.fr)∧cellAt h ⟨q,3,none⟩=some (str o.cl)∧
 cellAt h ⟨q,4,none⟩=some (str o.nm)∧cellAt h ⟨q,5,none⟩=some (str o.ty)∧cellAt h ⟨q,6,none⟩=some (str o.th)∧cellAt h ⟨q,7,none⟩=some (.bool o.fc):=by
 refine⟨?_,?_,?_,?_,?_,?_,?_,?_,?_⟩<;>first|(rw[au H.w];rfl)|(rw[au H.q];rfl)
theorem SJ.p(H:SJ h0 hb h gw gp gr q o d n):PW h gp d.mp d.bp d.Wp d.Sp:=by have:=H.j.p;rwa[←H.e.2.1]at this
theorem SJ.r(H:SJ h0 hb h gw gp gr q o d n):RW h gr d.vL d.br d.Wr d.Sr:=by have:=H.j.r;rwa[←H.e.2.2]at this
theorem SJ.ext(H:SJ h0 hb h gw gp gr q o d n)(x:Ext h h1):SJ h0 hb h1 gw gp gr q o d n:=⟨H.j.ext x,ay x H.q awx,ay x H.w awx,H.e,H.b,H.k.trans (H.j.r.kf x fun _ _ h=>h),⟨H.z.1,awG H.z.2 x.size⟩,H.o.trans (KO.ext x)⟩
def StQ(h0 h:ar)(gw n:Nat)(k:Int)(v:Value)(h':ar):Prop:=∃b,v= .bool b∧(k=1→b=true)∧KO h h'∧∃d,d.gw=gw∧JW h0 h' d (n+1)
theorem SJ.fin(H:SJ h0 hb h gw gp gr q o d n)(x:Ext h1 hb)(hk:o.k≠1)(b:Bool):StQ h0 h1 gw n o.k (.bool b) h:=⟨b,rfl,fun x=>aww x hk,(KO.ext x).trans H.o,d,H.e.1.symm,H.j.mono (by omega)⟩
theorem SJ.Tp(H:SJ h0 hb h gw gp gr q o d n){S':LS}{r':Nat→Nat}(P:gR gp d.mp d.bp d.Wp d.Sp h h1 S' r'):SJ h0 hb h1 gw gp gr q o {d with Sp:=S',rp:=r'} n∧Kp h h1:=by
 rw[H.e.2.1]at P;have K:=H.j.pkp P;refine⟨⟨H.j.Tp P,K _ _ _ _ H.q (.inl rfl),K _ _ _ _ H.w (.inr (.inl rfl)),H.e,H.b,H.k.trans (H.j.r.kf P.2.2.2 fun b hb hk=>?_),⟨H.z.1,awG H.z.2 P.2.2.2.size⟩,H.o.trans K.ko⟩,K⟩;obtain⟨_,_,h1⟩:=H.j.r.cells hb;obtain⟨_,_,h2⟩:=H.j.p.cells hk;rw[h1]at h2;simp at h2
theorem SJ.Tq(H:SJ h0 hb h gw gp gr q o d n){S':LS}{r':Nat→Nat}(P:fY gr d.vL d.br d.Wr d.Sr h h1 S' r'):SJ h0 hb h1 gw gp gr q o {d with Sr:=S',rr:=r'} n∧Kp h h1:=by
 rw[H.e.2.2]at P;have K:=H.j.rkp P;exact⟨⟨H.j.Tq P,K _ _ _ _ H.q (.inl rfl),K _ _ _ _ H.w (.inr (.inl rfl)),H.e,H.b,H.k.trans P.2.2.2.2,⟨H.z.1,awG H.z.2 P.2.2.2.1.size⟩,H.o.trans K.ko⟩,K⟩
theorem SJ.pend(H:SJ h0 hb h gw gp gr q o d n){V:LS→Value→Prop}{v:Value}(P:yk gp d.mp d.bp d.Wp d.Sp h V v h1):∃d' S',SJ h0 hb h1 gw gp gr q o d' n∧Kp h h1∧V S' v:=by
 obtain⟨S',r',P,hv⟩:=P;exact⟨_,S',(H.Tp P).1,(H.Tp P).2,hv⟩
theorem SJ.rend(H:SJ h0 hb h gw gp gr q o d n){V:LS→Value→Prop}{v:Value}(P:vP gr d.vL d.br d.Wr d.Sr h V v h1):∃d' S',SJ h0 hb h1 gw gp gr q o d' n∧Kp h h1∧V S' v:=by
 obtain⟨S',r',P,hv⟩:=P;exact⟨_,S',(H.Tq P).1,(H.Tq P).2,hv⟩
theorem SJ.mut(H:SJ h0 hb h gw gp gr q o d n){p:Nat}{cs:Array Value}{fz:Nat × Nat}(b:h[p]? =some (.cells cs 72 fz))(hp:hb.size≤p)(fr:Fr (fun k=>k=p) h h1):SJ h0 hb h1 gw gp gr q o d n:=by
 have F:∀{e},72≠e→pS h (fun k=>k=p) e:=fun cN=>Bh cN fun k hk=>by cases hk;exact⟨_,_,b⟩
 obtain⟨S0,R0⟩:=H.b;have Uo:∀k∈d.br,¬k=p:=fun k hk e=>by have:=R0.nZ k hk;omega
 have hm:¬d.mp=p:=fun e=>by obtain⟨es,c,hm,_⟩:=H.j.p.mp;rw[e,b]at hm;cases hm
 have R:=H.j.r;refine⟨⟨(F (by decide)).blk fr H.j.w,H.j.p.far fr hm ⟨F (by decide),F (by decide),F (by decide),F (by decide),F (by decide)⟩,H.j.ip,⟨(F (by decide)).blk fr R.w,kC R.l fr (F (by decide)),R.ln,R.nd,fun i hi=>?_,R.fl,R.fr,R.mr,R.tf,R.tn,R.sz⟩,H.j.ir,H.j.nm,Nn H.j.x fr fun k hk=>by have:=H.z;omega,H.j.np,H.j.nr,H.j.ct⟩,
  (F (by decide)).blk fr H.q,(F (by decide)).blk fr H.w,H.e,⟨S0,R0⟩,H.k.trans (R.kf fr Uo),⟨H.z.1,awG H.z.2 fr.size⟩,fun k cs fz hb=>(F (by decide)).blk fr (H.o k cs fz hb)⟩
 have qY:d.br.getD i 0∈d.br:=by
  have:i<d.br.length:=by rw[R.ln];exact hi
  simp[this]
 obtain⟨vi,vp,vf,vv,vm,vo,K⟩:=R.cl i hi;obtain⟨_,_,wf,_,_,_,K0⟩:=R0.cl i hi;have ef:vf=wf:=by have:=H.k _ qY;rw[K.c5,K0.c5]at this;injection this
 refine⟨vi,vp,vf,vv,vm,vo,ay fr K.b (Uo _ qY),kC K.i fr (F (by decide)),K.f.fr fr fun k hk e=>?_,kC K.m fr (F (by decide))⟩;have:=(K0.f.lt k (by rw[←ef];exact hk)).2;omega
end
end
end Go.Proofs.YtmbboehmnfhjjaaGreatDoor
