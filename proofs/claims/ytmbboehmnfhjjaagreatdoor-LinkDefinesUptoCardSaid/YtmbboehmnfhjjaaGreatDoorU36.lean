/- Select and Call, by the reference: they end. Layout, by the reference: it ends; the list is new. strings.Fields of a text of ASCII. A built-in class's method, by the program. The program's built-in classes as a list. link.New: the built-in classes in memory. Worlds of classes that are not looked at yet. -/
import Derived.Test.YtmbboehmnfhjjaaGreatDoorU35
import Derived.Test.YtmbboehmnfhjjaaGreatDoorU8
import Derived.Lib.FieldsLaws
set_option maxRecDepth 100000
set_option maxHeartbeats 16000000
set_option linter.unusedSimpArgs false
set_option linter.unusedVariables false
set_option linter.defProp false
namespace Go.Proofs.YtmbboehmnfhjjaaGreatDoor
open Go.Vc
section
section
variable{h h':ar}{g:Nat}{vL:Value}{bs:List Nat}{W:List LC}{S:LS}{rk:Nat→Nat}
theorem akX{h:ar}{x y:Operand}(c n t:az)(f:Nat)(c' n' t':az)(f':Nat):∃b,ej Tryz.prog .neq 72 x y (.agg #[str c,str n,str t,ax f]) (.agg #[str c',str n',str t',ax f']) h=some (.bool b):=
 ⟨_,My (W7 c n t f) (W8 c n t f c' n' t' f')⟩
theorem Xc(H:RW h g vL bs W S)(I:ek W S rk)(s c n t:az)(f:Nat)(o:pn W S s)(lQ:c.length≤1048576)(oO:∃i,i<W.length∧(at' W i).nm=c):
 aF Tryz.prog 62 #[aE g,str s, .agg #[str c,str n,str t,ax f]] h fun v h'=>Ext h h'∧MbT v:=by
 refine Is (args:=[aE g,str s, .agg #[str c,str n,str t,ax f]]) rfl ?_;simp only[dm,ae,seval];refine cT ?_;have x1:=Ext.push h (.cells #[str c,str n,str t,ax f] 72);have p1:(h.push (.cells #[str c,str n,str t,ax f] 72))[h.size]? =some (.cells #[str c,str n,str t,ax f] 72):=by simp
 simp only[ae,seval];obtain⟨p,hp⟩:∃p,p=h.size:=⟨_,rfl⟩;rw[←hp]at p1⊢;generalize h.push _=h1 at*;refine aD aL ?_;have x2:=Ext.push h1 (.cells #[str [],str [],str [],ax 0] 72);have q2:=mW h1;have p2:=ay x2 p1 awx;have X:=x1.trans x2;obtain⟨q,hq⟩:∃q,q=h1.size:=⟨_,rfl⟩;rw[←hq]at q2⊢;simp only[dm,ae,seval];generalize h1.push _=h2 at*;have Ti:h.size≤q:=by have:=x1.size;omega
 have l1:=eO p2;have e3:cellAt h2 ⟨p,3,none⟩=some (ax f):=by rw[au p2];rfl
 have cN:=lL o.1;have pa:(0:Int)<(s.length:Int):=by have:=awr.2 cN;omega
 by_cases f2:cB .and .u16 (f:Int) 2=0
 case neg=>
  simp only[dm,ae,seval,e3,av7 f2,l1];refine aO aL rfl rfl rfl (cS (l:=[]) (by simp)) q2 rfl ?_;intro h7 f7 b7;have bm:=eO b7;simp only[ae,seval,bm];exact⟨ev X f7 Ti,c,n,t,f,0,rfl⟩
 obtain⟨ob,ra⟩:∃b:Bool,(¬cB .and .u16 (f:Int) 5=0)=(b=true):=by
  by_cases x:cB .and .u16 (f:Int) 5=0
  ·exact⟨false,by simp[x]⟩
  ·exact⟨true,by simp[x]⟩
 obtain⟨i,hi,hu,kQ⟩:=nmO I o;rcases kQ with⟨fa,hn⟩|⟨fa,hn⟩
 case' inl=>
  simp(disch:=omega)only[dm,ae,seval,e3,av8 f2,fa,ra,Bool.decide_eq_true];rw[←hn]
 case' inr=>
  simp(disch:=omega)only[dm,ae,seval,e3,av8 f2,av7 fa,ra,Bool.decide_eq_true];rw[hn]
 all_goals
  refine aG [0,5,6,7,8,9] (fun m ρ hd=>∃(nn:az),ρ=[(0,aE g),(5,aE p),(6,aE q),(7,ao 0),(8, .bool ob),(9,str nn)]∧Ext h2 hd∧(nn=[]∧m=0∨∃j,j<W.length∧(at' W j).nm=nn∧zZ W S j∧m=rk j+1)) ?_ ?_
  case refine_1=>
   simp only[ae,seval];exact⟨_,_,rfl,Ext.refl _, .inr ⟨i,hi,rfl,hu,rfl⟩⟩
  rintro m ρ hd⟨nn,rfl,xd,hnn⟩;have qd:=ay xd q2 awx;have pd:=ay xd p2 awx;have Xd:=X.trans xd;have Hd:=H.ext Xd;rcases hnn with⟨rfl,rfl⟩|⟨j,hj,rfl,Te,rfl⟩
  ·simp only[dm,ae,seval]
   refine aO aL rfl rfl rfl (by simp[Value.cells,oneCell,str]) qd rfl ?_;intro h7 f7 b7;have bm:=aS cC (aN b7) rfl;simp only[ae,seval,bm];exact⟨ev Xd f7 Ti,[],[],[],0,_,rfl⟩
  have ZM:=(jO (I.nm j hj)).1;have e1:cellAt hd ⟨p,1,none⟩=some (str n):=by rw[au pd];rfl
  have e2:cellAt hd ⟨p,2,none⟩=some (str t):=by rw[au pd];rfl
  simp only[dm,ae,seval,av7 ZM,e1,e2];have RA:∃m',m'<rk j+1∧((at' W j).sup=[]∧m'=0∨∃j',j'<W.length∧(at' W j').nm=(at' W j).sup∧zZ W S j'∧m'=rk j'+1):=by
   by_cases hs:(at' W j).sup=[]
   ·exact⟨0,by omega, .inl ⟨hs,rfl⟩⟩
   ·obtain⟨y,hy,Le,Tb,Tc⟩:=I.su' hj Te hs
    exact⟨rk y+1,by omega, .inr ⟨y,hy,Le, .inl Tb,rfl⟩⟩
  obtain⟨m',Gz,Od⟩:=RA;refine aj rfl (Vn Hd I ⟨j,hj,rfl⟩ n t) ?_;rintro _ h3⟨x3,R⟩;obtain⟨c',n',t',f',b,rfl,aiF,Vk⟩:=R.parts;simp only[ae,seval];refine aD aL ?_;simp only[ae,seval];refine aI aL rfl rfl rfl (cS (l:=[]) (by simp)) rfl ?_;intro h4 x4 _ _ b4;have x4:=x3.trans x4;generalize h3.size=y at*;have X4:=Xd.trans x4;have H4:=H.ext X4;obtain⟨wi,wp,wf,wv,wm,wo,K4⟩:=H4.cl j hj;have c1:=K4.c1;have q4:=ay x4 qd awx;have p4:=ay x4 pd awx;have e9:cellAt h4 ⟨y,3,none⟩=some (ax f'):=by rw[au b4];rfl
  have e0:cellAt h4 ⟨p,0,none⟩=some (str c):=by rw[au p4];rfl
  have l9:=eO b4;have l5:=eO p4;obtain⟨nb,hnb⟩:=akX (h:=h4) (x:= .tmp 52) (y:= .tmp 53) c' n' t' f' c n t f;cases b
  case false=>
   simp only[dm,ae,seval];refine aj rfl (fT H4 I (at' W j).nm) ?_;rintro _ h4⟨rfl,rfl⟩;rw[iz I hj];simp only[ae,seval,c1];exact⟨m',Gz,_,rfl,xd.trans x4,Od⟩
  by_cases f10:cB .and .u16 (f':Int) 10=0
  case neg=>
   simp only[dm,ae,seval,e9,av7 f10];refine aj rfl (fT H4 I (at' W j).nm) ?_;rintro _ h4⟨rfl,rfl⟩;rw[iz I hj];simp only[ae,seval,c1];exact⟨m',Gz,_,rfl,xd.trans x4,Od⟩
  cases nb
  case' false=>simp only[dm,ae,seval,e9,av8 f10,l9,l5,hnb]
  case' true=>
   cases ob
   case' true=>simp only[dm,ae,seval,e9,av8 f10,l9,l5,hnb]
   case' false=>
    simp only[dm,ae,seval,e9,av8 f10,l9,l5,hnb,e0];refine aj rfl (rU (at' W j).nm (by have:=(H4.sz j hj).1;omega)) ?_;rintro _ h4⟨rfl,t1,rfl⟩;simp only[ae,seval,e0];refine aj rfl (rU c (by omega)) ?_;rintro _ h4⟨rfl,t2,rfl⟩;by_cases ht:t1=t2
    case' neg=>
     simp only[dm,ae,seval,av7 ht];refine aj rfl (fT H4 I (at' W j).nm) ?_;rintro _ h4⟨rfl,rfl⟩;rw[iz I hj];simp only[ae,seval,c1];exact⟨m',Gz,_,rfl,xd.trans x4,Od⟩
    simp only[dm,ae,seval,av8 ht]
  all_goals
   by_cases g10:cB .and .u16 (f':Int) 1024=0
   case' neg=>
    simp only[dm,ae,seval,e9,av7 g10];refine aO aL rfl rfl rfl (by simp[Value.cells,oneCell,str]) q4 rfl ?_;intro h7 f7 b7;have bm:=aS cC (aN b7) rfl;simp only[ae,seval,bm];exact⟨ev X4 f7 Ti,[],[],[],0,_,rfl⟩
   obtain⟨u,hu2,rfl⟩:=oO;obtain⟨zi,zp,zf,zv,zm,zo,Z4⟩:=H4.cl u hu2;have z3:=Z4.c3;simp only[dm,ae,seval,e9,av8 g10,e0];refine aj rfl (fT H4 I (at' W u).nm) ?_;rintro _ h4⟨rfl,rfl⟩;rw[iz I hu2];by_cases fi:cB .and .u16 ((at' W u).fl:Int) 512=0
   case' neg=>
    by_cases fp:cB .and .u16 (f':Int) 1=0
    case' pos=>
     simp only[dm,ae,seval,e9,z3,av7 fi,av8 fp];refine aO aL rfl rfl rfl (by simp[Value.cells,oneCell,str]) q4 rfl ?_;intro h7 f7 b7;have bm:=aS cC (aN b7) rfl;simp only[ae,seval,bm];exact⟨ev X4 f7 Ti,[],[],[],0,_,rfl⟩
    simp only[dm,ae,seval,e9,z3,av7 fi,av7 fp,l9]
   case' pos=>simp only[dm,ae,seval,z3,av8 fi,l9]
   all_goals
    refine aO aL rfl rfl rfl (cS (l:=[]) (by simp)) q4 rfl ?_;intro h7 f7 b7;have bm:=eO b7;simp only[ae,seval,bm];exact⟨ev X4 f7 Ti,_,_,_,_,_,rfl⟩
theorem Tn(H:RW h g vL bs W S)(I:ek W S rk)(a s n t:az)(face:Bool)(u:az)(ha:a.length≤1048576)(hl:s.length≤1048576)(hu:u.length≤1048576):
 aF Tryz.prog 26 #[aE g,str a,str s,str n,str t, .bool face,str u] h (vP g vL bs W S h fun _ v=>MbT v):=by
 refine Mu (args:=[aE g,str a,str s,str n,str t, .bool face,str u]) rfl ?_;simp only[jb,ae,seval];refine aD aL ?_;have x1:=Ext.push h (.cells #[str [],str [],str [],ax 0] 72);have q1:=mW h;have vO:¬h.size∈bs:=fun e=>by have:=H.nZ _ e;omega
 have P1:=fY.ext H I x1;obtain⟨q,hq⟩:∃q,q=h.size:=⟨_,rfl⟩;rw[←hq]at q1 vO⊢;simp only[jb,ae,seval];generalize h.push _=h1 at*;have none:∀{hc:ar}{S':LS}{mo:Nat→Nat}{e:Int},fY g vL bs W S h hc S' mo→vP g vL bs W S h (fun S' v=>MbT v) (.tuple #[.agg #[str [],str [],str [],ax 0],ao e]) hc:=fun P=>⟨_,_,P,[],[],[],0,_,rfl⟩;refine aj rfl (Bf P1.1 P1.2.1 a s n t face ha hl) ?_;rintro _ h2⟨S2,r2,P2,c',n',t',f',e,rfl,lQ,oO⟩;have rT:=P1.trans P2;have q2:=ay P2.2.2.2.1 q1 vO;simp only[ae,seval];refine aD aL ?_;simp only[ae,seval];refine aI aL rfl rfl rfl (cS (l:=[]) (by simp)) rfl ?_;intro h3 x3 nQ _ b3;have q3:=ay x3 q2 awx;have P3:=rT.trans (fY.ext P2.1 P2.2.1 x3);have OP:¬h2.size∈bs:=fun e=>by have:=P2.1.nZ _ e;omega
 generalize h2.size=p at*;by_cases he:e=0
 case neg=>
  simp only[jb,ae,seval,av7 he];refine aO aL rfl rfl rfl (by simp[Value.cells,oneCell,str]) q3 rfl ?_;intro h7 f7 b7;have bm:=aS cC (aN b7) rfl;simp only[ae,seval,bm];exact none (P3.res H q3 f7 (by omega))
 have Vk:=oO he;subst he;simp only[jb,ae,seval];refine aj rfl (PP P3.1 P3.2.1 u s hu hl) ?_;rintro _ h4⟨S4,r4,P4,e,b,rfl,o4⟩;have Xa:=P3.trans P4;have q4:=ay P4.2.2.2.1 q3 vO;have b4:=ay P4.2.2.2.1 b3 OP;by_cases he:e=0
 case neg=>
  simp only[jb,ae,seval,av7 he];refine aO aL rfl rfl rfl (by simp[Value.cells,oneCell,str]) q4 rfl ?_;intro h7 f7 b7;have bm:=aS cC (aN b7) rfl;simp only[ae,seval,bm];exact none (Xa.res H q4 f7 (by omega))
 have ok4:=o4 he;subst he;have e3:cellAt h4 ⟨p,3,Option.none⟩=some (ax f'):=by rw[au b4];rfl
 have l4:=eO b4;cases b
 case false=>
  simp only[jb,ae,seval];refine aO aL rfl rfl rfl (by simp[Value.cells,oneCell,str]) q4 rfl ?_;intro h7 f7 b7;have bm:=aS cC (aN b7) rfl;simp only[ae,seval,bm];exact none (Xa.res H q4 f7 (by omega))
 by_cases f8:cB .and .u16 (f':Int) 8=0
 case neg=>
  simp only[jb,ae,seval,e3,av7 f8];refine aO aL rfl rfl rfl (by simp[Value.cells,oneCell,str]) q4 rfl ?_;intro h7 f7 b7;have bm:=aS cC (aN b7) rfl;simp only[ae,seval,bm];exact none (Xa.res H q4 f7 (by omega))
 simp only[jb,ae,seval,e3,av8 f8,l4];refine aj rfl (Xc P4.1 P4.2.1 u c' n' t' f' ok4.1 lQ Vk) ?_;rintro _ h5⟨x5,c2,n2,t2,f2,e2,rfl⟩;have q5:=ay x5 q4 awx;have P5:=Xa.trans (fY.ext P4.1 P4.2.1 x5);simp only[ae,seval];refine aO aL rfl rfl rfl (cS (l:=[]) (by simp)) q5 rfl ?_;intro h7 f7 b7;have bm:=eO b7;simp only[ae,seval,bm];exact⟨S4,r4,P5.res H q5 f7 (by omega),c2,n2,t2,f2,e2,rfl⟩
end
end
section
section
variable{h h':ar}{g:Nat}{vL:Value}{bs:List Nat}{W:List LC}{S:LS}{rk:Nat→Nat}
theorem Xe(I:ek W S rk):∀(r:Nat)(h:ar)(n:az),RW h g vL bs W S→(n=[]∨∃i,i<W.length∧(at' W i).nm=n∧kB S i∧rk i<r)→
 aF Tryz.prog 64 #[aE g,str n] h fun v h'=>∃L,acY h h' v L∧L.length≤ry rk r W 0:=by
 intro r
 induction r using Nat.strongRecOn with
 |ind r ih=>
 intro h n H hn;refine Iv (args:=[aE g,str n]) rfl ?_;by_cases cN:n=[]
 ·simp only[gA,ae,seval,av8 cN]
  exact⟨[],⟨Ext.refl _,Own.nil,fun r hr=>by cases hr⟩,awb _⟩
 obtain⟨i,hi,rfl,ho,hri⟩:=hn.resolve_left cN;obtain⟨vi,vp,vf,vv,vm,vo,K⟩:=H.cl i hi;have c1:=K.c1;have tot:=GL (rk:=rk) (r:=r) W 0;have aro:ry rk (rk i) W 0+(at' W i).fds.length≤ry rk r W 0:=OQ (rk:=rk) hri W 0 i hi (by simp);have hle:=H.tf;simp only[gA,ae,seval,av7 cN];refine aj rfl (fT H I (at' W i).nm) ?_;rintro _ h⟨rfl,rfl⟩;rw[iz I hi];simp only[gA,ae,seval,c1];refine aj rfl (ih (rk i) hri h (at' W i).sup H ?_) ?_
 ·by_cases hs:(at' W i).sup=[]
  ·exact .inl hs
  ·obtain⟨j,a,b,c,d⟩:=I.su i hi ho hs
   exact .inr ⟨j,a,b,c,d⟩
 rintro v h1⟨L,⟨x1,hO,hR⟩,hLl⟩;have O0:=K.f;have lt0:∀k,vf.ownBlock=some k→k<h.size:=fun k hk=>(O0.lt k hk).2;have O1:=O0.ext x1;have c5:cellAt h1 ⟨bs.getD i 0,5,none⟩=some vf:=by rw[au (ay x1 K.b awx)];rfl
 obtain⟨_,ma,mc,rfl,_⟩:=id O1.dQ;have hr:=H.fr i hi;have vb:∀r∈(at' W i).fds,r.length=4:=fun r hm=>by obtain⟨_,_,_,l,rfl,hl,_⟩:=hr r hm;simp[hl]
 simp only[gA,ae,seval,c5];refine aG [6,23,24,25] (fun m ρ hc=>∃(k:Nat)(v:Value)(L':List (List Value)),m=(at' W i).fds.length-k∧k≤(at' W i).fds.length∧ρ=[(6,v),(23, .slice ma (at' W i).fds.length mc),(24,ao ((at' W i).fds.length:Int)),(25,ao k)]∧
  Own hc h.size 72 4 v L'.length L'.flatten∧(∀r∈L',ZN r)∧L'.length≤L.length+k∧Ext h hc) ?_ ?_
 case refine_1=>
  simp only[ae,seval];exact⟨_,0,v,L,rfl,awb _,rfl,hO,hR,awp _,x1⟩
 rintro m ρ hc⟨k,v,L',rfl,hk,rfl,hO,hR,hL',xc⟩;by_cases aV:k<(at' W i).fds.length
 case neg=>
  have aK:¬(k:Int)<((at' W i).fds.length:Int):=by omega
  simp only[gA,ae,seval,aK];exact⟨L',⟨xc,hO,hR⟩,by omega⟩
 have aK:(k:Int)<((at' W i).fds.length:Int):=by omega
 obtain⟨b1,c1,heq,di⟩:=qV (O0.ext xc) vb aV;cases heq;obtain⟨n',t',f,l,pf,Ld,AR⟩:=hr _ (show(at' W i).fds.getD k []∈_ by simp[aV]);rw[pf]at di;obtain rfl:l=[]:=List.length_eq_zero_iff.1 Ld;have bm:=aS cC di rfl;simp(disch:=omega)only[gA,ae,seval,aK,bm];refine aD aL ?_;simp only[ae,seval];refine aI aL rfl rfl rfl (cS (l:=[]) (by simp)) rfl ?_;intro h2 x2 ji _ b2;have O2:=hO.ext x2;have X2:=xc.trans x2;generalize hc.size=p at*;have e3:cellAt h2 ⟨p,3,none⟩=some (ax f):=by rw[au b2];rfl
 have j7:=eO b2;have w1:=gU (k:=k) (by omega);by_cases f8:cB .and .u16 (f:Int) 8=0
 case neg=>
  simp only[gA,ae,seval,e3,av7 f8,w1];exact⟨_,by omega,k+1,v,L',rfl,by omega,rfl,O2,hR,by omega,X2⟩
 simp only[gA,ae,seval,e3,av8 f8,j7];refine aU rE rfl rfl (by decide) ?_;simp only[ae,seval];have gB:=X2.size;refine bF (m:=1) rE rfl rfl (O2.push _) rfl (bV (vs:=[str (at' W i).nm,str n',str t',ax f])) (by intro u hu;simp only[awL,awP,aw6]at hu;rcases hu with rfl|rfl|rfl|rfl<;>rfl) (by omega) (by omega) (by simp;omega) ?_
 intro v' h' iV nI _;simp only[gA,ae,seval,w1];refine⟨_,by omega,k+1,v',L'++[[str (at' W i).nm,str n',str t',ax f]],rfl,by omega,rfl,?_,fun r hm=>?_,by simp only[awn,awt];omega,Ext.app (X2.trans (Ext.push _ _)) nI (fun k hk=>by have:=(O2.lt k hk).1;simpa using this)⟩
 ·simpa using iV
 ·rcases awi.1 hm with h|h
  ·exact hR r h
  ·rw[awf.1 h];exact⟨_,n',t',f,rfl⟩
theorem Xf(H:RW h g vL bs W S)(I:ek W S rk)(s:az)(hl:s.length≤1048576):
 aF Tryz.prog 28 #[aE g,str s] h fun v h'=>∃S' mo,fY g vL bs W S h h' S' mo∧aly h h' v:=by
 refine Iu (args:=[aE g,str s]) rfl ?_;simp only[nE,ae,seval];refine aj rfl (qf H I s hl) ?_;rintro _ h1⟨S1,r1,P1,e,rfl,o1⟩;by_cases he:e=0
 case neg=>
  simp only[nE,ae,seval,av7 he];exact⟨S1,r1,P1,e,_,[],rfl,Own.nil,(fun r hr=>by cases hr),awb _⟩
 have IU:=o1 he;subst he;have cN:=lL IU.1;have pa:(0:Int)<(s.length:Int):=by have:=awr.2 cN;omega
 have ea:((s.getD 0 0).toNat:Int)=91↔s.head?=some 91:=oN (c:=91) cN;by_cases hc:s.head?=some 91
 ·have fa:=ea.2 hc
  simp(disch:=omega)only[nE,ae,seval,fa];exact⟨S1,r1,P1,_,_,[],rfl,Own.nil,(fun r hr=>by cases hr),awb _⟩
 have fa:¬((s.getD 0 0).toNat:Int)=91:=fun x=>hc (ea.1 x);obtain⟨i,hi,rfl,GJ⟩:=ug IU hc;simp(disch:=omega)only[nE,ae,seval,av7 fa];refine aj rfl (Xe P1.2.1 _ h1 _ P1.1 (.inr ⟨i,hi,rfl,GJ,Nat.lt_succ_self _⟩)) ?_;rintro v h2⟨L,⟨x2,hO,hR⟩,hL⟩;simp only[ae,seval];exact⟨S1,r1,P1.trans (fY.ext P1.1 P1.2.1 x2),_,v,L,rfl,hO.mono P1.2.2.2.1.size,hR,awG hL (awG (GL W 0) P1.1.tf)⟩
end
end
section
open Go.Lib (isSp fields fieldsGo)
def Sp(h:ar):Prop:=∃e fz,h[0]? =some (.cells ((Lib.asciiSpaceTab.map fun n=>Value.int .u8 n).toArray) e fz)
def bI(b:Bool):Int:=if b then 1 else 0
def bN(b:Bool):Int:=if b then-2 else-1
theorem Sp.at{h:ar}(H:Sp h)(b:UInt8):cellAt h ⟨0,b.toNat,none⟩=some (bH (bI (isSp b))):=by
 obtain⟨e,fz,H⟩:=H;have hb:=UInt8.toNat_lt b;have:=Lib.asciiSpaceTab_at b.toNat hb;rw[awu,awJ (by rw[Lib.asciiSpaceTab_length];exact hb),Option.getD_some,UInt8.ofNat_toNat]at this;rw[au H,awl,awK,awJ (by rw[Lib.asciiSpaceTab_length];exact hb),this];rfl
theorem Sp.ext{h h':ar}(H:Sp h)(x:Ext h h'):Sp h':=by
 obtain⟨e,fz,H⟩:=H;exact⟨e,fz,ay x H awx⟩
theorem Bg{b o:Nat}{k:IntKind}{i:Int}{h:ar}(h0:0≤i)(h1:i<256):TB Tryz.prog 82 (.pointer (some ⟨b,o,none⟩)) (.int k i) h=some (.pointer (some ⟨b,o+i.toNat*1,none⟩)):=
 VO (len:=256) (by kernel_rfl) h0 h1
theorem aoo{P:Program}{h:ar}(b:Bool):unE P .xor (ao (bI b)) h=some (ao (bN b)):=by cases b<;>rfl
theorem akY(a b:Bool):cB .and .i64 (bI a) (bN b)=bI (a&& !b):=by cases a<;>cases b<;>decide
theorem aop(b:Bool):IntKind.i64.wrap (bI b)=bI b:=by cases b<;>decide
theorem Vo(b:Bool):(bI b=0)=(b=false):=by cases b<;>simp[bI]
theorem aoq{a b:Nat}(ha:a<128)(hb:b<128):cB .or .u8 (a:Int) (b:Int)=((a|||b:Nat):Int)∧a|||b<128:=by
 have h:=Nat.or_lt_two_pow (n:=7) ha hb;refine⟨?_,h⟩;have e:(BitVec.ofInt 8 (a:Int)|||BitVec.ofInt 8 (b:Int)).toNat=a|||b:=by
  rw[BitVec.toNat_or,BitVec.ofInt_natCast,BitVec.ofInt_natCast,BitVec.toNat_ofNat,BitVec.toNat_ofNat,Nat.mod_eq_of_lt (by omega),Nat.mod_eq_of_lt (by omega)]
 show IntKind.u8.wrap (((BitVec.ofInt 8 (a:Int)|||BitVec.ofInt 8 (b:Int)).toNat:Nat):Int)=_
 rw[e];exact wrap_u8 (by omega) (by omega)
theorem drop_cons{l:az}{k:Nat}(h:k<l.length):l.drop k=l.getD k 0::l.drop (k+1):=by
 rw[awu,awJ h,Option.getD_some];exact awO h
theorem PR{h:ar}(H:Sp h)(s:az)(ha:∀b∈s,b.toNat<128)(hl:s.length≤1073741824):
 aF Tryz.prog 10 #[str s] h fun v h'=>Ext h h'∧Own h' h.size 9 1 v (fields s).length ((fields s).map str):=by
 refine Kz (args:=[str s]) rfl ?_;have IL:=Lib.fields_length s;have cle:∀(l:az)(b:Bool),Lib.cntF b l≤l.length:=by
  intro l
  induction l with
  |nil=>intro b;exact awp _
  |cons x l ih=>
   intro b;have:=ih (isSp x);rw[Lib.cntF_step,awy]
   split<;>omega
 have nT:(fields s).length≤s.length:=by rw[IL];exact cle s true
 simp only[dZ,ae,seval];refine aG [0,3,4,5,6] (fun m ρ hc=>∃(k c b:Nat)(ws:Bool),m=s.length-k∧k≤s.length∧ρ=[(0,str s),(3,ao c),(4,ao (bI ws)),(5,bH b),(6,ao k)]∧hc=h∧c+Lib.cntF ws (s.drop k)=(fields s).length∧b<128) ?_ ?_
 case refine_1=>
  simp only[ae,seval];exact⟨_,0,0,0,true,rfl,awb _,rfl,by rw[IL];simp,by decide⟩
 rintro m ρ hc⟨k,c,b,ws,rfl,hk,rfl,rfl,hct,hb⟩;by_cases aV:k<s.length
 case pos=>
  have aK:(k:Int)<(s.length:Int):=by omega
  have Wb:=ha (s.getD k 0) (by simp[aV]);rw[drop_cons aV,Lib.cntF_step]at hct;have TV:=H.at (s.getD k 0);generalize hx:s.getD k 0=x at*;have alm:(x.toNat:Int)<256:=by omega
  have or1:=aoq hb Wb;have w1:=gU (k:=k) (by omega);have w2:IntKind.i64.wrap ((c:Int)+bI (ws&& !isSp x))=((c+if(ws&& !isSp x)=true then 1 else 0:Nat):Int):=by
   unfold bI;split<;>rw[wrap_i64 (by omega) (by omega)]<;>omega
  simp(disch:=omega)only[dZ,ae,seval,aK,hx,or1.1,Bg,TV,aop,aoo,akY,w1,w2];refine⟨_,by omega,k+1,_,_,_,rfl,by omega,rfl,?_,or1.2⟩;omega
 have aK:¬(k:Int)<(s.length:Int):=by omega
 have ju:¬(128:Int)≤(b:Int):=by omega
 have hcn:c=(fields s).length:=by rw[List.drop_eq_nil_of_le (by omega)]at hct;simpa[Lib.cntF]using hct
 obtain⟨n,hn⟩:∃n,n=(fields s).length:=⟨_,rfl⟩;rw[←hn]at hcn nT;rw[hcn];simp only[dZ,ae,seval,aK,ju];refine rA dE rfl rfl (by omega) (by omega) (by omega) ?_;intro cs z ii hii KH hcs;have gB:cs.size=n:=by rw[hcs,size_madeCells];omega
 rw[show((n:Nat):Int).toNat=n by omega];have E:=Ext.push hc (.cells cs 9);have b0:(hc.push (.cells cs 9))[hc.size]? =some (.cells cs 9 (0,0)):=by simp
 generalize hc.push _=h2 at*;obtain⟨g,hg⟩:∃x,x=hc.size:=⟨_,rfl⟩;rw[←hg]at b0⊢;simp only[dZ,ae,seval];have store:∀{h3:ar}{na:Nat}{done:List (az)}{cells:Array Value},Ext hc h3→h3[g]? =some (.cells cells 9 (0,0))→cells.size=n→na<n→done.length=na→cells.toList.take na=done.map str→∀v:az,
  (∃u,cellAt h3 ⟨g,na,none⟩=some u)∧frozenAt h3 ⟨g,na,none⟩=false∧∃ox:Array Value,(setAt h3 ⟨g,na,none⟩ (str v))[g]? =some (.cells ox 9 (0,0))∧ox.size=n∧ox.toList.take (na+1)=(done++[v]).map str∧Ext hc (setAt h3 ⟨g,na,none⟩ (str v)):=by
  intro h3 na done cells hx hb hcs hna sg mq v;refine⟨⟨cells[na],by rw[au hb];simp[show na<cells.size by omega]⟩,by unfold frozenAt;rw[hb];simp,_,bu (o:=na) hb (str v),by simp[hcs],?_,Fr.trans (T:=fun _=>False) hx (Fr.set (S:=fun k=>k=g) h3 ⟨g,na,none⟩ (str v) fun _=>rfl) (fun _ _ h=>h) fun k hk hS=>by omega⟩;rw[Array.toList_setIfInBounds,List.take_add_one,List.take_set_of_le (awp _),mq];simp[hcs,hna]
 have AU:n≤maxLen:=by
  have:maxLen=9223372036854775807:=by decide+kernel
  omega
 have fin:∀{h3:ar}{cells:Array Value},Ext hc h3→h3[g]? =some (.cells cells 9 (0,0))→cells.size=n→cells.toList.take n=(fields s).map str→Ext hc h3∧Own h3 g 9 1 (.slice (some ⟨g,0,none⟩) n n) (fields s).length ((fields s).map str):=fun hx hb hcs mq=>by
  refine⟨hx,?_⟩;rw[←hn];exact⟨by simp[hn], .inr ⟨g,n,_,(0,0),rfl,awp _,hb,by simp,awp _,AU,by omega,by rw[Nat.mul_one];exact mq⟩⟩
 refine aG [0,9,10,12] (fun m ρ hd=>∃k:Nat,m=s.length-k∧k≤s.length∧ρ=[(0,str s),(9, .slice (some ⟨g,0,none⟩) n n),(10,ao 0),(12,ao k)]∧hd=h2∧fields s=fieldsGo [] (s.drop k)) ?_ ?_
 case refine_1=>
  simp only[ae,seval];exact⟨_,0,rfl,awb _,rfl,rfl⟩
 rintro m ρ hd⟨k,rfl,hk,rfl,rfl,hf⟩;have Hd:=H.ext E;have step:∀{k:Nat},k<s.length→cellAt hd ⟨0,(s.getD k 0).toNat,none⟩=some (bH (bI (isSp (s.getD k 0))))∧((s.getD k 0).toNat:Int)<256∧IntKind.i64.wrap ((k:Int)+1)=((k+1:Nat):Int)∧(k:Int)<(s.length:Int):=fun{k}hk=>by
  have:=UInt8.toNat_lt (s.getD k 0);exact⟨Hd.at _,by omega,by rw[wrap_i64 (by omega) (by omega)];omega,by omega⟩
 by_cases hg:k<s.length∧isSp (s.getD k 0)=true
 case pos=>
  obtain⟨a1,a2,a3,a4⟩:=step hg.1;rw[drop_cons hg.1,Lib.fieldsGo_sp _ _ hg.2]at hf;have a5:=hg.2;generalize hx:s.getD k 0=x at*;simp(disch:=omega)only[dZ,ae,seval,a4,hx,Bg,a1,a5,Vo,a3];exact⟨_,by omega,k+1,rfl,by omega,rfl,hf⟩
 have gt:¬k<s.length∨(k<s.length∧isSp (s.getD k 0)=false):=by
  by_cases hk:k<s.length
  ·exact .inr ⟨hk,by simpa[hk]using hg⟩
  ·exact .inl hk
 have top:k<s.length→isSp (s.getD k 0)=false:=fun x=>by simpa[x]using hg
 rcases gt with h0|⟨h0,h1⟩
 case' inl=>
  have a4:¬(k:Int)<(s.length:Int):=by omega
  simp only[dZ,ae,seval,a4]
 case' inr=>
  obtain⟨a1,a2,a3,a4⟩:=step h0;simp(disch:=omega)only[dZ,ae,seval,a4,Bg,a1,h1,Vo]
 all_goals
  refine aG [0,9,10,11,12] (fun m ρ hd=>∃(i fs na:Nat)(done:List (az))(cells:Array Value),m=s.length-i∧i≤s.length∧fs≤i∧ρ=[(0,str s),(9, .slice (some ⟨g,0,none⟩) n n),(10,ao na),(11,ao fs),(12,ao i)]∧
   Ext hc hd∧hd[g]? =some (.cells cells 9 (0,0))∧cells.size=n∧done.length=na∧cells.toList.take na=done.map str∧fields s=done++fieldsGo ((s.drop fs).take (i-fs)) (s.drop i)∧(fs=i→i<s.length→isSp (s.getD i 0)=false)) ?_ ?_
  case refine_1=>
   simp only[ae,seval];exact⟨_,k,k,0,[],cs,rfl,hk,awp _,rfl,E,b0,gB,rfl,by simp,by rw[hf];simp,fun _=>top⟩
  rintro m ρ hd⟨i,fs,na,done,cells,rfl,hi,hfi,rfl,hx,hb,hcz,sg,mq,hf,aru⟩;have Hd:=H.ext hx;have step:∀{k:Nat},k<s.length→cellAt hd ⟨0,(s.getD k 0).toNat,none⟩=some (bH (bI (isSp (s.getD k 0))))∧((s.getD k 0).toNat:Int)<256∧IntKind.i64.wrap ((k:Int)+1)=((k+1:Nat):Int)∧(k:Int)<(s.length:Int):=fun{k}hk=>by
   have:=UInt8.toNat_lt (s.getD k 0);exact⟨Hd.at _,by omega,by rw[wrap_i64 (by omega) (by omega)];omega,by omega⟩
  have hlen:(fields s).length=na+(fieldsGo ((s.drop fs).take (i-fs)) (s.drop i)).length:=by rw[hf,awn,sg]
  by_cases aV:i<s.length
  case pos=>
   obtain⟨a1,a2,a3,a4⟩:=step aV;have gx:s[i]? =some (s.getD i 0):=by simp[aV]
   by_cases MK:isSp (s.getD i 0)=true
   case neg=>
    have MK:isSp (s.getD i 0)=false:=by simpa using MK
    rw[drop_cons aV,Lib.fieldsGo_more _ _ _ MK,←Lib.piece_more hfi gx]at hf;generalize hx:s.getD i 0=x at*;simp(disch:=omega)only[dZ,ae,seval,a4,hx,Bg,a1,MK,Vo,a3];exact⟨_,by omega,i+1,fs,na,done,cells,rfl,by omega,by omega,rfl,‹_›,hb,hcz,sg,mq,hf,fun e=>by omega⟩
   have hfs:fs<i:=by
    rcases Nat.lt_or_ge fs i with h|h
    ·exact h
    ·have:=aru (by omega) aV;rw[this]at MK;cases MK
   rw[drop_cons aV,Lib.fieldsGo_end _ _ _ MK (Lib.piece_ne hfs (by omega))]at hf hlen;rw[awy]at hlen;have hna:na<n:=by omega
   obtain⟨⟨u,c0⟩,z0,ox,s1,s2,s3,s4⟩:=store hx hb hcz hna sg mq ((s.drop fs).take (i-fs));have b1:(fs:Int)≤(i:Int):=by omega
   have b2:(i:Int)≤(s.length:Int):=by omega
   have b3:(na:Int)<(n:Int):=by omega
   have b4:(s.take i).drop fs=(s.drop fs).take (i-fs):=List.drop_take ..;have w2:=gU (k:=na) (by omega);generalize hx':s.getD i 0=x at*;simp(disch:=omega)only[dZ,ae,seval,a4,hx',Bg,a1,MK,Vo,b4];refine aC nM rfl rfl rfl rfl rfl c0 z0 ?_;generalize setAt hd ⟨g,na,none⟩ _=h4 at*;simp only[dZ,ae,seval,w2,a3];refine aG [0,9,10,12] (fun m ρ he=>∃k:Nat,m=s.length-k∧k≤s.length∧i<k∧ρ=[(0,str s),(9, .slice (some ⟨g,0,none⟩) n n),(10,ao (na+1:Nat)),(12,ao k)]∧he=h4∧fields s=done++[(s.drop fs).take (i-fs)]++fieldsGo [] (s.drop k)) ?_ ?_
   case refine_1=>
    simp only[ae,seval];exact⟨_,i+1,rfl,by omega,by omega,rfl,by rw[hf];simp⟩
   rintro m ρ he⟨k,rfl,hk,hik,rfl,rfl,hf⟩;have Hd:=H.ext s4;have step:∀{k:Nat},k<s.length→cellAt he ⟨0,(s.getD k 0).toNat,none⟩=some (bH (bI (isSp (s.getD k 0))))∧((s.getD k 0).toNat:Int)<256∧IntKind.i64.wrap ((k:Int)+1)=((k+1:Nat):Int)∧(k:Int)<(s.length:Int):=fun{k}hk=>by
    have:=UInt8.toNat_lt (s.getD k 0);exact⟨Hd.at _,by omega,by rw[wrap_i64 (by omega) (by omega)];omega,by omega⟩
   by_cases hg:k<s.length∧isSp (s.getD k 0)=true
   case pos=>
    obtain⟨a1,a2,a3,a4⟩:=step hg.1;rw[drop_cons hg.1,Lib.fieldsGo_sp _ _ hg.2]at hf;have a5:=hg.2;generalize hy:s.getD k 0=y at*;simp(disch:=omega)only[dZ,ae,seval,a4,hy,Bg,a1,a5,Vo,a3];exact⟨_,by omega,k+1,rfl,by omega,by omega,rfl,hf⟩
   have top:k<s.length→isSp (s.getD k 0)=false:=fun x=>by simpa[x]using hg
   have gt:¬k<s.length∨(k<s.length∧isSp (s.getD k 0)=false):=by
    by_cases hk:k<s.length
    ·exact .inr ⟨hk,top hk⟩
    ·exact .inl hk
   rcases gt with h0|⟨h0,h1⟩
   case' inl=>
    have a4:¬(k:Int)<(s.length:Int):=by omega
    simp only[dZ,ae,seval,a4]
   case' inr=>
    obtain⟨a1,a2,a3,a4⟩:=step h0;simp(disch:=omega)only[dZ,ae,seval,a4,Bg,a1,h1,Vo]
   all_goals exact⟨_,by omega,k,k,na+1,done++[(s.drop fs).take (i-fs)],ox,rfl,hk,awp _,rfl,s4,s1,s2,by simp[sg],s3,by rw[hf];simp,fun _=>top⟩
  have hie:i=s.length:=by omega
  subst hie;have a4:¬(s.length:Int)<(s.length:Int):=by omega
  rw[List.drop_eq_nil_of_le (awp _),List.take_of_length_le (by simp)]at hf hlen;by_cases hfe:fs<s.length
  ·have cN:(s.drop fs).isEmpty=false:=by rw[drop_cons hfe];rfl
   rw[fieldsGo,cN]at hf hlen;have hlen:(fields s).length=na+1:=by simpa using hlen
   have hna:na<n:=by omega
   obtain⟨⟨u,c0⟩,z0,ox,s1,s2,s3,s4⟩:=store hx hb hcz hna sg mq (s.drop fs);have b1:(fs:Int)<(s.length:Int):=by omega
   have b2:(fs:Int)≤(s.length:Int):=by omega
   have b3:(na:Int)<(n:Int):=by omega
   simp(disch:=omega)only[dZ,ae,seval,a4,b1,];refine aC nM rfl rfl rfl rfl rfl c0 z0 ?_;simp only[dZ,ae,seval];refine fin s4 s1 s2 ?_;rw[show n=na+1 by omega,s3,hf];rfl
  ·have cN:s.drop fs=[]:=List.drop_eq_nil_of_le (by omega)
   rw[cN,fieldsGo]at hf hlen;have b1:¬(fs:Int)<(s.length:Int):=by omega
   simp only[dZ,ae,seval,a4,b1];refine fin hx hb hcz ?_;rw[show n=na by simpa[hn]using hlen,mq,hf];simp
end
section
def LC.GN(c:LC)(r:List Value):LC:={c with iw:=c.iw++[r]}
def mbS(f:az):az:=if(f.getD 0 0).toNat<97∧f.getD 0 0≠60 then f.drop 1 else f
structure PN(h0 h:ar)(b:Nat)(c:LC)(s:Nat × Int)(vi vp vf vm:Value):Prop where
 k:PC h b c s vi vp vf vm
 b:h0.size≤b
 m:Own h h0.size 90 10 vm c.iw.length c.iw.flatten
 x:Ext h0 h
def mtZ:Array Value:=#[str [],str [],str [],ax 0, .bool false,ao 0,ao 0,str [],nS,str []]
section
variable{h0 h:ar}{b:Nat}{c:LC}{s:Nat × Int}{vi vp vf vm:Value}
theorem PN.ext{h':ar}(N:PN h0 h b c s vi vp vf vm)(x:Ext h h'):PN h0 h' b c s vi vp vf vm:=⟨N.k.fr x awx fun _ _=>awx,N.b,N.m.ext x,N.x.trans x⟩
theorem Xh(N:PN h0 h b c s vi vp vf vm)(f:az)(cN:f≠[])(hp:0≤ib (mbS f) 40)(hl:f.length≤1048576)(hn:c.iw.length≤1048576):
 aF Tryz.prog 11 #[aE b,str f] h fun v h'=>∃r Zz,rv c.nm 6 r∧PN h0 h' b (c.GN r) s vi vp vf Zz∧Fr (fun k=>k=b∨vm.ownBlock=some k) h h':=by
 refine AB (args:=[aE b,str f]) rfl ?_;have pa:(0:Int)<(f.length:Int):=by have:=awr.2 cN;omega
 have o1:cB .or .u16 1 8=9:=by decide
 have o2:cB .or .u16 1 256=257:=by decide
 have o3:cB .or .u16 1 264=265:=by decide
 have e97:((f.getD 0 0).toNat:Int)<97↔(f.getD 0 0).toNat<97:=by omega
 have e60:((f.getD 0 0).toNat:Int)=60↔f.getD 0 0=60:=⟨fun e=>UInt8.toNat_inj.1 (by have:((60:UInt8).toNat:Int)=60:=rfl;omega),fun e=>by rw[e];rfl⟩;have fv:∀n:Nat,∃fl:Nat,Value.int IntKind.u16 (n:Int)=Value.int .u16 (fl:Int):=fun n=>⟨n,rfl⟩;by_cases c1:((f.getD 0 0).toNat:Int)=43
 case' pos=>
  simp(disch:=omega)only[d8,ae,seval,av8 c1,o1];obtain⟨fl,hf⟩:=fv 9
 case' neg=>
  by_cases c2:((f.getD 0 0).toNat:Int)=45
  case' pos=>
   simp(disch:=omega)only[d8,ae,seval,av7 c1,av8 c2,o2];obtain⟨fl,hf⟩:=fv 257
  case' neg=>
   by_cases c3:((f.getD 0 0).toNat:Int)=46
   case' pos=>
    simp(disch:=omega)only[d8,ae,seval,av7 c1,av7 c2,av8 c3,o3];obtain⟨fl,hf⟩:=fv 265
   case' neg=>
    simp(disch:=omega)only[d8,ae,seval,av7 c1,av7 c2,av7 c3];obtain⟨fl,hf⟩:=fv 1
 all_goals
  erw [hf]
  by_cases t1:(f.getD 0 0).toNat<97
  case' neg=>
   have hg:mbS f=f:=av9 fun x=>t1 x.1;rw[hg]at hp;have hgl:=hl;simp only[d8,ae,seval,av7 (fun x=>t1 (e97.1 x))]
  case' pos=>
   by_cases t2:f.getD 0 0=60
   case' pos=>
    have hg:mbS f=f:=av9 fun x=>x.2 t2;rw[hg]at hp;have hgl:=hl;simp(disch:=omega)only[d8,ae,seval,av8 (e97.2 t1),av8 (e60.2 t2)]
   case' neg=>
    have hg:mbS f=f.drop 1:=awa ⟨t1,t2⟩;rw[hg]at hp;have hgl:(f.drop 1).length≤1048576:=by rw[aws];omega
    simp(disch:=omega)only[d8,ae,seval,av8 (e97.2 t1),av7 (fun x=>t2 (e60.1 x))];generalize f.drop 1=f at hp hgl⊢
  all_goals
   refine aj rfl (nN 40 f) ?_;rintro _ h⟨rfl,rfl⟩;rcases ve 40 f with⟨hb,_⟩|⟨k,hk,qY,_,_⟩
   ·exact aww hp (by rw[hb];decide)
   rw[qY];have b1:(k:Int)≤(f.length:Int):=by omega
   have b2:(0:Int)≤(k:Int):=by omega
   have c0:=N.k.c0;simp(disch:=omega)only[d8,ae,seval,c0];refine aD GV ?_;have x1:=Ext.push h (.cells mtZ 90);have N1:=N.ext x1;have c0:cellAt (h.push (.cells mtZ 90)) ⟨b,0,none⟩=some (str c.nm):=N1.k.c0;unfold mtZ at c0;simp(disch:=omega)only[ae,seval,c0];refine aI GV rfl rfl rfl (cS (l:=[.bool false,ao 0,ao 0,str [],nS,str []]) (by decide)) rfl ?_;intro h4 x4 zY _ b4;obtain⟨p,hps⟩:∃p,p=h.size:=⟨_,rfl⟩;rw[←hps]at b4⊢;by_cases fn:cB .and .u16 (fl:Int) 256=0
   case' neg=>
    have X4:=x4;have N4:=N.ext X4;have c6:=N4.k.c6;simp only[d8,ae,seval,av7 fn,c6];obtain⟨r,R,b4⟩:∃r,rv c.nm 6 r∧h4[p]? =some (.cells r.toArray 90 (0,0)):=⟨_,⟨f.take k,f.drop k,fl,[.bool false,ao 0,ao 0,str [],nS,str []],rfl,rfl,by decide⟩,b4⟩
   case' pos=>
    have c4:cellAt h4 ⟨p,4,none⟩=some (.bool false):=by rw[au b4];rfl
    simp only[d8,ae,seval,av8 fn];refine aC (v:= .bool true) jf rfl rfl rfl rfl rfl c4 (by unfold frozenAt;rw[b4];rfl) ?_;have b5:=bu (o:=4) b4 (.bool true);have x5:Ext h (setAt h4 ⟨p,4,none⟩ (.bool true)):=ev x4 (Fr.set (S:=fun k=>k=p) h4 ⟨p,4,none⟩ (.bool true) fun _=>rfl) (by omega);generalize setAt h4 ⟨p,4,none⟩ _=h5 at*;simp only[d8,ae,seval];refine dD iX rfl rfl rfl (by decide) b5 (show 5+5≤10 by decide) (by intro j _ _;simp) ?_;intro h4 f6 b4;have X4:=ev x5 f6 (by omega);have N4:=N.ext X4;have c6:=N4.k.c6;simp only[d8,ae,seval,c6];obtain⟨r,R,b4⟩:∃r,rv c.nm 6 r∧h4[p]? =some (.cells r.toArray 90 (0,0)):=⟨_,⟨f.take k,f.drop k,fl,[.bool true,ao 0,ao 1,str [177],nS,str []],rfl,rfl,by decide⟩,b4⟩
   all_goals
    obtain⟨n',t',f',l,rfl,Ld,h1⟩:=R
    match l,Ld with
    |[u1,u2,u3,u4,u5,u6],_=>
     have bm:=aS UB (aN b4) rfl;simp only[ae,seval,bm];refine aU AG rfl rfl (by decide) ?_;have N6:=N4.ext (Ext.push h4 (.cells #[str c.nm,str n',str t',ax f',u1,u2,u3,u4,u5,u6] 90));have c6:=N6.k.c6;simp only[ae,seval,c6];have hlm:=N6.m.lt;have gB:=N6.x.size;refine bF (m:=1) AG rfl rfl N6.m rfl (bV (vs:=[str c.nm,str n',str t',ax f',u1,u2,u3,u4,u5,u6])) (cS h1) (by omega) (by omega) gB ?_;intro v7 h7 O7 f7 _;have K7:=ay f7 N6.k.b (bK N6.m N6.k.b (by decide));have i7:=N6.k.i.fr f7 (fun k hk hv=>GM N6.k.i N6.m (by decide) hk hv);have g7:=N6.k.f.fr f7 (fun k hk hv=>GM N6.k.f N6.m (by decide) hk hv);have x7:=Ext.app N6.x f7 fun k hk=>(N6.m.lt k hk).1;have c7:cellAt h7 ⟨b,6,none⟩=some vm:=by rw[au K7];rfl
     obtain⟨_,ma,mc,rfl,_⟩:=id O7.dQ;have kO:=N.b;simp only[ae,seval];refine aC UE rfl rfl rfl rfl rfl c7 (by unfold frozenAt;dsimp only;rw[K7];simp) ?_;have q8:=bu (o:=6) K7 (.slice ma (c.iw.length+1) mc);have f8:=Fr.set (S:=fun k=>k=b) h7 ⟨b,6,none⟩ (.slice ma (c.iw.length+1) mc) fun _=>rfl;generalize setAt h7 ⟨b,6,none⟩ _=h8 at*;have O8:=O7.fr f8 fun k hk e=>bK O7 K7 (by decide) (by rw[hk,e]);have O8:Own h8 h0.size 90 10 (.slice ma (c.iw.length+1) mc) (c.GN [str c.nm,str n',str t',ax f',u1,u2,u3,u4,u5,u6]).iw.length (c.GN [str c.nm,str n',str t',ax f',u1,u2,u3,u4,u5,u6]).iw.flatten:=dR O8 (by simp[LC.GN]) (by simp[LC.GN]);simp only[ae,seval];exact⟨_,_,⟨n',t',f',_,rfl,rfl,h1⟩,⟨⟨q8,i7.fr f8 fun k hk e=>bK i7 K7 (by decide) (by rw[hk,e]),g7.fr f8 fun k hk e=>bK g7 K7 (by decide) (by rw[hk,e]),O8.mono (awb _)⟩,kO,O8,Fr.trans x7 f8 (fun _ _ h=>h) (fun k hk e=>by omega)⟩,Fr.trans (Fr.trans (X4.trans (Ext.push _ _)) f7 (fun _ _ h=>h.elim) fun _ _ h=> .inr h) f8 (fun _ _ h=>h) fun _ _ h=> .inl h⟩
end
end
section
open Go.Lib (fields)
def b8(s:String):az:=s.toByteArray.data.toList.map fun c=>if c<48 then c else [47,60,62,40,41,59].getD (c.toNat-48) c
structure BI where
 nm:az
 sup:az
 fc:az
 fl:Nat
 mb:az
def bi(a b c:String)(n:Nat)(d:String):BI:=⟨b8 a,b8 b,b8 c,n,b8 d⟩
def BL:List BI:=[
 bi "java0lang0Object" "" "" 33 "1init234V -wait34V -notify34V -notifyAll34V",
 bi "java0lang0Cloneable" "java0lang0Object" "" 1537 "",
 bi "java0io0Serializable" "java0lang0Object" "" 1537 "",
 bi "java0lang0String" "java0lang0Object" "java0io0Serializable" 49 "-length34I -charAt3I4C -concat3Ljava0lang0String54Ljava0lang0String5 -intern34Ljava0lang0String5 -equals3Ljava0lang0Object54Z",
 bi "java0lang0Thread" "java0lang0Object" "" 33 "1init234V run34V -start34V -join34V .yield34V",
 bi "jvm0Out" "java0lang0Object" "" 49 ".print3I4V .print3J4V .print3F4V .print3D4V .print3C4V .print3Ljava0lang0String54V",
 bi "java0lang0Throwable" "java0lang0Object" "java0io0Serializable" 33 "1init234V",
 bi "java0lang0Exception" "java0lang0Throwable" "" 33 "1init234V",
 bi "java0lang0RuntimeException" "java0lang0Exception" "" 33 "1init234V",
 bi "java0lang0Error" "java0lang0Throwable" "" 33 "1init234V",
 bi "java0lang0LinkageError" "java0lang0Error" "" 33 "1init234V",
 bi "java0lang0IncompatibleClassChangeError" "java0lang0LinkageError" "" 33 "1init234V",
 bi "java0lang0VirtualMachineError" "java0lang0Error" "" 33 "1init234V",
 bi "java0lang0ArithmeticException" "java0lang0RuntimeException" "" 33 "1init234V",
 bi "java0lang0ArrayStoreException" "java0lang0RuntimeException" "" 33 "1init234V",
 bi "java0lang0ClassCastException" "java0lang0RuntimeException" "" 33 "1init234V",
 bi "java0lang0IllegalMonitorStateException" "java0lang0RuntimeException" "" 33 "1init234V",
 bi "java0lang0IllegalThreadStateException" "java0lang0RuntimeException" "" 33 "1init234V",
 bi "java0lang0IndexOutOfBoundsException" "java0lang0RuntimeException" "" 33 "1init234V",
 bi "java0lang0ArrayIndexOutOfBoundsException" "java0lang0IndexOutOfBoundsException" "" 33 "1init234V",
 bi "java0lang0StringIndexOutOfBoundsException" "java0lang0IndexOutOfBoundsException" "" 33 "1init234V",
 bi "java0lang0NegativeArraySizeException" "java0lang0RuntimeException" "" 33 "1init234V",
 bi "java0lang0NullPointerException" "java0lang0RuntimeException" "" 33 "1init234V",
 bi "java0lang0AbstractMethodError" "java0lang0IncompatibleClassChangeError" "" 33 "1init234V",
 bi "java0lang0IllegalAccessError" "java0lang0IncompatibleClassChangeError" "" 33 "1init234V",
 bi "java0lang0InstantiationError" "java0lang0IncompatibleClassChangeError" "" 33 "1init234V",
 bi "java0lang0NoSuchFieldError" "java0lang0IncompatibleClassChangeError" "" 33 "1init234V",
 bi "java0lang0NoSuchMethodError" "java0lang0IncompatibleClassChangeError" "" 33 "1init234V",
 bi "java0lang0UnsatisfiedLinkError" "java0lang0LinkageError" "" 33 "1init234V",
 bi "java0lang0ClassCircularityError" "java0lang0LinkageError" "" 33 "1init234V",
 bi "java0lang0ExceptionInInitializerError" "java0lang0LinkageError" "" 33 "1init234V",
 bi "java0lang0NoClassDefFoundError" "java0lang0LinkageError" "" 33 "1init234V",
 bi "java0lang0VerifyError" "java0lang0LinkageError" "" 33 "1init234V",
 bi "java0lang0OutOfMemoryError" "java0lang0VirtualMachineError" "" 33 "1init234V",
 bi "java0lang0StackOverflowError" "java0lang0VirtualMachineError" "" 33 "1init234V"]
def Lg(x:BI):List Value:=[str x.nm,str x.sup,str x.fc,ax x.fl,str x.mb]
def okB(x:BI):Bool:=eJ x.nm&&(((x.sup==[])&&(fields x.fc==[]))||eJ x.sup)&&(fields x.fc).all eJ&&(fields x.mb).all (fun f=> !(f==[])&&decide (0≤ib (mbS f) 40)&&decide (f.length≤200))&&
 (x.fc++x.mb).all (fun b=>decide (b.toNat<128))&&decide (x.fl<65536)&&decide (x.nm.length≤200)&&decide (x.sup.length≤200)&&decide (x.fc.length≤200)&&decide (x.mb.length≤200)&&decide ((fields x.mb).length≤200)&&decide ((fields x.fc).length≤200)&&(fields x.fc).all (fun f=>decide (f.length≤200))
theorem aou:BL.all okB=true:=by kernel_rfl
theorem Xi:BL.length=35:=by kernel_rfl
theorem Un{h:ar}:aF Tryz.prog 9 #[] h fun v h'=>Ext h h'∧Own h' h.size 42 5 v 35 (BL.map Lg).flatten:=by
 refine zj (args:=[]) rfl ?_;simp(config := { maxSteps := 10000000 }) (disch:=omega)only[Dm,ae,↓reduceIte,];refine aU aa4 rfl rfl (by decide) ?_;simp only[ae,seval];refine⟨Ext.push _ _,dR (Own.new (n:=35) rfl (by decide+kernel) (awp _)) rfl (by kernel_rfl)⟩
end
section
open Go.Lib (fields)
section
variable{h h':ar}{g mb:Nat}{bs:List Nat}{W:List LC}{S:LS}{rk:Nat→Nat}{c:LC}
theorem uh{base:Nat}{e:TypeId}{size n k:Nat}{v:Value}{xs:List Value}(H:Own h base e size v n xs)(hk:v.ownBlock=some k):∃cs fz,h[k]? =some (.cells cs e fz):=by
 rcases H.2 with⟨rfl,_⟩|⟨g,cap,cur,fz,rfl,_,hg,_⟩
 ·simp[Value.ownBlock]at hk
 ·simp[Value.ownBlock]at hk
  subst hk;exact⟨_,_,hg⟩
theorem OV{i:Nat}(hi:i<W.length):at' (W++[c]) i=at' W i:=by simp[at',awu,awS hi]
theorem at_eq:at' (W++[c]) W.length=c:=by simp[at']
theorem iZ{i:Nat}(hi:i<(W++[c]).length):(i<W.length∧at' (W++[c]) i=at' W i)∨(i=W.length∧at' (W++[c]) i=c):=by
 rw[awn,awt]at hi;by_cases h:i<W.length
 ·exact .inl ⟨h,OV h⟩
 ·obtain rfl:i=W.length:=by omega
  exact .inr ⟨rfl,at_eq⟩
theorem Vp:∀{W:List LC}{c:LC}{n:az},vY (W++[c]) n=match vY W n with|some i=>some i|none=>if c.nm=n then some W.length else none
 |[],c,n=>by simp[vY]
 |d::W,c,n=>by
  rw[awC,vY,vY,Vp]
  split
  ·rfl
  cases vY W n with
  |some i=>rfl
  |none=>by_cases hc:c.nm=n<;>simp[hc]
theorem ek.snoc(I:ek W S rk)(h1:eJ c.nm=true)(h2:∀i,i<W.length→(at' W i).nm≠c.nm)(h3:(c.sup=[]∧c.ifs=[])∨eJ c.sup=true)(h4:∀f∈c.ifs,eJ f=true):ek (W++[c]) (S.put W.length (0,0)) rk:=by
 have hk:∀j,kB (S.put W.length (0,0)) j→j≠W.length∧kB S j:=fun j hj=>by
  by_cases h:j=W.length
  ·subst h;unfold kB at hj;rw[fM]at hj;cases hj
  ·unfold kB at*;rw[jY h]at hj;exact⟨h,hj⟩
 have qM:∀j,j<W.length→kB S j→kB (S.put W.length (0,0)) j:=fun j h hj=>by unfold kB at*;rw[jY (by omega)];exact hj
 have hl:∀{j},j<W.length→j<(W++[c]).length:=fun h=>by rw[awn];omega
 obtain⟨o,o1,o2,o3,o4⟩:=I.ob;refine⟨⟨o,hl o1,by rw[OV o1];exact⟨o2,o3,o4⟩⟩,fun i hi=>?_,fun i hi=>?_,fun i j hi hj e=>?_,fun i hi=>?_,fun i hi=>?_,fun i hi ok hs=>?_,fun i hi ok f hf=>?_⟩
 ·rcases iZ hi with⟨h,e⟩|⟨rfl,e⟩
  ·rw[jY (by omega)];exact I.st i h
  ·rw[fM];decide
 ·rcases iZ hi with⟨h,e⟩|⟨rfl,e⟩<;>rw[e]
  ·exact I.nm i h
  ·exact h1
 ·rcases iZ hi with⟨h,e1⟩|⟨rfl,e1⟩<;>rcases iZ hj with⟨k,e2⟩|⟨rfl,e2⟩
  ·exact I.un i j h k (by rw[e1,e2]at e;exact e)
  ·exact aww (by rw[e1,e2]at e;exact e) (h2 i h)
  ·exact aww (by rw[e1,e2]at e;exact e.symm) (h2 j k)
  ·rfl
 ·rcases iZ hi with⟨h,e⟩|⟨rfl,e⟩<;>rw[e]
  ·exact I.sp i h
  ·exact h3
 ·rcases iZ hi with⟨h,e⟩|⟨rfl,e⟩<;>rw[e]
  ·exact I.ip i h
  ·exact h4
 ·have xy:i<W.length:=by have:=(hk i ok).1;rw[awn,awt]at hi;omega
  rw[OV xy]at hs⊢;obtain⟨j,a,b,d,e⟩:=I.su i xy (hk i ok).2 hs;exact⟨j,hl a,by rw[OV a];exact b,qM j a d,e⟩
 ·have xy:i<W.length:=by have:=(hk i ok).1;rw[awn,awt]at hi;omega
  rw[OV xy]at hf;obtain⟨j,a,b,d,e⟩:=I.fa i xy (hk i ok).2 f hf;exact⟨j,hl a,by rw[OV a];exact b,qM j a d,e⟩
structure PS(k:Nat)(c:LC):Prop where
 fl:c.fl<65536
 fr:∀r∈c.fds,rv c.nm k r
 mr:∀r∈c.iw,rv c.nm 6 r
 sz:c.nm.length≤1048576∧c.sup.length≤1048576∧(∀f∈c.ifs,f.length≤1048576)∧c.ifs.length≤1048576∧c.fds.length≤1048576∧c.iw.length≤1048576
theorem PW.snoc(H:PW h g mb bs W S){b:Nat}{s:Nat × Int}{vi vp vf vm:Value}(K:PC h b c s vi vp vf vm)(hb:¬b∈bs)(hnew:∀i,i<W.length→(at' W i).nm≠c.nm)
 (M:iT kN h' mb (fun n=>if n=c.nm then some (aE b)else(vY W n).map fun i=>aE (bs.getD i 0)))(f:Fr (fun k=>k=mb) h h')(ok:PS 1 c)(tf:((W++[c]).map fun c=>c.fds.length).sum≤1099511627776):PW h' g mb (bs++[b]) (W++[c]) (S.put W.length s):=by
 obtain⟨es,cl,hm,_⟩:=H.mp;have nm:∀{base e size n v xs},Own h base e size v n xs→∀k,v.ownBlock=some k→¬k=mb:=fun O k hk e=>by
  obtain⟨cs,fz,hc⟩:=uh O hk;rw[e,hm]at hc;cases hc
 have fr:∀{b c s vi vp vf vm},PC h b c s vi vp vf vm→PC h' b c s vi vp vf vm:=fun K=>K.fr f (fun e=>by have:=K.b;rw[e,hm]at this;cases this) fun k hk=>by
  rcases hk with hk|hk|hk
  ·exact nm K.i k hk
  ·exact nm K.f k hk
  ·exact nm K.m k hk
 refine⟨ay f H.w (fun e=>by have:=H.w;rw[e,hm]at this;cases this),?_,by simp[H.ln],?_,fun i hi=>?_,fun i hi=>?_,fun i hi=>?_,fun i hi=>?_,tf,fun i hi=>?_⟩
 ·have e:(fun n=>(vY (W++[c]) n).map fun i=>Value.pointer (some ⟨(bs++[b]).getD i 0,0,none⟩))=(fun n=>if n=c.nm then some (aE b)else(vY W n).map fun i=>aE (bs.getD i 0)):=by
   funext n
   rw[Vp];cases hx:vY W n with
   |some i=>
    obtain⟨h1,h2⟩:=Aa hx;rw[av9 (fun e=>hnew i h1 (h2.trans e))];have:i<bs.length:=by rw[H.ln];exact h1
    simp[awu,awS this]
   |none=>
    by_cases e:n=c.nm
    ·rw[awa e,awa e.symm]
     simp[←H.ln]
    ·rw[av9 e,av9 (Ne.symm e)];rfl
  rw[e];exact M
 ·rw[List.nodup_append]
  exact⟨H.nd,by simp,fun x hx y hy e=>hb (by rw[awf.1 hy]at e;exact e▸hx)⟩
 ·rcases iZ hi with⟨h,e⟩|⟨rfl,e⟩<;>rw[e]
  ·have:i<bs.length:=by rw[H.ln];exact h
   rw[jY (by omega),show(bs++[b]).getD i 0=bs.getD i 0 by simp[awu,awS this]];obtain⟨a,b,c,d,K⟩:=H.cl i h;exact⟨a,b,c,d,fr K⟩
  ·rw[fM,show(bs++[b]).getD W.length 0=b by simp[←H.ln]]
   exact⟨_,_,_,_,fr K⟩
 ·rcases iZ hi with⟨h,e⟩|⟨rfl,e⟩<;>rw[e]
  ·exact H.fl i h
  ·exact ok.fl
 ·rcases iZ hi with⟨h,e⟩|⟨rfl,e⟩<;>rw[e]
  ·exact H.fr i h
  ·exact ok.fr
 ·rcases iZ hi with⟨h,e⟩|⟨rfl,e⟩<;>rw[e]
  ·exact H.mr i h
  ·exact ok.mr
 ·rcases iZ hi with⟨h,e⟩|⟨rfl,e⟩<;>rw[e]
  ·exact H.sz i h
  ·exact ok.sz
end
end
section
open Go.Lib (fields)
abbrev SK:=az × az × List (az)
def LC.sk(c:LC):SK:=(c.nm,c.sup,c.ifs)
def okQ(q:SK):Bool:=eJ q.1&&(((q.2.1==[])&&(q.2.2==[]))||eJ q.2.1)&&q.2.2.all eJ
def S0:LS:=fun _=>(0,0)
theorem ac1{i:Nat}:S0.put i (0,0)=S0:=by funext j;unfold LS.put S0;split<;>rfl
theorem ek.init{W:List LC}{Q:List SK}(h:W.map LC.sk=Q)(hq:Q.all okQ=true)(nd:(Q.map (·.1)).Nodup)(ob:Q.head?=some (nt,[],[])):ek W S0 fun _=>0:=by
 subst h;have all:∀i,i<W.length→okQ (at' W i).sk=true:=fun i hi=>by
  have:at' W i∈W:=by simp[at',hi]
  exact List.all_eq_true.1 hq _ (List.mem_map_of_mem this)
 have sp:∀i,i<W.length→eJ (at' W i).nm=true∧(((at' W i).sup=[]∧(at' W i).ifs=[])∨eJ (at' W i).sup=true)∧∀f∈(at' W i).ifs,eJ f=true:=fun i hi=>by
  have:=all i hi;unfold okQ LC.sk at this;simp only[awm,awX,beq_iff_eq,List.all_eq_true]at this;exact⟨this.1.1,this.1.2,this.2⟩
 have no:∀i,¬kB S0 i:=fun i h=>by cases(show((0,0):Nat × Int)=(2,0)from h)
 refine⟨?_,fun i _=>awb _,fun i hi=>(sp i hi).1,fun i j hi hj e=>?_,fun i hi=>(sp i hi).2.1,fun i hi=>(sp i hi).2.2,fun i _ h=>aww h (no i),fun i _ h=>aww h (no i)⟩
 ·cases W with
  |nil=>cases ob
  |cons c W=>
   simp only[awH,List.head?_cons,awe,LC.sk,aw8]at ob;exact⟨0,by simp,ob.1,ob.2.1,ob.2.2⟩
 ·have xy:i<((W.map LC.sk).map (·.1)).length:=by simpa using hi
  have hj':j<((W.map LC.sk).map (·.1)).length:=by simpa using hj
  refine(List.getElem_inj (h₀:=xy) (h₁:=hj') nd).1 ?_;simpa[at',hi,hj,LC.sk]using e
def JF(W:List LC)(n:az):Prop:=∃i,i<W.length∧(at' W i).nm=n
theorem G8{W:List LC}{n:az}:JF W n↔n∈W.map (·.nm):=by
 rw[List.mem_map];refine⟨fun⟨i,hi,e⟩=>⟨at' W i,by simp[at',hi],e⟩,fun⟨c,hc,e⟩=>?_⟩;obtain⟨i,hi,rfl⟩:=List.getElem_of_mem hc;exact⟨i,hi,by simpa[at',hi]using e⟩
theorem To{W:List LC}{c:LC}{n:az}:JF (W++[c]) n↔JF W n∨c.nm=n:=by
 rw[G8,G8,List.map_append,awi];simp[eq_comm]
theorem Vq{bs:List Nat}{W:List LC}{n:az}:(vK bs W n=none∧¬JF W n)∨∃i,i<W.length∧(at' W i).nm=n∧vK bs W n=some ⟨bs.getD i 0,0,none⟩:=by
 unfold vK;cases hx:vY W n with
 |none=>exact .inl ⟨rfl,fun⟨i,hi,e⟩=>OM hx i hi e⟩
 |some i=>obtain⟨h1,h2⟩:=Aa hx;exact .inr ⟨i,h1,h2,rfl⟩
def skB(b:BI):SK:=(b.nm,b.sup,fields b.fc)
def BQ:List SK:=BL.map skB
theorem aov:BQ.all okQ=true:=by kernel_rfl
theorem aiM:(BQ.map (·.1)).Nodup:=by decide+kernel
theorem aow:BQ.head?=some (nt,[],[]):=by kernel_rfl
theorem uz:∀{W:List LC},(∀c∈W,c.fds=[])→(W.map fun c=>c.fds.length).sum=0
 |[],_=>rfl
 |c::W,h=>by
  have:=uz (W:=W) fun c hc=>h c (by simp[hc]);simp only[awH,List.sum_cons,h c (by simp),awM];omega
section
variable{h:ar}{g mb:Nat}{bs:List Nat}{W:List LC}{S:LS}
theorem PW.cells(H:PW h g mb bs W S){k:Nat}(hk:k∈bs):∃cs fz,h[k]? =some (.cells cs 50 fz):=by
 obtain⟨j,hj,rfl⟩:=List.getElem_of_mem hk;obtain⟨_,_,_,_,L⟩:=H.cl j (by rw[←H.ln];exact hj);exact⟨_,_,by have:=L.b;simpa[hj]using this⟩
end
end
end Go.Proofs.YtmbboehmnfhjjaaGreatDoor
