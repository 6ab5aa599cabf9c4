/- Layout, by the program: it ends; the list is new. The reference's world of classes in memory; Class, core, pack, Seen. Load, by the reference: it ends, and what it finds right is right. What is above a class, in a list, by the reference: in, ups. -/
import Derived.Test.YtmbboehmnfhjjaaGreatDoorU33
import Derived.Test.YtmbboehmnfhjjaaGreatDoorU32
import Derived.Test.YtmbboehmnfhjjaaGreatDoorU8
import Derived.Test.YtmbboehmnfhjjaaGreatDoorU13
set_option maxRecDepth 100000
set_option maxHeartbeats 16000000
set_option linter.unusedSimpArgs false
set_option linter.unusedVariables false
set_option linter.defProp false
namespace Go.Proofs.YtmbboehmnfhjjaaGreatDoor
open Go.Vc
section
def ry(rk:Nat→Nat)(r:Nat):List LC→Nat→Nat
 |[],_=>0
 |c::W,i=>(if rk i<r then c.fds.length else 0)+ry rk r W (i+1)
theorem GL{rk:Nat→Nat}{r:Nat}:∀(W:List LC)(i:Nat),ry rk r W i≤(W.map fun c=>c.fds.length).sum
 |[],_=>awp _
 |c::W,i=>by
  have:=GL (rk:=rk) (r:=r) W (i+1);simp only[ry,awH,List.sum_cons]
  split<;>omega
theorem Lf{rk:Nat→Nat}{r s:Nat}(h:r≤s):∀(W:List LC)(i:Nat),ry rk r W i≤ry rk s W i
 |[],_=>awp _
 |c::W,i=>by
  have:=Lf (rk:=rk) h W (i+1);simp only[ry]
  split<;>split<;>omega
theorem OQ{rk:Nat→Nat}{r s:Nat}(hrs:r<s):∀(W:List LC)(i j:Nat),j<W.length→rk (i+j)=r→ry rk r W i+(W.getD j LC0).fds.length≤ry rk s W i
 |[],_,j,hj,_=>aww hj (awq _)
 |c::W,i,0,_,hk=>by
  have:=Lf (rk:=rk) (Nat.le_of_lt hrs) W (i+1);simp only[ry,List.getD_cons_zero];simp only[aw3]at hk;rw[av9 (by omega),awa (by omega)];omega
 |c::W,i,j+1,hj,hk=>by
  have:=OQ (rk:=rk) hrs W (i+1) j (by simpa using hj) (by rw[←hk];congr 1;omega);simp only[ry,List.getD_cons_succ]
  split<;>split<;>omega
def ZN(r:List Value):Prop:=∃(c n t:az)(f:Nat),r=[str c,str n,str t,ax f]
theorem GM{h:ar}{b1 b2:Nat}{e1 e2:TypeId}{s1 s2 n1 n2 k:Nat}{v1 v2:Value}{xs1 xs2:List Value}(A:Own h b1 e1 s1 v1 n1 xs1)(B:Own h b2 e2 s2 v2 n2 xs2)(cN:e1≠e2)(h1:v1.ownBlock=some k)(h2:v2.ownBlock=some k):False:=by
 rcases B.2 with⟨rfl,_⟩|⟨g,cap,cur,fz,rfl,_,hg,_⟩
 ·simp[Value.ownBlock]at h2
 ·simp[Value.ownBlock]at h2
  subst h2;exact bK A hg cN h1
def acY(h h':ar)(v:Value)(L:List (List Value)):Prop:=Ext h h'∧Own h' h.size 72 4 v L.length L.flatten∧∀r∈L,ZN r
section
variable{h h':ar}{g mb:Nat}{bs:List Nat}{W:List LC}{S:LS}{rk:Nat→Nat}
theorem ZO(I:ek W S rk):∀(r:Nat)(h:ar)(i:Nat),PW h g mb bs W S→rk i<r→i<W.length→kB S i→
 aF Tryz.prog 63 #[aE g,str (at' W i).nm] h fun v h'=>∃L,acY h h' v L∧L.length≤ry rk (rk i+1) W 0:=by
 intro r
 induction r with
 |zero=>intro h i _ hr;exact aww hr (awq _)
 |succ r ih=>
 intro h i H hri hi ho;refine Dv (args:=[aE g,str (at' W i).nm]) rfl ?_;have m0:=H.m0;have lk:=H.lkS I hi;obtain⟨vi,vp,vf,vm,K⟩:=H.cl i hi;have c1:=K.c1;have tot:=GL (rk:=rk) (r:=rk i+1) W 0;have aro:ry rk (rk i) W 0+(at' W i).fds.length≤ry rk (rk i+1) W 0:=OQ (rk:=rk) (Nat.lt_succ_self (rk i)) W 0 i hi (by simp);have hle:=H.tf;have loop:∀(h1:ar)(v:Value)(L:List (List Value))(x7:Value),acY h h1 v L→L.length≤ry rk (rk i) W 0→
  Cd.vc Tryz.prog Kq (gP Tryz.prog [(4,none)] fun v h'=>∃L,acY h h' v L∧L.length≤ry rk (rk i+1) W 0) [(0,aE g),(1,str (at' W i).nm),(4, .slice none 0 0),(5,aE (bs.getD i 0)),(6,v),(8,undef),(19,x7),(29,undef),(30,undef),(31,undef),(32,undef),(39,undef)] h1:=by
  intro h1 v L x7 hN hLl;obtain⟨x1,hO,hR⟩:=hN;have K1:=PC.fr K x1 awx fun _ _=>awx;have c5:=K1.c5;have O1:=K1.f;obtain⟨_,ma,mc,rfl,_⟩:=id O1.dQ;have hr:=H.fr i hi;have vb:∀r∈(at' W i).fds,r.length=5:=fun r hm=>by obtain⟨_,_,_,l,rfl,hl,_⟩:=hr r hm;simp[hl]
  simp only[gd,ae,seval,Dy,c5];refine aG [6,29,30,31] (fun m ρ hc=>∃(k:Nat)(v:Value)(L':List (List Value)),m=(at' W i).fds.length-k∧k≤(at' W i).fds.length∧ρ=[(6,v),(29, .slice ma (at' W i).fds.length mc),(30,ao ((at' W i).fds.length:Int)),(31,ao k)]∧
   Own hc h.size 72 4 v L'.length L'.flatten∧(∀r∈L',ZN r)∧L'.length≤L.length+k∧Ext h hc∧Own hc 0 105 5 (.slice ma (at' W i).fds.length mc) (at' W i).fds.length (at' W i).fds.flatten) ?_ ?_
  case refine_1=>
   simp only[ae,seval];exact⟨_,0,v,L,rfl,awb _,rfl,hO,hR,awp _,x1,O1⟩
  rintro m ρ hc⟨k,v,L',rfl,hk,rfl,hO,hR,hL',xc,Oc⟩;by_cases aV:k<(at' W i).fds.length
  case neg=>
   have aK:¬(k:Int)<((at' W i).fds.length:Int):=by omega
   simp only[gd,ae,seval,aK];exact⟨L',⟨xc,hO,hR⟩,by omega⟩
  have aK:(k:Int)<((at' W i).fds.length:Int):=by omega
  obtain⟨b1,c1,heq,di⟩:=qV Oc vb aV;cases heq;obtain⟨n',t',f,l,pf,Ld,AR⟩:=hr _ (show(at' W i).fds.getD k []∈_ by simp[aV]);rw[pf]at di
  match l,Ld with
  |[u1],_=>
   have bm:=aS Rc di rfl;simp(disch:=omega)only[gd,ae,seval,aK,bm];refine aD AJ ?_;simp only[ae,seval];refine aI AJ rfl rfl rfl (cS AR) rfl ?_;intro h2 x2 ji _ b2;have O2:=hO.ext x2;have Oc2:=Oc.ext x2;have X2:=xc.trans x2;generalize hc.size=p at*;have e3:cellAt h2 ⟨p,3,none⟩=some (ax f):=by rw[au b2];rfl
   have w1:=gU (k:=k) (by omega);by_cases f8:cB .and .u16 (f:Int) 8=0
   case neg=>
    simp only[gd,ae,seval,e3,av7 f8,w1];exact⟨_,by omega,k+1,v,L',rfl,by omega,rfl,O2,hR,by omega,X2,Oc2⟩
   have j7:ld Tryz.prog 72 ⟨p,0,none⟩ h2=some (.agg #[str (at' W i).nm,str n',str t',ax f]):=aS cC ((aN b2).sub 0 4) rfl;simp only[gd,ae,seval,e3,av8 f8,j7];refine aU rE rfl rfl (by decide) ?_;simp only[ae,seval];have gB:=X2.size;refine bF (m:=1) rE rfl rfl (O2.push _) rfl (bV (vs:=[str (at' W i).nm,str n',str t',ax f])) (by intro u hu;simp only[awL,awP,aw6]at hu;rcases hu with rfl|rfl|rfl|rfl<;>rfl) (by omega) (by omega) (by simp;omega) ?_
   intro v' h' iV nI _;simp only[gd,ae,seval,w1];refine⟨_,by omega,k+1,v',L'++[[str (at' W i).nm,str n',str t',ax f]],rfl,by omega,rfl,?_,fun r hm=>?_,by simp only[awn,awt];omega,Ext.app (X2.trans (Ext.push _ _)) nI (fun k hk=>by have:=(O2.lt k hk).1;simpa using this),?_⟩
   ·simpa using iV
   ·rcases awi.1 hm with h|h
    ·exact hR r h
    ·rw[awf.1 h];exact⟨_,n',t',f,rfl⟩
   ·exact(Oc2.push _).fr nI fun k hk hv=>GM Oc2 O2 (by decide) hk hv
 by_cases hs:(at' W i).sup=[]
 ·simp only[gd,ae,seval,m0,lk,c1,av8 hs]
  exact loop h _ [] _ ⟨Ext.refl _,Own.nil,fun r hr=>by cases hr⟩ (awb _)
 ·obtain⟨j,hj,W5,GG,hjr⟩:=I.su i hi ho hs
  have td:=c1;rw[←W5]at td;have cN:=hs;rw[←W5]at cN;simp only[gd,ae,seval,m0,lk,td,av7 cN];refine aj rfl (ih h j H (by omega) hj GG) ?_;rintro v h1⟨L,hN,hL⟩;simp only[ae,seval];exact loop h1 _ L _ hN (awG hL (Lf (by omega) W 0))
def aly(h h':ar)(v:Value):Prop:=∃(e:Int)(u:Value)(L:List (List Value)),v= .tuple #[u,ao e]∧Own h' h.size 72 4 u L.length L.flatten∧(∀r∈L,ZN r)∧L.length≤1099511627776
theorem ZP(H:PW h g mb bs W S)(I:ek W S rk)(s:az)(hl:s.length≤1048576):
 aF Tryz.prog 27 #[aE g,str s] h fun v h'=>∃S' mo,gR g mb bs W S h h' S' mo∧aly h h' v:=by
 refine Du (args:=[aE g,str s]) rfl ?_;simp only[lW,ae,seval];refine aj rfl (vM H I s hl) ?_;rintro _ h1⟨S1,r1,P1,e,rfl,o1⟩;by_cases he:e=0
 case neg=>
  simp only[lW,ae,seval,av7 he];exact⟨S1,r1,P1,e,_,[],rfl,Own.nil,(fun r hr=>by cases hr),awb _⟩
 have IU:=o1 he;subst he;have cN:=lL IU.1;have pa:(0:Int)<(s.length:Int):=by have:=awr.2 cN;omega
 have ea:((s.getD 0 0).toNat:Int)=91↔s.head?=some 91:=oN (c:=91) cN;by_cases hc:s.head?=some 91
 ·have fa:=ea.2 hc
  simp(disch:=omega)only[lW,ae,seval,fa];exact⟨S1,r1,P1,_,_,[],rfl,Own.nil,(fun r hr=>by cases hr),awb _⟩
 have fa:¬((s.getD 0 0).toNat:Int)=91:=fun x=>hc (ea.1 x);obtain⟨i,hi,rfl,GJ⟩:=ug IU hc;simp(disch:=omega)only[lW,ae,seval,av7 fa];refine aj rfl (ZO P1.2.1 _ h1 i P1.1 (Nat.lt_succ_self _) hi GJ) ?_;rintro v h2⟨L,⟨x2,hO,hR⟩,hL⟩;simp only[ae,seval];exact⟨S1,r1,P1.trans (gR.ext P1.1 P1.2.1 x2),_,v,L,rfl,hO.mono P1.2.2.2.size,hR,awG hL (awG (GL W 0) P1.1.tf)⟩
end
end
section
def acZ(c:LC)(s:Nat × Int)(vi vp vf vv vm vo:Value):List Value:=[str c.nm,str c.sup,vi,ax c.fl,vp,vf,vv,vm,vo,ao s.1,ao s.2]
structure RC(h:ar)(b:Nat)(c:LC)(s:Nat × Int)(vi vp vf vv vm vo:Value):Prop where
 b:h[b]? =some (.cells (acZ c s vi vp vf vv vm vo).toArray 62)
 i:Own h 0 9 1 vi c.ifs.length (c.ifs.map str)
 f:Own h 0 72 4 vf c.fds.length c.fds.flatten
 m:Own h 0 92 10 vm c.iw.length c.iw.flatten
def fh(b:Nat):Value:=aE b
structure RW(h:ar)(g:Nat)(vL:Value)(bs:List Nat)(W:List LC)(S:LS):Prop where
 w:h[g]? =some (.cells #[vL] 55)
 l:Own h 0 56 1 vL bs.length (bs.map fh)
 ln:bs.length=W.length
 nd:bs.Nodup
 cl:∀i,i<W.length→∃vi vp vf vv vm vo,RC h (bs.getD i 0) (at' W i) (S i) vi vp vf vv vm vo
 fl:∀i,i<W.length→(at' W i).fl<65536
 fr:∀i,i<W.length→∀r∈(at' W i).fds,rv (at' W i).nm 0 r
 mr:∀i,i<W.length→∀r∈(at' W i).iw,rv (at' W i).nm 6 r
 tf:(W.map fun c=>c.fds.length).sum≤1099511627776
 tn:W.length≤1048576
 sz:∀i,i<W.length→(at' W i).nm.length≤1048576∧(at' W i).sup.length≤1048576∧(∀f∈(at' W i).ifs,f.length≤1048576)∧(at' W i).ifs.length≤1048576∧(at' W i).fds.length≤1048576∧(at' W i).iw.length≤1048576
section
variable{h h':ar}{g:Nat}{vL:Value}{bs:List Nat}{W:List LC}{S:LS}{rk:Nat→Nat}
theorem RW.ext(H:RW h g vL bs W S)(x:Ext h h'):RW h' g vL bs W S:=
 ⟨ay x H.w awx,H.l.ext x,H.ln,H.nd,fun i hi=>by obtain⟨a,b,c,d,e,f,p⟩:=H.cl i hi;exact⟨a,b,c,d,e,f,ay x p.b awx,p.i.ext x,p.f.ext x,p.m.ext x⟩,H.fl,H.fr,H.mr,H.tf,H.tn,H.sz⟩
section
variable{b:Nat}{c:LC}{s:Nat × Int}{vi vp vf vv vm vo:Value}
theorem RC.nf(H:RC h b c s vi vp vf vv vm vo)(o:Nat):frozenAt h ⟨b,o,none⟩=false:=by
 unfold frozenAt;dsimp only;rw[H.b];simp
theorem RC.c0(H:RC h b c s vi vp vf vv vm vo):cellAt h ⟨b,0,none⟩=some (str c.nm):=by rw[au H.b];rfl
theorem RC.c1(H:RC h b c s vi vp vf vv vm vo):cellAt h ⟨b,1,none⟩=some (str c.sup):=by rw[au H.b];rfl
theorem RC.c2(H:RC h b c s vi vp vf vv vm vo):cellAt h ⟨b,2,none⟩=some vi:=by rw[au H.b];rfl
theorem RC.c3(H:RC h b c s vi vp vf vv vm vo):cellAt h ⟨b,3,none⟩=some (ax c.fl):=by rw[au H.b];rfl
theorem RC.c5(H:RC h b c s vi vp vf vv vm vo):cellAt h ⟨b,5,none⟩=some vf:=by rw[au H.b];rfl
theorem RC.c7(H:RC h b c s vi vp vf vv vm vo):cellAt h ⟨b,7,none⟩=some vm:=by rw[au H.b];rfl
theorem RC.c9(H:RC h b c s vi vp vf vv vm vo):cellAt h ⟨b,9,none⟩=some (ao s.1):=by rw[au H.b];rfl
theorem RC.c10(H:RC h b c s vi vp vf vv vm vo):cellAt h ⟨b,10,none⟩=some (ao s.2):=by rw[au H.b];rfl
end
theorem RW.l0(H:RW h g vL bs W S):cellAt h ⟨g,0,none⟩=some vL:=by rw[au H.w];rfl
theorem ach{n:az}(hn:∀t,t<W.length→(at' W t).nm≠n):vK bs W n=none:=by
 rcases sS (bs:=bs) (W:=W) n with e|⟨i,hi,h,_⟩
 ·exact e
 ·exact aww h (hn i hi)
theorem fT(H:RW h g vL bs W S)(I:ek W S rk)(n:az):aF Tryz.prog 41 #[aE g,str n] h fun v h'=>h'=h∧v= .pointer (vK bs W n):=by
 refine Ks (args:=[aE g,str n]) rfl ?_;have l0:=H.l0;have O:=H.l;obtain⟨_,la,lc,rfl,_⟩:=id O.dQ;have ln:=H.ln;simp only[ov,ae,seval,l0];refine aG [0,1,4,10,11,12] (fun m ρ hc=>∃k:Nat,m=bs.length-k∧k≤bs.length∧ρ=[(0,aE g),(1,str n),(4, .pointer none),(10, .slice la bs.length lc),(11,ao bs.length),(12,ao k)]∧hc=h∧∀t,t<k→(at' W t).nm≠n) ?_ ?_
 case refine_1=>
  simp only[ae,seval];exact⟨_,0,rfl,awb _,rfl,fun t ht=>aww ht (awq _)⟩
 rintro m ρ hc⟨k,rfl,hk,rfl,rfl,mX⟩;by_cases aV:k<bs.length
 case neg=>
  have aK:¬(k:Int)<(bs.length:Int):=by omega
  simp only[ov,ae,seval,aK];rw[ach fun t ht=>mX t (by omega)]
 have aK:(k:Int)<(bs.length:Int):=by omega
 obtain⟨b1,p1,td,fD,_,eR⟩:=O.sl.at (i:=k) (by simpa using aV);rw[awk]at fD;cases fD;have e1:cellAt hc ⟨b1,p1+k,none⟩=some (aE (bs.getD k 0)):=by rw[eR];simp[aV,fh]
 have hkw:k<W.length:=by omega
 obtain⟨vi,vp,vf,vv,vm,vo,K⟩:=H.cl k hkw;have c0:=K.c0;have tn:=H.tn;have w1:=gU (k:=k) (by omega);by_cases hn:(at' W k).nm=n
 ·simp(disch:=omega)only[ov,ae,seval,aK,e1,c0,av8 hn]
  rw[←hn,iz I hkw]
 ·simp(disch:=omega)only[ov,ae,seval,aK,e1,c0,av7 hn,w1]
  refine⟨_,by omega,k+1,rfl,by omega,rfl,fun t ht=>?_⟩;rcases Nat.lt_succ_iff_lt_or_eq.1 ht with h|rfl
  ·exact mX t h
  ·exact hn
def jo(s:az):az × Bool:=if dq s=0 then(s,true)else if dq s+2<s.length∧(s.drop (dq s)).head?=some 76 then((s.take (s.length-1)).drop (dq s+1),true)else([],false)
theorem aci{s:az}(hc:jA s=true):jo s=if kU s=true then([],false)else(jm s,true):=by
 by_cases h0:dq s=0
 ·simp[jo,kU,jm,h0]
 ·have hl:=G2 s
  have bm:(s.drop (dq s)).length=s.length-dq s:=aws;by_cases sK:(s.drop (dq s)).head?=some 76
  ·have hv:kU s=false:=by unfold kU;rw[sK];simp
   have h2:=((Bb hc).2 hv).2 h0;have e1:jo s=((s.take (s.length-1)).drop (dq s+1),true):=by unfold jo;rw[av9 h0,awa ⟨by omega,sK⟩]
   have e2:jm s=((s.drop (dq s)).take ((s.drop (dq s)).length-1)).drop 1:=by unfold jm;rw[awa ⟨h0,sK,h2⟩]
   rw[e1,e2,hv,bm,List.drop_take,List.drop_take,awN];rw[av9 (by simp)]
   congr 2;omega
  ·have hv:kU s=true:=by unfold kU;rw[awh h0,awh sK];rfl
   unfold jo;rw[av9 h0,hv,awa rfl,av9 fun x=>sK x.2]
theorem akS{s:az}:∀{k:Nat},k<dq s→s.getD k 0=91:=by
 induction s with
 |nil=>intro k hk;exact aww hk (awq _)
 |cons b r ih=>
  intro k hk;rw[dq]at hk
  split at hk
  ·rename_i hb
   cases k with
   |zero=>exact hb
   |succ k=>exact ih (by omega)
  ·exact aww hk (awq _)
theorem akT{s:az}(h:dq s<s.length):s.getD (dq s) 0≠91:=by
 induction s with
 |nil=>exact aww h (awq _)
 |cons b r ih=>
  rw[dq]at h⊢
  split
  ·rename_i hb
   rw[awa hb]at h;exact ih (by simpa using h)
  ·rename_i hb;exact hb
theorem OT{h:ar}(s:az)(hl:s.length≤1073741824):aF Tryz.prog 48 #[str s] h fun v h'=>h'=h∧v= .tuple #[str (jo s).1, .bool (jo s).2]:=by
 refine Mk (args:=[str s]) rfl ?_;have hnl:=G2 s;simp only[ja,ae,seval];refine aG [0,2,3,4] (fun m ρ hc=>∃k:Nat,m=dq s-k∧k≤dq s∧ρ=[(0,str s),(2,str []),(3, .bool false),(4,ao k)]∧hc=h) ?_ ?_
 case refine_1=>
  simp only[ae,seval];exact⟨_,0,rfl,awb _,rfl⟩
 rintro m ρ hc⟨k,rfl,hk,rfl,rfl⟩;by_cases aV:k<dq s
 ·have f1:(k:Int)<(s.length:Int):=by omega
  have f2:((s.getD k 0).toNat:Int)=91:=by rw[akS aV];rfl
  have w1:=gU (k:=k) (by omega);simp(disch:=omega)only[ja,ae,seval,f1,f2,w1];exact⟨_,by omega,k+1,rfl,by omega,rfl⟩
 have hke:k=dq s:=by omega
 subst hke;have bytes:∀{b c:UInt8},¬b=c→¬(b.toNat:Int)=(c.toNat:Int):=fun hb e=>hb (UInt8.toNat_inj.1 (by omega));have YJ:IntKind.i64.wrap ((dq s:Int)+2)=(dq s:Int)+2:=wrap_i64 (by omega) (by omega);have hw1:IntKind.i64.wrap ((dq s:Int)+1)=((dq s+1:Nat):Int):=by rw[wrap_i64 (by omega) (by omega)];omega
 have hwl:0<s.length→IntKind.i64.wrap ((s.length:Int)-1)=((s.length-1:Nat):Int):=fun hp=>by rw[wrap_i64 (by omega) (by omega)];omega
 have hhd:dq s<s.length→((s.drop (dq s)).head?=some 76↔((s.getD (dq s) 0).toNat:Int)=76):=fun hp=>by
  rw[List.head?_drop,awu,awJ hp,Option.getD_some,awe];exact⟨fun e=>by rw[e];rfl,fun e=>UInt8.toNat_inj.1 (by have:((76:UInt8).toNat:Int)=76:=rfl;omega)⟩
 by_cases h1:dq s<s.length
 case neg=>
  have f1:¬(dq s:Int)<(s.length:Int):=by omega
  by_cases h0:dq s=0
  ·have g0:(dq s:Int)=0:=by omega
   have e:jo s=(s,true):=by unfold jo;rw[awa h0]
   simp only[ja,ae,seval,av7 f1,av8 g0,e]
  ·have g0:¬(dq s:Int)=0:=by omega
   have g2:¬(dq s:Int)+2<(s.length:Int):=by omega
   have e:jo s=([],false):=by unfold jo;rw[av9 h0,av9 fun x=>by omega]
   simp only[ja,ae,seval,av7 f1,av7 g0,YJ,av7 g2,e]
 have f1:(dq s:Int)<(s.length:Int):=by omega
 have f2:¬((s.getD (dq s) 0).toNat:Int)=91:=bytes (c:=91) (akT h1);by_cases h0:dq s=0
 ·have g0:(dq s:Int)=0:=by omega
  have e:jo s=(s,true):=by unfold jo;rw[awa h0]
  simp(disch:=omega)only[ja,ae,seval,f1,av7 f2,av8 g0,e]
 have g0:¬(dq s:Int)=0:=by omega
 by_cases h2:dq s+2<s.length
 case neg=>
  have g2:¬(dq s:Int)+2<(s.length:Int):=by omega
  have e:jo s=([],false):=by unfold jo;rw[av9 h0,av9 fun x=>h2 x.1]
  simp(disch:=omega)only[ja,ae,seval,f1,av7 f2,av7 g0,YJ,av7 g2,e]
 have g2:(dq s:Int)+2<(s.length:Int):=by omega
 by_cases sK:((s.getD (dq s) 0).toNat:Int)=76
 ·have e:jo s=((s.take (s.length-1)).drop (dq s+1),true):=by unfold jo;rw[av9 h0,awa ⟨h2,(hhd h1).2 sK⟩]
  have wl:=hwl (by omega);simp(disch:=omega)only[ja,ae,seval,f1,av7 f2,av7 g0,YJ,av8 g2,av8 sK,hw1,wl,e]
 ·have e:jo s=([],false):=by unfold jo;rw[av9 h0,av9 fun x=>sK ((hhd h1).1 x.2)]
  simp(disch:=omega)only[ja,ae,seval,f1,av7 f2,av7 g0,YJ,av8 g2,av7 sK,e]
theorem rU{h:ar}(s:az)(hl:s.length≤1073741824):aF Tryz.prog 119 #[str s] h fun v h'=>h'=h∧∃t,v=str t:=by
 refine Ml (args:=[str s]) rfl ?_;simp only[mM,ae,seval];refine aj rfl (OT s hl) ?_;rintro _ h1⟨rfl,rfl⟩;have hle:(jo s).1.length≤1073741824:=by
  unfold jo
  split
  ·exact hl
  split
  ·simp only[aws,awz];omega
  ·simp
 generalize(jo s).1=t,(jo s).2=b at*;have w0:IntKind.i64.wrap ((t.length:Int)-1)=(t.length:Int)-1:=wrap_i64 (by omega) (by omega);simp only[mM,ae,seval,w0];refine aG [0,2,3,5] (fun m ρ hc=>∃i:Int,m=(i+1).toNat∧-1≤i∧i<t.length∧ρ=[(0,str s),(2,str []),(3,str t),(5,ao i)]∧hc=h1) ?_ ?_
 case refine_1=>
  simp only[ae,seval];exact⟨_,(t.length:Int)-1,rfl,by omega,by omega,rfl⟩
 rintro m ρ hc⟨i,rfl,hi1,hi2,rfl,rfl⟩;by_cases hi:0≤i
 ·by_cases he:((t.getD i.toNat 0).toNat:Int)=47
  ·have alz:i≤(t.length:Int):=by omega
   simp(disch:=omega)only[mM,ae,seval,av8 hi,av8 he,];exact⟨_,rfl⟩
  ·have w1:IntKind.i64.wrap (i-1)=i-1:=wrap_i64 (by omega) (by omega)
   simp(disch:=omega)only[mM,ae,seval,av8 hi,av7 he,w1];exact⟨(i-1+1).toNat,by omega,i-1,rfl,by omega,by omega,rfl⟩
 ·simp only[mM,ae,seval,av7 hi]
  exact⟨_,rfl⟩
theorem alA{h:ar}{x y:Operand}:ej Tryz.prog .eql 56 x y (.pointer none) (.pointer none) h=some (.bool true):=oW (a:=none) Tryz.underlying56
theorem ZQ{h:ar}{a:Addr}{x y:Operand}:ej Tryz.prog .eql 56 x y (.pointer (some a)) (.pointer none) h=some (.bool false):=oW (a:=some a) Tryz.underlying56
theorem Tj(H:RW h g vL bs W S)(I:ek W S rk)(a n:az)(ha:a.length≤1073741824)(hl:n.length≤1073741824):
 aF Tryz.prog 112 #[aE g,str a,str n] h fun v h'=>h'=h∧∃b,v= .bool b:=by
 refine Mn (args:=[aE g,str a,str n]) rfl ?_;simp only[k8,ae,seval];refine aj rfl (OT n hl) ?_;rintro _ h⟨rfl,rfl⟩;have hle:(jo n).1.length≤1073741824:=by
  unfold jo
  split
  ·exact hl
  split
  ·simp only[aws,awz];omega
  ·simp
 generalize(jo n).1=t,(jo n).2=b at*;cases b
 ·simp only[k8,ae,seval]
  exact⟨_,rfl⟩
 simp only[k8,ae,seval];refine aj rfl (fT H I t) ?_;rintro _ h⟨rfl,rfl⟩;rcases sS (bs:=bs) (W:=W) t with e|⟨i,hi,_,e⟩
 ·rw[e]
  simp only[k8,ae,seval,alA];exact⟨_,rfl⟩
 ·rw[e]
  obtain⟨vi,vp,vf,vv,vm,vo,K⟩:=H.cl i hi;have c3:=K.c3;by_cases hf:cB .and .u16 ((at' W i).fl:Int) 1=0
  ·simp only[k8,ae,seval,ZQ,c3,av8 hf]
   refine aj rfl (rU a ha) ?_;rintro _ h⟨rfl,t1,rfl⟩;simp only[ae,seval];refine aj rfl (rU t hle) ?_;rintro _ h⟨rfl,t2,rfl⟩;simp only[ae,seval];exact⟨_,rfl⟩
  ·simp only[k8,ae,seval,ZQ,c3,av7 hf]
   exact⟨_,rfl⟩
end
end
section
section
variable{h h':ar}{g:Nat}{vL:Value}{bs:List Nat}{W:List LC}{S:LS}{rk:Nat→Nat}
theorem RW.own(H:RW h g vL bs W S){base:Nat}{e:TypeId}{size n:Nat}{v:Value}{xs:List Value}(O:Own h base e size v n xs)(he:e≠62)(f:Fr (fun k=>k∈bs) h h'):Own h' base e size v n xs:=
 O.fr f fun k hk hm=>by
  obtain⟨j,hj,rfl⟩:=List.getElem_of_mem hm;obtain⟨_,_,_,_,_,_,L⟩:=H.cl j (by rw[←H.ln];exact hj);refine bK O L.b he ?_;rw[hk];simp[hj]
theorem RW.upd(H:RW h g vL bs W S){i:Nat}(hi:i<W.length){s':Nat × Int}{vi vp vf vv vm vo:Value}(K:RC h (bs.getD i 0) (at' W i) (S i) vi vp vf vv vm vo)(f:Fr (fun k=>k=bs.getD i 0) h h')
 (hb:h'[bs.getD i 0]? =some (.cells (acZ (at' W i) s' vi vp vf vv vm vo).toArray 62)):RW h' g vL bs W (S.put i s'):=by
 have qY:i<bs.length:=by rw[H.ln];exact hi
 have f':=Fr.SY qY f;have hg:¬g=bs.getD i 0:=fun e=>by have:=H.w;rw[e,K.b]at this;simp at this
 refine⟨ay f H.w hg,H.own H.l (by decide) f',H.ln,H.nd,fun j hj=>?_,H.fl,H.fr,H.mr,H.tf,H.tn,H.sz⟩;by_cases lR:j=i
 ·subst lR
  rw[fM];exact⟨vi,vp,vf,vv,vm,vo,hb,H.own K.i (by decide) f',H.own K.f (by decide) f',H.own K.m (by decide) f'⟩
 ·rw[jY lR]
  obtain⟨a,b,c,d,e,w,L⟩:=H.cl j hj;refine⟨a,b,c,d,e,w,ay f L.b (fun q=>lR ?_),H.own L.i (by decide) f',H.own L.f (by decide) f',H.own L.m (by decide) f'⟩;have h1:j<bs.length:=by rw[H.ln];exact hj
  simp only[awu,awJ h1,awJ qY,Option.getD_some]at q;exact(List.getElem_inj H.nd).1 q
theorem RW.alB(H:RW h g vL bs W S){i:Nat}(hi:i<W.length)(v:Nat):RW (setAt h ⟨bs.getD i 0,9,none⟩ (ao v)) g vL bs W (S.put i (v,(S i).2)):=by
 obtain⟨vi,vp,vf,vv,vm,vo,K⟩:=H.cl i hi;exact H.upd hi K (Fr.set _ _ _ fun _=>rfl) (by have:=bu (o:=9) K.b (ao v);exact this)
theorem RW.aoi(H:RW h g vL bs W S){i:Nat}(hi:i<W.length)(v:Int):RW (setAt h ⟨bs.getD i 0,10,none⟩ (ao v)) g vL bs W (S.put i ((S i).1,v)):=by
 obtain⟨vi,vp,vf,vv,vm,vo,K⟩:=H.cl i hi;exact H.upd hi K (Fr.set _ _ _ fun _=>rfl) (by have:=bu (o:=10) K.b (ao v);exact this)
def KF(bs:List Nat)(h h':ar):Prop:=∀b∈bs,cellAt h' ⟨b,5,none⟩=cellAt h ⟨b,5,none⟩
theorem KF.trans{h1 h2:ar}(a:KF bs h h1)(b:KF bs h1 h2):KF bs h h2:=fun k hk=>(b k hk).trans (a k hk)
theorem RW.at(H:RW h g vL bs W S){b:Nat}(hb:b∈bs):∃i,i<W.length∧b=bs.getD i 0:=by
 obtain⟨j,hj,rfl⟩:=List.getElem_of_mem hb;exact⟨j,by rw[←H.ln];exact hj,by simp[hj]⟩
theorem RW.kf(H:RW h g vL bs W S){T:Nat→Prop}(f:Fr T h h')(hT:∀b∈bs,¬T b):KF bs h h':=fun b hb=>by
 obtain⟨i,hi,rfl⟩:=H.at hb;obtain⟨_,_,_,_,_,_,K⟩:=H.cl i hi;rw[au K.b,au (ay f K.b (hT _ hb))]
theorem RW.kfs(H:RW h g vL bs W S){i:Nat}(hi:i<W.length){o:Nat}(ho:o≠5)(v:Value):KF bs h (setAt h ⟨bs.getD i 0,o,none⟩ v):=fun b hb=>by
 have f:=Fr.set h ⟨bs.getD i 0,o,none⟩ v (S:=fun k=>k=bs.getD i 0) fun _=>rfl;by_cases he:b=bs.getD i 0
 ·subst he
  obtain⟨_,_,_,_,_,_,K⟩:=H.cl i hi;have q:=bu (o:=o) K.b v;rw[au K.b,au q];simp only[awl,Array.getElem?_setIfInBounds_ne ho]
 ·obtain⟨j,hj,rfl⟩:=H.at hb
  obtain⟨_,_,_,_,_,_,K⟩:=H.cl j hj;rw[au K.b,au (ay f K.b he)]
def fY(g:Nat)(vL:Value)(bs:List Nat)(W:List LC)(S:LS)(h:ar)(h':ar)(S':LS)(mo:Nat→Nat):Prop:=RW h' g vL bs W S'∧ek W S' mo∧Bc S S'∧Fr (fun k=>k∈bs) h h'∧KF bs h h'
theorem fY.refl(H:RW h g vL bs W S)(I:ek W S rk):fY g vL bs W S h h S rk:=⟨H,I,Bc.refl S,Fr.refl _ _,fun _ _=>rfl⟩
theorem fY.trans{h1 h2:ar}{S1 S2:LS}{r1 r2:Nat→Nat}(a:fY g vL bs W S h h1 S1 r1)(b:fY g vL bs W S1 h1 h2 S2 r2):fY g vL bs W S h h2 S2 r2:=⟨b.1,b.2.1,a.2.2.1.trans b.2.2.1,a.2.2.2.1.trans b.2.2.2.1 (fun _ _ h=>h) (fun _ _ h=>h),a.2.2.2.2.trans b.2.2.2.2⟩
theorem fY.ext(H:RW h g vL bs W S)(I:ek W S rk)(x:Ext h h'):fY g vL bs W S h h' S rk:=⟨H.ext x,I,Bc.refl S,x.mono fun _ _ h=>h.elim,H.kf x fun _ _ h=>h⟩
def ac0(g:Nat)(vL:Value)(bs:List Nat)(W:List LC)(n:Nat):Prop:=∀(h:ar)(S:LS)(rk:Nat→Nat),RW h g vL bs W S→ek W S rk→tK S W.length<n→∀s:az,s.length≤1048576→
 aF Tryz.prog 18 #[aE g,str s] h fun v h'=>∃S' mo e,v=ao e∧fY g vL bs W S h h' S' mo∧(e=0→pn W S' s)
theorem acj{n:Nat}(L:ac0 g vL bs W n)(H:RW h g vL bs W S)(I:ek W S rk)(hn:tK S W.length<n){i:Nat}(hi:i<W.length):
 aF Tryz.prog 49 #[aE g,aE (bs.getD i 0)] h fun v h'=>∃S' mo e,v=ao e∧fY g vL bs W S h h' S' mo∧(e=0→aiy W i S'):=by
 refine Ku (args:=[aE g,aE (bs.getD i 0)]) rfl ?_;obtain⟨vi,vp,vf,vv,vm,vo,K⟩:=H.cl i hi;have sz:=H.sz i hi;have c1:=K.c1;have c2:=K.c2;by_cases hs:(at' W i).sup=[]
 ·simp only[er,ae,seval,c1,av8 hs]
  refine⟨S,rk,0,rfl,fY.refl H I,fun _=>⟨fun x=>aww hs x,fun f hf=>?_⟩⟩;rcases I.sp i hi with x|x
  ·rw[x.2]at hf;cases hf
  ·exact aww hs (jO x).1
 have hp:eJ (at' W i).sup=true:=by
  rcases I.sp i hi with x|x
  ·exact aww x.1 hs
  ·exact x
 obtain⟨_,ia,ic,rfl,_⟩:=id K.i.dQ;simp only[er,ae,seval,c1,c2,av7 hs];refine aU dE rfl rfl (by decide) ?_;have x1:=Ext.push h (.cells #[str (at' W i).sup] 9);have O1:Own (h.push (.cells #[str (at' W i).sup] 9)) h.size 9 1 (.slice (some ⟨h.size,0,none⟩) 1 1) 1 [str (at' W i).sup]:=Own.new (vs:=[str (at' W i).sup]) rfl (by decide) (awp _);have H1:=H.ext x1;obtain⟨K1b,K1i,K1f,K1m⟩:RC (h.push (.cells #[str (at' W i).sup] 9)) (bs.getD i 0) (at' W i) (S i) (.slice ia (at' W i).ifs.length ic) vp vf vv vm vo:=⟨ay x1 K.b awx,K.i.ext x1,K.f.ext x1,K.m.ext x1⟩;have c2:cellAt (h.push (.cells #[str (at' W i).sup] 9)) ⟨bs.getD i 0,2,none⟩=some (.slice ia (at' W i).ifs.length ic):=by rw[au K1b];rfl
 simp only[ae,seval,c2];have gB:=x1.size;generalize h.push _=h1,hq:h.size=q at*;refine gO (m:=(at' W i).ifs.length) (news:=(at' W i).ifs.map str) dE rfl rfl O1 K1i.dQ (fun u hu=>by obtain⟨x,_,rfl⟩:=List.mem_map.1 hu;rfl) (by omega) (by omega) (by omega) ?_;intro v5 h5 O5 f5;have X5:Ext h h5:=Ext.app x1 f5 fun k hk=>by have:=(O1.lt k hk).1;omega
 obtain⟨up,Uk⟩:∃up,up=(at' W i).sup::(at' W i).ifs:=⟨_,rfl⟩;have ul:up.length=(at' W i).ifs.length+1:=by rw[Uk];rfl
 have O5:Own h5 q 9 1 v5 up.length (up.map str):=dR O5 (by omega) (by rw[Uk];rfl);have upp:∀f∈up,eJ f=true∧f.length≤1048576:=fun f hf=>by
  rw[Uk]at hf;rcases awL.1 hf with rfl|hf
  ·exact⟨hp,sz.2.1⟩
  ·exact⟨I.ip i hi f hf,sz.2.2.1 f hf⟩
 have fin:∀{S':LS},(∀t,t<up.length→rh W S' (up.getD t []))→aiy W i S':=fun h=>by
  have all:∀f∈up,rh W _ f:=fun f hf=>by
   obtain⟨t,ht,rfl⟩:=List.getElem_of_mem hf;have:=h t ht;rwa[awu,awJ ht]at this
  exact⟨fun _=>all _ (by rw[Uk];simp),fun f hf=>all f (by rw[Uk];simp[hf])⟩
 have P5:=fY.ext H I X5;obtain⟨_,ua,uc,rfl,_⟩:=id O5.dQ;simp only[er,ae,seval];refine aG [0,1,26,27,28] (fun m ρ hc=>∃(k:Nat)(S2:LS)(r2:Nat→Nat),m=up.length-k∧k≤up.length∧
  ρ=[(0,aE g),(1,aE (bs.getD i 0)),(26, .slice ua up.length uc),(27,ao up.length),(28,ao k)]∧
  fY g vL bs W S h hc S2 r2∧(∀t,t<k→rh W S2 (up.getD t []))∧Own hc q 9 1 (.slice ua up.length uc) up.length (up.map str)) ?_ ?_
 case refine_1=>
  simp only[ae,seval];exact⟨_,0,S,rk,rfl,awb _,rfl,P5,fun t ht=>aww ht (awq _),O5⟩
 rintro m ρ hc⟨k,S2,r2,rfl,hk,rfl,P2,oi,O2⟩;by_cases aV:k<up.length
 case neg=>
  have aK:¬(k:Int)<(up.length:Int):=by omega
  simp only[er,ae,seval,aK];exact⟨S2,r2,0,rfl,P2,fun _=>fin fun t ht=>oi t (by omega)⟩
 have aK:(k:Int)<(up.length:Int):=by omega
 obtain⟨b1,p1,td,fD,_,eR⟩:=O2.sl.at (i:=k) (by simpa using aV);rw[awk]at fD;cases fD;have fm:up.getD k []∈up:=by simp[aV]
 have e1:cellAt hc ⟨b1,p1+k,none⟩=some (str (up.getD k [])):=by rw[eR];simp[aV]
 obtain⟨fp,fl⟩:=upp _ fm;generalize DU:up.getD k []=f at*;simp(disch:=omega)only[er,ae,seval,aK,e1];refine aj rfl (L hc S2 r2 P2.1 P2.2.1 (Nat.lt_of_le_of_lt (SX P2.2.2.1 _) hn) f fl) ?_;rintro _ h3⟨S3,r3,e3,rfl,P3,o3⟩;have Ng:=P2.trans P3;by_cases he:e3=0
 case neg=>
  simp only[er,ae,seval,av7 he];exact⟨S3,r3,e3,rfl,Ng,fun x=>aww x he⟩
 have Um:=G7 fp (o3 he);subst he;have H3:=P3.1;simp only[er,ae,seval];refine aj rfl (fT H3 P3.2.1 f) ?_;rintro _ h3⟨rfl,rfl⟩;obtain⟨y,hy,_,_,hy3⟩:=W4 (bs:=bs) P3.2.1 Um;rw[hy3];obtain⟨wi,wp,wf,wv,wm,wo,K3⟩:=H3.cl i hi;obtain⟨xi,xp,xf,xv,xm,xo,J3⟩:=H3.cl y hy;have c0:=K3.c0;have d3:=J3.c3;have w1:=gU (k:=k) (by omega);have nx:∀t,t<k+1→rh W S3 (up.getD t []):=fun t ht=>by
  rcases Nat.lt_succ_iff_lt_or_eq.1 ht with h|rfl
  ·exact P3.2.2.1.rh (oi t h)
  ·rw[DU];exact Um
 rcases Nat.eq_zero_or_pos k with hk0|hkp
 case' inl=>
  have k0:(k:Int)=0:=by omega
  have k1:¬(0:Int)<(k:Int):=by omega
  by_cases g1:cB .and .u16 ((at' W y).fl:Int) 512=0
  case neg=>
   simp only[er,ae,seval,d3,av7 g1,av8 k0];exact⟨S3,r3,20,rfl,Ng,fun x=>aww x (by decide)⟩
  by_cases g2:cB .and .u16 ((at' W y).fl:Int) 16=0
  case neg=>
   simp only[er,ae,seval,d3,av8 g1,av7 g2,av8 k0];exact⟨S3,r3,20,rfl,Ng,fun x=>aww x (by decide)⟩
  simp only[er,ae,seval,d3,av8 g1,av8 g2,c0,av8 k0,av7 k1]
 case' inr=>
  have k0:¬(k:Int)=0:=by omega
  have k1:(0:Int)<(k:Int):=by omega
  by_cases g1:cB .and .u16 ((at' W y).fl:Int) 512=0
  case pos=>
   simp only[er,ae,seval,d3,av8 g1,av7 k0,av8 k1];exact⟨S3,r3,20,rfl,Ng,fun x=>aww x (by decide)⟩
  simp only[er,ae,seval,d3,av7 g1,av7 k0,av8 k1,c0]
 all_goals
  refine aj rfl (Tj H3 P3.2.1 (at' W i).nm f (by omega) (by omega)) ?_;rintro _ h3⟨rfl,b,rfl⟩;cases b
  ·simp only[er,ae,seval]
   exact⟨S3,r3,23,rfl,Ng,fun x=>aww x (by decide)⟩
  ·simp only[er,ae,seval,w1]
   exact⟨_,by omega,_,S3,r3,rfl,by omega,rfl,Ng,nx,P2.1.own O2 (by decide) P3.2.2.2.1⟩
theorem ack:∀n,ac0 g vL bs W n:=by
 intro n
 induction n with
 |zero=>intro h S rk _ _ hn;exact aww hn (awq _)
 |succ n ih=>
  intro h S rk H I hn s hl;refine Mm (args:=[aE g,str s]) rfl ?_;simp only[fI,ae,seval];refine aj rfl (Pu s (by omega)) ?_;rintro _ h1⟨rfl,rfl⟩;have P1:=fY.refl H I;by_cases hc:jA s=true
  case neg=>
   have hc:jA s=false:=by simpa using hc
   simp only[fI,ae,seval,hc];exact⟨S,rk,18,rfl,P1,fun x=>aww x (by decide)⟩
  simp only[fI,ae,seval,hc];refine aj rfl (OT s (by omega)) ?_;rintro _ h1⟨rfl,rfl⟩;rw[aci hc];by_cases hv:kU s=true
  ·rw[awa hv]
   simp only[fI,ae,seval];exact⟨S,rk,0,rfl,P1,fun _=>⟨hc, .inl hv⟩⟩
  rw[av9 hv];simp only[fI,ae,seval];refine aj rfl (fT H I (jm s)) ?_;rintro _ h1⟨rfl,rfl⟩;rcases sS (bs:=bs) (W:=W) (jm s)with e|⟨i,hi,vh,e⟩
  ·rw[e]
   simp only[fI,ae,seval,alA];exact⟨S,rk,18,rfl,P1,fun x=>aww x (by decide)⟩
  rw[e];obtain⟨vi,vp,vf,vv,vm,vo,K⟩:=H.cl i hi;have c9:=K.c9;have c10:=K.c10;by_cases s1:(S i).1=1
  ·have f1:((S i).1:Int)=1:=by omega
   simp only[fI,ae,seval,ZQ,c9,av8 f1];exact⟨S,rk,19,rfl,P1,fun x=>aww x (by decide)⟩
  have f1:¬((S i).1:Int)=1:=by omega
  by_cases s0:(S i).1=0
  case neg=>
   have f0:¬((S i).1:Int)=0:=by omega
   simp only[fI,ae,seval,ZQ,c9,c10,av7 f1,av7 f0];refine⟨S,rk,(S i).2,rfl,P1,fun x=>⟨hc, .inr ⟨i,hi,vh,?_⟩⟩⟩;have:=I.st i hi;exact Prod.ext (show(S i).1=2 by omega) x
  have f0:((S i).1:Int)=0:=by omega
  simp only[fI,ae,seval,ZQ,c9,av7 f1,av8 f0];have qY:i<bs.length:=by rw[H.ln];exact hi
  refine aC dI rfl rfl rfl rfl rfl c9 (K.nf 9) ?_;have H2:=H.alB hi 1;have Q2:=H.kfs hi (o:=9) (by decide) (ao (1:Nat));have F2:Fr (fun k=>k∈bs) _ _:=Fr.SY qY (Fr.set h1 ⟨bs.getD i 0,9,none⟩ (ao (1:Nat)) fun _=>rfl);have I2:=I.begin s0 (S i).2;have Qu:tK (S.put i (1,(S i).2)) W.length<n:=by have:=OL (v:=(1,(S i).2)) s0 (by simp) W.length hi;omega
  generalize hS2:S.put i (1,(S i).2)=S2 at*;have ZJ:S2 i=(1,(S i).2):=by rw[←hS2,fM]
  rw[show((1:Nat):Int)=1 from rfl]at H2 F2 Q2;generalize setAt h1 ⟨bs.getD i 0,9,none⟩ _=h2 at*;simp only[fI,ae,seval];refine aj rfl (acj ih H2 I2 Qu hi) ?_;rintro _ h3⟨S3,r3,e3,rfl,P3,o3⟩;obtain⟨H3,I3,L3,F3,K3f⟩:=P3;have aiA:S3 i=(1,(S i).2):=by rw[(L3 i).1 (by rw[ZJ];simp),ZJ]
  obtain⟨wi,wp,wf,wv,wm,wo,K3⟩:=H3.cl i hi;simp only[ae,seval];refine aC zF rfl rfl rfl rfl rfl K3.c10 (K3.nf 10) ?_;have H4:=H3.aoi hi e3;have Q4:=H3.kfs hi (o:=10) (by decide) (ao e3);have F4:Fr (fun k=>k∈bs) _ _:=Fr.SY qY (Fr.set h3 ⟨bs.getD i 0,10,none⟩ (ao e3) fun _=>rfl);generalize setAt h3 ⟨bs.getD i 0,10,none⟩ _=h4 at*;obtain⟨xi,xp,xf,xv,xm,xo,K4⟩:=H4.cl i hi;simp only[fI,ae,seval];refine aC dI rfl rfl rfl rfl rfl K4.c9 (K4.nf 9) ?_;have H5:=H4.alB hi 2;have Q5:=H4.kfs hi (o:=9) (by decide) (ao (2:Nat));have F5:Fr (fun k=>k∈bs) _ _:=Fr.SY qY (Fr.set h4 ⟨bs.getD i 0,9,none⟩ (ao (2:Nat)) fun _=>rfl);rw[fM,ZI]at H5;rw[show((2:Nat):Int)=2 from rfl]at H5 F5 Q5;generalize setAt h4 ⟨bs.getD i 0,9,none⟩ _=h5 at*;obtain⟨yi,yp,yf,yv,ym,yo,K5⟩:=H5.cl i hi;have c10:=K5.c10;rw[fM]at c10;simp only[fI,ae,seval,c10];obtain⟨r5,I5⟩:=I3.done (i:=i) (by rw[aiA]) e3 (fun x=>o3 x);refine⟨S3.put i (2,e3),r5,e3,rfl,⟨H5,I5,fun j=>?_,?_,((Q2.trans K3f).trans Q4).trans Q5⟩,fun x=>⟨hc, .inr ⟨i,hi,vh,by unfold kB;rw[fM,x]⟩⟩⟩
  ·by_cases lR:j=i
   ·subst lR;rw[fM];exact⟨fun x=>aww s0 x,fun _=> .inr rfl⟩
   ·have:=L3 j
    rw[←hS2,jY lR]at this;rw[jY lR];exact this
  ·have f:=fun{a b c:ar}(p:Fr (fun k=>k∈bs) a b)(q:Fr (fun k=>k∈bs) b c)=>Fr.trans p q (fun _ _ h=>h) (fun _ _ h=>h)
   exact f (f (f F2 F3) F4) F5
def vP(g:Nat)(vL:Value)(bs:List Nat)(W:List LC)(S:LS)(h:ar)(V:LS→Value→Prop):Value→ar→Prop:=fun v h'=>∃S' mo,fY g vL bs W S h h' S' mo∧V S' v
theorem qf(H:RW h g vL bs W S)(I:ek W S rk)(s:az)(hl:s.length≤1048576):aF Tryz.prog 18 #[aE g,str s] h (vP g vL bs W S h fun S' v=>∃e,v=ao e∧(e=0→pn W S' s)):=
 (ack _ h S rk H I (Nat.lt_succ_self _) s hl).mono fun v h'⟨S',mo,e,a,b,c⟩=>⟨S',mo,b,e,a,c⟩
theorem Tk(H:RW h g vL bs W S)(I:ek W S rk)(a s:az)(hl:s.length≤1048576)(ha:a.length≤1048576):aF Tryz.prog 55 #[aE g,str a,str s] h (vP g vL bs W S h fun S' v=>∃e,v=ao e∧(e=0→pn W S' s)):=by
 refine Mp (args:=[aE g,str a,str s]) rfl ?_;simp only[mN,ae,seval];refine aj rfl (qf H I s hl) ?_;rintro _ h1⟨S1,r1,P1,e,rfl,o1⟩;by_cases he:e=0
 case neg=>
  simp only[mN,ae,seval,av7 he];exact⟨S1,r1,P1,e,rfl,fun x=>aww x he⟩
 simp only[mN,ae,seval,av8 he];refine aj rfl (Tj P1.1 P1.2.1 a s (by omega) (by omega)) ?_;rintro _ h1⟨rfl,b,rfl⟩;cases b
 ·simp only[mN,ae,seval]
  exact⟨S1,r1,P1,23,rfl,fun x=>aww x (by decide)⟩
 ·simp only[mN,ae,seval]
  exact⟨S1,r1,P1,_,rfl,o1⟩
end
end
section
theorem OU:∀{l m:List (az)},l.Nodup→(∀x∈l,x∈m)→l.length≤m.length
 |[],_,_,_=>awb _
 |x::l,m,hn,hs=>by
  rw[List.nodup_cons]at hn;have hx:=hs x (by simp);have:=OU (l:=l) (m:=m.erase x) hn.2 fun y hy=>(List.mem_erase_of_ne (fun e:y=x=>hn.1 (by rw[←e];exact hy))).2 (hs y (by simp[hy]));rw[List.length_erase_of_mem hx]at this;have:=List.length_pos_of_mem hx;simp only[awy];omega
section
variable{h h':ar}{g:Nat}{vL:Value}{bs:List Nat}{W:List LC}{S:LS}{rk:Nat→Nat}
theorem Xb{l:List (az)}(hn:l.Nodup)(h:∀n∈l,rh W S n):l.length≤W.length:=by
 have:=OU (m:=W.map (·.nm)) hn fun x hx=>by
  obtain⟨i,hi,rfl,_⟩:=h x hx;have:at' W i=W[i]:=by simp[at',hi]
  rw[this];exact List.mem_map.2 ⟨_,List.getElem_mem hi,rfl⟩
 rwa[awk]at this
theorem Nl{h:ar}{base:Nat}{v:Value}{xs:List (az)}(O:Own h base 9 1 v xs.length (xs.map str))(hl:xs.length≤1073741824)(s:az):
 aF Tryz.prog 115 #[v,str s] h fun u h'=>h'=h∧u= .bool (decide (s∈xs)):=by
 refine Ql (args:=[v,str s]) rfl ?_;obtain⟨_,la,lc,rfl,_⟩:=id O.dQ;simp only[rZ,ae,seval];refine aG [1,4,7,8,9] (fun m ρ hc=>∃k:Nat,m=xs.length-k∧k≤xs.length∧ρ=[(1,str s),(4, .bool false),(7, .slice la xs.length lc),(8,ao xs.length),(9,ao k)]∧hc=h∧∀t,t<k→xs.getD t []≠s) ?_ ?_
 case refine_1=>
  simp only[ae,seval];exact⟨_,0,rfl,awb _,rfl,fun t ht=>aww ht (awq _)⟩
 rintro m ρ hc⟨k,rfl,hk,rfl,rfl,mX⟩;by_cases aV:k<xs.length
 case neg=>
  have aK:¬(k:Int)<(xs.length:Int):=by omega
  have vh:¬s∈xs:=fun hm=>by
   obtain⟨t,ht,rfl⟩:=List.getElem_of_mem hm;exact mX t (by omega) (by simp[ht])
  simp only[rZ,ae,seval,aK,awg vh]
 have aK:(k:Int)<(xs.length:Int):=by omega
 obtain⟨b1,p1,td,fD,_,eR⟩:=O.sl.at (i:=k) (by simpa using aV);rw[awk]at fD;cases fD;have e1:cellAt hc ⟨b1,p1+k,none⟩=some (str (xs.getD k [])):=by rw[eR];simp[aV]
 have w1:=gU (k:=k) (by omega);by_cases hn:xs.getD k []=s
 ·have hm:s∈xs:=by rw[←hn];simp[aV]
  simp(disch:=omega)only[rZ,ae,seval,aK,e1,av8 hn,awh hm]
 ·simp(disch:=omega)only[rZ,ae,seval,aK,e1,av7 hn,w1]
  refine⟨_,by omega,k+1,rfl,by omega,rfl,fun t ht=>?_⟩;rcases Nat.lt_succ_iff_lt_or_eq.1 ht with h|rfl
  ·exact mX t h
  ·exact hn
theorem Ab{h:ar}{base:Nat}{v:Value}{xs:List (az)}{s:az}(O:Own h base 9 1 v (xs.length+1) (xs.map str++[str s])):Own h base 9 1 v (xs++[s]).length ((xs++[s]).map str):=dR O (by simp) (by simp)
theorem ZR(H:RW h g vL bs W S)(I:ek W S rk){i:Nat}(hi:i<W.length)(ho:kB S i):
 aF Tryz.prog 116 #[aE g,str (at' W i).nm] h fun v h'=>Ext h h'∧∃xs:List (az),Own h' h.size 9 1 v xs.length (xs.map str)∧xs.length≤1048576:=by
 refine NQ (args:=[aE g,str (at' W i).nm]) rfl ?_;have tn:=H.tn;simp only[gG,ae,seval];refine aG [0,1,5,6] (fun m ρ hc=>∃(n:az)(v:Value)(xs:List (az)),ρ=[(0,aE g),(1,str (at' W i).nm),(5,v),(6,str n)]∧Ext h hc∧Own hc h.size 9 1 v xs.length (xs.map str)∧xs.Nodup∧(∀x∈xs,rh W S x)∧
  (n=[]∧m=0∨∃j,j<W.length∧(at' W j).nm=n∧kB S j∧m=rk j+1∧∀x∈xs,∃y,y<W.length∧(at' W y).nm=x∧rk j<rk y)) ?_ ?_
 case refine_1=>
  simp only[ae,seval];exact⟨_,_,_,[],rfl,Ext.refl _,Own.nil,List.nodup_nil,(fun x hx=>by cases hx), .inr ⟨i,hi,rfl,ho,rfl,fun x hx=>by cases hx⟩⟩
 rintro m ρ hc⟨n,v,xs,rfl,xc,O,FH,jV,hn⟩;have hle:=Xb FH jV;rcases hn with⟨rfl,rfl⟩|⟨j,hj,rfl,GG,rfl,TX⟩
 case inr=>
  have cN:=(jO (I.nm j hj)).1;have hnew:¬(at' W j).nm∈xs:=fun hm=>by
   obtain⟨y,hy,Le,Tc⟩:=TX _ hm;have:=I.un y j hy hj Le;subst this;omega
  simp only[gG,ae,seval,av7 cN];refine aU dE rfl rfl (by decide) ?_;simp only[ae,seval];have gB:=xc.size;refine bF (m:=1) dE rfl rfl (O.push _) rfl (bV (vs:=[str (at' W j).nm])) (by intro u hu;simp only[awf]at hu;subst hu;rfl) (by omega) (by omega) (by simp;omega) ?_;intro v' h2 O2 f2 _;have x2:Ext h h2:=Ext.app (xc.trans (Ext.push _ _)) f2 (fun k hk=>by have:=(O.lt k hk).1;simpa using this);have H2:=H.ext x2;obtain⟨vi,vp,vf,vv,vm,vo,K⟩:=H2.cl j hj;have c1:=K.c1;simp only[gG,ae,seval];refine aj rfl (fT H2 I (at' W j).nm) ?_;rintro _ h2⟨rfl,rfl⟩;rw[iz I hj];simp only[ae,seval,c1];have alC:∀x∈xs++[(at' W j).nm],rh W S x:=fun x hx=>by
   rcases awi.1 hx with hx|hx
   ·exact jV x hx
   ·rw[awf.1 hx];exact⟨j,hj,rfl,GG⟩
  have alD:(xs++[(at' W j).nm]).Nodup:=by
   rw[List.nodup_append];refine⟨FH,by simp,fun a ha b hb e=>?_⟩;rw[awf.1 hb]at e;exact hnew (e▸ha)
  by_cases hs:(at' W j).sup=[]
  ·exact⟨0,by omega,_,_,_,rfl,x2,Ab O2,alD,alC, .inl ⟨hs,rfl⟩⟩
  ·obtain⟨y,hy,Le,Tb,Tc⟩:=I.su j hj GG hs
   refine⟨rk y+1,by omega,_,_,_,rfl,x2,Ab O2,alD,alC, .inr ⟨y,hy,Le,Tb,rfl,fun x hx=>?_⟩⟩;rcases awi.1 hx with hx|hx
   ·obtain⟨z,hz,hzn,hzr⟩:=TX x hx
    exact⟨z,hz,hzn,by omega⟩
   ·rw[awf.1 hx];exact⟨j,hj,rfl,Tc⟩
 simp only[gG,ae,seval];refine aG [0,1,5,7] (fun m ρ hd=>∃(k:Nat)(v:Value)(xs:List (az)),m=W.length-k∧k≤xs.length∧ρ=[(0,aE g),(1,str (at' W i).nm),(5,v),(7,ao k)]∧Ext h hd∧Own hd h.size 9 1 v xs.length (xs.map str)∧xs.Nodup∧(∀x∈xs,rh W S x)) ?_ ?_
 case refine_1=>
  simp only[ae,seval];exact⟨_,0,v,xs,rfl,awb _,rfl,xc,O,FH,jV⟩
 rintro m ρ hd⟨k,v,xs,rfl,hk,rfl,xd,O,FH,jV⟩;have hle:=Xb FH jV;obtain⟨_,la,lc,rfl,_⟩:=id O.dQ;by_cases aV:k<xs.length
 case neg=>
  have aK:¬(k:Int)<(xs.length:Int):=by omega
  simp only[gG,ae,seval,aK];exact⟨xd,xs,O,by omega⟩
 have aK:(k:Int)<(xs.length:Int):=by omega
 obtain⟨b1,p1,td,fD,_,eR⟩:=O.sl.at (i:=k) (by simpa using aV);rw[awk]at fD;cases fD;obtain⟨j,hj,W5,GG⟩:=jV _ (show xs.getD k []∈xs by simp[aV]);have e1:cellAt hd ⟨b1,p1+k,none⟩=some (str (at' W j).nm):=by rw[eR,W5];simp[aV]
 have Hd:=H.ext xd;obtain⟨vi,vp,vf,vv,vm,vo,K⟩:=H.cl j hj;have OI:=K.i;obtain⟨_,ia,ic,rfl,_⟩:=id OI.dQ;have c2:cellAt hd ⟨bs.getD j 0,2,none⟩=some (.slice ia (at' W j).ifs.length ic):=by rw[au (ay xd K.b awx)];rfl
 have sz:=(H.sz j hj).2.2.2.1;have wk:=gU (k:=k) (by omega);simp(disch:=omega)only[gG,ae,seval,aK,e1];refine aj rfl (fT Hd I (at' W j).nm) ?_;rintro _ hd⟨rfl,rfl⟩;rw[iz I hj];simp only[ae,seval,c2];refine aG [0,1,5,7,37,38,39] (fun m ρ he=>∃(t:Nat)(v:Value)(xs:List (az)),m=(at' W j).ifs.length-t∧t≤(at' W j).ifs.length∧k<xs.length∧ρ=[(0,aE g),(1,str (at' W i).nm),(5,v),(7,ao k),(37, .slice ia (at' W j).ifs.length ic),(38,ao ((at' W j).ifs.length:Int)),(39,ao t)]∧
  Ext h he∧Own he h.size 9 1 v xs.length (xs.map str)∧xs.Nodup∧(∀x∈xs,rh W S x)) ?_ ?_
 case refine_1=>
  simp only[ae,seval];exact⟨_,0,_,xs,rfl,awb _,aV,rfl,xd,O,FH,jV⟩
 rintro m ρ he⟨t,v,xs,rfl,ht,hkx,rfl,xe,O,FH,jV⟩;have OI2:=OI.ext xe;have hle:=Xb FH jV;by_cases aV:t<(at' W j).ifs.length
 case neg=>
  have aK:¬(t:Int)<((at' W j).ifs.length:Int):=by omega
  simp only[gG,ae,seval,aK,wk];exact⟨_,by omega,k+1,v,xs,rfl,by omega,rfl,xe,O,FH,jV⟩
 have aK:(t:Int)<((at' W j).ifs.length:Int):=by omega
 obtain⟨b2,p2,c2',alE,_,akU⟩:=OI2.sl.at (i:=t) (by simpa using aV);rw[awk]at alE;cases alE;have fm:(at' W j).ifs.getD t []∈(at' W j).ifs:=by simp[aV]
 have e2:cellAt he ⟨b2,p2+t,none⟩=some (str ((at' W j).ifs.getD t [])):=by rw[akU];simp[aV]
 have okf:rh W S ((at' W j).ifs.getD t []):=by
  obtain⟨y,y1,y2,y3,_⟩:=I.fa j hj GG _ fm;exact⟨y,y1,y2,y3⟩
 generalize(at' W j).ifs.getD t []=f at*;have w1:=gU (k:=t) (by omega);simp(disch:=omega)only[gG,ae,seval,aK,e2];refine aj rfl (Nl O (by omega) f) ?_;rintro _ he⟨rfl,rfl⟩;by_cases hf:f∈xs
 ·simp only[gG,ae,seval,awh hf,w1]
  exact⟨_,by omega,t+1,v,xs,rfl,by omega,hkx,rfl,xe,O,FH,jV⟩
 simp only[gG,ae,seval,awg hf];refine aU dE rfl rfl (by decide) ?_;simp only[ae,seval];have gB:=xe.size;refine bF (m:=1) dE rfl rfl (O.push _) rfl (bV (vs:=[str f])) (by intro u hu;simp only[awf]at hu;subst hu;rfl) (by omega) (by omega) (by simp;omega) ?_;intro v' h2 O2 f2 _;have x2:Ext h h2:=Ext.app (xe.trans (Ext.push _ _)) f2 (fun k hk=>by have:=(O.lt k hk).1;simpa using this);simp only[gG,ae,seval,w1];refine⟨_,by omega,t+1,v',xs++[f],rfl,by omega,by simp;omega,rfl,x2,Ab O2,?_,fun x hx=>?_⟩
 ·rw[List.nodup_append]
  refine⟨FH,by simp,fun a ha b hb e=>?_⟩;rw[awf.1 hb]at e;exact hf (e▸ha)
 ·rcases awi.1 hx with hx|hx
  ·exact jV x hx
  ·rw[awf.1 hx];exact okf
end
end
end Go.Proofs.YtmbboehmnfhjjaaGreatDoor
