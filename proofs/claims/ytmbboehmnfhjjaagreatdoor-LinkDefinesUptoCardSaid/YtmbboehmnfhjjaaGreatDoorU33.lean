/- Members looked for in classes, by the program: own, field, faces. Methods and fields referred to, by the program: method, Method, Field. Field and Method, by the program: they end. Method, by the program: it ends. Select and Call, by the program: they end. Call, by the program: it ends. -/
import Derived.Test.YtmbboehmnfhjjaaGreatDoorU32
set_option maxRecDepth 100000
set_option maxHeartbeats 16000000
set_option linter.unusedSimpArgs false
set_option linter.unusedVariables false
set_option linter.defProp false
namespace Go.Proofs.YtmbboehmnfhjjaaGreatDoor
open Go.Vc
section
theorem Vj{size:Nat}:∀{L:List (List Value)}{k j:Nat},(∀r∈L,r.length=size)→k<L.length→j<size→L.flatten[k*size+j]? =(L.getD k [])[j]?
 |[],k,j,_,hk,_=>aww hk (awq _)
 |r::L,0,j,hL,_,hj=>by
  have:=hL r (by simp);rw[List.flatten_cons,Nat.zero_mul,aw2,awS (by omega)];rfl
 |r::L,k+1,j,hL,hk,hj=>by
  have:=hL r (by simp);have e:(k+1)*size+j=r.length+(k*size+j):=by rw[Nat.add_mul];omega
  rw[List.flatten_cons,e,awT (by omega),Nat.add_sub_cancel_left,Vj (fun r hr=>hL r (by simp[hr])) (by simpa using hk) hj];rfl
theorem qV{h:ar}{base:Nat}{e:TypeId}{size:Nat}{v:Value}{L:List (List Value)}(O:Own h base e size v L.length L.flatten)(hL:∀r∈L,r.length=size){k:Nat}(hk:k<L.length):
 ∃b c,v= .slice (some ⟨b,0,none⟩) L.length c∧Rd h b (k*size) (L.getD k []):=by
 rcases O.rd with⟨_,h0,_⟩|⟨b,c,rfl,_,h3⟩
 ·omega
 ·refine⟨b,c,rfl,fun j u hj=>?_⟩
  have ta:j<size:=by
   have h1:=(List.getElem?_eq_some_iff.1 hj).1;rwa[hL _ (by simp[hk])]at h1
  have:=h3 (k*size+j) u (by rw[Vj hL hk ta];exact hj);rwa[aw2]at this
theorem ev{h hc h':ar}{q:Nat}(a:Ext h hc)(f:Fr (fun k=>k=q) hc h')(hq:h.size≤q):Ext h h':=Fr.trans a f (fun _ _ h=>h) fun k hk e=>by omega
section
variable{h h':ar}{g mb:Nat}{bs:List Nat}{W:List LC}{S:LS}{rk:Nat→Nat}
def MbR(W:List LC)(v:Value):Prop:=∃c n t f b,v= .tuple #[mbV c n t f, .bool b]∧c.length≤1048576∧(b=true→∃i,i<W.length∧(at' W i).nm=c)
theorem cS{c n t:az}{f:Int}{l:List Value}(hl:∀u∈l,oneCell u=true):∀u∈(Value.agg (str c::str n::str t::ax f::l).toArray).cells.toList,oneCell u=true:=by
 intro u hu;have hu:u∈[str c,str n,str t,ax f]++l:=by simpa[Value.cells]using hu
 rcases awi.1 hu with hu|hu
 ·simp at hu;rcases hu with rfl|rfl|rfl|rfl<;>rfl
 ·exact hl u hu
theorem vN(H:PW h g mb bs W S){i:Nat}(hi:i<W.length)(n t:az):
 aF Tryz.prog 120 #[aE (bs.getD i 0),str n,str t] h fun v h'=>Ext h h'∧MbR W v:=by
 refine Ko (args:=[aE (bs.getD i 0),str n,str t]) rfl ?_;simp only[jk,ae,seval];refine aD aL ?_;have x1:=Ext.push h (.cells #[str [],str [],str [],ax 0] 72);have q1:(h.push (.cells #[str [],str [],str [],ax 0] 72))[h.size]? =some (.cells #[str [],str [],str [],ax 0] 72):=by simp
 have H1:=H.ext x1;obtain⟨q,hq⟩:∃q,q=h.size:=⟨_,rfl⟩;rw[←hq]at q1⊢;simp only[jk,ae,seval];generalize h.push _=h1 at*;obtain⟨vi,vp,vf,vm,K⟩:=H1.cl i hi;have c6:=K.c6;have O1:=K.m;obtain⟨_,ma,mc,rfl,_⟩:=id O1.dQ;have hr:=H.mr i hi;have sz:=H.sz i hi;have vb:∀r∈(at' W i).iw,r.length=10:=fun r hm=>by obtain⟨_,_,_,l,rfl,hl,_⟩:=hr r hm;simp[hl]
 simp only[ae,seval,c6];refine aG [0,1,2,6,7,13,14,15] (fun m ρ hc=>∃k:Nat,m=(at' W i).iw.length-k∧k≤(at' W i).iw.length∧ρ=[(0,aE (bs.getD i 0)),(1,str n),(2,str t),(6,aE q),(7, .bool false),(13, .slice ma (at' W i).iw.length mc),(14,ao ((at' W i).iw.length:Int)),(15,ao k)]∧Ext h1 hc) ?_ ?_
 case refine_1=>
  simp only[ae,seval];exact⟨_,0,rfl,awb _,rfl,Ext.refl _⟩
 rintro m ρ hc⟨k,rfl,hk,rfl,xc⟩;have qc:=ay xc q1 awx;by_cases aV:k<(at' W i).iw.length
 case neg=>
  have aK:¬(k:Int)<((at' W i).iw.length:Int):=by omega
  simp only[jk,ae,seval,aK];refine aO aL rfl rfl rfl (by simp[Value.cells,oneCell,str]) qc rfl ?_;intro h2 f2 b2;have bm:=aS cC (aN b2) rfl;simp only[ae,seval,bm];exact⟨ev (x1.trans xc) f2 (by omega),[],[],[],0,false,rfl,awb _,fun x=>by cases x⟩
 have aK:(k:Int)<((at' W i).iw.length:Int):=by omega
 obtain⟨b1,c1,heq,di⟩:=qV (O1.ext xc) vb aV;cases heq;obtain⟨n',t',f,l,pf,Ld,AR⟩:=hr _ (show(at' W i).iw.getD k []∈_ by simp[aV]);rw[pf]at di
 match l,Ld with
 |[u1,u2,u3,u4,u5,u6],_=>
  have bm:=aS UB di rfl;simp(disch:=omega)only[jk,ae,seval,aK,bm];refine aD GV ?_;simp only[ae,seval];refine aI GV rfl rfl rfl (cS AR) rfl ?_;intro h2 x2 ji _ b2;have hp:q<hc.size:=(awd.1 qc).1;have q2:=ay x2 qc awx;have pj:=xc.trans x2;generalize hc.size=p at*;have e1:cellAt h2 ⟨p,1,none⟩=some (str n'):=by rw[au b2];rfl
  have e2:cellAt h2 ⟨p,2,none⟩=some (str t'):=by rw[au b2];rfl
  have w1:=gU (k:=k) (by omega);by_cases hn:n'=n
  case neg=>
   simp only[jk,ae,seval,e1,av7 hn,w1];exact⟨_,by omega,k+1,rfl,by omega,rfl,pj⟩
  by_cases ht:t'=t
  case neg=>
   simp only[jk,ae,seval,e1,e2,av8 hn,av7 ht,w1];exact⟨_,by omega,k+1,rfl,by omega,rfl,pj⟩
  have j7:ld Tryz.prog 72 ⟨p,0,none⟩ h2=some (.agg #[str (at' W i).nm,str n',str t',ax f]):=aS cC ((aN b2).sub 0 4) rfl;simp only[jk,ae,seval,e1,e2,av8 hn,av8 ht,j7];refine aO aL rfl rfl rfl (cS (l:=[]) (by simp)) q2 rfl ?_;intro h3 f3 b3;have bm:=aS cC (aN b3) rfl;simp only[ae,seval,bm];exact⟨ev (x1.trans pj) f3 (by omega),_,n',t',f,true,rfl,sz.1,fun _=>⟨i,hi,rfl⟩⟩
theorem MbR.parts{v:Value}(H:MbR W v):∃c n t f b,v= .tuple #[.agg #[str c,str n,str t,ax (f:Nat)], .bool b]∧c.length≤1048576∧(b=true→∃i,i<W.length∧(at' W i).nm=c):=H
theorem acW(H:PW h g mb bs W S)(I:ek W S rk){i k:Nat}(hi:i<W.length)(ho:zZ W S i){a:Option Addr}{c:Nat}(O:Own h 0 9 1 (.slice a (at' W i).ifs.length c) (at' W i).ifs.length ((at' W i).ifs.map str))(hk:k<(at' W i).ifs.length):
 ∃b o j,a=some ⟨b,o,none⟩∧cellAt h ⟨b,o+k,none⟩=some (str (at' W j).nm)∧j<W.length∧kB S j∧rk j<rk i∧vT Tryz.prog 35 (.map (some mb)) (str (at' W j).nm) false h=some (aE (bs.getD j 0)):=by
 obtain⟨b1,p1,td,fD,_,eR⟩:=O.sl.at (i:=k) (by simpa using hk);rw[awk]at fD;cases fD;have fm:(at' W i).ifs.getD k []∈(at' W i).ifs:=by simp[hk]
 obtain⟨q,q1,q2,q3,q4⟩:=I.fa' hi ho _ fm;have lk:=H.lk (at' W q).nm;rw[iz I q1]at lk;refine⟨b1,p1,q,rfl,?_,q1,q3,q4,lk⟩;rw[eR,q2];simp[hk]
theorem ZK(I:ek W S rk)(n t:az):∀(r:Nat)(h:ar)(i:Nat),PW h g mb bs W S→rk i<r→i<W.length→zZ W S i→
 aF Tryz.prog 53 #[aE g,aE (bs.getD i 0),str n,str t] h fun v h'=>Ext h h'∧MbR W v:=by
 intro r
 induction r with
 |zero=>intro h i _ hr;exact aww hr (awq _)
 |succ r ih=>
 intro h i H hri hi ho;refine Fs (args:=[aE g,aE (bs.getD i 0),str n,str t]) rfl ?_;simp only[ez,ae,seval];refine aD aL ?_;have x1:=Ext.push h (.cells #[str [],str [],str [],ax 0] 72);have q1:(h.push (.cells #[str [],str [],str [],ax 0] 72))[h.size]? =some (.cells #[str [],str [],str [],ax 0] 72):=by simp
 have H1:=H.ext x1;obtain⟨q,hq⟩:∃q,q=h.size:=⟨_,rfl⟩;rw[←hq]at q1⊢;simp only[ez,ae,seval];generalize h.push _=h1 at*;obtain⟨vi,vp,vf,vm,K⟩:=H1.cl i hi;have c5:=K.c5;have O1:=K.f;have OI:=K.i;obtain⟨_,ma,mc,rfl,_⟩:=id O1.dQ;obtain⟨_,ia,ic,rfl,_⟩:=id OI.dQ;have hr:=H.fr i hi;have sz:=H.sz i hi;have vb:∀r∈(at' W i).fds,r.length=5:=fun r hm=>by obtain⟨_,_,_,l,rfl,hl,_⟩:=hr r hm;simp[hl]
 simp only[ae,seval,c5];refine aG [0,1,2,3,8,9,19,20,21] (fun m ρ hc=>∃k:Nat,m=(at' W i).fds.length-k∧k≤(at' W i).fds.length∧ρ=[(0,aE g),(1,aE (bs.getD i 0)),(2,str n),(3,str t),(8,aE q),(9, .bool false),(19, .slice ma (at' W i).fds.length mc),(20,ao ((at' W i).fds.length:Int)),(21,ao k)]∧Ext h1 hc) ?_ ?_
 case refine_1=>
  simp only[ae,seval];exact⟨_,0,rfl,awb _,rfl,Ext.refl _⟩
 rintro m ρ hc⟨k,rfl,hk,rfl,xc⟩;have qc:=ay xc q1 awx;by_cases aV:k<(at' W i).fds.length
 case pos=>
  have aK:(k:Int)<((at' W i).fds.length:Int):=by omega
  obtain⟨b1,c1,heq,di⟩:=qV (O1.ext xc) vb aV;cases heq;obtain⟨n',t',f,l,pf,Ld,AR⟩:=hr _ (show(at' W i).fds.getD k []∈_ by simp[aV]);rw[pf]at di
  match l,Ld with
  |[u1],_=>
   have bm:=aS Rc di rfl;simp(disch:=omega)only[ez,ae,seval,aK,bm];refine aD AJ ?_;simp only[ae,seval];refine aI AJ rfl rfl rfl (cS AR) rfl ?_;intro h2 x2 ji _ b2;have hp:q<hc.size:=(awd.1 qc).1;have q2:=ay x2 qc awx;have pj:=xc.trans x2;generalize hc.size=p at*;have e1:cellAt h2 ⟨p,1,none⟩=some (str n'):=by rw[au b2];rfl
   have e2:cellAt h2 ⟨p,2,none⟩=some (str t'):=by rw[au b2];rfl
   have w1:=gU (k:=k) (by omega);by_cases hn:n'=n
   case neg=>
    simp only[ez,ae,seval,e1,av7 hn,w1];exact⟨_,by omega,k+1,rfl,by omega,rfl,pj⟩
   by_cases ht:t'=t
   case neg=>
    simp only[ez,ae,seval,e1,e2,av8 hn,av7 ht,w1];exact⟨_,by omega,k+1,rfl,by omega,rfl,pj⟩
   have j7:ld Tryz.prog 72 ⟨p,0,none⟩ h2=some (.agg #[str (at' W i).nm,str n',str t',ax f]):=aS cC ((aN b2).sub 0 4) rfl;simp only[ez,ae,seval,e1,e2,av8 hn,av8 ht,j7];refine aO aL rfl rfl rfl (cS (l:=[]) (by simp)) q2 rfl ?_;intro h3 f3 b3;have bm:=aS cC (aN b3) rfl;simp only[ae,seval,bm];exact⟨ev (x1.trans pj) f3 (by omega),_,n',t',f,true,rfl,sz.1,fun _=>⟨i,hi,rfl⟩⟩
 have aK:¬(k:Int)<((at' W i).fds.length:Int):=by omega
 have c2:=(PC.fr K xc awx fun _ _=>awx).c2;have OI:=OI.ext xc;simp only[ez,ae,seval,aK,c2];refine aG [0,1,2,3,8,9,43,44,45] (fun m ρ hd=>∃k:Nat,m=(at' W i).ifs.length-k∧k≤(at' W i).ifs.length∧ρ=[(0,aE g),(1,aE (bs.getD i 0)),(2,str n),(3,str t),(8,aE q),(9, .bool false),(43, .slice ia (at' W i).ifs.length ic),(44,ao ((at' W i).ifs.length:Int)),(45,ao k)]∧Ext hc hd) ?_ ?_
 case refine_1=>
  simp only[ae,seval];exact⟨_,0,rfl,awb _,rfl,Ext.refl _⟩
 rintro m ρ hd⟨k,rfl,hk,rfl,xd⟩;have qd:=ay xd qc awx;have X:=(x1.trans xc).trans xd;have Hd:=H.ext X;have m0:=Hd.m0;by_cases aV:k<(at' W i).ifs.length
 case pos=>
  have aK:(k:Int)<((at' W i).ifs.length:Int):=by omega
  obtain⟨b1,p1,j,rfl,e1,hj,GG,hjr,lk⟩:=acW Hd I hi ho (OI.ext xd) aV;have w1:=gU (k:=k) (by omega);simp(disch:=omega)only[ez,ae,seval,aK,e1,m0,lk];refine aj rfl (ih hd j Hd (by omega) hj (.inl GG)) ?_;rintro _ h3⟨x3,R⟩;obtain⟨c',n',t',f,b,rfl,lQ,oO⟩:=R.parts;have q3:=ay x3 qd awx;simp only[ae,seval];refine aD aL ?_;simp only[ae,seval];refine aI aL rfl rfl rfl (cS (l:=[]) (by simp)) rfl ?_;intro h4 x4 zY _ b4;have q4:=ay x4 q3 awx;have x34:=x3.trans x4;generalize h3.size=p at*;cases b
  ·simp only[ez,ae,seval,w1]
   exact⟨_,by omega,k+1,rfl,by omega,rfl,xd.trans x34⟩
  have j7:ld Tryz.prog 72 ⟨p,0,none⟩ h4=some (.agg #[str c',str n',str t',ax f]):=aS cC (aN b4) rfl;simp only[ez,ae,seval,j7];refine aO aL rfl rfl rfl (cS (l:=[]) (by simp)) q4 rfl ?_;intro h5 f5 b5;have bm:=aS cC (aN b5) rfl;simp only[ae,seval,bm];exact⟨ev (X.trans x34) f5 (by omega),c',n',t',f,true,rfl,lQ,oO⟩
 have aK:¬(k:Int)<((at' W i).ifs.length:Int):=by omega
 obtain⟨wi,wp,wf,wm,K5⟩:=Hd.cl i hi;have c1:=K5.c1;by_cases hs:(at' W i).sup=[]
 ·simp only[ez,ae,seval,aK,c1,av8 hs]
  refine aO aL rfl rfl rfl (by simp[Value.cells,oneCell,str]) qd rfl ?_;intro h2 f2 b2;have bm:=aS cC (aN b2) rfl;simp only[ae,seval,bm];exact⟨ev X f2 (by omega),[],[],[],0,false,rfl,awb _,fun x=>by cases x⟩
 obtain⟨j,hj,W5,GG,hjr⟩:=I.su' hi ho hs;have lk:=Hd.lk (at' W i).sup;rw[←W5,iz I hj,W5]at lk;simp only[ez,ae,seval,aK,c1,av7 hs,m0,lk];refine aj rfl (ih hd j Hd (by omega) hj (.inl GG)) ?_;rintro _ h3⟨x3,R⟩;obtain⟨c',n',t',f,b,rfl,lQ,oO⟩:=R.parts;have q3:=ay x3 qd awx;simp only[ae,seval];refine aO aL rfl rfl rfl (cS (l:=[]) (by simp)) q3 rfl ?_;intro h4 f4 b4;have bm:=aS cC (aN b4) rfl;simp only[ae,seval,bm];exact⟨ev (X.trans x3) f4 (by omega),c',n',t',f,b,rfl,lQ,oO⟩
theorem Ta(I:ek W S rk)(n t:az):∀(r:Nat)(h:ar)(i:Nat),PW h g mb bs W S→rk i<r→i<W.length→zZ W S i→
 aF Tryz.prog 121 #[aE g,aE (bs.getD i 0),str n,str t] h fun v h'=>Ext h h'∧MbR W v:=by
 intro r
 induction r with
 |zero=>intro h i _ hr;exact aww hr (awq _)
 |succ r ih=>
 intro h i H hri hi ho;refine Fv (args:=[aE g,aE (bs.getD i 0),str n,str t]) rfl ?_;simp only[gF,ae,seval];refine aD aL ?_;have x1:=Ext.push h (.cells #[str [],str [],str [],ax 0] 72);have q1:(h.push (.cells #[str [],str [],str [],ax 0] 72))[h.size]? =some (.cells #[str [],str [],str [],ax 0] 72):=by simp
 have H1:=H.ext x1;obtain⟨q,hq⟩:∃q,q=h.size:=⟨_,rfl⟩;rw[←hq]at q1⊢;simp only[gF,ae,seval];generalize h.push _=h1 at*;obtain⟨vi,vp,vf,vm,K⟩:=H1.cl i hi;have c2:=K.c2;have OI:=K.i;obtain⟨_,ia,ic,rfl,_⟩:=id OI.dQ;have sz:=H.sz i hi;simp only[ae,seval,c2];refine aG [0,1,2,3,8,9,19,20,21] (fun m ρ hd=>∃k:Nat,m=(at' W i).ifs.length-k∧k≤(at' W i).ifs.length∧ρ=[(0,aE g),(1,aE (bs.getD i 0)),(2,str n),(3,str t),(8,aE q),(9, .bool false),(19, .slice ia (at' W i).ifs.length ic),(20,ao ((at' W i).ifs.length:Int)),(21,ao k)]∧Ext h1 hd) ?_ ?_
 case refine_1=>
  simp only[ae,seval];exact⟨_,0,rfl,awb _,rfl,Ext.refl _⟩
 rintro m ρ hd⟨k,rfl,hk,rfl,xd⟩;have qd:=ay xd q1 awx;have X:=x1.trans xd;have Hd:=H.ext X;have m0:=Hd.m0;by_cases aV:k<(at' W i).ifs.length
 case neg=>
  have aK:¬(k:Int)<((at' W i).ifs.length:Int):=by omega
  simp only[gF,ae,seval,aK];refine aO aL rfl rfl rfl (by simp[Value.cells,oneCell,str]) qd rfl ?_;intro h2 f2 b2;have bm:=aS cC (aN b2) rfl;simp only[ae,seval,bm];exact⟨ev X f2 (by omega),[],[],[],0,false,rfl,awb _,fun x=>by cases x⟩
 have aK:(k:Int)<((at' W i).ifs.length:Int):=by omega
 obtain⟨b1,p1,j,rfl,e1,hj,GG,hjr,lk⟩:=acW Hd I hi ho (OI.ext xd) aV;have w1:=gU (k:=k) (by omega);simp(disch:=omega)only[gF,ae,seval,aK,e1,m0,lk];refine aj rfl (vN Hd hj n t) ?_;rintro _ h3⟨x3,R⟩;obtain⟨c',n',t',f,b,rfl,lQ,oO⟩:=R.parts;have q3:=ay x3 qd awx;simp only[ae,seval];refine aD aL ?_;simp only[ae,seval];refine aI aL rfl rfl rfl (cS (l:=[]) (by simp)) rfl ?_;intro h4 x4 zY _ b4;have q4:=ay x4 q3 awx;have X4:=X.trans (x3.trans x4);have x34:=xd.trans (x3.trans x4);generalize h3.size=p at*;have H4:=H.ext X4;have m0:=H4.m0;have lk:=H4.lk (at' W j).nm;rw[iz I hj]at lk;cases b
 case true=>
  have j7:ld Tryz.prog 72 ⟨p,0,none⟩ h4=some (.agg #[str c',str n',str t',ax f]):=aS cC (aN b4) rfl;simp only[gF,ae,seval,j7];refine aO aL rfl rfl rfl (cS (l:=[]) (by simp)) q4 rfl ?_;intro h5 f5 b5;have bm:=aS cC (aN b5) rfl;simp only[ae,seval,bm];exact⟨ev X4 f5 (by omega),c',n',t',f,true,rfl,lQ,oO⟩
 simp only[gF,ae,seval,m0,lk];refine aj rfl (ih h4 j H4 (by omega) hj (.inl GG)) ?_;rintro _ h5⟨x5,R⟩;obtain⟨c',n',t',f,b,rfl,lQ,oO⟩:=R.parts;have q5:=ay x5 q4 awx;simp only[ae,seval];refine aD aL ?_;simp only[ae,seval];refine aI aL rfl rfl rfl (cS (l:=[]) (by simp)) rfl ?_;intro h6 x6 ag7 _ b6;have q6:=ay x6 q5 awx;have x56:=x5.trans x6;generalize h5.size=p at*;cases b
 ·simp only[gF,ae,seval,w1]
  exact⟨_,by omega,k+1,rfl,by omega,rfl,x34.trans x56⟩
 have j7:ld Tryz.prog 72 ⟨p,0,none⟩ h6=some (.agg #[str c',str n',str t',ax f]):=aS cC (aN b6) rfl;simp only[gF,ae,seval,j7];refine aO aL rfl rfl rfl (cS (l:=[]) (by simp)) q6 rfl ?_;intro h7 f7 b7;have bm:=aS cC (aN b7) rfl;simp only[ae,seval,bm];exact⟨ev (X4.trans x56) f7 (by omega),c',n',t',f,true,rfl,lQ,oO⟩
end
end
section
section
variable{h h':ar}{g mb:Nat}{bs:List Nat}{W:List LC}{S:LS}{rk:Nat→Nat}
theorem PW.lkO(H:PW h g mb bs W S)(I:ek W S rk):∃i,i<W.length∧zZ W S i∧vT Tryz.prog 35 (.map (some mb)) (str [106,97,118,97,47,108,97,110,103,47,79,98,106,101,99,116]) false h=some (aE (bs.getD i 0)):=by
 obtain⟨i,hi,hn,h1,h2⟩:=I.ob;have lk:=H.lk (at' W i).nm;rw[iz I hi,hn]at lk;exact⟨i,hi, .inr ⟨h1,h2⟩,lk⟩
theorem PW.lkS(H:PW h g mb bs W S)(I:ek W S rk){i:Nat}(hi:i<W.length):vT Tryz.prog 35 (.map (some mb)) (str (at' W i).nm) false h=some (aE (bs.getD i 0)):=by
 have lk:=H.lk (at' W i).nm;rwa[iz I hi]at lk
theorem mW(h:ar):(h.push (.cells #[str [],str [],str [],ax 0] 72))[h.size]? =some (.cells #[str [],str [],str [],ax 0] 72):=by simp
theorem eO{q:Nat}{c n t:az}{f:Int}(b:h[q]? =some (.cells #[str c,str n,str t,ax f] 72)):ld Tryz.prog 72 ⟨q,0,none⟩ h=some (.agg #[str c,str n,str t,ax f]):=aS cC (aN b) rfl
theorem W6(I:ek W S rk)(n t:az)(face:Bool)(H:PW h g mb bs W S){i:Nat}(hi:i<W.length)(ho:zZ W S i):
 aF Tryz.prog 58 #[aE g,aE (bs.getD i 0),str n,str t, .bool face] h fun v h'=>Ext h h'∧MbR W v:=by
 refine Dr (args:=[aE g,aE (bs.getD i 0),str n,str t, .bool face]) rfl ?_;simp only[cX,ae,seval];refine aD aL ?_;have x1:=Ext.push h (.cells #[str [],str [],str [],ax 0] 72);have q1:=mW h;have H1:=H.ext x1;obtain⟨q,hq⟩:∃q,q=h.size:=⟨_,rfl⟩;rw[←hq]at q1⊢;simp only[cX,ae,seval];generalize h.push _=h1 at*;cases face with
 |true=>
  simp only[cX,ae,seval];refine aj rfl (vN H1 hi n t) ?_;rintro _ h3⟨x3,R⟩;obtain⟨c',n',t',f,b,rfl,lQ,oO⟩:=R.parts;have q3:=ay x3 q1 awx;simp only[ae,seval];refine aD aL ?_;simp only[ae,seval];refine aI aL rfl rfl rfl (cS (l:=[]) (by simp)) rfl ?_;intro h4 x4 zY _ b4;have q4:=ay x4 q3 awx;have X4:=x1.trans (x3.trans x4);generalize h3.size=p at*;cases b
  case true=>
   have j7:=eO b4;simp only[cX,ae,seval,j7];refine aO aL rfl rfl rfl (cS (l:=[]) (by simp)) q4 rfl ?_;intro h5 f5 b5;have bm:=eO b5;simp only[ae,seval,bm];exact⟨ev X4 f5 (by omega),c',n',t',f,true,rfl,lQ,oO⟩
  have H4:=H.ext X4;simp only[cX,ae,seval];refine aj rfl (Ta I n t _ h4 i H4 (Nat.lt_succ_self _) hi ho) ?_;rintro _ h5⟨x5,R⟩;obtain⟨c',n',t',f,b,rfl,lQ,oO⟩:=R.parts;have q5:=ay x5 q4 awx;simp only[ae,seval];refine aD aL ?_;simp only[ae,seval];refine aI aL rfl rfl rfl (cS (l:=[]) (by simp)) rfl ?_;intro h6 x6 ag7 _ b6;have q6:=ay x6 q5 awx;have X6:=X4.trans (x5.trans x6);generalize h5.size=p at*;cases b
  case true=>
   have j7:=eO b6;simp only[cX,ae,seval,j7];refine aO aL rfl rfl rfl (cS (l:=[]) (by simp)) q6 rfl ?_;intro h7 f7 b7;have bm:=eO b7;simp only[ae,seval,bm];exact⟨ev X6 f7 (by omega),c',n',t',f,true,rfl,lQ,oO⟩
  have H6:=H.ext X6;have m0:=H6.m0;obtain⟨o,oi,_,Qy⟩:=H6.lkO I;simp only[cX,ae,seval,m0,Qy];refine aj rfl (vN H6 oi n t) ?_;rintro _ h7⟨x7,R⟩;obtain⟨c',n',t',f,b,rfl,lQ,oO⟩:=R.parts;have q7:=ay x7 q6 awx;simp only[ae,seval];refine aD aL ?_;simp only[ae,seval];refine aI aL rfl rfl rfl (cS (l:=[]) (by simp)) rfl ?_;intro h8 x8 aqQ _ b8;have q8:=ay x8 q7 awx;have X8:=X6.trans (x7.trans x8);have j7:=eO b8;generalize h7.size=p at*;by_cases pP:n=[60,105,110,105,116,62]
  ·cases b
   all_goals
    simp only[cX,ae,seval,j7,av8 pP];refine aO aL rfl rfl rfl (cS (l:=[]) (by simp)) q8 rfl ?_;intro h9 f9 b9;have bm:=eO b9;simp only[ae,seval,bm];exact⟨ev X8 f9 (by omega),c',n',t',f,false,rfl,lQ,fun x=>by cases x⟩
  ·cases b
   all_goals
    simp only[cX,ae,seval,j7,av7 pP];refine aO aL rfl rfl rfl (cS (l:=[]) (by simp)) q8 rfl ?_;intro h9 f9 b9;have bm:=eO b9;simp only[ae,seval,bm];exact⟨ev X8 f9 (by omega),c',n',t',f,_,rfl,lQ,oO⟩
 |false=>
  by_cases pP:n=[60,105,110,105,116,62]
  ·simp only[cX,ae,seval,av8 pP]
   refine aj rfl (vN H1 hi n t) ?_;rintro _ h3⟨x3,R⟩;obtain⟨c',n',t',f,b,rfl,lQ,oO⟩:=R.parts;have q3:=ay x3 q1 awx;simp only[ae,seval];refine aO aL rfl rfl rfl (cS (l:=[]) (by simp)) q3 rfl ?_;intro h9 f9 b9;have bm:=eO b9;simp only[ae,seval,bm];exact⟨ev (x1.trans x3) f9 (by omega),c',n',t',f,b,rfl,lQ,oO⟩
  simp only[cX,ae,seval,av7 pP];refine aG [0,1,2,3,4,10,11,18] (fun m ρ hd=>∃j:Nat,m=rk j∧j<W.length∧zZ W S j∧ρ=[(0,aE g),(1,aE (bs.getD i 0)),(2,str n),(3,str t),(4, .bool false),(10,aE q),(11, .bool false),(18,aE (bs.getD j 0))]∧Ext h1 hd) ?_ ?_
  case refine_1=>
   simp only[ae,seval];exact⟨_,i,rfl,hi,ho,rfl,Ext.refl _⟩
  rintro m ρ hd⟨j,rfl,hj,GG,rfl,xd⟩;have qd:=ay xd q1 awx;have X:=x1.trans xd;have Hd:=H.ext X;simp only[cX,ae,seval];refine aj rfl (vN Hd hj n t) ?_;rintro _ h3⟨x3,R⟩;obtain⟨c',n',t',f,b,rfl,lQ,oO⟩:=R.parts;have q3:=ay x3 qd awx;simp only[ae,seval];refine aD aL ?_;simp only[ae,seval];refine aI aL rfl rfl rfl (cS (l:=[]) (by simp)) rfl ?_;intro h4 x4 zY _ b4;have q4:=ay x4 q3 awx;have X4:=X.trans (x3.trans x4);have W2:=xd.trans (x3.trans x4);generalize h3.size=p at*;cases b
  case true=>
   have j7:=eO b4;simp only[cX,ae,seval,j7];refine aO aL rfl rfl rfl (cS (l:=[]) (by simp)) q4 rfl ?_;intro h5 f5 b5;have bm:=eO b5;simp only[ae,seval,bm];exact⟨ev X4 f5 (by omega),c',n',t',f,true,rfl,lQ,oO⟩
  have H4:=H.ext X4;have m0:=H4.m0;obtain⟨wi,wp,wf,wm,K4⟩:=H4.cl j hj;have c1:=K4.c1;by_cases hs:(at' W j).sup=[]
  case neg=>
   obtain⟨y,hy,Le,Tb,Tc⟩:=I.su' hj GG hs;have lk:=H4.lkS I hy;rw[Le]at lk;simp only[cX,ae,seval,c1,av7 hs,m0,lk];exact⟨_,Tc,y,rfl,hy, .inl Tb,rfl,W2⟩
  simp only[cX,ae,seval,c1,av8 hs];refine aG [0,1,2,3,4,10,11,21] (fun m ρ hd=>∃j:Nat,m=rk j∧j<W.length∧zZ W S j∧ρ=[(0,aE g),(1,aE (bs.getD i 0)),(2,str n),(3,str t),(4, .bool false),(10,aE q),(11, .bool false),(21,aE (bs.getD j 0))]∧Ext h4 hd) ?_ ?_
  case refine_1=>
   simp only[ae,seval];exact⟨_,i,rfl,hi,ho,rfl,Ext.refl _⟩
  rintro m ρ he⟨k,rfl,hk,hko,rfl,xe⟩;have qe:=ay xe q4 awx;have Y:=X4.trans xe;have He:=H.ext Y;simp only[cX,ae,seval];refine aj rfl (Ta I n t _ he k He (Nat.lt_succ_self _) hk hko) ?_;rintro _ h5⟨x5,R⟩;obtain⟨c',n',t',f,b,rfl,lQ,oO⟩:=R.parts;have q5:=ay x5 qe awx;simp only[ae,seval];refine aD aL ?_;simp only[ae,seval];refine aI aL rfl rfl rfl (cS (l:=[]) (by simp)) rfl ?_;intro h6 x6 ag7 _ b6;have q6:=ay x6 q5 awx;have Y6:=Y.trans (x5.trans x6);have x46:=xe.trans (x5.trans x6);generalize h5.size=p at*;cases b
  case true=>
   have j7:=eO b6;simp only[cX,ae,seval,j7];refine aO aL rfl rfl rfl (cS (l:=[]) (by simp)) q6 rfl ?_;intro h7 f7 b7;have bm:=eO b7;simp only[ae,seval,bm];exact⟨ev Y6 f7 (by omega),c',n',t',f,true,rfl,lQ,oO⟩
  have H6:=H.ext Y6;have m0:=H6.m0;obtain⟨wi,wp,wf,wm,K6⟩:=H6.cl k hk;have c1:=K6.c1;by_cases hs:(at' W k).sup=[]
  case neg=>
   obtain⟨y,hy,Le,Tb,Tc⟩:=I.su' hk hko hs;have lk:=H6.lkS I hy;rw[Le]at lk;simp only[cX,ae,seval,c1,av7 hs,m0,lk];exact⟨_,Tc,y,rfl,hy, .inl Tb,rfl,x46⟩
  simp only[cX,ae,seval,c1,av8 hs];refine aO aL rfl rfl rfl (by simp[Value.cells,oneCell,str]) q6 rfl ?_;intro h7 f7 b7;have bm:=aS cC (aN b7) rfl;simp only[ae,seval,bm];exact⟨ev Y6 f7 (by omega),[],[],[],0,false,rfl,awb _,fun x=>by cases x⟩
end
end
section
section
variable{h h':ar}{g mb:Nat}{bs:List Nat}{W:List LC}{S:LS}{rk:Nat→Nat}
def MbE(W:List LC)(v:Value):Prop:=∃c n t f e,v= .tuple #[.agg #[str c,str n,str t,ax (f:Nat)],ao e]∧c.length≤1048576∧(e=0→∃i,i<W.length∧(at' W i).nm=c)
theorem gR.res{S':LS}{mo:Nat→Nat}(P:gR g mb bs W S h h' S' mo){hc:ar}{q:Nat}{c n t:az}{f:Int}(b:h'[q]? =some (.cells #[str c,str n,str t,ax f] 72))(fr:Fr (fun k=>k=q) h' hc)(hq:h.size≤q):gR g mb bs W S h hc S' mo:=by
 obtain⟨H,I,L,F⟩:=P;have hg:¬g=q:=fun e=>by have:=H.w;rw[e,b]at this;simp at this
 have hm:¬mb=q:=fun e=>by obtain⟨es,cc,h1,_⟩:=H.mp;rw[e,b]at h1;cases h1
 refine⟨⟨ay fr H.w hg,H.mp.fr fr hm,H.ln,H.nd,fun i hi=>?_,H.fl,H.fr,H.mr,H.tf,H.sz⟩,I,L,Fr.trans F fr (fun _ _ h=>h) fun k hk e=>by omega⟩;obtain⟨vi,vp,vf,vm,K⟩:=H.cl i hi;refine⟨vi,vp,vf,vm,K.fr fr (fun e=>?_) ?_⟩
 ·have:=K.b;rw[e,b]at this;simp at this
 ·rintro k(hk|hk|hk)
  ·exact fun e=>bK K.i b (by decide) (by rw[hk,e])
  ·exact fun e=>bK K.f b (by decide) (by rw[hk,e])
  ·exact fun e=>bK K.m b (by decide) (by rw[hk,e])
theorem acX(H:PW h g mb bs W S)(I:ek W S rk){s:az}(o:pn W S s):∃j,j<W.length∧zZ W S j∧
 ((((s.getD 0 0).toNat:Int)=91∧vT Tryz.prog 35 (.map (some mb)) (str [106,97,118,97,47,108,97,110,103,47,79,98,106,101,99,116]) false h=some (aE (bs.getD j 0)))∨
  (¬((s.getD 0 0).toNat:Int)=91∧(∃a,vT Tryz.prog 35 (.map (some mb)) (str [106,97,118,97,47,108,97,110,103,47,79,98,106,101,99,116]) false h=some a)∧vT Tryz.prog 35 (.map (some mb)) (str s) false h=some (aE (bs.getD j 0)))):=by
 obtain⟨oi,ho,hu,Qy⟩:=H.lkO I;have ea:((s.getD 0 0).toNat:Int)=91↔s.head?=some 91:=oN (c:=91) (lL o.1);by_cases hc:s.head?=some 91
 ·exact⟨oi,ho,hu, .inl ⟨ea.2 hc,Qy⟩⟩
 ·obtain⟨i,hi,rfl,GJ⟩:=ug o hc
  exact⟨i,hi, .inl GJ, .inr ⟨fun x=>hc (ea.1 x),⟨_,Qy⟩,H.lkS I hi⟩⟩
theorem Td(H:PW h g mb bs W S)(I:ek W S rk)(a s n t:az)(ha:a.length≤1048576)(hl:s.length≤1048576):
 aF Tryz.prog 21 #[aE g,str a,str s,str n,str t] h (yk g mb bs W S h fun _ v=>MbE W v):=by
 refine Ft (args:=[aE g,str a,str s,str n,str t]) rfl ?_;simp only[fU,ae,seval];refine aD aL ?_;have x1:=Ext.push h (.cells #[str [],str [],str [],ax 0] 72);have q1:=mW h;have vO:¬h.size∈bs:=fun e=>by have:=H.nZ _ e;omega
 have P1:=gR.ext H I x1;obtain⟨q,hq⟩:∃q,q=h.size:=⟨_,rfl⟩;rw[←hq]at q1 vO⊢;simp only[fU,ae,seval];generalize h.push _=h1 at*;refine aj rfl (Vi P1.1 P1.2.1 a s hl ha) ?_;rintro _ h2⟨S2,r2,P2,e,rfl,o2⟩;have rT:=P1.trans P2;have q2:=ay P2.2.2.2 q1 vO;by_cases he:e=0
 case neg=>
  simp only[fU,ae,seval,av7 he];refine aO aL rfl rfl rfl (by simp[Value.cells,oneCell,str]) q2 rfl ?_;intro h7 f7 b7;have bm:=aS cC (aN b7) rfl;simp only[ae,seval,bm];exact⟨S2,r2,rT.res q2 f7 (by omega),[],[],[],0,e,rfl,awb _,fun x=>aww x he⟩
 have zP:=o2 he;subst he;have I2:=P2.2.1;have m0:=P2.1.m0;have cN:=lL zP.1;have pa:(0:Int)<(s.length:Int):=by have:=awr.2 cN;omega
 obtain⟨j,hj,Te,hc⟩:=acX P2.1 I2 zP;rcases hc with⟨fa,Qy⟩|⟨fa,⟨_,Qy⟩,lk⟩
 case' inl=>simp(disch:=omega)only[fU,ae,seval,m0,Qy,fa]
 case' inr=>simp(disch:=omega)only[fU,ae,seval,m0,Qy,av7 fa,lk]
 all_goals
  refine aj rfl (ZK I2 n t _ h2 j P2.1 (Nat.lt_succ_self _) hj Te) ?_;rintro _ h3⟨x3,R⟩;obtain⟨c',n',t',f,b,rfl,lQ,oO⟩:=R.parts;have q3:=ay x3 q2 awx;simp only[ae,seval];refine aD aL ?_;simp only[ae,seval];refine aI aL rfl rfl rfl (cS (l:=[]) (by simp)) rfl ?_;intro h4 x4 zY _ b4;have q4:=ay x4 q3 awx;have P4:=rT.trans (gR.ext P2.1 I2 (x3.trans x4));have OP:¬h3.size∈bs:=fun e=>by have:=P2.1.nZ _ e;have:=x3.size;omega
  generalize h3.size=p at*;cases b
  case false=>
   simp only[fU,ae,seval];refine aO aL rfl rfl rfl (by simp[Value.cells,oneCell,str]) q4 rfl ?_;intro h7 f7 b7;have bm:=aS cC (aN b7) rfl;simp only[ae,seval,bm];exact⟨S2,r2,P4.res q4 f7 (by omega),[],[],[],0,_,rfl,awb _,fun x=>aww x (by decide)⟩
  have j7:=eO b4;simp only[fU,ae,seval,j7];refine aj rfl (S9 P4.1 P4.2.1 a c' n' t' f ha lQ) ?_;rintro _ h5⟨S5,r5,P5,b,rfl⟩;have Tf:=P4.trans P5;have q5:=ay P5.2.2.2 q4 vO;have hl5:=eO (ay P5.2.2.2 b4 OP);cases b
  ·simp only[fU,ae,seval]
   refine aO aL rfl rfl rfl (by simp[Value.cells,oneCell,str]) q5 rfl ?_;intro h7 f7 b7;have bm:=aS cC (aN b7) rfl;simp only[ae,seval,bm];exact⟨S5,r5,Tf.res q5 f7 (by omega),[],[],[],0,_,rfl,awb _,fun x=>aww x (by decide)⟩
  ·simp only[fU,ae,seval,hl5]
   refine aO aL rfl rfl rfl (cS (l:=[]) (by simp)) q5 rfl ?_;intro h7 f7 b7;have bm:=eO b7;simp only[ae,seval,bm];exact⟨S5,r5,Tf.res q5 f7 (by omega),c',n',t',f,0,rfl,lQ,fun _=>oO rfl⟩
end
end
section
section
variable{h h':ar}{g mb:Nat}{bs:List Nat}{W:List LC}{S:LS}{rk:Nat→Nat}
theorem GK(H:PW h g mb bs W S)(I:ek W S rk)(a s n t:az)(face:Bool)(ha:a.length≤1048576)(hl:s.length≤1048576):
 aF Tryz.prog 23 #[aE g,str a,str s,str n,str t, .bool face] h (yk g mb bs W S h fun S' v=>MbE W v):=by
 refine Dq (args:=[aE g,str a,str s,str n,str t, .bool face]) rfl ?_;simp only[dY,ae,seval];refine aD aL ?_;have x1:=Ext.push h (.cells #[str [],str [],str [],ax 0] 72);have q1:=mW h;have vO:¬h.size∈bs:=fun e=>by have:=H.nZ _ e;omega
 have P1:=gR.ext H I x1;obtain⟨q,hq⟩:∃q,q=h.size:=⟨_,rfl⟩;rw[←hq]at q1 vO⊢;simp only[dY,ae,seval];generalize h.push _=h1 at*;have none:∀{hc:ar}{S':LS}{mo:Nat→Nat}{e:Int},gR g mb bs W S h hc S' mo→e≠0→yk g mb bs W S h (fun S' v=>MbE W v) (.tuple #[.agg #[str [],str [],str [],ax 0],ao e]) hc:=fun P he=>⟨_,_,P,[],[],[],0,_,rfl,awb _,fun x=>aww x he⟩;refine aj rfl (Vi P1.1 P1.2.1 a s hl ha) ?_;rintro _ h2⟨S2,r2,P2,e,rfl,o2⟩;have rT:=P1.trans P2;have q2:=ay P2.2.2.2 q1 vO;by_cases he:e=0
 case neg=>
  simp only[dY,ae,seval,av7 he];refine aO aL rfl rfl rfl (by simp[Value.cells,oneCell,str]) q2 rfl ?_;intro h7 f7 b7;have bm:=aS cC (aN b7) rfl;simp only[ae,seval,bm];exact none (rT.res q2 f7 (by omega)) he
 have zP:=o2 he;subst he;have I2:=P2.2.1;have m0:=P2.1.m0;have cN:=lL zP.1;have pa:(0:Int)<(s.length:Int):=by have:=awr.2 cN;omega
 obtain⟨j,hj,Te,hc⟩:=acX P2.1 I2 zP;obtain⟨vi,vp,vf,vm,K⟩:=P2.1.cl j hj;have c3:=K.c3;have fl:∃b:Bool,(¬cB .and .u16 ((at' W j).fl:Int) 512=0)=(b=true):=by
  by_cases x:cB .and .u16 ((at' W j).fl:Int) 512=0
  ·exact⟨false,by simp[x]⟩
  ·exact⟨true,by simp[x]⟩
 obtain⟨fb,M5⟩:=fl;rcases hc with⟨fa,Qy⟩|⟨fa,⟨_,Qy⟩,lk⟩
 case' inl=>simp(disch:=omega)only[dY,ae,seval,m0,Qy,fa,c3,M5,Bool.decide_eq_true]
 case' inr=>simp(disch:=omega)only[dY,ae,seval,m0,Qy,av7 fa,lk,c3,M5,Bool.decide_eq_true]
 all_goals
  by_cases ub:fb=face
  case neg=>
   simp only[dY,ae,seval,av7 ub];refine aO aL rfl rfl rfl (by simp[Value.cells,oneCell,str]) q2 rfl ?_;intro h7 f7 b7;have bm:=aS cC (aN b7) rfl;simp only[ae,seval,bm];exact none (rT.res q2 f7 (by omega)) (by decide)
  simp only[dY,ae,seval,av8 ub];refine aj rfl (W6 I2 n t face P2.1 hj Te) ?_;rintro _ h3⟨x3,R⟩;obtain⟨c',n',t',f,b,rfl,lQ,oO⟩:=R.parts;have q3:=ay x3 q2 awx;simp only[ae,seval];refine aD aL ?_;simp only[ae,seval];refine aI aL rfl rfl rfl (cS (l:=[]) (by simp)) rfl ?_;intro h4 x4 zY _ b4;have q4:=ay x4 q3 awx;have P4:=rT.trans (gR.ext P2.1 I2 (x3.trans x4));have OP:¬h3.size∈bs:=fun e=>by have:=P2.1.nZ _ e;have:=x3.size;omega
  generalize h3.size=p at*;cases b
  case false=>
   simp only[dY,ae,seval];refine aO aL rfl rfl rfl (by simp[Value.cells,oneCell,str]) q4 rfl ?_;intro h7 f7 b7;have bm:=aS cC (aN b7) rfl;simp only[ae,seval,bm];exact none (P4.res q4 f7 (by omega)) (by decide)
  have j7:=eO b4;obtain⟨wi,wp,wf,wm,K4⟩:=P4.1.cl j hj;have d3:=K4.c3;have e3:cellAt h4 ⟨p,3,Option.none⟩=some (ax f):=by rw[au b4];rfl
  by_cases g1:cB .and .u16 (f:Int) 1024=0
  case' neg=>
   by_cases g2:cB .and .u16 ((at' W j).fl:Int) 1024=0
   case pos=>
    simp only[dY,ae,seval,e3,d3,av7 g1,av8 g2];refine aO aL rfl rfl rfl (by simp[Value.cells,oneCell,str]) q4 rfl ?_;intro h7 f7 b7;have bm:=aS cC (aN b7) rfl;simp only[ae,seval,bm];exact none (P4.res q4 f7 (by omega)) (by decide)
  case' pos=>simp only[dY,ae,seval,e3,av8 g1,j7]
  case' neg=>simp only[dY,ae,seval,e3,d3,av7 g1,av7 g2,j7]
  all_goals
   refine aj rfl (S9 P4.1 P4.2.1 a c' n' t' f ha lQ) ?_;rintro _ h5⟨S5,r5,P5,b,rfl⟩;have Tf:=P4.trans P5;have q5:=ay P5.2.2.2 q4 vO;have hl5:=eO (ay P5.2.2.2 b4 OP);cases b
   ·simp only[dY,ae,seval]
    refine aO aL rfl rfl rfl (by simp[Value.cells,oneCell,str]) q5 rfl ?_;intro h7 f7 b7;have bm:=aS cC (aN b7) rfl;simp only[ae,seval,bm];exact none (Tf.res q5 f7 (by omega)) (by decide)
   ·simp only[dY,ae,seval,hl5]
    refine aO aL rfl rfl rfl (cS (l:=[]) (by simp)) q5 rfl ?_;intro h7 f7 b7;have bm:=eO b7;simp only[ae,seval,bm];exact⟨S5,r5,Tf.res q5 f7 (by omega),c',n',t',f,0,rfl,lQ,fun _=>oO rfl⟩
end
end
section
section
variable{h h':ar}{g mb:Nat}{bs:List Nat}{W:List LC}{S:LS}{rk:Nat→Nat}
theorem W7(c n t:az)(f:Nat):Pn Tryz.prog 72 [str c,str n,str t,ax f]=true:=by
 unfold Pn;rw[Tryz.underlying72]
 kernel_rfl
theorem W8(c n t:az)(f:Nat)(c' n' t':az)(f':Nat):Uy Tryz.prog 72 [str c,str n,str t,ax f] [str c',str n',str t',ax f']=true:=by
 unfold Uy;rw[Tryz.underlying72]
 kernel_rfl
theorem W9{h:ar}{x y:Operand}(c n t:az)(f:Nat)(c' n' t':az)(f':Nat):∃b,ej Tryz.prog .eql 72 x y (.agg #[str c,str n,str t,ax f]) (.agg #[str c',str n',str t',ax f']) h=some (.bool b):=
 ⟨_,VL (W7 c n t f) (W8 c n t f c' n' t' f')⟩
theorem Tg(h:ar)(c n t:az)(f:Nat)(c' n' t':az)(f':Nat)(hc:c.length≤1048576)(hc':c'.length≤1048576):
 aF Tryz.prog 122 #[.agg #[str c,str n,str t,ax f], .agg #[str c',str n',str t',ax f']] h fun v h'=>Ext h h'∧∃b,v= .bool b:=by
 refine xQ (args:=[.agg #[str c,str n,str t,ax f], .agg #[str c',str n',str t',ax f']]) rfl ?_;simp only[qD,ae,seval];refine cT ?_;have x1:=Ext.push h (.cells #[str c,str n,str t,ax f] 72);have q1:(h.push (.cells #[str c,str n,str t,ax f] 72))[h.size]? =some (.cells #[str c,str n,str t,ax f] 72):=by simp
 simp only[ae,seval];generalize h.push _=h1,h.size=q at*;refine cT ?_;have x2:=Ext.push h1 (.cells #[str c',str n',str t',ax f'] 72);have p2:(h1.push (.cells #[str c',str n',str t',ax f'] 72))[h1.size]? =some (.cells #[str c',str n',str t',ax f'] 72):=by simp
 have q2:=ay x2 q1 awx;have X:=x1.trans x2;simp only[qD,ae,seval];generalize h1.push _=h2,h1.size=p at*;have l1:=eO q2;have l2:=eO p2;obtain⟨b,hb⟩:=W9 (h:=h2) (x:= .tmp 5) (y:= .tmp 6) c n t f c' n' t' f';have e3:cellAt h2 ⟨p,3,none⟩=some (ax f'):=by rw[au p2];rfl
 have e0:cellAt h2 ⟨p,0,none⟩=some (str c'):=by rw[au p2];rfl
 have d0:cellAt h2 ⟨q,0,none⟩=some (str c):=by rw[au q2];rfl
 cases b
 case true=>
  simp only[ae,seval,l1,l2,hb];exact⟨X,_,rfl⟩
 by_cases f5:cB .and .u16 (f':Int) 5=0
 case neg=>
  simp only[ae,seval,l1,l2,hb,e3,av7 f5];exact⟨X,_,rfl⟩
 simp only[ae,seval,l1,l2,hb,e3,av8 f5,d0,e0];refine aj rfl (uy c (by omega)) ?_;rintro _ h2⟨rfl,t1,rfl⟩;simp only[ae,seval,e0];refine aj rfl (uy c' (by omega)) ?_;rintro _ h2⟨rfl,t2,rfl⟩;simp only[ae,seval];exact⟨X,_,rfl⟩
def MbT(v:Value):Prop:=∃c n t f e,v= .tuple #[.agg #[str c,str n,str t,ax (f:Nat)],ao e]
theorem ZL(H:PW h g mb bs W S)(I:ek W S rk)(s c n t:az)(f:Nat)(o:pn W S s)(lQ:c.length≤1048576)(oO:∃i,i<W.length∧(at' W i).nm=c):
 aF Tryz.prog 61 #[aE g,str s, .agg #[str c,str n,str t,ax f]] h fun v h'=>Ext h h'∧MbT v:=by
 refine Ds (args:=[aE g,str s, .agg #[str c,str n,str t,ax f]]) rfl ?_;simp only[dt,ae,seval];refine cT ?_;have x1:=Ext.push h (.cells #[str c,str n,str t,ax f] 72);have p1:(h.push (.cells #[str c,str n,str t,ax f] 72))[h.size]? =some (.cells #[str c,str n,str t,ax f] 72):=by simp
 simp only[ae,seval];obtain⟨p,hp⟩:∃p,p=h.size:=⟨_,rfl⟩;rw[←hp]at p1⊢;generalize h.push _=h1 at*;refine aD aL ?_;have x2:=Ext.push h1 (.cells #[str [],str [],str [],ax 0] 72);have q2:=mW h1;have p2:=ay x2 p1 awx;have X:=x1.trans x2;obtain⟨q,hq⟩:∃q,q=h1.size:=⟨_,rfl⟩;rw[←hq]at q2⊢;simp only[dt,ae,seval];generalize h1.push _=h2 at*;have Ti:h.size≤q:=by have:=x1.size;omega
 have l1:=eO p2;have e3:cellAt h2 ⟨p,3,none⟩=some (ax f):=by rw[au p2];rfl
 have cN:=lL o.1;have pa:(0:Int)<(s.length:Int):=by have:=awr.2 cN;omega
 have ea:((s.getD 0 0).toNat:Int)=91↔s.head?=some 91:=oN (c:=91) cN;by_cases f2:cB .and .u16 (f:Int) 2=0
 case neg=>
  simp only[dt,ae,seval,e3,av7 f2,l1];refine aO aL rfl rfl rfl (cS (l:=[]) (by simp)) q2 rfl ?_;intro h7 f7 b7;have bm:=eO b7;simp only[ae,seval,bm];exact⟨ev X f7 Ti,c,n,t,f,0,rfl⟩
 have nm:∃i,i<W.length∧zZ W S i∧((((s.getD 0 0).toNat:Int)=91∧(at' W i).nm=nt)∨(¬((s.getD 0 0).toNat:Int)=91∧s=(at' W i).nm)):=by
  by_cases hc:s.head?=some 91
  ·obtain⟨i,hi,hn,h1,h2⟩:=I.ob
   exact⟨i,hi, .inr ⟨h1,h2⟩, .inl ⟨ea.2 hc,hn⟩⟩
  ·obtain⟨i,hi,hn,GJ⟩:=ug o hc
   exact⟨i,hi, .inl GJ, .inr ⟨fun x=>hc (ea.1 x),hn.symm⟩⟩
 obtain⟨i,hi,hu,kQ⟩:=nm;rcases kQ with⟨fa,hn⟩|⟨fa,hn⟩
 case' inl=>
  unfold nt at hn;simp(disch:=omega)only[dt,ae,seval,e3,av8 f2,fa];rw[←hn]
 case' inr=>
  simp(disch:=omega)only[dt,ae,seval,e3,av8 f2,av7 fa];rw[hn]
 all_goals
  refine aG [0,1,2,5,6,7,8] (fun m ρ hd=>∃(nn:az)(v1 v2:Value),ρ=[(0,aE g),(1,v1),(2,v2),(5,aE p),(6,aE q),(7,ao 0),(8,str nn)]∧Ext h2 hd∧(nn=[]∧m=0∨∃j,j<W.length∧(at' W j).nm=nn∧zZ W S j∧m=rk j+1)) ?_ ?_
  case refine_1=>
   simp only[ae,seval];exact⟨_,_,_,_,rfl,Ext.refl _, .inr ⟨i,hi,rfl,hu,rfl⟩⟩
  rintro m ρ hd⟨nn,v1,v2,rfl,xd,hnn⟩;have qd:=ay xd q2 awx;have pd:=ay xd p2 awx;have Xd:=X.trans xd;have Hd:=H.ext Xd;rcases hnn with⟨rfl,rfl⟩|⟨j,hj,rfl,Te,rfl⟩
  ·simp only[dt,ae,seval]
   refine aO aL rfl rfl rfl (by simp[Value.cells,oneCell,str]) qd rfl ?_;intro h7 f7 b7;have bm:=aS cC (aN b7) rfl;simp only[ae,seval,bm];exact⟨ev Xd f7 Ti,[],[],[],0,_,rfl⟩
  have ZM:=(jO (I.nm j hj)).1;have m0:=Hd.m0;have lk:=Hd.lkS I hj;have e1:cellAt hd ⟨p,1,none⟩=some (str n):=by rw[au pd];rfl
  have e2:cellAt hd ⟨p,2,none⟩=some (str t):=by rw[au pd];rfl
  simp only[dt,ae,seval,av7 ZM,m0,lk,e1,e2];have RA:∃m',m'<rk j+1∧((at' W j).sup=[]∧m'=0∨∃j',j'<W.length∧(at' W j').nm=(at' W j).sup∧zZ W S j'∧m'=rk j'+1):=by
   by_cases hs:(at' W j).sup=[]
   ·exact⟨0,by omega, .inl ⟨hs,rfl⟩⟩
   ·obtain⟨y,hy,Le,Tb,Tc⟩:=I.su' hj Te hs
    exact⟨rk y+1,by omega, .inr ⟨y,hy,Le, .inl Tb,rfl⟩⟩
  obtain⟨m',Gz,Od⟩:=RA;have hys:q<hd.size:=(awd.1 qd).1;constructor
  case' left=>
   refine aj rfl (vN Hd hj n t) ?_;rintro _ h3⟨x3,R⟩;obtain⟨c',n',t',f',b,rfl,aiF,Vk⟩:=R.parts;have H3:=Hd.ext x3;simp only[ae,seval];refine aD aL ?_;have H3:=H3.ext (Ext.push h3 (.cells #[str [],str [],str [],ax 0] 72));have m0:=H3.m0;have lk:=H3.lkS I hj;have p3:=ay (Ext.push h3 (.cells #[str [],str [],str [],ax 0] 72)) (ay x3 pd awx) awx;have e1:cellAt (h3.push (.cells #[str [],str [],str [],ax 0] 72)) ⟨p,1,none⟩=some (str n):=by rw[au p3];rfl
   have e2:cellAt (h3.push (.cells #[str [],str [],str [],ax 0] 72)) ⟨p,2,none⟩=some (str t):=by rw[au p3];rfl
   simp only[ae,seval,m0,lk,e1,e2];refine aI aL rfl rfl rfl (cS (l:=[]) (by simp)) rfl ?_;intro h4 x4 _ _ b4;have x4:=x3.trans x4;have hyq:q<h3.size:=by have:=x3.size;omega
   generalize h3.size=y at*;simp only[ae,seval]
  case' right=>
   refine aD aL ?_;have x3:=Ext.push hd (.cells #[str [],str [],str [],ax 0] 72);have b3:=mW hd;have H3:=Hd.ext x3;have m0:=H3.m0;have lk:=H3.lkS I hj;have e1:cellAt (hd.push (.cells #[str [],str [],str [],ax 0] 72)) ⟨p,1,none⟩=some (str n):=by rw[au (ay x3 pd awx)];rfl
   have e2:cellAt (hd.push (.cells #[str [],str [],str [],ax 0] 72)) ⟨p,2,none⟩=some (str t):=by rw[au (ay x3 pd awx)];rfl
   simp only[ae,seval,m0,lk,e1,e2];generalize hd.push _=h3 at*;obtain⟨y,hy⟩:∃y,y=hd.size:=⟨_,rfl⟩;rw[←hy]at b3⊢;refine aj rfl (vN H3 hj n t) ?_;rintro _ h5⟨x5,R⟩;obtain⟨c',n',t',f',b,rfl,aiF,Vk⟩:=R.parts;simp only[ae,seval];refine aO aL rfl rfl rfl (cS (l:=[]) (by simp)) (ay x5 b3 awx) rfl ?_;intro h4 f4 b4;have x4:Ext hd h4:=ev (x3.trans x5) f4 (by omega);simp only[ae,seval]
  all_goals
   have X4:=Xd.trans x4;have H4:=H.ext X4;have m0:=H4.m0;have lk:=H4.lkS I hj;obtain⟨wi,wp,wf,wm,K4⟩:=H4.cl j hj;have c1:=K4.c1;have q4:=ay x4 qd awx;have p4:=ay x4 pd awx;have e9:cellAt h4 ⟨y,3,none⟩=some (ax f'):=by rw[au b4];rfl
   have l9:=eO b4;have l5:=eO p4;cases b
   case false=>
    simp only[dt,ae,seval,mZ,m0,lk,c1];exact⟨m',Gz,_,_,_,rfl,xd.trans x4,Od⟩
   by_cases f10:cB .and .u16 (f':Int) 10=0
   case neg=>
    simp only[dt,ae,seval,mZ,e9,av7 f10,m0,lk,c1];exact⟨m',Gz,_,_,_,rfl,xd.trans x4,Od⟩
   simp only[dt,ae,seval,mZ,e9,av8 f10,l9,l5];refine aj rfl (Tg h4 c' n' t' f' c n t f aiF lQ) ?_;rintro _ h5⟨x5,b,rfl⟩;have X5:=X4.trans x5;have H5:=H.ext X5;have m0:=H5.m0;have lk:=H5.lkS I hj;obtain⟨yi,yp,yf,ym,K5⟩:=H5.cl j hj;have c1:=K5.c1;have q5:=ay x5 q4 awx;have p5:=ay x5 p4 awx;have b5:=ay x5 b4 awx;cases b
   case false=>
    simp only[dt,ae,seval,m0,lk,c1];exact⟨m',Gz,_,_,_,rfl,(xd.trans x4).trans x5,Od⟩
   have e9:cellAt h5 ⟨y,3,none⟩=some (ax f'):=by rw[au b5];rfl
   have l9:=eO b5;by_cases g10:cB .and .u16 (f':Int) 1024=0
   case neg=>
    simp only[dt,ae,seval,e9,av7 g10];refine aO aL rfl rfl rfl (by simp[Value.cells,oneCell,str]) q5 rfl ?_;intro h7 f7 b7;have bm:=aS cC (aN b7) rfl;simp only[ae,seval,bm];exact⟨ev X5 f7 Ti,[],[],[],0,_,rfl⟩
   obtain⟨u,hu2,rfl⟩:=oO;have lu:=H5.lkS I hu2;obtain⟨zi,zp,zf,zm,Z5⟩:=H5.cl u hu2;have z3:=Z5.c3;have e0:cellAt h5 ⟨p,0,none⟩=some (str (at' W u).nm):=by rw[au p5];rfl
   have st:∀{hh:ar}{cc nn tt:az}{ff:Nat}{e:Int},Fr (fun k=>k=q) h5 hh→Ext h hh∧MbT (.tuple #[.agg #[str cc,str nn,str tt,ax ff],ao e]):=fun fr=>⟨ev X5 fr Ti,_,_,_,_,_,rfl⟩;by_cases fi:cB .and .u16 ((at' W u).fl:Int) 512=0
   case' pos=>simp only[dt,ae,seval,e9,av8 g10,m0,e0,lu,z3,av8 fi,l9]
   case' neg=>
    by_cases fp:cB .and .u16 (f':Int) 1=0
    case pos=>
     simp only[dt,ae,seval,e9,av8 g10,m0,e0,lu,z3,av7 fi,av8 fp];refine aO aL rfl rfl rfl (by simp[Value.cells,oneCell,str]) q5 rfl ?_;intro h7 f7 b7;have bm:=aS cC (aN b7) rfl;simp only[ae,seval,bm];exact⟨ev X5 f7 Ti,[],[],[],0,_,rfl⟩
    case' neg=>simp only[dt,ae,seval,e9,av8 g10,m0,e0,lu,z3,av7 fi,av7 fp,l9]
   all_goals
    refine aO aL rfl rfl rfl (cS (l:=[]) (by simp)) q5 rfl ?_;intro h7 f7 b7;have bm:=eO b7;simp only[ae,seval,bm];exact st f7
end
end
section
section
variable{h h':ar}{g mb:Nat}{bs:List Nat}{W:List LC}{S:LS}{rk:Nat→Nat}
theorem Vl(H:PW h g mb bs W S)(I:ek W S rk)(a s n t:az)(face:Bool)(u:az)(ha:a.length≤1048576)(hl:s.length≤1048576)(hu:u.length≤1048576):
 aF Tryz.prog 25 #[aE g,str a,str s,str n,str t, .bool face,str u] h (yk g mb bs W S h fun _ v=>MbT v):=by
 refine Im (args:=[aE g,str a,str s,str n,str t, .bool face,str u]) rfl ?_;simp only[hZ,ae,seval];refine aD aL ?_;have x1:=Ext.push h (.cells #[str [],str [],str [],ax 0] 72);have q1:=mW h;have vO:¬h.size∈bs:=fun e=>by have:=H.nZ _ e;omega
 have P1:=gR.ext H I x1;obtain⟨q,hq⟩:∃q,q=h.size:=⟨_,rfl⟩;rw[←hq]at q1 vO⊢;simp only[hZ,ae,seval];generalize h.push _=h1 at*;have none:∀{hc:ar}{S':LS}{mo:Nat→Nat}{e:Int},gR g mb bs W S h hc S' mo→yk g mb bs W S h (fun S' v=>MbT v) (.tuple #[.agg #[str [],str [],str [],ax 0],ao e]) hc:=fun P=>⟨_,_,P,[],[],[],0,_,rfl⟩;refine aj rfl (GK P1.1 P1.2.1 a s n t face ha hl) ?_;rintro _ h2⟨S2,r2,P2,c',n',t',f',e,rfl,lQ,oO⟩;have rT:=P1.trans P2;have q2:=ay P2.2.2.2 q1 vO;simp only[ae,seval];refine aD aL ?_;simp only[ae,seval];refine aI aL rfl rfl rfl (cS (l:=[]) (by simp)) rfl ?_;intro h3 x3 nQ _ b3;have q3:=ay x3 q2 awx;have P3:=rT.trans (gR.ext P2.1 P2.2.1 x3);have OP:¬h2.size∈bs:=fun e=>by have:=P2.1.nZ _ e;omega
 generalize h2.size=p at*;by_cases he:e=0
 case neg=>
  simp only[hZ,ae,seval,av7 he];refine aO aL rfl rfl rfl (by simp[Value.cells,oneCell,str]) q3 rfl ?_;intro h7 f7 b7;have bm:=aS cC (aN b7) rfl;simp only[ae,seval,bm];exact none (P3.res q3 f7 (by omega))
 have Vk:=oO he;subst he;simp only[hZ,ae,seval];refine aj rfl (S8 P3.1 P3.2.1 u s hu hl) ?_;rintro _ h4⟨S4,r4,P4,e,b,rfl,o4⟩;have Xa:=P3.trans P4;have q4:=ay P4.2.2.2 q3 vO;have b4:=ay P4.2.2.2 b3 OP;by_cases he:e=0
 case neg=>
  simp only[hZ,ae,seval,av7 he];refine aO aL rfl rfl rfl (by simp[Value.cells,oneCell,str]) q4 rfl ?_;intro h7 f7 b7;have bm:=aS cC (aN b7) rfl;simp only[ae,seval,bm];exact none (Xa.res q4 f7 (by omega))
 have ok4:=o4 he;subst he;have e3:cellAt h4 ⟨p,3,Option.none⟩=some (ax f'):=by rw[au b4];rfl
 have l4:=eO b4;cases b
 case false=>
  simp only[hZ,ae,seval];refine aO aL rfl rfl rfl (by simp[Value.cells,oneCell,str]) q4 rfl ?_;intro h7 f7 b7;have bm:=aS cC (aN b7) rfl;simp only[ae,seval,bm];exact none (Xa.res q4 f7 (by omega))
 by_cases f8:cB .and .u16 (f':Int) 8=0
 case neg=>
  simp only[hZ,ae,seval,e3,av7 f8];refine aO aL rfl rfl rfl (by simp[Value.cells,oneCell,str]) q4 rfl ?_;intro h7 f7 b7;have bm:=aS cC (aN b7) rfl;simp only[ae,seval,bm];exact none (Xa.res q4 f7 (by omega))
 simp only[hZ,ae,seval,e3,av8 f8,l4];refine aj rfl (ZL P4.1 P4.2.1 u c' n' t' f' ok4.1 lQ Vk) ?_;rintro _ h5⟨x5,c2,n2,t2,f2,e2,rfl⟩;have q5:=ay x5 q4 awx;have P5:=Xa.trans (gR.ext P4.1 P4.2.1 x5);simp only[ae,seval];refine aO aL rfl rfl rfl (cS (l:=[]) (by simp)) q5 rfl ?_;intro h7 f7 b7;have bm:=eO b7;simp only[ae,seval,bm];exact⟨S4,r4,P5.res q5 f7 (by omega),c2,n2,t2,f2,e2,rfl⟩
end
end
end Go.Proofs.YtmbboehmnfhjjaaGreatDoor
