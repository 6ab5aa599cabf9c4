/- part, Is, Under, may, by the reference: they end. Lists of classes to be looked in, by the reference: inTurn, faces. A class's own method, by the reference. Field, by the reference: it ends. Method, by the reference: it ends. -/
import Derived.Test.YtmbboehmnfhjjaaGreatDoorU34
set_option maxRecDepth 100000
set_option maxHeartbeats 32000000
set_option linter.unusedSimpArgs false
set_option linter.unusedVariables false
set_option linter.defProp false
namespace Go.Proofs.YtmbboehmnfhjjaaGreatDoor
open Go.Vc
section
section
variable{h h':ar}{g:Nat}{vL:Value}{bs:List Nat}{W:List LC}{S:LS}{rk:Nat→Nat}
def Nm(x:az):az × Bool:=if x.head?=some 91∨x.head?=some 76 then(Ni x,true)else([],false)
theorem aiH{b:UInt8}(h:jA [91,b]=true):b≠91∧b≠76:=by
 constructor
 ·rintro rfl;revert h;decide
 ·rintro rfl;revert h;decide
theorem Tl{x:az}(hx:pn W S (91::x))(h:x.head?=some 91∨x.head?=some 76):x.length≠1:=by
 intro hl
 match x,hl with
 |[b],_=>
  have:=aiH hx.1;rcases h with h|h
  ·simp only[List.head?_cons,awe]at h;exact this.1 h
  ·simp only[List.head?_cons,awe]at h;exact this.2 h
theorem Tm{h:ar}(x:az)(o:pn W S (91::x))(hl:x.length≤1048576):aF Tryz.prog 117 #[str (91::x)] h fun v h'=>h'=h∧v= .tuple #[str (Nm x).1, .bool (Nm x).2]:=by
 refine Mr (args:=[str (91::x)]) rfl ?_;have ix:=GI o;have cN:=ix.1;have hp:=awr.2 cN;have f1:(1:Int)<((91::x:az).length:Int):=by simp only[awy];omega
 have f2:(1:Int)≤((91::x:az).length:Int):=by omega
 have g1:(91::x:az).getD 1 0=x.getD 0 0:=by simp
 have d1:(91::x:az).drop 1=x:=rfl;have e1:((x.getD 0 0).toNat:Int)=91↔x.head?=some 91:=oN (c:=91) cN;have e2:((x.getD 0 0).toNat:Int)=76↔x.head?=some 76:=oN (c:=76) cN;by_cases h1:x.head?=some 91
 ·have n6:x.head?≠some 76:=by rw[h1];decide
  have e:Nm x=(x,true):=by unfold Nm Ni;rw[awa (.inl h1),av9 n6]
  simp(disch:=omega)only[sZ,ae,seval,g1,e1.2 h1,d1,e]
 have xT:¬((x.getD 0 0).toNat:Int)=91:=fun q=>h1 (e1.1 q);by_cases h2:x.head?=some 76
 ·have nO:=(ix.2 (Tl o (.inr h2))).1 h2
  have e:Nm x=((x.take (x.length-1)).drop 1,true):=by unfold Nm Ni;rw[awa (.inr h2),awa h2]
  have w:IntKind.i64.wrap (((91::x:az).length:Int)-1)=((x.length:Nat):Int):=by
   simp only[awy];rw[wrap_i64 (by omega) (by omega)];omega
  have f4:(x.length:Int)≤((91::x:az).length:Int):=by simp only[awy];omega
  have e5:((91::x:az).take x.length).drop 2=(x.take (x.length-1)).drop 1:=by
   obtain⟨n,hn⟩:∃n,x.length=n+1:=⟨x.length-1,by omega⟩;rw[hn];rfl
  have n69:((76:Int)=91)=False:=by simp
  simp(disch:=omega)only[sZ,ae,seval,g1,n69,e2.2 h2,e];rw[show(((x.length+1:Nat):Int)-1).toNat=x.length by omega,e5]
 ·have vV:¬((x.getD 0 0).toNat:Int)=76:=fun q=>h2 (e2.1 q)
  have e:Nm x=([],false):=by unfold Nm;rw[av9 (fun q=>q.elim h1 h2)]
  simp(disch:=omega)only[sZ,ae,seval,g1,av7 xT,av7 vV,e]
theorem aeQ(I:ek W S rk):∀(n:Nat)(h:ar)(a b:az),RW h g vL bs W S→a.length<n→a.length≤1048576→b.length≤1048576→pn W S a→pn W S b→
 aF Tryz.prog 51 #[aE g,str a,str b] h fun v h'=>Ext h h'∧∃b,v= .bool b:=by
 intro n
 induction n with
 |zero=>intro h a b _ hn;exact aww hn (awq _)
 |succ n ih=>
  intro h a b H hn hla hlb ha hb;refine Qm (args:=[aE g,str a,str b]) rfl ?_;have na:=lL ha.1;have nb:=lL hb.1;have pa:(0:Int)<(a.length:Int):=by have:=awr.2 na;omega
  have pb:(0:Int)<(b.length:Int):=by have:=awr.2 nb;omega
  have ea:((a.getD 0 0).toNat:Int)=91↔a.head?=some 91:=oN (c:=91) na;have eb:((b.getD 0 0).toNat:Int)=91↔b.head?=some 91:=oN (c:=91) nb;by_cases sW:a=b
  ·simp only[iv,ae,seval,av8 sW]
   exact⟨Ext.refl _,_,rfl⟩
  by_cases ra:b=[106,97,118,97,47,108,97,110,103,47,79,98,106,101,99,116]
  ·simp only[iv,ae,seval,av7 sW,av8 ra]
   exact⟨Ext.refl _,_,rfl⟩
  by_cases xB:a.head?=some 91
  case neg=>
   have fa:¬((a.getD 0 0).toNat:Int)=91:=fun x=>xB (ea.1 x);by_cases F0:b.head?=some 91
   ·have fb:=eb.2 F0
    simp(disch:=omega)only[iv,ae,seval,av7 sW,av7 ra,av7 fa,fb];exact⟨Ext.refl _,_,rfl⟩
   ·have fb:¬((b.getD 0 0).toNat:Int)=91:=fun x=>F0 (eb.1 x)
    obtain⟨i,hi,rfl,GJ⟩:=ug ha xB;simp(disch:=omega)only[iv,ae,seval,av7 sW,av7 ra,av7 fa,av7 fb];refine aj rfl (ZR H I hi GJ) ?_;rintro v h1⟨x1,xs,O,KS⟩;simp only[ae,seval];refine aj rfl (Nl O (by omega) b) ?_;rintro _ h1⟨rfl,rfl⟩;simp only[ae,seval];exact⟨x1,_,rfl⟩
  have fa:=ea.2 xB;by_cases F0:b.head?=some 91
  case neg=>
   have fb:¬((b.getD 0 0).toNat:Int)=91:=fun x=>F0 (eb.1 x);by_cases h1:b=[106,97,118,97,47,108,97,110,103,47,67,108,111,110,101,97,98,108,101]
   ·simp(disch:=omega)only[iv,ae,seval,av7 sW,av7 ra,fa,av7 fb,av8 h1]
    exact⟨Ext.refl _,_,rfl⟩
   ·simp(disch:=omega)only[iv,ae,seval,av7 sW,av7 ra,fa,av7 fb,av7 h1]
    exact⟨Ext.refl _,_,rfl⟩
  have fb:=eb.2 F0;obtain⟨x,rfl⟩:∃x,a=91::x:=by cases a with
   |nil=>exact aww rfl na
   |cons c r=>simp only[List.head?_cons,awe]at xB;subst xB;exact⟨r,rfl⟩
  obtain⟨y,rfl⟩:∃y,b=91::y:=by cases b with
   |nil=>exact aww rfl nb
   |cons c r=>simp only[List.head?_cons,awe]at F0;subst F0;exact⟨r,rfl⟩
  have ix:=GI ha;have iy:=GI hb;simp only[awy]at hn hla hlb;simp(disch:=omega)only[iv,ae,seval,av7 sW,av7 ra,fa,fb];refine aj rfl (Tm x ha (by omega)) ?_;rintro _ h1⟨rfl,rfl⟩;simp only[iv,ae,seval];refine aj rfl (Tm y hb (by omega)) ?_;rintro _ h1⟨rfl,rfl⟩;unfold Nm;by_cases px:x.head?=some 91∨x.head?=some 76
  case neg=>
   rw[av9 px];simp only[iv,ae,seval,av7 sW];exact⟨Ext.refl _,_,rfl⟩
  rw[awa px];by_cases py:y.head?=some 91∨y.head?=some 76
  case neg=>
   rw[av9 py];simp only[iv,ae,seval,av7 sW];exact⟨Ext.refl _,_,rfl⟩
  rw[awa py];have hx:= @Nk x;have hy:= @Nk y;simp only[awy]at hx hy;simp only[iv,ae,seval];refine aj rfl (ih _ _ _ H (by omega) (by omega) (by omega) (ix.2 (Tl ha px)).2 (iy.2 (Tl hb py)).2) ?_;rintro _ h2⟨x2,c,rfl⟩;simp only[ae,seval];exact⟨x2,_,rfl⟩
theorem PP(H:RW h g vL bs W S)(I:ek W S rk)(a b:az)(ha:a.length≤1048576)(hb:b.length≤1048576):
 aF Tryz.prog 20 #[aE g,str a,str b] h (vP g vL bs W S h fun S' v=>∃e t,v= .tuple #[.bool t,ao e]∧(e=0→pn W S' a∧pn W S' b)):=by
 refine Kv (args:=[aE g,str a,str b]) rfl ?_;simp only[lZ,ae,seval];refine aj rfl (qf H I a ha) ?_;rintro _ h1⟨S1,r1,P1,e,rfl,o1⟩;by_cases he:e=0
 case neg=>
  simp only[lZ,ae,seval,av7 he];exact⟨S1,r1,P1,e,_,rfl,fun x=>aww x he⟩
 have IU:=o1 he;subst he;simp only[lZ,ae,seval];refine aj rfl (qf P1.1 P1.2.1 b hb) ?_;rintro _ h2⟨S2,r2,P2,e,rfl,o2⟩;have rT:=P1.trans P2;by_cases he:e=0
 case neg=>
  simp only[lZ,ae,seval,av7 he];exact⟨S2,r2,rT,e,_,rfl,fun x=>aww x he⟩
 have zP:=o2 he;have IU:=P2.2.2.1.pn IU;subst he;simp only[lZ,ae,seval];refine aj rfl (aeQ P2.2.1 _ h2 a b P2.1 (Nat.lt_succ_self _) ha hb IU zP) ?_;rintro _ h3⟨x3,t,rfl⟩;simp only[ae,seval];exact⟨S2,r2,rT.trans (fY.ext P2.1 P2.2.1 x3),0,t,rfl,fun _=>⟨IU,zP⟩⟩
theorem Vm(H:RW h g vL bs W S)(I:ek W S rk)(a c n t:az)(f:Nat)(ha:a.length≤1048576)(hc:c.length≤1048576):
 aF Tryz.prog 57 #[aE g,str a, .agg #[str c,str n,str t,ax f]] h (vP g vL bs W S h fun _ v=>∃b,v= .bool b):=by
 refine NR (args:=[aE g,str a, .agg #[str c,str n,str t,ax f]]) rfl ?_;simp only[l7,ae,seval];refine cT ?_;have x1:=Ext.push h (.cells #[str c,str n,str t,ax f] 72);have q1:(h.push (.cells #[str c,str n,str t,ax f] 72))[h.size]? =some (.cells #[str c,str n,str t,ax f] 72):=by simp
 have hq:¬h.size∈bs:=fun e=>by
  obtain⟨j,hj,hje⟩:=List.getElem_of_mem e;obtain⟨_,_,_,_,_,_,L⟩:=H.cl j (by rw[←H.ln];exact hj);have:=(awd.1 L.b).1;simp only[awu,awJ hj,Option.getD_some,hje]at this;omega
 have P1:=fY.ext H I x1;simp only[l7,ae,seval];generalize h.push _=h1,h.size=q at*;have c3:cellAt h1 ⟨q,3,none⟩=some (ax f):=by rw[au q1];rfl
 have c0:cellAt h1 ⟨q,0,none⟩=some (str c):=by rw[au q1];rfl
 by_cases f1:cB .and .u16 (f:Int) 1=0
 case neg=>
  simp only[l7,ae,seval,c3,av7 f1];exact⟨S,rk,P1,_,rfl⟩
 by_cases hac:a=c
 ·simp only[l7,ae,seval,c3,c0,av8 f1,av8 hac]
  exact⟨S,rk,P1,_,rfl⟩
 by_cases f2:cB .and .u16 (f:Int) 2=0
 case neg=>
  simp only[l7,ae,seval,c3,c0,av8 f1,av7 hac,av7 f2];exact⟨S,rk,P1,_,rfl⟩
 simp only[l7,ae,seval,c3,c0,av8 f1,av7 hac,av8 f2];refine aj rfl (rU a (by omega)) ?_;rintro _ h1⟨rfl,t1,rfl⟩;simp only[ae,seval,c0];refine aj rfl (rU c (by omega)) ?_;rintro _ h1⟨rfl,t2,rfl⟩;by_cases ht:t1=t2
 ·simp only[ae,seval,av8 ht]
  exact⟨S,rk,P1,_,rfl⟩
 by_cases f4:cB .and .u16 (f:Int) 4=0
 ·simp only[ae,seval,av7 ht,c3,av8 f4]
  exact⟨S,rk,P1,_,rfl⟩
 by_cases hn:a=[]
 ·simp only[ae,seval,av7 ht,c3,av7 f4,av8 hn]
  exact⟨S,rk,P1,_,rfl⟩
 have pa:(0:Int)<(a.length:Int):=by have:=awr.2 hn;omega
 have ea:((a.getD 0 0).toNat:Int)=91↔a.head?=some 91:=oN (c:=91) hn;by_cases xB:a.head?=some 91
 ·have fa:=ea.2 xB
  simp(disch:=omega)only[ae,seval,av7 ht,c3,av7 f4,av7 hn,fa];exact⟨S,rk,P1,_,rfl⟩
 have fa:¬((a.getD 0 0).toNat:Int)=91:=fun x=>xB (ea.1 x);simp(disch:=omega)only[ae,seval,av7 ht,c3,av7 f4,av7 hn,av7 fa];refine aj rfl (qf P1.1 P1.2.1 a ha) ?_;rintro _ h2⟨S2,r2,P2,e,rfl,o2⟩;have rT:=P1.trans P2;have q2:=ay P2.2.2.2.1 q1 hq;have c0:cellAt h2 ⟨q,0,none⟩=some (str c):=by rw[au q2];rfl
 by_cases he:e=0
 case neg=>
  simp only[ae,seval,av7 he];exact⟨S2,r2,rT,_,rfl⟩
 obtain⟨i,hi,pP,GJ⟩:=ug (o2 he) xB;subst he;simp only[ae,seval,c0];rw[←pP];refine aj rfl (ZR P2.1 P2.2.1 hi GJ) ?_;rintro v h3⟨x3,xs,O,KS⟩;have c0:cellAt h3 ⟨q,0,none⟩=some (str c):=by rw[au (ay x3 q2 awx)];rfl
 have P3:=rT.trans (fY.ext P2.1 P2.2.1 x3);simp only[ae,seval,c0];refine aj rfl (Nl O (by omega) c) ?_;rintro _ h3⟨rfl,rfl⟩;simp only[ae,seval];exact⟨S2,r2,P3,_,rfl⟩
end
end
section
section
variable{h h' h0:ar}{g:Nat}{vL v:Value}{bs:List Nat}{W:List LC}{S:LS}{rk:Nat→Nat}{xs:List (az)}
def upN(W:List LC)(S:LS)(n:az):Prop:=∃i,i<W.length∧(at' W i).nm=n∧zZ W S i
structure LN(h0 h:ar)(W:List LC)(S:LS)(v:Value)(xs:List (az)):Prop where
 x:Ext h0 h
 o:Own h h0.size 9 1 v xs.length (xs.map str)
 n:xs.Nodup
 u:∀a∈xs,upN W S a
theorem LN.le(L:LN h0 h W S v xs):xs.length≤W.length:=by
 have:=OU (m:=W.map (·.nm)) L.n fun x hx=>by
  obtain⟨i,hi,rfl,_⟩:=L.u x hx;have:at' W i=W[i]:=by simp[at',hi]
  rw[this];exact List.mem_map.2 ⟨_,List.getElem_mem hi,rfl⟩
 rwa[awk]at this
theorem LN.ext(L:LN h0 h W S v xs)(x:Ext h h'):LN h0 h' W S v xs:=⟨L.x.trans x,L.o.ext x,L.n,L.u⟩
theorem LN.snoc{v v':Value}{xs:List (az)}{n:az}(L:LN h0 h W S v xs){h1:ar}(x1:Ext h h1)(O2:Own h' h0.size 9 1 v' (xs.length+1) (xs.map str++[str n]))(f2:Fr (fun k=>v.ownBlock=some k) h1 h')(hn:¬n∈xs)(hu:upN W S n):LN h0 h' W S v' (xs++[n]):=by
 refine⟨Ext.app (L.x.trans x1) f2 fun k hk=>(L.o.lt k hk).1,Ab O2,?_,fun a ha=>?_⟩
 ·rw[List.nodup_append]
  refine⟨L.n,by simp,fun a ha b hb e=>?_⟩;rw[awf.1 hb]at e;exact hn (e▸ha)
 ·rcases awi.1 ha with ha|ha
  ·exact L.u a ha
  ·rw[awf.1 ha];exact hu
theorem ZS(I:ek W S rk){i:Nat}(hi:i<W.length)(hu:zZ W S i){f:az}(hf:f∈(at' W i).ifs):upN W S f:=by
 obtain⟨j,a,b,c,_⟩:=I.fa' hi hu f hf;exact⟨j,a,b, .inl c⟩
theorem ZT(H0:RW h0 g vL bs W S)(I:ek W S rk):∀(r:Nat)(h:ar)(v:Value)(xs:List (az))(n:az),LN h0 h W S v xs→W.length-xs.length<r→(n=[]∨upN W S n)→
 aF Tryz.prog 56 #[aE g,str n,v] h fun v' h'=>∃ys,LN h0 h' W S v' ys∧xs.length≤ys.length:=by
 intro r
 induction r with
 |zero=>intro h v xs n _ hr;exact aww hr (awq _)
 |succ r ih=>
 intro h v xs n L hr hn;refine Iq (args:=[aE g,str n,v]) rfl ?_;have tn:=H0.tn;have hle:=L.le;by_cases cN:n=[]
 ·simp only[gy,ae,seval,av8 cN]
  exact⟨xs,L,awp _⟩
 have hun:upN W S n:=hn.resolve_left cN;obtain⟨i,hi,pP,hiu⟩:=id hun;simp only[gy,ae,seval,av7 cN];refine aj rfl (Nl L.o (by omega) n) ?_;rintro _ h⟨rfl,rfl⟩;by_cases hm:n∈xs
 ·simp only[gy,ae,seval,awh hm]
  exact⟨xs,L,awp _⟩
 simp only[gy,ae,seval,awg hm];refine aU dE rfl rfl (by decide) ?_;simp only[ae,seval];have gB:=L.x.size;refine bF (m:=1) dE rfl rfl (L.o.push _) rfl (bV (vs:=[str n])) (by intro u hu;simp only[awf]at hu;subst hu;rfl) (by omega) (by omega) (by simp;omega) ?_;intro v1 h1 O1 f1 _;have L1:=L.snoc (Ext.push _ _) O1 f1 hm hun;have alF:=L1.le;rw[awn,awt]at alF;have H1:=H0.ext L1.x;simp only[gy,ae,seval];refine aj rfl (fT H1 I n) ?_;rintro _ h1⟨rfl,rfl⟩;have hpt:vK bs W n=some ⟨bs.getD i 0,0,none⟩:=by rw[←pP];exact iz I hi
 rw[hpt];obtain⟨vi,vp,vf,vv,vm,vo,K⟩:=H0.cl i hi;have OI:=K.i;obtain⟨_,ia,ic,rfl,_⟩:=id OI.dQ;have c2:cellAt h1 ⟨bs.getD i 0,2,none⟩=some (.slice ia (at' W i).ifs.length ic):=by rw[au (ay L1.x K.b awx)];rfl
 have sz:=(H0.sz i hi).2.2.2.1;have KS:(xs++[n]).length=xs.length+1:=by simp
 simp only[gy,ae,seval,c2];refine aG [0,2,7,28,29,30] (fun m ρ hc=>∃(k:Nat)(v:Value)(ys:List (az)),m=(at' W i).ifs.length-k∧k≤(at' W i).ifs.length∧ρ=[(0,aE g),(2,v),(7,aE (bs.getD i 0)),(28, .slice ia (at' W i).ifs.length ic),(29,ao ((at' W i).ifs.length:Int)),(30,ao k)]∧LN h0 hc W S v ys∧xs.length+1≤ys.length) ?_ ?_
 case refine_1=>
  simp only[ae,seval];exact⟨_,0,_,_,rfl,awb _,rfl,L1,by omega⟩
 rintro m ρ hc⟨k,w,ys,rfl,hk,rfl,L2,hys⟩;have alz:=L2.le;by_cases aV:k<(at' W i).ifs.length
 case neg=>
  have aK:¬(k:Int)<((at' W i).ifs.length:Int):=by omega
  have c1:cellAt hc ⟨bs.getD i 0,1,none⟩=some (str (at' W i).sup):=by rw[au (ay L2.x K.b awx)];rfl
  simp only[gy,ae,seval,aK,c1];refine aj rfl (ih hc w ys (at' W i).sup L2 (by omega) ?_) ?_
  ·by_cases hs:(at' W i).sup=[]
   ·exact .inl hs
   ·obtain⟨j,a,b,c,_⟩:=I.su' hi hiu hs
    exact .inr ⟨j,a,b, .inl c⟩
  ·rintro u hd⟨zs,L3,hz⟩
   simp only[ae,seval];exact⟨zs,L3,by omega⟩
 have aK:(k:Int)<((at' W i).ifs.length:Int):=by omega
 obtain⟨b1,p1,td,fD,_,eR⟩:=(OI.ext L2.x).sl.at (i:=k) (by simpa using aV);rw[awk]at fD;cases fD;have fm:(at' W i).ifs.getD k []∈(at' W i).ifs:=by simp[aV]
 have e1:cellAt hc ⟨b1,p1+k,none⟩=some (str ((at' W i).ifs.getD k [])):=by rw[eR];simp[aV]
 have w1:=gU (k:=k) (by omega);simp(disch:=omega)only[gy,ae,seval,aK,e1];refine aj rfl (ih hc w ys _ L2 (by omega) (.inr (ZS I hi hiu fm))) ?_;rintro u hd⟨zs,L3,hz⟩;simp only[gy,ae,seval,w1];exact⟨_,by omega,k+1,u,zs,rfl,by omega,rfl,L3,by omega⟩
def FB(v:Value)(h:ar)(v':Value)(h':ar):Prop:=Fr (fun k=>v.ownBlock=some k) h h'∧∀k,v'.ownBlock=some k→v.ownBlock=some k∨h.size≤k
theorem FB.refl{h:ar}{v:Value}:FB v h v h:=⟨Fr.refl _ _,fun _ hk=> .inl hk⟩
theorem FB.trans{h h1 h2:ar}{v v1 v2:Value}(a:FB v h v1 h1)(b:FB v1 h1 v2 h2):FB v h v2 h2:=
 ⟨Fr.trans a.1 b.1 (fun _ _ h=>h) fun k hk e=>(a.2 k e).resolve_right (by omega),fun k hk=>by
  rcases b.2 k hk with h|h
  ·exact a.2 k h
  ·exact .inr (awG a.1.size h)⟩
theorem ZU(H0:RW h0 g vL bs W S)(I:ek W S rk):∀(r:Nat)(h:ar)(v:Value)(xs:List (az))(n:az),LN h0 h W S v xs→W.length-xs.length<r→upN W S n→
 aF Tryz.prog 59 #[aE g,str n,v] h fun v' h'=>∃ys,LN h0 h' W S v' ys∧xs.length≤ys.length∧FB v h v' h':=by
 intro r
 induction r with
 |zero=>intro h v xs n _ hr;exact aww hr (awq _)
 |succ r ih=>
 intro h v xs n L hr hun;refine Ky (args:=[aE g,str n,v]) rfl ?_;have tn:=H0.tn;obtain⟨i,hi,pP,hiu⟩:=id hun;simp only[j6,ae,seval];refine aj rfl (fT (H0.ext L.x) I n) ?_;rintro _ h⟨rfl,rfl⟩;have hpt:vK bs W n=some ⟨bs.getD i 0,0,none⟩:=by rw[←pP];exact iz I hi
 rw[hpt];obtain⟨vi,vp,vf,vv,vm,vo,K⟩:=H0.cl i hi;have OI:=K.i;obtain⟨_,ia,ic,rfl,_⟩:=id OI.dQ;have c2:cellAt h ⟨bs.getD i 0,2,none⟩=some (.slice ia (at' W i).ifs.length ic):=by rw[au (ay L.x K.b awx)];rfl
 have sz:=(H0.sz i hi).2.2.2.1;simp only[ae,seval,c2];refine aG [0,2,14,15,16] (fun m ρ hc=>∃(k:Nat)(u:Value)(ys:List (az)),m=(at' W i).ifs.length-k∧k≤(at' W i).ifs.length∧ρ=[(0,aE g),(2,u),(14, .slice ia (at' W i).ifs.length ic),(15,ao ((at' W i).ifs.length:Int)),(16,ao k)]∧LN h0 hc W S u ys∧xs.length≤ys.length∧FB v h u hc) ?_ ?_
 case refine_1=>
  simp only[ae,seval];exact⟨_,0,_,_,rfl,awb _,rfl,L,awp _,FB.refl⟩
 rintro m ρ hc⟨k,w,ys,rfl,hk,rfl,L2,hys,B2⟩;have alz:=L2.le;by_cases aV:k<(at' W i).ifs.length
 case neg=>
  have aK:¬(k:Int)<((at' W i).ifs.length:Int):=by omega
  simp only[j6,ae,seval,aK];exact⟨ys,L2,hys,B2⟩
 have aK:(k:Int)<((at' W i).ifs.length:Int):=by omega
 obtain⟨b1,p1,td,fD,_,eR⟩:=(OI.ext L2.x).sl.at (i:=k) (by simpa using aV);rw[awk]at fD;cases fD;have fm:(at' W i).ifs.getD k []∈(at' W i).ifs:=by simp[aV]
 have e1:cellAt hc ⟨b1,p1+k,none⟩=some (str ((at' W i).ifs.getD k [])):=by rw[eR];simp[aV]
 have uf:=ZS I hi hiu fm;generalize(at' W i).ifs.getD k []=f at*;have w1:=gU (k:=k) (by omega);simp(disch:=omega)only[j6,ae,seval,aK,e1];refine aj rfl (Nl L2.o (by omega) f) ?_;rintro _ hc⟨rfl,rfl⟩;by_cases hm:f∈ys
 ·simp only[j6,ae,seval,awh hm,w1]
  exact⟨_,by omega,k+1,w,ys,rfl,by omega,rfl,L2,hys,B2⟩
 simp only[j6,ae,seval,awg hm];refine aU dE rfl rfl (by decide) ?_;simp only[ae,seval];have gB:=L2.x.size;refine j5 (m:=1) dE rfl rfl (L2.o.push _) rfl (bV (vs:=[str f])) (by intro u hu;simp only[awf]at hu;subst hu;rfl) (by omega) (by omega) (by simp;omega) ?_;intro v1 h1 O1 f1 _ n1;have L1:=L2.snoc (Ext.push _ _) O1 f1 hm uf;have alF:=L1.le;have B1:FB v h v1 h1:=B2.trans ⟨Fr.trans (Ext.push _ _) f1 (fun _ _ h=>h.elim) fun _ _ h=>h,fun k hk=>(n1 k hk).imp awx fun x=>by simp at x;omega⟩;have hyl:(ys++[f]).length=ys.length+1:=by simp
 simp only[ae,seval];refine aj rfl (ih h1 v1 _ f L1 (by omega) uf) ?_;rintro u hd⟨zs,L3,hz,B3⟩;simp only[j6,ae,seval,w1];exact⟨_,by omega,k+1,u,zs,rfl,by omega,rfl,L3,by omega,B1.trans B3⟩
end
end
section
section
variable{h h':ar}{g:Nat}{vL:Value}{bs:List Nat}{W:List LC}{S:LS}{rk:Nat→Nat}
theorem Vn(H:RW h g vL bs W S)(I:ek W S rk){s:az}(hs:∃i,i<W.length∧(at' W i).nm=s)(n t:az):
 aF Tryz.prog 60 #[aE g,str s,str n,str t] h fun v h'=>Ext h h'∧MbR W v:=by
 refine NS (args:=[aE g,str s,str n,str t]) rfl ?_;obtain⟨i,hi,rfl⟩:=hs;simp only[km,ae,seval];refine aD aL ?_;have x1:=Ext.push h (.cells #[str [],str [],str [],ax 0] 72);have q1:(h.push (.cells #[str [],str [],str [],ax 0] 72))[h.size]? =some (.cells #[str [],str [],str [],ax 0] 72):=by simp
 have H1:=H.ext x1;obtain⟨q,hq⟩:∃q,q=h.size:=⟨_,rfl⟩;rw[←hq]at q1⊢;simp only[km,ae,seval];generalize h.push _=h1 at*;obtain⟨vi,vp,vf,vv,vm,vo,K⟩:=H1.cl i hi;have c6:=K.c7;have O1:=K.m;obtain⟨_,ma,mc,rfl,_⟩:=id O1.dQ;have hr:=H.mr i hi;have sz:=H.sz i hi;have vb:∀r∈(at' W i).iw,r.length=10:=fun r hm=>by obtain⟨_,_,_,l,rfl,hl,_⟩:=hr r hm;simp[hl]
 refine aj rfl (fT H1 I (at' W i).nm) ?_;rintro _ h1⟨rfl,rfl⟩;rw[iz I hi];simp only[ae,seval,c6];refine aG [2,3,8,9,17,18,19] (fun m ρ hc=>∃k:Nat,m=(at' W i).iw.length-k∧k≤(at' W i).iw.length∧ρ=[(2,str n),(3,str t),(8,aE q),(9, .bool false),(17, .slice ma (at' W i).iw.length mc),(18,ao ((at' W i).iw.length:Int)),(19,ao k)]∧Ext h1 hc) ?_ ?_
 case refine_1=>
  simp only[ae,seval];exact⟨_,0,rfl,awb _,rfl,Ext.refl _⟩
 rintro m ρ hc⟨k,rfl,hk,rfl,xc⟩;have qc:=ay xc q1 awx;by_cases aV:k<(at' W i).iw.length
 case neg=>
  have aK:¬(k:Int)<((at' W i).iw.length:Int):=by omega
  simp only[km,ae,seval,aK];refine aO aL rfl rfl rfl (by simp[Value.cells,oneCell,str]) qc rfl ?_;intro h2 f2 b2;have bm:=aS cC (aN b2) rfl;simp only[ae,seval,bm];exact⟨ev (x1.trans xc) f2 (by omega),[],[],[],0,false,rfl,awb _,fun x=>by cases x⟩
 have aK:(k:Int)<((at' W i).iw.length:Int):=by omega
 obtain⟨b1,c1,heq,di⟩:=qV (O1.ext xc) vb aV;cases heq;obtain⟨n',t',f,l,pf,Ld,AR⟩:=hr _ (show(at' W i).iw.getD k []∈_ by simp[aV]);rw[pf]at di
 match l,Ld with
 |[u1,u2,u3,u4,u5,u6],_=>
  have bm:=aS UC di rfl;simp(disch:=omega)only[km,ae,seval,aK,bm];refine aD GW ?_;simp only[ae,seval];refine aI GW rfl rfl rfl (cS AR) rfl ?_;intro h2 x2 ji _ b2;have hp:q<hc.size:=(awd.1 qc).1;have q2:=ay x2 qc awx;have pj:=xc.trans x2;generalize hc.size=p at*;have e1:cellAt h2 ⟨p,1,none⟩=some (str n'):=by rw[au b2];rfl
  have e2:cellAt h2 ⟨p,2,none⟩=some (str t'):=by rw[au b2];rfl
  have w1:=gU (k:=k) (by omega);by_cases hn:n'=n
  case neg=>
   simp only[km,ae,seval,e1,av7 hn,w1];exact⟨_,by omega,k+1,rfl,by omega,rfl,pj⟩
  by_cases ht:t'=t
  case neg=>
   simp only[km,ae,seval,e1,e2,av8 hn,av7 ht,w1];exact⟨_,by omega,k+1,rfl,by omega,rfl,pj⟩
  have j7:ld Tryz.prog 72 ⟨p,0,none⟩ h2=some (.agg #[str (at' W i).nm,str n',str t',ax f]):=aS cC ((aN b2).sub 0 4) rfl;simp only[km,ae,seval,e1,e2,av8 hn,av8 ht,j7];refine aO aL rfl rfl rfl (cS (l:=[]) (by simp)) q2 rfl ?_;intro h3 f3 b3;have bm:=aS cC (aN b3) rfl;simp only[ae,seval,bm];exact⟨ev (x1.trans pj) f3 (by omega),_,n',t',f,true,rfl,sz.1,fun _=>⟨i,hi,rfl⟩⟩
end
end
section
section
variable{h h':ar}{g:Nat}{vL:Value}{bs:List Nat}{W:List LC}{S:LS}{rk:Nat→Nat}
theorem RW.nZ(H:RW h g vL bs W S):∀b∈bs,b<h.size:=fun b hb=>by
 obtain⟨i,hi,rfl⟩:=H.at hb;obtain⟨_,_,_,_,_,_,K⟩:=H.cl i hi;exact(awd.1 K.b).1
theorem fY.res(H0:RW h g vL bs W S){S':LS}{mo:Nat→Nat}(P:fY g vL bs W S h h' S' mo){hc:ar}{q:Nat}{c n t:az}{f:Int}(b:h'[q]? =some (.cells #[str c,str n,str t,ax f] 72))(fr:Fr (fun k=>k=q) h' hc)(hq:h.size≤q):fY g vL bs W S h hc S' mo:=by
 obtain⟨H,I,L,F,Q⟩:=P;have hg:¬g=q:=fun e=>by have:=H.w;rw[e,b]at this;simp at this
 have hb:∀k∈bs,¬k=q:=fun k hk e=>by have:=H0.nZ k hk;omega
 refine⟨⟨ay fr H.w hg,H.l.fr fr (fun k hk e=>bK H.l b (by decide) (by rw[hk,e])),H.ln,H.nd,fun i hi=>?_,H.fl,H.fr,H.mr,H.tf,H.tn,H.sz⟩,I,L,Fr.trans F fr (fun _ _ h=>h) fun k hk e=>by omega,Q.trans (H.kf fr hb)⟩;have qY:bs.getD i 0∈bs:=by
  have:i<bs.length:=by rw[H.ln];exact hi
  simp[this]
 obtain⟨vi,vp,vf,vv,vm,vo,K⟩:=H.cl i hi;obtain⟨_,_,wf,_,_,_,K0⟩:=H0.cl i hi;have ef:vf=wf:=by have:=Q _ qY;rw[K.c5,K0.c5]at this;injection this
 refine⟨vi,vp,vf,vv,vm,vo,ay fr K.b (hb _ qY),K.i.fr fr fun k hk e=>bK K.i b (by decide) (by rw[hk,e]),K.f.fr fr fun k hk e=>?_,K.m.fr fr fun k hk e=>bK K.m b (by decide) (by rw[hk,e])⟩;have:=(K0.f.lt k (by rw[←ef];exact hk)).2;omega
theorem nmO(I:ek W S rk){s:az}(o:pn W S s):∃i,i<W.length∧zZ W S i∧((((s.getD 0 0).toNat:Int)=91∧(at' W i).nm=[106,97,118,97,47,108,97,110,103,47,79,98,106,101,99,116])∨(¬((s.getD 0 0).toNat:Int)=91∧s=(at' W i).nm)):=by
 have ea:((s.getD 0 0).toNat:Int)=91↔s.head?=some 91:=oN (c:=91) (lL o.1);by_cases hc:s.head?=some 91
 ·obtain⟨i,hi,hn,h1,h2⟩:=I.ob
  exact⟨i,hi, .inr ⟨h1,h2⟩, .inl ⟨ea.2 hc,hn⟩⟩
 ·obtain⟨i,hi,hn,GJ⟩:=ug o hc
  exact⟨i,hi, .inl GJ, .inr ⟨fun x=>hc (ea.1 x),hn.symm⟩⟩
theorem LN.none{W:List LC}{S:LS}:LN h h W S nS []:=⟨Ext.refl _,Own.nil,List.nodup_nil,fun a ha=>by cases ha⟩
theorem PQ(H:RW h g vL bs W S)(I:ek W S rk)(a s n t:az)(ha:a.length≤1048576)(hl:s.length≤1048576):
 aF Tryz.prog 22 #[aE g,str a,str s,str n,str t] h (vP g vL bs W S h fun _ v=>MbE W v):=by
 refine Kx (args:=[aE g,str a,str s,str n,str t]) rfl ?_;simp only[et,ae,seval];refine aD aL ?_;have x1:=Ext.push h (.cells #[str [],str [],str [],ax 0] 72);have q1:=mW h;have vO:¬h.size∈bs:=fun e=>by have:=H.nZ _ e;omega
 have P1:=fY.ext H I x1;obtain⟨q,hq⟩:∃q,q=h.size:=⟨_,rfl⟩;rw[←hq]at q1 vO⊢;simp only[et,ae,seval];generalize h.push _=h1 at*;have none:∀{hc:ar}{S':LS}{mo:Nat→Nat}{e:Int},fY g vL bs W S h hc S' mo→e≠0→vP g vL bs W S h (fun S' v=>MbE W v) (.tuple #[.agg #[str [],str [],str [],ax 0],ao e]) hc:=fun P he=>⟨_,_,P,[],[],[],0,_,rfl,awb _,fun x=>aww x he⟩;refine aj rfl (Tk P1.1 P1.2.1 a s hl ha) ?_;rintro _ h2⟨S2,r2,P2,e,rfl,o2⟩;have rT:=P1.trans P2;have q2:=ay P2.2.2.2.1 q1 vO;by_cases he:e=0
 case neg=>
  simp only[et,ae,seval,av7 he];refine aO aL rfl rfl rfl (by simp[Value.cells,oneCell,str]) q2 rfl ?_;intro h7 f7 b7;have bm:=aS cC (aN b7) rfl;simp only[ae,seval,bm];exact none (rT.res H q2 f7 (by omega)) he
 have zP:=o2 he;subst he;have I2:=P2.2.1;have H2:=P2.1;have cN:=lL zP.1;have pa:(0:Int)<(s.length:Int):=by have:=awr.2 cN;omega
 obtain⟨i,hi,hu,kQ⟩:=nmO I2 zP;rcases kQ with⟨fa,hn⟩|⟨fa,hn⟩
 case' inl=>
  simp(disch:=omega)only[et,ae,seval,fa];rw[←hn]
 case' inr=>
  simp(disch:=omega)only[et,ae,seval,av7 fa];rw[hn]
 all_goals
  refine aj rfl (ZT H2 I2 _ h2 _ [] (at' W i).nm LN.none (Nat.lt_succ_self _) (.inr ⟨i,hi,rfl,hu⟩)) ?_;rintro v3 h3⟨ys,L,_⟩;have O3:=L.o;obtain⟨_,ya,yc,rfl,_⟩:=id O3.dQ;have x3:=L.x;have hyl:ys.length≤1048576:=awG L.le H2.tn;have hyu:=L.u;have O3:=O3.mono (awb _);simp only[ae,seval];refine aG [0,1,3,4,10,11,30,31,32] (fun m ρ hc=>∃k:Nat,m=ys.length-k∧k≤ys.length∧ρ=[(0, .pointer (some ⟨g,0,Option.none⟩)),(1,str a),(3,str n),(4,str t),(10, .pointer (some ⟨q,0,Option.none⟩)),(11,ao 0),(30, .slice ya ys.length yc),(31,ao ys.length),(32,ao k)]∧Ext h2 hc∧Own hc 0 9 1 (.slice ya ys.length yc) ys.length (ys.map str)) ?_ ?_
  case refine_1=>
   simp only[ae,seval];exact⟨_,0,rfl,awb _,rfl,x3,O3⟩
  rintro m ρ hc⟨k,rfl,hk,rfl,xc,Oc⟩;have qc:=ay xc q2 awx;have Pc:=rT.trans (fY.ext H2 I2 xc);by_cases aV:k<ys.length
  case neg=>
   have aK:¬(k:Int)<(ys.length:Int):=by omega
   simp only[et,ae,seval,aK];refine aO aL rfl rfl rfl (by simp[Value.cells,oneCell,str]) qc rfl ?_;intro h7 f7 b7;have bm:=aS cC (aN b7) rfl;simp only[ae,seval,bm];exact none (Pc.res H qc f7 (by omega)) (by decide)
  have aK:(k:Int)<(ys.length:Int):=by omega
  obtain⟨b1,p1,td,fD,_,eR⟩:=Oc.sl.at (i:=k) (by simpa using aV);rw[awk]at fD;cases fD;obtain⟨j,hj,W5,Te⟩:=hyu _ (show ys.getD k []∈ys by simp[aV]);have e1:cellAt hc ⟨b1,p1+k,Option.none⟩=some (str (at' W j).nm):=by rw[eR,W5];simp[aV]
  have Hc:=Pc.1;obtain⟨vi,vp,vf,vv,vm,vo,K⟩:=Hc.cl j hj;have c5:=K.c5;have OF:=K.f;obtain⟨_,ma,mc,rfl,_⟩:=id OF.dQ;have sz:=Hc.sz j hj;have hr:=Hc.fr j hj;have vb:∀r∈(at' W j).fds,r.length=4:=fun r hm=>by obtain⟨_,_,_,l,rfl,hl,_⟩:=hr r hm;simp[hl]
  have wk:=gU (k:=k) (by omega);simp(disch:=omega)only[et,ae,seval,aK,e1];refine aj rfl (fT Hc I2 (at' W j).nm) ?_;rintro _ hc⟨rfl,rfl⟩;rw[iz I2 hj];simp only[ae,seval,c5];refine aG [0,1,3,4,10,11,30,31,32,41,42,43] (fun m ρ hd=>∃y:Nat,m=(at' W j).fds.length-y∧y≤(at' W j).fds.length∧ρ=[(0, .pointer (some ⟨g,0,Option.none⟩)),(1,str a),(3,str n),(4,str t),(10, .pointer (some ⟨q,0,Option.none⟩)),(11,ao 0),(30, .slice (some ⟨b1,p1,Option.none⟩) ys.length yc),(31,ao ys.length),(32,ao k),(41, .slice ma (at' W j).fds.length mc),(42,ao ((at' W j).fds.length:Int)),(43,ao y)]∧Ext hc hd) ?_ ?_
  case refine_1=>
   simp only[ae,seval];exact⟨_,0,rfl,awb _,rfl,Ext.refl _⟩
  rintro m ρ hd⟨y,rfl,hy,rfl,xd⟩;have qd:=ay xd qc awx;have Xd:=xc.trans xd;by_cases hyt:y<(at' W j).fds.length
  case neg=>
   have aiI:¬(y:Int)<((at' W j).fds.length:Int):=by omega
   simp only[et,ae,seval,aiI,wk];exact⟨_,by omega,k+1,rfl,by omega,rfl,Xd,Oc.ext xd⟩
  have aiI:(y:Int)<((at' W j).fds.length:Int):=by omega
  obtain⟨b2,c2,heq,di⟩:=qV (OF.ext xd) vb hyt;cases heq;obtain⟨n',t',f,l,pf,Ld,AR⟩:=hr _ (show(at' W j).fds.getD y []∈_ by simp[hyt]);rw[pf]at di;obtain rfl:l=[]:=List.length_eq_zero_iff.1 Ld;have bm:=aS cC di rfl;simp(disch:=omega)only[et,ae,seval,aiI,bm];refine aD aL ?_;simp only[ae,seval];refine aI aL rfl rfl rfl (cS (l:=[]) (by simp)) rfl ?_;intro h4 x4 zY _ b4;have q4:=ay x4 qd awx;have X4:=Xd.trans x4;have P4:=rT.trans (fY.ext H2 I2 X4);have OP:¬hd.size∈bs:=fun e=>by have:=H2.nZ _ e;have:=Xd.size;omega
  have x4:=xd.trans x4;generalize hd.size=p at*;have e1:cellAt h4 ⟨p,1,Option.none⟩=some (str n'):=by rw[au b4];rfl
  have e2:cellAt h4 ⟨p,2,Option.none⟩=some (str t'):=by rw[au b4];rfl
  have w1:=gU (k:=y) (by omega);by_cases hn:n'=n
  case neg=>
   simp only[et,ae,seval,e1,av7 hn,w1];exact⟨_,by omega,y+1,rfl,by omega,rfl,x4⟩
  by_cases ht:t'=t
  case neg=>
   simp only[et,ae,seval,e1,e2,av8 hn,av7 ht,w1];exact⟨_,by omega,y+1,rfl,by omega,rfl,x4⟩
  have j7:=eO b4;simp only[et,ae,seval,e1,e2,av8 hn,av8 ht,j7];refine aj rfl (Vm P4.1 P4.2.1 a _ n' t' f ha sz.1) ?_;rintro _ h5⟨S5,r5,P5,b,rfl⟩;have Tf:=P4.trans P5;have q5:=ay P5.2.2.2.1 q4 vO;have hl5:=eO (ay P5.2.2.2.1 b4 OP);cases b
  ·simp only[et,ae,seval]
   refine aO aL rfl rfl rfl (by simp[Value.cells,oneCell,str]) q5 rfl ?_;intro h7 f7 b7;have bm:=aS cC (aN b7) rfl;simp only[ae,seval,bm];exact none (Tf.res H q5 f7 (by omega)) (by decide)
  ·simp only[et,ae,seval,hl5]
   refine aO aL rfl rfl rfl (cS (l:=[]) (by simp)) q5 rfl ?_;intro h7 f7 b7;have bm:=eO b7;simp only[ae,seval,bm];exact⟨S5,r5,Tf.res H q5 f7 (by omega),_,n',t',f,0,rfl,sz.1,fun _=>⟨j,hj,rfl⟩⟩
end
end
section
section
variable{h h':ar}{g:Nat}{vL:Value}{bs:List Nat}{W:List LC}{S:LS}{rk:Nat→Nat}
theorem Bf(H:RW h g vL bs W S)(I:ek W S rk)(a s n t:az)(face:Bool)(ha:a.length≤1048576)(hl:s.length≤1048576):
 aF Tryz.prog 24 #[aE g,str a,str s,str n,str t, .bool face] h (vP g vL bs W S h fun _ v=>MbE W v):=by
 refine Ir (args:=[aE g,str a,str s,str n,str t, .bool face]) rfl ?_;simp only[bQ,ae,seval];refine aD aL ?_;have x1:=Ext.push h (.cells #[str [],str [],str [],ax 0] 72);have q1:=mW h;have vO:¬h.size∈bs:=fun e=>by have:=H.nZ _ e;omega
 have P1:=fY.ext H I x1;obtain⟨q,hq⟩:∃q,q=h.size:=⟨_,rfl⟩;rw[←hq]at q1 vO⊢;simp only[bQ,ae,seval];generalize h.push _=h1 at*;have none:∀{hc:ar}{S':LS}{mo:Nat→Nat}{e:Int},fY g vL bs W S h hc S' mo→e≠0→vP g vL bs W S h (fun S' v=>MbE W v) (.tuple #[.agg #[str [],str [],str [],ax 0],ao e]) hc:=fun P he=>⟨_,_,P,[],[],[],0,_,rfl,awb _,fun x=>aww x he⟩;refine aj rfl (Tk P1.1 P1.2.1 a s hl ha) ?_;rintro _ h2⟨S2,r2,P2,e,rfl,o2⟩;have rT:=P1.trans P2;have q2:=ay P2.2.2.2.1 q1 vO;by_cases he:e=0
 case neg=>
  simp only[bQ,ae,seval,av7 he];refine aO aL rfl rfl rfl (by simp[Value.cells,oneCell,str]) q2 rfl ?_;intro h7 f7 b7;have bm:=aS cC (aN b7) rfl;simp only[ae,seval,bm];exact none (rT.res H q2 f7 (by omega)) he
 have zP:=o2 he;subst he;have I2:=P2.2.1;have H2:=P2.1;have cN:=lL zP.1;have pa:(0:Int)<(s.length:Int):=by have:=awr.2 cN;omega
 obtain⟨i,hi,hu,kQ⟩:=nmO I2 zP;have tn:=H2.tn;obtain⟨vi,vp,vf,vv,vm,vo,K⟩:=H2.cl i hi;have c3:=K.c3;obtain⟨fb,M5⟩:∃b:Bool,(¬cB .and .u16 ((at' W i).fl:Int) 512=0)=(b=true):=by
  by_cases x:cB .and .u16 ((at' W i).fl:Int) 512=0
  ·exact⟨false,by simp[x]⟩
  ·exact⟨true,by simp[x]⟩
 rcases kQ with⟨fa,hn⟩|⟨fa,hn⟩
 case' inl=>
  simp(disch:=omega)only[bQ,ae,seval,fa];rw[←hn]
 case' inr=>
  simp(disch:=omega)only[bQ,ae,seval,av7 fa];rw[hn]
 all_goals
  refine aj rfl (fT H2 I2 (at' W i).nm) ?_;rintro _ h2⟨rfl,rfl⟩;rw[iz I2 hi];simp only[bQ,ae,seval,c3,M5,Bool.decide_eq_true];by_cases ub:fb=face
  case neg=>
   simp only[bQ,ae,seval,av7 ub];refine aO aL rfl rfl rfl (by simp[Value.cells,oneCell,str]) q2 rfl ?_;intro h7 f7 b7;have bm:=aS cC (aN b7) rfl;simp only[ae,seval,bm];exact none (rT.res H q2 f7 (by omega)) (by decide)
  simp only[bQ,ae,seval,av8 ub];subst ub;refine aG [0,1,2,3,4,5,12,13,15,16,17] (fun m ρ hd=>∃(nn:az)(v:Value)(xs:List (az)),ρ=[(0, .pointer (some ⟨g,0,Option.none⟩)),(1,str a),(2,str (at' W i).nm),(3,str n),(4,str t),(5, .bool fb),(12, .pointer (some ⟨q,0,Option.none⟩)),(13,ao 0),(15, .pointer (some ⟨bs.getD i 0,0,Option.none⟩)),(16,v),(17,str nn)]∧LN h2 hd W S2 v xs∧
   (nn=[]∧m=0∨∃j,j<W.length∧(at' W j).nm=nn∧zZ W S2 j∧m=r2 j+1∧∀x∈xs,∃y,y<W.length∧(at' W y).nm=x∧r2 j<r2 y)) ?_ ?_
  case refine_1=>
   simp only[ae,seval];exact⟨_,_,_,[],rfl,LN.none, .inr ⟨i,hi,rfl,hu,rfl,fun x hx=>by cases hx⟩⟩
  rintro m ρ hd⟨nn,v,xs,rfl,L,hnn⟩;have hle:=L.le;rcases hnn with⟨rfl,rfl⟩|⟨j,hj,rfl,Te,rfl,TX⟩
  case inr=>
   have ZM:=(jO (I2.nm j hj)).1;have hnew:¬(at' W j).nm∈xs:=fun hm=>by
    obtain⟨y,hy,Le,Tc⟩:=TX _ hm;have:=I2.un y j hy hj Le;subst this;omega
   obtain hcs:(at' W j).nm=(at' W i).nm∨(¬(at' W j).nm=(at' W i).nm∧fb=false∧¬n=[60,105,110,105,116,62])∨(¬(at' W j).nm=(at' W i).nm∧fb=true)∨(¬(at' W j).nm=(at' W i).nm∧fb=false∧n=[60,105,110,105,116,62]):=by
    by_cases h1:(at' W j).nm=(at' W i).nm
    ·exact .inl h1
    cases fb
    ·by_cases h2:n=[60,105,110,105,116,62]
     ·exact .inr (.inr (.inr ⟨h1,rfl,h2⟩))
     ·exact .inr (.inl ⟨h1,rfl,h2⟩)
    ·exact .inr (.inr (.inl ⟨h1,rfl⟩))
   have RA:∃m',m'<r2 j+1∧((at' W j).sup=[]∧m'=0∨∃j',j'<W.length∧(at' W j').nm=(at' W j).sup∧zZ W S2 j'∧m'=r2 j'+1∧r2 j'<r2 j):=by
    by_cases hs:(at' W j).sup=[]
    ·exact⟨0,by omega, .inl ⟨hs,rfl⟩⟩
    ·obtain⟨y,hy,Le,Tb,Tc⟩:=I2.su' hj Te hs
     exact⟨r2 y+1,by omega, .inr ⟨y,hy,Le, .inl Tb,rfl,Tc⟩⟩
   obtain⟨m',Gz,Od⟩:=RA;rcases hcs with hA|⟨hA,hB,hC⟩|⟨hA,hB⟩|⟨hA,hB,hC⟩
   case' inl=>simp only[bQ,ae,seval,av7 ZM,av8 hA]
   case' inr.inl=>simp only[bQ,ae,seval,av7 ZM,av7 hA,hB,av7 hC]
   case' inr.inr.inl=>simp only[bQ,ae,seval,av7 ZM,av7 hA,hB]
   case' inr.inr.inr=>simp only[bQ,ae,seval,av7 ZM,av7 hA,hB,av8 hC]
   case' inl|inr.inl=>
    refine aU dE rfl rfl (by decide) ?_;simp only[ae,seval];have gB:=L.x.size;refine bF (m:=1) dE rfl rfl (L.o.push _) rfl (bV (vs:=[str (at' W j).nm])) (by intro u hu;simp only[awf]at hu;subst hu;rfl) (by omega) (by omega) (by simp;omega) ?_;intro v hd O1 f1 _;have L:=L.snoc (Ext.push _ _) O1 f1 hnew ⟨j,hj,rfl,Te⟩;have hr:∀x∈xs++[(at' W j).nm],∃y,y<W.length∧(at' W y).nm=x∧(y=j∨r2 j<r2 y):=fun x hx=>by
     rcases awi.1 hx with hx|hx
     ·obtain⟨y,a,b,c⟩:=TX x hx
      exact⟨y,a,b, .inr c⟩
     ·exact⟨j,hj,(awf.1 hx).symm, .inl rfl⟩
    generalize xs++[(at' W j).nm]=xs at L hr;simp only[bQ,ae,seval]
   case' inr.inr.inl|inr.inr.inr=>
    have hr:∀x∈xs,∃y,y<W.length∧(at' W y).nm=x∧(y=j∨r2 j<r2 y):=fun x hx=>by
     obtain⟨y,a,b,c⟩:=TX x hx;exact⟨y,a,b, .inr c⟩
   all_goals
    have Hd:=H2.ext L.x;obtain⟨wi,wp,wf,wv,wm,wo,Kd⟩:=Hd.cl j hj;have c1:=Kd.c1;refine aj rfl (fT Hd I2 (at' W j).nm) ?_;rintro _ hd⟨rfl,rfl⟩;rw[iz I2 hj];simp only[ae,seval,c1];refine⟨m',Gz,_,_,xs,rfl,L,?_⟩;rcases Od with⟨h1,h2⟩|⟨y,h1,h2,h3,h4,h5⟩
    ·exact .inl ⟨h1,h2⟩
    ·refine .inr ⟨y,h1,h2,h3,h4,fun x hx=>?_⟩
     obtain⟨z,z1,z2,z3⟩:=hr x hx;refine⟨z,z1,z2,?_⟩;rcases z3 with rfl|z3
     ·exact h5
     ·omega
  by_cases alG:n=[60,105,110,105,116,62]
  case' pos=>
   have X:=L.x;have O:=L.o.mono (awb _);have QV:∀x∈xs,∃y,y<W.length∧(at' W y).nm=x:=fun x hx=>by
    obtain⟨y,a,b,_⟩:=L.u x hx;exact⟨y,a,b⟩
   have KS:xs.length≤1048577:=by omega
   obtain⟨_,la,lc,rfl,_⟩:=id O.dQ;simp only[bQ,ae,seval,av8 alG]
  case' neg=>
   simp only[bQ,ae,seval,av7 alG];refine gO (m:=xs.length) (base:=hd.size) (n:=0) (xs:=[]) (news:=xs.map str) dE rfl rfl Own.nil L.o.dQ (fun u hu=>by obtain⟨x,_,rfl⟩:=List.mem_map.1 hu;rfl) (by omega) (by omega) (awp _) ?_;intro v5 h5 O5 f5;have X5:Ext hd h5:=f5.mono fun k _ e=>by simp[Value.ownBlock]at e
   have O5:Own h5 hd.size 9 1 v5 xs.length (xs.map str):=dR O5 (by omega) (by simp);have N5:∀k,v.ownBlock=some k→¬v5.ownBlock=some k:=fun k h1 h2=>by
    have:=(L.o.lt k h1).2;have:=(O5.lt k h2).1;omega
   have O5:=O5.mono (awb _);have L:=L.ext X5;have hxu:=L.u;obtain⟨_,ca,cc,rfl,_⟩:=id O5.dQ;simp only[ae,seval];refine aG [0,1,3,4,5,12,13,15,16,74,75,76] (fun m ρ hc=>∃(k:Nat)(u:Value)(zs:List (az)),m=xs.length-k∧k≤xs.length∧ρ=[(0, .pointer (some ⟨g,0,Option.none⟩)),(1,str a),(3,str n),(4,str t),(5, .bool fb),(12, .pointer (some ⟨q,0,Option.none⟩)),(13,ao 0),(15, .pointer (some ⟨bs.getD i 0,0,Option.none⟩)),(16,u),(74, .slice ca xs.length cc),(75,ao xs.length),(76,ao k)]∧LN h2 hc W S2 u zs∧Own hc 0 9 1 (.slice ca xs.length cc) xs.length (xs.map str)∧∀k,u.ownBlock=some k→¬(Value.slice ca xs.length cc).ownBlock=some k) ?_ ?_
   case' refine_1=>
    simp only[ae,seval];exact⟨_,0,v,xs,rfl,awb _,rfl,L,O5,N5⟩
   have hle:xs.length≤1048576:=by omega
   rintro m ρ hc⟨k,u,zs,rfl,hk,rfl,L,O5,N5⟩;have hzl:=L.le;by_cases aV:k<xs.length
   case' pos=>
    have aK:(k:Int)<(xs.length:Int):=by omega
    obtain⟨b1,p1,td,fD,_,eR⟩:=O5.sl.at (i:=k) (by simpa using aV);rw[awk]at fD;cases fD;have fm:=hxu _ (show xs.getD k []∈xs by simp[aV]);have e1:cellAt hc ⟨b1,p1+k,Option.none⟩=some (str (xs.getD k [])):=by rw[eR];simp[aV]
    have w1:=gU (k:=k) (by omega);simp(disch:=omega)only[bQ,ae,seval,aK,e1];refine aj rfl (ZU H2 I2 _ hc u zs (xs.getD k []) L (Nat.lt_succ_self _) fm) ?_;rintro u' hd'⟨ys,L3,_,B3⟩;simp only[bQ,ae,seval,w1];refine⟨_,by omega,k+1,u',ys,rfl,by omega,rfl,L3,O5.fr B3.1 fun j h1 h2=>N5 j h2 h1,fun j h1 h2=>?_⟩;rcases B3.2 j h1 with h3|h3
    ·exact N5 j h3 h2
    ·have:=(O5.lt j h2).2;omega
   have aK:¬(k:Int)<(xs.length:Int):=by omega
   cases fb
   case' false=>
    have X:=L.x;have O:=L.o.mono (awb _);have QV:∀x∈zs,∃y,y<W.length∧(at' W y).nm=x:=fun x hx=>by
     obtain⟨y,a,b,_⟩:=L.u x hx;exact⟨y,a,b⟩
    have KS:zs.length≤1048577:=by omega
    obtain⟨_,la,lc,rfl,_⟩:=id O.dQ;simp only[bQ,ae,seval,aK];generalize zs=xs at O QV KS⊢;generalize hc=hd at O X⊢
   case' true=>
    simp only[bQ,ae,seval,aK];refine aU dE rfl rfl (by decide) ?_;simp only[ae,seval];have gB:=L.x.size;refine bF (m:=1) dE rfl rfl (L.o.push _) rfl (bV (vs:=[str [106,97,118,97,47,108,97,110,103,47,79,98,106,101,99,116]])) (by intro u hu;simp only[awf]at hu;subst hu;rfl) (by omega) (by omega) (by simp;omega) ?_;intro v hd O1 f1 _;have X:Ext h2 hd:=Ext.app (L.x.trans (Ext.push _ _)) f1 fun k hk=>(L.o.lt k hk).1;have O:=(Ab O1).mono (awb _);have QV:∀x∈zs++[[106,97,118,97,47,108,97,110,103,47,79,98,106,101,99,116]],∃y,y<W.length∧(at' W y).nm=x:=fun x hx=>by
     rcases awi.1 hx with hx|hx
     ·obtain⟨y,a,b,_⟩:=L.u x hx
      exact⟨y,a,b⟩
     ·obtain⟨y,a,b,_⟩:=I2.ob
      exact⟨y,a,b.trans (awf.1 hx).symm⟩
    have KS:(zs++[[106,97,118,97,47,108,97,110,103,47,79,98,106,101,99,116]]).length≤1048577:=by rw[awn,awt];omega
    generalize zs++[[106,97,118,97,47,108,97,110,103,47,79,98,106,101,99,116]]=xs at O QV KS;obtain⟨_,la,lc,rfl,_⟩:=id O.dQ;simp only[bQ,ae,seval]
  all_goals
   refine aG [0,1,3,4,12,13,15,89,90,91] (fun m ρ hc=>∃k:Nat,m=xs.length-k∧k≤xs.length∧ρ=[(0, .pointer (some ⟨g,0,Option.none⟩)),(1,str a),(3,str n),(4,str t),(12, .pointer (some ⟨q,0,Option.none⟩)),(13,ao 0),(15, .pointer (some ⟨bs.getD i 0,0,Option.none⟩)),(89, .slice la xs.length lc),(90,ao xs.length),(91,ao k)]∧Ext h2 hc∧Own hc 0 9 1 (.slice la xs.length lc) xs.length (xs.map str)) ?_ ?_
   case' refine_1=>
    simp only[ae,seval];exact⟨_,0,rfl,awb _,rfl,X,O⟩
   rintro m ρ hc⟨k,rfl,hk,rfl,xc,Oc⟩;have qc:=ay xc q2 awx;have Pc:=rT.trans (fY.ext H2 I2 xc);by_cases aV:k<xs.length
   case' neg=>
    have aK:¬(k:Int)<(xs.length:Int):=by omega
    simp only[bQ,ae,seval,aK];refine aO aL rfl rfl rfl (by simp[Value.cells,oneCell,str]) qc rfl ?_;intro h7 f7 b7;have bm:=aS cC (aN b7) rfl;simp only[ae,seval,bm];exact none (Pc.res H qc f7 (by omega)) (by decide)
   have aK:(k:Int)<(xs.length:Int):=by omega
   obtain⟨b1,p1,td,fD,_,eR⟩:=Oc.sl.at (i:=k) (by simpa using aV);rw[awk]at fD;cases fD;have fm:=QV _ (show xs.getD k []∈xs by simp[aV]);have e1:cellAt hc ⟨b1,p1+k,Option.none⟩=some (str (xs.getD k [])):=by rw[eR];simp[aV]
   have wk:=gU (k:=k) (by omega);have Hc:=Pc.1;simp(disch:=omega)only[bQ,ae,seval,aK,e1];refine aj rfl (Vn Hc I2 fm n t) ?_;rintro _ h3⟨x3,R⟩;obtain⟨c',n',t',f,b,rfl,lQ,oO⟩:=R.parts;have q3:=ay x3 qc awx;simp only[ae,seval];refine aD aL ?_;simp only[ae,seval];refine aI aL rfl rfl rfl (cS (l:=[]) (by simp)) rfl ?_;intro h4 x4 zY _ b4;have q4:=ay x4 q3 awx;have P4:=Pc.trans (fY.ext Hc I2 (x3.trans x4));have OP:¬h3.size∈bs:=fun e=>by have:=Hc.nZ _ e;have:=x3.size;omega
   have X4:=xc.trans (x3.trans x4);have O4:=Oc.ext (x3.trans x4);generalize h3.size=p at*;have j7:=eO b4;cases b
   case' false=>
    simp only[bQ,ae,seval,wk];exact⟨_,by omega,k+1,rfl,by omega,rfl,X4,O4⟩
   obtain⟨wi,wp,wf,wv,wm,wo,K4⟩:=P4.1.cl i hi;have d3:=K4.c3;have e3:cellAt h4 ⟨p,3,Option.none⟩=some (ax f):=by rw[au b4];rfl
   by_cases g1:cB .and .u16 (f:Int) 1024=0
   case' neg=>
    by_cases g2:cB .and .u16 ((at' W i).fl:Int) 1024=0
    case' pos=>
     simp only[bQ,ae,seval,e3,d3,av7 g1,av8 g2];refine aO aL rfl rfl rfl (by simp[Value.cells,oneCell,str]) q4 rfl ?_;intro h7 f7 b7;have bm:=aS cC (aN b7) rfl;simp only[ae,seval,bm];exact none (P4.res H q4 f7 (by omega)) (by decide)
    simp only[bQ,ae,seval,e3,d3,av7 g1,av7 g2,j7]
   case' pos=>simp only[bQ,ae,seval,e3,av8 g1,j7]
   all_goals
    refine aj rfl (Vm P4.1 P4.2.1 a c' n' t' f ha lQ) ?_;rintro _ h5⟨S5,r5,P5,b,rfl⟩;have Tf:=P4.trans P5;have q5:=ay P5.2.2.2.1 q4 vO;have hl5:=eO (ay P5.2.2.2.1 b4 OP);cases b
    ·simp only[bQ,ae,seval]
     refine aO aL rfl rfl rfl (by simp[Value.cells,oneCell,str]) q5 rfl ?_;intro h7 f7 b7;have bm:=aS cC (aN b7) rfl;simp only[ae,seval,bm];exact none (Tf.res H q5 f7 (by omega)) (by decide)
    ·simp only[bQ,ae,seval,hl5]
     refine aO aL rfl rfl rfl (cS (l:=[]) (by simp)) q5 rfl ?_;intro h7 f7 b7;have bm:=eO b7;simp only[ae,seval,bm];exact⟨S5,r5,Tf.res H q5 f7 (by omega),c',n',t',f,0,rfl,lQ,fun _=>oO rfl⟩
end
end
end Go.Proofs.YtmbboehmnfhjjaaGreatDoor
