/- Classes out of bytes: the program's pool and the reference's come to the same class (plain). The reader of classes under way: its blocks, and what they hold. class.Read, by its stages. The reference's reading of classes: numbers, attributes. -/
import Derived.Test.YtmbboehmnfhjjaaGreatDoorU25
import Derived.Test.YtmbboehmnfhjjaaGreatDoorU26
import Derived.Test.YtmbboehmnfhjjaaGreatDoorU28
import Derived.Test.YtmbboehmnfhjjaaGreatDoorU5
import Derived.Test.YtmbboehmnfhjjaaGreatDoorU6
import Derived.Test.YtmbboehmnfhjjaaGreatDoorU27
set_option maxRecDepth 100000
set_option maxHeartbeats 4000000
set_option linter.unusedSimpArgs false
set_option linter.unusedVariables false
set_option linter.defProp false
namespace Go.Proofs.YtmbboehmnfhjjaaGreatDoor
open Go.Vc
section
def qU(E k:Nat)(s:RS):RS:=⟨s.p+k,s.e,if s.e=0 then E else s.es+k⟩
section
variable{l:az}{E k:Nat}
theorem Zy(hk:k≤l.length)(n:Nat)(s:RS):cV l n (qU E k s)=((cV (l.drop k) n s).1,qU E k (cV (l.drop k) n s).2):=by
 obtain⟨p,e,es⟩:=s;by_cases he:e=0
 ·subst he
  have hsh:qU E k ⟨p,0,es⟩=⟨p+k,0,E⟩:=rfl;rw[hsh];by_cases h:l.length<p+k+n
  ·rw[La h,La (by simp;omega)]
   simp[qU];omega
  ·rw[OD (by omega),OD (by simp;omega)]
   simp[qU,Nat.add_comm,Nat.add_left_comm]
 ·have hsh:qU E k ⟨p,e,es⟩=⟨p+k,e,es+k⟩:=by simp[qU,he]
  rw[hsh,Lb he,Lb he];simp[qU,he]
theorem acO(hk:k≤l.length)(n:Nat)(s:RS):aA l n (qU E k s)=((aA (l.drop k) n s).1,qU E k (aA (l.drop k) n s).2):=by
 unfold aA;rw[Zy hk]
theorem Na(e q:Nat)(he:e≠0)(s:RS):cg e (q+k) (qU E k s)=qU E k (cg e q s):=by
 unfold cg qU;by_cases h:s.e=0
 ·simp[h,he]
 ·simp[h]
theorem akK(hk:k≤l.length)(s:RS):gj l (qU E k s)=((gj (l.drop k) s).1,qU E k (gj (l.drop k) s).2):=by
 have hp:(qU E k s).p=s.p+k:=rfl;unfold gj;simp only[acO hk,Zy hk,hp,Na (k:=k) (E:=E) 5 _ (by decide),Na (k:=k) (E:=E) 6 _ (by decide)];generalize aA (l.drop k) 1 s=a
 repeat' split
 all_goals first|rfl|(simp_all;done)
theorem ahW(hk:k≤l.length)(n:Nat):∀(j:Nat)(cs:List aX)(s:RS),jl l n j cs (qU E k s)=((jl (l.drop k) n j cs s).1,qU E k (jl (l.drop k) n j cs s).2):=by
 intro j
 induction j with
 |zero=>intro cs s;rfl
 |succ j ih=>
  intro cs s;have hp:(qU E k s).p=s.p+k:=rfl;have he:(qU E k s).e=s.e:=rfl;rw[jl,jl];simp only[akK hk,hp,he,Na (k:=k) (E:=E) 12 _ (by decide),←apply_ite (qU E k),ih]
  repeat' split
  all_goals rfl
theorem ahX(hk:k≤l.length)(s:RS):hE l (qU E k s)=((hE (l.drop k) s).1,qU E k (hE (l.drop k) s).2):=by
 have hp:(qU E k s).p=s.p+k:=rfl;unfold hE;simp only[acO hk,hp,Na (k:=k) (E:=E) 12 _ (by decide),←apply_ite (qU E k)];exact ahW hk _ _ _ _
end
def oF(l:az):Nat × Nat × RS:=
 let m:=aA l 4 ⟨0,0,0⟩
 let a:=aA l 2 (if m.1=3405691582 then m.2 else cg 3 0 m.2)
 let b:=aA l 2 a.2
 (a.1,b.1,if(b.1=50∨b.1=51)∧a.1=0 then b.2 else cg 4 4 b.2)
def kT(l:az):iP × Nat × Nat:=
 let x:=oF l
 let P:=hE l x.2.2
 mj (jE P.1 l x.1 x.2.1 P.2)
def tm(l:az)(s:RS):List aX × RS:=
 if s.e≠0 then([],s)
 else
  let x:=lJ (l.drop s.p)
  let t:=if x.2.2.1=0 then s else cg x.2.2.1 (s.p+x.2.2.2) s
  (x.1,⟨t.p+x.2.1,t.e,t.es⟩)
def OJ(l:az):iP × Nat × Nat:=
 let x:=oF l
 let P:=tm l x.2.2
 mj (jE P.1 l x.1 x.2.1 P.2)
theorem U9{p q:List aX}{l:az}{mi ma:Nat}{s t:RS}(h:s.e≠0)(h1:s.e=t.e)(h2:s.es=t.es):mj (jE p l mi ma s)=mj (jE q l mi ma t):=by
 have ht:t.e≠0:=h1▸h;unfold mj;rw[SE h,SE ht,awa h,awa ht,h1,h2]
theorem abZ{l:az}{s:RS}(h:s.e≠0):(hE l s).2=s:=by
 unfold hE;rw[acN h,MG h,ite_self,nV (by simp[h])]
theorem ahY{l:az}(hp:(oF l).2.2.p≤l.length):OJ l=kT l:=by
 unfold OJ kT;simp only;generalize oF l=x at*;obtain⟨mi,ma,p,e,es⟩:=x;simp only at hp⊢;by_cases he:e=0
 ·subst he
  have hs:(⟨p,0,es⟩:RS)=qU es p ⟨0,0,0⟩:=by simp[qU]
  have hP:hE l ⟨p,0,es⟩=_:=(axf (hE l) hs).trans (ahX hp ⟨0,0,0⟩);rw[hP];have hr:=OE (l.drop p);unfold tm;simp only[ne_eq,not_true_eq_false,aw1];rw[←hr];generalize hE (l.drop p) ⟨0,0,0⟩=Z;obtain⟨cs,zp,ze,zes⟩:=Z;unfold JC;by_cases hz:ze=0
  ·subst hz
   simp[qU,Nat.add_comm]
  ·simp only[ne_eq,hz,not_false_eq_true,aw0,aw1]
   refine U9 ?_ ?_ ?_<;>simp[cg,qU,hz,Nat.add_comm]
 ·have h1:(tm l ⟨p,e,es⟩).2=⟨p,e,es⟩:=by unfold tm;simp[he]
  have h2:(hE l ⟨p,e,es⟩).2=⟨p,e,es⟩:=abZ (by simpa using he);exact U9 (by rw[h1];simpa using he) (by rw[h1,h2]) (by rw[h1,h2])
theorem ab0(l:az)(n:Nat):∀(k:Nat)(cs:List aX)(s:RS),(jl l n k cs s).1.length≤max cs.length (n+1):=by
 intro k
 induction k with
 |zero=>intro cs s;show cs.length≤_;omega
 |succ k ih=>
  intro cs s;rw[jl];split
  ·next h=>
   split
   ·refine awG (ih _ _) ?_
    simp only[awn,awt];omega
   ·refine awG (ih _ _) ?_
    simp only[awn,awt];omega
  ·show cs.length≤_;omega
theorem ab1(l:az)(s:RS):(hE l s).1.length≤65536:=by
 unfold hE;have h:= @dJ l 2 s;simp only[Nat.reducePow]at h;refine awG (ab0 _ _ _ _ _) ?_;simp only[awt];omega
end
section
theorem mJ{h:ar}{base:Nat}{e:TypeId}{size n:Nat}{v:Value}{xs:List Value}(H:Own h base e size v n xs):∀k,v.ownBlock=some k→base≤k∧∃cs fz,h[k]? =some (.cells cs e fz):=by
 intro k hk;rcases H.2 with⟨rfl,_⟩|⟨g,cap,cur,fz,rfl,hb,hg,_⟩
 ·simp[Value.ownBlock]at hk
 ·simp[Value.ownBlock]at hk
  subst hk;exact⟨hb,_,_,hg⟩
theorem da{S:Nat→Prop}{h h':ar}{base:Nat}{e e':TypeId}{size n:Nat}{v:Value}{xs:List Value}(H:Own h base e' size v n xs)(f:Fr S h h')(hS:∀k,k<h.size→S k→∃cs fz,h[k]? =some (.cells cs e fz))(cN:e'≠e):Own h' base e' size v n xs:=by
 refine H.fr f fun k hk hSk=>?_;have aV:=(H.lt k hk).2;obtain⟨cs,fz,hb⟩:=hS k aV hSk;exact bK H hb cN hk
structure HO(base:Nat)(hc:ar)(v:Value)(ms:List fj)(rows:List (List Value)):Prop where
 l:rows.length=ms.length
 o:Own hc base 107 9 v ms.length rows.flatten
 r:∀j,j<ms.length→∃vH,rows.getD j []=fQ (ms.getD j fj.zero) vH∧Own hc base 226 4 vH (ms.getD j fj.zero).code.hs.length (gZ (ms.getD j fj.zero).code.hs)
theorem HO.one{base:Nat}{hc:ar}{v:Value}{ms:List fj}{rows:List (List Value)}(H:HO base hc v ms rows):∀u∈rows.flatten,oneCell u=true:=by
 intro u hu;obtain⟨r,hr,hur⟩:=List.mem_flatten.1 hu;obtain⟨j,hj,rfl⟩:=List.mem_iff_getElem.1 hr;obtain⟨vH,h1,h2⟩:=H.r j (by rw[←H.l];exact hj);have h3:rows[j]=fQ (ms.getD j fj.zero) vH:=by rw[←h1];simp[hj]
 rw[h3]at hur;obtain⟨a,c,rfl,_⟩:=h2.dQ.2;exact abE rfl u hur
theorem HO.cls{base:Nat}{hc:ar}{v:Value}{ms:List fj}{rows:List (List Value)}(H:HO base hc v ms rows):KV hc v ms:=
 ⟨rows,H.l,H.o.dQ,fun j hj=>by
  obtain⟨vH,h1,h2⟩:=H.r j hj;exact⟨vH,h1,h2.dQ,h2.gH⟩⟩
theorem HO.keep{S:Nat→Prop}{h h':ar}{base:Nat}{e:TypeId}{v:Value}{ms:List fj}{rows:List (List Value)}(H:HO base h v ms rows)(f:Fr S h h')(hS:∀k,k<h.size→S k→∃cs fz,h[k]? =some (.cells cs e fz))(h1:107≠e)(h2:226≠e):HO base h' v ms rows:=
 ⟨H.l,da H.o f hS h1,fun j hj=>by
  obtain⟨vH,a,b⟩:=H.r j hj;exact⟨vH,a,da b f hS h2⟩⟩
theorem HO.snoc{h h':ar}{base:Nat}{v v':Value}{ms:List fj}{rows:List (List Value)}(H:HO base h v ms rows){m:fj}{vH:Value}(O:Own h base 226 4 vH m.code.hs.length (gZ m.code.hs))
 (f:Fr (fun k=>v.ownBlock=some k) h h')(O':Own h' base 107 9 v' (ms.length+1) (rows.flatten++fQ m vH)):HO base h' v' (ms++[m]) (rows++[fQ m vH]):=by
 have hS:∀k,k<h.size→v.ownBlock=some k→∃cs fz,h[k]? =some (.cells cs 107 fz):=fun k _ hk=>(mJ H.o k hk).2;refine⟨by simp[H.l],dR O' (by simp) (by simp),fun j hj=>?_⟩;rw[awn,awt]at hj;by_cases hjm:j=ms.length
 ·subst hjm
  refine⟨vH,?_,?_⟩
  ·rw[←H.l];simp;simp[H.l]
  ·have:(ms++[m]).getD ms.length fj.zero=m:=by simp
   rw[this];exact da O f hS (by decide)
 ·have aV:j<ms.length:=by omega
  obtain⟨w,a,b⟩:=H.r j aV;have hlr:j<rows.length:=by rw[H.l];exact aV
  have e1:(ms++[m]).getD j fj.zero=ms.getD j fj.zero:=by simp[awu,awS aV]
  have e2:(rows++[fQ m vH]).getD j []=rows.getD j []:=by simp[awu,awS hlr]
  rw[e1,e2];exact⟨w,a,da b f hS (by decide)⟩
abbrev GB:Array Value:=#[ax 0,ax 0,ax 0,ax 0,ax 0,nS,nS,nS,nS]
structure RD(h0:ar)(g gr rb:Nat)(l:az)(rc:List Value)(p:List aX)(is:List Nat)(fs:List fC)(ms:List fj)(vp vi vf vm:Value)(t:RS)(hx:ar):Prop where
 b:RdC hx g gr rc
 r:eF hx gr l t
 p:Own hx h0.size 160 5 vp p.length (du p)
 i:Own hx h0.size 40 1 vi is.length (Cq is)
 f:Own hx h0.size 103 4 vf fs.length (vr fs)
 m:∃rows,HO h0.size hx vm ms rows
 x:Ext h0 hx
 z:hx[rb]? =some (.cells GB 96 (0,0))
 g0:h0.size≤g
 g1:h0.size≤gr
 g2:h0.size≤rb
 ne:g≠gr
section
variable{h0 hx hy:ar}{g gr rb:Nat}{l:az}{rc:List Value}{p:List aX}{is:List Nat}{fs:List fC}{ms:List fj}{vp vi vf vm:Value}{t u:RS}
theorem vJ{h:ar}{a b:Nat}{cs ds:Array Value}{e e':TypeId}{fz fy:Nat × Nat}(h1:h[a]? =some (.cells cs e fz))(h2:h[b]? =some (.cells ds e' fy))(cN:e≠e'):a≠b:=by
 intro hh;subst hh;rw[h1]at h2;simp only[awe,awE]at h2;exact cN h2.2.1
theorem dG{S:Nat→Prop}{h h':ar}{a:Nat}{cs:Array Value}{e e':TypeId}{fz:Nat × Nat}(hb:h[a]? =some (.cells cs e' fz))(f:Fr S h h')(hS:∀k,k<h.size→S k→∃cs fz,h[k]? =some (.cells cs e fz))(cN:e'≠e):h'[a]? =some (.cells cs e' fz):=by
 refine ay f hb fun hSk=>?_;obtain⟨Qn,Yu,ju⟩:=hS a (awd.1 hb).1 hSk;rw[hb]at ju;simp only[awe,awE]at ju;exact cN ju.2.1
theorem RD.tJ{S:Nat→Prop}(D:RD h0 g gr rb l rc p is fs ms vp vi vf vm t hx)(f:Fr S hx hy)(hS0:∀k,k<hx.size→S k→h0.size≤k):Ext h0 hy:=
 Fr.trans D.x f (fun _ _ h=>h) (fun k hk hSk=>by have:=hS0 k (by have:=D.x.size;omega) hSk;omega)
theorem RD.cY(D:RD h0 g gr rb l rc p is fs ms vp vi vf vm t hx)(f:eW gr hx hy)(r:eF hy gr l u):RD h0 g gr rb l rc p is fs ms vp vi vf vm u hy:=by
 have hS:∀k,k<hx.size→k=gr→∃cs fz,hx[k]? =some (.cells cs 244 fz):=fun k _ hk=>⟨_,_,hk▸D.r.1⟩;obtain⟨rows,hm⟩:=D.m;exact⟨dG D.b f hS (by decide),r,da D.p f hS (by decide),da D.i f hS (by decide),da D.f f hS (by decide),⟨rows,hm.keep f hS (by decide) (by decide)⟩,
  D.tJ f (fun k _ hk=>by have:=D.g1;omega),dG D.z f hS (by decide),D.g0,D.g1,D.g2,D.ne⟩
theorem RD.cr(D:RD h0 g gr rb l rc p is fs ms vp vi vf vm t hx)(h5:rc[5]? =some vp):CR hx g gr rc p vp:=
 ⟨D.b,D.p.dQ,h5,bK D.p D.r.1 (by decide),D.ne⟩
theorem RD.cell(D:RD h0 g gr rb l rc p is fs ms vp vi vf vm t hx)(k:Nat):cellAt hx ⟨g,k+1,none⟩=rc[k]? :=by
 rw[au D.b];simp
theorem RD.set(D:RD h0 g gr rb l rc p is fs ms vp vi vf vm t hx)(k:Nat)(v:Value):RD h0 g gr rb l (rc.set k v) p is fs ms vp vi vf vm t (setAt hx ⟨g,k+1,none⟩ v):=by
 have f:Fr (fun b=>b=g) hx (setAt hx ⟨g,k+1,none⟩ v):=Fr.set (S:=fun b=>b=g) _ _ _ fun _=>rfl;have hS:∀b,b<hx.size→b=g→∃cs fz,hx[b]? =some (.cells cs 143 fz):=fun b _ hk=>⟨_,_,hk▸D.b⟩;have b1:=bu (o:=k+1) D.b v;obtain⟨rows,hm⟩:=D.m;exact⟨by unfold RdC;rw[b1];simp,D.r.fr f (fun h=>D.ne h.symm),da D.p f hS (by decide),da D.i f hS (by decide),da D.f f hS (by decide),⟨rows,hm.keep f hS (by decide) (by decide)⟩,
  D.tJ f (fun b _ hk=>by have:=D.g0;omega),dG D.z f hS (by decide),D.g0,D.g1,D.g2,D.ne⟩
theorem RD.frozen(D:RD h0 g gr rb l rc p is fs ms vp vi vf vm t hx)(k:Nat):frozenAt hx ⟨g,k,none⟩=false:=by simp[frozenAt,show hx[g]? =_ from D.b]
theorem RD.ahZ(D:RD h0 g gr rb l rc p is fs ms vp vi vf vm t hx)(f:Fr (fun k=>vi.ownBlock=some k) hx hy){is':List Nat}{vi':Value}(O:Own hy h0.size 40 1 vi' is'.length (Cq is')):RD h0 g gr rb l rc p is' fs ms vp vi' vf vm t hy:=by
 have hS:∀k,k<hx.size→vi.ownBlock=some k→∃cs fz,hx[k]? =some (.cells cs 40 fz):=fun k _ hk=>(mJ D.i k hk).2;obtain⟨rows,hm⟩:=D.m;exact⟨dG D.b f hS (by decide),⟨dG D.r.1 f hS (by decide),D.r.2⟩,da D.p f hS (by decide),O,da D.f f hS (by decide),⟨rows,hm.keep f hS (by decide) (by decide)⟩,
  D.tJ f (fun k _ hk=>(mJ D.i k hk).1),dG D.z f hS (by decide),D.g0,D.g1,D.g2,D.ne⟩
theorem RD.ah1(D:RD h0 g gr rb l rc p is fs ms vp vi vf vm t hx)(f:Fr (fun k=>vf.ownBlock=some k) hx hy){fs':List fC}{vf':Value}(O:Own hy h0.size 103 4 vf' fs'.length (vr fs')):RD h0 g gr rb l rc p is fs' ms vp vi vf' vm t hy:=by
 have hS:∀k,k<hx.size→vf.ownBlock=some k→∃cs fz,hx[k]? =some (.cells cs 103 fz):=fun k _ hk=>(mJ D.f k hk).2;obtain⟨rows,hm⟩:=D.m;exact⟨dG D.b f hS (by decide),⟨dG D.r.1 f hS (by decide),D.r.2⟩,da D.p f hS (by decide),da D.i f hS (by decide),O,⟨rows,hm.keep f hS (by decide) (by decide)⟩,
  D.tJ f (fun k _ hk=>(mJ D.f k hk).1),dG D.z f hS (by decide),D.g0,D.g1,D.g2,D.ne⟩
theorem RD.ah4(D:RD h0 g gr rb l rc p is fs ms vp vi vf vm t hx){rows:List (List Value)}(hm:HO h0.size hx vm ms rows)(f:Fr (fun k=>vm.ownBlock=some k) hx hy){ms':List fj}{Zz:Value}{KU:List (List Value)}(O:HO h0.size hy Zz ms' KU):RD h0 g gr rb l rc p is fs ms' vp vi vf Zz t hy:=by
 have hS:∀k,k<hx.size→vm.ownBlock=some k→∃cs fz,hx[k]? =some (.cells cs 107 fz):=fun k _ hk=>(mJ hm.o k hk).2;exact⟨dG D.b f hS (by decide),⟨dG D.r.1 f hS (by decide),D.r.2⟩,da D.p f hS (by decide),da D.i f hS (by decide),da D.f f hS (by decide),⟨_,O⟩,
  D.tJ f (fun k _ hk=>(mJ hm.o k hk).1),dG D.z f hS (by decide),D.g0,D.g1,D.g2,D.ne⟩
end
theorem sO.sl{h:ar}{c:iP}{vp vi vf vm:Value}(H:sO h c vp vi vf vm):∃a1 c1 a2 c2 a3 c3 a4 c4,vp= .slice a1 c.pool.length c1∧vi= .slice a2 c.ifs.length c2∧vf= .slice a3 c.fields.length c3∧vm= .slice a4 c.methods.length c4:=by
 obtain⟨_,a1,c1,e1,_⟩:=H.p;obtain⟨_,a2,c2,e2,_⟩:=H.i;obtain⟨_,a3,c3,e3,_⟩:=H.f;obtain⟨_,_,⟨_,a4,c4,e4,_⟩,_⟩:=H.m;exact⟨a1,c1,a2,c2,a3,c3,a4,c4,e1,e2,e3,e4⟩
def jj(h0:ar)(X:iP × Nat × Nat)(v:Value)(h':ar):Prop:=
 Ext h0 h'∧∃vp vi vf vm,v= .tuple #[.agg (mP X.1 vp vi vf vm).toArray,ao X.2.1,ao X.2.2]∧sO h' X.1 vp vi vf vm
def aqS(l:az)(c:iP)(z:RS):iP × Nat × Nat:=mj (c,if z.p<l.length then cg 2 z.p z else z)
def tailA(p:List aX)(l:az)(c:iP)(s:RS):iP × Nat × Nat:=aqS l c (eS p l noT (aA l 2 s).1 () (aA l 2 s).2).2
def SQ(p:List aX)(l:az)(mi ma fl th su:Nat)(is:List Nat)(fs:List fC)(s:RS):iP × Nat × Nat:=
 tailA p l ⟨mi,ma,fl,th,su,p,is,fs,(eo (bT p l) (aA l 2 s).1 [] (aA l 2 s).2).1⟩ (eo (bT p l) (aA l 2 s).1 [] (aA l 2 s).2).2
def SR(p:List aX)(l:az)(mi ma fl th su:Nat)(is:List Nat)(s:RS):iP × Nat × Nat:=
 SQ p l mi ma fl th su is (eo (d7 p l) (aA l 2 s).1 [] (aA l 2 s).2).1 (eo (d7 p l) (aA l 2 s).1 [] (aA l 2 s).2).2
def ab3(p:List aX)(l:az)(mi ma fl th su:Nat)(s:RS):iP × Nat × Nat:=
 SR p l mi ma fl th su (eo (aA l 2) (aA l 2 s).1 [] (aA l 2 s).2).1 (eo (aA l 2) (aA l 2 s).1 [] (aA l 2 s).2).2
theorem PL(p:List aX)(l:az)(mi ma:Nat)(s:RS):
 ab3 p l mi ma (aA l 2 s).1 (aA l 2 (aA l 2 s).2).1 (aA l 2 (aA l 2 (aA l 2 s).2).2).1 (aA l 2 (aA l 2 (aA l 2 s).2).2).2=mj (jE p l mi ma s):=rfl
end
section
section
variable{h0 hx:ar}{g gr rb mi ma fl th su:Nat}{l:az}{p:List aX}{is:List Nat}{fs:List fC}{ms:List fj}{vp vi vf vm x6 x7 x8 x9 W1 Uj x21 x64 acP acQ ZA acR ah6:Value}{t:RS}{X:iP × Nat × Nat}
theorem acS(h:ar):sO h M3 nS nS nS nS:=
 ⟨⟨rfl,_,_,rfl, .inl rfl⟩,by simp[gH],⟨rfl,_,_,rfl, .inl rfl⟩,by simp[gH],⟨rfl,_,_,rfl, .inl rfl⟩,by simp[gH],⟨[],rfl,⟨rfl,_,_,rfl, .inl rfl⟩,fun j hj=>aww hj (awq j)⟩,by simp[gH]⟩
theorem ab4{h:ar}{b:Nat}{v:Value}{vs:List Value}{e:TypeId}{fz:Nat × Nat}(hb:h[b]? =some (.cells (v::vs).toArray e fz)):Rd h b 1 vs:=by
 intro j w hw;rw[au hb];simpa[Nat.add_comm]using hw
theorem ZB(D:RD h0 g gr rb l [ax mi,ax ma,ax fl,ax th,ax su,vp,vi,vf,vm] p is fs ms vp vi vf vm t hx)(hX:mj (⟨mi,ma,fl,th,su,p,is,fs,ms⟩,t)=X):
 Cd.vc Tryz.prog L0 (gP Tryz.prog [(2,some 96),(3,none),(4,none)] (jj h0 X)) [(0,str l),(2,aE rb),(3,ao 0),(4,ao 0),(5,aE g),(6, .pointer (some ⟨g,1,none⟩)),(9,x9),(175,ZA),(196,acR)] hx:=by
 rw[EY];have k0:=D.b.k0;simp only[bA,ae,seval,k0];refine aj rfl (YS D.r) ?_;rintro _ h1⟨rfl,rfl⟩;have hg2:=D.g2;by_cases he:t.e=0
 case neg=>
  have dH:¬(t.e:Int)=0:=by omega
  have hc:mj (⟨mi,ma,fl,th,su,p,is,fs,ms⟩,t)=(M3,t.e,t.es):=by unfold mj;rw[awa he]
  rw[←hX,hc];simp only[bA,ae,seval,av7 dH];refine aO jJ rfl rfl rfl (by simp[Value.cells,oneCell]) D.z rfl ?_;intro h2 f2 b2;have bm:=aS mR (aN (vs:=mP M3 nS nS nS nS) b2) rfl;simp only[mP,M3,Int.ofNat_zero]at bm;simp only[ae,seval,bm];exact⟨D.tJ f2 (fun k _ hk=>by omega),_,_,_,_,rfl,acS _⟩
 case pos=>
  have dH:(t.e:Int)=0:=by omega
  have hc:mj (⟨mi,ma,fl,th,su,p,is,fs,ms⟩,t)=(⟨mi,ma,fl,th,su,p,is,fs,ms⟩,0,0):=by unfold mj;rw[av9 (by simp[he])]
  rw[←hX,hc];have AR:=aS mR (ab4 D.b) rfl;simp only[bA,ae,seval,av8 dH,AR];obtain⟨rows,hm⟩:=D.m;obtain⟨a1,c1,rfl,_⟩:=D.p.dQ.2;obtain⟨a2,c2,rfl,_⟩:=D.i.dQ.2;obtain⟨a3,c3,rfl,_⟩:=D.f.dQ.2;obtain⟨a4,c4,rfl,_⟩:=hm.o.dQ.2;refine aO jJ rfl rfl rfl (by simp[Value.cells,oneCell]) D.z rfl ?_;intro h2 f2 b2;have bm:=aS mR (aN (vs:=mP ⟨mi,ma,fl,th,su,p,is,fs,ms⟩ (.slice a1 p.length c1) (.slice a2 is.length c2) (.slice a3 fs.length c3) (.slice a4 ms.length c4)) b2) rfl;simp only[mP]at bm;simp only[ae,seval,bm];have hS:∀k,k<h1.size→k=rb→∃cs fz,h1[k]? =some (.cells cs 96 fz):=fun k _ hk=>⟨_,_,hk▸D.z⟩;have q1:=da D.p f2 hS (by decide);have q2:=da D.i f2 hS (by decide);have q3:=da D.f f2 hS (by decide);have q4:=hm.keep f2 hS (by decide) (by decide);exact⟨D.tJ f2 (fun k _ hk=>by omega),_,_,_,_,rfl,⟨q1.dQ,q1.gH,q2.dQ,q2.gH,q3.dQ,q3.gH,q4.cls,q4.o.gH⟩⟩
theorem ah7(hl:l.length≤1073741824)(D:RD h0 g gr rb l [ax mi,ax ma,ax fl,ax th,ax su,vp,vi,vf,vm] p is fs ms vp vi vf vm t hx)(hX:tailA p l ⟨mi,ma,fl,th,su,p,is,fs,ms⟩ t=X):
 Cd.vc Tryz.prog L4 (gP Tryz.prog [(2,some 96),(3,none),(4,none)] (jj h0 X)) [(0,str l),(2,aE rb),(3,ao 0),(4,ao 0),(5,aE g),(6, .pointer (some ⟨g,1,none⟩)),(9,x9),(175,ZA)] hx:=by
 rw[EZ];simp only[bA,ae,seval];refine aj rfl (pw p vp noT 81 #[] (fun _ hh=>eW gr hx hh) hl (by decide+kernel) (rc:=[ax mi,ax ma,ax fl,ax th,ax su,vp,vi,vf,vm]) rfl (fun x hh f=>⟨((D.cr rfl).cY f).rd,((D.cr rfl).cY f).pl⟩) (fun x hh hh' a b=>a.trans' b) ?_ () (eW.ext (Ext.refl _)) D.r) ?_
 ·intro hh name q n x s1 hx1 hr he hq hn
  refine Az (args:=[str name,ao q,ao n]) rfl ?_;simp only[Ff,ae,seval];exact⟨rfl,hx1,hr⟩
 rintro _ h1⟨f1,r1⟩;have D1:=D.cY f1 r1;generalize hz:(eS p l noT (aA l 2 t).1 () (aA l 2 t).2).2=z at*;have qm:mj (⟨mi,ma,fl,th,su,p,is,fs,ms⟩,if z.p<l.length then cg 2 z.p z else z)=X:=by rw[←hX,←hz];rfl
 have k0:=D1.b.k0;simp only[bA,ae,seval,k0];refine aj rfl (Oh hl D1.r) ?_;rintro _ h2⟨rfl,rfl⟩;by_cases aV:z.p<l.length
 ·have q:(0:Int)<((l.length-z.p:Nat):Int):=by omega
  rw[awa aV]at qm;simp only[bA,ae,seval,q,k0];refine aj rfl (xh D1.r) ?_;rintro _ h3⟨rfl,rfl⟩;simp only[ae,seval,k0];refine aj rfl (fA 2 z.p D1.r) ?_;rintro _ h4⟨f4,r4⟩;simp only[ae,seval];exact ZB (D1.cY f4 r4) qm
 ·have q:¬(0:Int)<((l.length-z.p:Nat):Int):=by omega
  rw[av9 aV]at qm;simp only[ae,seval,q];exact ZB D1 qm
theorem ah8(hl:l.length≤1073741824)(D:RD h0 g gr rb l [ax mi,ax ma,ax fl,ax th,ax su,vp,vi,vf,nS] p is fs [] vp vi vf nS t hx)(hX:SQ p l mi ma fl th su is fs t=X):
 Cd.vc Tryz.prog L5 (gP Tryz.prog [(2,some 96),(3,none),(4,none)] (jj h0 X)) [(0,str l),(2,aE rb),(3,ao 0),(4,ao 0),(5,aE g),(6, .pointer (some ⟨g,1,none⟩)),(8,x8),(147,acQ)] hx:=by
 rw[E7];have k0:=D.b.k0;simp only[bA,ae,seval,k0];refine aj rfl (dU 2 hl (by omega) D.r) ?_;rintro _ h1⟨f1,r1,rfl⟩;have D1:=D.cY f1 r1;have hk:= @dJ l 2 t;simp only[Nat.reducePow]at hk;obtain⟨K,hK⟩:∃K,K=aA l 2 t:=⟨_,rfl⟩;rw[←hK]at r1 hk D1⊢;obtain⟨R,vG⟩:∃R,R=eo (bT p l) K.1 [] K.2:=⟨_,rfl⟩;have qm:tailA p l ⟨mi,ma,fl,th,su,p,is,fs,R.1⟩ R.2=X:=by rw[←hX,vG,hK];rfl
 simp only[ae,seval];refine aG [0,2,3,4,5,6,9] (fun m ρ hc=>∃(k:Nat)(xs:List fj)(w:Value)(u:RS),m=k∧xs.length+k≤65535∧ρ=[(0,str l),(2,aE rb),(3,ao 0),(4,ao 0),(5,aE g),(6, .pointer (some ⟨g,1,none⟩)),(9,ao k)]∧
  RD h0 g gr rb l [ax mi,ax ma,ax fl,ax th,ax su,vp,vi,vf,w] p is fs xs vp vi vf w u hc∧eo (bT p l) k xs u=R) ?_ ?_
 ·simp only[ae,seval]
  exact⟨_,K.1,[],_,K.2,rfl,by simp;omega,rfl,D1,vG.symm⟩
 rintro m ρ hc⟨k,xs,w,u,rfl,mY,rfl,Dx,hL⟩;have k0:=Dx.b.k0;have ru:=Dx.r;refine Or.elim (Classical.em (0<m∧u.e=0)) (fun hgo=>?vI) (fun hgo=>?Qx)
 case vI=>
  obtain⟨pT,he⟩:=hgo;obtain⟨j,rfl⟩:∃j,m=j+1:=⟨m-1,by omega⟩;have jS:(0:Int)<((j+1:Nat):Int):=by omega
  have dH:(decide (u.e≠0))=false:=by simp[he]
  rw[eo,av9 (by simp[he])]at hL;simp only[bA,ae,seval,jS,k0];refine aj rfl (jB ru) ?_;rintro _ hd⟨rfl,rfl⟩;have k7:cellAt hd ⟨g,9,none⟩=some w:=by rw[show 9=8+1 from rfl,Dx.cell];rfl
  simp only[bA,ae,seval,dH,k7];refine aj rfl (ahV hl (Dx.cr rfl) ru) ?_;rintro _ h4⟨f4,r4,wH,rfl,PK⟩;have D4:=Dx.cY f4 r4;have SP:=PK.mono Dx.x.size;obtain⟨aH,cH,rfl,_⟩:=PK.dQ.2;have k7:cellAt h4 ⟨g,9,none⟩=some w:=by rw[show 9=8+1 from rfl,D4.cell];rfl
  have hx:fQ (bT p l u).1 (.slice aH (bT p l u).1.code.hs.length cH)=[ax ((bT p l u).1.flags:Int),ax ((bT p l u).1.name:Int),ax ((bT p l u).1.type:Int), .bool (bT p l u).1.has,ao (bT p l u).1.code.maxS,ao (bT p l u).1.code.fF,str (bT p l u).1.code.bytes, .slice aH (bT p l u).1.code.hs.length cH,str (bT p l u).1.code.map]:=rfl;rw[hx];simp only[ae,seval,k7];refine aU pO rfl rfl (by decide) ?_;have ex:Ext h4 (h4.push (.cells (fQ (bT p l u).1 (.slice aH (bT p l u).1.code.hs.length cH)).toArray 107)):=Ext.push _ _;have ba:(h4.push (.cells (fQ (bT p l u).1 (.slice aH (bT p l u).1.code.hs.length cH)).toArray 107))[h4.size]? =some (.cells (fQ (bT p l u).1 (.slice aH (bT p l u).1.code.hs.length cH)).toArray 107 (0,0)):=by simp
  have D5:=D4.cY (eW.ext ex) (D4.r.fr ex id);rw[hx]at ex ba D5;simp only[ae,seval];refine⟨by rw[show 9=8+1 from rfl,D5.cell];rfl,?_⟩;generalize h4.push _=z5,h4.size=lb at*;rw[←hx]at ba;have pB:fR z5 9 (.slice (some ⟨lb,0,none⟩) 1 1) 1 (fQ (bT p l u).1 (.slice aH (bT p l u).1.code.hs.length cH)):=⟨rfl,_,_,rfl, .inr ⟨lb,0,rfl,aN ba⟩⟩;obtain⟨rows,hm⟩:=D5.m;have ab5:=SP.ext ex;refine gO (m:=1) (news:=(fQ (bT p l u).1 (.slice aH (bT p l u).1.code.hs.length cH))) pO rfl rfl hm.o pB (abE rfl) (by first|omega|(simp only;omega)) (by first|omega|(simp only;omega)) D5.x.size ?_;intro v6 z6 kx f6;have D6:=D5.ah4 hm f6 (hm.snoc ab5 f6 kx);obtain⟨a6,c6,rfl,_⟩:=kx.dQ.2;have SS:cellAt z6 ⟨g,9,none⟩=some w:=by rw[show 9=8+1 from rfl,D6.cell];rfl
  simp only[ae,seval];refine aC UI rfl rfl rfl rfl rfl SS (D6.frozen _) ?_;have D7:=D6.set 8 (.slice a6 (xs.length+1) c6);have hw:IntKind.i64.wrap (((j+1:Nat):Int)-1)=(j:Int):=by rw[wrap_i64 (by omega) (by omega)];omega
  simp only[bA,ae,seval,hw];exact⟨_,by omega,j,xs++[(bT p l u).1],_,_,rfl,by simp;omega,rfl,D7,hL⟩
 have yh:R=(xs,u):=by
  rw[←hL];rcases Nat.eq_zero_or_pos m with h0|h0
  ·subst h0;rfl
  ·exact mH (fun he=>hgo ⟨h0,he⟩)
 rw[yh]at qm;refine Or.elim (Classical.em (m=0)) (fun h0=>?ccG) (fun h0=>?yj)
 case' ccG=>
  have hz:¬(0:Int)<(m:Int):=by omega
  simp only[bA,ae,seval,hz]
 case' yj=>
  have hz:(0:Int)<(m:Int):=by omega
  simp only[bA,ae,seval,hz,k0];refine aj rfl (jB ru) ?_;rintro _ hd⟨e1,rfl⟩;rw[e1];have dH:(decide (u.e≠0))=true:=awh (fun he=>hgo ⟨by omega,he⟩);simp only[ae,seval,dH]
 all_goals
  exact ah7 hl Dx qm
theorem ah9(hl:l.length≤1073741824)(D:RD h0 g gr rb l [ax mi,ax ma,ax fl,ax th,ax su,vp,vi,nS,nS] p is [] [] vp vi nS nS t hx)(hX:SR p l mi ma fl th su is t=X):
 Cd.vc Tryz.prog L6 (gP Tryz.prog [(2,some 96),(3,none),(4,none)] (jj h0 X)) [(0,str l),(2,aE rb),(3,ao 0),(4,ao 0),(5,aE g),(6, .pointer (some ⟨g,1,none⟩)),(7,x7),(116,acP)] hx:=by
 rw[E8];have k0:=D.b.k0;simp only[bA,ae,seval,k0];refine aj rfl (dU 2 hl (by omega) D.r) ?_;rintro _ h1⟨f1,r1,rfl⟩;have D1:=D.cY f1 r1;have hk:= @dJ l 2 t;simp only[Nat.reducePow]at hk;obtain⟨K,hK⟩:∃K,K=aA l 2 t:=⟨_,rfl⟩;rw[←hK]at r1 hk D1⊢;obtain⟨R,vG⟩:∃R,R=eo (d7 p l) K.1 [] K.2:=⟨_,rfl⟩;have qm:SQ p l mi ma fl th su is R.1 R.2=X:=by rw[←hX,vG,hK];rfl
 simp only[ae,seval];refine aG [0,2,3,4,5,6,8] (fun m ρ hc=>∃(k:Nat)(xs:List fC)(w:Value)(u:RS),m=k∧xs.length+k≤65535∧ρ=[(0,str l),(2,aE rb),(3,ao 0),(4,ao 0),(5,aE g),(6, .pointer (some ⟨g,1,none⟩)),(8,ao k)]∧
  RD h0 g gr rb l [ax mi,ax ma,ax fl,ax th,ax su,vp,vi,w,nS] p is xs [] vp vi w nS u hc∧eo (d7 p l) k xs u=R) ?_ ?_
 ·simp only[ae,seval]
  exact⟨_,K.1,[],_,K.2,rfl,by simp;omega,rfl,D1,vG.symm⟩
 rintro m ρ hc⟨k,xs,w,u,rfl,mY,rfl,Dx,hL⟩;have k0:=Dx.b.k0;have ru:=Dx.r;refine Or.elim (Classical.em (0<m∧u.e=0)) (fun hgo=>?vI) (fun hgo=>?Qx)
 case vI=>
  obtain⟨pT,he⟩:=hgo;obtain⟨j,rfl⟩:∃j,m=j+1:=⟨m-1,by omega⟩;have jS:(0:Int)<((j+1:Nat):Int):=by omega
  have dH:(decide (u.e≠0))=false:=by simp[he]
  rw[eo,av9 (by simp[he])]at hL;simp only[bA,ae,seval,jS,k0];refine aj rfl (jB ru) ?_;rintro _ hd⟨rfl,rfl⟩;have k7:cellAt hd ⟨g,8,none⟩=some w:=by rw[show 8=7+1 from rfl,Dx.cell];rfl
  simp only[bA,ae,seval,dH,k7];refine aj rfl (ahQ hl (Dx.cr rfl) ru) ?_;rintro _ h4⟨f4,r4,rfl⟩;have D4:=Dx.cY f4 r4;have k7:cellAt h4 ⟨g,8,none⟩=some w:=by rw[show 8=7+1 from rfl,D4.cell];rfl
  have hx:(d7 p l u).1.cells=[ax ((d7 p l u).1.flags:Int),ax ((d7 p l u).1.name:Int),ax ((d7 p l u).1.type:Int),ax ((d7 p l u).1.value:Int)]:=rfl;rw[hx];simp only[ae,seval,k7];refine aU pN rfl rfl (by decide) ?_;have ex:Ext h4 (h4.push (.cells (d7 p l u).1.cells.toArray 103)):=Ext.push _ _;have ba:(h4.push (.cells (d7 p l u).1.cells.toArray 103))[h4.size]? =some (.cells (d7 p l u).1.cells.toArray 103 (0,0)):=by simp
  have D5:=D4.cY (eW.ext ex) (D4.r.fr ex id);rw[hx]at ex ba D5;simp only[ae,seval];refine⟨by rw[show 8=7+1 from rfl,D5.cell];rfl,?_⟩;generalize h4.push _=z5,h4.size=lb at*;rw[←hx]at ba;have pB:fR z5 4 (.slice (some ⟨lb,0,none⟩) 1 1) 1 (d7 p l u).1.cells:=⟨rfl,_,_,rfl, .inr ⟨lb,0,rfl,aN ba⟩⟩;refine gO (m:=1) (news:=(d7 p l u).1.cells) pN rfl rfl D5.f pB (fun w hw=>ahl [(d7 p l u).1] w (by simpa[vr]using hw)) (by first|omega|(simp only;omega)) (by first|omega|(simp only;omega)) D5.x.size ?_;intro v6 z6 kx f6;have D6:=D5.ah1 f6 (fs':=xs++[(d7 p l u).1]) (dR kx (by simp) (by simp[vr]));obtain⟨a6,c6,rfl,_⟩:=kx.dQ.2;have SS:cellAt z6 ⟨g,8,none⟩=some w:=by rw[show 8=7+1 from rfl,D6.cell];rfl
  simp only[ae,seval];refine aC UH rfl rfl rfl rfl rfl SS (D6.frozen _) ?_;have D7:=D6.set 7 (.slice a6 (xs.length+1) c6);have hw:IntKind.i64.wrap (((j+1:Nat):Int)-1)=(j:Int):=by rw[wrap_i64 (by omega) (by omega)];omega
  simp only[bA,ae,seval,hw];exact⟨_,by omega,j,xs++[(d7 p l u).1],_,_,rfl,by simp;omega,rfl,D7,hL⟩
 have yh:R=(xs,u):=by
  rw[←hL];rcases Nat.eq_zero_or_pos m with h0|h0
  ·subst h0;rfl
  ·exact mH (fun he=>hgo ⟨h0,he⟩)
 rw[yh]at qm;refine Or.elim (Classical.em (m=0)) (fun h0=>?ccG) (fun h0=>?yj)
 case' ccG=>
  have hz:¬(0:Int)<(m:Int):=by omega
  simp only[bA,ae,seval,hz]
 case' yj=>
  have hz:(0:Int)<(m:Int):=by omega
  simp only[bA,ae,seval,hz,k0];refine aj rfl (jB ru) ?_;rintro _ hd⟨e1,rfl⟩;rw[e1];have dH:(decide (u.e≠0))=true:=awh (fun he=>hgo ⟨by omega,he⟩);simp only[ae,seval,dH]
 all_goals
  exact ah8 hl Dx qm
theorem aia(hl:l.length≤1073741824)(D:RD h0 g gr rb l [ax mi,ax ma,ax fl,ax th,ax su,vp,nS,nS,nS] p [] [] [] vp nS nS nS t hx)(hX:ab3 p l mi ma fl th su t=X):
 Cd.vc Tryz.prog L8 (gP Tryz.prog [(2,some 96),(3,none),(4,none)] (jj h0 X)) [(0,str l),(2,aE rb),(3,ao 0),(4,ao 0),(5,aE g),(6, .pointer (some ⟨g,1,none⟩)),(7,x7),(8,x8),(9,x9),(10,W1),(11,Uj),(21,x21),(64,x64),(116,acP),(147,acQ),(175,ZA),(196,acR),(216,ah6)] hx:=by
 rw[Fa];have k0:=D.b.k0;simp only[bA,ae,seval,k0];refine aj rfl (dU 2 hl (by omega) D.r) ?_;rintro _ h1⟨f1,r1,rfl⟩;have D1:=D.cY f1 r1;have hk:= @dJ l 2 t;simp only[Nat.reducePow]at hk;obtain⟨K,hK⟩:∃K,K=aA l 2 t:=⟨_,rfl⟩;rw[←hK]at r1 hk D1⊢;obtain⟨R,vG⟩:∃R,R=eo (aA l 2) K.1 [] K.2:=⟨_,rfl⟩;have qm:SR p l mi ma fl th su R.1 R.2=X:=by rw[←hX,vG,hK];rfl
 simp only[ae,seval];refine aG [0,2,3,4,5,6,7] (fun m ρ hc=>∃(k:Nat)(xs:List Nat)(w:Value)(u:RS),m=k∧xs.length+k≤65535∧ρ=[(0,str l),(2,aE rb),(3,ao 0),(4,ao 0),(5,aE g),(6, .pointer (some ⟨g,1,none⟩)),(7,ao k)]∧
  RD h0 g gr rb l [ax mi,ax ma,ax fl,ax th,ax su,vp,w,nS,nS] p xs [] [] vp w nS nS u hc∧eo (aA l 2) k xs u=R) ?_ ?_
 ·simp only[ae,seval]
  exact⟨_,K.1,[],_,K.2,rfl,by simp;omega,rfl,D1,vG.symm⟩
 rintro m ρ hc⟨k,xs,w,u,rfl,mY,rfl,Dx,hL⟩;have k0:=Dx.b.k0;have ru:=Dx.r;refine Or.elim (Classical.em (0<m∧u.e=0)) (fun hgo=>?vI) (fun hgo=>?Qx)
 case vI=>
  obtain⟨pT,he⟩:=hgo;obtain⟨j,rfl⟩:∃j,m=j+1:=⟨m-1,by omega⟩;have jS:(0:Int)<((j+1:Nat):Int):=by omega
  have dH:(decide (u.e≠0))=false:=by simp[he]
  rw[eo,av9 (by simp[he])]at hL;simp only[bA,ae,seval,jS,k0];refine aj rfl (jB ru) ?_;rintro _ hd⟨rfl,rfl⟩;have k7:cellAt hd ⟨g,7,none⟩=some w:=by rw[show 7=6+1 from rfl,Dx.cell];rfl
  simp only[bA,ae,seval,dH,k0,k7];refine aj rfl (ei hl ru) ?_;rintro _ h4⟨f4,r4,rfl⟩;have D4:=Dx.cY f4 r4;have k7:cellAt h4 ⟨g,7,none⟩=some w:=by rw[show 7=6+1 from rfl,D4.cell];rfl
  simp only[ae,seval,k7];refine aU fL rfl rfl (by decide) ?_;have ex:Ext h4 (h4.push (.cells [ax ((aA l 2 u).1:Int)].toArray 40)):=Ext.push _ _;have ba:(h4.push (.cells [ax ((aA l 2 u).1:Int)].toArray 40))[h4.size]? =some (.cells [ax ((aA l 2 u).1:Int)].toArray 40 (0,0)):=by simp
  have D5:=D4.cY (eW.ext ex) (D4.r.fr ex id);simp only[ae,seval];refine⟨by rw[show 7=6+1 from rfl,D5.cell];rfl,?_⟩;generalize h4.push _=z5,h4.size=lb at*;have pB:fR z5 1 (.slice (some ⟨lb,0,none⟩) 1 1) 1 [ax ((aA l 2 u).1:Int)]:=⟨rfl,_,_,rfl, .inr ⟨lb,0,rfl,aN ba⟩⟩;refine gO (m:=1) (news:=[ax ((aA l 2 u).1:Int)]) fL rfl rfl D5.i pB (fun w hw=>by simp at hw;subst hw;rfl) (by first|omega|(simp only;omega)) (by first|omega|(simp only;omega)) D5.x.size ?_;intro v6 z6 kx f6;have D6:=D5.ahZ f6 (is':=xs++[(aA l 2 u).1]) (dR kx (by simp) (by simp[Cq]));obtain⟨a6,c6,rfl,_⟩:=kx.dQ.2;have SS:cellAt z6 ⟨g,7,none⟩=some w:=by rw[show 7=6+1 from rfl,D6.cell];rfl
  simp only[ae,seval];refine aC N2 rfl rfl rfl rfl rfl SS (D6.frozen _) ?_;have D7:=D6.set 6 (.slice a6 (xs.length+1) c6);have hw:IntKind.i64.wrap (((j+1:Nat):Int)-1)=(j:Int):=by rw[wrap_i64 (by omega) (by omega)];omega
  simp only[bA,ae,seval,hw];exact⟨_,by omega,j,xs++[(aA l 2 u).1],_,_,rfl,by simp;omega,rfl,D7,hL⟩
 have yh:R=(xs,u):=by
  rw[←hL];rcases Nat.eq_zero_or_pos m with h0|h0
  ·subst h0;rfl
  ·exact mH (fun he=>hgo ⟨h0,he⟩)
 rw[yh]at qm;refine Or.elim (Classical.em (m=0)) (fun h0=>?ccG) (fun h0=>?yj)
 case' ccG=>
  have hz:¬(0:Int)<(m:Int):=by omega
  simp only[bA,ae,seval,hz]
 case' yj=>
  have hz:(0:Int)<(m:Int):=by omega
  simp only[bA,ae,seval,hz,k0];refine aj rfl (jB ru) ?_;rintro _ hd⟨e1,rfl⟩;rw[e1];have dH:(decide (u.e≠0))=true:=awh (fun he=>hgo ⟨by omega,he⟩);simp only[ae,seval,dH]
 all_goals
  exact ah9 hl Dx qm
theorem RD.anV{rc:List Value}{q:List aX}{vq:Value}(D:RD h0 g gr rb l rc p is fs ms vp vi vf vm t hx)(O:Own hx h0.size 160 5 vq q.length (du q)):RD h0 g gr rb l rc q is fs ms vq vi vf vm t hx:=
 ⟨D.b,D.r,O,D.i,D.f,D.m,D.x,D.z,D.g0,D.g1,D.g2,D.ne⟩
theorem GD(hl:l.length≤1073741824)(D:RD h0 g gr rb l [ax mi,ax ma,ax 0,ax 0,ax 0,nS,nS,nS,nS] [] [] [] [] nS nS nS nS t hx)(hX:mj (jE (hE l t).1 l mi ma (hE l t).2)=X):
 Cd.vc Tryz.prog L9 (gP Tryz.prog [(2,some 96),(3,none),(4,none)] (jj h0 X)) [(0,str l),(2,aE rb),(3,ao 0),(4,ao 0),(5,aE g),(6, .pointer (some ⟨g,1,none⟩)),(7,x7),(8,x8),(9,x9),(10,W1),(11,Uj),(21,x21),(64,x64),(116,acP),(147,acQ),(175,ZA),(196,acR),(216,ah6)] hx:=by
 rw[Fb];have k0:=D.b.k0;simp only[bA,ae,seval,k0];refine aj rfl (aev hl D.r) ?_;rintro v h1⟨f1,Gf,r1⟩;have D1':=D.cY f1 r1;have D1:=D1'.anV (Gf.mono D.x.size);obtain⟨P,hP⟩:∃P,P=hE l t:=⟨_,rfl⟩;rw[←hP]at hX D1 r1;obtain⟨ap,cp,rfl,_⟩:=D1.p.dQ.2;have k5:cellAt h1 ⟨g,6,none⟩=some nS:=by rw[show 6=5+1 from rfl,D1.cell];rfl
 simp only[ae,seval];refine aC NY rfl rfl rfl rfl rfl k5 (D1.frozen _) ?_;have D2:=D1.set 5 (.slice ap P.1.length cp);generalize setAt h1 ⟨g,5+1,none⟩ (.slice ap P.1.length cp)=h2 at*;have D2:RD h0 g gr rb l [ax mi,ax ma,ax 0,ax 0,ax 0,(.slice ap P.1.length cp),nS,nS,nS] P.1 [] [] [] (.slice ap P.1.length cp) nS nS nS P.2 h2:=D2;generalize Value.slice ap P.1.length cp=vp at*;have k0:=D2.b.k0;simp only[bA,ae,seval,k0];refine aj rfl (ei hl D2.r) ?_;rintro _ h3⟨f3,r3,rfl⟩;have D3:=D2.cY f3 r3;have k0:=D3.b.k0;simp only[ae,seval,k0];refine aj rfl (ei hl D3.r) ?_;rintro _ h4⟨f4,r4,rfl⟩;have D4:=D3.cY f4 r4;have k0:=D4.b.k0;simp only[ae,seval,k0];refine aj rfl (ei hl D4.r) ?_;rintro _ h5⟨f5,r5,rfl⟩;have D5:=D4.cY f5 r5;have k0:=D5.b.k0;have e1:cellAt h5 ⟨g,3,none⟩=some (ax 0):=by rw[show 3=2+1 from rfl,D5.cell];rfl
 simp only[ae,seval];refine aC eN rfl rfl rfl rfl rfl e1 (D5.frozen _) ?_;have D6:=D5.set 2 (ax ((aA l 2 P.2).1:Int));generalize setAt h5 ⟨g,2+1,none⟩ _=h6 at*;have e1:cellAt h6 ⟨g,4,none⟩=some (ax 0):=by rw[show 4=3+1 from rfl,D6.cell];rfl
 simp only[ae,seval];refine aC eN rfl rfl rfl rfl rfl e1 (D6.frozen _) ?_;have D7:=D6.set 3 (ax ((aA l 2 (aA l 2 P.2).2).1:Int));generalize setAt h6 ⟨g,3+1,none⟩ _=h7 at*;have e1:cellAt h7 ⟨g,5,none⟩=some (ax 0):=by rw[show 5=4+1 from rfl,D7.cell];rfl
 simp only[ae,seval];refine aC eN rfl rfl rfl rfl rfl e1 (D7.frozen _) ?_;have D8:=D7.set 4 (ax ((aA l 2 (aA l 2 (aA l 2 P.2).2).2).1:Int));simp only[ae,seval];exact aia hl D8 ((PL P.1 l mi ma P.2).trans hX)
theorem ZC(hl:l.length≤1073741824)(D:RD h0 g gr rb l [ax 0,ax 0,ax 0,ax 0,ax 0,nS,nS,nS,nS] [] [] [] [] nS nS nS nS t hx)(a b:Nat)(s2:RS)(ha:a=(aA l 2 t).1)(hb:b=(aA l 2 (aA l 2 t).2).1)
 (hs:s2=if(b=50∨b=51)∧a=0 then(aA l 2 (aA l 2 t).2).2 else cg 4 4 (aA l 2 (aA l 2 t).2).2)(hX:mj (jE (hE l s2).1 l a b (hE l s2).2)=X):
 Cd.vc Tryz.prog Ma (gP Tryz.prog [(2,some 96),(3,none),(4,none)] (jj h0 X)) [(0,str l),(2,aE rb),(3,ao 0),(4,ao 0),(5,aE g),(6,x6),(7,x7),(8,x8),(9,x9),(10,W1),(11,Uj),(21,x21),(64,x64),(116,acP),(147,acQ),(175,ZA),(196,acR),(216,ah6)] hx:=by
 rw[Fe];have k0:=D.b.k0;simp only[bA,ae,seval,k0];refine aj rfl (ei hl D.r) ?_;rintro _ h3⟨f3,r3,rfl⟩;have D3:=D.cY f3 r3;have k0:=D3.b.k0;simp only[ae,seval,k0];refine aj rfl (ei hl D3.r) ?_;rintro _ h4⟨f4,r4,rfl⟩;have D4:=D3.cY f4 r4;have k0:=D4.b.k0;have e1:cellAt h4 ⟨g,1,none⟩=some (ax 0):=by rw[show 1=0+1 from rfl,D4.cell];rfl
 rw[←ha,←hb];simp only[ae,seval];refine aC eN rfl rfl rfl rfl rfl e1 (D4.frozen _) ?_;have D6:=D4.set 0 (ax a);generalize setAt h4 ⟨g,0+1,none⟩ _=h6 at*;have e1:cellAt h6 ⟨g,2,none⟩=some (ax 0):=by rw[show 2=1+1 from rfl,D6.cell];rfl
 simp only[ae,seval];refine aC eN rfl rfl rfl rfl rfl e1 (D6.frozen _) ?_;have D7:=D6.set 1 (ax b);generalize setAt h6 ⟨g,1+1,none⟩ _=h7 at*;have c1:cellAt h7 ⟨g,1,none⟩=some (ax a):=by rw[show 1=0+1 from rfl,D7.cell];rfl
 have c2:cellAt h7 ⟨g,2,none⟩=some (ax b):=by rw[show 2=1+1 from rfl,D7.cell];rfl
 have k0:=D7.b.k0;by_cases h50:b=50
 ·have i50:(b:Int)=50:=by omega
  by_cases h0:a=0
  ·have i0:(a:Int)=0:=by omega
   rw[awa ⟨.inl h50,h0⟩]at hs;subst hs;simp only[bA,ae,seval,c1,c2,av8 i50,av8 i0];exact GD hl D7 hX
  ·have i0:¬(a:Int)=0:=by omega
   rw[av9 (fun hh=>h0 hh.2)]at hs;subst hs;simp only[bA,ae,seval,k0,c1,c2,av8 i50,av7 i0];refine aj rfl (fA 4 4 D7.r) ?_;rintro _ h8⟨f8,r8⟩;have D8:=D7.cY f8 r8;simp only[ae,seval];exact GD hl D8 hX
 ·have i50:¬(b:Int)=50:=by omega
  by_cases h51:b=51
  ·have i51:(b:Int)=51:=by omega
   by_cases h0:a=0
   ·have i0:(a:Int)=0:=by omega
    rw[awa ⟨.inr h51,h0⟩]at hs;subst hs;simp only[bA,ae,seval,c1,c2,av7 i50,av8 i51,av8 i0];exact GD hl D7 hX
   ·have i0:¬(a:Int)=0:=by omega
    rw[av9 (fun hh=>h0 hh.2)]at hs;subst hs;simp only[bA,ae,seval,k0,c1,c2,av7 i50,av8 i51,av7 i0];refine aj rfl (fA 4 4 D7.r) ?_;rintro _ h8⟨f8,r8⟩;have D8:=D7.cY f8 r8;simp only[ae,seval];exact GD hl D8 hX
  ·have i51:¬(b:Int)=51:=by omega
   rw[av9 (fun hh=>hh.1.elim h50 h51)]at hs;subst hs;simp only[bA,ae,seval,k0,c2,av7 i50,av7 i51];refine aj rfl (fA 4 4 D7.r) ?_;rintro _ h8⟨f8,r8⟩;have D8:=D7.cY f8 r8;simp only[ae,seval];exact GD hl D8 hX
theorem aeE(l:az)(h:ar)(hl:l.length≤1073741824):aF Tryz.prog 34 #[str l] h (jj h (kT l)):=by
 refine EX (args:=[str l]) rfl ?_;simp only[bA,ae,seval];refine aD jJ ?_;have e1:Ext h (h.push (.cells GB 96)):=Ext.push _ _;have b1:(h.push (.cells GB 96))[h.size]? =some (.cells GB 96 (0,0)):=by simp
 simp only[bA,ae,seval];change li _ _ _ _ _ (h.push (.cells GB 96)) _;generalize h.push _=h1 at*;refine aj rfl (Gd l h1) ?_;rintro _ h2⟨e2,rfl,r2,aV⟩;have b2:=ay e2 b1 id;have xW:=e1.size;have Oq:=(awd.1 b1).1;generalize h1.size=gr at*;simp only[ae,seval];refine cT ?_;have e3:Ext h2 (h2.push (.cells (Value.pointer (some ⟨gr,0,none⟩)::[ax 0,ax 0,ax 0,ax 0,ax 0,nS,nS,nS,nS]).toArray 143)):=Ext.push _ _;have b3:(h2.push (.cells (Value.pointer (some ⟨gr,0,none⟩)::[ax 0,ax 0,ax 0,ax 0,ax 0,nS,nS,nS,nS]).toArray 143))[h2.size]? =some (.cells (Value.pointer (some ⟨gr,0,none⟩)::[ax 0,ax 0,ax 0,ax 0,ax 0,nS,nS,nS,nS]).toArray 143 (0,0)):=by simp
 simp only[bA,ae,seval];have D0:RD h h2.size gr h.size l [ax 0,ax 0,ax 0,ax 0,ax 0,nS,nS,nS,nS] [] [] [] [] nS nS nS nS ⟨0,0,0⟩ (h2.push (.cells (Value.pointer (some ⟨gr,0,none⟩)::[ax 0,ax 0,ax 0,ax 0,ax 0,nS,nS,nS,nS]).toArray 143)):=
  ⟨b3,r2.fr e3 id,Own.nil,Own.nil,Own.nil,⟨[],rfl,Own.nil,fun j hj=>aww hj (awq j)⟩,(e1.trans e2).trans e3,ay e3 b2 id,by have:=e2.size;omega,by omega,awp _,by omega⟩
 generalize h2.push _=h3 at*;generalize h2.size=g at*;have k0:=D0.b.k0;simp only[ae,seval,k0];refine aj rfl (dU 4 hl (by omega) D0.r) ?_;rintro _ h4⟨f4,r4,rfl⟩;have D4:=D0.cY f4 r4;have k0:=D4.b.k0;by_cases hm:(aA l 4 ⟨0,0,0⟩).1=3405691582
 ·have Gz:((aA l 4 ⟨0,0,0⟩).1:Int)=3405691582:=by omega
  simp only[ae,seval,av8 Gz];refine ZC hl D4 _ _ _ rfl rfl rfl ?_;unfold kT oF;simp only[awa hm]
 ·have Gz:¬((aA l 4 ⟨0,0,0⟩).1:Int)=3405691582:=by omega
  simp only[bA,ae,seval,av7 Gz,k0];refine aj rfl (fA 3 0 D4.r) ?_;rintro _ h5⟨f5,r5⟩;simp only[ae,seval];refine ZC hl (D4.cY f5 r5) _ _ _ rfl rfl rfl ?_;unfold kT oF;simp only[av9 hm]
end
end
section
structure RG(hx:ar)(g gc:Nat)(l:az)(p:List aX)(vp:Value)(t:RS):Prop where
 q:hx[g]? =some (.cells #[aE gc,vp] 172 (0,0))
 r:iK hx gc l t
 p:fR hx 5 vp p.length (du p)
 nb:¬vp.ownBlock=some gc
 ne:g≠gc
section
variable{h hx:ar}{g gc:Nat}{l:az}{p:List aX}{vp:Value}{t u:RS}
theorem RG.cY(D:RG h g gc l p vp t)(f:eW gc h hx)(r:iK hx gc l u):RG hx g gc l p vp u:=
 ⟨ay f D.q D.ne,r,D.p.fr (by decide) f (fun k _ hk hS=>D.nb (by rw[hk,hS])),D.nb,D.ne⟩
theorem RG.k0(D:RG h g gc l p vp t):cellAt h ⟨g,0,none⟩=some (aE gc):=by rw[au D.q];rfl
theorem RG.k1(D:RG h g gc l p vp t):cellAt h ⟨g,1,none⟩=some vp:=by rw[au D.q];rfl
theorem RG.fr{S:Nat→Prop}(D:RG h g gc l p vp t)(f:Fr S h hx)(h1:¬S g)(h2:¬S gc)(h3:∀k,k<h.size→vp.ownBlock=some k→¬S k):RG hx g gc l p vp t:=
 ⟨ay f D.q h1,D.r.fr f h2,D.p.fr (by decide) f h3,D.nb,D.ne⟩
theorem iq(hl:l.length≤1073741824)(D:RG h g gc l p vp t):
 aF Tryz.prog 92 #[aE g] h fun v h'=>eW gc h h'∧iK h' gc l (aA l 2 t).2∧v=ax (aA l 2 t).1:=by
 refine Kl (args:=[aE g]) rfl ?_;have k0:=D.k0;simp only[NM,ae,seval,k0];refine aj rfl (gM 2 hl (by omega) D.r) ?_;rintro _ h1⟨f1,r1,rfl⟩;have hn:= @dJ l 2 t;simp only[Nat.reducePow]at hn;have hw:IntKind.u16.wrap ((aA l 2 t).1:Int)=((aA l 2 t).1:Int):=wrap_u16 (by omega) (by omega);simp only[ae,seval,hw];exact⟨f1,r1⟩
structure aqT(p:List aX)(l:az)(t:RS)(nm:az)(en:Int):Prop where
 bad:(pk p l t).2.e≠0→nm=[]∧en= -1
 ok:(pk p l t).2.e=0→nm=ky p (aA l 2 t).1∧en=(((pk p l t).2.p+(pk p l t).1:Nat):Int)
 lt:(pk p l t).1<4294967296
theorem pz(hl:l.length≤1073741824)(D:RG h g gc l p vp t):
 aF Tryz.prog 97 #[aE g] h fun v h'=>eW gc h h'∧iK h' gc l (pk p l t).2∧∃nm en,v= .tuple #[str nm,ao t.p,ao en]∧aqT p l t nm en:=by
 refine AA (args:=[aE g]) rfl ?_;have k0:=D.k0;have c1:=D.r.c1;simp only[fS,ae,seval,k0,c1];refine aj rfl (gM 2 hl (by omega) D.r) ?_;rintro _ h1⟨f1,r1,rfl⟩;have D1:=D.cY f1 r1;have k0:=D1.k0;have k1:=D1.k1;simp only[fS,ae,seval,k1];refine aj rfl (AL (aA l 2 t).1 D1.p) ?_;rintro _ h2⟨rfl,rfl⟩;have c2:=r1.c2;obtain⟨s2,j8⟩:∃s2,s2=(if eV p (aA l 2 t).1 1=true then(aA l 2 t).2 else cg 7 t.p (aA l 2 t).2):=⟨_,rfl⟩;have hB:pk p l t=aA l 4 s2:=by unfold pk;rw[←j8]
 have gl:(if eV p (aA l 2 t).1 1=true then(p.getD (aA l 2 t).1 aX.zero).text else [])=ky p (aA l 2 t).1:=rfl;rw[gl];refine Or.elim (Classical.em ((aA l 2 t).2.e=0)) (fun he=>?caA) (fun he=>?cbA)
 case' cbA=>
  have dH:¬((aA l 2 t).2.e:Int)=0:=by omega
  rw[MG he,ite_self]at j8;rw[←j8]at D1 r1 c2 dH;simp only[fS,ae,seval,k0,c2,av7 dH];obtain⟨h3,OH⟩:∃h3,h3=h2:=⟨_,rfl⟩;rw[←OH];have D3:RG h3 g gc l p vp s2:=by rw[OH];exact D1
  have f3:eW gc h h3:=by rw[OH];exact f1
 case' caA=>
  have dH:((aA l 2 t).2.e:Int)=0:=by omega
  refine Or.elim (Classical.em (eV p (aA l 2 t).1 1=true)) (fun DJ=>?cc) (fun DJ=>?cd)
 case' cc=>
  rw[awa DJ]at j8;rw[←j8]at D1 r1 c2 dH;simp only[fS,ae,seval,k0,c2,av8 dH,DJ];obtain⟨h3,OH⟩:∃h3,h3=h2:=⟨_,rfl⟩;rw[←OH];have D3:RG h3 g gc l p vp s2:=by rw[OH];exact D1
  have f3:eW gc h h3:=by rw[OH];exact f1
 case' cd=>
  rw[av9 DJ]at j8;have ahP:eV p (aA l 2 t).1 1=false:=by simpa using DJ
  simp only[fS,ae,seval,k0,c2,av8 dH,ahP];refine aj rfl (jF 7 t.p r1) ?_;rintro _ h3⟨f3',r3⟩;rw[←j8]at r3;have D3:RG h3 g gc l p vp s2:=D1.cY f3' r3;have f3:eW gc h h3:=eW.trans' f1 f3';have k0:=D3.k0;simp only[fS,ae,seval,k0]
 all_goals
  refine aj rfl (gM 4 hl (by omega) D3.r) ?_;rintro _ h4⟨f4,r4,rfl⟩;have hn:= @dJ l 4 s2;simp only[Nat.reducePow]at hn;rw[←hB]at r4 hn⊢;have D4:=D3.cY f4 r4;have f5:=eW.trans' f3 f4;generalize hb:pk p l t=b at*;have k0:=D4.k0;have c1:=D4.r.c1;have c2:=D4.r.c2;have hp:=D4.r.2;by_cases Zw:b.2.e=0
  ·have SL:(b.2.e:Int)=0:=by omega
   have hw:IntKind.i64.wrap ((b.2.p:Int)+(b.1:Int))=((b.2.p+b.1:Nat):Int):=by rw[wrap_i64 (by omega) (by omega)];omega
   simp only[fS,ae,seval,k0,c1,c2,av8 SL,hw];exact⟨f5,D4.r,_,_,rfl,⟨by rw[hb];intro hh;exact aww Zw hh,by rw[hb];intro _;exact⟨rfl,rfl⟩,by rw[hb];exact hn⟩⟩
  ·have SL:¬(b.2.e:Int)=0:=by omega
   simp only[fS,ae,seval,k0,c2,av7 SL];exact⟨f5,D4.r,_,_,rfl,⟨by rw[hb];intro hh;exact⟨rfl,rfl⟩,by rw[hb];intro hh;exact aww hh Zw,by rw[hb];exact hn⟩⟩
theorem ab6(n:Int)(H:iK h gc l t)(he:t.e≠0):aF Tryz.prog 90 #[aE gc,ao n] h fun v h'=>h'=h∧v=str []:=by
 refine tA (args:=[aE gc,ao n]) rfl ?_;have c2:=H.c2;have dH:¬(t.e:Int)=0:=by omega
 simp only[jI,ae,seval,c2,av7 dH]
def nX(l:az)(looked:Bool)(q:Nat)(en:Int)(u:RS):RS:=
 if looked=true then(if(u.p:Int)=en then u else cg 12 q u)else if u.e≠0 then u else(cV l (en-u.p).toNat u).2
theorem kA(hl:l.length≤1073741824)(D:RG h g gc l p vp u)(looked:Bool)(q:Nat)(en:Int)(h1: -1≤en)(h2:en≤1099511627776)(h3:looked=false→u.e=0→(u.p:Int)≤en):
 aF Tryz.prog 98 #[aE g, .bool looked,ao q,ao en] h fun _ h'=>eW gc h h'∧iK h' gc l (nX l looked q en u):=by
 refine Mb (args:=[aE g, .bool looked,ao q,ao en]) rfl ?_;have k0:=D.k0;have c1:=D.r.c1;have c2:=D.r.c2;have hp:=D.r.2;have hw:IntKind.i64.wrap (en-(u.p:Int))=en-(u.p:Int):=wrap_i64 (by omega) (by omega);cases looked with
 |false=>
  simp only[pu,ae,seval,k0,c1,hw];refine dk ?_;simp only[ae,seval];by_cases he:u.e=0
  ·have h4:=h3 rfl he
   have e1:en-(u.p:Int)=(((en-(u.p:Int)).toNat:Nat):Int):=by omega
   have hT:nX l false q en u=(cV l (en-(u.p:Int)).toNat u).2:=by unfold nX;simp[he]
   rw[hT,e1];refine(sQ (en-(u.p:Int)).toNat hl (by omega) D.r).mono ?_;rintro _ h5⟨f5,r5,rfl⟩;simp only[ae,seval];exact⟨f5,by simpa using r5⟩
  ·have hT:nX l false q en u=u:=by unfold nX;simp[he]
   rw[hT];refine(ab6 _ D.r he).mono ?_;rintro _ h5⟨rfl,rfl⟩;simp only[ae,seval];exact⟨eW.ext (Ext.refl _),D.r⟩
 |true=>
  by_cases he:u.e=0
  ·have dH:(u.e:Int)=0:=by omega
   by_cases hpe:(u.p:Int)=en
   ·have hT:nX l true q en u=u:=by unfold nX;simp[hpe]
    rw[hT];simp only[pu,ae,seval,k0,c1,c2,av8 dH,av8 hpe];exact⟨eW.ext (Ext.refl _),D.r⟩
   ·have hT:nX l true q en u=cg 12 q u:=by unfold nX;simp[hpe]
    rw[hT];simp only[pu,ae,seval,k0,c1,c2,av8 dH,av7 hpe];refine aj rfl (jF 12 q D.r) ?_;rintro _ h5⟨f5,r5⟩;simp only[ae,seval];exact⟨f5,r5⟩
  ·have dH:¬(u.e:Int)=0:=by omega
   have hT:nX l true q en u=u:=by unfold nX;rw[MG he];simp
   rw[hT];simp only[pu,ae,seval,k0,c2,av7 dH];exact⟨eW.ext (Ext.refl _),D.r⟩
end
end
end Go.Proofs.YtmbboehmnfhjjaaGreatDoor
