/- The names in names of classes, by the program: strings.TrimLeft, element, values, pack. The program's world of classes in memory; Seen. Load, by the program: it ends, and what it finds right is right. Find, below, Is, Under, reach, by the program: they end. Under and reach, by the program: they end. -/
import Derived.Test.YtmbboehmnfhjjaaGreatDoorU31
import Derived.Test.YtmbboehmnfhjjaaGreatDoorU8
import Derived.Test.YtmbboehmnfhjjaaGreatDoorU7
import Derived.Test.YtmbboehmnfhjjaaGreatDoorU10
import Derived.Test.YtmbboehmnfhjjaaGreatDoorU9
import Derived.Test.YtmbboehmnfhjjaaGreatDoorU11
import Derived.Test.YtmbboehmnfhjjaaGreatDoorU13
set_option maxRecDepth 100000
set_option maxHeartbeats 8000000
set_option linter.unusedSimpArgs false
set_option linter.unusedVariables false
set_option linter.defProp false
namespace Go.Proofs.YtmbboehmnfhjjaaGreatDoor
open Go.Vc
theorem Ul{h:ar}(s:az):aF Tryz.prog 188 #[str s,bH 91] h fun v h'=>h'=h∧v=str (s.drop (dq s)):=by
 refine xS (args:=[str s,bH 91]) rfl ?_;simp only[jW,ae,seval];refine aG [0,1] (fun m ρ hc=>∃t:az,m=t.length∧t.drop (dq t)=s.drop (dq s)∧ρ=[(0,str t),(1,bH 91)]∧hc=h) ?_ ?_
 case refine_1=>
  simp only[ae,seval];exact⟨_,s,rfl,rfl,rfl⟩
 rintro m ρ hc⟨t,rfl,ht,rfl,rfl⟩;cases t with
 |nil=>
  simp only[jW,ae,seval];rw[←ht];rfl
 |cons b r=>
  have f1:(0:Int)<((r.length+1:Nat):Int):=by omega
  by_cases hb:b=91
  ·subst hb
   have f2:((((91:UInt8)::r).getD 0 0).toNat:Int)=91:=rfl;have f3:(1:Int)≤(((91:UInt8)::r).length:Int):=by simp only[awy];omega
   simp(disch:=omega)only[jW,ae,seval,av8 f1,f2];refine⟨r.length,by simp,r,rfl,?_,rfl⟩;rw[←ht,dq,awa rfl];rfl
  ·have f2:¬(((b::r).getD 0 0).toNat:Int)=91:=fun e=>hb (by
    have e':b.toNat=91:=by simp only[List.getD_cons_zero]at e;omega
    exact UInt8.toNat_inj.1 e')
   simp(disch:=omega)only[jW,ae,seval,av8 f1,av7 f2];rw[←ht,dq,av9 hb];rfl
theorem JE{h:ar}(s:az):aF Tryz.prog 108 #[str s,str [91]] h fun v h'=>h'=h∧v=str (s.drop (dq s)):=by
 refine FG (args:=[str s,str [91]]) rfl ?_;by_cases hs:s=[]
 ·subst hs
  simp only[uW,ae,seval]
  all_goals simp[dq]
 have c2:((([91]:az).getD 0 0).toNat:Int)=91:=rfl;have c3:((91:Int)<128)=True:=by simp
 have c4:(0:Int)<(([91]:az).length:Int):=by simp
 simp(disch:=omega)only[uW,ae,seval,av7 hs,c2,c3];refine aj rfl (Ul s) ?_;rintro _ _⟨rfl,rfl⟩;simp only[ae,seval]
theorem oN{s:az}{c:UInt8}(hs:s≠[]):(((s.getD 0 0).toNat:Int)=(c.toNat:Int))↔s.head?=some c:=by
 cases s with
 |nil=>exact aww rfl hs
 |cons b r=>
  simp only[List.getD_cons_zero,List.head?_cons,awe];constructor
  ·intro h;exact UInt8.toNat_inj.1 (by omega)
  ·rintro rfl;rfl
theorem ZG{s:az}:s.drop (dq s)≠s↔dq s≠0:=by
 constructor
 ·intro h e;rw[e]at h;exact h rfl
 ·intro h e
  have h1:=axf List.length e;rw[aws]at h1;have:=G2 s;omega
theorem Be{h:ar}(s:az)(hl:s.length≤1073741824):aF Tryz.prog 45 #[str s] h fun v h'=>h'=h∧v=str (jm s):=by
 refine AE (args:=[str s]) rfl ?_;simp only[iI,ae,seval];refine aj rfl (JE s) ?_;rintro _ _⟨rfl,rfl⟩;have hd:=ZG (s:=s);have aV:=aws (i:=dq s) (l:=s);unfold jm;generalize s.drop (dq s)=t at*;by_cases h1:dq s=0
 ·have e1:t=s:=by
   by_cases e:t=s
   ·exact e
   ·exact aww h1 (hd.1 e)
  rw[av9 (fun x=>x.1 h1)];simp only[iI,ae,seval,av8 e1]
 have e1:¬t=s:=hd.2 h1;by_cases h2:t=[]
 ·rw[av9 (by rw[h2];simp)]
  simp only[iI,ae,seval,av7 e1,av8 h2]
 have pT:0<t.length:=awr.2 h2;have hh:((t.getD 0 0).toNat:Int)=76↔t.head?=some 76:=oN (c:=76) h2;by_cases h3:t.head?=some 76
 ·have e3:=hh.2 h3
  by_cases h4:2<t.length
  ·have e4:(2:Int)<(t.length:Int):=by omega
   have w:IntKind.i64.wrap ((t.length:Int)-1)=((t.length-1:Nat):Int):=by rw[wrap_i64 (by omega) (by omega)];omega
   rw[awa ⟨h1,h3,h4⟩];simp(disch:=omega)only[iI,ae,seval,av7 e1,av7 h2,e3,av8 e4,w]
  ·have e4:¬(2:Int)<(t.length:Int):=by omega
   rw[av9 (fun x=>h4 x.2.2)];simp(disch:=omega)only[iI,ae,seval,av7 e1,av7 h2,e3,av7 e4]
 ·have e3:¬(((t.getD 0 0).toNat:Int)=76):=fun x=>h3 (hh.1 x)
  rw[av9 (fun x=>h3 x.2.1)];simp(disch:=omega)only[iI,ae,seval,av7 e1,av7 h2,av7 e3]
theorem PO{h:ar}(s:az)(hs:s.drop (dq s)≠[]):aF Tryz.prog 44 #[str s] h fun v h'=>h'=h∧v= .bool (kU s):=by
 refine Dp (args:=[str s]) rfl ?_;simp only[lU,ae,seval];refine aj rfl (JE s) ?_;rintro _ _⟨rfl,rfl⟩;have hd:=ZG (s:=s);unfold kU;generalize s.drop (dq s)=t at*;have pT:0<t.length:=awr.2 hs;have hh:((t.getD 0 0).toNat:Int)=76↔t.head?=some 76:=oN (c:=76) hs;by_cases h1:dq s=0
 ·have e1:t=s:=by
   by_cases e:t=s
   ·exact e
   ·exact aww h1 (hd.1 e)
  simp only[lU,ae,seval,av8 e1];simp[h1]
 have e1:¬t=s:=hd.2 h1;by_cases h3:t.head?=some 76
 ·have e3:=hh.2 h3
  simp(disch:=omega)only[lU,ae,seval,av7 e1,e3];simp[h1,h3]
 ·have e3:¬(((t.getD 0 0).toNat:Int)=76):=fun x=>h3 (hh.1 x)
  simp(disch:=omega)only[lU,ae,seval,av7 e1,av7 e3];simp[h1,h3]
theorem ZH{h:ar}(s:az)(c:UInt8)(hl:s.length≤1073741824):aF Tryz.prog 194 #[str s,bH c.toNat] h fun v h'=>h'=h∧∃k:Int,v=ao k∧-1≤k∧k<s.length:=by
 refine vU (args:=[str s,bH c.toNat]) rfl ?_;simp only[zD,ae,seval];refine JI rfl (aF.mono (R:=fun v h'=>h'=h∧∃k:Int,v=ao k∧-1≤k∧k<s.length) ?_ ?_)
 ·refine qX (args:=[str s,bH c.toNat]) rfl ?_
  have w0:IntKind.i64.wrap ((s.length:Int)-1)=(s.length:Int)-1:=wrap_i64 (by omega) (by omega);simp only[ij,ae,seval,w0];refine aG [0,1,5] (fun m ρ hc=>∃i:Int,m=(i+1).toNat∧-1≤i∧i<s.length∧ρ=[(0,str s),(1,bH c.toNat),(5,ao i)]∧hc=h) ?_ ?_
  case refine_1=>
   simp only[ae,seval];exact⟨_,(s.length:Int)-1,rfl,by omega,by omega,rfl⟩
  rintro m ρ hc⟨i,rfl,hi1,hi2,rfl,rfl⟩;by_cases hi:0≤i
  ·by_cases he:((s.getD i.toNat 0).toNat:Int)=(c.toNat:Int)
   ·simp(disch:=omega)only[ij,ae,seval,av8 hi,av8 he,]
    exact⟨i,rfl,hi1,hi2⟩
   ·have w1:IntKind.i64.wrap (i-1)=i-1:=wrap_i64 (by omega) (by omega)
    simp(disch:=omega)only[ij,ae,seval,av8 hi,av7 he,w1];exact⟨(i-1+1).toNat,by omega,i-1,rfl,by omega,by omega,rfl⟩
  ·simp only[ij,ae,seval,av7 hi]
   exact⟨-1,rfl,by omega,by omega⟩
 ·rintro _ _⟨rfl,k,rfl,h1,h2⟩
  simp only[ae,seval];exact⟨k,rfl,h1,h2⟩
theorem uy{h:ar}(s:az)(hl:s.length≤1073741824):aF Tryz.prog 118 #[str s] h fun v h'=>h'=h∧∃t,v=str t:=by
 refine Ii (args:=[str s]) rfl ?_;simp only[wX,ae,seval];refine aj rfl (Be s hl) ?_;rintro _ _⟨rfl,rfl⟩;have hle:(jm s).length≤1073741824:=by
  unfold jm
  split<;>simp only[aws,awz]<;>omega
 generalize jm s=t at*;simp only[wX,ae,seval];refine aj rfl (ZH t 47 hle) ?_;rintro _ _⟨rfl,k,rfl,h1,h2⟩;have w:IntKind.i64.wrap (k+1)=k+1:=wrap_i64 (by omega) (by omega);have f1:0≤k+1:=by omega
 have f2:k+1≤(t.length:Int):=by omega
 simp(disch:=omega)only[ae,seval,w,];exact⟨_,rfl⟩
section
def kN:az→Value:=fun a=>str a
theorem W3(a:az):Go.MapKept.IsKey .string (kN a):=trivial
theorem acU(a a':az)(h:kN a=kN a'):a=a':=by
 unfold kN str at h;injection h with h;injection h with h;simpa using h
theorem aiv:mpT Tryz.prog 35 .string (.pointer none):=⟨_,_,_,rfl,rfl,rfl,rfl⟩
def vY:List LC→az→Option Nat
 |[],_=>none
 |c::r,n=>if c.nm=n then some 0 else(vY r n).map (·+1)
theorem Aa:∀{W:List LC}{n:az}{i:Nat},vY W n=some i→i<W.length∧(at' W i).nm=n
 |[],n,i,h=>by cases h
 |c::r,n,i,h=>by
  rw[vY]at h
  split at h
  ·cases h;rename_i hc;exact⟨by simp,hc⟩
  ·cases hr:vY r n with
   |none=>rw[hr]at h;cases h
   |some k=>
    rw[hr]at h;simp only[axc,awe]at h;subst h;obtain⟨h1,h2⟩:=Aa hr;exact⟨by simp;omega,h2⟩
theorem OM:∀{W:List LC}{n:az},vY W n=none→∀i,i<W.length→(at' W i).nm≠n
 |[],n,_,i,hi=>aww hi (awq _)
 |c::r,n,h,i,hi=>by
  rw[vY]at h
  split at h
  ·cases h
  rename_i hc;cases i with
  |zero=>exact hc
  |succ i=>exact OM (by simpa using h) i (by simpa using hi)
def aiw(c:LC)(s:Nat × Int)(vi vp vf vm:Value):List Value:=[str c.nm,str c.sup,vi,ax c.fl,vp,vf,vm,ao s.1,ao s.2]
structure PC(h:ar)(b:Nat)(c:LC)(s:Nat × Int)(vi vp vf vm:Value):Prop where
 b:h[b]? =some (.cells (aiw c s vi vp vf vm).toArray 50)
 i:Own h 0 9 1 vi c.ifs.length (c.ifs.map str)
 f:Own h 0 105 5 vf c.fds.length c.fds.flatten
 m:Own h 0 90 10 vm c.iw.length c.iw.flatten
def rv(c:az)(k:Nat)(r:List Value):Prop:=∃(n t:az)(f:Nat)(l:List Value),r=str c::str n::str t::ax f::l∧l.length=k∧∀u∈l,oneCell u=true
structure PW(h:ar)(g mb:Nat)(bs:List Nat)(W:List LC)(S:LS):Prop where
 w:h[g]? =some (.cells #[.map (some mb)] 37)
 mp:iT kN h mb (fun n=>(vY W n).map fun i=>aE (bs.getD i 0))
 ln:bs.length=W.length
 nd:bs.Nodup
 cl:∀i,i<W.length→∃vi vp vf vm,PC h (bs.getD i 0) (at' W i) (S i) vi vp vf vm
 fl:∀i,i<W.length→(at' W i).fl<65536
 fr:∀i,i<W.length→∀r∈(at' W i).fds,rv (at' W i).nm 1 r
 mr:∀i,i<W.length→∀r∈(at' W i).iw,rv (at' W i).nm 6 r
 tf:(W.map fun c=>c.fds.length).sum≤1099511627776
 sz:∀i,i<W.length→(at' W i).nm.length≤1048576∧(at' W i).sup.length≤1048576∧(∀f∈(at' W i).ifs,f.length≤1048576)∧(at' W i).ifs.length≤1048576∧(at' W i).fds.length≤1048576∧(at' W i).iw.length≤1048576
section
variable{h h':ar}{g mb:Nat}{bs:List Nat}{W:List LC}{S:LS}
theorem PC.fr{b:Nat}{c:LC}{s:Nat × Int}{vi vp vf vm:Value}{T:Nat→Prop}(H:PC h b c s vi vp vf vm)(f:Fr T h h')(hb:¬T b)(ho:∀k,(vi.ownBlock=some k∨vf.ownBlock=some k∨vm.ownBlock=some k)→¬T k):PC h' b c s vi vp vf vm:=
 ⟨ay f H.b hb,H.i.fr f fun k hk=>ho k (.inl hk),H.f.fr f fun k hk=>ho k (.inr (.inl hk)),H.m.fr f fun k hk=>ho k (.inr (.inr hk))⟩
theorem PW.ext(H:PW h g mb bs W S)(x:Ext h h'):PW h' g mb bs W S:=
 ⟨ay x H.w awx,H.mp.fr x awx,H.ln,H.nd,fun i hi=>by obtain⟨a,b,c,d,p⟩:=H.cl i hi;exact⟨a,b,c,d,p.fr x awx fun _ _=>awx⟩,H.fl,H.fr,H.mr,H.tf,H.sz⟩
theorem PW.m0(H:PW h g mb bs W S):cellAt h ⟨g,0,none⟩=some (.map (some mb)):=by rw[au H.w];rfl
def vK(bs:List Nat)(W:List LC)(n:az):Option Addr:=(vY W n).map fun i=>⟨bs.getD i 0,0,none⟩
theorem PW.lk(H:PW h g mb bs W S)(n:az):vT Tryz.prog 35 (.map (some mb)) (str n) false h=some (.pointer (vK bs W n)):=by
 have:=VN aiv W3 H.mp n false;unfold vK;rw[show str n=kN n from rfl,this];cases vY W n<;>rfl
theorem iz{rk:Nat→Nat}(I:ek W S rk){i:Nat}(hi:i<W.length):vK bs W (at' W i).nm=some ⟨bs.getD i 0,0,none⟩:=by
 unfold vK;cases hx:vY W (at' W i).nm with
 |none=>exact aww rfl (OM hx i hi)
 |some j=>
  obtain⟨h1,h2⟩:=Aa hx;rw[I.un j i h1 hi h2];rfl
theorem sS(n:az):vK bs W n=none∨∃i,i<W.length∧(at' W i).nm=n∧vK bs W n=some ⟨bs.getD i 0,0,none⟩:=by
 unfold vK;cases hx:vY W n with
 |none=>exact .inl rfl
 |some i=>obtain⟨h1,h2⟩:=Aa hx;exact .inr ⟨i,h1,h2,rfl⟩
section
variable{b:Nat}{c:LC}{s:Nat × Int}{vi vp vf vm:Value}
theorem PC.nf(H:PC h b c s vi vp vf vm)(o:Nat):frozenAt h ⟨b,o,none⟩=false:=by
 unfold frozenAt;dsimp only;rw[H.b];simp
theorem PC.c0(H:PC h b c s vi vp vf vm):cellAt h ⟨b,0,none⟩=some (str c.nm):=by rw[au H.b];rfl
theorem PC.c1(H:PC h b c s vi vp vf vm):cellAt h ⟨b,1,none⟩=some (str c.sup):=by rw[au H.b];rfl
theorem PC.c2(H:PC h b c s vi vp vf vm):cellAt h ⟨b,2,none⟩=some vi:=by rw[au H.b];rfl
theorem PC.c3(H:PC h b c s vi vp vf vm):cellAt h ⟨b,3,none⟩=some (ax c.fl):=by rw[au H.b];rfl
theorem PC.c5(H:PC h b c s vi vp vf vm):cellAt h ⟨b,5,none⟩=some vf:=by rw[au H.b];rfl
theorem PC.c6(H:PC h b c s vi vp vf vm):cellAt h ⟨b,6,none⟩=some vm:=by rw[au H.b];rfl
theorem PC.c7(H:PC h b c s vi vp vf vm):cellAt h ⟨b,7,none⟩=some (ao s.1):=by rw[au H.b];rfl
theorem PC.c8(H:PC h b c s vi vp vf vm):cellAt h ⟨b,8,none⟩=some (ao s.2):=by rw[au H.b];rfl
end
theorem Nf{n:az}(hc:jA n=true):n.drop (dq n)≠[]:=(Bb hc).1
theorem pn0{h:ar}{x y:Operand}:ej Tryz.prog .eql 43 x y (.pointer none) (.pointer none) h=some (.bool true):=oW (a:=none) Tryz.underlying43
theorem pn1{h:ar}{a:Addr}{x y:Operand}:ej Tryz.prog .eql 43 x y (.pointer (some a)) (.pointer none) h=some (.bool false):=oW (a:=some a) Tryz.underlying43
theorem OO(H:PW h g mb bs W S)(a n:az)(hn:jA n=true)(ha:a.length≤1073741824)(hl:n.length≤1073741824):
 aF Tryz.prog 109 #[aE g,str a,str n] h fun v h'=>h'=h∧∃b,v= .bool b:=by
 refine Ik (args:=[aE g,str a,str n]) rfl ?_;simp only[lv,ae,seval];refine aj rfl (PO n (Nf hn)) ?_;rintro _ _⟨rfl,rfl⟩;by_cases hv:kU n=true
 ·simp only[lv,ae,seval,hv]
  exact⟨_,rfl⟩
 have m0:=H.m0;have lk:=H.lk (jm n);simp only[lv,ae,seval,hv,m0];refine aj rfl (Be n hl) ?_;rintro _ _⟨rfl,rfl⟩;rcases sS (bs:=bs) (W:=W) (jm n)with e|⟨i,hi,_,e⟩
 ·rw[e]at lk
  simp only[lv,ae,seval,m0,lk,pn0];exact⟨_,rfl⟩
 ·rw[e]at lk
  obtain⟨vi,vp,vf,vm,K⟩:=H.cl i hi;have c3:=K.c3;simp only[lv,ae,seval,m0,lk,pn1,c3];by_cases hf:cB .and .u16 ((at' W i).fl:Int) 1=0
  ·simp only[ae,seval,av8 hf]
   refine aj rfl (uy a ha) ?_;rintro _ _⟨rfl,t1,rfl⟩;simp only[ae,seval];refine aj rfl (uy n hl) ?_;rintro _ _⟨rfl,t2,rfl⟩;simp only[ae,seval];exact⟨_,rfl⟩
  ·simp only[ae,seval,av7 hf]
   exact⟨_,rfl⟩
end
end
section
section
variable{h h':ar}{g mb:Nat}{bs:List Nat}{W:List LC}{S:LS}{rk:Nat→Nat}
theorem PW.acV(H:PW h g mb bs W S){i j:Nat}(hi:i<W.length){vi vp vf vm:Value}(K:PC h (bs.getD j 0) (at' W j) (S j) vi vp vf vm):∀k,(vi.ownBlock=some k∨vf.ownBlock=some k∨vm.ownBlock=some k)→¬k=bs.getD i 0:=by
 obtain⟨_,_,_,_,L⟩:=H.cl i hi;rintro k(hk|hk|hk)
 ·exact fun e=>bK K.i L.b (by decide) (by rw[hk,e])
 ·exact fun e=>bK K.f L.b (by decide) (by rw[hk,e])
 ·exact fun e=>bK K.m L.b (by decide) (by rw[hk,e])
theorem PW.upd(H:PW h g mb bs W S){i:Nat}(hi:i<W.length){s':Nat × Int}{vi vp vf vm:Value}(K:PC h (bs.getD i 0) (at' W i) (S i) vi vp vf vm)(f:Fr (fun k=>k=bs.getD i 0) h h')
 (hb:h'[bs.getD i 0]? =some (.cells (aiw (at' W i) s' vi vp vf vm).toArray 50)):PW h' g mb bs W (S.put i s'):=by
 have hg:¬g=bs.getD i 0:=fun e=>by have:=H.w;rw[e,K.b]at this;simp at this
 have hm:¬mb=bs.getD i 0:=fun e=>by obtain⟨es,c,h1,_⟩:=H.mp;rw[e,K.b]at h1;cases h1
 refine⟨ay f H.w hg,H.mp.fr f hm,H.ln,H.nd,fun j hj=>?_,H.fl,H.fr,H.mr,H.tf,H.sz⟩;by_cases lR:j=i
 ·subst lR
  rw[fM];have ho:=H.acV hj K;exact⟨vi,vp,vf,vm,hb,K.i.fr f fun k hk=>ho k (.inl hk),K.f.fr f fun k hk=>ho k (.inr (.inl hk)),K.m.fr f fun k hk=>ho k (.inr (.inr hk))⟩
 ·rw[jY lR]
  obtain⟨a,b,c,d,L⟩:=H.cl j hj;refine⟨a,b,c,d,L.fr f (fun e=>lR ?_) (H.acV hi L)⟩;have h1:j<bs.length:=by rw[H.ln];exact hj
  have h2:i<bs.length:=by rw[H.ln];exact hi
  simp only[awu,awJ h1,awJ h2,Option.getD_some]at e;exact(List.getElem_inj H.nd).1 e
theorem PW.alx(H:PW h g mb bs W S){i:Nat}(hi:i<W.length)(v:Nat):PW (setAt h ⟨bs.getD i 0,7,none⟩ (ao v)) g mb bs W (S.put i (v,(S i).2)):=by
 obtain⟨vi,vp,vf,vm,K⟩:=H.cl i hi;exact H.upd hi K (Fr.set _ _ _ fun _=>rfl) (by have:=bu (o:=7) K.b (ao v);exact this)
theorem PW.arj(H:PW h g mb bs W S){i:Nat}(hi:i<W.length)(v:Int):PW (setAt h ⟨bs.getD i 0,8,none⟩ (ao v)) g mb bs W (S.put i ((S i).1,v)):=by
 obtain⟨vi,vp,vf,vm,K⟩:=H.cl i hi;exact H.upd hi K (Fr.set _ _ _ fun _=>rfl) (by have:=bu (o:=8) K.b (ao v);exact this)
def gR(g mb:Nat)(bs:List Nat)(W:List LC)(S:LS)(h:ar)(h':ar)(S':LS)(mo:Nat→Nat):Prop:=PW h' g mb bs W S'∧ek W S' mo∧Bc S S'∧Fr (fun k=>k∈bs) h h'
def aix(g mb:Nat)(bs:List Nat)(W:List LC)(n:Nat):Prop:=∀(h:ar)(S:LS)(rk:Nat→Nat),PW h g mb bs W S→ek W S rk→tK S W.length<n→∀s:az,s.length≤1048576→
 aF Tryz.prog 17 #[aE g,str s] h fun v h'=>∃S' mo e,v=ao e∧gR g mb bs W S h h' S' mo∧(e=0→pn W S' s)
theorem gR.refl(H:PW h g mb bs W S)(I:ek W S rk):gR g mb bs W S h h S rk:=⟨H,I,Bc.refl S,Fr.refl _ _⟩
theorem gR.trans{h1 h2:ar}{S1 S2:LS}{r1 r2:Nat→Nat}(a:gR g mb bs W S h h1 S1 r1)(b:gR g mb bs W S1 h1 h2 S2 r2):gR g mb bs W S h h2 S2 r2:=⟨b.1,b.2.1,a.2.2.1.trans b.2.2.1,a.2.2.2.trans b.2.2.2 (fun _ _ h=>h) (fun _ _ h=>h)⟩
theorem gR.ext(H:PW h g mb bs W S)(I:ek W S rk)(x:Ext h h'):gR g mb bs W S h h' S rk:=⟨H.ext x,I,Bc.refl S,x.mono fun _ _ h=>h.elim⟩
theorem W4(I:ek W S rk){n:az}(hn:rh W S n):∃i,i<W.length∧(at' W i).nm=n∧kB S i∧vK bs W n=some ⟨bs.getD i 0,0,none⟩:=by
 obtain⟨i,a,rfl,c⟩:=hn;exact⟨i,a,rfl,c,iz I a⟩
theorem G7{n:az}(hp:eJ n=true)(h:pn W S n):rh W S n:=by
 have:=GF hp;rcases h.2 with h|h
 ·rw[this.2.1]at h;cases h
 ·rw[this.1]at h;exact h
theorem PW.own(H:PW h g mb bs W S){base:Nat}{e:TypeId}{size n:Nat}{v:Value}{xs:List Value}(O:Own h base e size v n xs)(he:e≠50)(f:Fr (fun k=>k∈bs) h h'):Own h' base e size v n xs:=
 O.fr f fun k hk hm=>by
  obtain⟨j,hj,rfl⟩:=List.getElem_of_mem hm;obtain⟨_,_,_,_,L⟩:=H.cl j (by rw[←H.ln];exact hj);refine bK O L.b he ?_;rw[hk];simp[hj]
def aiy(W:List LC)(i:Nat)(S:LS):Prop:=((at' W i).sup≠[]→rh W S (at' W i).sup)∧∀f∈(at' W i).ifs,rh W S f
theorem aeO{n:Nat}(L:aix g mb bs W n)(H:PW h g mb bs W S)(I:ek W S rk)(hn:tK S W.length<n){i:Nat}(hi:i<W.length):
 aF Tryz.prog 46 #[aE g,aE (bs.getD i 0)] h fun v h'=>∃S' mo e,v=ao e∧gR g mb bs W S h h' S' mo∧(e=0→aiy W i S'):=by
 refine Fj (args:=[aE g,aE (bs.getD i 0)]) rfl ?_;obtain⟨vi,vp,vf,vm,K⟩:=H.cl i hi;have sz:=H.sz i hi;have c1:=K.c1;by_cases hs:(at' W i).sup=[]
 ·simp only[dr,ae,seval,c1,av8 hs]
  refine⟨S,rk,0,rfl,gR.refl H I,fun _=>⟨fun x=>aww hs x,fun f hf=>?_⟩⟩;rcases I.sp i hi with x|x
  ·rw[x.2]at hf;cases hf
  ·exact aww hs (jO x).1
 have hp:eJ (at' W i).sup=true:=by
  rcases I.sp i hi with x|x
  ·exact aww x.1 hs
  ·exact x
 simp only[dr,ae,seval,c1,av7 hs];refine aj rfl (L h S rk H I hn _ sz.2.1) ?_;rintro _ h1⟨S1,r1,e1,rfl,P1,o1⟩;by_cases he:e1=0
 case neg=>
  simp only[dr,ae,seval,av7 he];exact⟨S1,r1,e1,rfl,P1,fun x=>aww x he⟩
 have IU:=G7 hp (o1 he);obtain⟨j,hj,hj1,hj2,hj3⟩:=W4 (bs:=bs) P1.2.1 IU;have H1:=P1.1;have lk:=H1.lk (at' W i).sup;rw[hj3]at lk;obtain⟨wi,wp,wf,wm,K1⟩:=H1.cl i hi;obtain⟨xi,xp,xf,xm,J1⟩:=H1.cl j hj;have m0:=H1.m0;have c1:=K1.c1;have c0:=K1.c0;have d3:=J1.c3;subst he;simp only[dr,ae,seval,m0,c1,lk,d3];by_cases hf:cB .and .u16 ((at' W j).fl:Int) 528=0
 case neg=>
  simp only[dr,ae,seval,av7 hf];exact⟨S1,r1,20,rfl,P1,fun x=>aww x (by decide)⟩
 have hcs:jA (at' W i).sup=true:=by
  have:=jO hp;unfold jA;rw[av9 this.2];exact hp
 simp only[dr,ae,seval,av8 hf,c1,c0];refine aj rfl (OO H1 (at' W i).nm (at' W i).sup hcs (by omega) (by omega)) ?_;rintro _ _⟨rfl,b,rfl⟩;cases b
 ·simp only[dr,ae,seval]
  exact⟨S1,r1,23,rfl,P1,fun x=>aww x (by decide)⟩
 have c2:=K1.c2;have O1:=K1.i;obtain⟨_,ia,ic,rfl,_⟩:=id O1.dQ;simp only[dr,ae,seval,c2];refine aG [0,1,55,56,57] (fun m ρ hc=>∃(k:Nat)(S2:LS)(r2:Nat→Nat),m=(at' W i).ifs.length-k∧k≤(at' W i).ifs.length∧
  ρ=[(0,aE g),(1,aE (bs.getD i 0)),(55, .slice ia (at' W i).ifs.length ic),(56,ao ((at' W i).ifs.length:Int)),(57,ao k)]∧
  gR g mb bs W S h hc S2 r2∧rh W S2 (at' W i).sup∧(∀t,t<k→rh W S2 ((at' W i).ifs.getD t []))∧Own hc 0 9 1 (.slice ia (at' W i).ifs.length ic) (at' W i).ifs.length ((at' W i).ifs.map str)) ?_ ?_
 case refine_1=>
  simp only[ae,seval];exact⟨_,0,S1,r1,rfl,awb _,rfl,P1,IU,fun t ht=>aww ht (awq _),O1⟩
 rintro m ρ hc⟨k,S2,r2,rfl,hk,rfl,P2,o2,oi,O2⟩;by_cases aV:k<(at' W i).ifs.length
 case neg=>
  have aK:¬(k:Int)<((at' W i).ifs.length:Int):=by omega
  simp only[dr,ae,seval,aK];refine⟨S2,r2,0,rfl,P2,fun _=>⟨fun _=>o2,fun f hf=>?_⟩⟩;obtain⟨t,ht,rfl⟩:=List.getElem_of_mem hf;have:=oi t (by omega);rwa[awu,awJ ht]at this
 have aK:(k:Int)<((at' W i).ifs.length:Int):=by omega
 obtain⟨b1,p1,td,fD,_,eR⟩:=O2.sl.at (i:=k) (by simpa using aV);rw[awk]at fD;cases fD;have fm:(at' W i).ifs.getD k []∈(at' W i).ifs:=by simp[aV]
 have e1:cellAt hc ⟨b1,p1+k,none⟩=some (str ((at' W i).ifs.getD k [])):=by rw[eR];simp[aV]
 have fp:=I.ip i hi _ fm;have fl:=sz.2.2.1 _ fm;have fin:∀t,t<k+1→t<k∨t=k:=fun t ht=>by omega
 generalize DU:(at' W i).ifs.getD k []=f at*;simp(disch:=omega)only[dr,ae,seval,aK,e1];refine aj rfl (L hc S2 r2 P2.1 P2.2.1 (Nat.lt_of_le_of_lt (SX P2.2.2.1 _) hn) f fl) ?_;rintro _ h3⟨S3,r3,e3,rfl,P3,o3⟩;have Ng:=P2.trans P3;by_cases he:e3=0
 case neg=>
  simp only[dr,ae,seval,av7 he];exact⟨S3,r3,e3,rfl,Ng,fun x=>aww x he⟩
 have Um:=G7 fp (o3 he);subst he;obtain⟨q,hq,_,_,hq3⟩:=W4 (bs:=bs) P3.2.1 Um;have H3:=P3.1;have lk:=H3.lk f;rw[hq3]at lk;obtain⟨wi,wp,wf,wm,K3⟩:=H3.cl i hi;obtain⟨xi,xp,xf,xm,J3⟩:=H3.cl q hq;have m0:=H3.m0;have c0:=K3.c0;have d3:=J3.c3;simp only[dr,ae,seval,m0,lk,d3];by_cases si:cB .and .u16 ((at' W q).fl:Int) 512=0
 ·simp only[dr,ae,seval,av8 si]
  exact⟨S3,r3,20,rfl,Ng,fun x=>aww x (by decide)⟩
 have IL:jA f=true:=by unfold jA;rw[av9 (jO fp).2];exact fp
 simp only[dr,ae,seval,av7 si,c0];refine aj rfl (OO H3 (at' W i).nm f IL (by omega) (by omega)) ?_;rintro _ _⟨rfl,b,rfl⟩;cases b
 ·simp only[dr,ae,seval]
  exact⟨S3,r3,23,rfl,Ng,fun x=>aww x (by decide)⟩
 have w1:=gU (k:=k) (by omega);simp only[dr,ae,seval,w1];refine⟨_,by omega,k+1,S3,r3,rfl,by omega,rfl,Ng,P3.2.2.1.rh o2,fun t ht=>?_,?_⟩
 ·rcases fin t ht with h|rfl
  ·exact P3.2.2.1.rh (oi t h)
  ·rw[DU];exact Um
 ·exact P2.1.own O2 (by decide) P3.2.2.2
theorem ZI{i:Nat}{a b:Nat × Int}:(S.put i a).put i b=S.put i b:=by
 funext j;unfold LS.put;split<;>rfl
theorem Fr.SY{i:Nat}(hi:i<bs.length)(f:Fr (fun k=>k=bs.getD i 0) h h'):Fr (fun k=>k∈bs) h h':=f.mono fun k _ e=>by
 subst e;simp[hi]
theorem aeP:∀n,aix g mb bs W n:=by
 intro n
 induction n with
 |zero=>intro h S rk _ _ hn;exact aww hn (awq _)
 |succ n ih=>
  intro h S rk H I hn s hl;refine Ij (args:=[aE g,str s]) rfl ?_;simp only[eP,ae,seval];refine aj rfl (Rx s (by omega)) ?_;rintro _ h1⟨x1,rfl⟩;have P1:=gR.ext H I x1;by_cases hc:jA s=true
  case neg=>
   have hc:jA s=false:=by simpa using hc
   simp only[eP,ae,seval,hc];exact⟨S,rk,18,rfl,P1,fun x=>aww x (by decide)⟩
  simp only[eP,ae,seval,hc];refine aj rfl (PO s (Nf hc)) ?_;rintro _ h1⟨rfl,rfl⟩;by_cases hv:kU s=true
  ·simp only[eP,ae,seval,hv]
   exact⟨S,rk,0,rfl,P1,fun _=>⟨hc, .inl hv⟩⟩
  have H1:=P1.1;have m0:=H1.m0;have lk:=H1.lk (jm s);have hv':kU s=false:=by simpa using hv
  simp only[eP,ae,seval,hv',m0];refine aj rfl (Be s (by omega)) ?_;rintro _ h1⟨rfl,rfl⟩;rcases sS (bs:=bs) (W:=W) (jm s)with e|⟨i,hi,vh,e⟩
  ·rw[e]at lk
   simp only[eP,ae,seval,m0,lk,pn0];exact⟨S,rk,18,rfl,P1,fun x=>aww x (by decide)⟩
  rw[e]at lk;obtain⟨vi,vp,vf,vm,K⟩:=H1.cl i hi;have c7:=K.c7;have c8:=K.c8;by_cases s1:(S i).1=1
  ·have f1:((S i).1:Int)=1:=by omega
   simp only[eP,ae,seval,m0,lk,pn1,c7,av8 f1];exact⟨S,rk,19,rfl,P1,fun x=>aww x (by decide)⟩
  have f1:¬((S i).1:Int)=1:=by omega
  by_cases s0:(S i).1=0
  case neg=>
   have f0:¬((S i).1:Int)=0:=by omega
   simp only[eP,ae,seval,m0,lk,pn1,c7,c8,av7 f1,av7 f0];refine⟨S,rk,(S i).2,rfl,P1,fun x=>⟨hc, .inr ⟨i,hi,vh,?_⟩⟩⟩;have:=I.st i hi;exact Prod.ext (show(S i).1=2 by omega) x
  have f0:((S i).1:Int)=0:=by omega
  simp only[eP,ae,seval,m0,lk,pn1,c7,av7 f1,av8 f0];have qY:i<bs.length:=by rw[H.ln];exact hi
  refine aC dI rfl rfl rfl rfl rfl c7 (K.nf 7) ?_;have H2:=H1.alx hi 1;have F2:Fr (fun k=>k∈bs) _ _:=Fr.SY qY (Fr.set h1 ⟨bs.getD i 0,7,none⟩ (ao (1:Nat)) fun _=>rfl);have I2:=I.begin s0 (S i).2;have Qu:tK (S.put i (1,(S i).2)) W.length<n:=by have:=OL (v:=(1,(S i).2)) s0 (by simp) W.length hi;omega
  generalize hS2:S.put i (1,(S i).2)=S2 at*;have ZJ:S2 i=(1,(S i).2):=by rw[←hS2,fM]
  rw[show((1:Nat):Int)=1 from rfl]at H2 F2;generalize setAt h1 ⟨bs.getD i 0,7,none⟩ _=h2 at*;simp only[eP,ae,seval];refine aj rfl (aeO ih H2 I2 Qu hi) ?_;rintro _ h3⟨S3,r3,e3,rfl,P3,o3⟩;obtain⟨H3,I3,L3,F3⟩:=P3;have aiA:S3 i=(1,(S i).2):=by rw[(L3 i).1 (by rw[ZJ];simp),ZJ]
  obtain⟨wi,wp,wf,wm,K3⟩:=H3.cl i hi;simp only[ae,seval];refine aC zF rfl rfl rfl rfl rfl K3.c8 (K3.nf 8) ?_;have H4:=H3.arj hi e3;have F4:Fr (fun k=>k∈bs) _ _:=Fr.SY qY (Fr.set h3 ⟨bs.getD i 0,8,none⟩ (ao e3) fun _=>rfl);generalize setAt h3 ⟨bs.getD i 0,8,none⟩ _=h4 at*;obtain⟨xi,xp,xf,xm,K4⟩:=H4.cl i hi;simp only[eP,ae,seval];refine aC dI rfl rfl rfl rfl rfl K4.c7 (K4.nf 7) ?_;have H5:=H4.alx hi 2;have F5:Fr (fun k=>k∈bs) _ _:=Fr.SY qY (Fr.set h4 ⟨bs.getD i 0,7,none⟩ (ao (2:Nat)) fun _=>rfl);rw[fM,ZI]at H5;rw[show((2:Nat):Int)=2 from rfl]at H5 F5;generalize setAt h4 ⟨bs.getD i 0,7,none⟩ _=h5 at*;obtain⟨yi,yp,yf,ym,K5⟩:=H5.cl i hi;have c8:=K5.c8;rw[fM]at c8;simp only[eP,ae,seval,c8];obtain⟨r5,I5⟩:=I3.done (i:=i) (by rw[aiA]) e3 (fun x=>o3 x);refine⟨S3.put i (2,e3),r5,e3,rfl,⟨H5,I5,fun j=>?_,?_⟩,fun x=>⟨hc, .inr ⟨i,hi,vh,by unfold kB;rw[fM,x]⟩⟩⟩
  ·by_cases lR:j=i
   ·subst lR;rw[fM];exact⟨fun x=>aww s0 x,fun _=> .inr rfl⟩
   ·have:=L3 j
    rw[←hS2,jY lR]at this;rw[jY lR];exact this
  ·have f:=fun{a b c:ar}(p:Fr (fun k=>k∈bs) a b)(q:Fr (fun k=>k∈bs) b c)=>Fr.trans p q (fun _ _ h=>h) (fun _ _ h=>h)
   exact f (f (f (f P1.2.2.2 F2) F3) F4) F5
end
end
section
section
variable{h h':ar}{g mb:Nat}{bs:List Nat}{W:List LC}{S:LS}{rk:Nat→Nat}
def yk(g mb:Nat)(bs:List Nat)(W:List LC)(S:LS)(h:ar)(V:LS→Value→Prop):Value→ar→Prop:=fun v h'=>∃S' mo,gR g mb bs W S h h' S' mo∧V S' v
theorem vM(H:PW h g mb bs W S)(I:ek W S rk)(s:az)(hl:s.length≤1048576):aF Tryz.prog 17 #[aE g,str s] h (yk g mb bs W S h fun S' v=>∃e,v=ao e∧(e=0→pn W S' s)):=
 (aeP _ h S rk H I (Nat.lt_succ_self _) s hl).mono fun v h'⟨S',mo,e,a,b,c⟩=>⟨S',mo,b,e,a,c⟩
theorem Vi(H:PW h g mb bs W S)(I:ek W S rk)(a s:az)(hl:s.length≤1048576)(ha:a.length≤1048576):aF Tryz.prog 52 #[aE g,str a,str s] h (yk g mb bs W S h fun S' v=>∃e,v=ao e∧(e=0→pn W S' s)):=by
 refine Il (args:=[aE g,str a,str s]) rfl ?_;simp only[lA,ae,seval];refine aj rfl (vM H I s hl) ?_;rintro _ h1⟨S1,r1,P1,e,rfl,o1⟩;by_cases he:e=0
 case neg=>
  simp only[lA,ae,seval,av7 he];exact⟨S1,r1,P1,e,rfl,fun x=>aww x he⟩
 have IU:=o1 he;subst he;simp only[lA,ae,seval];refine aj rfl (OO P1.1 a s IU.1 (by omega) (by omega)) ?_;rintro _ h1⟨rfl,b,rfl⟩;cases b
 ·simp only[lA,ae,seval]
  exact⟨S1,r1,P1,23,rfl,fun x=>aww x (by decide)⟩
 ·simp only[lA,ae,seval]
  exact⟨S1,r1,P1,0,rfl,fun _=>IU⟩
theorem SZ(H:PW h g mb bs W S)(I:ek W S rk)(top:az):∀(r i:Nat),rk i<r→i<W.length→kB S i→
 aF Tryz.prog 113 #[aE g,str (at' W i).nm,str top] h fun v h'=>h'=h∧∃b,v= .bool b:=by
 intro r
 induction r with
 |zero=>intro i hr;exact aww hr (awq _)
 |succ r ih=>
  intro i hr hi ho;refine Fl (args:=[aE g,str (at' W i).nm,str top]) rfl ?_;simp only[gD,ae,seval];refine aG [0,1,2] (fun m ρ hc=>∃n:az,ρ=[(0,aE g),(1,str n),(2,str top)]∧hc=h∧(n=[]∧m=0∨∃j,j<W.length∧(at' W j).nm=n∧kB S j∧rk j<r+1∧m=rk j+1)) ?_ ?_
  case refine_1=>
   simp only[ae,seval];exact⟨_,_,rfl, .inr ⟨i,hi,rfl,ho,hr,rfl⟩⟩
  rintro m ρ hc⟨n,rfl,rfl,hn⟩;rcases hn with⟨rfl,rfl⟩|⟨j,hj,rfl,GG,hjr,rfl⟩
  ·simp only[gD,ae,seval]
   exact⟨_,rfl⟩
  have cN:=(jO (I.nm j hj)).1;have m0:=H.m0;have lk:=H.lk (at' W j).nm;rw[iz I hj]at lk;obtain⟨vi,vp,vf,vm,K⟩:=H.cl j hj;have c1:=K.c1;have c2:=K.c2;have O:=K.i;obtain⟨_,ia,ic,rfl,_⟩:=id O.dQ;by_cases ht:(at' W j).nm=top
  ·simp only[gD,ae,seval,av7 cN,m0,lk,av8 ht]
   exact⟨_,rfl⟩
  simp only[gD,ae,seval,av7 cN,m0,lk,av7 ht,c2];refine aG [0,1,2,7,24,25,26] (fun m ρ IK=>∃k:Nat,m=(at' W j).ifs.length-k∧k≤(at' W j).ifs.length∧ρ=[(0,aE g),(1,str (at' W j).nm),(2,str top),(7,aE (bs.getD j 0)),(24, .slice ia (at' W j).ifs.length ic),(25,ao ((at' W j).ifs.length:Int)),(26,ao k)]∧IK=hc) ?_ ?_
  case refine_1=>
   simp only[ae,seval];exact⟨_,0,rfl,awb _,rfl⟩
  rintro m ρ hc⟨k,rfl,hk,rfl,rfl⟩;by_cases aV:k<(at' W j).ifs.length
  case neg=>
   have aK:¬(k:Int)<((at' W j).ifs.length:Int):=by omega
   simp only[gD,ae,seval,aK,c1];by_cases hs:(at' W j).sup=[]
   ·exact⟨0,by omega,_,rfl, .inl ⟨hs,rfl⟩⟩
   ·obtain⟨q,q1,q2,q3,q4⟩:=I.su j hj GG hs
    exact⟨rk q+1,by omega,_,rfl, .inr ⟨q,q1,q2,q3,by omega,rfl⟩⟩
  have aK:(k:Int)<((at' W j).ifs.length:Int):=by omega
  have sz:=(H.sz j hj).2.2.2.1;obtain⟨b1,p1,td,fD,_,eR⟩:=O.sl.at (i:=k) (by simpa using aV);rw[awk]at fD;cases fD;have fm:(at' W j).ifs.getD k []∈(at' W j).ifs:=by simp[aV]
  have e1:cellAt hc ⟨b1,p1+k,none⟩=some (str ((at' W j).ifs.getD k [])):=by rw[eR];simp[aV]
  obtain⟨q,q1,q2,q3,q4⟩:=I.fa j hj GG _ fm;rw[←q2]at e1;have w1:=gU (k:=k) (by omega);simp(disch:=omega)only[gD,ae,seval,aK,e1];refine aj rfl (ih q (by omega) q1 q3) ?_;rintro _ hc⟨rfl,b,rfl⟩;cases b
  ·simp only[gD,ae,seval,w1]
   exact⟨_,by omega,k+1,rfl,by omega,rfl⟩
  ·simp only[gD,ae,seval]
   exact⟨_,rfl⟩
def Ni(x:az):az:=if x.head?=some 76 then(x.take (x.length-1)).drop 1 else x
theorem GI{x:az}(hx:pn W S (91::x)):x≠[]∧(x.length≠1→(x.head?=some 76→2<x.length)∧pn W S (Ni x)):=by
 obtain⟨hc,ho⟩:=hx;have aiB:=Bb hc;have hn:dq (91::x)=dq x+1:=by rw[dq,awa rfl]
 have hd:(91::x:az).drop (dq (91::x))=x.drop (dq x):=by rw[hn];rfl
 have cN:x≠[]:=fun e=>by subst e;exact aiB.1 rfl
 refine⟨cN,fun h1=>?_⟩;have hf:jc (91::x) 0=some (x.length+1):=by
  unfold jA at hc;rw[awa (show(91::x:az).head?=some 91 from rfl)]at hc;unfold cG at hc;rwa[awo]at hc
 rw[jc,av9 (by decide),awa rfl]at hf;have oG:jc x 1=some x.length:=by
  cases hq:jc x 1 with
  |none=>rw[hq]at hf;cases hf
  |some m=>rw[hq]at hf;simp only[axc,awe]at hf;congr 1;omega
 unfold Ni;by_cases KL:dq x=0
 ·by_cases sK:x.head?=some 76
  ·have hv:kU (91::x)=false:=by
    unfold kU;rw[hd,KL];simp[sK]
   have hp:=(aiB.2 hv).1;have vQ:rh W S (jm (91::x)):=by
    rcases ho with h|h
    ·rw[hv]at h;cases h
    ·exact h
   have he:2<x.length∧jm (91::x)=(x.take (x.length-1)).drop 1:=by
    have e0:x.drop (dq x)=x:=by rw[KL];rfl
    unfold jm at hp⊢;rw[hd,e0]at hp⊢;by_cases h2:2<x.length
    ·exact⟨h2,by rw[awa ⟨by rw[hn];omega,sK,h2⟩]⟩
    ·exfalso
     rw[av9 (fun q=>h2 q.2.2)]at hp;cases x with
     |nil=>exact cN rfl
     |cons b r=>
      simp only[List.head?_cons,awe]at sK;subst sK;rw[jc,av9 (by decide),av9 (by decide)]at oG;rw[rm,av9 (by decide),awa rfl]at oG
      split at oG
      ·cases oG
      split at oG
      ·rename_i nj
       apply(jO nj).1;simp only[awe]at oG;apply List.drop_eq_nil_of_le;rw[awz];simp only[awy]at h2 oG⊢;omega
      ·cases oG
   rw[awa sK,←he.2];have q:=GF hp;have qc:jA (jm (91::x))=true:=by unfold jA;rw[av9 (jO hp).2];exact hp
   exact⟨fun _=>he.1,qc, .inr (by rw[q.1];exact vQ)⟩
  ·exfalso
   apply h1;cases x with
   |nil=>exact aww rfl cN
   |cons b r=>
    have hb:b≠91:=fun e=>by subst e;rw[dq,awa rfl]at KL;omega
    have FV:b≠76:=fun e=>sK (by rw[e];rfl);rw[jc,av9 (by decide),av9 hb,rm]at oG
    split at oG
    ·simp only[awe]at oG;exact oG.symm
    ·first|cases oG|(rw[av9 FV]at oG;cases oG)
 ·have h9:=aiu KL
  have sK:x.head?≠some 76:=by rw[h9];decide
  rw[av9 sK];have hf0:jc x 0=some x.length:=by
   rw[zI]at oG⊢
   split at oG
   ·cases oG
   ·rw[av9 (by omega)];exact oG
  refine⟨fun h=>aww h sK,by unfold jA;rw[awa h9];unfold cG;rw[hf0];simp,?_⟩;have e1:kU x=kU (91::x):=by unfold kU;rw[hd,hn];simp[KL]
  have e2:jm x=jm (91::x):=by unfold jm;rw[hd,hn];simp[KL]
  rw[e1,e2];exact ho
theorem Nk{x:az}:(Ni x).length<(91::x:az).length:=by
 unfold Ni;split
 ·rw[aws,awz,awy];omega
 ·simp
theorem S7{h:ar}(x:az)(hx:x≠[])(h2:x.head?=some 76→2<x.length)(hl:x.length≤1073741824):aF Tryz.prog 114 #[str x] h fun v h'=>h'=h∧v=str (Ni x):=by
 refine Fp (args:=[str x]) rfl ?_;have pT:(0:Int)<(x.length:Int):=by have:=awr.2 hx;omega
 have hh:((x.getD 0 0).toNat:Int)=76↔x.head?=some 76:=oN (c:=76) hx;unfold Ni;by_cases h3:x.head?=some 76
 ·have e3:=hh.2 h3
  have h4:=h2 h3;have w:IntKind.i64.wrap ((x.length:Int)-1)=((x.length-1:Nat):Int):=by rw[wrap_i64 (by omega) (by omega)];omega
  rw[awa h3];simp(disch:=omega)only[uU,ae,seval,e3,w]
 ·have e3:¬(((x.getD 0 0).toNat:Int)=76):=fun q=>h3 (hh.1 q)
  rw[av9 h3];simp(disch:=omega)only[uU,ae,seval,av7 e3]
theorem ug{s:az}(hs:pn W S s)(h:s.head?≠some 91):rh W S s:=by
 have hc:=hs.1;unfold jA at hc;rw[av9 h]at hc;exact G7 hc hs
theorem aiC(H:PW h g mb bs W S)(I:ek W S rk):∀(n:Nat)(a b:az),a.length<n→a.length≤1048576→b.length≤1048576→pn W S a→pn W S b→
 aF Tryz.prog 50 #[aE g,str a,str b] h fun v h'=>h'=h∧∃b,v= .bool b:=by
 intro n
 induction n with
 |zero=>intro a b hn;exact aww hn (awq _)
 |succ n ih=>
  intro a b hn hla hlb ha hb;refine Mf (args:=[aE g,str a,str b]) rfl ?_;have na:=lL ha.1;have nb:=lL hb.1;have pa:(0:Int)<(a.length:Int):=by have:=awr.2 na;omega
  have pb:(0:Int)<(b.length:Int):=by have:=awr.2 nb;omega
  have ea:((a.getD 0 0).toNat:Int)=91↔a.head?=some 91:=oN (c:=91) na;have eb:((b.getD 0 0).toNat:Int)=91↔b.head?=some 91:=oN (c:=91) nb;by_cases sW:a=b
  ·simp only[iA,ae,seval,av8 sW]
   exact⟨_,rfl⟩
  by_cases ra:b=[106,97,118,97,47,108,97,110,103,47,79,98,106,101,99,116]
  ·simp only[iA,ae,seval,av7 sW,av8 ra]
   exact⟨_,rfl⟩
  by_cases xB:a.head?=some 91
  case neg=>
   have fa:¬((a.getD 0 0).toNat:Int)=91:=fun x=>xB (ea.1 x);by_cases F0:b.head?=some 91
   ·have fb:=eb.2 F0
    simp(disch:=omega)only[iA,ae,seval,av7 sW,av7 ra,av7 fa,fb];exact⟨_,rfl⟩
   ·have fb:¬((b.getD 0 0).toNat:Int)=91:=fun x=>F0 (eb.1 x)
    obtain⟨i,hi,rfl,GJ⟩:=ug ha xB;simp(disch:=omega)only[iA,ae,seval,av7 sW,av7 ra,av7 fa,av7 fb];refine aj rfl (SZ H I b _ i (Nat.lt_succ_self _) hi GJ) ?_;rintro _ h1⟨rfl,c,rfl⟩;simp only[ae,seval];exact⟨_,rfl⟩
  have fa:=ea.2 xB;by_cases F0:b.head?=some 91
  case neg=>
   have fb:¬((b.getD 0 0).toNat:Int)=91:=fun x=>F0 (eb.1 x);by_cases h1:b=[106,97,118,97,47,108,97,110,103,47,67,108,111,110,101,97,98,108,101]
   ·simp(disch:=omega)only[iA,ae,seval,av7 sW,av7 ra,fa,av7 fb,av8 h1]
    exact⟨_,rfl⟩
   ·simp(disch:=omega)only[iA,ae,seval,av7 sW,av7 ra,fa,av7 fb,av7 h1]
    exact⟨_,rfl⟩
  have fb:=eb.2 F0;obtain⟨x,rfl⟩:∃x,a=91::x:=by cases a with
   |nil=>exact aww rfl na
   |cons c r=>simp only[List.head?_cons,awe]at xB;subst xB;exact⟨r,rfl⟩
  obtain⟨y,rfl⟩:∃y,b=91::y:=by cases b with
   |nil=>exact aww rfl nb
   |cons c r=>simp only[List.head?_cons,awe]at F0;subst F0;exact⟨r,rfl⟩
  have ix:=GI ha;have iy:=GI hb;simp only[awy]at hn hla hlb;have dx:(91::x:az).drop 1=x:=rfl;have dy:(91::y:az).drop 1=y:=rfl;have fx:(1:Int)≤((91::x:az).length:Int):=by simp only[awy];omega
  have fy:(1:Int)≤((91::y:az).length:Int):=by simp only[awy];omega
  by_cases lx:x.length=1
  ·have l1:(x.length:Int)=1:=by omega
   simp(disch:=omega)only[iA,ae,seval,av7 sW,av7 ra,fa,fb,dx,dy,av8 l1];exact⟨_,rfl⟩
  have l1:¬(x.length:Int)=1:=by omega
  by_cases ly:y.length=1
  ·have l2:(y.length:Int)=1:=by omega
   simp(disch:=omega)only[iA,ae,seval,av7 sW,av7 ra,fa,fb,dx,dy,av7 l1,av8 l2];exact⟨_,rfl⟩
  have l2:¬(y.length:Int)=1:=by omega
  simp(disch:=omega)only[iA,ae,seval,av7 sW,av7 ra,fa,fb,dx,dy,av7 l1,av7 l2];refine aj rfl (S7 x ix.1 (ix.2 lx).1 (by omega)) ?_;rintro _ h1⟨rfl,rfl⟩;simp only[ae,seval];refine aj rfl (S7 y iy.1 (iy.2 ly).1 (by omega)) ?_;rintro _ h1⟨rfl,rfl⟩;simp only[ae,seval];have hx:= @Nk x;have hy:= @Nk y;simp only[awy]at hx hy;refine aj rfl (ih _ _ (by omega) (by omega) (by omega) (ix.2 lx).2 (iy.2 ly).2) ?_;rintro _ h1⟨rfl,c,rfl⟩;simp only[ae,seval];exact⟨_,rfl⟩
end
end
section
section
variable{h h':ar}{g mb:Nat}{bs:List Nat}{W:List LC}{S:LS}{rk:Nat→Nat}
theorem PW.nZ(H:PW h g mb bs W S):∀k,k∈bs→k<h.size:=fun k hk=>by
 obtain⟨j,hj,rfl⟩:=List.getElem_of_mem hk;obtain⟨_,_,_,_,L⟩:=H.cl j (by rw[←H.ln];exact hj);have:=(awd.1 L.b).1;simpa[hj]using this
theorem S8(H:PW h g mb bs W S)(I:ek W S rk)(a b:az)(ha:a.length≤1048576)(hb:b.length≤1048576):
 aF Tryz.prog 19 #[aE g,str a,str b] h (yk g mb bs W S h fun S' v=>∃e t,v= .tuple #[.bool t,ao e]∧(e=0→pn W S' a∧pn W S' b)):=by
 refine Fo (args:=[aE g,str a,str b]) rfl ?_;simp only[kj,ae,seval];refine aU dE rfl rfl (by decide) ?_;have x1:=Ext.push h (.cells #[str a,str b] 9);have q1:(h.push (.cells #[str a,str b] 9))[h.size]? =some (.cells #[str a,str b] 9):=by simp
 have hq:¬h.size∈bs:=fun e=>by have:=H.nZ _ e;omega
 have P1:=gR.ext H I x1;simp only[ae,seval];generalize h.push _=h1,h.size=q at*;refine aG [0,1,2,13,14,15] (fun m ρ hc=>∃(k:Nat)(S2:LS)(r2:Nat→Nat),m=2-k∧k≤2∧ρ=[(0,aE g),(1,str a),(2,str b),(13, .slice (some ⟨q,0,none⟩) 2 2),(14,ao 2),(15,ao k)]∧
  gR g mb bs W S h hc S2 r2∧hc[q]? =some (.cells #[str a,str b] 9)∧(0<k→pn W S2 a)∧(1<k→pn W S2 b)) ?_ ?_
 case refine_1=>
  simp only[ae,seval];exact⟨_,0,S,rk,rfl,by decide,rfl,P1,q1,fun x=>aww x (by decide),fun x=>aww x (by decide)⟩
 rintro m ρ hc⟨k,S2,r2,rfl,hk,rfl,P2,q2,oa,ob⟩;by_cases aV:k<2
 case neg=>
  have aK:¬(k:Int)<2:=by omega
  simp only[kj,ae,seval,aK];refine aj rfl (aiC P2.1 P2.2.1 _ a b (Nat.lt_succ_self _) ha hb (oa (by omega)) (ob (by omega))) ?_;rintro _ h3⟨rfl,t,rfl⟩;simp only[ae,seval];exact⟨S2,r2,P2,0,t,rfl,fun _=>⟨oa (by omega),ob (by omega)⟩⟩
 have aK:(k:Int)<2:=by omega
 obtain⟨f,hf⟩:∃f,f=[a,b].getD k []:=⟨_,rfl⟩;have e1:cellAt hc ⟨q,k,none⟩=some (str f):=by
  rw[au q2,hf];rcases(by omega:k=0∨k=1)with rfl|rfl<;>rfl
 have nT:f.length≤1048576:=by
  rw[hf];rcases(by omega:k=0∨k=1)with rfl|rfl<;>assumption
 simp(disch:=omega)only[kj,ae,seval,aK,e1];refine aj rfl (vM P2.1 P2.2.1 f nT) ?_;rintro _ h3⟨S3,r3,P3,e,rfl,o3⟩;have Ng:=P2.trans P3;by_cases he:e=0
 case neg=>
  simp only[kj,ae,seval,av7 he];exact⟨S3,r3,Ng,e,_,rfl,fun x=>aww x he⟩
 have Um:=o3 he;subst he;have w1:=gU (k:=k) (by omega);simp only[kj,ae,seval,w1];refine⟨_,by omega,k+1,S3,r3,rfl,by omega,rfl,Ng,ay P3.2.2.2 q2 hq,fun _=>?_,fun _=>?_⟩
 ·rcases(by omega:k=0∨0<k)with rfl|h0
  ·rw[hf]at Um;exact Um
  ·exact P3.2.2.1.pn (oa h0)
 ·rcases(by omega:k=1∨1<k)with rfl|h0
  ·rw[hf]at Um;exact Um
  ·exact P3.2.2.1.pn (ob h0)
def mbV(c n t:az)(f:Nat):Value:= .agg #[str c,str n,str t,ax f]
theorem S9(H:PW h g mb bs W S)(I:ek W S rk)(a c n t:az)(f:Nat)(ha:a.length≤1048576)(hc:c.length≤1048576):
 aF Tryz.prog 54 #[aE g,str a,mbV c n t f] h (yk g mb bs W S h fun _ v=>∃b,v= .bool b):=by
 refine Fq (args:=[aE g,str a,mbV c n t f]) rfl ?_;unfold mbV;simp only[iE,ae,seval];refine cT ?_;have x1:=Ext.push h (.cells #[str c,str n,str t,ax f] 72);have q1:(h.push (.cells #[str c,str n,str t,ax f] 72))[h.size]? =some (.cells #[str c,str n,str t,ax f] 72):=by simp
 have hq:¬h.size∈bs:=fun e=>by have:=H.nZ _ e;omega
 have P1:=gR.ext H I x1;simp only[iE,ae,seval];generalize h.push _=h1,h.size=q at*;have c3:cellAt h1 ⟨q,3,none⟩=some (ax f):=by rw[au q1];rfl
 have c0:cellAt h1 ⟨q,0,none⟩=some (str c):=by rw[au q1];rfl
 by_cases f1:cB .and .u16 (f:Int) 1=0
 case neg=>
  simp only[iE,ae,seval,c3,av7 f1];exact⟨S,rk,P1,_,rfl⟩
 by_cases f2:cB .and .u16 (f:Int) 2=0
 case neg=>
  simp only[iE,ae,seval,c3,c0,av8 f1,av7 f2];exact⟨S,rk,P1,_,rfl⟩
 simp only[iE,ae,seval,c3,c0,av8 f1,av8 f2];refine aj rfl (uy a (by omega)) ?_;rintro _ h1⟨rfl,t1,rfl⟩;simp only[ae,seval,c0];refine aj rfl (uy c (by omega)) ?_;rintro _ h1⟨rfl,t2,rfl⟩;simp only[ae,seval,];by_cases ht:t1=t2
 ·simp only[iE,ae,seval,av8 ht]
  exact⟨S,rk,P1,_,rfl⟩
 simp only[iE,ae,seval,av7 ht,c3];by_cases f4:cB .and .u16 (f:Int) 4=0
 ·simp only[ae,seval,av8 f4]
  exact⟨S,rk,P1,_,rfl⟩
 by_cases hn:a=[]
 ·simp only[ae,seval,av7 f4,av8 hn]
  exact⟨S,rk,P1,_,rfl⟩
 have pa:(0:Int)<(a.length:Int):=by have:=awr.2 hn;omega
 have ea:((a.getD 0 0).toNat:Int)=91↔a.head?=some 91:=oN (c:=91) hn;by_cases xB:a.head?=some 91
 ·have fa:=ea.2 xB
  simp(disch:=omega)only[ae,seval,av7 f4,av7 hn,fa];exact⟨S,rk,P1,_,rfl⟩
 have fa:¬((a.getD 0 0).toNat:Int)=91:=fun x=>xB (ea.1 x);simp(disch:=omega)only[ae,seval,av7 f4,av7 hn,av7 fa];refine aj rfl (vM P1.1 P1.2.1 a ha) ?_;rintro _ h2⟨S2,r2,P2,e,rfl,o2⟩;have rT:=P1.trans P2;by_cases he:e=0
 case neg=>
  simp only[ae,seval,av7 he];exact⟨S2,r2,rT,_,rfl⟩
 obtain⟨i,hi,rfl,GJ⟩:=ug (o2 he) xB;have c0:cellAt h2 ⟨q,0,none⟩=some (str c):=by rw[au (ay P2.2.2.2 q1 hq)];rfl
 subst he;simp only[ae,seval,c0];refine aj rfl (SZ P2.1 P2.2.1 c _ i (Nat.lt_succ_self _) hi GJ) ?_;rintro _ h2⟨rfl,b,rfl⟩;simp only[ae,seval];exact⟨S2,r2,rT,_,rfl⟩
end
end
end Go.Proofs.YtmbboehmnfhjjaaGreatDoor
