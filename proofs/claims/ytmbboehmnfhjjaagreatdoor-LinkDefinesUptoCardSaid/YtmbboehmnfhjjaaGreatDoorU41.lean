/- One step of the law, on both worlds: it ends; Define gives the same twice. The law LinkDefines on heaps: every Define gives the same by both, for whatever script. The law LinkDefines, where what it reads is of bulk at most 1048576: for whatever script the law returns true, and all reads behind the call as it read before. -/
import Derived.Test.YtmbboehmnfhjjaaGreatDoorU39
import Derived.Test.YtmbboehmnfhjjaaGreatDoorU37
import Derived.Test.YtmbboehmnfhjjaaGreatDoorU10
import Derived.Test.YtmbboehmnfhjjaaGreatDoorCards
import Derived.Test.YtmbboehmnfhjjaaGreatDoorTie
import Derived.SevenTiedAt
import Derived.LaidMore
import Derived.Stop.Joined
import Derived.JoinedCond
import Derived.ChangeArms
import Derived.Deep.DeepHandedRow
import Derived.Lay
import Derived.Lib.LaidTab
import Derived.Test.YtmbboehmnfhjjaaGreatDoorUKZT
import Derived.Deep.DeepWitnessRowRef
set_option maxRecDepth 100000
set_option maxHeartbeats 32000000
set_option linter.unusedSimpArgs false
set_option linter.unusedVariables false
set_option linter.defProp false
namespace Go.Proofs.YtmbboehmnfhjjaaGreatDoor
open Go.Vc
section
def qW(h:ar)(p n:Nat):Prop:=∃cs fz,h[p]? =some (.cells cs 72 fz)∧(∀j,j<n*4→¬(fz.1≤j∧j<fz.2))∧∀j,j<n→∃c nm t f,Rd h p (j*4) [str c,str nm,str t,ax (f:Nat)]
section
variable{h0 h h1:ar}{d:JD}{n p k:Nat}
theorem Z2{B c:Nat}{a:Option Addr}{L:List (List Value)}(O:Own h B 72 4 (.slice a L.length c) L.length L.flatten)(A:∀r∈L,ZN r)(hL:0<L.length):∃p,a=some ⟨p,0,none⟩∧B≤p∧qW h p L.length:=by
 have vb:∀r∈L,r.length=4:=fun r hr=>by obtain⟨_,_,_,_,rfl⟩:=A r hr;rfl
 rcases O.2 with⟨_,e⟩|⟨g,cap,cur,fz,e,hb,hg,hz,hc,_⟩
 ·omega
 ·cases e
  refine⟨g,rfl,hb,cur,fz,hg,fun j hj=>hz j (by omega),fun j hj=>?_⟩;obtain⟨b,c',e,R⟩:=qV O vb hj;cases e;obtain⟨c,n,t,f,e⟩:=A _ (show L.getD j []∈L by simp[hj]);rw[e]at R;exact⟨c,n,t,f,R⟩
theorem qW.fr{T:Nat→Prop}(R:qW h p n)(f:Fr T h h1)(hT:¬T p):qW h1 p n:=by
 obtain⟨cs,fz,hb,hz,R⟩:=R;exact⟨cs,fz,ay f hb hT,hz,fun j hj=>by obtain⟨c,m,t,g,r⟩:=R j hj;exact⟨c,m,t,g,f.rd r (awd.1 hb).1 hT⟩⟩
theorem qW.set(R:qW h p n)(hk:k<n)(m:az):(∃u,cellAt h ⟨p,k*4+1,none⟩=some u)∧frozenAt h ⟨p,k*4+1,none⟩=false∧qW (setAt h ⟨p,k*4+1,none⟩ (str m)) p n∧∃cs fz,h[p]? =some (.cells cs 72 fz):=by
 obtain⟨cs,fz,hb,hz,R⟩:=R;obtain⟨c0,n0,t0,f0,R0⟩:=R k hk;have e1:=R0 1 _ rfl;refine⟨⟨_,e1⟩,?_,⟨_,fz,bu hb _,hz,fun j hj=>?_⟩,cs,fz,hb⟩
 ·unfold frozenAt;dsimp only;rw[hb]
  have:=hz (k*4+1) (by omega);simp only[Bool.and_eq_false_iff,decide_eq_false_iff_not];omega
 ·have key:∀x,x≠k*4+1→cellAt (setAt h ⟨p,k*4+1,none⟩ (str m)) ⟨p,x,none⟩=cellAt h ⟨p,x,none⟩:=fun x hx=>by
   rw[au (bu hb _),au hb,Array.getElem?_setIfInBounds_ne (Ne.symm hx)]
  by_cases e:j=k
  ·subst e
   refine⟨c0,m,t0,f0,fun i u hu=>?_⟩;by_cases hi:i=1
   ·subst hi
    cases hu;rw[au hb]at e1;rw[au (bu hb _),Array.getElem?_setIfInBounds_self_of_lt (awd.1 e1).1]
   ·rw[key _ (by omega)]
    refine R0 i u ?_;rcases i with _|_|_|_|i<;>first|exact hu|exact aww rfl hi
  ·obtain⟨c,n',t,f,r⟩:=R j hj
   refine⟨c,n',t,f,fun i u hu=>?_⟩;have hi:i<4:=by have:=(List.getElem?_eq_some_iff.1 hu).1;simpa using this
   rw[key _ (by omega)];exact r i u hu
theorem aeW(J:JW h0 h d n)(o:rV)(F:o.Fit)(hk8:o.k≤7)(hn:n≤100000):
 aF Tryz.prog 8 #[fh d.gw, .agg o.cells.toArray] h (StQ h0 h d.gw n o.k):=by
 refine Ix (args:=[fh d.gw, .agg o.cells.toArray]) rfl ?_;have ct:=J.ct;unfold rV.cells;simp only[bU,ae,seval];refine cT ?_;have E:=Ext.push h (.cells o.cells.toArray 26);have H:SJ h0 (h.push (.cells o.cells.toArray 26)) (h.push (.cells o.cells.toArray 26)) d.gw d.gp d.gr h.size o d n:=⟨J.ext E,by simp,ay E J.w awx,⟨rfl,rfl,rfl⟩,⟨_,J.r.ext E⟩,(fun _ _=>rfl),⟨awG J.x.size E.size,awp _⟩,fun _ _ _=>awx⟩;have kq:cellAt (h.push (.cells o.cells.toArray 26)) ⟨h.size,0,none⟩=some (ao o.k):=by rw[au H.q];rfl
 unfold rV.cells at H kq E;simp only[bU,ae,seval,fh];generalize h.push _=h1,h.size=q at*;by_cases k1:o.k=1
 ·obtain⟨x0,x1,o1,-⟩:=H.all
  simp only[bU,ae,seval,kq,av8 k1,x0,o1];refine aj rfl (ZZ H.j.p o.Li F.a (by omega)) ?_;rintro v1 h2 A;obtain⟨nm,e,rfl,R2,K2,fin⟩:=H.j.arI A;have x1:cellAt h2 ⟨d.gw,1,none⟩=some (aE d.gr):=by rw[au (K2 _ _ _ _ H.w (.inr (.inl rfl)))];rfl
  have o1:cellAt h2 ⟨q,1,none⟩=some (str o.Li):=by rw[au (K2 _ _ _ _ H.q (.inl rfl))];rfl
  simp only[bU,ae,seval,x1,o1];refine aj rfl (Xj R2 H.j.ir o.Li F.a (by omega) (by omega)) ?_;rintro v2 h3 B;obtain⟨rfl,o3,d',hd,J'⟩:=fin v2 h3 B;simp only[bU,ae,seval,eq_self];exact⟨true,rfl,fun _=>rfl,((KO.ext E).trans K2.ko).trans o3,d',hd,J'⟩
 by_cases k2:o.k=2
 ·obtain⟨x0,x1,-,-,o3,-⟩:=H.all
  simp only[bU,ae,seval,kq,av7 k1,av8 k2,x0,x1,o3];refine aj rfl (vM H.p H.j.ip o.cl F.c) ?_;rintro _ h2 P;obtain⟨d2,S2,H2,-,e1,rfl,-⟩:=H.pend P;obtain⟨x0,x1,-,-,o3,-⟩:=H2.all;simp only[ae,seval,x1,o3];refine aj rfl (qf H2.r H2.j.ir o.cl F.c) ?_;rintro _ h3 P;obtain⟨d3,S3,H3,-,e2,rfl,-⟩:=H2.rend P;simp only[ae,seval];exact H3.fin E k1 _
 by_cases k3:o.k=3
 ·obtain⟨x0,x1,-,-,o3,-,-,o6,-⟩:=H.all
  simp only[bU,ae,seval,kq,av7 k1,av7 k2,av8 k3,x0,o3,o6];refine aj rfl (S8 H.p H.j.ip o.th o.cl F.f F.c) ?_;rintro _ h2 P;obtain⟨d2,S2,H2,-,e1,t1,rfl,-⟩:=H.pend P;obtain⟨x0,x1,-,-,o3,-,-,o6,-⟩:=H2.all;simp only[bU,ae,seval,x1,o3,o6];refine aj rfl (PP H2.r H2.j.ir o.th o.cl F.f F.c) ?_;rintro _ h3 P;obtain⟨d3,S3,H3,-,e2,t2,rfl,-⟩:=H2.rend P;simp only[bU,ae,seval];by_cases ht:t1=t2
  ·simp only[ae,seval,av8 ht]
   exact H3.fin E k1 _
  ·simp only[ae,seval,av7 ht]
   exact H3.fin E k1 _
 by_cases k4:o.k=4
 ·obtain⟨x0,x1,-,o2,o3,o4,o5,o6,o7⟩:=H.all
  simp only[bU,ae,seval,kq,av7 k1,av7 k2,av7 k3,av8 k4,x0,o2,o3,o4,o5];refine⟨?_,?_⟩
  case' refine_1=>
   refine aj rfl (Td H.p H.j.ip o.fr o.cl o.nm o.ty F.b F.c) ?_;rintro _ ha P;obtain⟨d1,S1,Ha,Ka,c1,n1,t1,f1,e1,rfl,-⟩:=H.pend P;obtain⟨x0,x1,-,o2,o3,o4,o5,o6,o7⟩:=Ha.all;simp only[ae,seval,];refine aD aL ?_;have Hc:=Ha.ext (Ext.push ha (.cells #[str [],str [],str [],ax 0] 72));obtain⟨x0,x1,-,o2,o3,o4,o5,o6,o7⟩:=Hc.all;simp only[ae,seval,x0,o2,o3,o4,o5];refine aI aL rfl rfl rfl (by simp[Value.cells,oneCell,str]) rfl ?_;intro hz xz _ _ bz;have Hz:=Ha.ext xz;have lz:=Ha.z.2;generalize ha.size=p1 at*
  case' refine_2=>
   refine aD aL ?_;have Hb:=H.ext (Ext.push h1 (.cells #[str [],str [],str [],ax 0] 72));have bb:(h1.push (.cells #[str [],str [],str [],ax 0] 72))[h1.size]? =some (.cells #[str [],str [],str [],ax 0] 72 (0,0)):=by simp
   have Kb:=Kp.ext (Ext.push h1 (.cells #[str [],str [],str [],ax 0] 72));have lz:=H.z.2;obtain⟨x0,x1,-,o2,o3,o4,o5,o6,o7⟩:=Hb.all;simp only[ae,seval,x0,o2,o3,o4,o5];generalize h1.push _=hy at*;obtain⟨p1,dK⟩:∃x,x=h1.size:=⟨_,rfl⟩;rw[←dK]at bb⊢;refine aj rfl (Td Hb.p Hb.j.ip o.fr o.cl o.nm o.ty F.b F.c) ?_;rintro _ ha P;obtain⟨d1,S1,Ha,Ka,c1,n1,t1,f1,e1,rfl,-⟩:=Hb.pend P;have ba:=Ka _ _ _ _ bb (.inr (.inr rfl));simp only[ae,seval];refine aO aL rfl rfl rfl (by simp[Value.cells,oneCell,str]) ba rfl ?_;intro hz fz bz;have Hz:=Ha.mut ba (by omega) fz
  all_goals
   obtain⟨x0,x1,-,o2,o3,o4,o5,o6,o7⟩:=Hz.all;simp only[bU,ae,seval,Iz,x1,o2,o3,o4,o5];refine⟨?_,?_⟩
   case' refine_1=>
    refine aj rfl (PQ Hz.r Hz.j.ir o.fr o.cl o.nm o.ty F.b F.c) ?_;rintro _ ha P;obtain⟨d2,S2,Ha,Ka,c2,n2,t2,f2,e2,rfl,-⟩:=Hz.rend P;obtain⟨x0,x1,-,o2,o3,o4,o5,o6,o7⟩:=Ha.all;simp only[ae,seval,];refine aD aL ?_;have Hc:=Ha.ext (Ext.push ha (.cells #[str [],str [],str [],ax 0] 72));obtain⟨x0,x1,-,o2,o3,o4,o5,o6,o7⟩:=Hc.all;simp only[ae,seval,x1,o2,o3,o4,o5];refine aI aL rfl rfl rfl (by simp[Value.cells,oneCell,str]) rfl ?_;intro hw xw _ _ bw;have Hw:=Ha.ext xw;have Kw:Kp hz hw:=fun k cs fz e hb he=>ay xw (Ka k cs fz e hb he) awx;have lw:=Ha.z.2;generalize ha.size=p2 at*
   case' refine_2=>
    refine aD aL ?_;have Hb:=Hz.ext (Ext.push hz (.cells #[str [],str [],str [],ax 0] 72));have bb:(hz.push (.cells #[str [],str [],str [],ax 0] 72))[hz.size]? =some (.cells #[str [],str [],str [],ax 0] 72 (0,0)):=by simp
    have Kb:=Kp.ext (Ext.push hz (.cells #[str [],str [],str [],ax 0] 72));have lw:=Hz.z.2;obtain⟨x0,x1,-,o2,o3,o4,o5,o6,o7⟩:=Hb.all;simp only[ae,seval,x1,o2,o3,o4,o5];generalize hz.push _=hy at*;obtain⟨p2,nj⟩:∃x,x=hz.size:=⟨_,rfl⟩;rw[←nj]at bb⊢;refine aj rfl (PQ Hb.r Hb.j.ir o.fr o.cl o.nm o.ty F.b F.c) ?_;rintro _ ha P;obtain⟨d2,S2,Ha,Ka,c2,n2,t2,f2,e2,rfl,-⟩:=Hb.rend P;have ba:=Ka _ _ _ _ bb (.inr (.inr rfl));simp only[ae,seval];refine aO aL rfl rfl rfl (by simp[Value.cells,oneCell,str]) ba rfl ?_;intro hw fw bw;have Hw:=Ha.mut ba (by omega) fw;have Kw:Kp hz hw:=fun k cs fz e hb he=>by
     have h1:=Ka k cs fz e (Kb k cs fz e hb he) he;have h2:=(awd.1 hb).1;exact ay fw h1 (fun e=>by omega)
   all_goals
    have b1:=Kw _ _ _ _ bz (.inr (.inr rfl));have l1:=eO b1;have l2:=eO bw;obtain⟨b,hb⟩:=W9 (h:=hw) (x:= .tmp 153) (y:= .tmp 154) c1 n1 t1 f1 c2 n2 t2 f2;simp only[bU,ae,seval,Iy,l1,l2,hb];cases b
    ·simp only[ae,seval]
     exact Hw.fin E k1 _
    ·simp only[ae,seval]
     exact Hw.fin E k1 _
 by_cases k5:o.k=5
 ·obtain⟨x0,x1,-,o2,o3,o4,o5,o6,o7⟩:=H.all
  simp only[bU,ae,seval,kq,av7 k1,av7 k2,av7 k3,av7 k4,av8 k5,x0,o2,o3,o4,o5,o7];refine⟨?_,?_⟩
  case' refine_1=>
   refine aj rfl (GK H.p H.j.ip o.fr o.cl o.nm o.ty o.fc F.b F.c) ?_;rintro _ ha P;obtain⟨d1,S1,Ha,Ka,c1,n1,t1,f1,e1,rfl,-⟩:=H.pend P;obtain⟨x0,x1,-,o2,o3,o4,o5,o6,o7⟩:=Ha.all;simp only[ae,seval,];refine aD aL ?_;have Hc:=Ha.ext (Ext.push ha (.cells #[str [],str [],str [],ax 0] 72));obtain⟨x0,x1,-,o2,o3,o4,o5,o6,o7⟩:=Hc.all;simp only[ae,seval,x0,o2,o3,o4,o5,o7];refine aI aL rfl rfl rfl (by simp[Value.cells,oneCell,str]) rfl ?_;intro hz xz _ _ bz;have Hz:=Ha.ext xz;have lz:=Ha.z.2;generalize ha.size=p1 at*
  case' refine_2=>
   refine aD aL ?_;have Hb:=H.ext (Ext.push h1 (.cells #[str [],str [],str [],ax 0] 72));have bb:(h1.push (.cells #[str [],str [],str [],ax 0] 72))[h1.size]? =some (.cells #[str [],str [],str [],ax 0] 72 (0,0)):=by simp
   have Kb:=Kp.ext (Ext.push h1 (.cells #[str [],str [],str [],ax 0] 72));have lz:=H.z.2;obtain⟨x0,x1,-,o2,o3,o4,o5,o6,o7⟩:=Hb.all;simp only[ae,seval,x0,o2,o3,o4,o5,o7];generalize h1.push _=hy at*;obtain⟨p1,dK⟩:∃x,x=h1.size:=⟨_,rfl⟩;rw[←dK]at bb⊢;refine aj rfl (GK Hb.p Hb.j.ip o.fr o.cl o.nm o.ty o.fc F.b F.c) ?_;rintro _ ha P;obtain⟨d1,S1,Ha,Ka,c1,n1,t1,f1,e1,rfl,-⟩:=Hb.pend P;have ba:=Ka _ _ _ _ bb (.inr (.inr rfl));simp only[ae,seval];refine aO aL rfl rfl rfl (by simp[Value.cells,oneCell,str]) ba rfl ?_;intro hz fz bz;have Hz:=Ha.mut ba (by omega) fz
  all_goals
   obtain⟨x0,x1,-,o2,o3,o4,o5,o6,o7⟩:=Hz.all;simp only[bU,ae,seval,IB,x1,o2,o3,o4,o5,o7];refine⟨?_,?_⟩
   case' refine_1=>
    refine aj rfl (Bf Hz.r Hz.j.ir o.fr o.cl o.nm o.ty o.fc F.b F.c) ?_;rintro _ ha P;obtain⟨d2,S2,Ha,Ka,c2,n2,t2,f2,e2,rfl,-⟩:=Hz.rend P;obtain⟨x0,x1,-,o2,o3,o4,o5,o6,o7⟩:=Ha.all;simp only[ae,seval,];refine aD aL ?_;have Hc:=Ha.ext (Ext.push ha (.cells #[str [],str [],str [],ax 0] 72));obtain⟨x0,x1,-,o2,o3,o4,o5,o6,o7⟩:=Hc.all;simp only[ae,seval,x1,o2,o3,o4,o5,o7];refine aI aL rfl rfl rfl (by simp[Value.cells,oneCell,str]) rfl ?_;intro hw xw _ _ bw;have Hw:=Ha.ext xw;have Kw:Kp hz hw:=fun k cs fz e hb he=>ay xw (Ka k cs fz e hb he) awx;have lw:=Ha.z.2;generalize ha.size=p2 at*
   case' refine_2=>
    refine aD aL ?_;have Hb:=Hz.ext (Ext.push hz (.cells #[str [],str [],str [],ax 0] 72));have bb:(hz.push (.cells #[str [],str [],str [],ax 0] 72))[hz.size]? =some (.cells #[str [],str [],str [],ax 0] 72 (0,0)):=by simp
    have Kb:=Kp.ext (Ext.push hz (.cells #[str [],str [],str [],ax 0] 72));have lw:=Hz.z.2;obtain⟨x0,x1,-,o2,o3,o4,o5,o6,o7⟩:=Hb.all;simp only[ae,seval,x1,o2,o3,o4,o5,o7];generalize hz.push _=hy at*;obtain⟨p2,nj⟩:∃x,x=hz.size:=⟨_,rfl⟩;rw[←nj]at bb⊢;refine aj rfl (Bf Hb.r Hb.j.ir o.fr o.cl o.nm o.ty o.fc F.b F.c) ?_;rintro _ ha P;obtain⟨d2,S2,Ha,Ka,c2,n2,t2,f2,e2,rfl,-⟩:=Hb.rend P;have ba:=Ka _ _ _ _ bb (.inr (.inr rfl));simp only[ae,seval];refine aO aL rfl rfl rfl (by simp[Value.cells,oneCell,str]) ba rfl ?_;intro hw fw bw;have Hw:=Ha.mut ba (by omega) fw;have Kw:Kp hz hw:=fun k cs fz e hb he=>by
     have h1:=Ka k cs fz e (Kb k cs fz e hb he) he;have h2:=(awd.1 hb).1;exact ay fw h1 (fun e=>by omega)
   all_goals
    have b1:=Kw _ _ _ _ bz (.inr (.inr rfl));have l1:=eO b1;have l2:=eO bw;obtain⟨b,hb⟩:=W9 (h:=hw) (x:= .tmp 199) (y:= .tmp 200) c1 n1 t1 f1 c2 n2 t2 f2;simp only[bU,ae,seval,IA,l1,l2,hb];cases b
    ·simp only[ae,seval]
     exact Hw.fin E k1 _
    ·simp only[ae,seval]
     exact Hw.fin E k1 _
 by_cases k6:o.k=6
 ·obtain⟨x0,x1,-,o2,o3,o4,o5,o6,o7⟩:=H.all
  simp only[bU,ae,seval,kq,av7 k1,av7 k2,av7 k3,av7 k4,av7 k5,av8 k6,x0,o2,o3,o4,o5,o6,o7];refine⟨?_,?_⟩
  case' refine_1=>
   refine aj rfl (Vl H.p H.j.ip o.fr o.cl o.nm o.ty o.fc o.th F.b F.c F.f) ?_;rintro _ ha P;obtain⟨d1,S1,Ha,Ka,c1,n1,t1,f1,e1,rfl⟩:=H.pend P;obtain⟨x0,x1,-,o2,o3,o4,o5,o6,o7⟩:=Ha.all;simp only[ae,seval,];refine aD aL ?_;have Hc:=Ha.ext (Ext.push ha (.cells #[str [],str [],str [],ax 0] 72));obtain⟨x0,x1,-,o2,o3,o4,o5,o6,o7⟩:=Hc.all;simp only[ae,seval,x0,o2,o3,o4,o5,o6,o7];refine aI aL rfl rfl rfl (by simp[Value.cells,oneCell,str]) rfl ?_;intro hz xz _ _ bz;have Hz:=Ha.ext xz;have lz:=Ha.z.2;generalize ha.size=p1 at*
  case' refine_2=>
   refine aD aL ?_;have Hb:=H.ext (Ext.push h1 (.cells #[str [],str [],str [],ax 0] 72));have bb:(h1.push (.cells #[str [],str [],str [],ax 0] 72))[h1.size]? =some (.cells #[str [],str [],str [],ax 0] 72 (0,0)):=by simp
   have Kb:=Kp.ext (Ext.push h1 (.cells #[str [],str [],str [],ax 0] 72));have lz:=H.z.2;obtain⟨x0,x1,-,o2,o3,o4,o5,o6,o7⟩:=Hb.all;simp only[ae,seval,x0,o2,o3,o4,o5,o6,o7];generalize h1.push _=hy at*;obtain⟨p1,dK⟩:∃x,x=h1.size:=⟨_,rfl⟩;rw[←dK]at bb⊢;refine aj rfl (Vl Hb.p Hb.j.ip o.fr o.cl o.nm o.ty o.fc o.th F.b F.c F.f) ?_;rintro _ ha P;obtain⟨d1,S1,Ha,Ka,c1,n1,t1,f1,e1,rfl⟩:=Hb.pend P;have ba:=Ka _ _ _ _ bb (.inr (.inr rfl));simp only[ae,seval];refine aO aL rfl rfl rfl (by simp[Value.cells,oneCell,str]) ba rfl ?_;intro hz fz bz;have Hz:=Ha.mut ba (by omega) fz
  all_goals
   obtain⟨x0,x1,-,o2,o3,o4,o5,o6,o7⟩:=Hz.all;simp only[bU,ae,seval,IE,x1,o2,o3,o4,o5,o6,o7];refine⟨?_,?_⟩
   case' refine_1=>
    refine aj rfl (Tn Hz.r Hz.j.ir o.fr o.cl o.nm o.ty o.fc o.th F.b F.c F.f) ?_;rintro _ ha P;obtain⟨d2,S2,Ha,Ka,c2,n2,t2,f2,e2,rfl⟩:=Hz.rend P;obtain⟨x0,x1,-,o2,o3,o4,o5,o6,o7⟩:=Ha.all;simp only[ae,seval,];refine aD aL ?_;have Hc:=Ha.ext (Ext.push ha (.cells #[str [],str [],str [],ax 0] 72));obtain⟨x0,x1,-,o2,o3,o4,o5,o6,o7⟩:=Hc.all;simp only[ae,seval,x1,o2,o3,o4,o5,o6,o7];refine aI aL rfl rfl rfl (by simp[Value.cells,oneCell,str]) rfl ?_;intro hw xw _ _ bw;have Hw:=Ha.ext xw;have Kw:Kp hz hw:=fun k cs fz e hb he=>ay xw (Ka k cs fz e hb he) awx;have lw:=Ha.z.2;generalize ha.size=p2 at*
   case' refine_2=>
    refine aD aL ?_;have Hb:=Hz.ext (Ext.push hz (.cells #[str [],str [],str [],ax 0] 72));have bb:(hz.push (.cells #[str [],str [],str [],ax 0] 72))[hz.size]? =some (.cells #[str [],str [],str [],ax 0] 72 (0,0)):=by simp
    have Kb:=Kp.ext (Ext.push hz (.cells #[str [],str [],str [],ax 0] 72));have lw:=Hz.z.2;obtain⟨x0,x1,-,o2,o3,o4,o5,o6,o7⟩:=Hb.all;simp only[ae,seval,x1,o2,o3,o4,o5,o6,o7];generalize hz.push _=hy at*;obtain⟨p2,nj⟩:∃x,x=hz.size:=⟨_,rfl⟩;rw[←nj]at bb⊢;refine aj rfl (Tn Hb.r Hb.j.ir o.fr o.cl o.nm o.ty o.fc o.th F.b F.c F.f) ?_;rintro _ ha P;obtain⟨d2,S2,Ha,Ka,c2,n2,t2,f2,e2,rfl⟩:=Hb.rend P;have ba:=Ka _ _ _ _ bb (.inr (.inr rfl));simp only[ae,seval];refine aO aL rfl rfl rfl (by simp[Value.cells,oneCell,str]) ba rfl ?_;intro hw fw bw;have Hw:=Ha.mut ba (by omega) fw;have Kw:Kp hz hw:=fun k cs fz e hb he=>by
     have h1:=Ka k cs fz e (Kb k cs fz e hb he) he;have h2:=(awd.1 hb).1;exact ay fw h1 (fun e=>by omega)
   all_goals
    have b1:=Kw _ _ _ _ bz (.inr (.inr rfl));have l1:=eO b1;have l2:=eO bw;obtain⟨b,hb⟩:=W9 (h:=hw) (x:= .tmp 249) (y:= .tmp 250) c1 n1 t1 f1 c2 n2 t2 f2;simp only[bU,ae,seval,IC,l1,l2,hb];cases b
    ·simp only[ae,seval]
     exact Hw.fin E k1 _
    ·simp only[ae,seval]
     exact Hw.fin E k1 _
 by_cases k7:o.k=7
 ·obtain⟨x0,x1,-,-,o3,-⟩:=H.all
  simp only[bU,ae,seval,kq,av7 k1,av7 k2,av7 k3,av7 k4,av7 k5,av7 k6,av8 k7,x0,o3];refine aj rfl (ZP H.p H.j.ip o.cl F.c) ?_;rintro _ h2⟨S2,r2,P2,e1,u1,L1,rfl,O1,A1,z1⟩;obtain⟨H2,K2⟩:=H.Tp P2;obtain⟨x0,x1,-,-,o3,-⟩:=H2.all;obtain⟨_,a1,c1,rfl,_⟩:=id O1.dQ;simp only[bU,ae,seval,x1,o3];refine aj rfl (Xf H2.r H2.j.ir o.cl F.c) ?_;rintro _ h3⟨S3,r3,P3,e2,u2,L2,rfl,O2,A2,z2⟩;obtain⟨H3,K3⟩:=H2.Tq P3;obtain⟨_,a2,c2,rfl,_⟩:=id O2.dQ;have hl':(L1.length:Int)=(L2.length:Int)↔L1.length=L2.length:=by omega
  by_cases hl:L1.length=L2.length
  case neg=>
   simp only[bU,ae,seval,av7 (fun x=>hl (hl'.1 x))];exact H3.fin E k1 _
  have lt1:=fun k hk=>(O1.lt k hk).2;have O1:=kC O1 P3.2.2.2.1 (Bh (e':=62) (by decide) fun k hk=>H2.r.cells hk);have B:0<L1.length→∃p1 p2,a1=some ⟨p1,0,none⟩∧a2=some ⟨p2,0,none⟩∧h1.size≤p1∧p1≠p2∧qW h3 p1 L1.length∧qW h3 p2 L1.length:=fun hp=>by
   obtain⟨p1,rfl,q2,q3⟩:=Z2 O1 A1 hp;obtain⟨p2,rfl,q5,q6⟩:=Z2 O2 A2 (by omega);have:=lt1 p1 rfl;exact⟨p1,p2,rfl,rfl,q2,by omega,q3,by rw[hl];exact q6⟩
  rw[←hl];generalize L1.length=m at*;simp only[bU,ae,seval,eq_self];refine aG [25,26,27,28,285,286] (fun x ρ hc=>∃k:Nat,x=m-k∧k≤m∧ρ=[(25, .slice a1 m c1),(26,ao e1),(27, .slice a2 m c2),(28,ao e2),(285,ao m),(286,ao k)]∧
   (∃d3,SJ h0 h1 hc d.gw d.gp d.gr q o d3 n)∧(0<m→∃p1 p2,a1=some ⟨p1,0,none⟩∧a2=some ⟨p2,0,none⟩∧h1.size≤p1∧p1≠p2∧qW hc p1 m∧qW hc p2 m)) ?_ ?_
  case refine_1=>
   simp only[ae,seval];exact⟨_,0,rfl,awb _,rfl,⟨_,H3⟩,B⟩
  rintro x ρ hc⟨k,rfl,hk,rfl,⟨d3,H3⟩,B⟩;by_cases aV:k<m
  case neg=>
   have aK:¬(k:Int)<(m:Int):=by omega
   simp only[bU,ae,seval,aK];exact H3.fin E k1 _
  have aK:(k:Int)<(m:Int):=by omega
  obtain⟨p1,p2,rfl,rfl,dK,cN,R1,R2⟩:=B (by omega);obtain⟨-,-,-,-,r1⟩:=id R1;obtain⟨-,-,-,-,r2⟩:=id R2;obtain⟨td,n1',t1',f1',r1⟩:=r1 k aV;obtain⟨c2',n2',t2',f2',r2⟩:=r2 k aV;have l1:=aS cC r1 rfl;have l2:=aS cC r2 rfl;obtain⟨b,hb⟩:∃b,ej Tryz.prog .neq 72 (.tmp 292) (.tmp 296) (.agg #[str td,str n1',str t1',ax f1']) (.agg #[str c2',str n2',str t2',ax f2']) hc=some (.bool b):=⟨_,My (W7 td n1' t1' f1') (W8 td n1' t1' f1' c2' n2' t2' f2')⟩;obtain⟨⟨u,c0⟩,z0,R1',cs,fz,bp⟩:=R1.set aV [109,105,110,101];have w1:=gU (k:=k) (by omega);cases b
  case true=>
   simp(disch:=omega)only[bU,ae,seval,aK,l1,l2,hb];exact H3.fin E k1 _
  simp(disch:=omega)only[bU,ae,seval,aK,l1,l2,hb];refine aC nM rfl rfl rfl rfl rfl c0 z0 ?_;have f8:=Fr.set (S:=fun k=>k=p1) hc ⟨p1,k*4+1,none⟩ (str [109,105,110,101]) fun _=>rfl;have H4:=H3.mut bp dK f8;have R2':=R2.fr f8 (Ne.symm cN);generalize setAt hc ⟨p1,k*4+1,none⟩ _=h5 at*;simp only[bU,ae,seval,w1];exact⟨_,by omega,k+1,rfl,by omega,rfl,⟨_,H4⟩,fun _=>⟨p1,p2,rfl,rfl,dK,cN,R1',R2'⟩⟩
 simp only[bU,ae,seval,kq,av7 k1,av7 k2,av7 k3,av7 k4,av7 k5,av7 k6,av7 k7,av7 (show¬o.k=8 by omega)];exact H.fin E k1 _
end
end
section
theorem Vv{s:Nat}:∀{L:List (List Value)}{k:Nat},(∀r∈L,r.length=s)→k<L.length→(L.flatten.drop (k*s)).take s=L.getD k []
 |[],k,_,hk=>aww hk (awq _)
 |r::L,0,hL,_=>by
  have:=hL r (by simp);rw[Nat.zero_mul,axd,List.flatten_cons,←this,List.take_left' rfl];rfl
 |r::L,k+1,hL,hk=>by
  have:=hL r (by simp);have e:(k+1)*s=r.length+k*s:=by rw[Nat.add_mul];omega
  rw[List.flatten_cons,e,←awN,List.drop_left' rfl,Vv (fun r hr=>hL r (by simp[hr])) (by simpa using hk)];rfl
def rV.w(o:rV):Nat:=o.Li.length+(o.fr.length+(o.cl.length+(o.nm.length+(o.ty.length+o.th.length))))
def OS(h:ar)(v:Value)(os:List rV):Prop:=fR h 8 v os.length (os.map rV.cells).flatten
def PV:rV:=⟨0,[],[],[],[],[],[],false⟩
section
variable{h0 h h1:ar}{v:Value}{os:List rV}
theorem OS.at(O:OS h v os){k:Nat}(hk:k<os.length):∃b o c,v= .slice (some ⟨b,o,none⟩) os.length c∧Rd h b (o+k*8) (os.getD k PV).cells:=by
 obtain⟨b,o,c,e,R,_⟩:=fR.at O hk;refine⟨b,o,c,e,?_⟩;rw[Vv (fun r hr=>by obtain⟨x,_,rfl⟩:=List.mem_map.1 hr;rfl) (by simpa using hk)]at R;simpa[hk]using R
theorem OS.ext(O:OS h v os)(x:Ext h h1):OS h1 v os:=fR.ext O (by decide) x
def Small(os:List rV):Prop:=os.length≤32768∧∀o∈os,o.w≤32768
theorem acp(O:OS h v os)(hl:os.length≤1073741824)(hw:∀o∈os,o.w≤1073741824):
 aF Tryz.prog 4 #[v] h fun u h'=>Ext h h'∧∃b,u= .bool b∧(b=true→Small os):=by
 refine FE (args:=[v]) rfl ?_;obtain⟨_,va,vc,rfl,_⟩:=id (show fR h 8 v os.length (os.map rV.cells).flatten from O);simp only[kn,ae,seval];refine aG [3,8,9,10] (fun m ρ hc=>∃(k t:Nat),m=os.length-k∧k≤os.length∧ρ=[(3,ao t),(8, .slice va os.length vc),(9,ao os.length),(10,ao k)]∧Ext h hc∧os.length≤t∧(k=0→t=os.length)∧(0<k→t≤32768)∧∀j,j<k→(os.getD j PV).w≤32768) ?_ ?_
 case refine_1=>
  simp only[ae,seval];exact⟨_,0,os.length,rfl,awb _,rfl,Ext.refl _,awp _,fun _=>rfl,fun x=>aww x (Nat.lt_irrefl _),fun j hj=>aww hj (awq _)⟩
 rintro m ρ hc⟨k,t,rfl,hk,rfl,X,t1,t2,t3,t4⟩;by_cases aV:k<os.length
 case neg=>
  have aK:¬(k:Int)<(os.length:Int):=by omega
  simp only[kn,ae,seval,aK];refine⟨X,true,rfl,fun _=>⟨?_,fun o ho=>?_⟩⟩
  ·rcases Nat.eq_zero_or_pos k with h|h
   ·omega
   ·have:=t3 h;omega
  ·obtain⟨j,hj,rfl⟩:=List.getElem_of_mem ho
   have:=t4 j (by omega);simpa[hj]using this
 have aK:(k:Int)<(os.length:Int):=by omega
 obtain⟨b,o,c,e,R⟩:=(O.ext X).at aV;cases e;have hwk:=hw (os.getD k PV) (by simp[aV]);have t4':(os.getD k PV).w≤32768→∀j,j<k+1→(os.getD j PV).w≤32768:=fun h j hj=>by
  rcases Nat.lt_succ_iff_lt_or_eq.1 hj with z|rfl
  ·exact t4 j z
  ·exact h
 generalize os.getD k PV=p at*;unfold rV.w at hwk t4';unfold rV.cells at R;have bm:=aS NV R rfl;simp(disch:=omega)only[kn,ae,seval,aK,bm];refine aD GU ?_;simp only[ae,seval];refine aI GU rfl rfl rfl (by simp[Value.cells,oneCell,str]) rfl ?_;intro h3 x3 _ _ b3;have c1:cellAt h3 ⟨hc.size,1,none⟩=some (str p.Li):=by rw[au b3];rfl
 have c2:cellAt h3 ⟨hc.size,2,none⟩=some (str p.fr):=by rw[au b3];rfl
 have c3:cellAt h3 ⟨hc.size,3,none⟩=some (str p.cl):=by rw[au b3];rfl
 have c4:cellAt h3 ⟨hc.size,4,none⟩=some (str p.nm):=by rw[au b3];rfl
 have c5:cellAt h3 ⟨hc.size,5,none⟩=some (str p.ty):=by rw[au b3];rfl
 have c6:cellAt h3 ⟨hc.size,6,none⟩=some (str p.th):=by rw[au b3];rfl
 generalize hc.size=q at*;have w:∀{x y:Nat},x+y≤8589934592→IntKind.i64.wrap ((x:Int)+(y:Int))=((x+y:Nat):Int):=fun h=>by rw[wrap_i64 (by omega) (by omega)];omega
 have ht:t≤1073741824:=by
  rcases Nat.eq_zero_or_pos k with h|h
  ·have:=t2 h;omega
  ·have:=t3 h;omega
 have w1:=gU (k:=k) (by omega);have s1:=w (x:=p.Li.length) (y:=p.fr.length) (by omega);have s2:=w (x:=p.Li.length+p.fr.length) (y:=p.cl.length) (by omega);have s3:=w (x:=p.Li.length+p.fr.length+p.cl.length) (y:=p.nm.length) (by omega);have s4:=w (x:=p.Li.length+p.fr.length+p.cl.length+p.nm.length) (y:=p.ty.length) (by omega);have s5:=w (x:=p.Li.length+p.fr.length+p.cl.length+p.nm.length+p.ty.length) (y:=p.th.length) (by omega);have s6:=w (x:=t) (y:=p.Li.length+p.fr.length+p.cl.length+p.nm.length+p.ty.length+p.th.length) (by omega);generalize htt:t+(p.Li.length+p.fr.length+p.cl.length+p.nm.length+p.ty.length+p.th.length)=t' at*;by_cases hb:(32768:Int)<(t':Int)
 ·simp only[kn,ae,seval,c1,c2,c3,c4,c5,c6,s1,s2,s3,s4,s5,s6,av8 hb]
  exact⟨X.trans x3,false,rfl,fun x=>by cases x⟩
 ·simp only[kn,ae,seval,c1,c2,c3,c4,c5,c6,s1,s2,s3,s4,s5,s6,av7 hb,w1]
  exact⟨_,by omega,k+1,t',rfl,by omega,rfl,X.trans x3,by omega,fun x=>by omega,fun _=>by omega,t4' (by omega)⟩
theorem pw1{h:ar}{a:Addr}{x y:Operand}:ej Tryz.prog .eql 28 x y (.pointer (some a)) (.pointer none) h=some (.bool false):=oW (a:=some a) Tryz.underlying28
theorem Vw{W:List LC}{Q:List SK}(h:W.map LC.sk=Q):W.map (·.nm)=Q.map (·.1):=by subst h;simp[LC.sk]
theorem aeX{Wp Wr:List LC}(h1:Wp.map LC.sk=BQ)(h2:Wr.map LC.sk=RQ)(n:az):JF Wp n↔JF Wr n:=by
 rw[G8,G8,Vw h1,Vw h2];refine⟨fun h=>?_,fun h=>?_⟩
 ·have:=List.all_eq_true.1 aiX.2 n h;simpa using this
 ·have:=List.all_eq_true.1 aiX.1 n h;simpa using this
theorem aeY(Hs:Sp h)(O:OS h v os)(S:Small os):
 aF Tryz.prog 5 #[v,ao 1,ao 7] h fun u h'=>Ext h h'∧u=ao (-1):=by
 refine Iw (args:=[v,ao 1,ao 7]) rfl ?_;obtain⟨_,va,vc,rfl,_⟩:=id (show fR h 8 v os.length (os.map rV.cells).flatten from O);obtain⟨S1,S2⟩:=S;simp only[ig,ae,seval];refine aj rfl (aiN Hs) ?_;rintro _ h1⟨x1,gp,mp,bp,Wp,rfl,P1,q1,fd1,z1,z2⟩;simp only[ae,seval];refine aj rfl aeV ?_;rintro _ h2⟨x2,gr,vL,br,Wr,rfl,R2,q2,fd2,z3,z4,z5⟩;simp only[ae,seval,fh];refine cT ?_;have E:=Ext.push h2 (.cells #[fh gp,fh gr] 33);have s1:=x1.size;have n1:Wp.length=35:=by have:=axf List.length q1;simpa[BQ,Xi]using this
 have n2:Wr.length=35:=by have:=axf List.length q2;rw[awk,show RQ.length=35 by kernel_rfl]at this;exact this
 have J:JW h (h2.push (.cells #[fh gp,fh gr] 33)) ⟨h2.size,gp,mp,bp,Wp,S0,fun _=>0,gr,vL,br,Wr,S0,fun _=>0⟩ 35:=
  ⟨by simp,(P1.ext x2).ext E,ek.init q1 aov aiM aow,R2.ext E,ek.init q2 aoD aoE aoF,aeX q1 q2,(x1.trans x2).trans E,⟨z1,z2⟩,⟨by dsimp only;omega,fun b hb=>by have:=z4 b hb;omega,fun k hk=>by have:=z5 k hk;omega⟩,
   ⟨by dsimp only;omega,by dsimp only;omega,by dsimp only;rw[uz fd1];omega,by dsimp only;rw[uz fd2];omega⟩⟩
 unfold fh at J;have c0:cellAt (h2.push (.cells #[aE gp,aE gr] 33)) ⟨h2.size,0,none⟩=some (aE gp):=by rw[au J.w];rfl
 simp only[ig,ae,seval,c0,pw1];generalize h2.push _=h3,h2.size=gw at*;refine aG [1,2,7,19,20,21] (fun m ρ hc=>∃(k:Nat)(d:JD),m=os.length-k∧k≤os.length∧ρ=[(1,ao 1),(2,ao 7),(7,aE gw),(19, .slice va os.length vc),(20,ao os.length),(21,ao k)]∧d.gw=gw∧JW h hc d (35+k)) ?_ ?_
 case refine_1=>
  simp only[ae,seval];exact⟨_,0,_,rfl,awb _,rfl,rfl,J⟩
 clear J;rintro m ρ hc⟨k,d,rfl,hk,rfl,rfl,J⟩;by_cases aV:k<os.length
 case neg=>
  have aK:¬(k:Int)<(os.length:Int):=by omega
  simp only[ig,ae,seval,aK];exact J.x
 have aK:(k:Int)<(os.length:Int):=by omega
 obtain⟨b,o,c,e,R⟩:=(O.ext J.x).at aV;cases e;have hwk:=S2 (os.getD k PV) (by simp[aV]);generalize os.getD k PV=p at*;have F:p.Fit:=by unfold rV.w at hwk;exact⟨by omega,by omega,by omega,by omega,by omega,by omega⟩
 have bm:ld Tryz.prog 26 ⟨b,o+k*8,none⟩ hc=some (.agg p.cells.toArray):=aS NV R rfl;have w1:=gU (k:=k) (by omega);simp(disch:=omega)only[ig,ae,seval,aK,bm];refine aD GU ?_;simp only[ae,seval];refine aI GU rfl rfl rfl (by simp[Value.cells,oneCell,str,rV.cells]) rfl ?_;intro h4 x4 _ _ b4;have J4:=J.ext x4;generalize hc.size=q at*;have b4:h4[q]? =some (.cells p.cells.toArray 26 (0,0)):=b4;have kq:∀{h'},h'[q]? =some (.cells p.cells.toArray 26 (0,0))→cellAt h' ⟨q,0,none⟩=some (ao p.k):=fun h=>by rw[au h];rfl
 have k4:=kq b4;by_cases h7:7<p.k
 ·simp only[ig,ae,seval,k4,av8 h7,w1]
  exact⟨_,by omega,k+1,d,rfl,by omega,rfl,rfl,J4.mono (by omega)⟩
 have hl4:ld Tryz.prog 26 ⟨q,0,none⟩ h4=some (.agg p.cells.toArray):=aS NV (aN b4) rfl;simp only[ig,ae,seval,k4,av7 h7,hl4];refine aj rfl (aeW J4 p F (by omega) (by omega)) ?_;rintro _ h5⟨r,rfl,hr,K5,d5,e5,J5⟩;have k5:=kq (K5 q _ _ b4);have fin:∃m',m'<os.length-k∧True:=⟨os.length-(k+1),by omega,trivial⟩;cases r
 ·have k1:¬p.k=1:=fun x=>by cases hr x
  simp only[ig,ae,seval,k5,av7 k1,av7 (show¬(1:Int)=0 by decide),w1];exact⟨_,by omega,k+1,d5,rfl,by omega,rfl,e5,J5⟩
 ·simp only[ig,ae,seval,w1]
  exact⟨_,by omega,k+1,d5,rfl,by omega,rfl,e5,J5⟩
theorem OY(Hs:Sp h)(O:OS h v os)(hl:os.length≤1073741824)(hw:∀o∈os,o.w≤1073741824):
 aF Tryz.prog 3 #[v] h fun u h'=>Ext h h'∧u= .bool true:=by
 refine uV (args:=[v]) rfl ?_;obtain⟨_,va,vc,rfl,_⟩:=id (show fR h 8 v os.length (os.map rV.cells).flatten from O);simp only[xR,ae,seval];refine aj rfl (acp O hl hw) ?_;rintro _ h1⟨x1,b,rfl,hb⟩;cases b
 ·simp only[ae,seval]
  exact x1
 simp only[ae,seval];refine aj rfl (aeY (Hs.ext x1) (O.ext x1) (hb rfl)) ?_;rintro _ h2⟨x2,rfl⟩;simp only[ae,seval];exact x1.trans x2
end
end
end Go.Proofs.YtmbboehmnfhjjaaGreatDoor
namespace Go.Proofs.YtmbboehmnfhjjaaGreatDoor.linkDefines
open Go.Vc
section
open Go.ChangeShapes Go.WideShapes Go.ChangeAt Go.RowKit
open Go.ChangeMaps (open_string shut_string)
theorem one_le{H:Type}(d:DataW H):1≤Rows.uptoBulk d:=by
 cases d with
 |lit l=>cases l<;>simp[Rows.uptoBulk]
 |nil=>simp[Rows.uptoBulk]
 |ptr d=>simp[Rows.uptoBulk]
 |slice elems spare=>simp[Rows.uptoBulk]
 |agg parts=>simp[Rows.uptoBulk]
 |iface t d=>simp[Rows.uptoBulk]
 |map entries=>simp[Rows.uptoBulk]
 |held h=>simp[Rows.uptoBulk]
theorem length_le{H:Type}(l:List (DataW H)):l.length≤Rows.uptoBulkAll l:=by
 induction l with
 |nil=>simp[Rows.uptoBulkAll]
 |cons x r ih=>have:=one_le x;simp only[Rows.uptoBulkAll,awy];omega
section
variable{H:Type}{enc:TypeId × Value→H}{W:World}{base:Nat}{spare:Nat→Bool}{held:Bool}
theorem acr{α:Type}{ts t:TypeId}{size:Nat}(ht:Tryz.prog.underlying ts=some (.slice t))(hc:Tryz.prog.cellsOf t=size)(hs:0<size)(R:α→List Value→Prop)(wt:α→Nat)
 (one:∀(r:List Value)(dd:DataW H)(q:List MemPlace)(n:Nat),r.length=size→DataW.trod enc Tryz.prog W base spare held n t r=some (dd,q)→∃a,R a r∧wt a≤Rows.uptoBulk dd)
 {v:Value}{x:DataW H × List MemPlace}{fuel:Nat}(hr:DataW.trod enc Tryz.prog W base spare held fuel ts [v]=some x):
 ∃ps:List (α × List Value),fR W.heap size v ps.length (ps.map (·.2)).flatten∧gH v∧(∀p∈ps,R p.1 p.2)∧(ps.map fun p=>wt p.1).sum≤Rows.uptoBulk x.1∧ps.length≤Rows.uptoBulk x.1:=by
 obtain⟨rows,hr,hd,hs,_,hc⟩:=aaN (size:=size) ht hc hs hr;have key:∀rows:List (List Value × DataW H),(∀r∈rows,r.1.length=size∧∃n q,DataW.trod enc Tryz.prog W base spare held n t r.1=some (r.2,q))→
  ∃ps:List (α × List Value),ps.map (·.2)=rows.map (·.1)∧(∀p∈ps,R p.1 p.2)∧(ps.map fun p=>wt p.1).sum≤Rows.uptoBulkAll (rows.map (·.2)):=by
  intro rows
  induction rows with
  |nil=>intro _;exact⟨[],rfl,by simp,by simp⟩
  |cons r rows ih=>
   intro hr;obtain⟨ps,h1,h2,h3⟩:=ih (fun r MB=>hr r (by simp[MB]));obtain⟨hl,n,q,hn⟩:=hr r (by simp);obtain⟨a,g1,g2⟩:=one _ _ _ _ hl hn;refine⟨(a,r.1)::ps,by simp[h1],?_,?_⟩
   ·intro p hp
    rcases awL.1 hp with rfl|hp
    ·exact g1
    ·exact h2 p hp
   ·simp only[awH,List.sum_cons,Rows.uptoBulkAll];omega
 obtain⟨ps,h1,h2,h3⟩:=key rows hr;have hlen:ps.length=rows.length:=by have:=axf List.length h1;simpa using this
 refine⟨ps,by rw[hlen,h1,←List.flatMap_def];exact hs,hc,h2,?_,?_⟩
 ·rcases hd with⟨_,rfl⟩|⟨sp,hd⟩
  ·have:ps=[]:=List.length_eq_zero_iff.1 hlen
   subst this;simp
  ·rw[hd];simp only[Rows.uptoBulk];omega
 ·rcases hd with⟨_,rfl⟩|⟨sp,hd⟩
  ·rw[hlen];simp
  ·rw[hd,hlen]
   have:=length_le (rows.map (·.2))
   rw[awk]at this;simp only[Rows.uptoBulk];omega
theorem rW{cs:List Value}{x:DataW H × List MemPlace}{fuel:Nat}(h:DataW.trod enc Tryz.prog W base spare held fuel 9 cs=some x):∃l:az,cs=[str l]∧x=(.lit (.string l),[]):=by
 obtain⟨s,e,ex,_⟩:=DataW.trod_string Tryz.underlying9 h;exact⟨s.data.toList,e,ex⟩
theorem ai1(r:List Value)(dd:DataW H)(q:List MemPlace)(n:Nat)(hl:r.length=8)(h:DataW.trod enc Tryz.prog W base spare held n 26 r=some (dd,q)):∃a:rV,r=a.cells∧a.w≤Rows.uptoBulk dd:=by
 obtain⟨xs,k,_,hx,_,hlen,hf⟩:=DataW.trod_struct Tryz.underlying26 h;have c9:Tryz.prog.cellsOf 9=1:=by kernel_rfl
 have c3:Tryz.prog.cellsOf 3=1:=by kernel_rfl
 have c4:Tryz.prog.cellsOf 4=1:=by kernel_rfl
 match r,hl,xs,hlen with
 |[v0,v1,v2,v3,v4,v5,v6,v7],_,[y0,y1,y2,y3,y4,y5,y6,y7],_=>
  have h0:=hf 0 _ rfl;have h1:=hf 1 _ rfl;have h2:=hf 2 _ rfl;have h3:=hf 3 _ rfl;have h4:=hf 4 _ rfl;have h5:=hf 5 _ rfl;have h6:=hf 6 _ rfl;have h7:=hf 7 _ rfl;simp only[awA,awB]at h0 h1 h2 h3 h4 h5 h6 h7;obtain⟨n0,e0,_,_⟩:=DataW.trod_int Tryz.underlying3 h0;obtain⟨l1,e1,z1⟩:=rW h1;obtain⟨l2,e2,z2⟩:=rW h2;obtain⟨l3,e3,z3⟩:=rW h3;obtain⟨l4,e4,z4⟩:=rW h4;obtain⟨l5,e5,z5⟩:=rW h5;obtain⟨l6,e6,z6⟩:=rW h6;obtain⟨n7,e7,_⟩:=DataW.trod_bool Tryz.underlying4 h7;cases e0;cases e1;cases e2;cases e3;cases e4;cases e5;cases e6;cases e7;refine⟨⟨n0,l1,l2,l3,l4,l5,l6,n7⟩,rfl,?_⟩;subst z1 z2 z3 z4 z5 z6;cases hx;simp only[rV.w,awH,awI,Rows.uptoBulk,Rows.uptoBulkAll];omega
theorem aeZ{v:Value}{x:DataW H × List MemPlace}{fuel:Nat}(hr:DataW.trod enc Tryz.prog W base spare held fuel 22 [v]=some x):∃os:List rV,OS W.heap v os∧os.length≤Rows.uptoBulk x.1∧∀o∈os,o.w≤Rows.uptoBulk x.1:=by
 obtain⟨ps,s1,_,s3,s4,s5⟩:=acr Tryz.underlying22 (size:=8) (by kernel_rfl) (by decide) _ _ ai1 hr;have e:ps.map (·.2)=(ps.map (·.1)).map rV.cells:=by
  rw[List.map_map];exact List.map_congr_left fun p hp=>s3 p hp
 refine⟨ps.map (·.1),?_,by rw[awk];exact s5,fun o ho=>?_⟩
 ·unfold OS;rw[awk,←e];exact s1
 ·obtain⟨p,hp,rfl⟩:=List.mem_map.1 ho
  refine awG ?_ s4;clear s1 s3 s4 s5 e ho
  induction ps with
  |nil=>cases hp
  |cons a r ih=>
   simp only[awH,List.sum_cons];rcases awL.1 hp with rfl|hp
   ·omega
   ·have:=ih hp;omega
end
theorem aoO{W:World}(h:laidMetH Tryz.prog Rows.linkDefinesUptoRow.laid W):Sp W.heap:=by
 have h1:=(laidMetH_iff.1 h).1.filter fun x=>x.1== "strings.asciiSpace";have h2:laidMet Tryz.prog [("strings.asciiSpace",Lib.tabData .u8 Lib.asciiSpaceTab)] W:=h1;have ht:=Lib.tabIs_of_head (g:=0) (t:=82) (e:=5) (n:=256) (by kernel_rfl) (by kernel_rfl) Tryz.underlying82 Tryz.underlying5 (by kernel_rfl) (by kernel_rfl) h2;unfold Lib.TabIs World.var? at ht;rw[show Tryz.prog.globalNamed "strings.asciiSpace"=some 0 by kernel_rfl,awc]at ht;cases hb:W.heap[0]? with
 |none=>rw[hb]at ht;cases ht
 |some o=>
  rw[hb]at ht;cases o<;>first|(cases ht;done)|skip
  rename_i cs e fz;simp only[awe]at ht;exact⟨e,fz,by rw[hb,ht]⟩
theorem ae0(H:Type)(enc:TypeId × Value→H)(W:World)(base:Nat)(args:Array Value)(ds gs:List (DataW H))(before:List MemPlace)
 (aoP:∀(j:Nat)t v,Tryz.f3.params[j]? =some t→args[j]? =some v→Value.okWide Tryz.prog W .any base t v)
 (hW:DataW.Whole enc Tryz.prog Tryz.f3.params.toList Rows.linkDefinesSpec.vars false W args.toList ds gs before)(hk:Rows.uptoSmall H (ds++gs)=true)(hs:Sp W.heap):
 Calls Tryz.prog 3 args W fun e W'=>∃v,e= .returned v∧Rows.linkDefinesSpec.post enc Tryz.prog Tryz.f3 false true false false W args v W':=by
 have hval:∀(j:Nat)t v,Tryz.f3.params[j]? =some t→args[j]? =some v→Value.okWide Tryz.prog W .any base t v:=aoP;have hW':=hW;obtain⟨p,q,hA0,hV,rfl,Hf,FH⟩:=hW;have hA:DataW.TrodAll enc Tryz.prog W 0 (fun _=>true) true Tryz.f3.params.toList args.toList ds p:=hA0;rw[Tryz.params3]at hA hval;obtain⟨v0,vs0,d0,ds0,p0,q0,ava,rfl,rfl,h0,r0⟩:=trodAll_cons hA;obtain⟨rfl,rfl,rfl⟩:=trodAll_nil r0;obtain rfl:args=#[v0]:=by cases args;simp_all
 obtain⟨rfl,rfl⟩:=trodVars_none hV;obtain⟨a0,l0,c0,rfl⟩:=okWide_slice Tryz.underlying22 (hval 0 22 v0 rfl rfl);have hb:Rows.uptoBulk d0≤1048576:=by
  have h:=awW hk;simp only[List.append_nil,Rows.uptoBulkAll]at h;omega
 obtain⟨fu0,hf0⟩:=h0;obtain⟨os,t1,t2,t3⟩:=aeZ hf0;simp only at t2 t3;exact(aaV (OY hs t1 (by omega) (fun o ho=>by have:=t3 o ho;omega))).mono fun e W'⟨he,hB⟩=>⟨_,he,VP laidOut (by kernel_rfl) rfl Tryz.underlying4 rfl rfl hW' hB⟩
theorem lifted(os:Os)(started:os.Started)(H:Type)(enc:TypeId × Value→H)(F:Stop.Interp):
 ReturnsInHanded {} Tryz.checked os 3 .any ((Rows.OpenSpec.upto Rows.linkDefinesSpec).preRow enc Tryz.prog Tryz.f3 Rows.linkDefinesUptoRow.domain false Rows.linkDefinesUptoRow.laid) (((Rows.OpenSpec.upto Rows.linkDefinesSpec).at F).post enc Tryz.prog Tryz.f3 false true false false):=by
 obtain⟨w0,ew⟩:∃w0:World,w0=World.laidAll Tryz.prog os Rows.linkDefinesUptoRow.laid:=⟨_,rfl⟩;have arN:laidMet Tryz.prog Rows.linkDefinesUptoRow.laid (w0.forCall (fun _ _=>0) ⟨#[],#[nS],[]⟩).memory:=by
  subst ew;exact laidMet_laidAll _ (by kernel_rfl) (by kernel_rfl)
 have hx:∃places,DataW.whole enc Tryz.prog (w0.forCall (fun _ _=>0) ⟨#[],#[nS],[]⟩).memory Tryz.f3.params.toList Rows.linkDefinesSpec.vars false #[nS].toList 8=some ([.nil],[],places):=by
  subst ew;exact⟨[],by kernel_rfl⟩
 obtain⟨places,hx⟩:=hx;refine returnsInHanded_of_row (C:=Tryz.checked) (s:=Rows.OpenSpec.upto Rows.linkDefinesSpec) own started (by kernel_rfl) Tryz.func3
  (witness_row_atRef (enc:=enc) (C:=Tryz.checked) false w0 #[nS] (by subst ew;exact World.laidAll_os _ _ _) (by subst ew;kernel_rfl) (by subst ew;kernel_rfl) (by subst ew;kernel_rfl)
   (OpenSpec.preRow_of_cond 8 hx (by kernel_rfl) (fun k hk=>by cases hk;kernel_rfl) (by subst ew;kernel_rfl) arN)) ?_
 intro W base args ds gs before hval hW _ aoQ _ hL _ _;exact ae0 H enc W base args ds gs before hval hW (aoQ _ rfl) (aoO hL)
theorem row:Rows.LinkDefinesUptoSaid:=
 OpenClaim.holds_of_cond 3 Tryz.f3 rfl rfl rfl rfl rfl rfl rfl ⟨rfl,rfl,rfl,rfl,rfl⟩ rfl rfl rfl rfl rfl (by kernel_rfl) Tryz.func3 facts
  (awW (by kernel_rfl)) (by unfold Func.isWrapper;first|(rw[awa (by decide+kernel)];kernel_rfl)|(rw[av9 (by decide+kernel)];exact⟨rfl,rfl⟩))
  (fun os started H enc _ F=>by rw[OpenClaim.pre_eq_preRow];exact lifted os started H enc F)
theorem plain(f:FuncId)(fn:Func)(hf:Tryz.pinned.checked.prog.funcNamed Tryz.f3.name=some f)(DU:Tryz.pinned.checked.prog.funcs[f]? =some fn):
 true=Tryz.pinned.checked.prog.looks []∧∀(j:Nat)t,fn.params[j]? =some t→Tryz.pinned.checked.prog.wantsStandIn t=false:=by
 obtain rfl:f=3:=Option.some.inj ((show Tryz.prog.funcNamed Tryz.f3.name=some 3 by kernel_rfl).symm.trans hf)|>.symm;obtain rfl:fn=Tryz.f3:=(Option.some.inj (Tryz.func3.symm.trans DU)).symm;refine⟨by kernel_rfl,fun j t ht=>?_⟩;rw[Tryz.params3]at ht;have hm:t∈[22]:=by simpa using Array.mem_of_getElem? ht
 have oD:([22].all fun u=> !Tryz.prog.wantsStandIn u)=true:=by kernel_rfl
 exact(show Tryz.prog.wantsStandIn t=false by simpa using List.all_eq_true.1 oD t hm)
theorem proved:Rows.LinkDefinesUptoCardSaid:=
 Claim7.holds_tied_plain_at .later [] _ _ _ _ row (fun _ h=>by cases h) (by kernel_rfl) (fun _ h=>by cases h) linkDefinesUpto_row_tie rfl ⟨rfl,rfl⟩ (by kernel_rfl) rfl plain aoN
#print axioms proved
end
end Go.Proofs.YtmbboehmnfhjjaaGreatDoor.linkDefines
