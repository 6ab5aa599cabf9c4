/- The decoder of instructions: switches. The decoder of instructions: more operands. The decoder of instructions: one instruction. -/
import Derived.Test.YtmbboehmnfhjjaaGreatDoorU15
set_option maxRecDepth 100000
set_option maxHeartbeats 16000000
set_option linter.unusedSimpArgs false
set_option linter.unusedVariables false
set_option linter.defProp false
namespace Go.Proofs.YtmbboehmnfhjjaaGreatDoor
open Go.Vc
section
section
variable{h h1 h2:ar}{g q bd:Nat}{l:az}{x:In}{s s':RS}
theorem DS.agX(H:DS h h1 g q bd l x s){vk vt v2:Value}{n:Int}(hq:h1[q]? =some (.cells (fu x vk vt).toArray 204 (0,0)))(Gg:Own h1 h.size 3 1 vk x.keys.length (eI x.keys))(Gh:Own h1 h.size 3 1 vt x.bX.length (eI x.bX))
 (Gi:∀k,vk.ownBlock=some k→¬vt.ownBlock=some k)(qJ:Own h2 h.size 3 1 v2 (x.keys.length+1) (eI x.keys++[ao n]))(f:Fr (fun k=>vk.ownBlock=some k) h1 h2)(fresh:∀k,v2.ownBlock=some k→vk.ownBlock=some k∨h1.size≤k):
 DS h (setAt h2 ⟨q,6,none⟩ v2) g q bd l {x with keys:=x.keys++[n]} s:=by
 obtain⟨e1,e2,e3⟩:=H.gq;have cN:∀k cs t fz,h1[k]? =some (.cells cs t fz)→t≠3→¬vk.ownBlock=some k:=fun k cs t fz hb ht=>bK Gg hb (Ne.symm ht);have q2:=ay f hq (cN _ _ _ _ hq (by decide));have r2:eF h2 g l s:=H.rd.fr f (cN _ _ _ _ H.rd.1 (by decide));have b2:=ay f H.bx (cN _ _ _ _ H.bx (by decide));have f2:Fr (fun k=>k=q) h2 (setAt h2 ⟨q,6,none⟩ v2):=Fr.set (S:=fun k=>k=q) _ _ _ fun _=>rfl;have b1:=bu (o:=6) q2 v2;have ot2:=Gh.fr f fun k hk qM=>Gi k qM hk;refine⟨Fr.trans (Fr.trans H.fr f (fun _ _ h=>h) (fun k hk h=>by have:=(Gg.lt k h).1;omega)) f2 (fun _ _ h=>h) (fun _ _ h=>axb h),r2.fr f2 (Ne.symm e1),⟨v2,vt,b1,?_,?_,?_⟩,ay f2 b2 e3⟩
 ·refine dR (qJ.fr f2 fun k hk hS=>?_) (by simp) (by simp[eI])
  subst hS;exact bK qJ q2 (by decide) hk
 ·exact ot2.fr f2 fun k hk hS=>by subst hS;exact bK ot2 q2 (by decide) hk
 ·intro k hk qM
  rcases fresh k hk with hh|hh
  ·exact Gi k hh qM
  ·have:=(Gh.lt k qM).2;omega
theorem DS.agZ(H:DS h h1 g q bd l x s){vk vt v2:Value}{n:Int}(hq:h1[q]? =some (.cells (fu x vk vt).toArray 204 (0,0)))(Gg:Own h1 h.size 3 1 vk x.keys.length (eI x.keys))(Gh:Own h1 h.size 3 1 vt x.bX.length (eI x.bX))
 (Gi:∀k,vk.ownBlock=some k→¬vt.ownBlock=some k)(qJ:Own h2 h.size 3 1 v2 (x.bX.length+1) (eI x.bX++[ao n]))(f:Fr (fun k=>vt.ownBlock=some k) h1 h2)(fresh:∀k,v2.ownBlock=some k→vt.ownBlock=some k∨h1.size≤k):
 DS h (setAt h2 ⟨q,7,none⟩ v2) g q bd l {x with bX:=x.bX++[n]} s:=by
 obtain⟨e1,e2,e3⟩:=H.gq;have cN:∀k cs t fz,h1[k]? =some (.cells cs t fz)→t≠3→¬vt.ownBlock=some k:=fun k cs t fz hb ht=>bK Gh hb (Ne.symm ht);have q2:=ay f hq (cN _ _ _ _ hq (by decide));have r2:eF h2 g l s:=H.rd.fr f (cN _ _ _ _ H.rd.1 (by decide));have b2:=ay f H.bx (cN _ _ _ _ H.bx (by decide));have f2:Fr (fun k=>k=q) h2 (setAt h2 ⟨q,7,none⟩ v2):=Fr.set (S:=fun k=>k=q) _ _ _ fun _=>rfl;have b1:=bu (o:=7) q2 v2;have zP:=Gg.fr f fun k hk qM=>Gi k hk qM;refine⟨Fr.trans (Fr.trans H.fr f (fun _ _ h=>h) (fun k hk h=>by have:=(Gh.lt k h).1;omega)) f2 (fun _ _ h=>h) (fun _ _ h=>axb h),r2.fr f2 (Ne.symm e1),⟨vk,v2,b1,?_,?_,?_⟩,ay f2 b2 e3⟩
 ·exact zP.fr f2 fun k hk hS=>by subst hS;exact bK zP q2 (by decide) hk
 ·refine dR (qJ.fr f2 fun k hk hS=>?_) (by simp) (by simp[eI])
  subst hS;exact bK qJ q2 (by decide) hk
 ·intro k hk qM
  rcases fresh k qM with hh|hh
  ·exact Gi k hk hh
  ·have:=(Gg.lt k hk).2;omega
theorem DS.push(H:DS h h1 g q bd l x s)(o:Obj):DS h (h1.push o) g q bd l x s:=by
 have E:=Ext.push h1 o;exact⟨Fr.trans H.fr E (fun _ _ h=>h) (fun _ _ h=>h.elim),H.rd.fr E id,H.xr.fr E id (fun _ _ h=>h.elim),ay E H.bx id⟩
end
theorem RP{l:az}{a k:Nat}{s:RS}(h:s.p%4=0∨s.e≠0):xj l a k s=s:=by
 cases k with
 |zero=>rfl
 |succ k=>rw[xj,awa h]
theorem RU{f:Nat}{l:az}{a r:Nat}{c:KT}(h:c.2.2.e≠0):mF f l a r c=c:=by
 cases r with
 |zero=>rfl
 |succ r=>rw[mF,awa h]
theorem QG{l:az}{s:RS}(h:(fE l 4 s).2.e=0):s.e=0∧(fE l 4 s).2.p=s.p+4:=by
 have h':(cV l 4 s).2.e=0:=h
 show s.e=0∧(cV l 4 s).2.p=s.p+4
 unfold cV at h'⊢
 split at h'
 ·rename_i hh;exact aww h' hh
 ·rename_i hh
  have h0:s.e=0:=by omega
  split at h'
  ·cases h'
  ·rename_i h2
   rw[av9 (by omega),av9 h2];exact⟨h0,rfl⟩
section
variable{h:ar}{g q:Nat}{l:az}{s:RS}
theorem UR(x:In)(a f:Nat)(hf:f=10∨f=11)(hl:l.length≤1073741824)(ha:x.at'=(a:Int))(II:a≤l.length)(hk:x.keys=[])(ht:x.bX=[])
 (H:eF h g l s)(hq:h[q]? =some (.cells (fu x nS nS).toArray 204 (0,0))):
 aF Tryz.prog 311 #[.agg #[aE g],aE q,ao f] h fun _ h'=>
  Fr (fun k=>k=g∨k=q) h h'∧eF h' g l (sM x a f l s).2∧XR h' h.size q (sM x a f l s).1:=by
 refine Ey (args:=[.agg #[aE g],aE q,ao f]) rfl ?_;generalize hY:sM x a f l s=Y;simp only[cE,ae,seval];refine cT ?_;have D0:DS h (h.push (.cells #[aE g] 284)) g q h.size l x s:=
  ⟨Fr.mono (Ext.push h _) (fun _ _ h=>h.elim),H.fr (Ext.push h _) id,⟨_,_,dw hq,by rw[hk];exact Own.nil,by rw[ht];exact Own.nil,by intro k hk;simp[Value.ownBlock]at hk⟩,by simp⟩
 simp only[ae,seval];generalize h.push _=h1 at*;refine aG [1,2,3] (fun m ρ hc=>∃(k:Nat)(s':RS),m=k∧ρ=[(1,aE q),(2,ao f),(3,aE h.size)]∧DS h hc g q h.size l x s'∧xj l a k s'=xj l a 4 s∧(s'.e≠0∨(4-s'.p%4)%4≤k)) ?_ ?_
 ·simp only[ae,seval]
  exact⟨_,4,s,rfl,D0,rfl,by omega⟩
 rintro m ρ hc⟨k,s1,rfl,rfl,D1,zQ,mY⟩;have fO:=D1.cells;rw[ha]at fO;simp only[cE,ae,seval,fO];refine aj rfl (xh D1.rd) ?_;intro v2 h2 nj;have e2:=nj.1;subst e2;have DC:=nj.2;have abp:s1.p%4=0∨s1.e≠0→xj l a 4 s=s1:=fun hd=>by rw[←zQ,RP hd]
 by_cases eK:s1.p%4=0∨s1.e≠0
 case neg=>
  have hm4:¬(s1.p:Int)%4=0:=by omega
  have DF:s1.e=0:=by omega
  simp(disch:=omega)only[ae,seval,DC,fO,av7 hm4];refine aj rfl (jB D1.rd) ?_;intro v3 h3 jQ;have e3:=jQ.1;subst e3;have qj:=jQ.2;rw[DF]at qj;simp only[cE,ae,seval,qj,fO];refine aj rfl (dU 1 hl (by omega) D1.rd) ?_;intro v4 h4 jU;have D4:=D1.step jU.1 jU.2.1;have qZ:=jU.2.2;have lF:=D4.cells;rw[ha]at lF;obtain⟨k',rfl⟩:∃k',m=k'+1:=⟨m-1,by omega⟩;rw[xj,av9 eK]at zQ;have ag1:=Oi l s1;by_cases hz:(aA l 1 s1).1=0
  ·have nl:(((aA l 1 s1).1:Nat):Int)=0:=by omega
   rw[av9 (by simp[hz])]at zQ;simp only[ae,seval,qZ,av8 nl];refine⟨_,Nat.lt_succ_self _,k',_,rfl,D4,zQ,?_⟩;by_cases aV:s1.p<l.length
   ·have:=(ag1 aV DF).1
    omega
   ·left
    unfold aA cV;rw[av9 (by omega),awa (by omega)];exact(show(1:Nat)≠0 by decide)
  ·have nl:¬(((aA l 1 s1).1:Nat):Int)=0:=by omega
   rw[awa (by simpa using hz)]at zQ;simp only[cE,ae,seval,qZ,av7 nl,lF];refine aj rfl (fA 15 a D4.rd) ?_;intro v5 h5 tV;have D5:=D4.step tV.1 tV.2;simp only[ae,seval];refine⟨_,Nat.lt_succ_self _,k',_,rfl,D5,zQ,axa ?_⟩;unfold cg
   split
   ·exact(show(15:Nat)≠0 by decide)
   ·assumption
 have xW:=abp eK;unfold sM at hY;rw[xW]at hY;simp only at hY;have tail:∀(v3:Value)(pv:Bool),True:=fun _ _=>trivial;by_cases hm4:s1.p%4=0
 case' pos=>
  have RV:(s1.p:Int)%4=0:=by omega
  simp(disch:=omega)only[cE,ae,seval,DC,fO,av8 RV]
 case' neg=>
  have RV:¬(s1.p:Int)%4=0:=by omega
  have Wl:(s1.e≠0)=True:=av8 (by omega);simp(disch:=omega)only[ae,seval,DC,fO,av7 RV];refine aj rfl (jB D1.rd) ?_;intro v3 h3 jQ;have e3:=jQ.1;subst e3;have qj:=jQ.2;simp only[Wl,awY]at qj;simp only[cE,ae,seval,qj,fO]
 all_goals
  refine aj rfl (mS 4 (by omega) hl D1.rd) ?_;intro v4 h4 jU;have D4:=D1.step jU.1 jU.2.1;have qZ:=jU.2.2;have lF:=D4.cells;rw[ha]at lF;have b4:=k9 l 4 s1 (by omega);generalize hT:fE l 4 s1=T at*;obtain⟨t0,s4⟩:=T;simp only at qZ hY b4 D4;simp(disch:=omega)only[ae,seval,qZ,lF];refine aU dS rfl rfl (by decide) ?_;simp only[ae,seval];have qN:=(D4.push (.cells #[ao ((a:Int)+t0)] 3)).cells;obtain⟨vk4,vt4,q4,qP,xX,_⟩:=D4.xr;have c7:cellAt (h4.push (.cells #[ao ((a:Int)+t0)] 3)) ⟨q,7,none⟩=some vt4:=by rw[au (dw q4)];rfl
  refine aC lP rfl rfl rfl rfl rfl c7 ((D4.push _).fW 7) ?_;have D6:=D4.RL ((a:Int)+t0);generalize setAt (h4.push (.cells #[ao ((a:Int)+t0)] 3)) ⟨q,7,none⟩ (.slice (some ⟨h4.size,0,none⟩) 1 1)=h6 at*;have Oj:=D6.cells;rw[ha]at Oj;simp only[cE,ae,seval,Oj];refine aj rfl (mS 4 (by omega) hl D6.rd) ?_;intro v7 h7 oK;have D7:=D6.step oK.1 oK.2.1;have Gj:=oK.2.2;have b7:=k9 l 4 s4 (by omega);generalize hT7:fE l 4 s4=T7 at*;obtain⟨n,s7⟩:=T7;simp only at Gj hY b7 D7;have KP:=D7.cells;rw[ha]at KP;have rows:∀(x2:In)(cnt:Nat)(s9:RS)(h9:ar),x2.at'=(a:Int)→x2.keys=[]→x2.bX=[(a:Int)+t0]→cnt≤8589934592→DS h h9 g q h.size l x2 s9→
   ({x2 with keys:=(mF f l a cnt ([],[(a:Int)+t0],s9)).1,bX:=(mF f l a cnt ([],[(a:Int)+t0],s9)).2.1},(mF f l a cnt ([],[(a:Int)+t0],s9)).2.2)=Y→
   ∀ρ0:Env,Env.keep [1,2,3,6,8] ρ0=[(1,aE q),(2,ao f),(3,aE h.size),(6,ao cnt),(8,ao 0)]→
   Cd.vc Tryz.prog (.loop LH) (Ex.Xm 2 (gP Tryz.prog [] fun _ h'=>Fr (fun k=>k=g∨k=q) h h'∧eF h' g l Y.2∧XR h' h.size q Y.1)) ρ0 h9:=by
   intro x2 cnt s9 h9 Qs qM YU lQ D9 hY2 ρ0 hρ;have si:f=10∨f=11:=hf;generalize hX:mF f l a cnt ([],[(a:Int)+t0],s9)=X at*;refine aG [1,2,3,6,8] (fun m ρ hc=>∃(i r:Nat)(c:KT),m=r∧i+r=cnt∧(f=11→c.1.length=i)∧c.1.length≤i∧c.2.1.length=i+1∧ρ=[(1,aE q),(2,ao f),(3,aE h.size),(6,ao cnt),(8,ao i)]∧
    DS h hc g q h.size l {x2 with keys:=c.1,bX:=c.2.1} c.2.2∧mF f l a r c=X∧(c.2.2.e=0→4*i+s9.p≤c.2.2.p)) ?_ ?_
   ·rw[hρ]
    refine⟨_,0,cnt,([],[(a:Int)+t0],s9),rfl,by omega,fun _=>rfl,awp _,rfl,rfl,?_,hX,fun _=>by simp⟩;have e2:({x2 with keys:=[],bX:=[(a:Int)+t0]}:In)=x2:=by cases x2;simp_all
    show DS h h9 g q h.size l {x2 with keys:=[],bX:=[(a:Int)+t0]} s9
    rw[e2];exact D9
   rintro m ρ hc⟨i,r,⟨ks,ts,s1⟩,rfl,hir,PZ,pD,KM,rfl,D1,hR,RX⟩;simp only at PZ pD KM D1 hR RX;have fO:=D1.cells;simp only[Qs]at fO;have US:X=(ks,ts,s1)→Fr (fun k=>k=g∨k=q) h hc∧eF hc g l Y.2∧XR hc h.size q Y.1:=by
    intro hX;rw[←hY2,hX];exact⟨D1.fr,D1.rd,D1.xr⟩
   cases m with
   |zero=>
    have aV:¬(i:Int)<cnt:=by omega
    have he:=US hR.symm;simp only[cE,ae,seval,aV];exact he
   |succ r=>
    have aV:(i:Int)<cnt:=by omega
    simp only[cE,ae,seval,aV,fO];refine aj rfl (jB D1.rd) ?_;intro v3 h3 jQ;have e3:=jQ.1;subst e3;have qj:=jQ.2;by_cases vj:s1.e≠0
    ·rw[RU (by simpa using vj)]at hR
     have he:=US hR.symm;rw[awh vj]at qj;simp only[ae,seval,qj];exact he
    have DF:s1.e=0:=by omega
    rw[awg vj]at qj;rw[mF,av9 (by simpa using vj)]at hR;simp only at hR;have qY:i≤1073741824:=by
     have h1:=RX DF;have h2:=D1.rd.2;omega
    rcases si with rfl|rfl
    case' inl=>
     have RY:Co 10 l a ks s1=(ks,s1):=rfl;rw[RY]at hR;simp only at hR;have Gk:ks.length≤i+1:=by omega
     have Jw:10=11→ks.length=i+1:=by omega
     have MR:s1.e=0→4*i+s9.p≤s1.p:=RX;rw[show((10:Nat):Int)=10 from rfl];have D5:=D1;obtain⟨vk5,vt5,q5,nq,rN,RZ⟩:=id D5.xr;have c7:=au (j:=7) q5;simp only[fu,awl,awA,awB]at c7;have qN:=D5.cells;simp only[Qs]at qN;simp only[cE,ae,seval,qj,qN,c7,Int.reduceEq];obtain⟨Wm,R3⟩:∃y,y=ks:=⟨_,rfl⟩;rw[←R3]at hR Gk Jw D5 nq q5;obtain⟨s2,j8⟩:∃y,y=s1:=⟨_,rfl⟩;rw[←j8]at hR MR D5
    case' inr=>
     rw[show((11:Nat):Int)=11 from rfl];have UT:=PZ rfl;simp only[cE,ae,seval,qj,fO,];refine aj rfl (mS 4 (by omega) hl D1.rd) ?_;intro v4 h4 jU;have D4:=D1.step jU.1 jU.2.1;have qZ:=jU.2.2;have nh:=QG (l:=l) (s:=s1);have RY:Co 11 l a ks s1=(ks++[(fE l 4 s1).1],if ks≠[]∧(fE l 4 s1).1≤ks.getD (ks.length-1) 0 then cg 15 a (fE l 4 s1).2 else(fE l 4 s1).2):=rfl;rw[RY]at hR;generalize fE l 4 s1=T at*;obtain⟨kv,s4⟩:=T;simp only at hR qZ D4 nh;have lF:=D4.cells;simp only[Qs]at lF;by_cases hi0:i=0
     case' pos=>
      have Ra:ks=[]:=List.eq_nil_of_length_eq_zero (by omega);have MS:¬(0:Int)<(i:Int):=by omega
      rw[av9 (by simp[Ra])]at hR;obtain⟨s2,j8⟩:∃y,y=s4:=⟨_,rfl⟩;have ag2:s2.e=0→4*i+s9.p≤s2.p:=by
       rw[j8];intro h0;have:=nh h0;have:=RX DF;omega
      have D5:=D4;rw[←j8]at D5 hR;obtain⟨vk5,vt5,q5,nq,rN,RZ⟩:=id D5.xr;have c6:=au (j:=6) q5;simp only[fu,awl,awA,awB]at c6;simp only[cE,ae,seval,qZ,c6,MS]
     case' neg=>
      have MS:(0:Int)<(i:Int):=by omega
      have Ra:ks≠[]:=by intro hh;rw[hh]at UT;simp at UT;omega
      have e1:(i:Int)-1=((i-1:Nat):Int):=by omega
      obtain⟨vk4,vt4,q4,qP,xX,dj4⟩:=id D4.xr;have c64:=au (j:=6) q4;simp only[fu,awl,awA,awB]at c64;simp only at qP;obtain⟨kb,ko,kc,hes,TX,_⟩:=qP.dQ.at (i:=i-1) (by omega);subst hes;have k0:cellAt h4 ⟨kb,ko+(i-1),none⟩=some (ao (ks.getD (i-1) 0)):=by
       have:=TX 0 (ao (ks.getD (i-1) 0)) (by simp[eI,show i-1<ks.length by omega]);simpa using this
      have apW:((i-1:Nat):Int)<(ks.length:Int):=by omega
      rw[show ks.length-1=i-1 by omega]at hR;by_cases hle:kv≤ks.getD (i-1) 0
      case' pos=>
       rw[awa ⟨Ra,hle⟩]at hR;simp(disch:=omega)only[cE,ae,seval,qZ,lF,c64,MS,e1,k0,hle];refine aj rfl (fA 15 a D4.rd) ?_;intro v5 h5 tV;have D5:=D4.step tV.1 tV.2;obtain⟨s2,j8⟩:∃y,y=cg 15 a s4:=⟨_,rfl⟩;have ag2:s2.e=0→4*i+s9.p≤s2.p:=by
        rw[j8];unfold cg;intro h0
        split at h0
        ·cases h0
        ·contradiction
       rw[←j8]at D5 hR;obtain⟨vk5,vt5,q5,nq,rN,RZ⟩:=id D5.xr;have c6:=au (j:=6) q5;simp only[fu,awl,awA,awB]at c6;simp only[cE,ae,seval,c6]
      case' neg=>
       rw[av9 (fun hh=>hle hh.2)]at hR;obtain⟨s2,j8⟩:∃y,y=s4:=⟨_,rfl⟩;have ag2:s2.e=0→4*i+s9.p≤s2.p:=by
        rw[j8];intro h0;have:=nh h0;have:=RX DF;omega
       have D5:=D4;rw[←j8]at D5 hR;have q5:=q4;have nq:=qP;have rN:=xX;have RZ:=dj4;simp(disch:=omega)only[cE,ae,seval,qZ,c64,MS,e1,k0,hle]
     all_goals
      refine aU dS rfl rfl (by decide) ?_;simp only[ae,seval];refine j5 (m:=1) dS rfl rfl (nq.push _) rfl (bV (vs:=[ao kv])) (by simp[oneCell]) (by show ks.length+1≤_;omega) (by show(ks.length+1)*_≤_;omega) (by have:=D5.size;simp;omega) ?_;intro v6 h6 kx Ol _ Wn;obtain⟨a6,c6',rfl,_⟩:=kx.dQ.2;have D5p:=D5.push (.cells #[ao kv] 3);have q5p:=dw (o':= .cells #[ao kv] 3) q5;have q6:=ay Ol q5p (bK (nq.push _) q5p (by decide));simp only[ae,seval];refine aC lP rfl rfl rfl rfl rfl (by rw[au q6];rfl) (by simp[frozenAt,q6]) ?_;have D7:=D5p.agX q5p (nq.push _) (rN.push _) RZ kx Ol Wn;generalize setAt h6 ⟨q,6,none⟩ _=h7 at*;have D5:DS h h7 g q h.size l {x2 with keys:=ks++[kv],bX:=ts} s2:=D7;have Gk:(ks++[kv]).length≤i+1:=by simp;omega
      have Jw:11=11→(ks++[kv]).length=i+1:=fun _=>by simp;omega
      have MR:=ag2;obtain⟨Wm,R3⟩:∃y,y=ks++[kv]:=⟨_,rfl⟩;rw[←R3]at hR Gk Jw D5;obtain⟨vk5,vt5,q5,nq,rN,RZ⟩:=id D5.xr;have c7:=au (j:=7) q5;simp only[fu,awl,awA,awB]at c7;have qN:=D5.cells;simp only[Qs]at qN;simp only[cE,ae,seval,qN,c7]
    all_goals
     refine aj rfl (mS 4 (by omega) hl D5.rd) ?_;intro v8 h8 KQ;have D8:=D5.step KQ.1 KQ.2.1;have Wo:=KQ.2.2;have f8:=KQ.1;have q8:=ay f8 q5 D5.gq.1;have R4:=nq.fr f8 (fun k hk hS=>by subst hS;exact bK nq D5.rd.1 (by decide) hk);have AW:=rN.fr f8 (fun k hk hS=>by subst hS;exact bK rN D5.rd.1 (by decide) hk);have b8:=k9 l 4 s2 (by omega);have hs8:=QG (l:=l) (s:=s2);generalize fE l 4 s2=T8 at*;obtain⟨tv,s8⟩:=T8;simp only at hR Wo D8 hs8 b8 R4 AW;have c78:=au (j:=7) q8;simp only[fu,awl,awA,awB]at c78;have TY:=D8.cells;simp only[Qs]at TY;simp(disch:=omega)only[ae,seval,Wo,TY,c78];refine aU dS rfl rfl (by decide) ?_;simp only[ae,seval];refine⟨by rw[au (dw q8)];rfl,?_⟩;refine j5 (m:=1) dS rfl rfl (AW.push _) rfl (bV (vs:=[ao ((a:Int)+tv)])) (by simp[oneCell]) (by omega) (by omega) (by have:=D8.size;simp;omega) ?_;intro v9 h9' zR fr9 _ Wq;obtain⟨a9,c9,rfl,_⟩:=zR.dQ.2;have D8p:=D8.push (.cells #[ao ((a:Int)+tv)] 3);have q8p:=dw (o':= .cells #[ao ((a:Int)+tv)] 3) q8;have q9:=ay fr9 q8p (bK (AW.push _) q8p (by decide));simp only[ae,seval];refine aC lP rfl rfl rfl rfl rfl (by rw[au q9];rfl) (by simp[frozenAt,q9]) ?_;have D9:=D8p.agZ q8p (R4.push _) (AW.push _) RZ zR fr9 Wq;generalize setAt h9' ⟨q,7,none⟩ _=d9 at*;simp(disch:=omega)only[cE,ae,seval];have vl:s8.e=0→4*(i+1)+s9.p≤s8.p:=by
      intro h0;have h8:=hs8 h0;have h9:=MR h8.1;omega
     have tW:DS h d9 g q h.size l {x2 with keys:=Wm,bX:=ts++[(a:Int)+tv]} s8:=D9
     first
      |exact⟨_,Nat.lt_succ_self _,i+1,r,(Wm,ts++[(a:Int)+tv],s8),rfl,by omega,Jw rfl,Gk,by simp[KM],by simp,tW,hR,vl⟩
      |exact⟨_,Nat.lt_succ_self _,i+1,r,(Wm,ts++[(a:Int)+tv],s8),rfl,by omega,Gk,by simp[KM],by simp,tW,hR,vl⟩
  rcases hf with rfl|rfl
  ·rw[awa rfl]at hY
   rw[show((10:Nat):Int)=10 from rfl]at*;simp only[cE,ae,seval,Gj,];refine aC dI rfl rfl rfl rfl rfl KP.2.2.2.2.2.1 (D7.fW 5) ?_;have D8:=D7.set 5 (ao n) {x with bX:=[(a:Int)+t0],low:=n} rfl rfl (fun _ _=>rfl);generalize setAt h7 ⟨q,5,none⟩ (ao n)=h8 at*;have TY:=D8.cells;rw[ha]at TY;simp only[cE,ae,seval,TY];refine aj rfl (mS 4 (by omega) hl D8.rd) ?_;intro v9 h9 AX;have D9:=D8.step AX.1 AX.2.1;have KR:=AX.2.2;have b9:=k9 l 4 s7 (by omega);generalize hT9:fE l 4 s7=T9 at*;obtain⟨hi,s9⟩:=T9;simp only at KR hY b9 D9;have YV:=D9.cells;rw[ha]at YV;by_cases R7:hi<n
   ·rw[awa R7]at hY
    subst hY;simp only[cE,ae,seval,KR,YV,R7];refine aj rfl (fA 15 a D9.rd) ?_;intro v10 d9 Gl;have tW:=D9.step Gl.1 Gl.2;simp only[ae,seval];exact⟨tW.fr,tW.rd,tW.xr⟩
   ·rw[av9 R7]at hY
    obtain⟨cnt,Lm⟩:∃cnt:Nat,hi-n+1=(cnt:Int):=⟨(hi-n+1).toNat,by omega⟩;rw[Lm,Int.toNat_natCast]at hY;have zS:¬(cnt:Int)<0:=by omega
    simp(disch:=omega)only[cE,ae,seval,KR,YV,R7,Lm,zS];refine rows {x with bX:=[(a:Int)+t0],low:=n} cnt s9 h9 ha hk rfl (by omega) D9 hY _ ?_;simp only[vs,↓reduceIte,Nat.reduceEqDiff,]
  ·rw[av9 (by decide)]at hY
   rw[show((11:Nat):Int)=11 from rfl]at*;by_cases zS:n<0
   ·rw[awa zS]at hY
    subst hY;simp only[cE,ae,seval,Gj,KP,zS,Int.reduceEq,];refine aj rfl (fA 15 a D7.rd) ?_;intro v10 d9 Gl;have tW:=D7.step Gl.1 Gl.2;simp only[ae,seval];exact⟨tW.fr,tW.rd,tW.xr⟩
   ·rw[av9 zS]at hY
    obtain⟨cnt,rfl⟩:∃cnt:Nat,n=(cnt:Int):=⟨n.toNat,by omega⟩;rw[Int.toNat_natCast]at hY;simp only[cE,ae,seval,Gj,zS,Int.reduceEq,];refine rows {x with bX:=[(a:Int)+t0]} cnt s7 h7 ha hk rfl (by omega) D7 hY _ ?_;simp only[vs,↓reduceIte,Nat.reduceEqDiff,]
end
end
section
theorem XR.mono{h:ar}{base QU q:Nat}{x:In}(H:XR h base q x)(hb:QU≤base):XR h QU q x:=by
 obtain⟨vk,vt,h1,h2,h3,h4⟩:=H;exact⟨vk,vt,h1,h2.mono hb,h3.mono hb,h4⟩
section
variable{h:ar}{g q:Nat}{l:az}{s:RS}
theorem DS.start{x:In}(hk:x.keys=[])(ht:x.bX=[])(H:eF h g l s)(hq:h[q]? =some (.cells (fu x nS nS).toArray 204 (0,0))):
 DS h (h.push (.cells #[aE g] 284)) g q h.size l x s:=
 ⟨Fr.mono (Ext.push h _) (fun _ _ h=>h.elim),H.fr (Ext.push h _) id,⟨_,_,dw hq,by rw[hk];exact Own.nil,by rw[ht];exact Own.nil,by intro k hk;simp[Value.ownBlock]at hk⟩,by simp⟩
theorem rO(x:In)(a f:Nat)(hf:f=0∨f=10∨f=11∨f=12∨f=13∨f=14)(hl:l.length≤1073741824)(ha:x.at'=(a:Int))(II:a≤l.length)(hk:x.keys=[])(ht:x.bX=[])
 (H:eF h g l s)(hq:h[q]? =some (.cells (fu x nS nS).toArray 204 (0,0))):
 aF Tryz.prog 257 #[.agg #[aE g],aE q,ao f] h fun _ h'=>
  Fr (fun k=>k=g∨k=q) h h'∧eF h' g l (nH x a f l s).2∧XR h' h.size q (nH x a f l s).1:=by
 refine JR (args:=[.agg #[aE g],aE q,ao f]) rfl ?_;generalize hY:nH x a f l s=Y;unfold nH at hY;simp only[dV,ae,seval];refine cT ?_;have D0:=DS.start hk ht H hq;have q0:=dw (o':= .cells #[aE g] 284) hq;have Ws:h.size≤(h.push (.cells #[aE g] 284)).size:=by simp
 simp only[dV,ae,seval];generalize h.push _=h1 at*;have oy:=D0.cells;rw[ha]at oy;rcases hf with rfl|rfl|rfl|rfl|rfl|rfl
 ·simp only[Nat.reduceEqDiff,aw1,aw6]at hY
  subst hY;rw[show((0:Nat):Int)=0 from rfl];simp only[dV,ae,seval,Int.reduceEq,];exact⟨D0.fr,D0.rd,D0.xr⟩
 ·simp only[Nat.reduceEqDiff,aw1,aw0,true_or]at hY
  rw[show((10:Nat):Int)=10 from rfl];simp only[dV,ae,seval,oy,];refine aj rfl (UR x a 10 (axa rfl) hl ha II hk ht D0.rd q0) ?_;intro v2 h2 nj;rw[hY]at nj;simp only[ae,seval];exact⟨Fr.trans D0.fr nj.1 (fun _ _ h=>h) (fun _ _ h=>h),nj.2.1,nj.2.2.mono Ws⟩
 ·simp only[Nat.reduceEqDiff,aw1,aw0,or_true]at hY
  rw[show((11:Nat):Int)=11 from rfl];simp only[dV,ae,seval,oy,Int.reduceEq,];refine aj rfl (UR x a 11 (axb rfl) hl ha II hk ht D0.rd q0) ?_;intro v2 h2 nj;rw[hY]at nj;simp only[ae,seval];exact⟨Fr.trans D0.fr nj.1 (fun _ _ h=>h) (fun _ _ h=>h),nj.2.1,nj.2.2.mono Ws⟩
 ·simp only[Nat.reduceEqDiff,aw1,aw0,aw6]at hY
  rw[show((12:Nat):Int)=12 from rfl];simp only[dV,ae,seval,oy,Int.reduceEq,];refine aj rfl (dU 2 hl (by omega) D0.rd) ?_;intro v2 h2 nj;have D2:=D0.step nj.1 nj.2.1;have DC:=nj.2.2;have jG:=D2.cells;rw[ha]at jG;simp only[ae,seval,jG,DC];refine aj rfl (dU 1 hl (by omega) D2.rd) ?_;intro v3 h3 jQ;have D3:=D2.step jQ.1 jQ.2.1;have qj:=jQ.2.2;have vn:=D3.cells;rw[ha]at vn;have bn:(aA l 1 (aA l 2 s).2).1<256:=dJ;generalize aA l 2 s=A at*;obtain⟨av,s2⟩:=A;simp only at*;generalize aA l 1 s2=B at*;obtain⟨bv,s3⟩:=B;simp only at*;simp only[ae,seval,qj];refine aC dI rfl rfl rfl rfl rfl vn.2.2.2.1 (D3.fW 3) ?_;have D4:=D3.set 3 (ao av) {x with A:=av} rfl rfl (fun _ _=>rfl);generalize setAt h3 ⟨q,3,none⟩ _=h4 at*;have lF:=D4.cells;rw[ha]at lF;simp only[ae,seval,];refine aC dI rfl rfl rfl rfl rfl lF.2.2.2.2.1 (D4.fW 4) ?_;have D5:=D4.set 4 (ao bv) {x with A:=av,B:=bv} rfl rfl (fun _ _=>rfl);generalize setAt h4 ⟨q,4,none⟩ _=h5 at*;have qN:=D5.cells;rw[ha]at qN;simp only[dV,ae,seval,qN];refine aj rfl (dU 1 hl (by omega) D5.rd) ?_;intro v6 h6 oz;have D6:=D5.step oz.1 oz.2.1;have Wt:=oz.2.2;have Oj:=D6.cells;rw[ha]at Oj;generalize aA l 1 s3=Cc at*;obtain⟨cv,s6⟩:=Cc;simp only at*;by_cases Wd:cv=0
  ·have acF:(cv:Int)=0:=by omega
   by_cases Wh:bv=0
   ·have Pw:(bv:Int)=0:=by omega
    rw[awa (axb Wh)]at hY;subst hY;simp only[dV,ae,seval,Wt,Oj,av8 acF,av8 Pw];refine aj rfl (fA 15 a D6.rd) ?_;intro v7 h7 oK;have D7:=D6.step oK.1 oK.2;simp only[ae,seval];exact⟨D7.fr,D7.rd,D7.xr⟩
   ·have Pw:¬(bv:Int)=0:=by omega
    rw[av9 (by simp[Wd,Wh])]at hY;subst hY;simp only[ae,seval,Wt,Oj,av8 acF,av7 Pw];exact⟨D6.fr,D6.rd,D6.xr⟩
  ·have acF:¬(cv:Int)=0:=by omega
   rw[awa (axa Wd)]at hY;subst hY;simp only[dV,ae,seval,Wt,Oj,av7 acF];refine aj rfl (fA 15 a D6.rd) ?_;intro v7 h7 oK;have D7:=D6.step oK.1 oK.2;simp only[ae,seval];exact⟨D7.fr,D7.rd,D7.xr⟩
 ·simp only[Nat.reduceEqDiff,aw1,aw0,aw6]at hY
  rw[show((13:Nat):Int)=13 from rfl];simp only[dV,ae,seval,oy,Int.reduceEq,];refine aj rfl (dU 1 hl (by omega) D0.rd) ?_;intro v2 h2 nj;have D2:=D0.step nj.1 nj.2.1;have DC:=nj.2.2;have jG:=D2.cells;rw[ha]at jG;generalize aA l 1 s=A at*;obtain⟨av,s2⟩:=A;simp only at*;simp only[ae,seval,DC];refine aC dI rfl rfl rfl rfl rfl jG.2.2.2.1 (D2.fW 3) ?_;have D4:=D2.set 3 (ao av) {x with A:=av} rfl rfl (fun _ _=>rfl);generalize setAt h2 ⟨q,3,none⟩ _=h4 at*;have lF:=D4.cells;rw[ha]at lF;by_cases g1:av<4
  ·have g1':(av:Int)<4:=by omega
   rw[awa (axa g1)]at hY;subst hY;simp only[dV,ae,seval,lF,g1'];refine aj rfl (fA 15 a D4.rd) ?_;intro v7 h7 oK;have D7:=D4.step oK.1 oK.2;simp only[ae,seval];exact⟨D7.fr,D7.rd,D7.xr⟩
  ·have g1':¬(av:Int)<4:=by omega
   by_cases g2:11<av
   ·have g2':(11:Int)<(av:Int):=by omega
    rw[awa (axb g2)]at hY;subst hY;simp only[dV,ae,seval,lF,g1',g2'];refine aj rfl (fA 15 a D4.rd) ?_;intro v7 h7 oK;have D7:=D4.step oK.1 oK.2;simp only[ae,seval];exact⟨D7.fr,D7.rd,D7.xr⟩
   ·have g2':¬(11:Int)<(av:Int):=by omega
    rw[av9 (by omega)]at hY;subst hY;simp only[dV,ae,seval,lF,g1',g2'];exact⟨D4.fr,D4.rd,D4.xr⟩
 ·simp only[Nat.reduceEqDiff,aw1,aw0,aw6]at hY
  rw[show((14:Nat):Int)=14 from rfl];simp only[dV,ae,seval,oy,Int.reduceEq,];refine aj rfl (dU 2 hl (by omega) D0.rd) ?_;intro v2 h2 nj;have D2:=D0.step nj.1 nj.2.1;have DC:=nj.2.2;have jG:=D2.cells;rw[ha]at jG;simp only[ae,seval,jG,DC];refine aj rfl (dU 1 hl (by omega) D2.rd) ?_;intro v3 h3 jQ;have D3:=D2.step jQ.1 jQ.2.1;have qj:=jQ.2.2;have vn:=D3.cells;rw[ha]at vn;generalize aA l 2 s=A at*;obtain⟨av,s2⟩:=A;simp only at*;generalize aA l 1 s2=B at*;obtain⟨bv,s3⟩:=B;simp only at*;simp only[ae,seval,qj];refine aC dI rfl rfl rfl rfl rfl vn.2.2.2.1 (D3.fW 3) ?_;have D4:=D3.set 3 (ao av) {x with A:=av} rfl rfl (fun _ _=>rfl);generalize setAt h3 ⟨q,3,none⟩ _=h4 at*;have lF:=D4.cells;rw[ha]at lF;simp only[ae,seval,];refine aC dI rfl rfl rfl rfl rfl lF.2.2.2.2.1 (D4.fW 4) ?_;have D5:=D4.set 4 (ao bv) {x with A:=av,B:=bv} rfl rfl (fun _ _=>rfl);generalize setAt h4 ⟨q,4,none⟩ _=h5 at*;have qN:=D5.cells;rw[ha]at qN;by_cases Wh:bv=0
  ·have Pw:(bv:Int)=0:=by omega
   rw[awa Wh]at hY;subst hY;simp only[dV,ae,seval,qN,av8 Pw];refine aj rfl (fA 15 a D5.rd) ?_;intro v7 h7 oK;have D7:=D5.step oK.1 oK.2;simp only[ae,seval];exact⟨D7.fr,D7.rd,D7.xr⟩
  ·have Pw:¬(bv:Int)=0:=by omega
   rw[av9 Wh]at hY;subst hY;simp only[dV,ae,seval,qN,av7 Pw];exact⟨D5.fr,D5.rd,D5.xr⟩
end
end
section
def UU(h:ar)(g:Nat)(l:az)(r:In × RS):Value→ar→Prop:=fun v h'=>Fr (fun k=>k=g) h h'∧eF h' g l r.2∧
 ∃vk vt,v= .agg (fu r.1 vk vt).toArray∧Own h' h.size 3 1 vk r.1.keys.length (eI r.1.keys)∧Own h' h.size 3 1 vt r.1.bX.length (eI r.1.bX)∧∀k,vk.ownBlock=some k→¬vt.ownBlock=some k
theorem aO{P:Program}{τ ρ:Env}{h:ar}{K:Value→ar→Prop}{ty t:TypeId}{cz:Array Value}(hz:fN P t cz){x y:Operand}{b:Nat}{v:Value}{cur:Array Value}{e:TypeId}
 (hx:dC τ ρ x=some (aE b))(hy:dC τ ρ y=some v)(gB:v.cells.size=cz.size)(eY:∀u∈v.cells.toList,oneCell u=true)(hb:h[b]? =some (.cells cur e (0,0)))(apD:cur.size=cz.size)
 (H:∀h',Fr (fun k=>k=b) h h'→h'[b]? =some (.cells v.cells e (0,0))→K undef h'):li P (.store t x y) ty τ ρ h K:=by
 obtain⟨i,z,h1,h2,rfl,h3⟩:=jx hz;refine jv h1 hx hy (by omega) eY hb (by omega) (by intro j _ _;simp) fun h' hf hs ju=>H h' hf ?_;rw[ju];have:cur.toList.drop (0+i.size)=[]:=by rw[List.drop_eq_nil_iff];simp;omega
 rw[this];simp
structure DR(h h':ar)(g q bd rb:Nat)(l:az)(x:In)(s:RS):Prop where
 d:DS h h' g q bd l x s
 rk:h'[rb]? =some (.cells #[ao 0,bH 0, .bool false,ao 0,ao 0,ao 0,nS,nS] 204 (0,0))
 ne:rb≠q
 hq:h.size≤q
 hr:h.size≤rb
section
variable{h h1 h2:ar}{g q bd rb:Nat}{l:az}{x:In}{s s':RS}
theorem DR.rg(H:DR h h1 g q bd rb l x s):rb≠g:=by
 intro e;subst e;have k1:=H.d.rd.1;have k2:=H.rk;rw[k1]at k2;cases k2
theorem DR.step(H:DR h h1 g q bd rb l x s)(f:Fr (fun k=>k=g) h1 h2)(r:eF h2 g l s'):DR h h2 g q bd rb l x s':=⟨H.d.step f r,ay f H.rk H.rg,H.ne,H.hq,H.hr⟩
theorem DR.set(H:DR h h1 g q bd rb l x s)(o:Nat)(v:Value)(x':In)(hk:x'.keys=x.keys)(ht:x'.bX=x.bX)(hv:∀vk vt,(fu x vk vt).toArray.setIfInBounds o v=(fu x' vk vt).toArray):
 DR h (setAt h1 ⟨q,o,none⟩ v) g q bd rb l x' s:=
 ⟨H.d.set o v x' hk ht hv,ay (Fr.set (S:=fun k=>k=q) h1 ⟨q,o,none⟩ v fun _=>rfl) H.rk H.ne,H.ne,H.hq,H.hr⟩
theorem DR.RL(H:DR h h1 g q bd rb l x s)(n:Int):
 DR h (setAt (h1.push (.cells #[ao n] 3)) ⟨q,7,none⟩ (.slice (some ⟨h1.size,0,none⟩) 1 1)) g q bd rb l {x with bX:=[n]} s:=
 ⟨H.d.RL n,ay (Fr.set (S:=fun k=>k=q) _ ⟨q,7,none⟩ _ fun _=>rfl) (dw H.rk) H.ne,H.ne,H.hq,H.hr⟩
theorem DR.more(H:DR h h1 g q bd rb l x s){x':In}(f:Fr (fun k=>k=g∨k=q) h1 h2)(r:eF h2 g l s')(xr:XR h2 h1.size q x'):DR h h2 g q bd rb l x' s':=by
 obtain⟨e1,e2,e3⟩:=H.d.gq;exact⟨⟨Fr.trans H.d.fr f (fun _ _ h=>h) (fun _ _ h=>h),r,xr.mono H.d.size,ay f H.d.bx (fun hh=>hh.elim e2 e3)⟩,ay f H.rk (fun hh=>hh.elim H.rg H.ne),H.ne,H.hq,H.hr⟩
theorem DR.fin(H:DR h h1 g q bd rb l x s){vk vt:Value}(hq:h1[q]? =some (.cells (fu x vk vt).toArray 204 (0,0)))(ok:Own h1 h.size 3 1 vk x.keys.length (eI x.keys))(ot:Own h1 h.size 3 1 vt x.bX.length (eI x.bX))(dj:∀k,vk.ownBlock=some k→¬vt.ownBlock=some k)
 (f:Fr (fun k=>k=rb) h1 h2)(hb:h2[rb]? =some (.cells (fu x vk vt).toArray 204 (0,0))):
 ∃v,ld Tryz.prog 204 ⟨rb,0,none⟩ h2=some v∧UU h g l (x,s) v h2:=by
 have h1q:=H.hq;have h1r:=H.hr;refine⟨_,aS gg (aN hb) rfl,Fr.trans H.d.fr f (fun k hk hs=>by omega) (fun k hk hs=>by omega),H.d.rd.fr f (Ne.symm H.rg),vk,vt,rfl,?_,?_,dj⟩
 ·exact ok.fr f fun k hk hS=>by subst hS;exact bK ok H.rk (by decide) hk
 ·exact ot.fr f fun k hk hS=>by subst hS;exact bK ot H.rk (by decide) hk
theorem DR.nJ(D9:DR h h1 g q bd rb l x s){u0:Value}{ρ:Env}:Cd.vc Tryz.prog (Z.S (Go.Vc.rg Tryz.prog lM 34) Cd.ret) (gP Tryz.prog [(2,some 204)] (UU h g l (x,s))) ((0,u0)::(1,aE bd)::(2,aE rb)::(3,aE q)::ρ) h1:=by
 obtain⟨vk9,vt9,q9,DG,DI,Wu⟩:=id D9.d.xr;have bm:=aS gg (aN q9) rfl;simp only[fu]at bm;simp only[cj,ae,seval,bm];refine aO eB rfl rfl rfl ?_ D9.rk rfl ?_
 ·intro u hu
  obtain⟨_,ak,kk,rfl,_⟩:=DG.dQ;obtain⟨_,IJ,kt,rfl,_⟩:=DI.dQ;simp[Value.cells]at hu;rcases hu with rfl|rfl|rfl|rfl|rfl|rfl|rfl|rfl<;>rfl
 intro d9 f10 Wv;obtain⟨v,kF,DC⟩:=D9.fin q9 DG DI Wu f10 Wv;simp only[ae,seval,kF];exact DC
theorem YW(x:In)(a f:Nat)(hc:ar)(u0 u5 u18 u33:Value)(hf:f=1∨f=2∨f=3∨f=4∨f=5∨f=6∨f=7∨f=8∨f=9∨f=0∨f=10∨f=11∨f=12∨f=13∨f=14)(hl:l.length≤1073741824)(ha:x.at'=(a:Int))(II:a≤l.length)(hk:x.keys=[])(ht:x.bX=[])
 (D:DR h hc g q bd rb l x s)(hq:hc[q]? =some (.cells (fu x nS nS).toArray 204 (0,0))):
 Cd.vc Tryz.prog QZ (gP Tryz.prog [(2,some 204)] (UU h g l (nH x a f l s)))
  [(0,u0),(1,aE bd),(2,aE rb),(3,aE q),(4,ao f),(5,u5),(18,u18),(33,u33),(41,undef),(42,undef),(46,undef),(53,undef),(58,undef),(63,undef),(69,undef),(75,undef),(82,undef),(93,undef),(102,undef)] hc:=by
 generalize hY:nH x a f l s=Y;have hY0:=hY;unfold nH at hY;rw[LJ];have oy:=D.d.cells;rw[ha]at oy;obtain⟨sz,gB,alo⟩:∃sz:Nat,(if x.wide=true then 2 else 1)=sz∧(sz=1∨sz=2):=⟨_,rfl,by split<;>simp⟩
 rw[gB]at hY;have hw:(x.wide=true∧((sz:Int)=2))∨(x.wide=false∧((sz:Int)=1)):=by
  cases hx:x.wide with
  |true=>rw[hx]at gB;simp at gB;exact axa ⟨rfl,by omega⟩
  |false=>rw[hx]at gB;simp at gB;exact axb ⟨rfl,by omega⟩
 rcases hw with⟨hw,hs⟩|⟨hw,hs⟩
 case' inl=>
  have fw:=oy.2.2.1;rw[hw]at fw;simp only[cj,ae,seval,fw]
 case' inr=>
  have fw:=oy.2.2.1;rw[hw]at fw;simp only[cj,ae,seval,fw]
 all_goals
  rcases hf with rfl|rfl|rfl|rfl|rfl|rfl|rfl|rfl|rfl|rfl|rfl|rfl|rfl|rfl|rfl
  ·simp only[Nat.reduceEqDiff,aw1,aw0,aw6,]at hY
   rw[show((1:Nat):Int)=1 from rfl];simp only[cj,ae,seval,oy,];refine aj rfl (fA 14 a D.d.rd) ?_;intro v1 h1 dK;have D1:=D.step dK.1 dK.2;have fO:=D1.d.cells;rw[ha]at fO;have D9:=D1;subst hY;exact D9.nJ
  ·simp only[Nat.reduceEqDiff,aw1,aw0,aw6,]at hY
   rw[show((2:Nat):Int)=2 from rfl];simp only[cj,ae,seval,oy,Int.reduceEq,];refine aj rfl (mS 1 (by omega) hl D.d.rd) ?_;intro v1 h1 dK;have D1:=D.step dK.1 dK.2.1;have kF:=dK.2.2;have fO:=D1.d.cells;rw[ha]at fO;generalize fE l 1 s=T1 at*;obtain⟨av,s2⟩:=T1;simp only at*;simp only[ae,seval,kF];refine aC dI rfl rfl rfl rfl rfl fO.2.2.2.1 (D1.d.fW 3) ?_;have D2:=D1.set 3 (ao av) {x with A:=av} rfl rfl (fun _ _=>rfl);generalize setAt _ ⟨q,3,none⟩ _=h2 at*;have jG:=D2.d.cells;rw[ha]at jG;have D9:=D2;subst hY;exact D9.nJ
  ·simp only[Nat.reduceEqDiff,aw1,aw0,aw6,]at hY
   rw[show((3:Nat):Int)=3 from rfl];simp only[cj,ae,seval,oy,Int.reduceEq,];refine aj rfl (mS 2 (by omega) hl D.d.rd) ?_;intro v1 h1 dK;have D1:=D.step dK.1 dK.2.1;have kF:=dK.2.2;have fO:=D1.d.cells;rw[ha]at fO;generalize fE l 2 s=T1 at*;obtain⟨av,s2⟩:=T1;simp only at*;simp only[ae,seval,kF];refine aC dI rfl rfl rfl rfl rfl fO.2.2.2.1 (D1.d.fW 3) ?_;have D2:=D1.set 3 (ao av) {x with A:=av} rfl rfl (fun _ _=>rfl);generalize setAt _ ⟨q,3,none⟩ _=h2 at*;have jG:=D2.d.cells;rw[ha]at jG;have D9:=D2;subst hY;exact D9.nJ
  ·simp only[Nat.reduceEqDiff,aw1,aw0,aw6,]at hY
   rw[show((4:Nat):Int)=4 from rfl];simp only[cj,ae,seval,oy,Int.reduceEq,];refine aj rfl (dU 1 hl (by omega) D.d.rd) ?_;intro v1 h1 dK;have D1:=D.step dK.1 dK.2.1;have kF:=dK.2.2;have fO:=D1.d.cells;rw[ha]at fO;generalize aA l 1 s=T1 at*;obtain⟨av,s2⟩:=T1;simp only at*;simp only[ae,seval,kF];refine aC dI rfl rfl rfl rfl rfl fO.2.2.2.1 (D1.d.fW 3) ?_;have D2:=D1.set 3 (ao av) {x with A:=av} rfl rfl (fun _ _=>rfl);generalize setAt _ ⟨q,3,none⟩ _=h2 at*;have jG:=D2.d.cells;rw[ha]at jG;have D9:=D2;subst hY;exact D9.nJ
  ·simp only[Nat.reduceEqDiff,aw1,aw0,aw6,]at hY
   rw[show((5:Nat):Int)=5 from rfl];simp only[cj,ae,seval,oy,Int.reduceEq,];refine aj rfl (dU 2 hl (by omega) D.d.rd) ?_;intro v1 h1 dK;have D1:=D.step dK.1 dK.2.1;have kF:=dK.2.2;have fO:=D1.d.cells;rw[ha]at fO;generalize aA l 2 s=T1 at*;obtain⟨av,s2⟩:=T1;simp only at*;simp only[ae,seval,kF];refine aC dI rfl rfl rfl rfl rfl fO.2.2.2.1 (D1.d.fW 3) ?_;have D2:=D1.set 3 (ao av) {x with A:=av} rfl rfl (fun _ _=>rfl);generalize setAt _ ⟨q,3,none⟩ _=h2 at*;have jG:=D2.d.cells;rw[ha]at jG;have D9:=D2;subst hY;exact D9.nJ
  ·simp only[Nat.reduceEqDiff,aw1,aw0,aw6,]at hY
   rw[show((6:Nat):Int)=6 from rfl];simp only[cj,ae,seval,oy,Int.reduceEq,];refine dk ?_;simp only[ae,seval];have hU:=dU sz hl (by omega) D.d.rd;rw[hs]at hU;refine hU.mono ?_;intro v1 h1 dK;have D1:=D.step dK.1 dK.2.1;have kF:=dK.2.2;have fO:=D1.d.cells;rw[ha]at fO;generalize aA l sz s=T1 at*;obtain⟨av,s2⟩:=T1;simp only at*;simp only[ae,seval,kF];refine aC dI rfl rfl rfl rfl rfl fO.2.2.2.1 (D1.d.fW 3) ?_;have D2:=D1.set 3 (ao av) {x with A:=av} rfl rfl (fun _ _=>rfl);generalize setAt _ ⟨q,3,none⟩ _=h2 at*;have jG:=D2.d.cells;rw[ha]at jG;have D9:=D2;subst hY;exact D9.nJ
  ·simp only[Nat.reduceEqDiff,aw1,aw0,aw6,]at hY
   rw[show((7:Nat):Int)=7 from rfl];simp only[cj,ae,seval,oy,Int.reduceEq,];refine dk ?_;simp only[ae,seval];have hU:=dU sz hl (by omega) D.d.rd;rw[hs]at hU;refine hU.mono ?_;intro v1 h1 dK;have D1:=D.step dK.1 dK.2.1;have kF:=dK.2.2;have fO:=D1.d.cells;rw[ha]at fO;generalize aA l sz s=T1 at*;obtain⟨av,s2⟩:=T1;simp only at*;simp only[ae,seval,kF];refine aC dI rfl rfl rfl rfl rfl fO.2.2.2.1 (D1.d.fW 3) ?_;have D2:=D1.set 3 (ao av) {x with A:=av} rfl rfl (fun _ _=>rfl);generalize setAt _ ⟨q,3,none⟩ _=h2 at*;have jG:=D2.d.cells;rw[ha]at jG;simp only[cj,ae,seval,jG,];refine dk ?_;simp only[ae,seval];have hU:=mS sz (by omega) hl D2.d.rd;rw[hs]at hU;refine hU.mono ?_;intro v3 h3 jQ;have D3:=D2.step jQ.1 jQ.2.1;have qj:=jQ.2.2;have vn:=D3.d.cells;rw[ha]at vn;generalize fE l sz s2=T3 at*;obtain⟨bv,s3⟩:=T3;simp only at*;simp only[ae,seval,qj];refine aC dI rfl rfl rfl rfl rfl vn.2.2.2.2.1 (D3.d.fW 4) ?_;have D4:=D3.set 4 (ao bv) {x with A:=av,B:=bv} rfl rfl (fun _ _=>rfl);generalize setAt _ ⟨q,4,none⟩ _=h4 at*;have lF:=D4.d.cells;rw[ha]at lF;have D9:=D4;subst hY;exact D9.nJ
  ·simp only[Nat.reduceEqDiff,aw1,aw0,aw6,]at hY
   rw[show((8:Nat):Int)=8 from rfl];have b0:=k9 l 2 s (by omega);simp only[cj,ae,seval,oy,Int.reduceEq,];refine aj rfl (mS 2 (by omega) hl D.d.rd) ?_;intro v1 h1 dK;have D1:=D.step dK.1 dK.2.1;have kF:=dK.2.2;have fO:=D1.d.cells;rw[ha]at fO;generalize fE l 2 s=T1 at*;obtain⟨tv,s2⟩:=T1;simp only at*;simp(disch:=omega)only[ae,seval,fO,kF];refine aU dS rfl rfl (by decide) ?_;simp only[ae,seval];obtain⟨vk4,vt4,q4,qP,xX,_⟩:=D1.d.xr;refine aC lP rfl rfl rfl rfl rfl (by rw[au (dw q4)];rfl) ((D1.d.push _).fW 7) ?_;have D2:=D1.RL ((a:Int)+tv);generalize setAt _ ⟨q,7,none⟩ _=h2 at*;have jG:=D2.d.cells;rw[ha]at jG;have D9:=D2;subst hY;simp only[ae,seval];exact D9.nJ
  ·simp only[Nat.reduceEqDiff,aw1,aw0,aw6,]at hY
   rw[show((9:Nat):Int)=9 from rfl];have b0:=k9 l 4 s (by omega);simp only[cj,ae,seval,oy,Int.reduceEq,];refine aj rfl (mS 4 (by omega) hl D.d.rd) ?_;intro v1 h1 dK;have D1:=D.step dK.1 dK.2.1;have kF:=dK.2.2;have fO:=D1.d.cells;rw[ha]at fO;generalize fE l 4 s=T1 at*;obtain⟨tv,s2⟩:=T1;simp only at*;simp(disch:=omega)only[ae,seval,fO,kF];refine aU dS rfl rfl (by decide) ?_;simp only[ae,seval];obtain⟨vk4,vt4,q4,qP,xX,_⟩:=D1.d.xr;refine aC lP rfl rfl rfl rfl rfl (by rw[au (dw q4)];rfl) ((D1.d.push _).fW 7) ?_;have D2:=D1.RL ((a:Int)+tv);generalize setAt _ ⟨q,7,none⟩ _=h2 at*;have jG:=D2.d.cells;rw[ha]at jG;have D9:=D2;subst hY;simp only[ae,seval];exact D9.nJ
  ·simp only[Nat.reduceEqDiff,aw1,aw6,]at hY
   rw[show((0:Nat):Int)=0 from rfl];have eK:=rO x a 0 (by omega) hl ha II hk ht D.d.rd hq;rw[hY0]at eK;simp only[cj,ae,seval,oy,Int.reduceEq,];refine aj rfl (eK) ?_;intro v1 h1 dK;have D1:=D.more dK.1 dK.2.1 dK.2.2;obtain⟨x9,s9⟩:=Y;have D9:=D1;exact D9.nJ
  ·simp only[Nat.reduceEqDiff,aw1,aw0,aw6,]at hY
   rw[show((10:Nat):Int)=10 from rfl];have eK:=rO x a 10 (by omega) hl ha II hk ht D.d.rd hq;rw[hY0]at eK;simp only[cj,ae,seval,oy,Int.reduceEq,];refine aj rfl (eK) ?_;intro v1 h1 dK;have D1:=D.more dK.1 dK.2.1 dK.2.2;obtain⟨x9,s9⟩:=Y;have D9:=D1;exact D9.nJ
  ·simp only[Nat.reduceEqDiff,aw1,aw0,or_true]at hY
   rw[show((11:Nat):Int)=11 from rfl];have eK:=rO x a 11 (by omega) hl ha II hk ht D.d.rd hq;rw[hY0]at eK;simp only[cj,ae,seval,oy,Int.reduceEq,];refine aj rfl (eK) ?_;intro v1 h1 dK;have D1:=D.more dK.1 dK.2.1 dK.2.2;obtain⟨x9,s9⟩:=Y;have D9:=D1;exact D9.nJ
  ·simp only[Nat.reduceEqDiff,aw1,aw0,aw6,]at hY
   rw[show((12:Nat):Int)=12 from rfl];have eK:=rO x a 12 (by omega) hl ha II hk ht D.d.rd hq;rw[hY0]at eK;simp only[cj,ae,seval,oy,Int.reduceEq,];refine aj rfl (eK) ?_;intro v1 h1 dK;have D1:=D.more dK.1 dK.2.1 dK.2.2;obtain⟨x9,s9⟩:=Y;have D9:=D1;exact D9.nJ
  ·simp only[Nat.reduceEqDiff,aw1,aw0,aw6,]at hY
   rw[show((13:Nat):Int)=13 from rfl];have eK:=rO x a 13 (by omega) hl ha II hk ht D.d.rd hq;rw[hY0]at eK;simp only[cj,ae,seval,oy,Int.reduceEq,];refine aj rfl (eK) ?_;intro v1 h1 dK;have D1:=D.more dK.1 dK.2.1 dK.2.2;obtain⟨x9,s9⟩:=Y;have D9:=D1;exact D9.nJ
  ·simp only[Nat.reduceEqDiff,aw1,aw0,aw6,]at hY
   rw[show((14:Nat):Int)=14 from rfl];have eK:=rO x a 14 (by omega) hl ha II hk ht D.d.rd hq;rw[hY0]at eK;simp only[cj,ae,seval,oy,Int.reduceEq,];refine aj rfl (eK) ?_;intro v1 h1 dK;have D1:=D.more dK.1 dK.2.1 dK.2.2;obtain⟨x9,s9⟩:=Y;have D9:=D1;exact D9.nJ
end
end
end Go.Proofs.YtmbboehmnfhjjaaGreatDoor
