/- The decoder of instructions, by the reference: switches. -/
import Derived.Test.YtmbboehmnfhjjaaGreatDoorU17
set_option maxRecDepth 100000
set_option maxHeartbeats 8000000
set_option linter.unusedSimpArgs false
set_option linter.unusedVariables false
set_option linter.defProp false
namespace Go.Proofs.YtmbboehmnfhjjaaGreatDoor
open Go.Vc
section
structure CS(h h':ar)(g q:Nat)(l:az)(x:In)(s:RS):Prop where
 fr:Fr (fun k=>k=g∨k=q) h h'
 rd:iJ h' g l s
 xr:XR h' h.size q x
section
variable{h h1 h2:ar}{g q:Nat}{l:az}{x:In}{s s':RS}
theorem CS.gq(H:CS h h1 g q l x s):q≠g:=by
 obtain⟨vk,vt,k1,_⟩:=H.xr;intro e;subst e;exact aww (tX k1 H.rd.1) (by decide)
theorem CS.step(H:CS h h1 g q l x s)(f:Fr (fun k=>k=g) h1 h2)(r:iJ h2 g l s'):CS h h2 g q l x s':=by
 refine⟨Fr.trans H.fr f (fun _ _ h=>h) (fun _ _ h=>axa h),r,H.xr.fr f H.gq ?_⟩;intro k hk hs;subst hs;exact⟨_,_,_,H.rd.1,by decide⟩
theorem CS.cells(H:CS h h1 g q l x s):cellAt h1 ⟨q,0,none⟩=some (ao x.at')∧cellAt h1 ⟨q,1,none⟩=some (bH x.op)∧cellAt h1 ⟨q,2,none⟩=some (.bool x.wide)∧cellAt h1 ⟨q,3,none⟩=some (ao x.A)∧cellAt h1 ⟨q,4,none⟩=some (ao x.B)∧cellAt h1 ⟨q,5,none⟩=some (ao x.low)∧cellAt h1 ⟨g,1,none⟩=some (ao s.p)∧cellAt h1 ⟨g,2,none⟩=some (ao s.e):=by
 obtain⟨vk,vt,k1,_⟩:=H.xr;exact⟨by rw[au k1];rfl,by rw[au k1];rfl,by rw[au k1];rfl,by rw[au k1];rfl,by rw[au k1];rfl,by rw[au k1];rfl,H.rd.c1,H.rd.c2⟩
theorem CS.set(H:CS h h1 g q l x s)(o:Nat)(v:Value)(x':In)(hk:x'.keys=x.keys)(ht:x'.bX=x.bX)(hv:∀vk vt,(fu x vk vt).toArray.setIfInBounds o v=(fu x' vk vt).toArray):
 CS h (setAt h1 ⟨q,o,none⟩ v) g q l x' s:=by
 obtain⟨vk,vt,k1,k2,k3,k4⟩:=H.xr;have f:Fr (fun k=>k=q) h1 (setAt h1 ⟨q,o,none⟩ v):=Fr.set (S:=fun k=>k=q) _ _ _ fun _=>rfl;have b1:=bu (o:=o) k1 v;rw[hv]at b1;refine⟨Fr.trans H.fr f (fun _ _ h=>h) (fun _ _ h=>axb h),H.rd.fr f (Ne.symm H.gq),⟨vk,vt,b1,?_,?_,k4⟩⟩
 ·rw[hk];exact k2.fr f fun k hk hS=>by subst hS;exact bK k2 k1 (by decide) hk
 ·rw[ht];exact k3.fr f fun k hk hS=>by subst hS;exact bK k3 k1 (by decide) hk
theorem CS.fW(H:CS h h1 g q l x s)(o:Nat):frozenAt h1 ⟨q,o,none⟩=false:=by
 obtain⟨vk,vt,k1,_⟩:=H.xr;simp[frozenAt,k1]
theorem CS.size(H:CS h h1 g q l x s):h.size≤h1.size:=H.fr.size
theorem CS.push(H:CS h h1 g q l x s)(o:Obj):CS h (h1.push o) g q l x s:=by
 have E:=Ext.push h1 o;exact⟨Fr.trans H.fr E (fun _ _ h=>h) (fun _ _ h=>h.elim),H.rd.fr E id,H.xr.fr E id (fun _ _ h=>h.elim)⟩
theorem CS.RL(H:CS h h1 g q l x s)(n:Int):
 CS h (setAt (h1.push (.cells #[ao n] 3)) ⟨q,7,none⟩ (.slice (some ⟨h1.size,0,none⟩) 1 1)) g q l {x with bX:=[n]} s:=by
 obtain⟨vk,vt,k1,k2,k3,k4⟩:=H.xr;have E:=Ext.push h1 (.cells #[ao n] 3);have hs:=H.size;have f:Fr (fun k=>k=q) (h1.push (.cells #[ao n] 3)) (setAt (h1.push (.cells #[ao n] 3)) ⟨q,7,none⟩ (.slice (some ⟨h1.size,0,none⟩) 1 1)):=Fr.set (S:=fun k=>k=q) _ _ _ fun _=>rfl;have k1':=dw (o':= .cells #[ao n] 3) k1;have b1:=bu (o:=7) k1' (.slice (some ⟨h1.size,0,none⟩) 1 1);have Gf:Own (h1.push (.cells #[ao n] 3)) h.size 3 1 (.slice (some ⟨h1.size,0,none⟩) 1 1) 1 [ao n]:=Own.new (vs:=[ao n]) rfl (by decide) hs;refine⟨Fr.trans (Fr.trans H.fr E (fun _ _ h=>h) (fun _ _ h=>h.elim)) f (fun _ _ h=>h) (fun _ _ h=>axb h),(H.rd.fr E id).fr f (Ne.symm H.gq),⟨vk,_,b1,?_,?_,?_⟩⟩
 ·exact(k2.ext E).fr f fun k hk hS=>by subst hS;exact bK (k2.ext E) k1' (by decide) hk
 ·exact Gf.fr f fun k hk hS=>by subst hS;exact bK Gf k1' (by decide) hk
 ·intro k hk qM
  simp only[Value.ownBlock,awe]at qM;have:=(k2.lt k hk).2;omega
theorem CS.agX(H:CS h h1 g q l x s){vk vt v2:Value}{n:Int}(hq:h1[q]? =some (.cells (fu x vk vt).toArray 204 (0,0)))(Gg:Own h1 h.size 3 1 vk x.keys.length (eI x.keys))(Gh:Own h1 h.size 3 1 vt x.bX.length (eI x.bX))
 (Gi:∀k,vk.ownBlock=some k→¬vt.ownBlock=some k)(qJ:Own h2 h.size 3 1 v2 (x.keys.length+1) (eI x.keys++[ao n]))(f:Fr (fun k=>vk.ownBlock=some k) h1 h2)(fresh:∀k,v2.ownBlock=some k→vk.ownBlock=some k∨h1.size≤k):
 CS h (setAt h2 ⟨q,6,none⟩ v2) g q l {x with keys:=x.keys++[n]} s:=by
 have cN:∀k cs t fz,h1[k]? =some (.cells cs t fz)→t≠3→¬vk.ownBlock=some k:=fun k cs t fz hb ht=>bK Gg hb (Ne.symm ht);have q2:=ay f hq (cN _ _ _ _ hq (by decide));have r2:iJ h2 g l s:=H.rd.fr f (cN _ _ _ _ H.rd.1 (by decide));have f2:Fr (fun k=>k=q) h2 (setAt h2 ⟨q,6,none⟩ v2):=Fr.set (S:=fun k=>k=q) _ _ _ fun _=>rfl;have b1:=bu (o:=6) q2 v2;have ot2:=Gh.fr f fun k hk qM=>Gi k qM hk;refine⟨Fr.trans (Fr.trans H.fr f (fun _ _ h=>h) (fun k hk h=>by have:=(Gg.lt k h).1;omega)) f2 (fun _ _ h=>h) (fun _ _ h=>axb h),r2.fr f2 (Ne.symm H.gq),⟨v2,vt,b1,?_,?_,?_⟩⟩
 ·refine dR (qJ.fr f2 fun k hk hS=>?_) (by simp) (by simp[eI])
  subst hS;exact bK qJ q2 (by decide) hk
 ·exact ot2.fr f2 fun k hk hS=>by subst hS;exact bK ot2 q2 (by decide) hk
 ·intro k hk qM
  rcases fresh k hk with hh|hh
  ·exact Gi k hh qM
  ·have:=(Gh.lt k qM).2;omega
theorem CS.agZ(H:CS h h1 g q l x s){vk vt v2:Value}{n:Int}(hq:h1[q]? =some (.cells (fu x vk vt).toArray 204 (0,0)))(Gg:Own h1 h.size 3 1 vk x.keys.length (eI x.keys))(Gh:Own h1 h.size 3 1 vt x.bX.length (eI x.bX))
 (Gi:∀k,vk.ownBlock=some k→¬vt.ownBlock=some k)(qJ:Own h2 h.size 3 1 v2 (x.bX.length+1) (eI x.bX++[ao n]))(f:Fr (fun k=>vt.ownBlock=some k) h1 h2)(fresh:∀k,v2.ownBlock=some k→vt.ownBlock=some k∨h1.size≤k):
 CS h (setAt h2 ⟨q,7,none⟩ v2) g q l {x with bX:=x.bX++[n]} s:=by
 have cN:∀k cs t fz,h1[k]? =some (.cells cs t fz)→t≠3→¬vt.ownBlock=some k:=fun k cs t fz hb ht=>bK Gh hb (Ne.symm ht);have q2:=ay f hq (cN _ _ _ _ hq (by decide));have r2:iJ h2 g l s:=H.rd.fr f (cN _ _ _ _ H.rd.1 (by decide));have f2:Fr (fun k=>k=q) h2 (setAt h2 ⟨q,7,none⟩ v2):=Fr.set (S:=fun k=>k=q) _ _ _ fun _=>rfl;have b1:=bu (o:=7) q2 v2;have zP:=Gg.fr f fun k hk qM=>Gi k hk qM;refine⟨Fr.trans (Fr.trans H.fr f (fun _ _ h=>h) (fun k hk h=>by have:=(Gh.lt k h).1;omega)) f2 (fun _ _ h=>h) (fun _ _ h=>axb h),r2.fr f2 (Ne.symm H.gq),⟨vk,v2,b1,?_,?_,?_⟩⟩
 ·exact zP.fr f2 fun k hk hS=>by subst hS;exact bK zP q2 (by decide) hk
 ·refine dR (qJ.fr f2 fun k hk hS=>?_) (by simp) (by simp[eI])
  subst hS;exact bK qJ q2 (by decide) hk
 ·intro k hk qM
  rcases fresh k qM with hh|hh
  ·exact Gi k hk hh
  ·have:=(Gg.lt k hk).2;omega
end
section
variable{h:ar}{g q:Nat}{l:az}{s:RS}
theorem Y9(e1 e2 q1 q2:Nat)(s:RS)(h1:e1≠0):cg e2 q2 (cg e1 q1 s)=cg e1 q1 s:=by
 unfold cg;by_cases h:s.e=0
 ·rw[awa h,av9 h1]
 ·rw[av9 h,av9 h]
theorem Sg(e1 q1:Nat)(s:RS)(h1:e1≠0):(cg e1 q1 s).e≠0:=by
 unfold cg
 split
 ·exact h1
 ·assumption
theorem Si(x:In)(a f:Nat)(hf:f=10∨f=11)(hl:l.length≤1073741824)(ha:x.at'=(a:Int))(II:a≤l.length)(hk:x.keys=[])(ht:x.bX=[])
 (H:iJ h g l s)(hq:h[q]? =some (.cells (fu x nS nS).toArray 204 (0,0))):
 aF Tryz.prog 286 #[aE g,aE q, .bool (decide (f=11))] h fun _ h'=>
  Fr (fun k=>k=g∨k=q) h h'∧iJ h' g l (sM x a f l s).2∧XR h' h.size q (sM x a f l s).1:=by
 refine EF (args:=[aE g,aE q, .bool (decide (f=11))]) rfl ?_;generalize hY:sM x a f l s=Y;have D0:CS h h g q l x s:=⟨Fr.refl _ _,H,⟨_,_,hq,by rw[hk];exact Own.nil,by rw[ht];exact Own.nil,by intro k hk;simp[Value.ownBlock]at hk⟩⟩;simp only[bP,ae,seval];refine aG [0,1,2] (fun m ρ hc=>∃(k:Nat)(s':RS),m=k∧ρ=[(0,aE g),(1,aE q),(2, .bool (decide (f=11)))]∧CS h hc g q l x s'∧xj l a k s'=xj l a 4 s∧(s'.e≠0∨(4-s'.p%4)%4≤k)) ?_ ?_
 ·simp only[ae,seval]
  exact⟨_,4,s,rfl,D0,rfl,by omega⟩
 rintro m ρ hc⟨k,s1,rfl,rfl,D1,zQ,mY⟩;have fO:=D1.cells;rw[ha]at fO;have abp:s1.p%4=0∨s1.e≠0→xj l a 4 s=s1:=fun hd=>by rw[←zQ,RP hd]
 by_cases eK:s1.p%4=0∨s1.e≠0
 case neg=>
  have hm4:¬(s1.p:Int)%4=0:=by omega
  have DF:s1.e=0:=by omega
  have acG:(s1.e:Int)=0:=by omega
  simp(disch:=omega)only[bP,ae,seval,fO,av7 hm4,av8 acG];refine aj rfl (j9 1 hl (by omega) D1.rd) ?_;intro v4 h4 jU;have D4:=D1.step jU.1 jU.2.1;have qZ:=jU.2.2;have lF:=D4.cells;rw[ha]at lF;obtain⟨k',rfl⟩:∃k',m=k'+1:=⟨m-1,by omega⟩;rw[xj,av9 eK]at zQ;have ag1:=Oi l s1;by_cases hz:(aA l 1 s1).1=0
  ·have nl:(((aA l 1 s1).1:Nat):Int)=0:=by omega
   rw[av9 (by simp[hz])]at zQ;simp only[ae,seval,qZ,av8 nl];refine⟨_,Nat.lt_succ_self _,k',_,rfl,D4,zQ,?_⟩;by_cases aV:s1.p<l.length
   ·have:=(ag1 aV DF).1
    omega
   ·left
    unfold aA cV;rw[av9 (by omega),awa (by omega)];exact(show(1:Nat)≠0 by decide)
  ·have nl:¬(((aA l 1 s1).1:Nat):Int)=0:=by omega
   rw[awa (by simpa using hz)]at zQ;simp only[bP,ae,seval,qZ,av7 nl,lF];refine aj rfl (iW 15 a D4.rd) ?_;intro v5 h5 tV;have D5:=D4.step tV.1 tV.2;simp only[ae,seval];refine⟨_,Nat.lt_succ_self _,k',_,rfl,D5,zQ,axa ?_⟩;exact Sg 15 a _ (by decide)
 have xW:=abp eK;unfold sM at hY;rw[xW]at hY;simp only at hY;by_cases hm4:s1.p%4=0
 case' pos=>
  have RV:(s1.p:Int)%4=0:=by omega
  simp(disch:=omega)only[bP,ae,seval,fO,av8 RV]
 case' neg=>
  have RV:¬(s1.p:Int)%4=0:=by omega
  have Wl:¬(s1.e:Int)=0:=by omega
  simp(disch:=omega)only[bP,ae,seval,fO,av7 RV,av7 Wl]
 all_goals
  refine aj rfl (mV 4 (by omega) hl D1.rd) ?_;intro v4 h4 jU;have D4:=D1.step jU.1 jU.2.1;have qZ:=jU.2.2;have lF:=D4.cells;rw[ha]at lF;have b4:=k9 l 4 s1 (by omega);generalize hT:fE l 4 s1=T at*;obtain⟨t0,s4⟩:=T;simp only at qZ hY b4 D4 lF;simp(disch:=omega)only[ae,seval,qZ,lF];refine aU dS rfl rfl (by decide) ?_;simp only[ae,seval];obtain⟨vk4,vt4,q4,qP,xX,_⟩:=D4.xr;refine aC lP rfl rfl rfl rfl rfl (by rw[au (dw q4)];rfl) ((D4.push _).fW 7) ?_;have D6:=D4.RL ((a:Int)+t0);generalize setAt (h4.push (.cells #[ao ((a:Int)+t0)] 3)) ⟨q,7,none⟩ (.slice (some ⟨h4.size,0,none⟩) 1 1)=h6 at*;have Oj:=D6.cells;rw[ha]at Oj;simp only[bP,ae,seval];refine aj rfl (mV 4 (by omega) hl D6.rd) ?_;intro v7 h7 oK;have D7:=D6.step oK.1 oK.2.1;have Gj:=oK.2.2;have b7:=k9 l 4 s4 (by omega);generalize hT7:fE l 4 s4=T7 at*;obtain⟨n,s7⟩:=T7;simp only at Gj hY b7 D7;have KP:=D7.cells;rw[ha]at KP;have rows:∀(x2:In)(cnt:Nat)(s9:RS)(h9:ar),x2.at'=(a:Int)→x2.keys=[]→x2.bX=[(a:Int)+t0]→cnt≤8589934592→CS h h9 g q l x2 s9→
   ({x2 with keys:=(mF f l a cnt ([],[(a:Int)+t0],s9)).1,bX:=(mF f l a cnt ([],[(a:Int)+t0],s9)).2.1},(mF f l a cnt ([],[(a:Int)+t0],s9)).2.2)=Y→
   ∀ρ0:Env,Env.keep [0,1,2,6,7] ρ0=[(0,aE g),(1,aE q),(2, .bool (decide (f=11))),(6,ao cnt),(7,ao 0)]→
   Cd.vc Tryz.prog (.loop LM) (Ex.Xm 2 (gP Tryz.prog [] fun _ h'=>Fr (fun k=>k=g∨k=q) h h'∧iJ h' g l Y.2∧XR h' h.size q Y.1)) ρ0 h9:=by
   intro x2 cnt s9 h9 Qs qM YU lQ D9 hY2 ρ0 hρ;have si:f=10∨f=11:=hf;generalize hX:mF f l a cnt ([],[(a:Int)+t0],s9)=X at*;refine aG [0,1,2,6,7] (fun m ρ hc=>∃(i r:Nat)(c:KT),m=r∧i+r=cnt∧(f=11→c.1.length=i)∧c.1.length≤i∧c.2.1.length=i+1∧ρ=[(0,aE g),(1,aE q),(2, .bool (decide (f=11))),(6,ao cnt),(7,ao i)]∧
    CS h hc g q l {x2 with keys:=c.1,bX:=c.2.1} c.2.2∧mF f l a r c=X∧(c.2.2.e=0→4*i+s9.p≤c.2.2.p)) ?_ ?_
   ·rw[hρ]
    refine⟨_,0,cnt,([],[(a:Int)+t0],s9),rfl,by omega,fun _=>rfl,awp _,rfl,rfl,?_,hX,fun _=>by simp⟩;have e2:({x2 with keys:=[],bX:=[(a:Int)+t0]}:In)=x2:=by cases x2;simp_all
    show CS h h9 g q l {x2 with keys:=[],bX:=[(a:Int)+t0]} s9
    rw[e2];exact D9
   rintro m ρ hc⟨i,r,⟨ks,ts,s1⟩,rfl,hir,PZ,pD,KM,rfl,D1,hR,RX⟩;simp only at PZ pD KM D1 hR RX;have fO:=D1.cells;simp only[Qs]at fO;have US:X=(ks,ts,s1)→Fr (fun k=>k=g∨k=q) h hc∧iJ hc g l Y.2∧XR hc h.size q Y.1:=by
    intro hX;rw[←hY2,hX];exact⟨D1.fr,D1.rd,D1.xr⟩
   cases m with
   |zero=>
    have aV:¬(i:Int)<cnt:=by omega
    have he:=US hR.symm;simp only[bP,ae,seval,aV];exact he
   |succ r=>
    have aV:(i:Int)<cnt:=by omega
    by_cases vj:s1.e≠0
    ·rw[RU (by simpa using vj)]at hR
     have he:=US hR.symm;have ju:¬(s1.e:Int)=0:=by omega
     simp only[bP,ae,seval,aV,fO,av7 ju];exact he
    have DF:s1.e=0:=by omega
    have acG:(s1.e:Int)=0:=by omega
    rw[mF,av9 (by simpa using vj)]at hR;simp only at hR;have qY:i≤1073741824:=by
     have h1:=RX DF;have h2:=D1.rd.2;omega
    rcases si with rfl|rfl
    case' inl=>
     have RY:Co 10 l a ks s1=(ks,s1):=rfl;rw[RY]at hR;simp only at hR;have Gk:ks.length≤i+1:=by omega
     have Jw:10=11→ks.length=i+1:=by omega
     have MR:s1.e=0→4*i+s9.p≤s1.p:=RX;have D5:=D1;obtain⟨vk5,vt5,q5,nq,rN,RZ⟩:=id D5.xr;have c7:=au (j:=7) q5;simp only[fu,awl,awA,awB]at c7;simp only[bP,ae,seval,aV,fO,av8 acG,c7];obtain⟨Wm,R3⟩:∃y,y=ks:=⟨_,rfl⟩;rw[←R3]at hR Gk Jw D5 nq q5;obtain⟨s2,j8⟩:∃y,y=s1:=⟨_,rfl⟩;rw[←j8]at hR MR D5
    case' inr=>
     have UT:=PZ rfl;obtain⟨vk1,vt1,q1,ahj,ahk,dj1⟩:=id D1.xr;have c61:=au (j:=6) q1;simp only[fu,awl,awA,awB]at c61;simp only[bP,ae,seval,aV,fO,av8 acG,c61];refine aj rfl (mV 4 (by omega) hl D1.rd) ?_;intro v4 h4 jU;have D4:=D1.step jU.1 jU.2.1;have qZ:=jU.2.2;have f4:=jU.1;have q4:=ay f4 q1 D1.gq;have qP:=ahj.fr f4 (fun k hk hS=>by subst hS;exact bK ahj D1.rd.1 (by decide) hk);have xX:=ahk.fr f4 (fun k hk hS=>by subst hS;exact bK ahk D1.rd.1 (by decide) hk);have nh:=QG (l:=l) (s:=s1);have RY:Co 11 l a ks s1=(ks++[(fE l 4 s1).1],if ks≠[]∧(fE l 4 s1).1≤ks.getD (ks.length-1) 0 then cg 15 a (fE l 4 s1).2 else(fE l 4 s1).2):=rfl;rw[RY]at hR;generalize fE l 4 s1=T at*;obtain⟨kv,s4⟩:=T;simp only at hR qZ D4 nh qP xX;have c64:=au (j:=6) q4;simp only[fu,awl,awA,awB]at c64;simp only[ae,seval,qZ,c64];refine aU dS rfl rfl (by decide) ?_;simp only[ae,seval];refine⟨by rw[au (dw q4)];rfl,?_⟩;refine j5 (m:=1) dS rfl rfl (qP.push _) rfl (bV (vs:=[ao kv])) (by simp[oneCell]) (by show ks.length+1≤_;omega) (by show(ks.length+1)*_≤_;omega) (by have:=D4.size;simp;omega) ?_;intro v6 h6 kx Ol _ Wn;obtain⟨a6,c6',rfl,_⟩:=kx.dQ.2;have D4p:=D4.push (.cells #[ao kv] 3);have q4p:=dw (o':= .cells #[ao kv] 3) q4;have q6:=ay Ol q4p (bK (qP.push _) q4p (by decide));simp only[ae,seval];refine aC lP rfl rfl rfl rfl rfl (by rw[au q6];rfl) (by simp[frozenAt,q6]) ?_;have D7:CS h _ g q l {x2 with keys:=ks++[kv],bX:=ts} s4:=D4p.agX q4p (qP.push _) (xX.push _) dj1 kx Ol Wn;generalize setAt h6 ⟨q,6,none⟩ _=h7 at*;have Gk:(ks++[kv]).length≤i+1:=by simp;omega
     have Jw:11=11→(ks++[kv]).length=i+1:=fun _=>by simp;omega
     by_cases hi0:i=0
     case' pos=>
      have Ra:ks=[]:=List.eq_nil_of_length_eq_zero (by omega);have MS:¬(0:Int)<(i:Int):=by omega
      rw[av9 (by simp[Ra])]at hR;obtain⟨s2,j8⟩:∃y,y=s4:=⟨_,rfl⟩;have MR:s2.e=0→4*i+s9.p≤s2.p:=by
       rw[j8];intro h0;have:=nh h0;have:=RX DF;omega
      have D5:=D7;rw[←j8]at D5 hR;obtain⟨vk5,vt5,q5,nq,rN,RZ⟩:=id D5.xr;have c7:=au (j:=7) q5;simp only[fu,awl,awA,awB]at c7;have qN:=D5.cells;simp only[Qs]at qN;simp only[bP,ae,seval,MS,qN,c7]
     case' neg=>
      have MS:(0:Int)<(i:Int):=by omega
      have Ra:ks≠[]:=by intro hh;rw[hh]at UT;simp at UT;omega
      have e1:(i:Int)-1=((i-1:Nat):Int):=by omega
      obtain⟨vk7,vt7,q7,WA,am9,dj7⟩:=id D7.xr;have c67:=au (j:=6) q7;simp only[fu,awl,awA,awB]at c67;simp only at WA;have hkn:(ks++[kv]).length=i+1:=Jw rfl;obtain⟨kb,ko,kc,hes,TX,_⟩:=WA.dQ.at (i:=i-1) (by omega);subst hes;obtain⟨_,_,_,ap6,ap7,_⟩:=WA.dQ.at (i:=i) (by omega);cases ap6;have k0:cellAt h7 ⟨kb,ko+(i-1),none⟩=some (ao (ks.getD (i-1) 0)):=by
       have:=TX 0 (ao (ks.getD (i-1) 0)) (by
        have h1:i-1<ks.length:=by omega
        have h2:(eI (ks++[kv]))=eI ks++[ao kv]:=by simp[eI]
        rw[h2,Nat.mul_one,List.getElem?_take,awa (by decide),List.getElem?_drop,aw3,awS (by simpa[eI]using h1)];simp[eI,h1])
       simpa using this
      have k1:cellAt h7 ⟨kb,ko+i,none⟩=some (ao kv):=by
       have:=ap7 0 (ao kv) (by
        rw[←UT];simp[eI])
       simpa using this
      have apW:((i-1:Nat):Int)<((ks++[kv]).length:Int):=by omega
      have avd:(i:Int)<((ks++[kv]).length:Int):=by omega
      rw[show ks.length-1=i-1 by omega]at hR;by_cases hle:kv≤ks.getD (i-1) 0
      case' pos=>
       rw[awa ⟨Ra,hle⟩]at hR;have KP:=D7.cells;simp only[Qs]at KP;simp(disch:=omega)only[bP,ae,seval,KP,c67,MS,e1,k0,k1,hle];refine aj rfl (iW 15 a D7.rd) ?_;intro v8 h8 KQ;have D5:=D7.step KQ.1 KQ.2;obtain⟨s2,j8⟩:∃y,y=cg 15 a s4:=⟨_,rfl⟩;have MR:s2.e=0→4*i+s9.p≤s2.p:=by
        rw[j8];intro h0;exact aww h0 (Sg 15 a s4 (by decide))
       rw[←j8]at D5 hR;obtain⟨vk5,vt5,q5,nq,rN,RZ⟩:=id D5.xr;have c7:=au (j:=7) q5;simp only[fu,awl,awA,awB]at c7;have qN:=D5.cells;simp only[Qs]at qN;simp only[bP,ae,seval,qN,c7]
      case' neg=>
       rw[av9 (fun hh=>hle hh.2)]at hR;obtain⟨s2,j8⟩:∃y,y=s4:=⟨_,rfl⟩;have MR:s2.e=0→4*i+s9.p≤s2.p:=by
        rw[j8];intro h0;have:=nh h0;have:=RX DF;omega
       have D5:=D7;rw[←j8]at D5 hR;have q5:=q7;have nq:=WA;have rN:=am9;have RZ:=dj7;have c7:=au (j:=7) q5;simp only[fu,awl,awA,awB]at c7;have qN:=D5.cells;simp only[Qs]at qN;simp(disch:=omega)only[bP,ae,seval,qN,c67,c7,MS,e1,k0,k1,hle]
     all_goals
      obtain⟨Wm,R3⟩:∃y,y=ks++[kv]:=⟨_,rfl⟩;rw[←R3]at hR Gk Jw D5 nq q5
    all_goals
     refine aj rfl (mV 4 (by omega) hl D5.rd) ?_;intro v8 h8 KQ;have D8:=D5.step KQ.1 KQ.2.1;have Wo:=KQ.2.2;have f8:=KQ.1;have q8:=ay f8 q5 D5.gq;have R4:=nq.fr f8 (fun k hk hS=>by subst hS;exact bK nq D5.rd.1 (by decide) hk);have AW:=rN.fr f8 (fun k hk hS=>by subst hS;exact bK rN D5.rd.1 (by decide) hk);have b8:=k9 l 4 s2 (by omega);have hs8:=QG (l:=l) (s:=s2);generalize fE l 4 s2=T8 at*;obtain⟨tv,s8⟩:=T8;simp only at hR Wo D8 hs8 b8 R4 AW;have c78:=au (j:=7) q8;simp only[fu,awl,awA,awB]at c78;have TY:=D8.cells;simp only[Qs]at TY;simp(disch:=omega)only[ae,seval,Wo,TY,c78];refine aU dS rfl rfl (by decide) ?_;simp only[ae,seval];refine⟨by rw[au (dw q8)];rfl,?_⟩;refine j5 (m:=1) dS rfl rfl (AW.push _) rfl (bV (vs:=[ao ((a:Int)+tv)])) (by simp[oneCell]) (by omega) (by omega) (by have:=D8.size;simp;omega) ?_;intro v9 h9' zR fr9 _ Wq;obtain⟨a9,c9,rfl,_⟩:=zR.dQ.2;have D8p:=D8.push (.cells #[ao ((a:Int)+tv)] 3);have q8p:=dw (o':= .cells #[ao ((a:Int)+tv)] 3) q8;have q9:=ay fr9 q8p (bK (AW.push _) q8p (by decide));simp only[ae,seval];refine aC lP rfl rfl rfl rfl rfl (by rw[au q9];rfl) (by simp[frozenAt,q9]) ?_;have tW:CS h _ g q l {x2 with keys:=Wm,bX:=ts++[(a:Int)+tv]} s8:=D8p.agZ q8p (R4.push _) (AW.push _) RZ zR fr9 Wq;generalize setAt h9' ⟨q,7,none⟩ _=d9 at*;simp(disch:=omega)only[bP,ae,seval];have vl:s8.e=0→4*(i+1)+s9.p≤s8.p:=by
      intro h0;have h8:=hs8 h0;have h9:=MR h8.1;omega
     first
      |exact⟨_,Nat.lt_succ_self _,i+1,r,(Wm,ts++[(a:Int)+tv],s8),rfl,by omega,Jw rfl,Gk,by simp[KM],by simp,tW,hR,vl⟩
      |exact⟨_,Nat.lt_succ_self _,i+1,r,(Wm,ts++[(a:Int)+tv],s8),rfl,by omega,Gk,by simp[KM],by simp,tW,hR,vl⟩
  rcases hf with rfl|rfl
  ·rw[awa rfl]at hY
   simp only[Nat.reduceEqDiff,awZ]at rows;simp only[bP,ae,seval,Gj,];refine aC dI rfl rfl rfl rfl rfl KP.2.2.2.2.2.1 (D7.fW 5) ?_;have D8:=D7.set 5 (ao n) {x with bX:=[(a:Int)+t0],low:=n} rfl rfl (fun _ _=>rfl);generalize setAt h7 ⟨q,5,none⟩ (ao n)=h8 at*;have TY:=D8.cells;rw[ha]at TY;simp only[bP,ae,seval];refine aj rfl (mV 4 (by omega) hl D8.rd) ?_;intro v9 h9 AX;have D9:=D8.step AX.1 AX.2.1;have KR:=AX.2.2;have b9:=k9 l 4 s7 (by omega);generalize hT9:fE l 4 s7=T9 at*;obtain⟨hi,s9⟩:=T9;simp only at KR hY b9 D9;have YV:=D9.cells;rw[ha]at YV;by_cases R7:hi<n
   ·rw[awa R7]at hY
    subst hY;have g1:hi-n+1<1:=by omega
    simp(disch:=omega)only[bP,ae,seval,KR,YV,g1];refine aj rfl (iW 15 a D9.rd) ?_;intro v10 d9 Gl;have tW:=D9.step Gl.1 Gl.2;have alq:=tW.cells;rw[ha]at alq;by_cases g2:hi-n+1<0
    case' pos=>
     simp only[bP,ae,seval,alq,g2];refine aj rfl (iW 15 a tW.rd) ?_;intro v11 AY alr;have D11:=tW.step alr.1 alr.2;rw[Y9 15 15 a a s9 (by decide)]at D11;simp only[bP,ae,seval]
    case' neg=>
     have D11:=tW;simp only[bP,ae,seval,g2]
    all_goals
     refine aG [0,1,2,6,7] (fun m ρ hc=>ρ=[(0,aE g),(1,aE q),(2, .bool false),(6,ao (hi-n+1)),(7,ao 0)]∧CS h hc g q l {x with bX:=[(a:Int)+t0],low:=n} (cg 15 a s9)) ?_ ?_
     ·simp only[ae,seval]
      exact⟨0,D11⟩
     rintro m ρ hc⟨rfl,D12⟩;have g3:¬(0:Int)<hi-n+1:=by omega
     simp only[bP,ae,seval,g3];exact⟨D12.fr,D12.rd,D12.xr⟩
   ·rw[av9 R7]at hY
    obtain⟨cnt,Lm⟩:∃cnt:Nat,hi-n+1=(cnt:Int):=⟨(hi-n+1).toNat,by omega⟩;rw[Lm,Int.toNat_natCast]at hY;have zS:¬(cnt:Int)<0:=by omega
    have anc:¬(cnt:Int)<1:=by omega
    simp(disch:=omega)only[bP,ae,seval,KR,Lm,zS,anc];refine rows {x with bX:=[(a:Int)+t0],low:=n} cnt s9 h9 ha hk rfl (by omega) D9 hY _ ?_;simp only[vs,↓reduceIte,Nat.reduceEqDiff,reduceCtorEq,]
  ·rw[av9 (by decide)]at hY
   simp only[awY]at rows;by_cases zS:n<0
   ·rw[awa zS]at hY
    subst hY;simp only[bP,ae,seval,Gj,KP,zS,];refine aj rfl (iW 15 a D7.rd) ?_;intro v10 d9 Gl;have tW:=D7.step Gl.1 Gl.2;simp only[bP,ae,seval];refine aG [0,1,2,6,7] (fun m ρ hc=>ρ=[(0,aE g),(1,aE q),(2, .bool true),(6,ao n),(7,ao 0)]∧CS h hc g q l {x with bX:=[(a:Int)+t0]} (cg 15 a s7)) ?_ ?_
    ·simp only[ae,seval]
     exact⟨0,tW⟩
    rintro m ρ hc⟨rfl,D12⟩;have g3:¬(0:Int)<n:=by omega
    simp only[bP,ae,seval,g3];exact⟨D12.fr,D12.rd,D12.xr⟩
   ·rw[av9 zS]at hY
    obtain⟨cnt,rfl⟩:∃cnt:Nat,n=(cnt:Int):=⟨n.toNat,by omega⟩;rw[Int.toNat_natCast]at hY;simp only[bP,ae,seval,Gj,zS,];refine rows {x with bX:=[(a:Int)+t0]} cnt s7 h7 ha hk rfl (by omega) D7 hY _ ?_;simp only[vs,↓reduceIte,Nat.reduceEqDiff,reduceCtorEq,]
end
end
end Go.Proofs.YtmbboehmnfhjjaaGreatDoor
