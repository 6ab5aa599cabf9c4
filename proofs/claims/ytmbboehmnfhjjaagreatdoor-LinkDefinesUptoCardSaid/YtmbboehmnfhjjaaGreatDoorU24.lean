/- The class itself checked, by the reference. A field checked, by the reference. A method checked, by the reference. -/
import Derived.Test.YtmbboehmnfhjjaaGreatDoorU23
set_option maxRecDepth 100000
set_option maxHeartbeats 8000000
set_option linter.unusedSimpArgs false
set_option linter.unusedVariables false
set_option linter.defProp false
namespace Go.Proofs.YtmbboehmnfhjjaaGreatDoor
open Go.Vc
section
def hdK(fl:Nat)(a b:az × Bool):Nat:=jM [eT a.2 7,eT (pZ a.1) 8,eT b.2 7,eT (pZ b.1&&(decide (fl&&&512=0)||decide (b.1=zU))) 8]
theorem SC{s:az}(h:s≠[]):pZ s=decide (s.head?≠some 91):=by unfold pZ;rw[awh h,Bool.true_and]
theorem ahF{c:iP}(hp:∀x∈c.pool,jL c.pool x=0)(nT:yb c.flags=false):
 oE c=if hdK c.flags (bZ c.pool c.this) (bZ c.pool c.super)≠0 then hdK c.flags (bZ c.pool c.this) (bZ c.pool c.super)else vz c.pool c.ifs []:=by
 have h1:= @uq c.pool hp c.this;have h2:= @uq c.pool hp c.super;unfold oE hdK;rw[av9 (by rw[nT];decide)];generalize bZ c.pool c.this=a,bZ c.pool c.super=b,c.flags&&&512=z at*;obtain⟨n1,k1⟩:=a;obtain⟨n2,k2⟩:=b;simp only at h1 h2⊢;cases k1 with
 |false=>rw[awa rfl];rfl
 |true=>
  rw[av9 (by decide),SC (h1 rfl)];by_cases b1:n1.head?=some 91
  ·rw[awa b1,show decide (n1.head?≠some 91)=false by simp[b1]];rfl
  ·rw[av9 b1,show decide (n1.head?≠some 91)=true by simp[b1]]
   cases k2 with
   |false=>rw[awa rfl];rfl
   |true=>
    rw[av9 (by decide),SC (h2 rfl)];by_cases b2:n2.head?=some 91
    ·rw[awa (.inl b2),show decide (n2.head?≠some 91)=false by simp[b2]];rfl
    ·rw[show decide (n2.head?≠some 91)=true by simp[b2]]
     by_cases z0:z=0
     ·rw[av9 (by simp[b2,z0]),show(true&&(decide (z=0)||decide (n2=zU)))=true by simp[z0]];rfl
     ·by_cases ob:n2=zU
      ·rw[av9 (fun h=>h.elim b2 (fun h=>h.2 ob)),show(true&&(decide (z=0)||decide (n2=zU)))=true by simp[ob]];rfl
      ·rw[awa (.inr ⟨z0,ob⟩),show(true&&(decide (z=0)||decide (n2=zU)))=false by simp[z0,ob]];rfl
theorem abO(l:List Nat)(i:Nat):(Cq l).take i=Cq (l.take i):=by unfold Cq;rw[List.map_take]
theorem akD{a:az × Bool}(hn:a.2=true→a.1≠[]):jM [eT a.2 7,eT (pZ a.1) 8]=if a.2=false then 7 else if a.1.head?=some 91 then 8 else 0:=by
 obtain⟨n,k⟩:=a;cases k with
 |false=>rfl
 |true=>
  rw[av9 (by simp)];simp only[SC (hn rfl)];by_cases b:n.head?=some 91
  ·rw[awa b,show decide (n.head?≠some 91)=false by simp[b]];rfl
  ·rw[av9 b,show decide (n.head?≠some 91)=true by simp[b]];rfl
section
variable{h:ar}{g:Nat}{c:iP}{vp vi vf vm:Value}
theorem Ua{h0:ar}{q:Nat}{u4 u5 u6 u7 u8 u9 u10 u51 u87:Value}(X:Ext h0 h)(B:CB h q c vp vi vf vm)(H:RB h g c vp vi vf vm)(F:CF c)(hp:∀x∈c.pool,jL c.pool x=0)(mL:c.ifs.length≤1073741824):
 Cd.vc Tryz.prog ND (gP Tryz.prog [(2,none)] fun v h'=>Ext h0 h'∧v=ao (vz c.pool c.ifs []:Nat))
  [(0,nU g),(2,ao 0),(3,aE q),(4,u4),(5,u5),(6,u6),(7,u7),(8,u8),(9,u9),(10,u10),(11,undef),(12,undef),(13,undef),(14,undef),(15,undef),(17,undef),(18,undef),
  (51,u51),(87,u87),(90,undef),(91,undef),(92,undef),(93,undef),(111,undef),(116,undef),(117,undef),(118,undef),(119,undef),(130,undef)] h:=by
 rw[HQ];have DJ:=H.cls.i;obtain⟨_,a,ci,rfl,_⟩:=id DJ;have c6:cellAt h ⟨q,6,none⟩=some (.slice a c.ifs.length ci):=B.at rfl;simp(disch:=omega)only[bE,ae,seval,c6];refine aG [0,3,90,91,92] (fun m ρ hc=>∃i:Nat,m=c.ifs.length-i∧i≤c.ifs.length∧
  ρ=[(0,nU g),(3,aE q),(90, .slice a c.ifs.length ci),(91,ao c.ifs.length),(92,ao i)]∧Ext h hc∧
  vz c.pool c.ifs []=vz c.pool (c.ifs.drop i) ((c.ifs.take i).map fun k=>(bZ c.pool k).1)) ?_ ?_
 ·simp(disch:=omega)only[bE,ae,seval]
  exact⟨_,0,rfl,awb _,rfl,Ext.refl _,by simp⟩
 rintro m ρ hc⟨i,rfl,hi,rfl,hx,hk⟩;by_cases aV:i<c.ifs.length
 case neg=>
  have aK:¬(i:Int)<(c.ifs.length:Int):=by omega
  rw[hk,awV (by omega)];simp(disch:=omega)only[bE,ae,seval,va];exact⟨X.trans hx,rfl⟩
 have aK:(i:Int)<(c.ifs.length:Int):=by omega
 obtain⟨b,o,c',heq,di,Lw⟩:=(DJ.ext (by decide) hx).at aV;cases heq;rw[Gn aV]at di;have vB:=F.fit.ifs (c.ifs.getD i 0) (dF aV);rw[gL (d:=0) aV,vz]at hk;have mq:=iU (l:=c.ifs) (d:=0) aV;have uE:(c.ifs.take (i+1)).map (fun k=>(bZ c.pool k).1)=(c.ifs.take i).map (fun k=>(bZ c.pool k).1)++[(bZ c.pool (c.ifs.getD i 0)).1]:=by rw[mq];simp
 generalize c.ifs.getD i 0=k at*;have r0:cellAt hc ⟨b,o+i,none⟩=some (ax k):=by
  have:=di 0 (ax k) rfl;simpa using this
 simp(disch:=omega)only[bE,ae,seval,r0,va];refine aj rfl (oA (H.ext hx) F k vB) ?_;rintro v1 h2⟨rfl,rfl⟩;have h2e:=akD (a:=bZ c.pool k) (fun h=> @uq c.pool hp k h);generalize bZ c.pool k=nk at*;obtain⟨nm,kk⟩:=nk;dsimp only at hk h2e uE⊢;simp(disch:=omega)only[bE,ae,seval];refine aj rfl (bO kk 7) ?_;rintro v2 h3⟨rfl,rfl⟩;simp(disch:=omega)only[bE,ae,seval];refine aj rfl (K9 nm) ?_;rintro v3 h4⟨rfl,rfl⟩;simp(disch:=omega)only[bE,ae,seval];refine aj rfl (bO (pZ nm) 8) ?_;rintro v4 h5⟨rfl,rfl⟩;generalize eT kk 7=e1,eT (pZ nm) 8=e2 at*;simp(disch:=omega)only[bE,ae,seval];refine aU eC rfl rfl (by simp[oneCell]) ?_;simp(disch:=omega)only[bE,ae,seval];have E:=Ext.push h5 (.cells #[ao e1,ao e2] 48);have t7:Sl (h5.push (.cells #[ao e1,ao e2] 48)) (.slice (some ⟨h5.size,0,none⟩) 2 2) (([e1,e2]:List Nat).map fun t:Nat=>ao t):=gT (es:=[e1,e2]) (bV (vs:=[ao e1,ao e2]));generalize h5.push _=h6,h5.size=q5 at*;refine aj rfl (gS [e1,e2] (by simp) t7) ?_;rintro v6 h7⟨rfl,rfl⟩;have pQ:=hx.trans E;have c6':cellAt h7 ⟨q,6,none⟩=some (.slice (some ⟨b,o,none⟩) c.ifs.length ci):=(B.ext pQ).at rfl;have mY:vz c.pool c.ifs []=if jM [e1,e2]≠0 then jM [e1,e2]else if nm∈List.map (fun k=>(bZ c.pool k).1) (List.take i c.ifs)then 11 else vz c.pool (List.drop (i+1) c.ifs) (List.map (fun k=>(bZ c.pool k).1) (List.take i c.ifs)++[nm]):=by
  rw[hk,h2e];cases kk with
  |false=>rfl
  |true=>
   by_cases hb:nm.head?=some 91
   ·simp[hb]
   ·simp[hb]
 generalize jM [e1,e2]=e at*;by_cases he:e≠0
 ·rw[awa he]at mY
  rw[mY];simp(disch:=omega)only[bE,ae,seval,va];exact X.trans pQ
 rw[av9 he]at mY;have Lw:c.ifs.length≤ci:=H.cls.ic;have s0:(0:Int)≤(i:Int):=by omega
 have s1:(i:Int)≤(ci:Int):=by omega
 have sub:=fR.sub (lo:=0) (hi:=i) (DJ.ext (by decide) pQ) (awb _) (by omega) Lw;rw[Nat.zero_mul,axd,Nat.sub_zero,Nat.sub_zero,Nat.mul_one,abO]at sub;simp(disch:=omega)only[bE,ae,seval,c6',s0,s1,va,Int.toNat_natCast,Nat.sub_zero];generalize sB (some ⟨b,o,none⟩) ci 0 1=a2 at*;have w1:=gU (k:=i) (by omega);refine aG [0,3,13,90,91,92,116,117,118] (fun m ρ hd=>∃j:Nat,m=i-j∧j≤i∧
  ρ=[(0,nU g),(3,aE q),(13,str nm),(90, .slice (some ⟨b,o,none⟩) c.ifs.length ci),(91,ao c.ifs.length),(92,ao i),(116, .slice a2 i ci),(117,ao i),(118,ao j)]∧hd=h7∧
  nm∉((c.ifs.take j).map fun k=>(bZ c.pool k).1)) ?_ ?_
 ·simp(disch:=omega)only[bE,ae,seval]
  exact⟨_,0,rfl,awb _,rfl,by simp⟩
 rintro m ρ hd⟨j,rfl,hj,rfl,rfl,kQ⟩;by_cases vR:j<i
 case neg=>
  have rq:¬(j:Int)<(i:Int):=by omega
  have:j=i:=by omega
  subst this;rw[av9 kQ]at mY;simp(disch:=omega)only[bE,ae,seval,w1,va];exact⟨c.ifs.length-(j+1),by omega,j+1,rfl,by omega,rfl,pQ,by rw[mY,uE]⟩
 have rq:(j:Int)<(i:Int):=by omega
 obtain⟨b2,o2,c2,heq,di,_⟩:=sub.at vR;cases heq;rw[Gn (l:=c.ifs.take i) (by rw[awz];omega)]at di;have Sc:(c.ifs.take i).getD j 0=c.ifs.getD j 0:=by simp[List.getD,List.getElem?_take,vR]
 rw[Sc]at di;have aqx:=F.fit.ifs (c.ifs.getD j 0) (dF (by omega));have Zp:=iU (l:=c.ifs) (d:=0) (i:=j) (by omega);have kG:(bZ c.pool (c.ifs.getD j 0)).1∈(c.ifs.take i).map fun k=>(bZ c.pool k).1:=List.mem_map_of_mem (by rw[←Sc];exact dF (by rw[awz];omega));generalize c.ifs.getD j 0=k2 at*;have r2:cellAt hd ⟨b2,o2+j,none⟩=some (ax k2):=by
  have:=di 0 (ax k2) rfl;simpa using this
 have w2:=gU (k:=j) (by omega);simp(disch:=omega)only[bE,ae,seval,r2,va];refine aj rfl (oA (H.ext pQ) F k2 aqx) ?_;rintro v8 h8⟨rfl,rfl⟩;by_cases Qu:nm=(bZ c.pool k2).1
 ·rw[←Qu]at kG
  rw[awa kG]at mY;rw[mY];simp(disch:=omega)only[bE,ae,↓reduceIte,Nat.reduceEqDiff,reduceCtorEq,Nat.reduceLeDiff,Nat.reducePow,Int.reducePow,Int.reduceToNat,Nat.reduceAdd,av8 Qu];exact⟨X.trans pQ,rfl⟩
 ·simp(disch:=omega)only[bE,ae,seval,av7 Qu,w2]
  refine⟨i-(j+1),by omega,j+1,rfl,by omega,rfl,?_⟩;rw[Zp,List.map_append,awi];rintro(h|h)
  ·exact kQ h
  ·exact Qu (by simpa using h)
theorem Ub{h0:ar}{q:Nat}{face:Bool}{u5 u51:Value}(X:Ext h0 h)(B:CB h q c vp vi vf vm)(H:RB h g c vp vi vf vm)(F:CF c)(hp:∀x∈c.pool,jL c.pool x=0)(mL:c.ifs.length≤1073741824)
 (WH:face=decide (c.flags&&&512≠0))(nT:yb c.flags=false):
 Cd.vc Tryz.prog NE (gP Tryz.prog [(2,none)] fun v h'=>Ext h0 h'∧v=ao (oE c:Nat))
  [(0,nU g),(2,ao 0),(3,aE q),(4, .bool face),(5,u5),(6,undef),(7,undef),(8,undef),(9,undef),(10,undef),(11,undef),(12,undef),(13,undef),(14,undef),(15,undef),(17,undef),(18,undef),
  (51,u51),(87,undef),(90,undef),(91,undef),(92,undef),(93,undef),(111,undef),(116,undef),(117,undef),(118,undef),(119,undef),(130,undef)] h:=by
 rw[HR];have c3:cellAt h ⟨q,3,none⟩=some (ax c.this):=B.at rfl;have c4:cellAt h ⟨q,4,none⟩=some (ax c.super):=B.at rfl;rw[ahF hp nT];unfold hdK;have ra:decide (c.flags&&&512=0)= !face:=by rw[WH];by_cases z:c.flags&&&512=0<;>simp[z]
 rw[ra];simp only[bE,ae,seval,c3];refine aj rfl (oA H F c.this F.fit.this) ?_;rintro v1 h1⟨rfl,rfl⟩;simp only[bE,ae,seval,c4];refine aj rfl (oA H F c.super F.fit.super) ?_;rintro v2 h2⟨rfl,rfl⟩;generalize bZ c.pool c.this=nk1,bZ c.pool c.super=nk2 at*;obtain⟨n1,k1⟩:=nk1;obtain⟨n2,k2⟩:=nk2;dsimp only;simp only[bE,ae,seval];refine aj rfl (bO k1 7) ?_;rintro v3 h3⟨rfl,rfl⟩;simp only[ae,seval];refine aj rfl (K9 n1) ?_;rintro v4 h4⟨rfl,rfl⟩;simp only[ae,seval];refine aj rfl (bO (pZ n1) 8) ?_;rintro v5 h5⟨rfl,rfl⟩;simp only[ae,seval];refine aj rfl (bO k2 7) ?_;rintro v6 h6⟨rfl,rfl⟩;simp only[ae,seval];refine aj rfl (K9 n2) ?_;rintro v7 h7⟨rfl,rfl⟩;generalize eT k1 7=e1,eT (pZ n1) 8=e2,eT k2 7=e3 at*;have tail:∀b:Bool,b=(pZ n2&&(!face||decide (n2=zU)))→aF Tryz.prog 173 #[.bool b,ao 8] h7 fun v h'=>h'=h7∧v=ao (eT (pZ n2&&(!face||decide (n2=zU))) 8:Nat):=fun b hb=>by rw[←hb];exact bO b 8
 generalize hE4:eT (pZ n2&&(!face||decide (n2=zU))) 8=e4 at*;have go:∀b:Bool,b=(pZ n2&&(!face||decide (n2=zU)))→aF Tryz.prog 173 #[.bool b,ao 8] h7 fun v h'=>h'=h7∧v=ao (e4:Nat):=fun b hb=>by subst hE4;exact tail b hb
 have cs:(pZ n2=false∧(n2=n2)=True)∨(pZ n2=true∧face=false∧(n2=n2)=True)∨(pZ n2=true∧face=true∧(n2=[106,97,118,97,47,108,97,110,103,47,79,98,106,101,99,116])=True)∨(pZ n2=true∧face=true∧(n2=[106,97,118,97,47,108,97,110,103,47,79,98,106,101,99,116])=False):=by
  by_cases ho:n2=[106,97,118,97,47,108,97,110,103,47,79,98,106,101,99,116]<;>cases pZ n2<;>cases face<;>simp[ho]
 have ho:zU=[106,97,118,97,47,108,97,110,103,47,79,98,106,101,99,116]:=rfl;rcases cs with⟨rD,hq⟩|⟨rD,rfl,hq⟩|⟨rD,rfl,hq⟩|⟨rD,rfl,hq⟩
 all_goals
  rw[rD]at go⊢;simp only[ae,seval,hq];refine aj rfl (go _ (by simp[ho,hq])) ?_;rintro v8 h8⟨rfl,rfl⟩;simp only[ae,seval];refine aU eC rfl rfl (by simp[]) ?_;simp only[ae,seval];have E:=Ext.push h8 (.cells #[ao e1,ao e2,ao e3,ao e4] 48);have t7:Sl (h8.push (.cells #[ao e1,ao e2,ao e3,ao e4] 48)) (.slice (some ⟨h8.size,0,none⟩) 4 4) (([e1,e2,e3,e4]:List Nat).map fun t:Nat=>ao t):=gT (es:=[e1,e2,e3,e4]) (bV (vs:=[ao e1,ao e2,ao e3,ao e4]));generalize h8.push _=h9,h8.size=q5 at*;refine aj rfl (gS [e1,e2,e3,e4] (by simp) t7) ?_;rintro v9 d9⟨rfl,rfl⟩;generalize jM [e1,e2,e3,e4]=e at*;by_cases he:e=0
  ·rw[av9 (by omega)]
   simp(disch:=omega)only[bE,ae,seval,va];exact Ua (X.trans E) (B.ext E) (H.ext E) F hp mL
  ·rw[awa he]
   simp(disch:=omega)only[bE,ae,seval,va];exact X.trans E
theorem Uc(H:RB h g c vp vi vf vm)(F:CF c)(hp:∀x∈c.pool,jL c.pool x=0)(mL:c.ifs.length≤1073741824):
 aF Tryz.prog 100 #[nU g] h fun v h'=>Ext h h'∧v=ao (oE c:Nat):=by
 obtain⟨_,ap,cp,Sm,_⟩:=id H.cls.p;obtain⟨_,ai,ci,hvi,_⟩:=id H.cls.i;obtain⟨_,af,cf,hvf,_⟩:=id H.cls.f;obtain⟨rws,_,qQ,_⟩:=id H.cls.m;obtain⟨_,am,cm,hvm,_⟩:=id qQ;subst Sm hvi hvf hvm;refine HP (args:=[nU g]) rfl ?_;have bm:=aS mR (aN H.blk) rfl;simp only[mP]at bm;simp(disch:=omega)only[bE,ae,seval,bm];refine aD jJ ?_;simp(disch:=omega)only[bE,ae,seval];refine aI jJ rfl rfl rfl (by simp[Value.cells,oneCell]) rfl ?_;intro h2 x2 _ vE b2;have hL:h2[h.size]? =some (.cells (mP c (.slice ap c.pool.length cp) (.slice ai c.ifs.length ci) (.slice af c.fields.length cf) (.slice am c.methods.length cm)).toArray 96 (0,0)):=b2;have CBL:CB h2 h.size c (.slice ap c.pool.length cp) (.slice ai c.ifs.length ci) (.slice af c.fields.length cf) (.slice am c.methods.length cm):=⟨hL,H.cls.ext x2⟩;have H2:=H.ext x2;generalize h.size=q at*;have c2:cellAt h2 ⟨q,2,none⟩=some (ax c.flags):=CBL.at rfl;have c3:cellAt h2 ⟨q,3,none⟩=some (ax c.this):=CBL.at rfl;have c4:cellAt h2 ⟨q,4,none⟩=some (ax c.super):=CBL.at rfl;have H5:=fun h=>SB (h:=h) c.flags F.fit.flags;have HA:=fun h=>Oy (h:=h) c.flags F.fit.flags;have HF:=fun h=>akA (h:=h) c.flags F.fit.flags;have a3:cB .and .u16 (c.flags:Int) 48=((c.flags&&&48:Nat):Int):=jR _ 48 F.fit.flags (by decide);simp(disch:=omega)only[bE,ae,seval,c2];refine aj rfl (H5 h2) ?_;rintro v3 h3⟨rfl,rfl⟩;simp(disch:=omega)only[bE,ae,seval,c2];refine aj rfl (HA h3) ?_;rintro v4 h4⟨rfl,rfl⟩;have tH:yb c.flags=true→oE c=10:=fun hh=>by unfold oE;rw[awa hh]
 have tail:=fun(face:Bool)(u5 u51:Value)(xT:face=decide (c.flags&&&512≠0))(vV:yb c.flags=false)=>Ub (h0:=h) (h:=h4) (face:=face) (u5:=u5) (u51:=u51) x2 CBL H2 F hp mL xT vV;generalize oE c=Z at*;unfold yb at tail tH;generalize c.flags&&&512=f1,c.flags&&&1024=f2,c.flags&&&48=f3,c.flags&&&16=f4 at*;by_cases z1:f1=0
 ·rw[show decide (f1≠0)=false by simp[z1]]
  by_cases z2:f2=0
  ·rw[show decide (f2≠0)=false by simp[z2]]
   simp(disch:=omega)only[bE,ae,seval];exact tail _ _ _ (by simp[z1]) (by simp[z1,z2])
  ·rw[show decide (f2≠0)=true by simp[z2]]
   simp(disch:=omega)only[bE,ae,seval,c2];refine aj rfl (HF h4) ?_;rintro v5 h5⟨rfl,rfl⟩;by_cases z4:f4=0
   ·rw[show decide (f4≠0)=false by simp[z4]]
    simp(disch:=omega)only[bE,ae,seval];exact tail _ _ _ (by simp[z1]) (by simp[z1,z4])
   ·rw[show decide (f4≠0)=true by simp[z4],tH (by simp[z2,z4])]
    simp(disch:=omega)only[bE,ae,↓reduceIte,Nat.reduceEqDiff,reduceCtorEq,Nat.reduceLeDiff,Nat.reducePow,Int.reducePow,Int.reduceToNat,Nat.reduceAdd];exact⟨x2,rfl⟩
 ·rw[show decide (¬f1=0)=true by simp[z1]]
  by_cases z2:f2=0
  ·rw[show decide (f2≠0)=false by simp[z2],tH (by simp[z1,z2])]
   simp(disch:=omega)only[bE,ae,↓reduceIte,Nat.reduceEqDiff,reduceCtorEq,Nat.reduceLeDiff,Nat.reducePow,Int.reducePow,Int.reduceToNat,Nat.reduceAdd,c2,a3];exact⟨x2,rfl⟩
  ·rw[show decide (f2≠0)=true by simp[z2]]
   by_cases z3:f3=0
   ·simp(disch:=omega)only[bE,ae,seval,c2,a3,va]
    refine aj rfl (HF h4) ?_;rintro v5 h5⟨rfl,rfl⟩;by_cases z4:f4=0
    ·rw[show decide (f4≠0)=false by simp[z4]]
     simp(disch:=omega)only[bE,ae,seval];exact tail _ _ _ (by simp[z1]) (by simp[z2,z3,z4])
    ·rw[show decide (f4≠0)=true by simp[z4],tH (by simp[z2,z4])]
     simp(disch:=omega)only[bE,ae,↓reduceIte,Nat.reduceEqDiff,reduceCtorEq,Nat.reduceLeDiff,Nat.reducePow,Int.reducePow,Int.reduceToNat,Nat.reduceAdd];exact⟨x2,rfl⟩
   ·rw[tH (by simp[z1,z3])]
    simp(disch:=omega)only[bE,ae,↓reduceIte,Nat.reduceEqDiff,reduceCtorEq,Nat.reduceLeDiff,Nat.reducePow,Int.reducePow,Int.reduceToNat,Nat.reduceAdd,c2,a3,va];exact⟨x2,rfl⟩
end
end
section
theorem OA(f m:Nat)(hm:m<128):f&&&m=f%128&&&m:=by
 have h8:(128:Nat)=2^7:=rfl;rw[h8];apply Nat.eq_of_testBit_eq;intro i;rw[Nat.testBit_and,Nat.testBit_and,Nat.testBit_mod_two_pow];by_cases hi:i<7
 ·simp[hi]
 ·have:m.testBit i=false:=Nat.testBit_lt_two_pow (awF hm (by rw[h8];exact Nat.pow_le_pow_right (by decide) (by omega)))
  simp[this]
theorem anE:∀f,f<128→decide (f&&&80=80)= !decide (pg f [16,64]≤1):=by decide+kernel
theorem akF(f:Nat):decide (f&&&80=80)= !oL f [16,64]:=by
 have h:=anE (f%128) (by omega);have e:pg f [16,64]=pg (f%128) [16,64]:=by simp only[pg];rw[OA f 16 (by decide),OA f 64 (by decide)]
 rw[OA f 80 (by decide)];unfold oL;rw[h,e]
theorem abP(na nd:az):A9 na nd true false=if dc na false=0 then 8 else if cG nd=false then 9 else 0:=by
 unfold A9;rw[awa rfl];by_cases m:dc na false=0
 ·rw[awa m,show decide (0<dc na false)=false by simp[m]];rfl
 ·rw[av9 m,show decide (0<dc na false)=true by simp;omega]
  cases cG nd<;>rfl
theorem ahG{b o c size:Nat}:sB (some ⟨b,o,none⟩) c 0 size=some ⟨b,o,none⟩:=by
 unfold sB
 split
 ·rfl
 ·rw[Nat.zero_mul];rfl
def IP(p:List aX)(f:fC):TT:=(bM p f.name,bM p f.type)
section
variable{h:ar}{g:Nat}{c:iP}{vp vi vf vm:Value}
def Zq(p:List aX)(seen:List TT)(f:fC)(na nd:az):Nat:=if(na,nd)∈seen then 11 else if f.value≠0∧Cr p f.value nd=false then 7 else 0
theorem Zr{h0:ar}{q t:Nat}{u6 u81 u82 u83 u84 u112 u113 u114 u120 u122 u124 u126:Value}(H:RB h g c vp vi vf vm)(X:Ext h0 h)(f:fC)(ub:f.Fit)(nd:az)(hq:h[q]? =some (Ss f)):
 Cd.vc Tryz.prog Qh (gP Tryz.prog [(4,none)] fun v h'=>Ext h0 h'∧v=ao (eT (decide (t≠0)&&eV c.pool f.value t) 7:Nat))
  [(0,nU g),(5,aE q),(6,u6),(8,str nd),(17,bH t),(81,u81),(82,u82),(83,u83),(113,u113),(114,u114),(120,u120),(122,u122),(124,u124),(126,u126),(84,u84),(112,u112)] h:=by
 rw[J9];have hfv:=ub.value;have c5:cellAt h ⟨g,5,none⟩=some vp:=H.at rfl;have k3:cellAt h ⟨q,3,none⟩=some (ax f.value):=by rw[au hq];rfl
 have w1:IntKind.i64.wrap (f.value:Int)=(f.value:Int):=wrap_i64 (by omega) (by omega);by_cases t0:t=0
 ·rw[show decide (t≠0)=false by simp[t0],Bool.false_and]
  simp(disch:=omega)only[bC,ae,seval,va];refine aj rfl (bO false 7) ?_;rintro v3 h3⟨rfl,rfl⟩;simp only[ae,seval];exact X
 ·rw[show decide (t≠0)=true by simp[t0],Bool.true_and]
  simp(disch:=omega)only[bC,ae,seval,c5,k3,w1,va];refine aj rfl (zH f.value t H.cls.p) ?_;rintro v2 h2⟨rfl,rfl⟩;simp only[ae,seval];refine aj rfl (bO (eV c.pool f.value t) 7) ?_;rintro v3 h3⟨rfl,rfl⟩;simp only[ae,seval];exact X
theorem Ud{h0:ar}{q:Nat}{u6 u81 u82 u83 u84 u112:Value}(H:RB h g c vp vi vf vm)(X:Ext h0 h)(f:fC)(ub:f.Fit)(nd:az)(hq:h[q]? =some (Ss f)):
 Cd.vc Tryz.prog Qi (gP Tryz.prog [(4,none)] fun v h'=>Ext h0 h'∧v=ao (eT (Cr c.pool f.value nd) 7:Nat))
  [(0,nU g),(5,aE q),(6,u6),(8,str nd),(17,undef),(81,u81),(82,u82),(83,u83),(113,undef),(114,undef),(120,undef),(122,undef),(124,undef),(126,undef),(84,u84),(112,u112)] h:=by
 rw[Kc];have go:=fun(t:Nat)(u112 u113 u114 u120 u122 u124 u126:Value)=>Zr (t:=t) (u6:=u6) (u81:=u81) (u82:=u82) (u83:=u83) (u84:=u84) (u112:=u112) (u113:=u113) (u114:=u114) (u120:=u120) (u122:=u122) (u124:=u124) (u126:=u126) H X f ub nd hq;unfold Cr;by_cases n0:nd=[73]
 ·rw[show xn nd=3 by rw[n0];rfl]
  simp only[bC,ae,seval,av8 n0];exact go 3 _ _ _ _ _ _ _
 by_cases n1:nd=[83]
 ·rw[show xn nd=3 by rw[n1];rfl]
  simp only[bC,ae,seval,av7 n0,av8 n1];exact go 3 _ _ _ _ _ _ _
 by_cases n2:nd=[67]
 ·rw[show xn nd=3 by rw[n2];rfl]
  simp only[bC,ae,seval,av7 n0,av7 n1,av8 n2];exact go 3 _ _ _ _ _ _ _
 by_cases n3:nd=[66]
 ·rw[show xn nd=3 by rw[n3];rfl]
  simp only[bC,ae,seval,av7 n0,av7 n1,av7 n2,av8 n3];exact go 3 _ _ _ _ _ _ _
 by_cases n4:nd=[90]
 ·rw[show xn nd=3 by rw[n4];rfl]
  simp only[bC,ae,seval,av7 n0,av7 n1,av7 n2,av7 n3,av8 n4];exact go 3 _ _ _ _ _ _ _
 by_cases n5:nd=[74]
 ·rw[show xn nd=5 by rw[n5];rfl]
  simp only[bC,ae,seval,av7 n0,av7 n1,av7 n2,av7 n3,av7 n4,av8 n5];exact go 5 _ _ _ _ _ _ _
 by_cases n6:nd=[70]
 ·rw[show xn nd=4 by rw[n6];rfl]
  simp only[bC,ae,seval,av7 n0,av7 n1,av7 n2,av7 n3,av7 n4,av7 n5,av8 n6];exact go 4 _ _ _ _ _ _ _
 by_cases n7:nd=[68]
 ·rw[show xn nd=6 by rw[n7];rfl]
  simp only[bC,ae,seval,av7 n0,av7 n1,av7 n2,av7 n3,av7 n4,av7 n5,av7 n6,av8 n7];exact go 6 _ _ _ _ _ _ _
 by_cases n8:nd=[76,106,97,118,97,47,108,97,110,103,47,83,116,114,105,110,103,59]
 ·rw[show xn nd=8 by rw[n8];rfl]
  simp only[bC,ae,seval,av7 n0,av7 n1,av7 n2,av7 n3,av7 n4,av7 n5,av7 n6,av7 n7,av8 n8];exact go 8 _ _ _ _ _ _ _
 rw[show xn nd=0 by unfold xn ahq;simp only[n0,n1,n2,n3,n4,n5,n6,n7,n8,or_self,aw1]];simp only[bC,ae,seval,av7 n0,av7 n1,av7 n2,av7 n3,av7 n4,av7 n5,av7 n6,av7 n7,av7 n8];exact go 0 _ _ _ _ _ _ _
theorem WW{h0:ar}{q b o cf:Nat}{u7 u9 u10 u45 u50 u74:Value}(H:RB h g c vp vi (.slice (some ⟨b,o,none⟩) c.fields.length cf) vm)(F:CF c)(X:Ext h0 h)(i:Nat)(hi:i<c.fields.length)(nT:c.fields.length≤1073741824)(f:fC)(ub:f.Fit)(na nd:az)
 (hq:h[q]? =some (Ss f)):
 Cd.vc Tryz.prog Qj (gP Tryz.prog [(4,none)] fun v h'=>Ext h0 h'∧v=ao (Zq c.pool ((c.fields.take i).map (IP c.pool)) f na nd:Nat))
  [(0,nU g),(1,ao i),(4,ao 0),(5,aE q),(6,str na),(7,u7),(8,str nd),(9,u9),(10,u10),(12,undef),(13,undef),(15,undef),(17,undef),(45,u45),(50,u50),(74,u74),(81,undef),(82,undef),(83,undef),(84,undef),(108,undef),(112,undef),(113,undef),(114,undef),(120,undef),(122,undef),(124,undef),(126,undef)] h:=by
 rw[Ke];have c7:cellAt h ⟨g,7,none⟩=some (.slice (some ⟨b,o,none⟩) c.fields.length cf):=H.at rfl;have Lw:c.fields.length≤cf:=H.cls.fc;have s0:(0:Int)≤(i:Int):=by omega
 have s1:(i:Int)≤(cf:Int):=by omega
 simp(disch:=omega)only[bC,ae,seval,c7,s0,s1,Int.toNat_natCast,Nat.sub_zero,ahG];refine aG [0,5,6,8,17,81,82,83,113,114,120,122,124,126] (fun m ρ hd=>∃j:Nat,m=i-j∧j≤i∧
  ρ=[(0,nU g),(5,aE q),(6,str na),(8,str nd),(17,undef),(81, .slice (some ⟨b,o,none⟩) i cf),(82,ao i),(83,ao j),(113,undef),(114,undef),(120,undef),(122,undef),(124,undef),(126,undef)]∧Ext h hd∧
  (na,nd)∉(c.fields.take j).map (IP c.pool)) ?_ ?_
 ·simp(disch:=omega)only[bC,ae,seval]
  exact⟨_,0,rfl,awb _,rfl,Ext.refl _,by simp⟩
 rintro m ρ hd⟨j,rfl,hj,rfl,hx,kQ⟩;by_cases vR:j<i
 case neg=>
  have rq:¬(j:Int)<(i:Int):=by omega
  have:j=i:=by omega
  subst this;unfold Zq;rw[av9 kQ];have hqd:=ay hx hq awx;have k3:cellAt hd ⟨q,3,none⟩=some (ax f.value):=by rw[au hqd];rfl
  by_cases v0:f.value=0
  ·rw[av9 (by simp[v0])]
   simp(disch:=omega)only[bC,ae,↓reduceIte,Nat.reduceEqDiff,reduceCtorEq,Nat.reduceLeDiff,Nat.reducePow,Int.reducePow,Int.reduceToNat,Nat.reduceAdd,rq,k3,va];exact⟨X.trans hx,rfl⟩
  simp(disch:=omega)only[bC,ae,seval,rq,k3,va];have e:(if f.value≠0∧Cr c.pool f.value nd=false then 7 else 0)=eT (Cr c.pool f.value nd) 7:=by unfold eT;cases Cr c.pool f.value nd<;>simp[v0]
  rw[e];exact Ud (H.ext hx) (X.trans hx) f ub nd hqd
 have rq:(j:Int)<(i:Int):=by omega
 obtain⟨_,_,_,heq,di,_⟩:=(H.ext hx).cls.f.at (i:=j) (by omega);cases heq;rw[zT (by omega)]at di;have si:=F.fit.fields _ (dF (d:=fC.zero) (i:=j) (l:=c.fields) (by omega));have Zp:=iU (l:=c.fields) (d:=fC.zero) (i:=j) (by omega);have kG:IP c.pool (c.fields.getD j fC.zero)∈(c.fields.take i).map (IP c.pool):=by
  refine List.mem_map_of_mem ?_;have Sc:(c.fields.take i).getD j fC.zero=c.fields.getD j fC.zero:=by simp[List.getD,List.getElem?_take,vR]
  rw[←Sc];exact dF (by rw[awz];omega)
 generalize c.fields.getD j fC.zero=f2 at*;have bm:=aS lN di rfl;simp only[fC.cells]at bm;simp(disch:=omega)only[bC,ae,seval,bm,rq];refine aD eG ?_;simp(disch:=omega)only[bC,ae,seval];refine aI eG rfl rfl rfl (by simp[Value.cells,oneCell]) rfl ?_;intro h7 x7 _ qR b7;have k1:cellAt h7 ⟨hd.size,1,none⟩=some (ax f2.name):=qR 1 _ rfl;have k2:cellAt h7 ⟨hd.size,2,none⟩=some (ax f2.type):=qR 2 _ rfl;generalize hd.size=q7 at*;have pQ:=hx.trans x7;have H7:=H.ext pQ;have w2:=gU (k:=j) (by omega);simp(disch:=omega)only[bC,ae,seval,k1];refine aj rfl (jd H7 f2.name si.name) ?_;rintro v8 h8⟨rfl,rfl⟩;simp(disch:=omega)only[bC,ae,seval,k2];refine aj rfl (jd H7 f2.type si.type) ?_;rintro v9 h9⟨rfl,rfl⟩;have htt:IP c.pool f2=(bM c.pool f2.name,bM c.pool f2.type):=rfl;rw[htt]at kG;generalize bM c.pool f2.name=n2,bM c.pool f2.type=d2 at*;have no:¬(n2=na∧d2=nd)→(na,nd)∉(c.fields.take (j+1)).map (IP c.pool):=by
  intro cN;rw[Zp,List.map_append,awi];rintro(h|h)
  ·exact kQ h
  ·rw[List.map_singleton,awf,htt,aw8]at h
   exact cN ⟨h.1.symm,h.2.symm⟩
 by_cases e1:n2=na
 ·by_cases e2:d2=nd
  ·rw[e1,e2]at kG
   unfold Zq;rw[awa kG];simp(disch:=omega)only[bC,ae,↓reduceIte,Nat.reduceEqDiff,reduceCtorEq,Nat.reduceLeDiff,Nat.reducePow,Int.reducePow,Int.reduceToNat,Nat.reduceAdd,av8 e1,av8 e2];exact⟨X.trans pQ,rfl⟩
  ·simp(disch:=omega)only[bC,ae,seval,av8 e1,av7 e2,w2]
   exact⟨i-(j+1),by omega,j+1,rfl,by omega,rfl,pQ,no fun h=>e2 h.2⟩
 ·simp(disch:=omega)only[bC,ae,seval,av7 e1,w2]
  exact⟨i-(j+1),by omega,j+1,rfl,by omega,rfl,pQ,no fun h=>e1 h.1⟩
theorem WX(H:RB h g c vp vi vf vm)(F:CF c)(i:Nat)(hi:i<c.fields.length)(nT:c.fields.length≤1073741824):
 aF Tryz.prog 101 #[nU g,ao i] h fun v h'=>Ext h h'∧v=ao (Pz c.flags c.pool ((c.fields.take i).map (IP c.pool)) (c.fields.getD i fC.zero):Nat):=by
 obtain⟨_,af,cf,hvf,_⟩:=id H.cls.f;subst hvf;refine J8 (args:=[nU g,ao i]) rfl ?_;have c7:cellAt h ⟨g,7,none⟩=some (.slice af c.fields.length cf):=H.at rfl;have xy:(i:Int)<(c.fields.length:Int):=by omega
 have Lw:c.fields.length≤cf:=H.cls.fc;obtain⟨b,o,c',heq,di,_⟩:=H.cls.f.at hi;cases heq;rw[zT hi]at di;have ub:=F.fit.fields _ (dF (d:=fC.zero) hi);generalize KI:c.fields.getD i fC.zero=f at*;have bm:=aS lN di rfl;simp only[fC.cells]at bm;simp(disch:=omega)only[bC,ae,seval,c7,xy,bm];refine aD eG ?_;simp(disch:=omega)only[bC,ae,seval];refine aI eG rfl rfl rfl (by simp[Value.cells,oneCell]) rfl ?_;intro h2 x2 _ vE b2;have H2:=H.ext x2;have k0:cellAt h2 ⟨h.size,0,none⟩=some (ax f.flags):=vE 0 _ rfl;have k1:cellAt h2 ⟨h.size,1,none⟩=some (ax f.name):=vE 1 _ rfl;have k2:cellAt h2 ⟨h.size,2,none⟩=some (ax f.type):=vE 2 _ rfl;have k3:cellAt h2 ⟨h.size,3,none⟩=some (ax f.value):=vE 3 _ rfl;generalize h.size=q at*;have la:=F.str f.name;have lb:=F.str f.type;have H80:=fun h=>Gv (h:=h) f.flags 80 ub.flags (by decide);have aqA:=fun h=>SB (h:=h) c.flags F.fit.flags;have a2:cB .and .u16 (f.flags:Int) 223=((f.flags&&&223:Nat):Int):=jR _ 223 ub.flags (by decide);have c2:cellAt h2 ⟨g,2,none⟩=some (ax c.flags):=H2.at rfl;rw[akF]at H80;simp(disch:=omega)only[bC,ae,seval,k1];refine aj rfl (jd H2 f.name ub.name) ?_;rintro v3 h3⟨rfl,rfl⟩;simp(disch:=omega)only[bC,ae,seval,k2];refine aj rfl (jd H2 f.type ub.type) ?_;rintro v4 h4⟨rfl,rfl⟩;unfold Pz;have hsn:IP c.pool f=(bM c.pool f.name,bM c.pool f.type):=rfl;generalize bM c.pool f.name=na,bM c.pool f.type=nd,eV c.pool f.name 1=i1,eV c.pool f.type 1=i2 at*;cases i1 with
 |false=>
  rw[awa (.inl rfl)];simp(disch:=omega)only[bC,ae,↓reduceIte,Nat.reduceEqDiff,reduceCtorEq,Nat.reduceLeDiff,Nat.reducePow,Int.reducePow,Int.reduceToNat,Nat.reduceAdd];exact⟨x2,rfl⟩
 |true=>
  cases i2 with
  |false=>
   rw[awa (.inr rfl)];simp(disch:=omega)only[bC,ae,↓reduceIte,Nat.reduceEqDiff,reduceCtorEq,Nat.reduceLeDiff,Nat.reducePow,Int.reducePow,Int.reduceToNat,Nat.reduceAdd];exact⟨x2,rfl⟩
  |true=>
   rw[av9 (by simp)];simp(disch:=omega)only[bC,ae,seval];refine aj rfl (yg na nd la lb true false) ?_;rintro v5 h5⟨x5,rfl⟩;rw[abP];have A8:=x2.trans x5;by_cases m0:dc na false=0
   ·rw[awa m0]
    simp(disch:=omega)only[bC,ae,seval,m0,va];exact A8
   rw[av9 m0];cases hfp:cG nd with
   |false=>
    rw[awa rfl];simp(disch:=omega)only[bC,ae,seval,m0,va];exact A8
   |true=>
    rw[av9 (by simp)];have hq5:=ay x5 b2 awx;have H5:=H2.ext x5;obtain⟨k0,c2⟩:cellAt h5 ⟨q,0,none⟩=some (ax f.flags)∧cellAt h5 ⟨g,2,none⟩=some (ax c.flags):=⟨by rw[au hq5];rfl,H5.at rfl⟩;have seen:=fun(u7 u9 u10 u45 u50 u74:Value)=>WW (u7:=u7) (u9:=u9) (u10:=u10) (u45:=u45) (u50:=u50) (u74:=u74) H5 F A8 i hi nT f ub na nd hq5;have hs:(if(na,nd)∈(c.fields.take i).map (IP c.pool)then 11 else if f.value≠0∧Cr c.pool f.value nd=false then 7 else 0)=Zq c.pool ((c.fields.take i).map (IP c.pool)) f na nd:=rfl;rw[hs];generalize Zq c.pool ((c.fields.take i).map (IP c.pool)) f na nd=Z at*;rw[av9 m0,av9 (show¬(true=false) by decide)];simp(disch:=omega)only[bC,ae,seval,k0,va];refine aj rfl (Sz f.flags ub.flags) ?_;rintro v6 h6⟨rfl,rfl⟩;cases oL f.flags [1,2,4]with
    |false=>
     rw[awa (.inl rfl)];simp(disch:=omega)only[bC,ae,↓reduceIte,Nat.reduceEqDiff,reduceCtorEq,Nat.reduceLeDiff,Nat.reducePow,Int.reducePow,Int.reduceToNat,Nat.reduceAdd,k0];exact⟨A8,rfl⟩
    |true=>
     simp(disch:=omega)only[bC,ae,seval,k0];refine aj rfl (H80 h6) ?_;rintro v7 h7⟨rfl,rfl⟩;cases oL f.flags [16,64]with
     |false=>
      rw[awa (.inr rfl)];simp(disch:=omega)only[bC,ae,↓reduceIte,Nat.reduceEqDiff,reduceCtorEq,Nat.reduceLeDiff,Nat.reducePow,Int.reducePow,Int.reduceToNat,Nat.reduceAdd,k0];exact⟨A8,rfl⟩
     |true=>
      rw[av9 (by simp)];simp(disch:=omega)only[bC,ae,seval,c2];refine aj rfl (aqA h7) ?_;rintro v8 h8⟨rfl,rfl⟩;generalize c.flags&&&512=f5,f.flags&&&223=f2 at*;by_cases z5:f5=0
      ·rw[av9 (by simp[z5]),show decide (f5≠0)=false by simp[z5]]
       simp(disch:=omega)only[bC,ae,seval];exact seen _ _ _ _ _ _
      ·rw[show decide (f5≠0)=true by simp[z5]]
       by_cases z2:f2=25
       ·rw[av9 (by simp[z2])]
        simp(disch:=omega)only[bC,ae,seval,k0,a2,va];exact seen _ _ _ _ _ _
       ·rw[awa ⟨z5,z2⟩]
        simp(disch:=omega)only[bC,ae,↓reduceIte,Nat.reduceEqDiff,reduceCtorEq,Nat.reduceLeDiff,Nat.reducePow,Int.reducePow,Int.reduceToNat,Nat.reduceAdd,k0,a2,va];exact⟨A8,rfl⟩
end
end
section
theorem abQ(na nd:az)(h3:dc na true≠3):A9 na nd false true=if dc na true=0 then 8 else if(fV nd).isSome=false∨(dc na true=2∧mG nd≠[86])then 9 else 0:=by
 unfold A9;rw[av9 (by decide)];have h4:=MV na true;generalize dc na true=m,(fV nd).isSome=k,mG nd=gv at*;have:m=0∨m=1∨m=2:=by omega
 rcases this with rfl|rfl|rfl
 ·rfl
 ·cases k<;>rfl
 ·cases k
  ·rfl
  ·by_cases hg:gv=[86]
   ·rw[hg];rfl
   ·rw[av9 (by decide),awa (.inr ⟨rfl,hg⟩),show decide (gv=[86])=false by simp[hg]];rfl
def Gw(p:List aX)(m:fj):TT:=(bM p m.name,bM p m.type)
def acM(p:List aX)(m:fj)(nd:az):Int × Int:=if decide (m.flags&&&1280≠0)=m.has then(13,0)else if m.flags&&&1280≠0 then(0,0)else U5 p m nd
def PH(p:List aX)(seen:List TT)(m:fj)(na nd:az):Int × Int:=if(na,nd)∈seen then(11,0)else acM p m nd
section
variable{h:ar}{g:Nat}{c:iP}{vp vi vf vm:Value}
theorem SD{h0:ar}{q base:Nat}{vH u7 u75 u76 u77 u78 u18 u111 u112 u115:Value}(H:RB h g c vp vi vf vm)(F:CF c)(X:Ext h0 h)(m:fj)(nd:az)(qc:h[q]? =some (Gs m vH))
 (tZ:m.Fit)(hH:fR h 4 vH m.code.hs.length (gZ m.code.hs))(kO:m.code.bytes.length≤1073741824)(A6:m.code.hs.length≤1073741824)(lb:nd.length≤4294967296)(hb:base≤1):
 Cd.vc Tryz.prog NF (gP Tryz.prog [(4,none),(5,none)] fun v h'=>Ext h0 h'∧v= .tuple #[ao (if m.code.fF<((dB (mT nd)+base:Nat):Int)then(12,0)else JB c.pool m.code:Int × Int).1,ao (if m.code.fF<((dB (mT nd)+base:Nat):Int)then(12,0)else JB c.pool m.code:Int × Int).2])
  [(0,nU g),(6,aE q),(7,u7),(9,str nd),(75,u75),(76,u76),(77,u77),(78,u78),(18,u18),(111,u111),(112,u112),(19,ao base),(115,u115)] h:=by
 rw[HT];have AU:=ML nd;simp only[bG,ae,seval];refine aj rfl (tP nd lb) ?_;rintro v2 h2⟨x2,hmv⟩;obtain⟨sv,rfl,zN⟩:=jX hmv;obtain⟨a9,c9,rfl,_⟩:=id zN;rw[awk]at zN⊢;generalize mT nd=ts at*;have b2:=ay x2 qc awx;have c5:cellAt h2 ⟨q,5,none⟩=some (ao m.code.fF):=by rw[au b2];rfl
 have di:=aN (vs:=[ax m.flags,ax m.name,ax m.type, .bool m.has,ao m.code.maxS,ao m.code.fF,str m.code.bytes,vH,str m.code.map]) b2;have hrc:Rd h2 q 4 [ao m.code.maxS,ao m.code.fF,str m.code.bytes,vH,str m.code.map]:=by
  intro j v hv;have:=di (4+j) v (by
   rw[show 4+j=j+4 by omega];simpa using hv)
  simpa using this
 have bm:=aS pW hrc rfl;simp only[bG,ae,seval];refine aG [0,6,19,122,123,124] (fun m ρ hc=>∃i:Nat,m=ts.length-i∧i≤ts.length∧
  ρ=[(0,nU g),(6,aE q),(19,ao ((dB (ts.take i)+base:Nat):Int)),(122, .slice a9 ts.length c9),(123,ao ts.length),(124,ao i)]∧hc=h2) ?_ ?_
 ·simp only[ae,seval]
  exact⟨_,0,rfl,awb _,by simp[dB]⟩
 rintro m' ρ hc⟨i,rfl,hi,rfl,rfl⟩;have pB:=tT (ts:=ts) i;by_cases aV:i<ts.length
 ·have aK:(i:Int)<(ts.length:Int):=by omega
  obtain⟨b1,o1,td,fD,_,eR⟩:=zN.at (i:=i) (by simpa using aV);rw[awk]at fD;cases fD;have e1:cellAt hc ⟨b1,o1+i,none⟩=some (str (ts.getD i [])):=by rw[eR];simp[aV]
  have gl:ts.take (i+1)=ts.take i++[ts.getD i []]:=iU aV;generalize ts.getD i []=t at*;have MK:=rH t;have w1:=gU (k:=i) (by omega);have w2:IntKind.i64.wrap (((dB (ts.take i)+base:Nat):Int)+(mf t:Int))=((dB (ts.take (i+1))+base:Nat):Int):=by
   rw[gl,qI,wrap_i64 (by omega) (by omega)];omega
  simp(disch:=omega)only[bG,ae,seval,aK,e1,];refine aj rfl (FX t) ?_;rintro v9 h9⟨rfl,rfl⟩;simp only[bG,ae,seval,w1,w2];exact⟨ts.length-(i+1),by omega,i+1,rfl,by omega,rfl⟩
 have aK:¬(i:Int)<(ts.length:Int):=by omega
 rw[List.take_of_length_le (show ts.length≤i by omega)]at pB⊢;generalize dB ts+base=sb at*;by_cases MZ:m.code.fF<(sb:Int)
 ·rw[awa MZ]
  simp only[bG,ae,seval,aK,c5,MZ];exact X.trans x2
 ·rw[av9 MZ]
  simp only[bG,ae,seval,aK,c5,MZ,bm];obtain⟨_,ah,ch,rfl,_⟩:=id hH;refine aj rfl (Zn (H.ext x2) F m.code tZ.code (hH.ext (by decide) x2) kO A6) ?_;rintro v5 h5⟨x5,rfl⟩;simp only[ae,seval];exact(X.trans x2).trans x5
theorem WY{h0:ar}{q:Nat}{vH u7 u75 u76 u77 u78:Value}(H:RB h g c vp vi vf vm)(F:CF c)(X:Ext h0 h)(m:fj)(nd:az)(qc:h[q]? =some (Gs m vH))
 (tZ:m.Fit)(hH:fR h 4 vH m.code.hs.length (gZ m.code.hs))(kO:m.code.bytes.length≤1073741824)(A6:m.code.hs.length≤1073741824)(lb:nd.length≤4294967296):
 Cd.vc Tryz.prog NG (gP Tryz.prog [(4,none),(5,none)] fun v h'=>Ext h0 h'∧v= .tuple #[ao (acM c.pool m nd).1,ao (acM c.pool m nd).2])
  [(0,nU g),(6,aE q),(7,u7),(9,str nd),(75,u75),(76,u76),(77,u77),(78,u78)] h:=by
 rw[HU];have key:∀h3,Ext h h3→cellAt h3 ⟨q,0,none⟩=some (ax m.flags)∧cellAt h3 ⟨q,3,none⟩=some (.bool m.has)∧cellAt h3 ⟨q,5,none⟩=some (ao m.code.fF)∧RB h3 g c vp vi vf vm:=by
  intro h3 x3;have b2:=ay x3 qc awx;refine⟨?_,?_,?_,H.ext x3⟩
  all_goals rw[au b2];rfl
 obtain⟨k0,k3,k5,_⟩:=key h (Ext.refl _);have a1:cB .and .u16 (m.flags:Int) 1280=((m.flags&&&1280:Nat):Int):=jR _ 1280 tZ.flags (by decide);have H8:=fun h=>ahD (h:=h) m.flags tZ.flags;have anF:U5 c.pool m nd=if m.code.fF<((dB (mT nd)+(if m.flags&&&8=0 then 1 else 0):Nat):Int)then(12,0)else JB c.pool m.code:=rfl;unfold acM;rw[anF];generalize m.flags&&&1280=f1,m.flags&&&8=f8,hhas:m.has=hs at*;by_cases z1:f1≠0
 ·rw[show decide (f1≠0)=true by simp[z1]]
  cases hs with
  |true=>
   rw[awa rfl];simp(disch:=omega)only[bG,ae,seval,k0,k3,a1,va];exact X
  |false=>
   rw[av9 (by decide),awa z1];simp(disch:=omega)only[bG,ae,seval,k0,k3,a1,va];exact X
 rw[show decide (f1≠0)=false by simp;omega];have z1':f1=0:=by omega
 cases hs with
 |false=>
  rw[awa rfl];simp(disch:=omega)only[bG,ae,seval,k0,k3,a1,va];exact X
 |true=>
  rw[av9 (by decide),av9 z1];simp(disch:=omega)only[bG,ae,seval,k0,k3,a1,va];refine aj rfl (H8 h) ?_;rintro v1 h1⟨rfl,rfl⟩;have go:=fun(base:Nat)(hb:base≤1)(u18 u111 u112 u115:Value)=>SD (base:=base) (u7:=u7) (u75:=u75) (u76:=u76) (u77:=u77) (u78:=u78) (u18:=u18) (u111:=u111) (u112:=u112) (u115:=u115) H F X m nd qc tZ hH kO A6 lb hb;by_cases z8:f8=0
  ·rw[show decide (f8≠0)=false by simp[z8],awa z8]
   simp only[ae,seval];exact go 1 (by omega) _ _ _ _
  ·rw[show decide (f8≠0)=true by simp[z8],av9 z8]
   simp only[bG,ae,seval];exact go 0 (by omega) _ _ _ _
theorem Ue{h0:ar}{q b o cm:Nat}{vH u8 u10 u11 u52 u54 u56 u61 u68:Value}(H:RB h g c vp vi vf (.slice (some ⟨b,o,none⟩) c.methods.length cm))(F:CF c)(X:Ext h0 h)(i:Nat)(hi:i<c.methods.length)(AU:c.methods.length≤1073741824)(m:fj)(na nd:az)(qc:h[q]? =some (Gs m vH))
 (tZ:m.Fit)(hH:fR h 4 vH m.code.hs.length (gZ m.code.hs))(kO:m.code.bytes.length≤1073741824)(A6:m.code.hs.length≤1073741824)(lb:nd.length≤4294967296):
 Cd.vc Tryz.prog NH (gP Tryz.prog [(4,none),(5,none)] fun v h'=>Ext h0 h'∧v= .tuple #[ao (PH c.pool ((c.methods.take i).map (Gw c.pool)) m na nd).1,ao (PH c.pool ((c.methods.take i).map (Gw c.pool)) m na nd).2])
  [(0,nU g),(1,ao i),(4,ao 0),(5,ao 0),(6,aE q),(7,str na),(8,u8),(9,str nd),(10,u10),(11,u11),(13,undef),(14,undef),(16,undef),(18,undef),(19,undef),(20,undef),(24,undef),(52,u52),(54,u54),(56,u56),(61,u61),(68,u68),(75,undef),(76,undef),(77,undef),(78,undef),(102,undef),(111,undef),(112,undef),(115,undef),(122,undef),(123,undef),(124,undef),(125,undef),(137,undef)] h:=by
 rw[HV];have c8:cellAt h ⟨g,8,none⟩=some (.slice (some ⟨b,o,none⟩) c.methods.length cm):=H.at rfl;have Lw:c.methods.length≤cm:=H.cls.mc;have s0:(0:Int)≤(i:Int):=by omega
 have s1:(i:Int)≤(cm:Int):=by omega
 simp(disch:=omega)only[bG,ae,seval,c8,Nat.sub_zero,ahG];refine aG [0,6,7,9,75,76,77] (fun m ρ hd=>∃j:Nat,m=i-j∧j≤i∧
  ρ=[(0,nU g),(6,aE q),(7,str na),(9,str nd),(75, .slice (some ⟨b,o,none⟩) i cm),(76,ao i),(77,ao j)]∧Ext h hd∧
  (na,nd)∉(c.methods.take j).map (Gw c.pool)) ?_ ?_
 ·simp only[ae,seval]
  exact⟨_,0,rfl,awb _,rfl,Ext.refl _,by simp⟩
 rintro _ ρ hd⟨j,rfl,hj,rfl,hx,kQ⟩;by_cases vR:j<i
 case neg=>
  have rq:¬(j:Int)<(i:Int):=by omega
  have:j=i:=by omega
  subst this;unfold PH;rw[av9 kQ];simp only[bG,ae,seval,rq];exact WY (H.ext hx) F (X.trans hx) m nd (ay hx qc awx) tZ (hH.ext (by decide) hx) kO A6 lb
 have rq:(j:Int)<(i:Int):=by omega
 obtain⟨_,_,_,vH2,heq,di,j8,_⟩:=(H.ext hx).cls.m.at (i:=j) (by omega);cases heq;have si:=F.fit.methods _ (dF (d:=fj.zero) (i:=j) (l:=c.methods) (by omega));have Zp:=iU (l:=c.methods) (d:=fj.zero) (i:=j) (by omega);have kG:Gw c.pool (c.methods.getD j fj.zero)∈(c.methods.take i).map (Gw c.pool):=by
  refine List.mem_map_of_mem ?_;have Sc:(c.methods.take i).getD j fj.zero=c.methods.getD j fj.zero:=by simp[List.getD,vR]
  rw[←Sc];exact dF (by rw[awz];omega)
 generalize c.methods.getD j fj.zero=f2 at*;obtain⟨_,ah2,ch2,rfl,_⟩:=id j8;have bm:=aS lO di rfl;simp only[fQ,fX,awC,awD]at bm;simp(disch:=omega)only[bG,ae,seval,bm,rq];refine aD eH ?_;simp only[ae,seval];refine aI eH rfl rfl rfl (by simp[Value.cells,oneCell,str]) rfl ?_;intro h7 x7 _ qR b7;have k1:cellAt h7 ⟨hd.size,1,none⟩=some (ax f2.name):=qR 1 _ rfl;have k2:cellAt h7 ⟨hd.size,2,none⟩=some (ax f2.type):=qR 2 _ rfl;generalize hd.size=q7 at*;have pQ:=hx.trans x7;have H7:=H.ext pQ;have w2:=gU (k:=j) (by omega);simp only[bG,ae,seval,k1];refine aj rfl (jd H7 f2.name si.name) ?_;rintro v8 h8⟨rfl,rfl⟩;simp only[bG,ae,seval,k2];refine aj rfl (jd H7 f2.type si.type) ?_;rintro v9 h9⟨rfl,rfl⟩;have htt:Gw c.pool f2=(bM c.pool f2.name,bM c.pool f2.type):=rfl;rw[htt]at kG;generalize bM c.pool f2.name=n2,bM c.pool f2.type=d2 at*;have no:¬(n2=na∧d2=nd)→(na,nd)∉(c.methods.take (j+1)).map (Gw c.pool):=by
  intro cN;rw[Zp,List.map_append,awi];rintro(h|h)
  ·exact kQ h
  ·rw[List.map_singleton,awf,htt,aw8]at h
   exact cN ⟨h.1.symm,h.2.symm⟩
 by_cases e1:n2=na
 ·by_cases e2:d2=nd
  ·rw[e1,e2]at kG
   unfold PH;rw[awa kG];simp only[bG,ae,seval,av8 e1,av8 e2];exact X.trans pQ
  ·simp only[bG,ae,seval,av8 e1,av7 e2,w2]
   exact⟨i-(j+1),by omega,j+1,rfl,by omega,rfl,pQ,no fun h=>e2 h.2⟩
 ·simp only[bG,ae,seval,av7 e1,w2]
  exact⟨i-(j+1),by omega,j+1,rfl,by omega,rfl,pQ,no fun h=>e1 h.1⟩
theorem Gx{h0:ar}{q b o cm:Nat}{vH u8 u10 u11 u52 u54 u56 u61:Value}(H:RB h g c vp vi vf (.slice (some ⟨b,o,none⟩) c.methods.length cm))(F:CF c)(X:Ext h0 h)(i:Nat)(hi:i<c.methods.length)(AU:c.methods.length≤1073741824)(m:fj)(na nd:az)(qc:h[q]? =some (Gs m vH))
 (tZ:m.Fit)(hH:fR h 4 vH m.code.hs.length (gZ m.code.hs))(kO:m.code.bytes.length≤1073741824)(A6:m.code.hs.length≤1073741824)(lb:nd.length≤4294967296):
 Cd.vc Tryz.prog NI (gP Tryz.prog [(4,none),(5,none)] fun v h'=>Ext h0 h'∧v= .tuple #[ao (if Gr c.flags m.flags (dc na true)=false then(10,0)else PH c.pool ((c.methods.take i).map (Gw c.pool)) m na nd:Int × Int).1,ao (if Gr c.flags m.flags (dc na true)=false then(10,0)else PH c.pool ((c.methods.take i).map (Gw c.pool)) m na nd:Int × Int).2])
  [(0,nU g),(1,ao i),(4,ao 0),(5,ao 0),(6,aE q),(7,str na),(8,u8),(9,str nd),(10,u10),(11,u11),(13,undef),(14,undef),(16,undef),(18,undef),(19,undef),(20,undef),(24,undef),(52,u52),(54,u54),(56,u56),(61,u61),(68,undef),(75,undef),(76,undef),(77,undef),(78,undef),(102,undef),(111,undef),(112,undef),(115,undef),(122,undef),(123,undef),(124,undef),(125,undef),(137,undef)] h:=by
 rw[HW];have k0:cellAt h ⟨q,0,none⟩=some (ax m.flags):=by rw[au qc];rfl
 have go:=fun(u68:Value)=>Ue (h0:=h0) (u8:=u8) (u10:=u10) (u11:=u11) (u52:=u52) (u54:=u54) (u56:=u56) (u61:=u61) (u68:=u68) H F X i hi AU m na nd qc tZ hH kO A6 lb;generalize PH c.pool ((c.methods.take i).map (Gw c.pool)) m na nd=Z at*;simp only[bG,ae,seval,k0];refine aj rfl (WV H F m.flags tZ.flags na) ?_;rintro v1 h1⟨rfl,rfl⟩;cases Gr c.flags m.flags (dc na true)with
 |false=>
  rw[awa rfl];simp only[bG,ae,seval];exact X
 |true=>
  rw[av9 (by decide)];simp only[ae,seval];exact go _
theorem Uf(H:RB h g c vp vi vf vm)(F:CF c)(i:Nat)(hi:i<c.methods.length)(AU:c.methods.length≤1073741824)(kO:(c.methods.getD i fj.zero).code.bytes.length≤1073741824)(A6:(c.methods.getD i fj.zero).code.hs.length≤1073741824):
 aF Tryz.prog 102 #[nU g,ao i] h fun v h'=>Ext h h'∧v= .tuple #[ao (MY c.flags c.pool ((c.methods.take i).map (Gw c.pool)) (c.methods.getD i fj.zero)).1,ao (MY c.flags c.pool ((c.methods.take i).map (Gw c.pool)) (c.methods.getD i fj.zero)).2]:=by
 obtain⟨rws,_,qQ,_⟩:=id H.cls.m;obtain⟨_,am,cm,hvm,_⟩:=id qQ;subst hvm;refine HS (args:=[nU g,ao i]) rfl ?_;have c8:cellAt h ⟨g,8,none⟩=some (.slice am c.methods.length cm):=H.at rfl;have xy:(i:Int)<(c.methods.length:Int):=by omega
 obtain⟨b,o,c',vH,heq,di,WU,_⟩:=H.cls.m.at hi;cases heq;have ub:=F.fit.methods _ (dF (d:=fj.zero) hi);generalize KI:c.methods.getD i fj.zero=m at*;obtain⟨_,ah,ch,rfl,_⟩:=id WU;have bm:=aS lO di rfl;simp only[fQ,fX,awC,awD]at bm;simp(disch:=omega)only[bG,ae,seval,c8,xy,bm];refine aD eH ?_;simp(disch:=omega)only[bG,ae,seval];refine aI eH rfl rfl rfl (by simp[Value.cells,oneCell,str]) rfl ?_;intro h2 x2 _ vE b2;change h2[h.size]? =some (Gs m (.slice ah m.code.hs.length ch))at b2;have H2:=H.ext x2;have k1:cellAt h2 ⟨h.size,1,none⟩=some (ax m.name):=vE 1 _ rfl;have k2:cellAt h2 ⟨h.size,2,none⟩=some (ax m.type):=vE 2 _ rfl;generalize h.size=q at*;have la:=F.str m.name;have lb:=F.str m.type;simp(disch:=omega)only[bG,ae,seval,k1];refine aj rfl (jd H2 m.name ub.name) ?_;rintro v3 h3⟨rfl,rfl⟩;simp(disch:=omega)only[bG,ae,seval,k2];refine aj rfl (jd H2 m.type ub.type) ?_;rintro v4 h4⟨rfl,rfl⟩;have xT:∀seen na nd,(if(na,nd)∈seen then(11,0)else if decide (m.flags&&&1280≠0)=m.has then(13,0)else if m.flags&&&1280≠0 then(0,0)else U5 c.pool m nd)=PH c.pool seen m na nd:=fun _ _ _=>rfl;unfold MY;rw[xT];generalize bM c.pool m.name=na,bM c.pool m.type=nd,eV c.pool m.name 1=i1,eV c.pool m.type 1=i2 at*;cases i1 with
 |false=>
  rw[awa (.inl rfl)];simp(disch:=omega)only[bG,ae,seval];exact x2
 |true=>
  cases i2 with
  |false=>
   rw[awa (.inr rfl)];simp(disch:=omega)only[bG,ae,seval];exact x2
  |true=>
   rw[av9 (by simp)];by_cases h3:dc na true=3
   ·have hn:=(QF na).1 h3
    rw[av9 (by omega)];by_cases hd:nd=[40,41,86]
    ·rw[av9 (by
      subst hd;rw[h3];decide)]
     simp(disch:=omega)only[bG,ae,seval,av8 hn,av8 hd];have go:=fun(u8 u10 u11 u52 u54 u56 u61:Value)=>Gx (h0:=h) (u8:=u8) (u10:=u10) (u11:=u11) (u52:=u52) (u54:=u54) (u56:=u56) (u61:=u61) H2 F x2 i hi AU m na nd b2 ub (WU.ext (by decide) x2) kO A6 lb;exact go _ _ _ _ _ _ _
    ·rw[awa (.inr (.inr ⟨h3,hd⟩))]
     simp(disch:=omega)only[bG,ae,seval,av8 hn,av7 hd];exact x2
   ·have hn:¬na=[60,99,108,105,110,105,116,62]:=fun h=>h3 ((QF na).2 h)
    simp(disch:=omega)only[bG,ae,seval,av7 hn];refine aj rfl (yg na nd la lb false true) ?_;rintro v5 h5⟨x5,rfl⟩;rw[abQ na nd h3];have A8:=x2.trans x5;have go:=fun(u8 u10 u11 u52 u54 u56 u61:Value)=>Gx (h0:=h) (u8:=u8) (u10:=u10) (u11:=u11) (u52:=u52) (u54:=u54) (u56:=u56) (u61:=u61) (H2.ext x5) F A8 i hi AU m na nd (ay x5 b2 awx) ub (WU.ext (by decide) A8) kO A6 lb;by_cases m0:dc na true=0
    ·rw[awa m0,awa m0]
     simp(disch:=omega)only[bG,ae,↓reduceIte,Nat.reduceEqDiff,reduceCtorEq,Nat.reduceLeDiff,Nat.reducePow,Int.reducePow,Int.reduceToNat,Nat.reduceAdd,va];exact⟨A8,rfl⟩
    rw[av9 m0,av9 m0];by_cases h9:(fV nd).isSome=false∨(dc na true=2∧mG nd≠[86])
    ·rw[awa h9,awa (h9.elim .inl fun h=> .inr (.inl h))]
     simp(disch:=omega)only[bG,ae,↓reduceIte,Nat.reduceEqDiff,reduceCtorEq,Nat.reduceLeDiff,Nat.reducePow,Int.reducePow,Int.reduceToNat,Nat.reduceAdd,va];exact⟨A8,rfl⟩
    ·rw[av9 h9,av9 (fun h=>h.elim (fun h=>h9 (.inl h)) fun h=>h.elim (fun h=>h9 (.inr h)) fun h=>h3 h.1)]
     simp(disch:=omega)only[bG,ae,seval,va];exact go _ _ _ _ _ _ _
end
end
end Go.Proofs.YtmbboehmnfhjjaaGreatDoor
