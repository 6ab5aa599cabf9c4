/- The decoder of instructions: one instruction, whole. The decoder of instructions: all of them. The reference's reader of bytes (cut). -/
import Derived.Test.YtmbboehmnfhjjaaGreatDoorU16
import Derived.Test.YtmbboehmnfhjjaaGreatDoorU3
set_option maxRecDepth 100000
set_option maxHeartbeats 8000000
set_option linter.unusedSimpArgs false
set_option linter.unusedVariables false
set_option linter.defProp false
namespace Go.Proofs.YtmbboehmnfhjjaaGreatDoor
open Go.Vc
section
def MU(l:az)(p:Nat)(o:Nat × RS):In × RS:=
 if d6 o.1=15 then
  if d6 (aA l 1 o.2).1≠6∧d6 (aA l 1 o.2).1≠7 then(jZ p (aA l 1 o.2).1 true,cg 14 p (aA l 1 o.2).2)
  else nH (jZ p (aA l 1 o.2).1 true) p (d6 (aA l 1 o.2).1) l (aA l 1 o.2).2
 else nH (jZ p o.1 false) p (d6 o.1) l o.2
theorem YX(l:az)(s:RS):sN l s=MU l s.p (aA l 1 s):=rfl
section
variable{h:ar}{g q bd rb:Nat}{l:az}{s:RS}
theorem akl(p op:Nat)(hc:ar)(u0:Value)(rG:op<256)(hl:l.length≤1073741824)(rD:p≤l.length)
 (D:DR h hc g q bd rb l (jZ p op false) s)(hq:hc[q]? =some (.cells (fu (jZ p op false) nS nS).toArray 204 (0,0))):
 Cd.vc Tryz.prog EA (gP Tryz.prog [(2,some 204)] (UU h g l (MU l p (op,s))))
  [(0,u0),(1,aE bd),(2,aE rb),(3,aE q),(4,undef),(5,undef),(18,undef),(33,undef),(41,undef),(42,undef),(46,undef),(53,undef),(58,undef),(63,undef),(69,undef),(75,undef),(82,undef),(93,undef),(102,undef)] hc:=by
 rw[LK];generalize hY:MU l p (op,s)=Y;unfold MU at hY;simp only at hY;have oy:=D.d.cells;have e0:(jZ p op false).at'=(p:Int):=rfl;have e1:(jZ p op false).op=op:=rfl;rw[e0,e1]at oy;simp only[cj,ae,seval,oy];refine aj rfl (GZ op rG hc) ?_;intro v1 h1 dK;have e2:=dK.1;subst e2;have kF:=dK.2;have nT:=G1 op rG;by_cases hw:d6 op=15
 case neg=>
  rw[av9 hw]at hY;have hw':¬((d6 op:Nat):Int)=15:=by omega
  have d9:=YW (jZ p op false) p (d6 op) h1 u0 undef (.bool false) undef (by omega) hl rfl rD rfl rfl D hq;rw[hY]at d9;simp only[cj,ae,seval,kF,av7 hw'];exact d9
 rw[awa hw]at hY;have hw':((d6 op:Nat):Int)=15:=by omega
 simp only[cj,ae,seval,kF,av8 hw'];refine aC jf rfl rfl rfl rfl rfl oy.2.2.1 (D.d.fW 2) ?_;have D2:=D.set 2 (.bool true) (jZ p op true) rfl rfl (fun _ _=>rfl);have q2:=bu (o:=2) hq (.bool true);generalize setAt _ ⟨q,2,none⟩ _=h2 at*;have jG:=D2.d.cells;simp only[cj,ae,seval,jG];refine aj rfl (dU 1 hl (by omega) D2.d.rd) ?_;intro v3 h3 jQ;have D3:=D2.step jQ.1 jQ.2.1;have qj:=jQ.2.2;have q3:=ay jQ.1 q2 D2.d.gq.1;have bn:(aA l 1 s).1<256:=dJ;generalize aA l 1 s=T at*;obtain⟨lG,s3⟩:=T;simp only at*;have vn:=D3.d.cells;have YY:IntKind.u8.wrap (lG:Int)=(lG:Int):=wrap_u8 (by omega) (by omega);simp only[ae,seval,qj,YY];refine aC FO rfl rfl rfl rfl rfl vn.2.1 (D3.d.fW 1) ?_;have D4:=D3.set 1 (bH lG) (jZ p lG true) rfl rfl (fun _ _=>rfl);have q4:=bu (o:=1) q3 (bH lG);generalize setAt _ ⟨q,1,none⟩ _=h4 at*;have lF:=D4.d.cells;have e3:(jZ p lG true).at'=(p:Int):=rfl;have e4:(jZ p lG true).op=lG:=rfl;rw[e3,e4]at lF;simp only[cj,ae,seval,lF];refine aj rfl (GZ lG bn h4) ?_;intro v5 h5 tV;have e5:=tV.1;subst e5;have Gm:=tV.2;have UW:=G1 lG bn;by_cases vj:d6 lG≠6∧d6 lG≠7
 ·rw[awa vj]at hY
  subst hY;have g6:¬((d6 lG:Nat):Int)=6:=by omega
  have g7:¬((d6 lG:Nat):Int)=7:=by omega
  simp only[cj,ae,seval,Gm,lF,av7 g6,av7 g7];refine aj rfl (fA 14 p D4.d.rd) ?_;intro v6 h6 oz;have D9:=D4.step oz.1 oz.2;obtain⟨vk9,vt9,q9,DG,DI,Wu⟩:=id D9.d.xr;have bm:=aS gg (aN q9) rfl;simp only[fu]at bm;simp only[cj,ae,seval,bm];refine aO eB rfl rfl rfl ?_ D9.rk rfl ?_
  ·intro u hu
   obtain⟨_,ak,kk,rfl,_⟩:=DG.dQ;obtain⟨_,IJ,kt,rfl,_⟩:=DI.dQ;simp[Value.cells]at hu;rcases hu with rfl|rfl|rfl|rfl|rfl|rfl|rfl|rfl<;>rfl
  intro d9 f10 Wv;obtain⟨v,kF,DC⟩:=D9.fin q9 DG DI Wu f10 Wv;simp only[ae,seval,kF];exact DC
 ·rw[av9 vj]at hY
  have g67:(((d6 lG:Nat):Int)=6)∨(¬(((d6 lG:Nat):Int)=6)∧((d6 lG:Nat):Int)=7):=by omega
  have d9:=fun u33=>YW (jZ p lG true) p (d6 lG) h5 u0 undef (.bool true) u33 (by omega) hl rfl rD rfl rfl D4 q4;rw[hY]at d9;rcases g67 with g6|⟨g6,g7⟩
  ·simp only[cj,ae,seval,Gm,av8 g6]
   exact d9 _
  ·simp only[cj,ae,seval,Gm,av7 g6,av8 g7]
   exact d9 _
theorem aei(hl:l.length≤1073741824)(H:eF h g l s):
 aF Tryz.prog 195 #[.agg #[aE g]] h (UU h g l (sN l s)):=by
 refine LI (args:=[.agg #[aE g]]) rfl ?_;rw[YX];have hgl:=H.lt;have rD:=H.2;simp only[cj,ae,seval];refine cT ?_;have E1:=Ext.push h (.cells #[aE g] 284);have b1:(h.push (.cells #[aE g] 284))[h.size]? =some (.cells #[aE g] 284 (0,0)):=by simp
 have s1:(h.push (.cells #[aE g] 284)).size=h.size+1:=by simp
 simp only[ae,seval];generalize h.push _=h1 at*;refine aD eB ?_;have E2:=E1.trans (Ext.push h1 (.cells #[ao 0,bH 0, .bool false,ao 0,ao 0,ao 0,nS,nS] 204));have b2:=dw (o':= .cells #[ao 0,bH 0, .bool false,ao 0,ao 0,ao 0,nS,nS] 204) b1;have r2:(h1.push (.cells #[ao 0,bH 0, .bool false,ao 0,ao 0,ao 0,nS,nS] 204))[h1.size]? =some (.cells #[ao 0,bH 0, .bool false,ao 0,ao 0,ao 0,nS,nS] 204 (0,0)):=by simp
 have s2:(h1.push (.cells #[ao 0,bH 0, .bool false,ao 0,ao 0,ao 0,nS,nS] 204)).size=h.size+2:=by simp[s1]
 rw[s1]at r2⊢;have H2:=H.fr E2 id;have c2:cellAt (h1.push (.cells #[ao 0,bH 0, .bool false,ao 0,ao 0,ao 0,nS,nS] 204)) ⟨h.size,0,none⟩=some (aE g):=by rw[au b2];rfl
 generalize h1.push _=h2 at*;have bn:(aA l 1 s).1<256:=dJ;have fin:∀(hc:ar)(q:Nat),Fr (fun k=>k=g∨k=q) h hc→eF hc g l (aA l 1 s).2→hc[h.size]? =some (.cells #[aE g] 284 (0,0))→hc[h.size+1]? =some (.cells #[ao 0,bH 0, .bool false,ao 0,ao 0,ao 0,nS,nS] 204 (0,0))→h.size+2≤q→
  hc[q]? =some (.cells (fu (jZ s.p (aA l 1 s).1 false) nS nS).toArray 204 (0,0))→
  Cd.vc Tryz.prog EA (gP Tryz.prog [(2,some 204)] (UU h g l (MU l s.p (aA l 1 s))))
  [(0, .agg #[aE g]),(1,aE h.size),(2,aE (h.size+1)),(3,aE q),(4,undef),(5,undef),(18,undef),(33,undef),(41,undef),(42,undef),(46,undef),(53,undef),(58,undef),(63,undef),(69,undef),(75,undef),(82,undef),(93,undef),(102,undef)] hc:=by
  intro hc q f1 f2 f3 f4 f5 f6;exact akl s.p (aA l 1 s).1 hc _ bn hl rD ⟨⟨f1,f2,⟨_,_,f6,Own.nil,Own.nil,by intro k hk;simp[Value.ownBlock]at hk⟩,f3⟩,f4,by omega,by omega,by omega⟩ f6
 generalize hN:aA l 1 s=N at*;have YY:IntKind.u8.wrap (N.1:Int)=(N.1:Int):=wrap_u8 (by omega) (by omega);simp only[cj,ae,seval,c2];refine⟨?_,?_⟩
 ·refine aj rfl (xh H2) ?_
  intro v3 h3 jQ;have e3:=jQ.1;subst e3;have qj:=jQ.2;simp only[ae,seval,c2];refine⟨?_,?_⟩
  ·refine aj rfl (dU 1 hl (by omega) H2) ?_
   intro v4 h4 jU;rw[hN]at jU;have f4:=jU.1;have r4:=jU.2.1;have qZ:=jU.2.2;have b4:=ay f4 b2 (by omega);have rb4:=ay f4 r2 (by
    intro e;have k1:=H2.1;rw[←e,r2]at k1;cases k1)
   simp only[ae,seval,qj,qZ,YY];refine aD eB ?_;have c5:cellAt (h4.push (.cells #[ao 0,bH 0, .bool false,ao 0,ao 0,ao 0,nS,nS] 204)) ⟨h.size,0,none⟩=some (aE g):=by rw[au (dw b4)];rfl
   simp only[ae,seval,c5,YY];refine aI eB rfl rfl rfl (by simp[Value.cells,oneCell]) rfl ?_;intro h6 x6 ag7 avc b6;have nh:=f4.size;simp only[ae,seval];exact fin h6 h4.size (Fr.trans (Fr.trans E2 f4 (fun _ _ h=>h.elim) (fun _ _ h=>axa h)) x6 (fun _ _ h=>h) (fun _ _ h=>h.elim)) (r4.fr x6 id) (ay x6 b4 id) (ay x6 rb4 id) (by omega) b6
  ·refine aD eB ?_
   have x3:=Ext.push h3 (.cells #[ao 0,bH 0, .bool false,ao 0,ao 0,ao 0,nS,nS] 204);have E3:=E2.trans x3;have b3:=dw (o':= .cells #[ao 0,bH 0, .bool false,ao 0,ao 0,ao 0,nS,nS] 204) b2;have rr3:=dw (o':= .cells #[ao 0,bH 0, .bool false,ao 0,ao 0,ao 0,nS,nS] 204) r2;have H3:=H2.fr x3 id;have q3:(h3.push (.cells #[ao 0,bH 0, .bool false,ao 0,ao 0,ao 0,nS,nS] 204))[h3.size]? =some (.cells #[ao 0,bH 0, .bool false,ao 0,ao 0,ao 0,nS,nS] 204 (0,0)):=by simp
   have c3:cellAt (h3.push (.cells #[ao 0,bH 0, .bool false,ao 0,ao 0,ao 0,nS,nS] 204)) ⟨h.size,0,none⟩=some (aE g):=by rw[au b3];rfl
   simp only[ae,seval,c3,qj];refine aj rfl (dU 1 hl (by omega) H3) ?_;intro v4 h4 jU;rw[hN]at jU;have f4:=jU.1;have r4:=jU.2.1;have qZ:=jU.2.2;have b4:=ay f4 b3 (by omega);have rb4:=ay f4 rr3 (by
    intro e;have k1:=H3.1;rw[←e,rr3]at k1;cases k1)
   have q4:=ay f4 q3 (by omega);simp only[ae,seval,qZ,YY];refine aO eB rfl rfl rfl (by simp[Value.cells,oneCell]) q4 rfl ?_;intro h6 f6 b6;simp only[ae,seval];exact fin h6 h3.size (Fr.trans (Fr.trans E3 f4 (fun _ _ h=>h.elim) (fun _ _ h=>axa h)) f6 (fun _ _ h=>h) (fun _ _ h=>axb h)) (r4.fr f6 (by omega)) (ay f6 b4 (by omega)) (ay f6 rb4 (by omega)) (by omega) b6
 ·refine aD eB ?_
  have x3:=Ext.push h2 (.cells #[ao 0,bH 0, .bool false,ao 0,ao 0,ao 0,nS,nS] 204);have E3:=E2.trans x3;have b3:=dw (o':= .cells #[ao 0,bH 0, .bool false,ao 0,ao 0,ao 0,nS,nS] 204) b2;have rr3:=dw (o':= .cells #[ao 0,bH 0, .bool false,ao 0,ao 0,ao 0,nS,nS] 204) r2;have H3:=H2.fr x3 id;have q3:(h2.push (.cells #[ao 0,bH 0, .bool false,ao 0,ao 0,ao 0,nS,nS] 204))[h2.size]? =some (.cells #[ao 0,bH 0, .bool false,ao 0,ao 0,ao 0,nS,nS] 204 (0,0)):=by simp
  have c3:cellAt (h2.push (.cells #[ao 0,bH 0, .bool false,ao 0,ao 0,ao 0,nS,nS] 204)) ⟨h.size,0,none⟩=some (aE g):=by rw[au b3];rfl
  simp only[ae,seval,c3];refine aj rfl (xh H3) ?_;intro v3 h3 jQ;have e3:=jQ.1;subst e3;have qj:=jQ.2;simp only[ae,seval,c3,qj];refine aj rfl (dU 1 hl (by omega) H3) ?_;intro v4 h4 jU;rw[hN]at jU;have f4:=jU.1;have r4:=jU.2.1;have qZ:=jU.2.2;have b4:=ay f4 b3 (by omega);have rb4:=ay f4 rr3 (by
   intro e;have k1:=H3.1;rw[←e,rr3]at k1;cases k1)
  have q4:=ay f4 q3 (by omega);simp only[ae,seval,qZ,YY];refine aO eB rfl rfl rfl (by simp[Value.cells,oneCell]) q4 rfl ?_;intro h6 f6 b6;simp only[ae,seval];exact fin h6 h2.size (Fr.trans (Fr.trans E3 f4 (fun _ _ h=>h.elim) (fun _ _ h=>axa h)) f6 (fun _ _ h=>h) (fun _ _ h=>axb h)) (r4.fr f6 (by omega)) (ay f6 b4 (by omega)) (ay f6 rb4 (by omega)) (by omega) b6
end
end
section
def tg(h:ar)(base:Nat)(x:In)(r:List Value):Prop:=∃vk vt,r=fu x vk vt∧Own h base 3 1 vk x.keys.length (eI x.keys)∧Own h base 3 1 vt x.bX.length (eI x.bX)∧∀k,vk.ownBlock=some k→¬vt.ownBlock=some k
def xl(r:List Value)(b:Nat):Prop:=(r.getD 6 undef).ownBlock=some b∨(r.getD 7 undef).ownBlock=some b
def lH(h:ar)(base:Nat)(v:Value)(xs:List In):Prop:=∃rows:List (List Value),rows.length=xs.length∧Own h base 204 8 v xs.length rows.flatten∧
 (∀j,j<xs.length→tg h base (xs.getD j l8) (rows.getD j []))∧∀j k,j<k→k<xs.length→∀b c,xl (rows.getD j []) b→xl (rows.getD k []) c→b<c
theorem tg.lt{h:ar}{base:Nat}{x:In}{r:List Value}(H:tg h base x r){b:Nat}(hb:xl r b):base≤b∧b<h.size:=by
 obtain⟨vk,vt,rfl,h2,h3,_⟩:=H;rcases hb with hb|hb
 ·exact h2.lt b hb
 ·exact h3.lt b hb
theorem tg.fr{S:Nat→Prop}{h h':ar}{base:Nat}{x:In}{r:List Value}(H:tg h base x r)(f:Fr S h h')(hS:∀b,xl r b→¬S b):tg h' base x r:=by
 obtain⟨vk,vt,rfl,h2,h3,h4⟩:=H;exact⟨vk,vt,rfl,h2.fr f (fun k hk=>hS k (axa hk)),h3.fr f (fun k hk=>hS k (axb hk)),h4⟩
theorem tg.int{h:ar}{base:Nat}{x:In}{r:List Value}(H:tg h base x r){b:Nat}(hb:xl r b){cs:Array Value}{t:TypeId}{fz:Nat × Nat}(hc:h[b]? =some (.cells cs t fz)):t=3:=by
 obtain⟨vk,vt,rfl,h2,h3,_⟩:=H;refine Classical.byContradiction fun cN=>?_;rcases hb with hb|hb
 ·exact bK h2 hc (Ne.symm cN) hb
 ·exact bK h3 hc (Ne.symm cN) hb
theorem tg.inc{h:ar}{base:Nat}{x:In}{r:List Value}(H:tg h base x r):Yz h x r:=by
 obtain⟨vk,vt,h1,h2,h3,_⟩:=H;exact⟨vk,vt,h1,h2.dQ,h2.gH,h3.dQ,h3.gH⟩
theorem lH.alp{h:ar}{base:Nat}{v:Value}{xs:List In}(H:lH h base v xs):Pr h v xs:=by
 obtain⟨rows,h1,h2,h3,_⟩:=H;exact⟨rows,h1,h2.dQ,fun j hj=>(h3 j hj).inc⟩
theorem Ww{h:ar}{base:Nat}{e:TypeId}{size n:Nat}{v:Value}{xs:List Value}(H:Own h base e size v n xs):n≤9223372036854775807:=by
 rcases H.2 with⟨_,rfl⟩|⟨g,cap,cur,fz,_,_,_,_,h5,h6,_⟩
 ·exact awb _
 ·have:maxLen=9223372036854775807:=by decide+kernel
  omega
theorem lH.ext{h h':ar}{base:Nat}{v:Value}{xs:List In}(H:lH h base v xs)(hx:Ext h h'):lH h' base v xs:=by
 obtain⟨rows,h1,h2,h3,h4⟩:=H;exact⟨rows,h1,h2.ext hx,fun j hj=>(h3 j hj).fr hx (fun _ _=>id),h4⟩
theorem lH.nil{h:ar}{base:Nat}:lH h base nS []:=⟨[],rfl,Own.nil,fun j hj=>by simp at hj,fun j k _ hk=>by simp at hk⟩
theorem lH.snoc{h h':ar}{base:Nat}{v':Value}{xs:List In}{x:In}{r:List Value}{rows:List (List Value)}(h1:rows.length=xs.length)(h3:∀j,j<xs.length→tg h base (xs.getD j l8) (rows.getD j []))
 (h4:∀j k,j<k→k<xs.length→∀b c,xl (rows.getD j []) b→xl (rows.getD k []) c→b<c)
 (apZ:Own h' base 204 8 v' (xs.length+1) (rows++[r]).flatten)
 (MB:tg h' base x r)(hold:∀j,j<xs.length→tg h' base (xs.getD j l8) (rows.getD j []))(aV:∀b,xl r b→h.size≤b):lH h' base v' (xs++[x]):=by
 refine⟨rows++[r],by simp[h1],by simpa using apZ,?_,?_⟩
 ·intro j hj
  rcases Nat.lt_or_ge j xs.length with lR|lR
  ·have e1:(rows++[r]).getD j []=rows.getD j []:=by simp[awS (by omega:j<rows.length)]
   have e2:(xs++[x]).getD j l8=xs.getD j l8:=by simp[awS lR]
   rw[e1,e2];exact hold j lR
  ·have hje:j=xs.length:=by simp at hj;omega
   subst hje;have e1:(rows++[r]).getD xs.length []=r:=by simp[←h1]
   have e2:(xs++[x]).getD xs.length l8=x:=by simp
   rw[e1,e2];exact MB
 ·intro j k hjk hk b c hb hc
  have hj':j<xs.length:=by simp at hk;omega
  have e1:(rows++[r]).getD j []=rows.getD j []:=by simp[awS (by omega:j<rows.length)]
  rw[e1]at hb;rcases Nat.lt_or_ge k xs.length with PZ|PZ
  ·have e2:(rows++[r]).getD k []=rows.getD k []:=by simp[awS (by omega:k<rows.length)]
   rw[e2]at hc;exact h4 j k hjk PZ b c hb hc
  ·have hke:k=xs.length:=by simp at hk;omega
   subst hke;have e2:(rows++[r]).getD xs.length []=r:=by simp[←h1]
   rw[e2]at hc;have:=((h3 j hj').lt hb).2;have:=aV c hc;omega
theorem tX{h:ar}{b:Nat}{cs Qn:Array Value}{t t':TypeId}{fz Yu:Nat × Nat}(h1:h[b]? =some (.cells cs t fz))(h2:h[b]? =some (.cells Qn t' Yu)):t=t':=by
 rw[h1]at h2;simp only[awe,awE]at h2;exact h2.2.1
theorem Own.cells{h:ar}{base:Nat}{e:TypeId}{size n k:Nat}{v:Value}{xs:List Value}(H:Own h base e size v n xs)(hk:v.ownBlock=some k):∃cs fz,h[k]? =some (.cells cs e fz):=by
 rcases H.2 with⟨rfl,_⟩|⟨g,cap,cur,fz,rfl,_,hg,_⟩
 ·simp[Value.ownBlock]at hk
 ·simp[Value.ownBlock]at hk
  subst hk;exact⟨_,_,hg⟩
theorem lH.rd{h h':ar}{base g:Nat}{v:Value}{xs:List In}{l:az}{s:RS}(H:lH h base v xs)(f:Fr (fun k=>k=g) h h')(R:eF h g l s):lH h' base v xs:=by
 obtain⟨rows,h1,h2,h3,h4⟩:=H;refine⟨rows,h1,h2.fr f ?_,fun j hj=>(h3 j hj).fr f ?_,h4⟩
 ·intro k hk hs;subst hs;exact bK h2 R.1 (by decide) hk
 ·intro b hb hs;subst hs
  have:=(h3 j hj).int hb R.1;exact aww this (by decide)
theorem lH.at{h:ar}{base:Nat}{v:Value}{l:List In}(H:lH h base v l){i:Nat}(hi:i<l.length):∃b o c vk vt,v= .slice (some ⟨b,o,none⟩) l.length c∧Rd h b (o+i*8) (fu (l.getD i l8) vk vt)∧
 Own h base 3 1 vk (l.getD i l8).keys.length (eI (l.getD i l8).keys)∧Own h base 3 1 vt (l.getD i l8).bX.length (eI (l.getD i l8).bX):=by
 obtain⟨rows,h1,h2,h3,_⟩:=H;obtain⟨b,o,c,e1,e2,e3⟩:=h2.dQ.at hi;have oD:∀r∈rows,r.length=8:=by
  intro r hr;obtain⟨j,hj,rfl⟩:=List.mem_iff_getElem.1 hr;have:=(h3 j (by omega)).inc.len;simpa[hj]using this
 rw[MH 8 rows i oD (by omega)]at e2;obtain⟨vk,vt,q1,q2,q3,q4⟩:=h3 i hi;rw[q1]at e2;exact⟨b,o,c,vk,vt,e1,e2,q2,q3⟩
structure Jx(h hc:ar)(g bd gb:Nat)(l:az)(eU:List Int)(sv:Value)(xs:List In)(s:RS):Prop where
 x:Ext h hc
 r:eF hc g l s
 b:hc[bd]? =some (.cells #[aE g] 284 (0,0))
 k:hc[gb]? =some (.cells (ku l.length eU).toArray 4 (0,0))
 f:lH hc h.size sv xs
 g0:h.size≤g
section
variable{h h1 h2:ar}{g bd gb:Nat}{l:az}{eU:List Int}{sv:Value}{xs:List In}{s s':RS}
theorem Jx.step(H:Jx h h1 g bd gb l eU sv xs s)(f:Fr (fun k=>k=g) h1 h2)(r:eF h2 g l s'):Jx h h2 g bd gb l eU sv xs s':=by
 have hg:=H.g0;refine⟨Fr.trans H.x f (fun _ _ h=>h) (fun k hk hs=>by omega),r,ay f H.b ?_,ay f H.k ?_,H.f.rd f H.r,hg⟩
 ·intro e;have k1:=H.r.1;rw[←e]at k1;exact aww (tX H.b k1) (by decide)
 ·intro e;have k1:=H.r.1;rw[←e]at k1;exact aww (tX H.k k1) (by decide)
theorem Jx.ext(H:Jx h h1 g bd gb l eU sv xs s)(e:Ext h1 h2):Jx h h2 g bd gb l eU sv xs s:=⟨H.x.trans e,H.r.fr e id,ay e H.b id,ay e H.k id,H.f.ext e,H.g0⟩
end
theorem YZ(x:In)(a f:Nat)(l:az)(s:RS):(nH x a f l s).1.at'=x.at':=by
 have hi:∀(c:Prop) [Decidable c](y z:In × RS),y.1.at'=x.at'→z.1.at'=x.at'→(if c then y else z).1.at'=x.at':=by
  intro c _ y z hy hz
  split<;>assumption
 unfold nH;simp only;refine hi _ _ _ rfl (hi _ _ _ rfl (hi _ _ _ rfl (hi _ _ _ rfl (hi _ _ _ rfl (hi _ _ _ rfl (hi _ _ _ rfl (hi _ _ _ rfl (hi _ _ _ rfl (hi _ _ _ ?_ (hi _ _ _ rfl (hi _ _ _ rfl (hi _ _ _ rfl rfl))))))))))));unfold sM;simp only;exact hi _ _ _ (hi _ _ _ rfl rfl) (hi _ _ _ rfl rfl)
theorem Y0(l:az)(s:RS):(sN l s).1.at'=(s.p:Int):=by
 unfold sN;simp only
 split
 ·split
  ·rfl
  ·rw[YZ];rfl
 ·rw[YZ];rfl
theorem UX{l:az}{k:Nat}{xs:List In}{s:RS}(h:¬(s.p<l.length∧s.e=0)):xk l k xs s=(xs,s):=by
 cases k with
 |zero=>rfl
 |succ k=>rw[xk,av9 h]
theorem Y1(l:az)(h:ar)(hl:l.length≤1073741824):
 aF Tryz.prog 125 #[str l] h fun v h'=>Ext h h'∧∃sv,v= .tuple #[sv,ao ((j0 l).2.1:Int),ao ((j0 l).2.2:Int)]∧lH h' h.size sv (j0 l).1:=by
 refine CU (args:=[str l]) rfl ?_;generalize hY:j0 l=Y;unfold j0 at hY;by_cases hlen:l.length=0∨65535<l.length
 ·rw[awa hlen]at hY
  subst hY;by_cases h0:l=[]
  ·simp only[cM,ae,seval,av8 h0]
   exact⟨Ext.refl _,_,rfl,lH.nil⟩
  ·have h1:(65535:Int)<l.length:=by
    have:l.length≠0:=fun hh=>h0 (List.eq_nil_of_length_eq_zero hh);omega
   simp only[cM,ae,seval,av7 h0,h1];exact⟨Ext.refl _,_,rfl,lH.nil⟩
 rw[av9 hlen]at hY;have h0:¬l=[]:=by intro hh;rw[hh]at hlen;simp at hlen
 have h1:¬(65535:Int)<l.length:=by omega
 simp only[cM,ae,seval,av7 h0,h1];refine aj rfl (Gd l h) ?_;intro v2 h2 nj;have x2:=nj.1;have DC:=nj.2.1;have r2:=nj.2.2.1;have ji:=nj.2.2.2;obtain⟨g,hg⟩:∃g,g=h.size:=⟨_,rfl⟩;rw[←hg]at DC r2;have hgh:h.size≤g:=by omega
 have hg2:g<h2.size:=by omega
 simp only[ae,seval,DC];refine aD Rn ?_;simp only[ae,seval];refine aI Rn rfl rfl rfl (by simp[Value.cells,oneCell]) rfl ?_;intro h3 x3 nQ Gc b3;change h3[h2.size]? =some (.cells #[aE g] 284 (0,0))at b3;have X3:=x2.trans x3;have r3:=r2.fr x3 id;have hbd:h.size≤h2.size:=x2.size;have hgb:h2.size≠g:=by omega
 generalize h2.size=bd at*;simp only[cM,ae,seval];refine rA FN rfl rfl (by omega) (by omega) (by omega) ?_;intro cs z ii hii KH hcs;have Sb:z.cells=#[.bool false]:=by
  obtain⟨ii',z',w1,w2,w3,_⟩:=jx jf;rw[hii]at w1;cases w1;rw[KH]at w2;cases w2;exact w3
 rw[Sb,show((l.length:Nat):Int).toNat*1=l.length by omega,KG]at hcs;subst hcs;have X4:=X3.trans (Ext.push h3 (.cells (ku l.length []).toArray 4));have r4:=r3.fr (Ext.push h3 (.cells (ku l.length []).toArray 4)) id;have b4:=dw (o':= .cells (ku l.length []).toArray 4) b3;have k4:(h3.push (.cells (ku l.length []).toArray 4))[h3.size]? =some (.cells (ku l.length []).toArray 4 (0,0)):=by simp
 have hgs:h.size≤h3.size:=X3.size;generalize h3.push _=h4,h3.size=gb at*;simp only[cM,ae,seval];refine aG [0,5,6,7] (fun m ρ hc=>∃(xs:List In)(s:RS)(sv:Value)(rows:List (List Value)),xs.length+m≤l.length∧(s.e=0→l.length-s.p≤m)∧ρ=[(0,str l),(5,aE bd),(6, .slice (some ⟨gb,0,none⟩) l.length l.length),(7,sv)]∧
  Ext h hc∧eF hc g l s∧hc[bd]? =some (.cells #[aE g] 284 (0,0))∧hc[gb]? =some (.cells (ku l.length (xs.map In.at')).toArray 4 (0,0))∧
  rows.length=xs.length∧Own hc h.size 204 8 sv xs.length rows.flatten∧(∀j,j<xs.length→tg hc h.size (xs.getD j l8) (rows.getD j []))∧(∀j k,j<k→k<xs.length→∀b c,xl (rows.getD j []) b→xl (rows.getD k []) c→b<c)∧
  (∀x∈xs,∃a:Nat,x.at'=(a:Int)∧a≤l.length)∧Px l (xk l m xs s)=Y) ?_ ?_
 ·simp only[ae,seval]
  exact⟨l.length,[],⟨0,0,0⟩,_,[],by simp,by simp,rfl,X4,r4,b4,k4,rfl,Own.nil,fun j hj=>by simp at hj,fun j k _ hk=>by simp at hk,by simp,hY⟩
 rintro m ρ hc⟨xs,s,sv,rows,hm1,qQ,rfl,X,R,B,KB,hr1,own,hr3,hr4,Y2,hY⟩;have cb:cellAt hc ⟨bd,0,none⟩=some (aE g):=by rw[au B];rfl
 have bm:ld Tryz.prog 284 ⟨bd,0,none⟩ hc=some (.agg #[aE g]):=aS KD (aN (vs:=[aE g]) B) rfl;have rD:=R.2;simp only[cM,ae,seval,cb];refine aj rfl (Oh hl R) ?_;intro v5 h5 tV;have e5:=tV.1;subst e5;have Gm:=tV.2;by_cases eK:s.p<l.length∧s.e=0
 case neg=>
  rw[UX eK]at hY;have S0:Jx h h5 g bd gb l (xs.map In.at') sv xs s:=⟨X,R,B,KB,⟨rows,hr1,own,hr3,hr4⟩,hgh⟩;obtain⟨sa,sc,rfl,_⟩:=own.dQ.2;have KS:=Ww own;unfold Px at hY;simp only at hY;generalize hF:Cp l.length (xs.map In.at') xs s=F at*;by_cases hp:s.p<l.length
  case' pos=>
   have aK:(0:Int)<((l.length-s.p:Nat):Int):=by omega
   have he:(s.e≠0)=True:=av8 (fun hh=>eK ⟨hp,hh⟩);simp only[ae,seval,Gm,cb,aK];refine aj rfl (jB R) ?_;intro v6 h6 oz;have e6:=oz.1;subst e6;have Wt:=oz.2;simp only[he,awY]at Wt;simp only[cM,ae,seval,Wt]
  case' neg=>
   have aK:¬(0:Int)<((l.length-s.p:Nat):Int):=by omega
   simp only[cM,ae,seval,Gm,aK]
  all_goals
   refine aG [0,5,6,7,47,48,49] (fun m ρ hc=>∃(i:Nat)(s1:RS),m=xs.length-i∧i≤xs.length∧ρ=[(0,str l),(5,aE bd),(6, .slice (some ⟨gb,0,none⟩) l.length l.length),(7, .slice sa xs.length sc),(47, .slice sa xs.length sc),(48,ao xs.length),(49,ao i)]∧
    Jx h hc g bd gb l (xs.map In.at') (.slice sa xs.length sc) xs s1∧Cp l.length (xs.map In.at') (xs.drop i) s1=F) ?_ ?_
   ·simp only[ae,seval]
    exact⟨_,0,s,rfl,awb _,rfl,S0,hF⟩
   rintro m ρ hc⟨i,s1,rfl,hi,rfl,S1,hF⟩;have cb:cellAt hc ⟨bd,0,none⟩=some (aE g):=by rw[au S1.b];rfl
   rcases Nat.lt_or_ge i xs.length with aV|VJ
   case inr=>
    have aK:¬(i:Int)<xs.length:=by omega
    have hd:xs.drop i=[]:=by rw[List.drop_eq_nil_iff];omega
    rw[hd,Cp]at hF;subst hF;simp only[cM,ae,seval,aK,cb];refine aj rfl (YS S1.r) ?_;intro v7 h7 oK;have e7:=oK.1;subst e7;have Gj:=oK.2;by_cases he:s1.e=0
    ·have dH:(s1.e:Int)=0:=by omega
     rw[av9 (by simp[he])]at hY;subst hY;simp only[cM,ae,seval,Gj,av8 dH];exact⟨S1.x,_,rfl,S1.f⟩
    ·have dH:¬(s1.e:Int)=0:=by omega
     rw[awa (by simpa using he)]at hY;subst hY;simp only[cM,ae,seval,Gj,av7 dH];exact⟨S1.x,_,rfl,lH.nil⟩
   have aK:(i:Int)<xs.length:=by omega
   rw[gL (d:=l8) aV,Cp]at hF;obtain⟨rb,ro,rc,vk,vt,heq,tG,sk,st⟩:=S1.f.at aV;cases heq;obtain⟨a,ha,II⟩:=Y2 _ (dF (d:=l8) aV);have KM:=Ww st;generalize xs.getD i l8=x at*;rw[ha,Int.toNat_natCast]at hF;have Cn:=aS gg tG rfl;obtain⟨_,ak,kk,rfl,_⟩:=sk.dQ;obtain⟨_,IJ,kt,rfl,_⟩:=st.dQ;simp only[fu]at Cn;simp(disch:=omega)only[cM,ae,seval,aK,Cn];refine aD eB ?_;simp only[ae,seval];refine aI eB rfl rfl rfl (by simp[Value.cells,oneCell]) rfl ?_;intro h3 x3 nQ Gc b3;change h3[hc.size]? =some (.cells (fu x (.slice ak x.keys.length kk) (.slice IJ x.bX.length kt)).toArray 204 (0,0))at b3;have c7:cellAt h3 ⟨hc.size,7,none⟩=some (.slice IJ x.bX.length kt):=Gc 7 _ rfl;have S3:=S1.ext x3;have st3:=st.ext x3;have hqg:hc.size≠g:=by have:=S1.r.lt;omega
   generalize hc.size=q at*;simp only[cM,ae,seval,c7];refine aG [0,5,6,7,9,47,48,49,54,55,56] (fun m ρ hc=>∃(j:Nat)(s2:RS),m=x.bX.length-j∧j≤x.bX.length∧
    ρ=[(0,str l),(5,aE bd),(6, .slice (some ⟨gb,0,none⟩) l.length l.length),(7, .slice (some ⟨rb,ro,none⟩) xs.length sc),(9,aE q),(47, .slice (some ⟨rb,ro,none⟩) xs.length sc),(48,ao xs.length),(49,ao i),(54, .slice IJ x.bX.length kt),(55,ao x.bX.length),(56,ao j)]∧
    Jx h hc g bd gb l (xs.map In.at') (.slice (some ⟨rb,ro,none⟩) xs.length sc) xs s2∧hc[q]? =some (.cells (fu x (.slice ak x.keys.length kk) (.slice IJ x.bX.length kt)).toArray 204 (0,0))∧Own hc h.size 3 1 (.slice IJ x.bX.length kt) x.bX.length (eI x.bX)∧
    Cp l.length (xs.map In.at') (xs.drop (i+1)) (Ge l.length (xs.map In.at') a (x.bX.drop j) s2)=F) ?_ ?_
   ·simp only[ae,seval]
    exact⟨_,0,s1,rfl,awb _,rfl,S3,b3,st3,hF⟩
   rintro m ρ IK⟨j,s2,rfl,hj,rfl,S4,b4,Wx,hF⟩;rcases Nat.lt_or_ge j x.bX.length with ta|hjg
   case inr=>
    have ji:¬(j:Int)<x.bX.length:=by omega
    have hd:x.bX.drop j=[]:=by rw[List.drop_eq_nil_iff];omega
    rw[hd,Ge]at hF;simp(disch:=omega)only[cM,ae,seval,ji];exact⟨_,by omega,i+1,s2,rfl,by omega,by simp,S4,hF⟩
   have ji:(j:Int)<x.bX.length:=by omega
   rw[gL (d:=0) ta,Ge]at hF;obtain⟨tb,to,tc,ahb,hcs,_⟩:=Wx.dQ.at ta;cases ahb;have t0:cellAt IK ⟨tb,to+j,none⟩=some (ao (x.bX.getD j 0)):=by
    have:=hcs 0 (ao (x.bX.getD j 0)) (by simp[eI,ta]);simpa using this
   generalize x.bX.getD j 0=t at*;have cb2:cellAt IK ⟨bd,0,none⟩=some (aE g):=by rw[au S4.b];rfl
   have cq:cellAt IK ⟨q,0,none⟩=some (ao a):=by rw[au b4,←ha];rfl
   by_cases rP:RJ l.length (xs.map In.at') t=true
   case neg=>
    rw[av9 rP]at hF;have Rs:0≤t∧t<(l.length:Int)∧(xs.map In.at').contains t=true:=by
     unfold RJ at rP;simp only[Bool.not_eq_true',Bool.and_eq_false_iff,not_or,Bool.not_eq_false,awo]at rP;exact⟨rP.1.1,rP.1.2,rP.2⟩
    obtain⟨tn,rfl⟩:∃tn:Nat,t=(tn:Int):=⟨t.toNat,by omega⟩;have g1:¬(tn:Int)<0:=by omega
    have g2:¬(l.length:Int)≤(tn:Int):=by omega
    have g3:(tn:Int)<(l.length:Int):=Rs.2.1;have Oo:cellAt IK ⟨gb,tn,none⟩=some (.bool true):=by
     rw[au S4.k,awl,sH (by omega),Rs.2.2]
    simp(disch:=omega)only[cM,ae,seval,ji,t0,g1,g2,Oo];exact⟨_,by omega,j+1,s2,rfl,by omega,by simp,S4,b4,Wx,hF⟩
   rw[awa rP]at hF;have vl:∀(h6:ar),Fr (fun k=>k=g) IK h6∧eF h6 g l (cg 16 a s2)→Jx h h6 g bd gb l (xs.map In.at') (.slice (some ⟨rb,ro,none⟩) xs.length sc) xs (cg 16 a s2)∧h6[q]? =some (.cells (fu x (.slice ak x.keys.length kk) (.slice (some ⟨tb,to,none⟩) x.bX.length kt)).toArray 204 (0,0))∧Own h6 h.size 3 1 (.slice (some ⟨tb,to,none⟩) x.bX.length kt) x.bX.length (eI x.bX):=by
    intro h6 oz;refine⟨S4.step oz.1 oz.2,ay oz.1 b4 hqg,Wx.fr oz.1 ?_⟩;intro k hk hs;subst hs;exact bK Wx S4.r.1 (by decide) hk
   by_cases g1:t<0
   case' pos=>
    simp(disch:=omega)only[cM,ae,seval,ji,t0,g1,cb2,cq]
   case' neg=>
    by_cases g2:(l.length:Int)≤t
    case' pos=>
     simp(disch:=omega)only[cM,ae,seval,ji,t0,g1,g2,cb2,cq]
    case' neg=>
     obtain⟨tn,rfl⟩:∃tn:Nat,t=(tn:Int):=⟨t.toNat,by omega⟩;have g3:(tn:Int)<(l.length:Int):=by omega
     have hct:(xs.map In.at').contains ((tn:Nat):Int)=false:=by
      unfold RJ at rP;rw[awh (by omega:0≤(tn:Int)),awh g3]at rP;simpa using rP
     have Oo:cellAt IK ⟨gb,tn,none⟩=some (.bool false):=by
      rw[au S4.k,awl,sH (by omega),hct]
     simp(disch:=omega)only[cM,ae,seval,ji,t0,g1,g2,Oo,cb2,cq]
   all_goals
    refine aj rfl (fA 16 a S4.r) ?_;intro v6 h6 oz;obtain⟨S6,b6,st6⟩:=vl h6 oz;simp(disch:=omega)only[cM,ae,seval];exact⟨_,by omega,j+1,_,rfl,by omega,by simp,S6,b6,st6,hF⟩
 have aK:(0:Int)<((l.length-s.p:Nat):Int):=by omega
 have hem:(s.e≠0)=False:=av7 (by simp[eK.2]);simp only[ae,seval,Gm,cb,aK];refine aj rfl (jB R) ?_;intro v6 h6 oz;have e6:=oz.1;subst e6;have Wt:=oz.2;simp only[hem,awZ]at Wt;simp only[cM,ae,seval,Wt,cb];refine aj rfl (xh R) ?_;intro v7 h7 oK;have e7:=oK.1;subst e7;have Gj:=oK.2;have hpi:(s.p:Int)<(l.length:Int):=by omega
 have Oo:cellAt h7 ⟨gb,s.p,none⟩=some (.bool ((xs.map In.at').contains ((s.p:Nat):Int))):=by
  rw[au KB,awl];exact sH eK.1 _
 simp(disch:=omega)only[ae,seval,Gj];refine aC jf rfl rfl rfl rfl rfl Oo (by simp[frozenAt,KB]) ?_;have f8:Fr (fun k=>k=gb) h7 (setAt h7 ⟨gb,s.p,none⟩ (.bool true)):=Fr.set (S:=fun k=>k=gb) _ _ _ fun _=>rfl;have KB8:=bu (o:=s.p) KB (.bool true);rw[N3]at KB8;have Y3:gb≠g:=by intro e;have k1:=R.1;rw[←e]at k1;exact aww (tX KB k1) (by decide)
 have yx:bd≠gb:=by intro e;rw[e]at B;exact aww (tX KB B) (by decide)
 have R8:=R.fr f8 (Ne.symm Y3);have B8:=ay f8 B yx;have X8:Ext h (setAt h7 ⟨gb,s.p,none⟩ (.bool true)):=Fr.trans X f8 (fun _ _ h=>h) (fun k hk hs=>by omega);have Y4:=own.fr f8 (fun k hk hS=>by subst hS;exact bK own KB (by decide) hk);have hr8:∀j,j<xs.length→tg (setAt h7 ⟨gb,s.p,none⟩ (.bool true)) h.size (xs.getD j l8) (rows.getD j []):=fun j hj=>(hr3 j hj).fr f8 (fun b hb hs=>by subst hs;exact aww ((hr3 j hj).int hb KB) (by decide));generalize setAt h7 ⟨gb,s.p,none⟩ (.bool true)=h8 at*;have bm:ld Tryz.prog 284 ⟨bd,0,none⟩ h8=some (.agg #[aE g]):=aS KD (aN (vs:=[aE g]) B8) rfl;simp only[cM,ae,seval,bm];refine aj rfl (aei hl R8) ?_;intro v9 h9 AX;have f9:=AX.1;have R9:=AX.2.1;obtain⟨vk,vt,KR,DG,DI,Wu⟩:=AX.2.2;obtain⟨m',rfl⟩:∃m',m=m'+1:=⟨m-1,by have:=qQ eK.2;omega⟩;rw[xk,awa eK]at hY;have hxa:=Y0 l s;have jV:=ok_one l s rD;generalize sN l s=O at*;obtain⟨x,s9⟩:=O;simp only at hY R9 KR DG DI hxa jV;have Sc:g≠bd∧g≠gb:=⟨(by intro e;have k1:=R8.1;rw[e]at k1;exact aww (tX B8 k1) (by decide)),(by intro e;exact Y3 e.symm)⟩;have B9:=ay f9 B8 (Ne.symm Sc.1);have KB9:=ay f9 KB8 (Ne.symm Sc.2);have X9:Ext h h9:=Fr.trans X8 f9 (fun _ _ h=>h) (fun k hk hs=>by omega);have zR:=Y4.fr f9 (fun k hk hS=>by subst hS;exact bK Y4 R8.1 (by decide) hk);have hr9:∀j,j<xs.length→tg h9 h.size (xs.getD j l8) (rows.getD j []):=fun j hj=>(hr8 j hj).fr f9 (fun b hb hs=>by subst hs;exact aww ((hr8 j hj).int hb R8.1) (by decide));have Y5:h.size≤h8.size:=X8.size;simp only[fu]at KR;simp only[ae,seval,KR];refine aU xg rfl rfl (by decide) ?_;simp only[ae,seval];have ahd:∀u∈fu x vk vt,oneCell u=true:=by
  intro u hu;obtain⟨_,ak,kk,rfl,_⟩:=DG.dQ;obtain⟨_,IJ,kt,rfl,_⟩:=DI.dQ;simp[fu]at hu;rcases hu with rfl|rfl|rfl|rfl|rfl|rfl|rfl|rfl<;>rfl
 refine bF (m:=1) xg rfl rfl (zR.push _) rfl (bV (vs:=fu x vk vt)) ahd (by omega) (by omega) (by have:=X9.size;simp;omega) ?_;intro v10 d9 abA Jy _;have R9p:=R9.fr (Ext.push h9 (.cells (fu x vk vt).toArray 204)) id;have B9p:=dw (o':= .cells (fu x vk vt).toArray 204) B9;have Y7:=dw (o':= .cells (fu x vk vt).toArray 204) KB9;have Py:=zR.push (.cells (fu x vk vt).toArray 204);have R10:=R9p.fr Jy (bK Py R9p.1 (by decide));have B10:=ay Jy B9p (bK Py B9p (by decide));have ahf:=ay Jy Y7 (bK Py Y7 (by decide));have X10:Ext h d9:=Ext.app (X9.trans (Ext.push _ _)) Jy (fun k hk=>(zR.lt k hk).1);have pf:∀(y:In)(r:List Value)(hh:tg h9 h.size y r),tg d9 h.size y r:=by
  intro y r hh;have h1:=hh.fr (Ext.push h9 (.cells (fu x vk vt).toArray 204)) (fun _ _=>id);refine h1.fr Jy (fun b hb hs=>?_);obtain⟨cs,fz,hc⟩:=Own.cells Py hs;exact aww (h1.int hb hc) (by decide)
 have hnew:tg h9 h.size x (fu x vk vt):=⟨vk,vt,rfl,DG.mono Y5,DI.mono Y5,Wu⟩;have ahg:∀b,xl (fu x vk vt) b→h8.size≤b:=by
  intro b hb;rcases hb with hb|hb
  ·exact(DG.lt b hb).1
  ·exact(DI.lt b hb).1
 have abB:Own d9 h.size 204 8 v10 (xs.length+1) (rows++[fu x vk vt]).flatten:=by
  rw[List.flatten_append];simpa using abA
 obtain⟨KU,q1,q2,q3,q4⟩:=lH.snoc (h:=h8) (x:=x) hr1 hr8 hr4 abB (pf _ _ hnew) (fun j hj=>pf _ _ (hr9 j hj)) ahg;rw[awn,awt]at q1;have Wy:(xs++[x]).length=xs.length+1:=by simp
 rw[Wy]at q2;have ahh:d9[gb]? =some (.cells (ku l.length ((xs++[x]).map In.at')).toArray 4 (0,0)):=by
  rw[ahf,List.map_append,List.map_singleton,hxa]
 simp only[ae,seval];refine⟨m',Nat.lt_succ_self _,xs++[x],s9,v10,KU,by rw[Wy];omega,?_,by simp,X10,R10,B10,ahh,by rw[Wy];exact q1,by rw[Wy];exact q2,q3,q4,?_,hY⟩
 ·intro he
  have h1:=jV.2 eK.1 eK.2;have h2:=qQ eK.2;omega
 ·intro y hy
  rcases awi.1 hy with hy|hy
  ·exact Y2 y hy
  ·rw[awf.1 hy,hxa]
   exact⟨s.p,rfl,rD⟩
end
section
theorem mU(bs:az)(h:ar)(hb:bs.length≤8):aF Tryz.prog 167 #[str bs] h fun v h'=>h'=h∧v= .int .u64 (eh bs):=by
 refine JS (args:=[str bs]) rfl ?_;simp only[rB,ae,seval];refine aG [0,3,4] (fun m ρ hc=>∃i:Nat,m=bs.length-i∧i≤bs.length∧ρ=[(0,str bs),(3, .int .u64 (eh (bs.take i))),(4,ao i)]∧hc=h) ?_ ?_
 ·simp only[ae,seval]
  exact⟨_,0,rfl,awb _,by simp[eh]⟩
 ·rintro m ρ hc⟨i,rfl,hi,rfl,rfl⟩
  rcases Nat.lt_or_ge i bs.length with aV|VJ
  ·have aK:(i:Int)<bs.length:=by omega
   have hx:=oX (bs.take i);have hp:256^(bs.take i).length≤256^7:=Nat.pow_le_pow_right (by decide) (by simp;omega);have nO:eh (bs.take i)<72057594037927936:=by
    have:(256:Nat)^7=72057594037927936:=by decide
    omega
   have hb8:=UInt8.toNat_lt (bs.getD i 0);simp only[Nat.reducePow]at hb8;have hw1:IntKind.u64.wrap ((eh (bs.take i):Int)*256)=(eh (bs.take i):Int)*256:=wrap_u64 (by omega) (by omega);have YJ:IntKind.u64.wrap ((bs.getD i 0).toNat:Int)=((bs.getD i 0).toNat:Int):=wrap_u64 (by omega) (by omega);have YY:IntKind.u64.wrap ((eh (bs.take i):Int)*256+((bs.getD i 0).toNat:Int))=((eh (bs.take i)*256+(bs.getD i 0).toNat:Nat):Int):=by rw[wrap_u64 (by omega) (by omega)];omega
   have gl:eh (bs.take (i+1))=eh (bs.take i)*256+(bs.getD i 0).toNat:=by
    rw[List.take_succ_eq_append_getElem aV,ow];simp[aV]
   simp(disch:=omega)only[rB,ae,seval,aK,hw1,YJ,YY];exact⟨bs.length-(i+1),by omega,i+1,rfl,by omega,by rw[gl];rfl⟩
  ·have aK:¬(i:Int)<bs.length:=by omega
   have pP:i=bs.length:=by omega
   subst pP;rw[List.take_length];simp only[rB,ae,seval,aK]
def iJ(h:ar)(g:Nat)(l:az)(s:RS):Prop:=
 h[g]? =some (.cells #[str l,ao s.p,ao s.e,ao s.es] 302 (0,0))∧s.p≤l.length
def rQ(l:az)(n:Nat)(s:RS):az:=if(cV l n s).2.e≠0 then List.replicate n 0 else(cV l n s).1
theorem Y8(n:Nat):eh (List.replicate n 0)=0:=by
 induction n with
 |zero=>rfl
 |succ n ih=>rw[List.replicate_succ',ow,ih];rfl
theorem Sd(l:az)(n:Nat)(s:RS):eh (rQ l n s)=(aA l n s).1:=by
 unfold rQ
 split
 ·rename_i h
  rw[Y8]
  show 0=eh (cV l n s).1
  unfold cV at h⊢
  split
  ·rfl
  ·split
   ·rfl
   ·rename_i h1 h2
    rw[av9 h1,av9 h2]at h;exact aww rfl h
 ·rfl
theorem Se(l:az)(n:Nat)(s:RS):(rQ l n s).length=n:=by
 unfold rQ
 split
 ·simp
 ·rename_i h
  unfold cV at h⊢
  split
  ·rename_i h1
   rw[awa h1]at h;exact aww h1 h
  ·rename_i h1
   split
   ·rename_i h2
    rw[av9 h1,awa h2]at h;exact aww (show(1:Nat)≠0 by decide) h
   ·simp;omega
section
variable{h:ar}{g:Nat}{l:az}{s:RS}
theorem iJ.lt(H:iJ h g l s):g<h.size:=(awd.1 H.1).1
theorem iJ.c0(H:iJ h g l s):cellAt h ⟨g,0,none⟩=some (str l):=by rw[au H.1];rfl
theorem iJ.c1(H:iJ h g l s):cellAt h ⟨g,1,none⟩=some (ao s.p):=by rw[au H.1];rfl
theorem iJ.c2(H:iJ h g l s):cellAt h ⟨g,2,none⟩=some (ao s.e):=by rw[au H.1];rfl
theorem iJ.c3(H:iJ h g l s):cellAt h ⟨g,3,none⟩=some (ao s.es):=by rw[au H.1];rfl
theorem iJ.fr{S:Nat→Prop}{h':ar}(H:iJ h g l s)(hf:Fr S h h')(hS:¬S g):iJ h' g l s:=⟨by rw[hf.same g H.lt hS,H.1],H.2⟩
theorem iW(e q:Nat)(H:iJ h g l s):aF Tryz.prog 221 #[aE g,ao e,ao q] h fun v h'=>Fr (fun k=>k=g) h h'∧iJ h' g l (cg e q s):=by
 refine JU (args:=[aE g,ao e,ao q]) rfl ?_;have c2:=H.c2;by_cases he:s.e=0
 ·have dH:(s.e:Int)=0:=by omega
  simp only[rC,ae,seval,c2,av8 dH];refine aC zF rfl rfl rfl rfl rfl (u:=ao s.e) c2 ?_ ?_
  ·simp[frozenAt,H.1]
  have b1:=bu (o:=2) H.1 (ao e);simp only[rC,ae,seval];have hc:cellAt (setAt h ⟨g,2,none⟩ (ao e)) ⟨g,3,none⟩=some (ao s.es):=by rw[au b1];rfl
  refine aC dI rfl rfl rfl rfl rfl (u:=ao s.es) hc ?_ ?_
  ·simp[frozenAt,b1]
  have b2:=bu (o:=3) b1 (ao q);simp only[ae,seval];refine⟨Fr.trans (Fr.set (S:=fun k=>k=g) _ _ _ fun _=>rfl) (Fr.set (S:=fun k=>k=g) _ _ _ fun _=>rfl) (fun _ _ h=>h) (fun _ _ h=>h),?_⟩;unfold cg;rw[awa he];exact⟨b2,H.2⟩
 ·have dH:¬(s.e:Int)=0:=by omega
  simp only[rC,ae,seval,c2,av7 dH];unfold cg;rw[av9 he];exact⟨Fr.refl _ _,H⟩
theorem Sf(n:Nat)(hl:l.length≤1073741824)(hn:n≤8)(H:iJ h g l s):aF Tryz.prog 321 #[aE g,ao n] h fun v h'=>Fr (fun k=>k=g) h h'∧iJ h' g l (cV l n s).2∧v=str (rQ l n s):=by
 refine JV (args:=[aE g,ao n]) rfl ?_;have c0:=H.c0;have c1:=H.c1;have c2:=H.c2;have h2:=H.2;have AU:n≤maxLen:=by
  have:maxLen=9223372036854775807:=by decide+kernel
  omega
 have zeros:∀(h1:ar)(s1:RS),iJ h1 g l s1→s1.e≠0→Fr (fun k=>k=g) h h1→∀cs:Array Value,∀z i,Tryz.prog.info? 5=some i→i.zero=some z→cs=madeCells z.cells (((n:Nat):Int).toNat*1)→
  cs=(iL (List.replicate n 0)).toArray:=by
  intro h1 s1 _ _ _ cs z i hi hz hcs;have Sb:z.cells=#[bH 0]:=by
   obtain⟨ii',z',w1,w2,w3,_⟩:=jx FO;rw[hi]at w1;cases w1;rw[hz]at w2;cases w2;exact w3
  rw[hcs,Sb,show((n:Nat):Int).toNat*1=n by omega];apply Array.ext
  ·simp[madeCells,iL]
  ·intro i h1 h2
   simp[madeCells,iL,Nat.mod_one]
 by_cases he:s.e=0
 ·have dH:(s.e:Int)=0:=by omega
  by_cases aV:l.length<s.p+n
  ·have q:(l.length:Int)<(s.p:Int)+(n:Int):=by omega
   simp(disch:=omega)only[lX,ae,seval,c0,c1,c2,av8 dH,q];refine aj rfl (iW 1 l.length H) ?_;intro v4 h4 jU;have f4:=jU.1;have r4:=jU.2;have nh:cg 1 l.length s=⟨s.p,1,l.length⟩:=by unfold cg;rw[awa he]
   rw[nh]at r4;have c24:cellAt h4 ⟨g,2,none⟩=some (ao 1):=r4.c2;have hT:cV l n s=([],⟨s.p,1,l.length⟩):=by unfold cV;rw[av9 (by simp[he]),awa aV]
   have hR:rQ l n s=List.replicate n 0:=by unfold rQ;rw[hT];rfl
   rw[hT,hR];simp only[lX,ae,seval,c24,Int.reduceEq];refine rA gI rfl rfl (by omega) (by omega) (by omega) ?_;intro cs z i hi hz hcs;have ahi:=zeros h4 _ r4 (show(1:Nat)≠0 by decide) f4 cs z i hi hz hcs;subst ahi;have own:Own (h4.push (.cells (iL (List.replicate n 0)).toArray 5)) 0 5 1 (.slice (some ⟨h4.size,0,none⟩) n n) n (iL (List.replicate n 0)):=Own.new (by simp[iL]) AU (awb _);rw[show((n:Nat):Int).toNat=n by omega];simp only[ae,seval,Jt own];exact⟨Fr.trans f4 (Ext.push _ _) (fun _ _ h=>h) (fun _ _ h=>h.elim),r4.fr (Ext.push _ _) id⟩
  ·have q:¬(l.length:Int)<(s.p:Int)+(n:Int):=by omega
   have hT:cV l n s=((l.drop s.p).take n,⟨s.p+n,0,s.es⟩):=by unfold cV;rw[av9 (by simp[he]),av9 aV]
   have hR:rQ l n s=(l.drop s.p).take n:=by unfold rQ;rw[hT];rfl
   rw[hT,hR];have e1:((s.p:Int)+(n:Int)).toNat=s.p+n:=by omega
   simp(disch:=omega)only[lX,ae,seval,c0,c1,c2,av8 dH,q];refine aC dI rfl rfl rfl rfl rfl (u:=ao s.p) c1 ?_ ?_
   ·simp[frozenAt,H.1]
   have b1:=bu (o:=1) H.1 (ao ((s.p:Int)+(n:Int)));simp only[lX,ae,seval,e1];refine⟨Fr.set (S:=fun k=>k=g) _ _ _ fun _=>rfl,⟨?_,by simp only;omega⟩,?_⟩
   ·rw[he]at b1;exact b1
   ·rw[List.drop_take,Nat.add_sub_cancel_left]
 ·have dH:¬(s.e:Int)=0:=by omega
  have hT:cV l n s=([],s):=by unfold cV;rw[awa he]
  have hR:rQ l n s=List.replicate n 0:=by unfold rQ;rw[hT,awa he]
  rw[hT,hR];simp only[lX,ae,seval,c2,av7 dH];refine rA gI rfl rfl (by omega) (by omega) (by omega) ?_;intro cs z i hi hz hcs;have ahi:=zeros h _ H he (Fr.refl _ _) cs z i hi hz hcs;subst ahi;have own:Own (h.push (.cells (iL (List.replicate n 0)).toArray 5)) 0 5 1 (.slice (some ⟨h.size,0,none⟩) n n) n (iL (List.replicate n 0)):=Own.new (by simp[iL]) AU (awb _);rw[show((n:Nat):Int).toNat=n by omega];simp only[ae,seval,Jt own];exact⟨Fr.mono (Ext.push _ _) (fun _ _ h=>h.elim),H.fr (Ext.push _ _) id⟩
theorem j9(n:Nat)(hl:l.length≤1073741824)(hn:n≤7)(H:iJ h g l s):aF Tryz.prog 283 #[aE g,ao n] h fun v h'=>Fr (fun k=>k=g) h h'∧iJ h' g l (aA l n s).2∧v=ao (aA l n s).1:=by
 refine LL (args:=[aE g,ao n]) rfl ?_;simp only[Qf,ae,seval];refine aj rfl (Sf n hl (by omega) H) ?_;rintro v1 h1⟨f1,r1,rfl⟩;simp only[ae,seval];refine aj rfl (mU (rQ l n s) h1 (by rw[Se];omega)) ?_;rintro v2 h2⟨rfl,rfl⟩;rw[Sd];have hb:(aA l n s).1<256^7:=awF dJ (Nat.pow_le_pow_right (by decide) hn);have hw:IntKind.i64.wrap ((aA l n s).1:Int)=((aA l n s).1:Int):=wrap_i64 (by omega) (by omega);simp only[ae,seval,hw];exact⟨f1,r1⟩
theorem Wz(bs:az)(n:Nat)(hb:bs.length=n)(hn:n=1∨n=2∨n=4)(h:ar):aF Tryz.prog 322 #[str bs] h fun v h'=>h'=h∧v=ao (kI (eh bs) n):=by
 refine CV (args:=[str bs]) rfl ?_;simp only[gY,ae,seval];refine aj rfl (mU bs h (by omega)) ?_;rintro v2 h2⟨rfl,rfl⟩;have hx:=oX bs;rw[hb]at hx;have hlen:(bs.length:Int)=(n:Int):=by omega
 generalize eh bs=x at*;rcases hn with rfl|rfl|rfl
 ·have hx:x<256:=hx
  have hw:IntKind.i64.wrap (x:Int)=(x:Int):=wrap_i64 (by omega) (by omega);rw[show((1:Nat):Int)=1 from rfl]at hlen;by_cases g:128≤x
  ·have g':(128:Int)≤x:=by omega
   have e:kI x 1=(x:Int)-256:=by unfold kI;rw[awa (by simpa using g)];rfl
   rw[e];simp(disch:=omega)only[gY,ae,seval,hw,hlen,g',Int.reduceMul,Int.reduceSub]
  ·have g':¬(128:Int)≤x:=by omega
   have e:kI x 1=(x:Int):=by unfold kI;rw[av9 (by simpa using g)]
   rw[e];simp(disch:=omega)only[gY,ae,seval,hw,hlen,g',Int.reduceMul,Int.reduceSub]
 ·have hx:x<65536:=hx
  have hw:IntKind.i64.wrap (x:Int)=(x:Int):=wrap_i64 (by omega) (by omega);rw[show((2:Nat):Int)=2 from rfl]at hlen;by_cases g:32768≤x
  ·have g':(32768:Int)≤x:=by omega
   have e:kI x 2=(x:Int)-65536:=by unfold kI;rw[awa (by simpa using g)];rfl
   rw[e];simp(disch:=omega)only[gY,ae,seval,hw,hlen,g',Int.reduceMul,Int.reduceSub]
  ·have g':¬(32768:Int)≤x:=by omega
   have e:kI x 2=(x:Int):=by unfold kI;rw[av9 (by simpa using g)]
   rw[e];simp(disch:=omega)only[gY,ae,seval,hw,hlen,g',Int.reduceMul,Int.reduceSub]
 ·have hx:x<4294967296:=hx
  have hw:IntKind.i64.wrap (x:Int)=(x:Int):=wrap_i64 (by omega) (by omega);rw[show((4:Nat):Int)=4 from rfl]at hlen;by_cases g:2147483648≤x
  ·have g':(2147483648:Int)≤x:=by omega
   have e:kI x 4=(x:Int)-4294967296:=by unfold kI;rw[awa (by simpa using g)];rfl
   rw[e];simp(disch:=omega)only[gY,ae,seval,hw,hlen,g',Int.reduceMul,Int.reduceSub]
  ·have g':¬(2147483648:Int)≤x:=by omega
   have e:kI x 4=(x:Int):=by unfold kI;rw[av9 (by simpa using g)]
   rw[e];simp(disch:=omega)only[gY,ae,seval,hw,hlen,g',Int.reduceMul,Int.reduceSub]
theorem mV(n:Nat)(hn:n=1∨n=2∨n=4)(hl:l.length≤1073741824)(H:iJ h g l s):aF Tryz.prog 285 #[aE g,ao n] h fun v h'=>Fr (fun k=>k=g) h h'∧iJ h' g l (fE l n s).2∧v=ao (fE l n s).1:=by
 refine EE (args:=[aE g,ao n]) rfl ?_;simp only[JX,ae,seval];refine aj rfl (Sf n hl (by omega) H) ?_;rintro v1 h1⟨f1,r1,rfl⟩;simp only[ae,seval];refine aj rfl (Wz (rQ l n s) n (Se l n s) hn h1) ?_;rintro v2 h2⟨rfl,rfl⟩;rw[Sd];simp only[ae,seval]
 first|exact⟨f1,r1,rfl⟩|exact⟨f1,r1⟩
end
end
end Go.Proofs.YtmbboehmnfhjjaaGreatDoor
