/- The decoder of instructions, by the reference: one instruction. The decoder of instructions, by the reference: one instruction, whole. The decoder of instructions, by the reference: all of them. -/
import Derived.Test.YtmbboehmnfhjjaaGreatDoorU18
set_option maxRecDepth 100000
set_option maxHeartbeats 16000000
set_option linter.unusedSimpArgs false
set_option linter.unusedVariables false
set_option linter.defProp false
namespace Go.Proofs.YtmbboehmnfhjjaaGreatDoor
open Go.Vc
section
def acH(h:ar)(g:Nat)(l:az)(r:In × RS):Value→ar→Prop:=fun v h'=>Fr (fun k=>k=g) h h'∧iJ h' g l r.2∧
 ∃vk vt,v= .agg (fu r.1 vk vt).toArray∧Own h' h.size 3 1 vk r.1.keys.length (eI r.1.keys)∧Own h' h.size 3 1 vt r.1.bX.length (eI r.1.bX)∧∀k,vk.ownBlock=some k→¬vt.ownBlock=some k
structure xY(h h':ar)(g q rb:Nat)(l:az)(x:In)(s:RS):Prop where
 d:CS h h' g q l x s
 rk:h'[rb]? =some (.cells #[ao 0,bH 0, .bool false,ao 0,ao 0,ao 0,nS,nS] 204 (0,0))
 ne:rb≠q
 hq:h.size≤q
 hr:h.size≤rb
section
variable{h h1 h2:ar}{g q rb:Nat}{l:az}{x:In}{s s':RS}
theorem xY.rg(H:xY h h1 g q rb l x s):rb≠g:=by
 intro e;subst e;exact aww (tX H.rk H.d.rd.1) (by decide)
theorem xY.step(H:xY h h1 g q rb l x s)(f:Fr (fun k=>k=g) h1 h2)(r:iJ h2 g l s'):xY h h2 g q rb l x s':=⟨H.d.step f r,ay f H.rk H.rg,H.ne,H.hq,H.hr⟩
theorem xY.set(H:xY h h1 g q rb l x s)(o:Nat)(v:Value)(x':In)(hk:x'.keys=x.keys)(ht:x'.bX=x.bX)(hv:∀vk vt,(fu x vk vt).toArray.setIfInBounds o v=(fu x' vk vt).toArray):
 xY h (setAt h1 ⟨q,o,none⟩ v) g q rb l x' s:=
 ⟨H.d.set o v x' hk ht hv,ay (Fr.set (S:=fun k=>k=q) h1 ⟨q,o,none⟩ v fun _=>rfl) H.rk H.ne,H.ne,H.hq,H.hr⟩
theorem xY.RL(H:xY h h1 g q rb l x s)(n:Int):
 xY h (setAt (h1.push (.cells #[ao n] 3)) ⟨q,7,none⟩ (.slice (some ⟨h1.size,0,none⟩) 1 1)) g q rb l {x with bX:=[n]} s:=
 ⟨H.d.RL n,ay (Fr.set (S:=fun k=>k=q) _ ⟨q,7,none⟩ _ fun _=>rfl) (dw H.rk) H.ne,H.ne,H.hq,H.hr⟩
theorem xY.more(H:xY h h1 g q rb l x s){x':In}(f:Fr (fun k=>k=g∨k=q) h1 h2)(r:iJ h2 g l s')(xr:XR h2 h1.size q x'):xY h h2 g q rb l x' s':=
 ⟨⟨Fr.trans H.d.fr f (fun _ _ h=>h) (fun _ _ h=>h),r,xr.mono H.d.size⟩,ay f H.rk (fun hh=>hh.elim H.rg H.ne),H.ne,H.hq,H.hr⟩
theorem xY.fin(H:xY h h1 g q rb l x s){vk vt:Value}(hq:h1[q]? =some (.cells (fu x vk vt).toArray 204 (0,0)))(ok:Own h1 h.size 3 1 vk x.keys.length (eI x.keys))(ot:Own h1 h.size 3 1 vt x.bX.length (eI x.bX))(dj:∀k,vk.ownBlock=some k→¬vt.ownBlock=some k)
 (f:Fr (fun k=>k=rb) h1 h2)(hb:h2[rb]? =some (.cells (fu x vk vt).toArray 204 (0,0))):
 ∃v,ld Tryz.prog 204 ⟨rb,0,none⟩ h2=some v∧acH h g l (x,s) v h2:=by
 have h1q:=H.hq;have h1r:=H.hr;refine⟨_,aS gg (aN hb) rfl,Fr.trans H.d.fr f (fun k hk hs=>by omega) (fun k hk hs=>by omega),H.d.rd.fr f (Ne.symm H.rg),vk,vt,rfl,?_,?_,dj⟩
 ·exact ok.fr f fun k hk hS=>by subst hS;exact bK ok H.rk (by decide) hk
 ·exact ot.fr f fun k hk hS=>by subst hS;exact bK ot H.rk (by decide) hk
theorem xY.nJ(D9:xY h h1 g q rb l x s){ρ:Env}:Cd.vc Tryz.prog (Z.S (Go.Vc.rg Tryz.prog oU 46) Cd.ret) (gP Tryz.prog [(2,some 204)] (acH h g l (x,s))) ((0,aE g)::(2,aE rb)::(3,aE q)::ρ) h1:=by
 obtain⟨vk9,vt9,q9,DG,DI,Wu⟩:=id D9.d.xr;have bm:=aS gg (aN q9) rfl;simp only[fu]at bm;simp only[bB,ae,seval,bm];refine aO eB rfl rfl rfl ?_ D9.rk rfl ?_
 ·intro u hu
  obtain⟨_,ak,kk,rfl,_⟩:=DG.dQ;obtain⟨_,IJ,kt,rfl,_⟩:=DI.dQ;simp[Value.cells]at hu;rcases hu with rfl|rfl|rfl|rfl|rfl|rfl|rfl|rfl<;>rfl
 intro d9 f10 Wv;obtain⟨v,kF,DC⟩:=D9.fin q9 DG DI Wu f10 Wv;simp only[ae,seval,kF];exact DC
theorem Sj(x:In)(a f:Nat)(hc:ar)(sz:Nat)(u4 u17 u28:Value)(hf:f=1∨f=2∨f=3∨f=4∨f=5∨f=6∨f=7∨f=8∨f=9∨f=0∨f=10∨f=11∨f=12∨f=13∨f=14)(gB:(if x.wide=true then 2 else 1)=sz)(hl:l.length≤1073741824)(ha:x.at'=(a:Int))(II:a≤l.length)(hk:x.keys=[])(ht:x.bX=[])
 (D:xY h hc g q rb l x s)(hq:hc[q]? =some (.cells (fu x nS nS).toArray 204 (0,0))):
 Cd.vc Tryz.prog Q0 (gP Tryz.prog [(2,some 204)] (acH h g l (nH x a f l s)))
  [(0,aE g),(2,aE rb),(3,aE q),(4,u4),(5,str [me f]),(6,ao sz),(17,u17),(28,u28),(36,undef),(37,undef),(43,undef),(48,undef),(53,undef),(70,undef),(75,undef),(80,undef),(86,undef),(96,undef),(105,undef),(114,undef),(134,undef),(139,undef)] hc:=by
 generalize hY:nH x a f l s=Y;have hY0:=hY;unfold nH at hY;rw[LP];have oy:=D.d.cells;rw[ha]at oy;have alo:sz=1∨sz=2:=by rw[←gB];split<;>simp
 rw[gB]at hY;rcases hf with rfl|rfl|rfl|rfl|rfl|rfl|rfl|rfl|rfl|rfl|rfl|rfl|rfl|rfl|rfl
 ·simp only[Nat.reduceEqDiff,aw1,aw0,aw6,]at hY
  rw[show [me 1]=([120]:az)from rfl];simp only[bB,ae,seval,oy,];refine aj rfl (iW 14 a D.d.rd) ?_;intro v1 h1 dK;have D1:=D.step dK.1 dK.2;have fO:=D1.d.cells;rw[ha]at fO;have D9:=D1;subst hY;exact D9.nJ
 ·simp only[Nat.reduceEqDiff,aw1,aw0,aw6,]at hY
  rw[show [me 2]=([98]:az)from rfl];have L:((([98]:az)=[120])=False)∧((([98]:az)=[115])=False)∧((([98]:az)=[99])=False)∧((([98]:az)=[97])=False)∧((([98]:az)=[105])=False)∧((([98]:az)=[108])=False)∧((([98]:az)=[110])=False)∧((([98]:az)=[106])=False)∧((([98]:az)=[74])=False)∧((([98]:az)=[102])=False)∧((([98]:az)=[109])=False)∧((([98]:az)=[116])=False)∧((([98]:az)=[107])=False):=⟨av7 (by decide),av7 (by decide),av7 (by decide),av7 (by decide),av7 (by decide),av7 (by decide),av7 (by decide),av7 (by decide),av7 (by decide),av7 (by decide),av7 (by decide),av7 (by decide),av7 (by decide)⟩;simp only[bB,ae,seval,L,];refine aj rfl (mV 1 (by omega) hl D.d.rd) ?_;intro v1 h1 dK;have D1:=D.step dK.1 dK.2.1;have kF:=dK.2.2;have fO:=D1.d.cells;rw[ha]at fO;generalize fE l 1 s=T1 at*;obtain⟨av,s2⟩:=T1;simp only at*;simp only[ae,seval,kF];refine aC dI rfl rfl rfl rfl rfl fO.2.2.2.1 (D1.d.fW 3) ?_;have D2:=D1.set 3 (ao av) {x with A:=av} rfl rfl (fun _ _=>rfl);generalize setAt _ ⟨q,3,none⟩ _=h2 at*;have jG:=D2.d.cells;rw[ha]at jG;have D9:=D2;subst hY;exact D9.nJ
 ·simp only[Nat.reduceEqDiff,aw1,aw0,aw6,]at hY
  rw[show [me 3]=([115]:az)from rfl];have L:((([115]:az)=[120])=False)∧((([115]:az)=[98])=False)∧((([115]:az)=[99])=False)∧((([115]:az)=[97])=False)∧((([115]:az)=[105])=False)∧((([115]:az)=[108])=False)∧((([115]:az)=[110])=False)∧((([115]:az)=[106])=False)∧((([115]:az)=[74])=False)∧((([115]:az)=[102])=False)∧((([115]:az)=[109])=False)∧((([115]:az)=[116])=False)∧((([115]:az)=[107])=False):=⟨av7 (by decide),av7 (by decide),av7 (by decide),av7 (by decide),av7 (by decide),av7 (by decide),av7 (by decide),av7 (by decide),av7 (by decide),av7 (by decide),av7 (by decide),av7 (by decide),av7 (by decide)⟩;simp only[bB,ae,seval,L,];refine aj rfl (mV 2 (by omega) hl D.d.rd) ?_;intro v1 h1 dK;have D1:=D.step dK.1 dK.2.1;have kF:=dK.2.2;have fO:=D1.d.cells;rw[ha]at fO;generalize fE l 2 s=T1 at*;obtain⟨av,s2⟩:=T1;simp only at*;simp only[ae,seval,kF];refine aC dI rfl rfl rfl rfl rfl fO.2.2.2.1 (D1.d.fW 3) ?_;have D2:=D1.set 3 (ao av) {x with A:=av} rfl rfl (fun _ _=>rfl);generalize setAt _ ⟨q,3,none⟩ _=h2 at*;have jG:=D2.d.cells;rw[ha]at jG;have D9:=D2;subst hY;exact D9.nJ
 ·simp only[Nat.reduceEqDiff,aw1,aw0,aw6,]at hY
  rw[show [me 4]=([99]:az)from rfl];have L:((([99]:az)=[120])=False)∧((([99]:az)=[98])=False)∧((([99]:az)=[115])=False)∧((([99]:az)=[97])=False)∧((([99]:az)=[105])=False)∧((([99]:az)=[108])=False)∧((([99]:az)=[110])=False)∧((([99]:az)=[106])=False)∧((([99]:az)=[74])=False)∧((([99]:az)=[102])=False)∧((([99]:az)=[109])=False)∧((([99]:az)=[116])=False)∧((([99]:az)=[107])=False):=⟨av7 (by decide),av7 (by decide),av7 (by decide),av7 (by decide),av7 (by decide),av7 (by decide),av7 (by decide),av7 (by decide),av7 (by decide),av7 (by decide),av7 (by decide),av7 (by decide),av7 (by decide)⟩;simp only[bB,ae,seval,L,];refine aj rfl (j9 1 hl (by omega) D.d.rd) ?_;intro v1 h1 dK;have D1:=D.step dK.1 dK.2.1;have kF:=dK.2.2;have fO:=D1.d.cells;rw[ha]at fO;generalize aA l 1 s=T1 at*;obtain⟨av,s2⟩:=T1;simp only at*;simp only[ae,seval,kF];refine aC dI rfl rfl rfl rfl rfl fO.2.2.2.1 (D1.d.fW 3) ?_;have D2:=D1.set 3 (ao av) {x with A:=av} rfl rfl (fun _ _=>rfl);generalize setAt _ ⟨q,3,none⟩ _=h2 at*;have jG:=D2.d.cells;rw[ha]at jG;have D9:=D2;subst hY;have F:=fun ρ=>D9.nJ (ρ:=ρ);simp only[bB,ae,seval,L]at F⊢;exact F _
 ·simp only[Nat.reduceEqDiff,aw1,aw0,aw6,]at hY
  rw[show [me 5]=([105]:az)from rfl];have L:((([105]:az)=[120])=False)∧((([105]:az)=[98])=False)∧((([105]:az)=[115])=False)∧((([105]:az)=[99])=False)∧((([105]:az)=[97])=False)∧((([105]:az)=[108])=False)∧((([105]:az)=[110])=False)∧((([105]:az)=[106])=False)∧((([105]:az)=[74])=False)∧((([105]:az)=[102])=False)∧((([105]:az)=[109])=False)∧((([105]:az)=[116])=False)∧((([105]:az)=[107])=False):=⟨av7 (by decide),av7 (by decide),av7 (by decide),av7 (by decide),av7 (by decide),av7 (by decide),av7 (by decide),av7 (by decide),av7 (by decide),av7 (by decide),av7 (by decide),av7 (by decide),av7 (by decide)⟩;simp only[bB,ae,seval,L,];refine aj rfl (j9 2 hl (by omega) D.d.rd) ?_;intro v1 h1 dK;have D1:=D.step dK.1 dK.2.1;have kF:=dK.2.2;have fO:=D1.d.cells;rw[ha]at fO;generalize aA l 2 s=T1 at*;obtain⟨av,s2⟩:=T1;simp only at*;simp only[ae,seval,kF];refine aC dI rfl rfl rfl rfl rfl fO.2.2.2.1 (D1.d.fW 3) ?_;have D2:=D1.set 3 (ao av) {x with A:=av} rfl rfl (fun _ _=>rfl);generalize setAt _ ⟨q,3,none⟩ _=h2 at*;have jG:=D2.d.cells;rw[ha]at jG;have D9:=D2;subst hY;exact D9.nJ
 ·simp only[Nat.reduceEqDiff,aw1,aw0,aw6,]at hY
  rw[show [me 6]=([108]:az)from rfl];have L:((([108]:az)=[120])=False)∧((([108]:az)=[98])=False)∧((([108]:az)=[115])=False)∧((([108]:az)=[99])=False)∧((([108]:az)=[97])=False)∧((([108]:az)=[105])=False)∧((([108]:az)=[110])=False)∧((([108]:az)=[106])=False)∧((([108]:az)=[74])=False)∧((([108]:az)=[102])=False)∧((([108]:az)=[109])=False)∧((([108]:az)=[116])=False)∧((([108]:az)=[107])=False):=⟨av7 (by decide),av7 (by decide),av7 (by decide),av7 (by decide),av7 (by decide),av7 (by decide),av7 (by decide),av7 (by decide),av7 (by decide),av7 (by decide),av7 (by decide),av7 (by decide),av7 (by decide)⟩;simp only[bB,ae,seval,L,];refine aj rfl (j9 sz hl (by omega) D.d.rd) ?_;intro v1 h1 dK;have D1:=D.step dK.1 dK.2.1;have kF:=dK.2.2;have fO:=D1.d.cells;rw[ha]at fO;generalize aA l sz s=T1 at*;obtain⟨av,s2⟩:=T1;simp only at*;simp only[ae,seval,kF];refine aC dI rfl rfl rfl rfl rfl fO.2.2.2.1 (D1.d.fW 3) ?_;have D2:=D1.set 3 (ao av) {x with A:=av} rfl rfl (fun _ _=>rfl);generalize setAt _ ⟨q,3,none⟩ _=h2 at*;have jG:=D2.d.cells;rw[ha]at jG;have D9:=D2;subst hY;exact D9.nJ
 ·simp only[Nat.reduceEqDiff,aw1,aw0,aw6,]at hY
  rw[show [me 7]=([110]:az)from rfl];have L:((([110]:az)=[120])=False)∧((([110]:az)=[98])=False)∧((([110]:az)=[115])=False)∧((([110]:az)=[99])=False)∧((([110]:az)=[97])=False)∧((([110]:az)=[105])=False)∧((([110]:az)=[108])=False)∧((([110]:az)=[106])=False)∧((([110]:az)=[74])=False)∧((([110]:az)=[102])=False)∧((([110]:az)=[109])=False)∧((([110]:az)=[116])=False)∧((([110]:az)=[107])=False):=⟨av7 (by decide),av7 (by decide),av7 (by decide),av7 (by decide),av7 (by decide),av7 (by decide),av7 (by decide),av7 (by decide),av7 (by decide),av7 (by decide),av7 (by decide),av7 (by decide),av7 (by decide)⟩;simp only[bB,ae,seval,L,];refine aj rfl (j9 sz hl (by omega) D.d.rd) ?_;intro v1 h1 dK;have D1:=D.step dK.1 dK.2.1;have kF:=dK.2.2;have fO:=D1.d.cells;rw[ha]at fO;generalize aA l sz s=T1 at*;obtain⟨av,s2⟩:=T1;simp only at*;simp only[ae,seval,kF];refine aC dI rfl rfl rfl rfl rfl fO.2.2.2.1 (D1.d.fW 3) ?_;have D2:=D1.set 3 (ao av) {x with A:=av} rfl rfl (fun _ _=>rfl);generalize setAt _ ⟨q,3,none⟩ _=h2 at*;have jG:=D2.d.cells;rw[ha]at jG;simp only[bB,ae,seval,];refine aj rfl (mV sz (by omega) hl D2.d.rd) ?_;intro v3 h3 jQ;have D3:=D2.step jQ.1 jQ.2.1;have qj:=jQ.2.2;have vn:=D3.d.cells;rw[ha]at vn;generalize fE l sz s2=T3 at*;obtain⟨bv,s3⟩:=T3;simp only at*;simp only[ae,seval,qj];refine aC dI rfl rfl rfl rfl rfl vn.2.2.2.2.1 (D3.d.fW 4) ?_;have D4:=D3.set 4 (ao bv) {x with A:=av,B:=bv} rfl rfl (fun _ _=>rfl);generalize setAt _ ⟨q,4,none⟩ _=h4 at*;have lF:=D4.d.cells;rw[ha]at lF;have D9:=D4;subst hY;exact D9.nJ
 ·simp only[Nat.reduceEqDiff,aw1,aw0,aw6,]at hY
  rw[show [me 8]=([106]:az)from rfl];have L:((([106]:az)=[120])=False)∧((([106]:az)=[98])=False)∧((([106]:az)=[115])=False)∧((([106]:az)=[99])=False)∧((([106]:az)=[97])=False)∧((([106]:az)=[105])=False)∧((([106]:az)=[108])=False)∧((([106]:az)=[110])=False)∧((([106]:az)=[74])=False)∧((([106]:az)=[102])=False)∧((([106]:az)=[109])=False)∧((([106]:az)=[116])=False)∧((([106]:az)=[107])=False):=⟨av7 (by decide),av7 (by decide),av7 (by decide),av7 (by decide),av7 (by decide),av7 (by decide),av7 (by decide),av7 (by decide),av7 (by decide),av7 (by decide),av7 (by decide),av7 (by decide),av7 (by decide)⟩;have b0:=k9 l 2 s (by omega);simp only[bB,ae,seval,L,oy,];refine aj rfl (mV 2 (by omega) hl D.d.rd) ?_;intro v1 h1 dK;have D1:=D.step dK.1 dK.2.1;have kF:=dK.2.2;have fO:=D1.d.cells;rw[ha]at fO;generalize fE l 2 s=T1 at*;obtain⟨tv,s2⟩:=T1;simp only at*;simp(disch:=omega)only[ae,seval,fO,kF];refine aU dS rfl rfl (by decide) ?_;simp only[ae,seval];obtain⟨vk4,vt4,q4,qP,xX,_⟩:=D1.d.xr;refine aC lP rfl rfl rfl rfl rfl (by rw[au (dw q4)];rfl) ((D1.d.push _).fW 7) ?_;have D2:=D1.RL ((a:Int)+tv);generalize setAt _ ⟨q,7,none⟩ _=h2 at*;have jG:=D2.d.cells;rw[ha]at jG;have D9:=D2;subst hY;simp only[ae,seval];exact D9.nJ
 ·simp only[Nat.reduceEqDiff,aw1,aw0,aw6,]at hY
  rw[show [me 9]=([74]:az)from rfl];have L:((([74]:az)=[120])=False)∧((([74]:az)=[98])=False)∧((([74]:az)=[115])=False)∧((([74]:az)=[99])=False)∧((([74]:az)=[97])=False)∧((([74]:az)=[105])=False)∧((([74]:az)=[108])=False)∧((([74]:az)=[110])=False)∧((([74]:az)=[106])=False)∧((([74]:az)=[102])=False)∧((([74]:az)=[109])=False)∧((([74]:az)=[116])=False)∧((([74]:az)=[107])=False):=⟨av7 (by decide),av7 (by decide),av7 (by decide),av7 (by decide),av7 (by decide),av7 (by decide),av7 (by decide),av7 (by decide),av7 (by decide),av7 (by decide),av7 (by decide),av7 (by decide),av7 (by decide)⟩;have b0:=k9 l 4 s (by omega);simp only[bB,ae,seval,L,oy,];refine aj rfl (mV 4 (by omega) hl D.d.rd) ?_;intro v1 h1 dK;have D1:=D.step dK.1 dK.2.1;have kF:=dK.2.2;have fO:=D1.d.cells;rw[ha]at fO;generalize fE l 4 s=T1 at*;obtain⟨tv,s2⟩:=T1;simp only at*;simp(disch:=omega)only[ae,seval,fO,kF];refine aU dS rfl rfl (by decide) ?_;simp only[ae,seval];obtain⟨vk4,vt4,q4,qP,xX,_⟩:=D1.d.xr;refine aC lP rfl rfl rfl rfl rfl (by rw[au (dw q4)];rfl) ((D1.d.push _).fW 7) ?_;have D2:=D1.RL ((a:Int)+tv);generalize setAt _ ⟨q,7,none⟩ _=h2 at*;have jG:=D2.d.cells;rw[ha]at jG;have D9:=D2;subst hY;simp only[ae,seval];exact D9.nJ
 ·simp only[Nat.reduceEqDiff,aw1,aw6,]at hY
  rw[show [me 0]=([46]:az)from rfl];have L:((([46]:az)=[120])=False)∧((([46]:az)=[98])=False)∧((([46]:az)=[115])=False)∧((([46]:az)=[99])=False)∧((([46]:az)=[97])=False)∧((([46]:az)=[105])=False)∧((([46]:az)=[108])=False)∧((([46]:az)=[110])=False)∧((([46]:az)=[106])=False)∧((([46]:az)=[74])=False)∧((([46]:az)=[102])=False)∧((([46]:az)=[109])=False)∧((([46]:az)=[116])=False)∧((([46]:az)=[107])=False):=⟨av7 (by decide),av7 (by decide),av7 (by decide),av7 (by decide),av7 (by decide),av7 (by decide),av7 (by decide),av7 (by decide),av7 (by decide),av7 (by decide),av7 (by decide),av7 (by decide),av7 (by decide),av7 (by decide)⟩;simp only[bB,ae,seval,L,];have D9:=D;subst hY;have F:=fun ρ=>D9.nJ (ρ:=ρ);simp only[bB,ae,seval]at F;exact F _
 ·simp only[Nat.reduceEqDiff,aw1,aw0,aw6,]at hY
  rw[show [me 10]=([116]:az)from rfl];have L:((([116]:az)=[120])=False)∧((([116]:az)=[98])=False)∧((([116]:az)=[115])=False)∧((([116]:az)=[99])=False)∧((([116]:az)=[97])=False)∧((([116]:az)=[105])=False)∧((([116]:az)=[108])=False)∧((([116]:az)=[110])=False)∧((([116]:az)=[106])=False)∧((([116]:az)=[74])=False)∧((([116]:az)=[102])=False)∧((([116]:az)=[109])=False)∧((([116]:az)=[107])=False):=⟨av7 (by decide),av7 (by decide),av7 (by decide),av7 (by decide),av7 (by decide),av7 (by decide),av7 (by decide),av7 (by decide),av7 (by decide),av7 (by decide),av7 (by decide),av7 (by decide),av7 (by decide)⟩;have eK:=Si x a 10 (by omega) hl ha II hk ht D.d.rd hq;have hYc:sM x a 10 l s=Y:=hY;rw[hYc]at eK;simp only[Nat.reduceEqDiff,awZ]at eK;simp only[bB,ae,seval,L,];refine aj rfl (eK) ?_;intro v1 h1 dK;have D1:=D.more dK.1 dK.2.1 dK.2.2;obtain⟨x9,s9⟩:=Y;have D9:=D1;exact D9.nJ
 ·simp only[Nat.reduceEqDiff,aw1,aw0,or_true]at hY
  rw[show [me 11]=([107]:az)from rfl];have L:((([107]:az)=[120])=False)∧((([107]:az)=[98])=False)∧((([107]:az)=[115])=False)∧((([107]:az)=[99])=False)∧((([107]:az)=[97])=False)∧((([107]:az)=[105])=False)∧((([107]:az)=[108])=False)∧((([107]:az)=[110])=False)∧((([107]:az)=[106])=False)∧((([107]:az)=[74])=False)∧((([107]:az)=[102])=False)∧((([107]:az)=[109])=False)∧((([107]:az)=[116])=False):=⟨av7 (by decide),av7 (by decide),av7 (by decide),av7 (by decide),av7 (by decide),av7 (by decide),av7 (by decide),av7 (by decide),av7 (by decide),av7 (by decide),av7 (by decide),av7 (by decide),av7 (by decide)⟩;have eK:=Si x a 11 (by omega) hl ha II hk ht D.d.rd hq;have hYc:sM x a 11 l s=Y:=hY;rw[hYc]at eK;simp only[awY]at eK;simp only[bB,ae,seval,L,];refine aj rfl (eK) ?_;intro v1 h1 dK;have D1:=D.more dK.1 dK.2.1 dK.2.2;obtain⟨x9,s9⟩:=Y;have D9:=D1;exact D9.nJ
 ·simp only[Nat.reduceEqDiff,aw1,aw0,aw6,]at hY
  rw[show [me 12]=([102]:az)from rfl];have L:((([102]:az)=[120])=False)∧((([102]:az)=[98])=False)∧((([102]:az)=[115])=False)∧((([102]:az)=[99])=False)∧((([102]:az)=[97])=False)∧((([102]:az)=[105])=False)∧((([102]:az)=[108])=False)∧((([102]:az)=[110])=False)∧((([102]:az)=[106])=False)∧((([102]:az)=[74])=False)∧((([102]:az)=[109])=False)∧((([102]:az)=[116])=False)∧((([102]:az)=[107])=False):=⟨av7 (by decide),av7 (by decide),av7 (by decide),av7 (by decide),av7 (by decide),av7 (by decide),av7 (by decide),av7 (by decide),av7 (by decide),av7 (by decide),av7 (by decide),av7 (by decide),av7 (by decide)⟩;simp only[bB,ae,seval,L,];refine aj rfl (j9 2 hl (by omega) D.d.rd) ?_;intro v1 h1 dK;have D1:=D.step dK.1 dK.2.1;have kF:=dK.2.2;have fO:=D1.d.cells;rw[ha]at fO;generalize aA l 2 s=T1 at*;obtain⟨av,s2⟩:=T1;simp only at*;simp only[ae,seval,kF];refine aC dI rfl rfl rfl rfl rfl fO.2.2.2.1 (D1.d.fW 3) ?_;have D2:=D1.set 3 (ao av) {x with A:=av} rfl rfl (fun _ _=>rfl);generalize setAt _ ⟨q,3,none⟩ _=h2 at*;have jG:=D2.d.cells;rw[ha]at jG;simp only[bB,ae,seval,];refine aj rfl (j9 1 hl (by omega) D2.d.rd) ?_;intro v3 h3 jQ;have D3:=D2.step jQ.1 jQ.2.1;have qj:=jQ.2.2;have vn:=D3.d.cells;rw[ha]at vn;generalize aA l 1 s2=T3 at*;obtain⟨bv,s3⟩:=T3;simp only at*;simp only[ae,seval,qj];refine aC dI rfl rfl rfl rfl rfl vn.2.2.2.2.1 (D3.d.fW 4) ?_;have D4:=D3.set 4 (ao bv) {x with A:=av,B:=bv} rfl rfl (fun _ _=>rfl);generalize setAt _ ⟨q,4,none⟩ _=h4 at*;have lF:=D4.d.cells;rw[ha]at lF;simp only[bB,ae,seval,];refine aj rfl (j9 1 hl (by omega) D4.d.rd) ?_;intro v5 h5 tV;have D5:=D4.step tV.1 tV.2.1;have Gm:=tV.2.2;have qN:=D5.d.cells;rw[ha]at qN;generalize aA l 1 s3=T5 at*;obtain⟨cv,s6⟩:=T5;simp only at*;have hcs:((((cv:Int)=0)=False)∧(cv≠0∨bv=0))∨((((cv:Int)=0)=True)∧(((bv:Int)=0)=True)∧(cv≠0∨bv=0))∨((((cv:Int)=0)=True)∧(((bv:Int)=0)=False)∧¬(cv≠0∨bv=0)):=by
   by_cases g1:cv=0
   ·by_cases g2:bv=0
    ·exact axb (axa ⟨av8 (by omega),av8 (by omega),axb g2⟩)
    ·exact axb (axb ⟨av8 (by omega),av7 (by omega),by omega⟩)
   ·exact axa ⟨av7 (by omega),axa g1⟩
  rcases hcs with⟨fc,hb⟩|⟨fc,fd,hb⟩|⟨fc,fd,hb⟩
  ·skip
   rw[awa hb]at hY;simp only[bB,ae,seval,qN,Gm,fc];refine aj rfl (iW 15 a D5.d.rd) ?_;intro v6 h6 oz;have D6:=D5.step oz.1 oz.2;have Oj:=D6.d.cells;rw[ha]at Oj;have D9:=D6;subst hY;exact D9.nJ
  ·skip
   rw[awa hb]at hY;simp only[bB,ae,seval,qN,Gm,fc,fd];refine aj rfl (iW 15 a D5.d.rd) ?_;intro v6 h6 oz;have D6:=D5.step oz.1 oz.2;have Oj:=D6.d.cells;rw[ha]at Oj;have D9:=D6;subst hY;exact D9.nJ
  ·skip
   rw[av9 hb]at hY;simp only[bB,ae,seval,qN,Gm,fc,fd];have D9:=D5;subst hY;have F:=fun ρ=>D9.nJ (ρ:=ρ);simp only[bB,ae,seval]at F;exact F _
 ·simp only[Nat.reduceEqDiff,aw1,aw0,aw6,]at hY
  rw[show [me 13]=([97]:az)from rfl];have L:((([97]:az)=[120])=False)∧((([97]:az)=[98])=False)∧((([97]:az)=[115])=False)∧((([97]:az)=[99])=False)∧((([97]:az)=[105])=False)∧((([97]:az)=[108])=False)∧((([97]:az)=[110])=False)∧((([97]:az)=[106])=False)∧((([97]:az)=[74])=False)∧((([97]:az)=[102])=False)∧((([97]:az)=[109])=False)∧((([97]:az)=[116])=False)∧((([97]:az)=[107])=False):=⟨av7 (by decide),av7 (by decide),av7 (by decide),av7 (by decide),av7 (by decide),av7 (by decide),av7 (by decide),av7 (by decide),av7 (by decide),av7 (by decide),av7 (by decide),av7 (by decide),av7 (by decide)⟩;simp only[bB,ae,seval,L,];refine aj rfl (j9 1 hl (by omega) D.d.rd) ?_;intro v1 h1 dK;have D1:=D.step dK.1 dK.2.1;have kF:=dK.2.2;have fO:=D1.d.cells;rw[ha]at fO;generalize aA l 1 s=T1 at*;obtain⟨av,s2⟩:=T1;simp only at*;simp only[ae,seval,kF];refine aC dI rfl rfl rfl rfl rfl fO.2.2.2.1 (D1.d.fW 3) ?_;have D2:=D1.set 3 (ao av) {x with A:=av} rfl rfl (fun _ _=>rfl);generalize setAt _ ⟨q,3,none⟩ _=h2 at*;have jG:=D2.d.cells;rw[ha]at jG;have hcs:((((av:Int)<4)=True)∧(av<4∨11<av))∨((((av:Int)<4)=False)∧(((11:Int)<(av:Int))=True)∧(av<4∨11<av))∨((((av:Int)<4)=False)∧(((11:Int)<(av:Int))=False)∧¬(av<4∨11<av)):=by
   by_cases g1:av<4
   ·exact axa ⟨av8 (by omega),axa g1⟩
   ·by_cases g2:11<av
    ·exact axb (axa ⟨av7 (by omega),av8 (by omega),axb g2⟩)
    ·exact axb (axb ⟨av7 (by omega),av7 (by omega),by omega⟩)
  rcases hcs with⟨fc,hb⟩|⟨fc,fd,hb⟩|⟨fc,fd,hb⟩
  ·skip
   rw[awa hb]at hY;simp only[bB,ae,seval,jG,fc];refine aj rfl (iW 15 a D2.d.rd) ?_;intro v3 h3 jQ;have D3:=D2.step jQ.1 jQ.2;have vn:=D3.d.cells;rw[ha]at vn;have D9:=D3;subst hY;exact D9.nJ
  ·skip
   rw[awa hb]at hY;simp only[bB,ae,seval,jG,fc,fd];refine aj rfl (iW 15 a D2.d.rd) ?_;intro v3 h3 jQ;have D3:=D2.step jQ.1 jQ.2;have vn:=D3.d.cells;rw[ha]at vn;have D9:=D3;subst hY;exact D9.nJ
  ·skip
   rw[av9 hb]at hY;simp only[bB,ae,seval,jG,fc,fd];have D9:=D2;subst hY;have F:=fun ρ=>D9.nJ (ρ:=ρ);simp only[bB,ae,seval]at F;exact F _
 ·simp only[Nat.reduceEqDiff,aw1,aw0,aw6,]at hY
  rw[show [me 14]=([109]:az)from rfl];have L:((([109]:az)=[120])=False)∧((([109]:az)=[98])=False)∧((([109]:az)=[115])=False)∧((([109]:az)=[99])=False)∧((([109]:az)=[97])=False)∧((([109]:az)=[105])=False)∧((([109]:az)=[108])=False)∧((([109]:az)=[110])=False)∧((([109]:az)=[106])=False)∧((([109]:az)=[74])=False)∧((([109]:az)=[102])=False)∧((([109]:az)=[116])=False)∧((([109]:az)=[107])=False):=⟨av7 (by decide),av7 (by decide),av7 (by decide),av7 (by decide),av7 (by decide),av7 (by decide),av7 (by decide),av7 (by decide),av7 (by decide),av7 (by decide),av7 (by decide),av7 (by decide),av7 (by decide)⟩;simp only[bB,ae,seval,L,];refine aj rfl (j9 2 hl (by omega) D.d.rd) ?_;intro v1 h1 dK;have D1:=D.step dK.1 dK.2.1;have kF:=dK.2.2;have fO:=D1.d.cells;rw[ha]at fO;generalize aA l 2 s=T1 at*;obtain⟨av,s2⟩:=T1;simp only at*;simp only[ae,seval,kF];refine aC dI rfl rfl rfl rfl rfl fO.2.2.2.1 (D1.d.fW 3) ?_;have D2:=D1.set 3 (ao av) {x with A:=av} rfl rfl (fun _ _=>rfl);generalize setAt _ ⟨q,3,none⟩ _=h2 at*;have jG:=D2.d.cells;rw[ha]at jG;simp only[bB,ae,seval,];refine aj rfl (j9 1 hl (by omega) D2.d.rd) ?_;intro v3 h3 jQ;have D3:=D2.step jQ.1 jQ.2.1;have qj:=jQ.2.2;have vn:=D3.d.cells;rw[ha]at vn;generalize aA l 1 s2=T3 at*;obtain⟨bv,s3⟩:=T3;simp only at*;simp only[ae,seval,qj];refine aC dI rfl rfl rfl rfl rfl vn.2.2.2.2.1 (D3.d.fW 4) ?_;have D4:=D3.set 4 (ao bv) {x with A:=av,B:=bv} rfl rfl (fun _ _=>rfl);generalize setAt _ ⟨q,4,none⟩ _=h4 at*;have lF:=D4.d.cells;rw[ha]at lF;have hcs:((((bv:Int)=0)=True)∧bv=0)∨((((bv:Int)=0)=False)∧¬bv=0):=by
   by_cases g1:bv=0
   ·exact axa ⟨av8 (by omega),g1⟩
   ·exact axb ⟨av7 (by omega),g1⟩
  rcases hcs with⟨fc,hb⟩|⟨fc,hb⟩
  ·skip
   rw[awa hb]at hY;simp only[bB,ae,seval,L,lF,fc];refine aj rfl (iW 15 a D4.d.rd) ?_;intro v5 h5 tV;have D5:=D4.step tV.1 tV.2;have qN:=D5.d.cells;rw[ha]at qN;have D9:=D5;subst hY;exact D9.nJ
  ·skip
   rw[av9 hb]at hY;simp only[bB,ae,seval,L,lF,fc];have D9:=D4;subst hY;have F:=fun ρ=>D9.nJ (ρ:=ρ);simp only[bB,ae,seval]at F;exact F _
end
end
section
theorem ap8(x:In)(a:Nat)(l:az)(s:RS):nH x a 0 l s=(x,s):=rfl
theorem Za:∀f,f<16→(([me f]:az)=[119]↔f=15):=by decide+kernel
theorem Sk:∀f,f<16→(([me f]:az)=[108]↔f=6):=by decide+kernel
theorem Zb:∀f,f<16→(([me f]:az)=[110]↔f=7):=by decide+kernel
section
variable{h:ar}{g:Nat}{l:az}{s:RS}
theorem aej(hl:l.length≤1073741824)(H:iJ h g l s):
 aF Tryz.prog 220 #[aE g] h (acH h g l (sN l s)):=by
 refine LO (args:=[aE g]) rfl ?_;rw[YX];have rD:=H.2;simp only[bB,ae,seval];refine aD eB ?_;have E1:=Ext.push h (.cells #[ao 0,bH 0, .bool false,ao 0,ao 0,ao 0,nS,nS] 204);have r1:(h.push (.cells #[ao 0,bH 0, .bool false,ao 0,ao 0,ao 0,nS,nS] 204))[h.size]? =some (.cells #[ao 0,bH 0, .bool false,ao 0,ao 0,ao 0,nS,nS] 204 (0,0)):=by simp
 have s1:(h.push (.cells #[ao 0,bH 0, .bool false,ao 0,ao 0,ao 0,nS,nS] 204)).size=h.size+1:=by simp
 have H1:=H.fr E1 id;have c1:=H1.c1;simp only[bB,ae,seval,c1];generalize h.push _=h1 at*;refine aD eB ?_;simp only[ae,seval];refine aI eB rfl rfl rfl (by simp[Value.cells,oneCell]) rfl ?_;intro h3 x3 nQ Gc b3;change h3[h1.size]? =some (.cells (fu (jZ s.p 0 false) nS nS).toArray 204 (0,0))at b3;rw[s1]at b3⊢;have D0:xY h h3 g (h.size+1) h.size l (jZ s.p 0 false) s:=
  ⟨⟨Fr.mono (E1.trans x3) (fun _ _ h=>h.elim),H1.fr x3 id,⟨_,_,b3,Own.nil,Own.nil,by intro k hk;simp[Value.ownBlock]at hk⟩⟩,ay x3 r1 id,by omega,by omega,by omega⟩
 obtain⟨q,hq⟩:∃q,q=h.size+1:=⟨_,rfl⟩;obtain⟨rb,uC⟩:∃rb,rb=h.size:=⟨_,rfl⟩;have D0':xY h h3 g q rb l (jZ s.p 0 false) s:=by rw[hq,uC];exact D0
 have q0:h3[q]? =some (.cells (fu (jZ s.p 0 false) nS nS).toArray 204 (0,0)):=by rw[hq];exact b3
 rw[←hq,←uC];simp only[bB,ae,seval];refine aj rfl (j9 1 hl (by omega) D0'.d.rd) ?_;intro v4 h4 jU;have D4:=D0'.step jU.1 jU.2.1;have qZ:=jU.2.2;have q4:=ay jU.1 q0 D0'.d.gq;have bn:(aA l 1 s).1<256:=dJ;generalize aA l 1 s=T at*;obtain⟨op,s4⟩:=T;simp only at qZ D4 bn;have nT:=G1 op bn;have hfq:=acy op bn;simp only[bB,ae,seval,qZ];refine aj rfl (vd op bn h4) ?_;intro v5 h5 tV;have e5:=tV.1;subst e5;have Gm:=tV.2;rw[hfq]at Gm;by_cases hw:d6 op=15
 case neg=>
  have hw':(([me (d6 op)]:az)=[119])=False:=av7 (fun e=>hw ((Za _ nT).1 e));have hwr:IntKind.u8.wrap (op:Int)=(op:Int):=wrap_u8 (by omega) (by omega);have hY:MU l s.p (op,s4)=nH (jZ s.p op false) s.p (d6 op) l s4:=by
   unfold MU;rw[av9 hw]
  rw[hY];have lF:=D4.d.cells;simp only[bB,ae,seval,Gm,hw',hwr];refine aC FO rfl rfl rfl rfl rfl lF.2.1 (D4.d.fW 1) ?_;have D6:=D4.set 1 (bH op) (jZ s.p op false) rfl rfl (fun _ _=>rfl);have q6:=bu (o:=1) q4 (bH op);generalize setAt _ ⟨q,1,none⟩ _=h6 at*;have h14:=Sj (jZ s.p op false) s.p (d6 op) h6 1 (ao op) (.bool false) undef (by omega) rfl hl rfl rD rfl rfl D6 q6;simp only[ae,seval];exact h14
 have hw':(([me (d6 op)]:az)=[119])=True:=av8 ((Za _ nT).2 hw);have lF:=D4.d.cells;simp only[bB,ae,seval,Gm,hw'];refine aC jf rfl rfl rfl rfl rfl lF.2.2.1 (D4.d.fW 2) ?_;have D6:=D4.set 2 (.bool true) (jZ s.p 0 true) rfl rfl (fun _ _=>rfl);have q6:=bu (o:=2) q4 (.bool true);generalize setAt _ ⟨q,2,none⟩ _=h6 at*;simp only[bB,ae,seval];refine aj rfl (j9 1 hl (by omega) D6.d.rd) ?_;intro v7 h7 oK;have D7:=D6.step oK.1 oK.2.1;have Gj:=oK.2.2;have q7:=ay oK.1 q6 D6.d.gq;have bn2:(aA l 1 s4).1<256:=dJ;have hYd:MU l s.p (op,s4)=if d6 (aA l 1 s4).1≠6∧d6 (aA l 1 s4).1≠7 then(jZ s.p (aA l 1 s4).1 true,cg 14 s.p (aA l 1 s4).2)else nH (jZ s.p (aA l 1 s4).1 true) s.p (d6 (aA l 1 s4).1) l (aA l 1 s4).2:=by
  unfold MU;rw[awa hw]
 rw[hYd];generalize aA l 1 s4=T2 at*;obtain⟨lG,s7⟩:=T2;simp only at Gj D7 bn2⊢;have UW:=G1 lG bn2;have ap9:=acy lG bn2;have hwr:IntKind.u8.wrap (lG:Int)=(lG:Int):=wrap_u8 (by omega) (by omega);simp only[bB,ae,seval,Gj];refine aj rfl (vd lG bn2 h7) ?_;intro v8 h8 KQ;have e8:=KQ.1;subst e8;have Wo:=KQ.2;rw[ap9]at Wo;by_cases vj:d6 lG≠6∧d6 lG≠7
 ·rw[awa vj]
  have g6:(([me (d6 lG)]:az)=[108])=False:=av7 (fun e=>vj.1 ((Sk _ UW).1 e));have g7:(([me (d6 lG)]:az)=[110])=False:=av7 (fun e=>vj.2 ((Zb _ UW).1 e));have KP:=D7.d.cells;have e0:(jZ s.p 0 true).at'=(s.p:Int):=rfl;rw[e0]at KP;simp only[bB,ae,seval,Wo,KP,g6,g7];refine aj rfl (iW 14 s.p D7.d.rd) ?_;intro v9 h9 AX;have D9:=D7.step AX.1 AX.2;have q9:=ay AX.1 q7 D7.d.gq;have YV:=D9.d.cells;simp only[bB,ae,seval,hwr];refine aC FO rfl rfl rfl rfl rfl YV.2.1 (D9.d.fW 1) ?_;have tW:=D9.set 1 (bH lG) (jZ s.p lG true) rfl rfl (fun _ _=>rfl);have q10:=bu (o:=1) q9 (bH lG);generalize setAt _ ⟨q,1,none⟩ _=d9 at*;have h14:=Sj (jZ s.p lG true) s.p 0 d9 2 (ao lG) (.bool true) (.bool true) (by omega) rfl hl rfl rD rfl rfl tW q10;rw[ap8]at h14;simp only[ae,seval];exact h14
 ·rw[av9 vj]
  have g67:((([me (d6 lG)]:az)=[108])=True)∨(((([me (d6 lG)]:az)=[108])=False)∧((([me (d6 lG)]:az)=[110])=True)):=by
   by_cases h6:d6 lG=6
   ·exact axa (av8 ((Sk _ UW).2 h6))
   ·exact axb ⟨av7 (fun e=>h6 ((Sk _ UW).1 e)),av8 ((Zb _ UW).2 (by omega))⟩
  have KP:=D7.d.cells;rcases g67 with fc|fc
  all_goals
   simp only[bB,ae,seval,Wo,fc,hwr];refine aC FO rfl rfl rfl rfl rfl KP.2.1 (D7.d.fW 1) ?_;have tW:=D7.set 1 (bH lG) (jZ s.p lG true) rfl rfl (fun _ _=>rfl);have q10:=bu (o:=1) q7 (bH lG);generalize setAt _ ⟨q,1,none⟩ _=d9 at*;have h14:=Sj (jZ s.p lG true) s.p (d6 lG) d9 2 (ao lG) (.bool true) (.bool false) (by omega) rfl hl rfl rD rfl rfl tW q10;simp only[ae,seval];exact h14
end
end
section
theorem lH.rc{h h':ar}{base g:Nat}{v:Value}{xs:List In}{l:az}{s:RS}(H:lH h base v xs)(f:Fr (fun k=>k=g) h h')(R:iJ h g l s):lH h' base v xs:=by
 obtain⟨rows,h1,h2,h3,h4⟩:=H;refine⟨rows,h1,h2.fr f ?_,fun j hj=>(h3 j hj).fr f ?_,h4⟩
 ·intro k hk hs;subst hs;exact bK h2 R.1 (by decide) hk
 ·intro b hb hs;subst hs
  have:=(h3 j hj).int hb R.1;exact aww this (by decide)
structure Jz(h hc:ar)(g gb:Nat)(l:az)(eU:List Int)(sv:Value)(xs:List In)(s:RS):Prop where
 x:Ext h hc
 r:iJ hc g l s
 k:hc[gb]? =some (.cells (ku l.length eU).toArray 4 (0,0))
 f:lH hc h.size sv xs
 g0:h.size≤g
section
variable{h h1 h2:ar}{g gb:Nat}{l:az}{eU:List Int}{sv:Value}{xs:List In}{s s':RS}
theorem Jz.step(H:Jz h h1 g gb l eU sv xs s)(f:Fr (fun k=>k=g) h1 h2)(r:iJ h2 g l s'):Jz h h2 g gb l eU sv xs s':=by
 have hg:=H.g0;refine⟨Fr.trans H.x f (fun _ _ h=>h) (fun k hk hs=>by omega),r,ay f H.k ?_,H.f.rc f H.r,hg⟩
 ·intro e;have k1:=H.r.1;rw[←e]at k1;exact aww (tX H.k k1) (by decide)
theorem Jz.ext(H:Jz h h1 g gb l eU sv xs s)(e:Ext h1 h2):Jz h h2 g gb l eU sv xs s:=⟨H.x.trans e,H.r.fr e id,ay e H.k id,H.f.ext e,H.g0⟩
end
theorem WB(l:az)(h:ar)(hl:l.length≤1073741824):
 aF Tryz.prog 137 #[str l] h fun v h'=>Ext h h'∧∃sv,v= .tuple #[sv,ao ((j0 l).2.1:Int),ao ((j0 l).2.2:Int)]∧lH h' h.size sv (j0 l).1:=by
 refine CW (args:=[str l]) rfl ?_;generalize hY:j0 l=Y;unfold j0 at hY;by_cases hlen:l.length=0∨65535<l.length
 ·rw[awa hlen]at hY
  subst hY;by_cases h0:l.length=0
  ·have h0':(l.length:Int)<1:=by omega
   simp only[cW,ae,seval,h0'];exact⟨Ext.refl _,_,rfl,lH.nil⟩
  ·have h0':¬(l.length:Int)<1:=by omega
   have h1:(65535:Int)<l.length:=by omega
   simp only[cW,ae,seval,h0',h1];exact⟨Ext.refl _,_,rfl,lH.nil⟩
 rw[av9 hlen]at hY;have h0:¬(l.length:Int)<1:=by omega
 have h1:¬(65535:Int)<l.length:=by omega
 simp only[cW,ae,seval,h0,h1];refine cT ?_;have X3:=Ext.push h (.cells #[str l,ao 0,ao 0,ao 0] 302);have r3:iJ (h.push (.cells #[str l,ao 0,ao 0,ao 0] 302)) h.size l ⟨0,0,0⟩:=⟨by simp,awb _⟩;simp only[cW,ae,seval];generalize h.push _=h3 at*;obtain⟨g,hg⟩:∃g,g=h.size:=⟨_,rfl⟩;have r3:iJ h3 g l ⟨0,0,0⟩:=by rw[hg];exact r3
 have hgh:h.size≤g:=by omega
 rw[←hg];refine rA FN rfl rfl (by omega) (by omega) (by omega) ?_;intro cs z ii hii KH hcs;have Sb:z.cells=#[.bool false]:=by
  obtain⟨ii',z',w1,w2,w3,_⟩:=jx jf;rw[hii]at w1;cases w1;rw[KH]at w2;cases w2;exact w3
 rw[Sb,show((l.length:Nat):Int).toNat*1=l.length by omega,KG]at hcs;subst hcs;have X4:=X3.trans (Ext.push h3 (.cells (ku l.length []).toArray 4));have r4:=r3.fr (Ext.push h3 (.cells (ku l.length []).toArray 4)) id;have k4:(h3.push (.cells (ku l.length []).toArray 4))[h3.size]? =some (.cells (ku l.length []).toArray 4 (0,0)):=by simp
 have hgs:h.size≤h3.size:=X3.size;generalize h3.push _=h4,h3.size=gb at*;simp only[cW,ae,seval];refine aG [0,5,6,7] (fun m ρ hc=>∃(xs:List In)(s:RS)(sv:Value)(rows:List (List Value)),xs.length+m≤l.length∧(s.e=0→l.length-s.p≤m)∧ρ=[(0,str l),(5,aE g),(6, .slice (some ⟨gb,0,none⟩) l.length l.length),(7,sv)]∧
  Ext h hc∧iJ hc g l s∧hc[gb]? =some (.cells (ku l.length (xs.map In.at')).toArray 4 (0,0))∧
  rows.length=xs.length∧Own hc h.size 204 8 sv xs.length rows.flatten∧(∀j,j<xs.length→tg hc h.size (xs.getD j l8) (rows.getD j []))∧(∀j k,j<k→k<xs.length→∀b c,xl (rows.getD j []) b→xl (rows.getD k []) c→b<c)∧
  (∀x∈xs,∃a:Nat,x.at'=(a:Int)∧a≤l.length)∧Px l (xk l m xs s)=Y) ?_ ?_
 ·simp only[ae,seval]
  exact⟨l.length,[],⟨0,0,0⟩,_,[],by simp,by simp,rfl,X4,r4,k4,rfl,Own.nil,fun j hj=>by simp at hj,fun j k _ hk=>by simp at hk,by simp,hY⟩
 rintro m ρ hc⟨xs,s,sv,rows,hm1,qQ,rfl,X,R,KB,hr1,own,hr3,hr4,Y2,hY⟩;have rD:=R.2;have d1:=R.c1;have d2:=R.c2;by_cases eK:s.p<l.length∧s.e=0
 case neg=>
  rw[UX eK]at hY;have S0:Jz h hc g gb l (xs.map In.at') sv xs s:=⟨X,R,KB,⟨rows,hr1,own,hr3,hr4⟩,hgh⟩;obtain⟨sa,sc,rfl,_⟩:=own.dQ.2;unfold Px at hY;simp only at hY;generalize hF:Cp l.length (xs.map In.at') xs s=F at*;by_cases hp:s.p<l.length
  case' pos=>
   have aK:(s.p:Int)<(l.length:Int):=by omega
   have he:¬(s.e:Int)=0:=by omega
   simp only[cW,ae,seval,d1,d2,aK,av7 he]
  case' neg=>
   have aK:¬(s.p:Int)<(l.length:Int):=by omega
   simp only[cW,ae,seval,d1,aK]
  all_goals
   refine aG [0,5,6,7,51,52,53] (fun m ρ hc=>∃(i:Nat)(s1:RS),m=xs.length-i∧i≤xs.length∧ρ=[(0,str l),(5,aE g),(6, .slice (some ⟨gb,0,none⟩) l.length l.length),(7, .slice sa xs.length sc),(51, .slice sa xs.length sc),(52,ao xs.length),(53,ao i)]∧
    Jz h hc g gb l (xs.map In.at') (.slice sa xs.length sc) xs s1∧Cp l.length (xs.map In.at') (xs.drop i) s1=F) ?_ ?_
   ·simp only[ae,seval]
    exact⟨_,0,s,rfl,awb _,rfl,S0,hF⟩
   rintro m ρ hc⟨i,s1,rfl,hi,rfl,S1,hF⟩;rcases Nat.lt_or_ge i xs.length with aV|VJ
   case inr=>
    have aK:¬(i:Int)<xs.length:=by omega
    have hd:xs.drop i=[]:=by rw[List.drop_eq_nil_iff];omega
    rw[hd,Cp]at hF;subst hF;have d2:=S1.r.c2;have d3:=S1.r.c3;by_cases he:s1.e=0
    ·have dH:(s1.e:Int)=0:=by omega
     rw[av9 (by simp[he])]at hY;subst hY;simp only[cW,ae,seval,aK,d2,av8 dH];exact⟨S1.x,_,rfl,by rw[hg];exact S1.f⟩
    ·have dH:¬(s1.e:Int)=0:=by omega
     rw[awa (by simpa using he)]at hY;subst hY;simp only[cW,ae,seval,aK,d2,d3,av7 dH];exact⟨S1.x,_,rfl,lH.nil⟩
   have aK:(i:Int)<xs.length:=by omega
   rw[gL (d:=l8) aV,Cp]at hF;obtain⟨rb,ro,rc,vk,vt,heq,tG,sk,st⟩:=S1.f.at aV;cases heq;obtain⟨a,ha,II⟩:=Y2 _ (dF (d:=l8) aV);have KM:=Ww st;generalize xs.getD i l8=x at*;rw[ha,Int.toNat_natCast]at hF;have Cn:=aS gg tG rfl;obtain⟨_,ak,kk,rfl,_⟩:=sk.dQ;obtain⟨_,IJ,kt,rfl,_⟩:=st.dQ;simp only[fu]at Cn;simp(disch:=omega)only[cW,ae,seval,aK,Cn];refine aD eB ?_;simp only[ae,seval];refine aI eB rfl rfl rfl (by simp[Value.cells,oneCell]) rfl ?_;intro h3 x3 nQ Gc b3;change h3[hc.size]? =some (.cells (fu x (.slice ak x.keys.length kk) (.slice IJ x.bX.length kt)).toArray 204 (0,0))at b3;have c7:cellAt h3 ⟨hc.size,7,none⟩=some (.slice IJ x.bX.length kt):=Gc 7 _ rfl;have S3:=S1.ext x3;have st3:=st.ext x3;have hqg:hc.size≠g:=by have:=S1.r.lt;omega
   generalize hc.size=q at*;simp only[cW,ae,seval,c7];refine aG [0,5,6,7,9,51,52,53,58,59,60] (fun m ρ hc=>∃(j:Nat)(s2:RS),m=x.bX.length-j∧j≤x.bX.length∧
    ρ=[(0,str l),(5,aE g),(6, .slice (some ⟨gb,0,none⟩) l.length l.length),(7, .slice (some ⟨rb,ro,none⟩) xs.length sc),(9,aE q),(51, .slice (some ⟨rb,ro,none⟩) xs.length sc),(52,ao xs.length),(53,ao i),(58, .slice IJ x.bX.length kt),(59,ao x.bX.length),(60,ao j)]∧
    Jz h hc g gb l (xs.map In.at') (.slice (some ⟨rb,ro,none⟩) xs.length sc) xs s2∧hc[q]? =some (.cells (fu x (.slice ak x.keys.length kk) (.slice IJ x.bX.length kt)).toArray 204 (0,0))∧Own hc h.size 3 1 (.slice IJ x.bX.length kt) x.bX.length (eI x.bX)∧
    Cp l.length (xs.map In.at') (xs.drop (i+1)) (Ge l.length (xs.map In.at') a (x.bX.drop j) s2)=F) ?_ ?_
   ·simp only[ae,seval]
    exact⟨_,0,s1,rfl,awb _,rfl,S3,b3,st3,hF⟩
   rintro m ρ IK⟨j,s2,rfl,hj,rfl,S4,b4,Wx,hF⟩;rcases Nat.lt_or_ge j x.bX.length with ta|hjg
   case inr=>
    have ji:¬(j:Int)<x.bX.length:=by omega
    have hd:x.bX.drop j=[]:=by rw[List.drop_eq_nil_iff];omega
    rw[hd,Ge]at hF;simp(disch:=omega)only[cW,ae,seval,ji];exact⟨_,by omega,i+1,s2,rfl,by omega,by simp,S4,hF⟩
   have ji:(j:Int)<x.bX.length:=by omega
   rw[gL (d:=0) ta,Ge]at hF;obtain⟨tb,to,tc,ahb,hcs,_⟩:=Wx.dQ.at ta;cases ahb;have t0:cellAt IK ⟨tb,to+j,none⟩=some (ao (x.bX.getD j 0)):=by
    have:=hcs 0 (ao (x.bX.getD j 0)) (by simp[eI,ta]);simpa using this
   generalize x.bX.getD j 0=t at*;have cq:cellAt IK ⟨q,0,none⟩=some (ao a):=by rw[au b4,←ha];rfl
   by_cases rP:RJ l.length (xs.map In.at') t=true
   case neg=>
    rw[av9 rP]at hF;have Rs:0≤t∧t<(l.length:Int)∧(xs.map In.at').contains t=true:=by
     unfold RJ at rP;simp only[Bool.not_eq_true',Bool.and_eq_false_iff,not_or,Bool.not_eq_false,awo]at rP;exact⟨rP.1.1,rP.1.2,rP.2⟩
    obtain⟨tn,rfl⟩:∃tn:Nat,t=(tn:Int):=⟨t.toNat,by omega⟩;have g1:¬(tn:Int)<0:=by omega
    have g2:¬(l.length:Int)≤(tn:Int):=by omega
    have g3:(tn:Int)<(l.length:Int):=Rs.2.1;have Oo:cellAt IK ⟨gb,tn,none⟩=some (.bool true):=by
     rw[au S4.k,awl,sH (by omega),Rs.2.2]
    simp(disch:=omega)only[cW,ae,seval,ji,t0,g1,g2,Oo];exact⟨_,by omega,j+1,s2,rfl,by omega,by simp,S4,b4,Wx,hF⟩
   rw[awa rP]at hF;have vl:∀(h6:ar),Fr (fun k=>k=g) IK h6∧iJ h6 g l (cg 16 a s2)→Jz h h6 g gb l (xs.map In.at') (.slice (some ⟨rb,ro,none⟩) xs.length sc) xs (cg 16 a s2)∧h6[q]? =some (.cells (fu x (.slice ak x.keys.length kk) (.slice (some ⟨tb,to,none⟩) x.bX.length kt)).toArray 204 (0,0))∧Own h6 h.size 3 1 (.slice (some ⟨tb,to,none⟩) x.bX.length kt) x.bX.length (eI x.bX):=by
    intro h6 oz;refine⟨S4.step oz.1 oz.2,ay oz.1 b4 hqg,Wx.fr oz.1 ?_⟩;intro k hk hs;subst hs;exact bK Wx S4.r.1 (by decide) hk
   by_cases g1:t<0
   case' pos=>
    simp(disch:=omega)only[cW,ae,seval,ji,t0,g1,cq]
   case' neg=>
    by_cases g2:(l.length:Int)≤t
    case' pos=>
     simp(disch:=omega)only[cW,ae,seval,ji,t0,g1,g2,cq]
    case' neg=>
     obtain⟨tn,rfl⟩:∃tn:Nat,t=(tn:Int):=⟨t.toNat,by omega⟩;have g3:(tn:Int)<(l.length:Int):=by omega
     have hct:(xs.map In.at').contains ((tn:Nat):Int)=false:=by
      unfold RJ at rP;rw[awh (by omega:0≤(tn:Int)),awh g3]at rP;simpa using rP
     have Oo:cellAt IK ⟨gb,tn,none⟩=some (.bool false):=by
      rw[au S4.k,awl,sH (by omega),hct]
     simp(disch:=omega)only[cW,ae,seval,ji,t0,g1,g2,Oo,cq]
   all_goals
    refine aj rfl (iW 16 a S4.r) ?_;intro v6 h6 oz;obtain⟨S6,b6,st6⟩:=vl h6 oz;simp(disch:=omega)only[cW,ae,seval];exact⟨_,by omega,j+1,_,rfl,by omega,by simp,S6,b6,st6,hF⟩
 have DF:(s.e:Int)=0:=by omega
 have hpi:(s.p:Int)<(l.length:Int):=by omega
 have Oo:cellAt hc ⟨gb,s.p,none⟩=some (.bool ((xs.map In.at').contains ((s.p:Nat):Int))):=by
  rw[au KB,awl];exact sH eK.1 _
 simp(disch:=omega)only[cW,ae,seval,d1,d2,hpi,av8 DF];refine aC jf rfl rfl rfl rfl rfl Oo (by simp[frozenAt,KB]) ?_;have f8:Fr (fun k=>k=gb) hc (setAt hc ⟨gb,s.p,none⟩ (.bool true)):=Fr.set (S:=fun k=>k=gb) _ _ _ fun _=>rfl;have KB8:=bu (o:=s.p) KB (.bool true);rw[N3]at KB8;have Y3:gb≠g:=by intro e;have k1:=R.1;rw[←e]at k1;exact aww (tX KB k1) (by decide)
 have R8:=R.fr f8 (Ne.symm Y3);have X8:Ext h (setAt hc ⟨gb,s.p,none⟩ (.bool true)):=Fr.trans X f8 (fun _ _ h=>h) (fun k hk hs=>by omega);have Y4:=own.fr f8 (fun k hk hS=>by subst hS;exact bK own KB (by decide) hk);have hr8:∀j,j<xs.length→tg (setAt hc ⟨gb,s.p,none⟩ (.bool true)) h.size (xs.getD j l8) (rows.getD j []):=fun j hj=>(hr3 j hj).fr f8 (fun b hb hs=>by subst hs;exact aww ((hr3 j hj).int hb KB) (by decide));generalize setAt hc ⟨gb,s.p,none⟩ (.bool true)=h8 at*;simp only[cW,ae,seval];refine aj rfl (aej hl R8) ?_;intro v9 h9 AX;have f9:=AX.1;have R9:=AX.2.1;obtain⟨vk,vt,KR,DG,DI,Wu⟩:=AX.2.2;obtain⟨m',rfl⟩:∃m',m=m'+1:=⟨m-1,by have:=qQ eK.2;omega⟩;rw[xk,awa eK]at hY;have hxa:=Y0 l s;have jV:=ok_one l s rD;generalize sN l s=O at*;obtain⟨x,s9⟩:=O;simp only at hY R9 KR DG DI hxa jV;have Sc:g≠gb:=fun e=>Y3 e.symm;have KB9:=ay f9 KB8 (Ne.symm Sc);have X9:Ext h h9:=Fr.trans X8 f9 (fun _ _ h=>h) (fun k hk hs=>by omega);have zR:=Y4.fr f9 (fun k hk hS=>by subst hS;exact bK Y4 R8.1 (by decide) hk);have hr9:∀j,j<xs.length→tg h9 h.size (xs.getD j l8) (rows.getD j []):=fun j hj=>(hr8 j hj).fr f9 (fun b hb hs=>by subst hs;exact aww ((hr8 j hj).int hb R8.1) (by decide));have Y5:h.size≤h8.size:=X8.size;simp only[fu]at KR;simp only[ae,seval,KR];refine aU xg rfl rfl (by decide) ?_;simp only[ae,seval];have ahd:∀u∈fu x vk vt,oneCell u=true:=by
  intro u hu;obtain⟨_,ak,kk,rfl,_⟩:=DG.dQ;obtain⟨_,IJ,kt,rfl,_⟩:=DI.dQ;simp[fu]at hu;rcases hu with rfl|rfl|rfl|rfl|rfl|rfl|rfl|rfl<;>rfl
 refine bF (m:=1) xg rfl rfl (zR.push _) rfl (bV (vs:=fu x vk vt)) ahd (by omega) (by omega) (by have:=X9.size;simp;omega) ?_;intro v10 d9 abA Jy _;have R9p:=R9.fr (Ext.push h9 (.cells (fu x vk vt).toArray 204)) id;have Y7:=dw (o':= .cells (fu x vk vt).toArray 204) KB9;have Py:=zR.push (.cells (fu x vk vt).toArray 204);have R10:=R9p.fr Jy (bK Py R9p.1 (by decide));have ahf:=ay Jy Y7 (bK Py Y7 (by decide));have X10:Ext h d9:=Ext.app (X9.trans (Ext.push _ _)) Jy (fun k hk=>(zR.lt k hk).1);have pf:∀(y:In)(r:List Value)(hh:tg h9 h.size y r),tg d9 h.size y r:=by
  intro y r hh;have h1:=hh.fr (Ext.push h9 (.cells (fu x vk vt).toArray 204)) (fun _ _=>id);refine h1.fr Jy (fun b hb hs=>?_);obtain⟨cs,fz,hc⟩:=Own.cells Py hs;exact aww (h1.int hb hc) (by decide)
 have hnew:tg h9 h.size x (fu x vk vt):=⟨vk,vt,rfl,DG.mono Y5,DI.mono Y5,Wu⟩;have ahg:∀b,xl (fu x vk vt) b→h8.size≤b:=by
  intro b hb;rcases hb with hb|hb
  ·exact(DG.lt b hb).1
  ·exact(DI.lt b hb).1
 have abB:Own d9 h.size 204 8 v10 (xs.length+1) (rows++[fu x vk vt]).flatten:=by
  rw[List.flatten_append];simpa using abA
 obtain⟨KU,q1,q2,q3,q4⟩:=lH.snoc (h:=h8) (x:=x) hr1 hr8 hr4 abB (pf _ _ hnew) (fun j hj=>pf _ _ (hr9 j hj)) ahg;rw[awn,awt]at q1;have Wy:(xs++[x]).length=xs.length+1:=by simp
 rw[Wy]at q2;have ahh:d9[gb]? =some (.cells (ku l.length ((xs++[x]).map In.at')).toArray 4 (0,0)):=by
  rw[ahf,List.map_append,List.map_singleton,hxa]
 simp only[ae,seval];refine⟨m',Nat.lt_succ_self _,xs++[x],s9,v10,KU,by rw[Wy];omega,?_,by simp,X10,R10,ahh,by rw[Wy];exact q1,by rw[Wy];exact q2,q3,q4,?_,hY⟩
 ·intro he
  have h1:=jV.2 eK.1 eK.2;have h2:=qQ eK.2;omega
 ·intro y hy
  rcases awi.1 hy with hy|hy
  ·exact Y2 y hy
  ·rw[awf.1 hy,hxa]
   exact⟨s.p,rfl,rD⟩
end
end Go.Proofs.YtmbboehmnfhjjaaGreatDoor
