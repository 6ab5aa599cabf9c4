/- Reading a pool, by the reference. The reference's reader of bytes (cut of jvmcoreref3). -/
import Derived.Test.YtmbboehmnfhjjaaGreatDoorU26
import Derived.Test.YtmbboehmnfhjjaaGreatDoorU17
import Derived.Test.YtmbboehmnfhjjaaGreatDoorU25
import Derived.Test.YtmbboehmnfhjjaaGreatDoorU11
import Derived.Test.YtmbboehmnfhjjaaGreatDoorU5
set_option maxRecDepth 100000
set_option maxHeartbeats 8000000
set_option linter.unusedSimpArgs false
set_option linter.unusedVariables false
set_option linter.defProp false
namespace Go.Proofs.YtmbboehmnfhjjaaGreatDoor
open Go.Vc
def rdV(h0:Nat)(x:RR)(v:Value)(h':ar):Prop:=∃sv,v= .tuple #[sv,ao x.2.1,ao x.2.2.1,ao x.2.2.2]∧Own h' h0 160 5 sv x.1.length (du x.1)
theorem mQ{h0 a b:Nat}{h':ar}:rdV h0 ([],0,a,b) (.tuple #[nS,ao 0,ao a,ao b]) h':=⟨_,rfl,Own.nil⟩
theorem abU(l:az)(h:ar)(hl:l.length≤1073741824):aF Tryz.prog 93 #[str l] h fun v h'=>Ext h h'∧rdV h.size (lJ l) v h':=by
 refine Ia (args:=[str l]) rfl ?_;by_cases h2:l.length<2
 ·have vV:(l.length:Int)<2:=by omega
  have hR:lJ l=([],0,1,l.length):=awa h2;rw[hR];simp only[bD,ae,seval,vV];exact⟨Ext.refl _,mQ⟩
 have vV:¬(l.length:Int)<2:=by omega
 simp(disch:=omega)only[bD,ae,seval,vV];refine dk ?_;simp only[ae,seval];refine(mU (l.take 2) h (by simp;omega)).mono ?_;rintro v1 h1⟨rfl,rfl⟩;have hn:eh (l.take 2)<65536:=awF (oX _) (by
  have:(l.take 2).length=2:=by simp;omega
  rw[this];decide)
 by_cases hz:eh (l.take 2)=0
 ·have hR:lJ l=([],0,12,0):=by unfold lJ;rw[av9 h2,awa hz]
  rw[hR];have nl:(eh (l.take 2):Int)=0:=by omega
  simp(disch:=omega)only[bD,ae,seval,av8 nl];exact⟨Ext.refl _,mQ⟩
 have hR:lJ l=mn l (eh (l.take 2)) (eh (l.take 2)) [aX.zero] 2:=by unfold lJ;rw[av9 h2,av9 hz]
 have nl:¬(eh (l.take 2):Int)=0:=by omega
 rw[hR];generalize eh (l.take 2)=n at*;generalize hX:mn l n n [aX.zero] 2=X;simp(disch:=omega)only[bD,ae,seval,av7 nl];refine aU gh rfl rfl (by decide) ?_;simp only[bD,ae,seval];have Zt:Own (h1.push (.cells (aX.zero.cells).toArray 160 (0,0))) h1.size 160 5 (.slice (some ⟨h1.size,0,none⟩) 1 1) 1 (du [aX.zero]):=Own.new (vs:=du [aX.zero]) rfl (by decide+kernel) (awp _);change Own (h1.push (.cells #[bH 0,str [], .int .u64 0,ax 0,ax 0] 160)) h1.size 160 5 (.slice (some ⟨h1.size,0,none⟩) 1 1) 1 (du [aX.zero])at Zt;have aqL:Ext h1 (h1.push (.cells #[bH 0,str [], .int .u64 0,ax 0,ax 0] 160)):=Ext.push _ _;refine aG [0,6,7,8] (fun m ρ hc=>∃(k:Nat)(cs:List aX)(v:Value)(p:Nat),m=n-cs.length∧n≤k+cs.length∧
  ρ=[(0,str l),(6,ao n),(7,v),(8,ao p)]∧Ext h1 hc∧Own hc h1.size 160 5 v cs.length (du cs)∧mn l n k cs p=X∧cs.length≤n+1∧p≤l.length) ?_ ?_
 ·simp only[ae,seval]
  exact⟨_,n,[aX.zero],_,2,rfl,by omega,rfl,aqL,Zt,hX,by simp,by omega⟩
 rintro m ρ hc⟨k,cs,v,p,rfl,hk,rfl,fc,oc,hL,hcs,hp⟩;obtain⟨a,c,rfl,_⟩:=oc.dQ.2;have avg:=fc.size;by_cases aV:cs.length<n
 case neg=>
  have aK:¬(cs.length:Int)<n:=by omega
  have gl:X=(cs,p,0,0):=by
   rw[←hL];cases k with
   |zero=>rfl
   |succ k=>rw[mn,av9 aV]
  subst gl;simp only[bD,ae,seval,aK];exact⟨fc,_,rfl,oc⟩
 have aK:(cs.length:Int)<n:=by omega
 obtain⟨k,rfl⟩:∃k',k=k'+1:=⟨k-1,by omega⟩;have M4:∀{e:Nat × Nat},qT l p= .inl e→X=([],0,e.1,e.2):=by
  intro e he;rw[←hL,mn,awa aV,he]
 have okX:∀{c:aX}{p':Nat},qT l p= .inr (c,p')→X=(if kE c.tag then(if n<cs.length+2 then([],0,12,p)else mn l n k (cs++[c]++[aX.zero]) p')else mn l n k (cs++[c]) p'):=by
  intro c p' he;rw[←hL,mn,awa aV,he]
 by_cases rD:l.length≤p
 ·have ahN:(l.length:Int)≤p:=by omega
  have eY:qT l p= .inl (1,l.length):=awa rD;rw[M4 eY];simp only[bD,ae,seval,aK,ahN];exact⟨fc,mQ⟩
 have ahN:¬(l.length:Int)≤p:=by omega
 have hpi:(p:Int)<l.length:=by omega
 simp(disch:=omega)only[bD,ae,seval,aK,ahN];have ht:(l.getD p 0).toNat<256:=by have:=UInt8.toNat_lt (l.getD p 0);simpa using this
 have eY:qT l p=qT l p:=rfl
 conv at eY=>rhs;unfold qT
 simp only[av9 rD]at eY;generalize(l.getD p 0).toNat=t at*;refine aD gi ?_;simp only[ae,seval];refine aI gi rfl rfl rfl (by simp[Value.cells,oneCell,str]) rfl ?_;intro h3 x3 nQ Gc b3;change h3[hc.size]? =some (.cells #[bH t,str [], .int .u64 0,ax 0,ax 0] 160 (0,0))at b3;have c0:cellAt h3 ⟨hc.size,0,none⟩=some (bH t):=Gc 0 _ rfl;have o3:=oc.ext x3;have F3:=fc.trans x3;have hq:∀k,(Value.slice a cs.length c).ownBlock=some k→k<hc.size:=fun k hk=>(oc.lt k hk).2;generalize hc.size=q at*;simp only[bD,ae,seval,c0];refine aj rfl (abS t h3) ?_;rintro v4 h4⟨rfl,rfl⟩;have e1:(p:Int)+1=((p+1:Nat):Int):=by omega
 by_cases t1:t=1
 ·subst t1
  rw[show mI 1=2 from rfl];simp only[show mI 1=2 from rfl,Int.reduceToNat,Int.reduceLT,aw1,Nat.reduceEqDiff,aw0,aw6,Nat.add_assoc,Nat.reduceAdd]at eY;rw[show((1:Nat):Int)=1 from rfl]at b3 c0;have e2:((p+1:Nat):Int)+2=((p+3:Nat):Int):=by omega
  by_cases hz:l.length<p+3
  ·have nl:(l.length:Int)<((p+3:Nat):Int):=by omega
   rw[awa hz]at eY;rw[M4 eY];simp(disch:=omega)only[bD,ae,seval,Int.reduceLT,e1,e2,nl];exact⟨F3,mQ⟩
  have nl:¬(l.length:Int)<((p+3:Nat):Int):=by omega
  rw[av9 hz]at eY;have kO:((l.take (p+3)).drop (p+1)).length=2:=by simp;omega
  simp(disch:=omega)only[bD,ae,seval,Int.reduceLT,e1,e2,nl,c0,];generalize(l.take (p+3)).drop (p+1)=bs at*;refine aj rfl (mU bs h4 (by omega)) ?_;rintro v5 h5⟨rfl,rfl⟩;have hb:eh bs<65536:=by have:=oX bs;rw[kO]at this;exact this
  generalize eh bs=m at*;have e3:((p+3:Nat):Int)+(m:Int)=((p+(3+m):Nat):Int):=by omega
  by_cases hm:l.length<p+(3+m)
  ·have Gz:(l.length:Int)<((p+(3+m):Nat):Int):=by omega
   rw[awa hm]at eY;rw[M4 eY];simp(disch:=omega)only[bD,ae,seval,e3,Gz];exact⟨F3,mQ⟩
  have Gz:¬(l.length:Int)<((p+(3+m):Nat):Int):=by omega
  rw[av9 hm]at eY;simp(disch:=omega)only[bD,ae,seval,e3,Gz];have KM:((l.take (p+(3+m))).drop (p+3)).length≤65536:=by simp;omega
  generalize(l.take (p+(3+m))).drop (p+3)=tx at*;refine aC nM rfl rfl rfl rfl rfl (u:=str []) (by rw[au b3];rfl) (by simp[frozenAt,b3]) ?_;have b7:=bu (o:=1) b3 (str tx);have w7:Fr (fun k=>k=q) h5 (setAt h5 ⟨q,1,none⟩ (str tx)):=Fr.set (S:=fun k=>k=q) _ _ _ fun _=>rfl;have F7:Ext h1 (setAt h5 ⟨q,1,none⟩ (str tx)):=Fr.trans F3 w7 (fun _ _ h=>h) (fun k hk hS=>by omega);have o7:=o3.fr w7 (fun k hk hS=>by have:=hq k hk;omega);change(setAt h5 ⟨q,1,none⟩ (str tx))[q]? =some (.cells #[bH 1,str tx, .int .u64 0,ax 0,ax 0] 160 (0,0))at b7;generalize setAt h5 ⟨q,1,none⟩ (str tx)=k7 at*;have d1:cellAt k7 ⟨q,1,none⟩=some (str tx):=by rw[au b7];rfl
  simp(disch:=omega)only[bD,ae,seval,d1,e3];refine aj rfl (Zs tx k7 (by omega)) ?_;rintro v8 h8⟨x8,u8⟩;cases hu:jK tx with
  |none=>
   rw[hu]at u8;simp only[U7]at u8;subst u8;rw[awa hu]at eY;rw[M4 eY];simp only[bD,ae,seval];exact⟨F7.trans x8,mQ⟩
  |some us=>
   rw[hu]at u8;simp only[U7]at u8;obtain⟨sv,rfl,_⟩:=u8;rw[av9 (by rw[hu];simp)]at eY;have b8:=ay x8 b7 id;have F8:=F7.trans x8;have o8:=o7.ext x8;simp only[bD,ae,seval];have bm:=aS eA (aN (vs:=[bH 1,str tx, .int .u64 0,ax 0,ax 0]) b8) rfl;simp only[ae,seval,bm];refine aU gh rfl rfl (by decide) ?_;simp only[ae,seval];refine bF (m:=1) gh rfl rfl (o8.push _) rfl (bV (vs:=[bH 1,str tx, .int .u64 0,ax 0,ax 0])) (by simp[oneCell,str]) (by omega) (by omega) (by have:=F8.size;simp;omega) ?_;intro v6 h6 o6 f6 _;have b6:=ay f6 (dw b8) (fun hk=>by have:=hq _ hk;omega);have F6:Ext h1 h6:=Ext.app (F8.trans (Ext.push _ _)) f6 (fun k hk=>(o8.lt k hk).1);have e6:du cs++[bH 1,str tx, .int .u64 0,ax 0,ax 0]=du (cs++[aX.mk 1 tx 0 0 0]):=by simp[du,aX.cells]
   have o7:Own h6 h1.size 160 5 v6 (cs++[aX.mk 1 tx 0 0 0]).length (du (cs++[aX.mk 1 tx 0 0 0])):=dR o6 (by simp) e6;have c6:cellAt h6 ⟨q,0,none⟩=some (bH 1):=by rw[au b6];rfl
   have hX:=okX eY;simp only[show kE 1=false from rfl,awj,aw1]at hX;have j7:(cs++[aX.mk 1 tx 0 0 0]).length=cs.length+1:=by simp
   generalize cs++[aX.mk 1 tx 0 0 0]=Gy at*;obtain⟨a6,cc6,rfl,_⟩:=o7.dQ.2;simp only[bD,ae,seval,c6,Int.reduceEq,];exact⟨_,by omega,k,Gy,_,_,rfl,by omega,rfl,F6,o7,hX.symm,by omega,by omega⟩
 by_cases g3:t=3∨t=4
 ·have hs:mI t=4∧kE t=false:=by rcases g3 with rfl|rfl<;>exact⟨rfl,rfl⟩
  rcases g3 with rfl|rfl
  all_goals
   rw[hs.1];simp only[hs.1,Int.reduceToNat,Int.reduceLT,aw1,Nat.reduceEqDiff,aw0,or_true,aw6,true_or,aw7,Nat.add_assoc,Nat.reduceAdd]at eY;simp only[Int.cast_ofNat_Int]at b3 c0;have e2:((p+1:Nat):Int)+4=((p+5:Nat):Int):=by omega
   by_cases hz:l.length<p+5
   ·have nl:(l.length:Int)<((p+5:Nat):Int):=by omega
    rw[awa hz]at eY;rw[M4 eY];simp(disch:=omega)only[bD,ae,seval,Int.reduceLT,e1,e2,nl];exact⟨F3,mQ⟩
   have nl:¬(l.length:Int)<((p+5:Nat):Int):=by omega
   rw[av9 hz]at eY;have kO:((l.take (p+5)).drop (p+1)).length=4:=by simp;omega
   simp(disch:=omega)only[bD,ae,seval,Int.reduceLT,e1,e2,nl,c0,Int.reduceEq,];generalize(l.take (p+5)).drop (p+1)=bs at*;refine aj rfl (mU bs h4 (by omega)) ?_;rintro v5 h5⟨rfl,rfl⟩;generalize eh bs=m at*;simp only[ae,seval];refine aC AK rfl rfl rfl rfl rfl (u:= .int .u64 0) (by rw[au b3];rfl) (by simp[frozenAt,b3]) ?_;have b5:=bu (o:=2) b3 (.int .u64 (m:Int));have w5:Fr (fun k=>k=q) h5 (setAt h5 ⟨q,2,none⟩ (.int .u64 (m:Int))):=Fr.set (S:=fun k=>k=q) _ _ _ fun _=>rfl;have F5:Ext h1 (setAt h5 ⟨q,2,none⟩ (.int .u64 (m:Int))):=Fr.trans F3 w5 (fun _ _ h=>h) (fun k hk hS=>by omega);have o5:=o3.fr w5 (fun k hk hS=>by have:=hq k hk;omega);change(setAt h5 ⟨q,2,none⟩ (.int .u64 (m:Int)))[q]? =some (.cells #[bH _,str [], .int .u64 (m:Int),ax 0,ax 0] 160 (0,0))at b5;generalize setAt h5 ⟨q,2,none⟩ (.int .u64 (m:Int))=k5 at*;simp only[bD,ae,seval];have bm:=aS eA (aN (vs:=[bH _,str [], .int .u64 (m:Int),ax 0,ax 0]) b5) rfl;simp only[ae,seval,bm];refine aU gh rfl rfl (by decide) ?_;simp only[ae,seval];refine bF (m:=1) gh rfl rfl (o5.push _) rfl (bV (vs:=[bH _,str [], .int .u64 (m:Int),ax 0,ax 0])) (by simp[oneCell,str]) (by omega) (by omega) (by have:=F5.size;simp;omega) ?_;intro v6 h6 o6 f6 _;have b6:=ay f6 (dw b5) (fun hk=>by have:=hq _ hk;omega);have F6:Ext h1 h6:=Ext.app (F5.trans (Ext.push _ _)) f6 (fun k hk=>(o5.lt k hk).1);generalize SI:aX.mk _ [] m 0 0=cc at eY;have o7:Own h6 h1.size 160 5 v6 (cs++[cc]).length (du (cs++[cc])):=dR o6 (by simp) (by subst SI;simp[du,aX.cells]);have c6:cellAt h6 ⟨q,0,none⟩=cellAt h5 ⟨q,0,none⟩:=by rw[c0,au b6];rfl
   rw[c0]at c6;have hX:=okX eY;rw[show kE cc.tag=false by subst SI;exact hs.2]at hX;simp only[awj,aw1]at hX;have j7:(cs++[cc]).length=cs.length+1:=by simp
   generalize cs++[cc]=Gy at*;obtain⟨a6,cc6,rfl,_⟩:=o7.dQ.2;simp only[bD,ae,seval,c6,Int.reduceEq,];exact⟨_,by omega,k,Gy,_,_,rfl,by omega,rfl,F6,o7,hX.symm,by omega,by omega⟩
 by_cases g5:t=5∨t=6
 ·have hs:mI t=8∧kE t=true:=by rcases g5 with rfl|rfl<;>exact⟨rfl,rfl⟩
  rcases g5 with rfl|rfl
  all_goals
   rw[hs.1];simp only[hs.1,Int.reduceToNat,Int.reduceLT,aw1,Nat.reduceEqDiff,aw0,or_true,aw6,true_or,aw7,Nat.add_assoc,Nat.reduceAdd]at eY;simp only[Int.cast_ofNat_Int]at b3 c0;have e2:((p+1:Nat):Int)+8=((p+9:Nat):Int):=by omega
   by_cases hz:l.length<p+9
   ·have nl:(l.length:Int)<((p+9:Nat):Int):=by omega
    rw[awa hz]at eY;rw[M4 eY];simp(disch:=omega)only[bD,ae,seval,Int.reduceLT,e1,e2,nl];exact⟨F3,mQ⟩
   have nl:¬(l.length:Int)<((p+9:Nat):Int):=by omega
   rw[av9 hz]at eY;have kO:((l.take (p+9)).drop (p+1)).length=8:=by simp;omega
   simp(disch:=omega)only[bD,ae,seval,Int.reduceLT,e1,e2,nl,c0,Int.reduceEq,];generalize(l.take (p+9)).drop (p+1)=bs at*;refine aj rfl (mU bs h4 (by omega)) ?_;rintro v5 h5⟨rfl,rfl⟩;generalize eh bs=m at*;simp only[ae,seval];refine aC AK rfl rfl rfl rfl rfl (u:= .int .u64 0) (by rw[au b3];rfl) (by simp[frozenAt,b3]) ?_;have b5:=bu (o:=2) b3 (.int .u64 (m:Int));have w5:Fr (fun k=>k=q) h5 (setAt h5 ⟨q,2,none⟩ (.int .u64 (m:Int))):=Fr.set (S:=fun k=>k=q) _ _ _ fun _=>rfl;have F5:Ext h1 (setAt h5 ⟨q,2,none⟩ (.int .u64 (m:Int))):=Fr.trans F3 w5 (fun _ _ h=>h) (fun k hk hS=>by omega);have o5:=o3.fr w5 (fun k hk hS=>by have:=hq k hk;omega);change(setAt h5 ⟨q,2,none⟩ (.int .u64 (m:Int)))[q]? =some (.cells #[bH _,str [], .int .u64 (m:Int),ax 0,ax 0] 160 (0,0))at b5;generalize setAt h5 ⟨q,2,none⟩ (.int .u64 (m:Int))=k5 at*;simp only[bD,ae,seval];have bm:=aS eA (aN (vs:=[bH _,str [], .int .u64 (m:Int),ax 0,ax 0]) b5) rfl;simp only[ae,seval,bm];refine aU gh rfl rfl (by decide) ?_;simp only[ae,seval];refine bF (m:=1) gh rfl rfl (o5.push _) rfl (bV (vs:=[bH _,str [], .int .u64 (m:Int),ax 0,ax 0])) (by simp[oneCell,str]) (by omega) (by omega) (by have:=F5.size;simp;omega) ?_;intro v6 h6 o6 f6 _;have b6:=ay f6 (dw b5) (fun hk=>by have:=hq _ hk;omega);have F6:Ext h1 h6:=Ext.app (F5.trans (Ext.push _ _)) f6 (fun k hk=>(o5.lt k hk).1);generalize SI:aX.mk _ [] m 0 0=cc at eY;have o7:Own h6 h1.size 160 5 v6 (cs++[cc]).length (du (cs++[cc])):=dR o6 (by simp) (by subst SI;simp[du,aX.cells]);have c6:cellAt h6 ⟨q,0,none⟩=cellAt h5 ⟨q,0,none⟩:=by rw[c0,au b6];rfl
   rw[c0]at c6;have hX:=okX eY;rw[show kE cc.tag=true by subst SI;exact hs.2]at hX;simp only[aw0,]at hX;have j7:(cs++[cc]).length=cs.length+1:=by simp
   generalize cs++[cc]=Gy at*;obtain⟨a6,cc6,rfl,_⟩:=o7.dQ.2;simp only[bD,ae,seval,c6,];refine aU gh rfl rfl (by decide) ?_;simp only[ae,seval];refine bF (m:=1) gh rfl rfl (o7.push _) rfl (bV (vs:=aX.zero.cells)) (by simp[oneCell,str,aX.cells,aX.zero]) (by omega) (by omega) (by have:=F6.size;simp;omega) ?_;intro v8 h8 o8 f8 _;have F8:Ext h1 h8:=Ext.app (F6.trans (Ext.push _ _)) f8 (fun k hk=>(o7.lt k hk).1);have o9:Own h8 h1.size 160 5 v8 (Gy++[aX.zero]).length (du (Gy++[aX.zero])):=dR o8 (by simp) (by rw[Jv];rfl);obtain⟨a8,c8,rfl,_⟩:=o9.dQ.2;have hl8:(Gy++[aX.zero]).length=cs.length+2:=by simp[j7]
   generalize Gy++[aX.zero]=Zu at*;by_cases hn8:n<cs.length+2
   ·have SH:(n:Int)<(Zu.length:Int):=by omega
    rw[awa hn8]at hX;subst hX;simp only[bD,ae,seval,SH];exact⟨F8,mQ⟩
   ·have SH:¬(n:Int)<(Zu.length:Int):=by omega
    rw[av9 hn8]at hX;simp only[bD,ae,seval,SH];exact⟨_,by omega,k,Zu,_,_,rfl,by omega,rfl,F8,o9,hX.symm,by omega,by omega⟩
 by_cases g7:t=7∨t=8
 ·have hs:mI t=2∧kE t=false:=by rcases g7 with rfl|rfl<;>exact⟨rfl,rfl⟩
  rcases g7 with rfl|rfl
  all_goals
   rw[hs.1];simp only[hs.1,Int.reduceToNat,Int.reduceLT,aw1,Nat.reduceEqDiff,aw0,or_true,aw6,true_or,aw7,Nat.add_assoc,Nat.reduceAdd]at eY;simp only[Int.cast_ofNat_Int]at b3 c0;have e2:((p+1:Nat):Int)+2=((p+3:Nat):Int):=by omega
   by_cases hz:l.length<p+3
   ·have nl:(l.length:Int)<((p+3:Nat):Int):=by omega
    rw[awa hz]at eY;rw[M4 eY];simp(disch:=omega)only[bD,ae,seval,Int.reduceLT,e1,e2,nl];exact⟨F3,mQ⟩
   have nl:¬(l.length:Int)<((p+3:Nat):Int):=by omega
   rw[av9 hz]at eY;have kO:((l.take (p+3)).drop (p+1)).length=2:=by simp;omega
   simp(disch:=omega)only[bD,ae,seval,Int.reduceLT,e1,e2,nl,c0,Int.reduceEq,];generalize(l.take (p+3)).drop (p+1)=bs at*;refine aj rfl (mU bs h4 (by omega)) ?_;rintro v5 h5⟨rfl,rfl⟩;have hb:eh bs<65536:=by have:=oX bs;rw[kO]at this;exact this
   generalize eh bs=m at*;simp(disch:=omega)only[ae,seval];refine aC eN rfl rfl rfl rfl rfl (u:=ax 0) (by rw[au b3];rfl) (by simp[frozenAt,b3]) ?_;have b5:=bu (o:=3) b3 (ax m);have w5:Fr (fun k=>k=q) h5 (setAt h5 ⟨q,3,none⟩ (ax m)):=Fr.set (S:=fun k=>k=q) _ _ _ fun _=>rfl;have F5:Ext h1 (setAt h5 ⟨q,3,none⟩ (ax m)):=Fr.trans F3 w5 (fun _ _ h=>h) (fun k hk hS=>by omega);have o5:=o3.fr w5 (fun k hk hS=>by have:=hq k hk;omega);change(setAt h5 ⟨q,3,none⟩ (ax m))[q]? =some (.cells #[bH _,str [], .int .u64 0,ax m,ax 0] 160 (0,0))at b5;generalize setAt h5 ⟨q,3,none⟩ (ax m)=k5 at*;simp only[bD,ae,seval];have bm:=aS eA (aN (vs:=[bH _,str [], .int .u64 0,ax m,ax 0]) b5) rfl;simp only[ae,seval,bm];refine aU gh rfl rfl (by decide) ?_;simp only[ae,seval];refine bF (m:=1) gh rfl rfl (o5.push _) rfl (bV (vs:=[bH _,str [], .int .u64 0,ax m,ax 0])) (by simp[oneCell,str]) (by omega) (by omega) (by have:=F5.size;simp;omega) ?_;intro v6 h6 o6 f6 _;have b6:=ay f6 (dw b5) (fun hk=>by have:=hq _ hk;omega);have F6:Ext h1 h6:=Ext.app (F5.trans (Ext.push _ _)) f6 (fun k hk=>(o5.lt k hk).1);generalize SI:aX.mk _ [] 0 m 0=cc at eY;have o7:Own h6 h1.size 160 5 v6 (cs++[cc]).length (du (cs++[cc])):=dR o6 (by simp) (by subst SI;simp[du,aX.cells]);have c6:cellAt h6 ⟨q,0,none⟩=cellAt h5 ⟨q,0,none⟩:=by rw[c0,au b6];rfl
   rw[c0]at c6;have hX:=okX eY;rw[show kE cc.tag=false by subst SI;exact hs.2]at hX;simp only[awj,aw1]at hX;have j7:(cs++[cc]).length=cs.length+1:=by simp
   generalize cs++[cc]=Gy at*;obtain⟨a6,cc6,rfl,_⟩:=o7.dQ.2;simp only[bD,ae,seval,c6,Int.reduceEq,];exact⟨_,by omega,k,Gy,_,_,rfl,by omega,rfl,F6,o7,hX.symm,by omega,by omega⟩
 by_cases g9:t=9∨t=10∨t=11∨t=12
 ·have hs:mI t=4∧kE t=false:=by rcases g9 with rfl|rfl|rfl|rfl<;>exact⟨rfl,rfl⟩
  rcases g9 with rfl|rfl|rfl|rfl
  all_goals
   rw[hs.1];simp only[hs.1,Int.reduceToNat,Int.reduceLT,aw1,Nat.reduceEqDiff,aw0,or_true,aw6,true_or,aw7,Nat.add_assoc,Nat.reduceAdd]at eY;simp only[Int.cast_ofNat_Int]at b3 c0;have e2:((p+1:Nat):Int)+4=((p+5:Nat):Int):=by omega
   by_cases hz:l.length<p+5
   ·have nl:(l.length:Int)<((p+5:Nat):Int):=by omega
    rw[awa hz]at eY;rw[M4 eY];simp(disch:=omega)only[bD,ae,seval,Int.reduceLT,e1,e2,nl];exact⟨F3,mQ⟩
   have nl:¬(l.length:Int)<((p+5:Nat):Int):=by omega
   rw[av9 hz]at eY;have kO:((l.take (p+5)).drop (p+1)).length=4:=by simp;omega
   simp(disch:=omega)only[bD,ae,seval,Int.reduceLT,e1,e2,nl,c0,Int.reduceEq,];generalize(l.take (p+5)).drop (p+1)=bs at*;refine dk ?_;simp only[ae,seval];have Oq:(bs.take 2).length=2:=by simp;omega
   have FV:(bs.drop 2).length=2:=by simp;omega
   refine(mU (bs.take 2) h4 (by omega)).mono ?_;rintro v5 h5⟨rfl,rfl⟩;have hb:eh (bs.take 2)<65536:=by have:=oX (bs.take 2);rw[Oq]at this;exact this
   have ju:eh (bs.drop 2)<65536:=by have:=oX (bs.drop 2);rw[FV]at this;exact this
   generalize eh (bs.take 2)=m at*;simp(disch:=omega)only[ae,seval];refine aC eN rfl rfl rfl rfl rfl (u:=ax 0) (by rw[au b3];rfl) (by simp[frozenAt,b3]) ?_;have b5:=bu (o:=3) b3 (ax m);have w5:Fr (fun k=>k=q) h5 (setAt h5 ⟨q,3,none⟩ (ax m)):=Fr.set (S:=fun k=>k=q) _ _ _ fun _=>rfl;have F5:Ext h1 (setAt h5 ⟨q,3,none⟩ (ax m)):=Fr.trans F3 w5 (fun _ _ h=>h) (fun k hk hS=>by omega);have o5:=o3.fr w5 (fun k hk hS=>by have:=hq k hk;omega);change(setAt h5 ⟨q,3,none⟩ (ax m))[q]? =some (.cells #[bH _,str [], .int .u64 0,ax m,ax 0] 160 (0,0))at b5;generalize setAt h5 ⟨q,3,none⟩ (ax m)=k5 at*;have Rs:(2:Int)≤bs.length:=by omega
   simp(disch:=omega)only[bD,ae,seval];refine dk ?_;simp only[ae,seval];refine(mU (bs.drop 2) k5 (by omega)).mono ?_;rintro v6 h6⟨rfl,rfl⟩;generalize eh (bs.drop 2)=m2 at*;simp(disch:=omega)only[ae,seval];refine aC eN rfl rfl rfl rfl rfl (u:=ax 0) (by rw[au b5];rfl) (by simp[frozenAt,b5]) ?_;have b7:=bu (o:=4) b5 (ax m2);have w7:Fr (fun k=>k=q) h6 (setAt h6 ⟨q,4,none⟩ (ax m2)):=Fr.set (S:=fun k=>k=q) _ _ _ fun _=>rfl;have F7:Ext h1 (setAt h6 ⟨q,4,none⟩ (ax m2)):=Fr.trans F5 w7 (fun _ _ h=>h) (fun k hk hS=>by omega);have o7:=o5.fr w7 (fun k hk hS=>by have:=hq k hk;omega);change(setAt h6 ⟨q,4,none⟩ (ax m2))[q]? =some (.cells #[bH _,str [], .int .u64 0,ax m,ax m2] 160 (0,0))at b7;generalize setAt h6 ⟨q,4,none⟩ (ax m2)=k7 at*;simp only[bD,ae,seval];have bm:=aS eA (aN (vs:=[bH _,str [], .int .u64 0,ax m,ax m2]) b7) rfl;simp only[ae,seval,bm];refine aU gh rfl rfl (by decide) ?_;simp only[ae,seval];refine bF (m:=1) gh rfl rfl (o7.push _) rfl (bV (vs:=[bH _,str [], .int .u64 0,ax m,ax m2])) (by simp[oneCell,str]) (by omega) (by omega) (by have:=F7.size;simp;omega) ?_;intro v6 h6 o6 f6 _;have b6:=ay f6 (dw b7) (fun hk=>by have:=hq _ hk;omega);have F6:Ext h1 h6:=Ext.app (F7.trans (Ext.push _ _)) f6 (fun k hk=>(o7.lt k hk).1);generalize SI:aX.mk _ [] 0 m m2=cc at eY;have o7:Own h6 h1.size 160 5 v6 (cs++[cc]).length (du (cs++[cc])):=dR o6 (by simp) (by subst SI;simp[du,aX.cells]);have c6:cellAt h6 ⟨q,0,none⟩=cellAt h5 ⟨q,0,none⟩:=by rw[c0,au b6];rfl
   rw[c0]at c6;have hX:=okX eY;rw[show kE cc.tag=false by subst SI;exact hs.2]at hX;simp only[awj,aw1]at hX;have j7:(cs++[cc]).length=cs.length+1:=by simp
   generalize cs++[cc]=Gy at*;obtain⟨a6,cc6,rfl,_⟩:=o7.dQ.2;simp only[bD,ae,seval,c6,Int.reduceEq,];exact⟨_,by omega,k,Gy,_,_,rfl,by omega,rfl,F6,o7,hX.symm,by omega,by omega⟩
 have sz:mI t= -1:=by simp only[not_or]at*;simp[*,mI]
 rw[sz]at eY⊢;simp only[Int.reduceNeg,Int.reduceLT,aw0]at eY;rw[M4 eY];simp only[bD,ae,seval,Int.reduceNeg,Int.reduceLT];exact⟨F3,mQ⟩
section
def iK(h:ar)(g:Nat)(l:az)(s:RS):Prop:=
 h[g]? =some (.cells #[str l,ao s.p,ao s.e,ao s.es] 170 (0,0))∧s.p≤l.length
section
variable{h:ar}{g:Nat}{l:az}{s:RS}
theorem iK.lt(H:iK h g l s):g<h.size:=(awd.1 H.1).1
theorem iK.c0(H:iK h g l s):cellAt h ⟨g,0,none⟩=some (str l):=by rw[au H.1];rfl
theorem iK.c1(H:iK h g l s):cellAt h ⟨g,1,none⟩=some (ao s.p):=by rw[au H.1];rfl
theorem iK.c2(H:iK h g l s):cellAt h ⟨g,2,none⟩=some (ao s.e):=by rw[au H.1];rfl
theorem iK.c3(H:iK h g l s):cellAt h ⟨g,3,none⟩=some (ao s.es):=by rw[au H.1];rfl
theorem iK.fr{S:Nat→Prop}{h':ar}(H:iK h g l s)(hf:Fr S h h')(hS:¬S g):iK h' g l s:=⟨by rw[hf.same g H.lt hS,H.1],H.2⟩
theorem jF(e q:Nat)(H:iK h g l s):aF Tryz.prog 91 #[aE g,ao e,ao q] h fun v h'=>Fr (fun k=>k=g) h h'∧iK h' g l (cg e q s):=by
 refine H9 (args:=[aE g,ao e,ao q]) rfl ?_;have c2:=H.c2;by_cases he:s.e=0
 ·have dH:(s.e:Int)=0:=by omega
  simp only[qB,ae,seval,c2,av8 dH];refine aC zF rfl rfl rfl rfl rfl (u:=ao s.e) c2 ?_ ?_
  ·simp[frozenAt,H.1]
  have b1:=bu (o:=2) H.1 (ao e);simp only[qB,ae,seval];have hc:cellAt (setAt h ⟨g,2,none⟩ (ao e)) ⟨g,3,none⟩=some (ao s.es):=by rw[au b1];rfl
  refine aC dI rfl rfl rfl rfl rfl (u:=ao s.es) hc ?_ ?_
  ·simp[frozenAt,b1]
  have b2:=bu (o:=3) b1 (ao q);simp only[ae,seval];refine⟨Fr.trans (Fr.set (S:=fun k=>k=g) _ _ _ fun _=>rfl) (Fr.set (S:=fun k=>k=g) _ _ _ fun _=>rfl) (fun _ _ h=>h) (fun _ _ h=>h),?_⟩;unfold cg;rw[awa he];exact⟨b2,H.2⟩
 ·have dH:¬(s.e:Int)=0:=by omega
  simp only[qB,ae,seval,c2,av7 dH];unfold cg;rw[av9 he];exact⟨Fr.refl _ _,H⟩
theorem sQ(n:Nat)(hl:l.length≤1073741824)(hn:n≤1099511627776)(H:iK h g l s):aF Tryz.prog 90 #[aE g,ao n] h fun v h'=>Fr (fun k=>k=g) h h'∧iK h' g l (cV l n s).2∧v=str (cV l n s).1:=by
 refine tA (args:=[aE g,ao n]) rfl ?_;have c0:=H.c0;have c1:=H.c1;have c2:=H.c2;have h2:=H.2;have n0:¬(n:Int)<0:=by omega
 by_cases he:s.e=0
 ·have dH:(s.e:Int)=0:=by omega
  by_cases aV:l.length<s.p+n
  ·have q:(l.length:Int)<(s.p:Int)+(n:Int):=by omega
   simp(disch:=omega)only[jI,ae,seval,c0,c1,c2,n0,av8 dH,q];refine aj rfl (jF 1 l.length H) ?_;intro v4 h4 jU;have f4:=jU.1;have r4:=jU.2;have nh:cg 1 l.length s=⟨s.p,1,l.length⟩:=by unfold cg;rw[awa he]
   rw[nh]at r4;have c24:cellAt h4 ⟨g,2,none⟩=some (ao 1):=r4.c2;have hT:cV l n s=([],⟨s.p,1,l.length⟩):=by unfold cV;rw[av9 (by simp[he]),awa aV]
   rw[hT];simp only[jI,ae,seval,c24,Int.reduceEq];exact⟨f4,r4⟩
  ·have q:¬(l.length:Int)<(s.p:Int)+(n:Int):=by omega
   have hT:cV l n s=((l.drop s.p).take n,⟨s.p+n,0,s.es⟩):=by unfold cV;rw[av9 (by simp[he]),av9 aV]
   rw[hT];have e1:((s.p:Int)+(n:Int)).toNat=s.p+n:=by omega
   simp(disch:=omega)only[jI,ae,seval,c0,c1,c2,n0,av8 dH,q];refine aC dI rfl rfl rfl rfl rfl (u:=ao s.p) c1 ?_ ?_
   ·simp[frozenAt,H.1]
   have b1:=bu (o:=1) H.1 (ao ((s.p:Int)+(n:Int)));simp only[jI,ae,seval,e1];refine⟨Fr.set (S:=fun k=>k=g) _ _ _ fun _=>rfl,⟨?_,by simp only;omega⟩,?_⟩
   ·rw[he]at b1;exact b1
   ·rw[List.drop_take,Nat.add_sub_cancel_left]
 ·have dH:¬(s.e:Int)=0:=by omega
  have hT:cV l n s=([],s):=by unfold cV;rw[awa he]
  rw[hT];simp only[jI,ae,seval,c2,av7 dH];exact⟨Fr.refl _ _,H⟩
theorem gM(n:Nat)(hl:l.length≤1073741824)(hn:n≤7)(H:iK h g l s):aF Tryz.prog 94 #[aE g,ao n] h fun v h'=>Fr (fun k=>k=g) h h'∧iK h' g l (aA l n s).2∧v=ao (aA l n s).1:=by
 refine Ki (args:=[aE g,ao n]) rfl ?_;simp only[NK,ae,seval];refine aj rfl (sQ n hl (by omega) H) ?_;rintro v1 h1⟨f1,r1,rfl⟩;simp only[ae,seval];refine dk ?_;simp only[ae,seval];have KM:(cV l n s).1.length≤n:=uZ;refine(mU (cV l n s).1 h1 (by omega)).mono ?_;rintro v2 h2⟨rfl,rfl⟩;have hb:(aA l n s).1<256^7:=awF dJ (Nat.pow_le_pow_right (by decide) hn);have hw:IntKind.i64.wrap (eh (cV l n s).1:Int)=(eh (cV l n s).1:Int):=wrap_i64 (by omega) (by
  have:(aA l n s).1=eh (cV l n s).1:=rfl;omega)
 simp only[ae,seval,hw];exact⟨f1,r1,rfl⟩
end
end
end Go.Proofs.YtmbboehmnfhjjaaGreatDoor
