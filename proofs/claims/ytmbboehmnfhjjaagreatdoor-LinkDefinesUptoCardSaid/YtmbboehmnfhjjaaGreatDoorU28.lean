/- The reader of classes: attributes, whatever looks at them. The reader of classes: fields. The reader of classes: code. The reader of classes: methods. -/
import Derived.Test.YtmbboehmnfhjjaaGreatDoorU25
import Derived.Test.YtmbboehmnfhjjaaGreatDoorU15
import Derived.Test.YtmbboehmnfhjjaaGreatDoorU11
import Derived.Test.YtmbboehmnfhjjaaGreatDoorU5
import Derived.Test.YtmbboehmnfhjjaaGreatDoorU9
import Derived.Test.YtmbboehmnfhjjaaGreatDoorU20
set_option maxRecDepth 100000
set_option maxHeartbeats 8000000
set_option linter.unusedSimpArgs false
set_option linter.unusedVariables false
set_option linter.defProp false
namespace Go.Proofs.YtmbboehmnfhjjaaGreatDoor
open Go.Vc
section
def RdC(h:ar)(g gr:Nat)(rc:List Value):Prop:=h[g]? =some (.cells (Value.pointer (some ⟨gr,0,none⟩)::rc).toArray 143 (0,0))
theorem RdC.k0{h:ar}{g gr:Nat}{rc:List Value}(D:RdC h g gr rc):cellAt h ⟨g,0,none⟩=some (aE gr):=by rw[au D];rfl
abbrev eW(gr:Nat)(h h':ar):Prop:=Fr (fun k=>k=gr) h h'
theorem eW.ext{gr:Nat}{h h':ar}(x:Ext h h'):eW gr h h':=Fr.trans x (Ext.refl _) (fun _ _ h=>h.elim) (fun _ _ h=>h.elim)
theorem eW.trans'{gr:Nat}{a b c:ar}(H:eW gr a b)(K:eW gr b c):eW gr a c:=Fr.trans H K (fun _ _ h=>h) (fun _ _ h=>h)
def TkP{σ:Type}(gr:Nat)(l:az)(I:σ→ar→Prop)(x:σ)(s:RS):Option (σ × RS)→Value→ar→Prop
 |none=>fun r h=>r= .bool false∧I x h∧eF h gr l s
 |some y=>fun r h=>r= .bool true∧I y.1 h∧eF h gr l y.2
section
variable{h:ar}{g gr:Nat}{rc:List Value}{l:az}{s:RS}
theorem OG(seen:Bool)(sb o q:Nat)(hr:RdC h g gr rc)(hs:cellAt h ⟨sb,o,none⟩=some (.bool seen))(hz:frozenAt h ⟨sb,o,none⟩=false)(cN:sb≠gr)(H:eF h gr l s):
 aF Tryz.prog 154 #[aE g, .pointer (some ⟨sb,o,none⟩),ao q] h fun _ h'=>∃h1,eW gr h h1∧eF h1 gr l (kR seen q s)∧h'=setAt h1 ⟨sb,o,none⟩ (.bool true)∧cellAt h1 ⟨sb,o,none⟩=some (.bool seen):=by
 refine LX (args:=[aE g, .pointer (some ⟨sb,o,none⟩),ao q]) rfl ?_;have k0:=hr.k0;cases seen with
 |false=>
  simp only[sY,ae,seval,hs];refine aC jf rfl rfl rfl rfl rfl hs hz ?_;simp only[ae,seval];exact⟨h,eW.ext (Ext.refl _),H,rfl,hs⟩
 |true=>
  simp only[sY,ae,seval,hs,k0];refine aj rfl (fA 11 q H) ?_;rintro _ h1⟨f1,r1⟩;have aV:=JJ hs;have hb:h1[sb]? =h[sb]? :=f1.same sb aV cN;have xW:cellAt h1 ⟨sb,o,none⟩=some (.bool true):=by rw[oT hb];exact hs
  have Sb:frozenAt h1 ⟨sb,o,none⟩=false:=by rw[P6 hb];exact hz
  simp only[sY,ae,seval];refine aC jf rfl rfl rfl rfl rfl xW Sb ?_;simp only[ae,seval];exact⟨h1,f1,r1,rfl,xW⟩
theorem pw{σ:Type}(p:List aX)(vp:Value)(take:Take σ)(F:Nat)(cap:Array Value)(I:σ→ar→Prop)(hl:l.length≤1073741824)(aqM:pU Tryz.prog F=true)
 (hrc:rc[5]? =some vp)(Ug:∀x h,I x h→RdC h g gr rc∧fR h 5 vp p.length (du p))(hI2:∀x h h',I x h→eW gr h h'→I x h')
 (hF:∀(h1:ar)(name:az)(q n:Nat)(x:σ)(s1:RS),I x h1→eF h1 gr l s1→s1.e=0→q≤l.length→n<4294967296→
  aF Tryz.prog F (str name::ao q::ao n::cap.toList).toArray h1 (TkP gr l I x s1 (take name q n x s1)))
 (x:σ)(hx:I x h)(H:eF h gr l s):
 aF Tryz.prog 80 #[aE g, .func (.func F) #[] cap] h fun _ h'=>I (eS p l take (aA l 2 s).1 x (aA l 2 s).2).1 h'∧eF h' gr l (eS p l take (aA l 2 s).1 x (aA l 2 s).2).2:=by
 refine zg (args:=[aE g, .func (.func F) #[] cap]) rfl ?_;have k0:=(Ug x h hx).1.k0;simp only[cO,ae,seval,k0];refine aj rfl (dU 2 hl (by omega) H) ?_;rintro _ h1⟨f1,r1,rfl⟩;have hk:= @dJ l 2 s;have hx1:=hI2 x h h1 hx f1;obtain⟨K,hK⟩:∃K,K=(aA l 2 s).1:=⟨_,rfl⟩;obtain⟨s0,Ws⟩:∃K,K=(aA l 2 s).2:=⟨_,rfl⟩;rw[←hK,←Ws];rw[←hK]at hk;rw[←Ws]at r1;obtain⟨R,hR⟩:∃R,R=eS p l take K x s0:=⟨_,rfl⟩;rw[←hR];simp only[ae,seval];refine aG [0,1,4] (fun m ρ hc=>∃(k:Nat)(y:σ)(t:RS),m=k∧k<65536∧ρ=[(0,aE g),(1, .func (.func F) #[] cap),(4,ao k)]∧I y hc∧eF hc gr l t∧eS p l take k y t=R) ?_ ?_
 ·simp only[ae,seval]
  exact⟨_,K,x,s0,rfl,by simpa using hk,rfl,hx1,r1,hR.symm⟩
 rintro m ρ hc⟨k,y,t,rfl,mY,rfl,hy,ht,hR⟩;rcases Nat.eq_zero_or_pos m with h0|pT
 ·subst h0
  simp only[cO,ae,seval,Int.ofNat_zero,Int.lt_irrefl];rw[←hR];exact⟨hy,ht⟩
 have jS:(0:Int)<(m:Int):=by omega
 have k0:=(Ug y hc hy).1.k0;simp only[cO,ae,seval,jS,k0];refine aj rfl (jB ht) ?_;rintro _ ha⟨rfl,rfl⟩;by_cases he:t.e=0
 case neg=>
  have dH:(decide (t.e≠0))=true:=by simp[he]
  rw[jD he]at hR;simp only[ae,seval,dH];rw[←hR];exact⟨hy,ht⟩
 have dH:(decide (t.e≠0))=false:=by simp[he]
 obtain⟨j,rfl⟩:∃j,m=j+1:=⟨m-1,by omega⟩;simp only[cO,ae,seval,dH,k0];refine aj rfl (xh ht) ?_;rintro _ hb⟨rfl,rfl⟩;simp only[cO,ae,seval,k0];refine aj rfl (ei hl ht) ?_;rintro _ h2⟨f2,r2,rfl⟩;have ahO:= @dJ l 2 t;simp only[Nat.reducePow]at ahO;have y2:=hI2 y _ h2 hy f2;have rD:=ht.2;have k6:∀h,I y h→cellAt h ⟨g,6,none⟩=some vp:=fun h hh=>by
  have:=(Ug y h hh).1;rw[au this];simpa using hrc
 have k02:=(Ug y h2 y2).1.k0;have k62:=k6 h2 y2;simp only[cO,ae,seval,k62];refine aj rfl (lC (aA l 2 t).1 1 ahO (Ug y h2 y2).2) ?_;rintro _ hd⟨rfl,rfl⟩;rw[eS,av9 (by simp[he])]at hR;obtain⟨s2,j8⟩:∃s2,s2=(if eV p (aA l 2 t).1 1=true then(aA l 2 t).2 else cg 7 t.p (aA l 2 t).2):=⟨_,rfl⟩;rw[←j8]at hR;refine Or.elim (Classical.em (eV p (aA l 2 t).1 1=true)) (fun DJ=>?caA) (fun DJ=>?cbA)
 case' caA=>
  rw[awa DJ]at j8;simp only[cO,ae,seval,DJ];obtain⟨h3,OH⟩:∃h3,h3=hd:=⟨_,rfl⟩;rw[←OH];have y3:I y h3:=by rw[OH];exact y2
  have r3:eF h3 gr l s2:=by rw[OH,j8];exact r2
 case' cbA=>
  rw[av9 DJ]at j8;have ahP:eV p (aA l 2 t).1 1=false:=by simpa using DJ
  simp only[cO,ae,seval,ahP,k02];refine aj rfl (fA 7 t.p r2) ?_;rintro _ h3⟨f3,r3⟩;have y3:=hI2 y _ h3 y2 f3;rw[←j8]at r3
 all_goals
  have k03:=(Ug y h3 y3).1.k0;simp only[cO,ae,seval,k03];refine aj rfl (dU 4 hl (by omega) r3) ?_;rintro _ h4⟨f4,r4,rfl⟩;have y4:=hI2 y _ h4 y3 f4;have hn4:= @dJ l 4 s2;simp only[Nat.reducePow]at hn4;generalize aA l 4 s2=b at*;have k04:=(Ug y h4 y4).1.k0;have k64:=k6 h4 y4;simp only[cO,ae,seval,k04];refine aj rfl (xh r4) ?_;rintro _ h5⟨rfl,rfl⟩;simp only[cO,ae,seval,k04];refine aj rfl (jB r4) ?_;rintro _ h6⟨rfl,rfl⟩;by_cases Zw:b.2.e=0
  case neg=>
   have SL:(decide (b.2.e≠0))=true:=by simp[Zw]
   rw[awa (by simpa using Zw)]at hR;simp only[ae,seval,SL];rw[←hR];exact⟨y4,r4⟩
  have SL:(decide (b.2.e≠0))=false:=by simp[Zw]
  rw[av9 (by simp[Zw])]at hR;simp only[cO,ae,seval,SL,k64];refine aj rfl (FP (aA l 2 t).1 ahO (Ug y _ y4).2) ?_;rintro _ h7⟨rfl,rfl⟩;change(match take (ky p (aA l 2 t).1) t.p b.1 y b.2 with|none=>_|some y=>_)=R at hR;have aqO:(if eV p (aA l 2 t).1 1=true then(p.getD (aA l 2 t).1 aX.zero).text else [])=ky p (aA l 2 t).1:=rfl;rw[aqO];have WZ:=hF h7 (ky p (aA l 2 t).1) t.p b.1 y b.2 y4 r4 Zw rD hn4;simp only[ae,seval];refine dk ?_;simp only[ae,seval];refine⟨aqM,?_⟩;cases hT:take (ky p (aA l 2 t).1) t.p b.1 y b.2 with
  |none=>
   simp only[hT,TkP]at WZ hR;refine WZ.mono ?_;rintro _ h8⟨rfl,y8,r8⟩;have k08:=(Ug y h8 y8).1.k0;simp only[cO,ae,seval,k08];refine aj rfl (zO b.1 hl (by omega) r8) ?_;rintro _ h9⟨f9,r9,_⟩;have y9:=hI2 y _ h9 y8 f9;have hw:IntKind.i64.wrap (((j+1:Nat):Int)-1)=(j:Int):=by rw[wrap_i64 (by omega) (by omega)];omega
   simp only[cO,ae,seval,hw];exact⟨_,by omega,j,y,_,rfl,by omega,rfl,y9,r9,hR⟩
  |some z=>
   obtain⟨z,u⟩:=z;simp only[hT,TkP]at WZ hR;refine WZ.mono ?_;rintro _ h8⟨rfl,y8,r8⟩;have k08:=(Ug z h8 y8).1.k0;simp only[cO,ae,seval,k08];refine aj rfl (xh r8) ?_;rintro _ h9⟨rfl,rfl⟩;have q1:=r8.2;have q2:=r4.2;have hw0:IntKind.i64.wrap ((u.p:Int)-(b.2.p:Int))=(u.p:Int)-(b.2.p:Int):=wrap_i64 (by omega) (by omega);have hw:IntKind.i64.wrap (((j+1:Nat):Int)-1)=(j:Int):=by rw[wrap_i64 (by omega) (by omega)];omega
   by_cases hp:u.p=b.2.p+b.1
   ·rw[awa hp]at hR
    have hp':(u.p:Int)-(b.2.p:Int)=(b.1:Int):=by omega
    simp only[cO,ae,seval,hw0,av8 hp',hw];exact⟨_,by omega,j,z,_,rfl,by omega,rfl,y8,r8,hR⟩
   ·rw[av9 hp]at hR
    have hp':¬(u.p:Int)-(b.2.p:Int)=(b.1:Int):=by omega
    simp only[cO,ae,seval,hw0,av7 hp',k08];refine aj rfl (fA 12 t.p r8) ?_;rintro _ d9⟨f10,r10⟩;have y10:=hI2 z _ d9 y8 f10;simp only[cO,ae,seval,hw];exact⟨_,by omega,j,z,_,rfl,by omega,rfl,y10,r10,hR⟩
end
end
section
structure CR(h:ar)(g gr:Nat)(rc:List Value)(p:List aX)(vp:Value):Prop where
 rd:RdC h g gr rc
 pl:fR h 5 vp p.length (du p)
 v5:rc[5]? =some vp
 nb:¬vp.ownBlock=some gr
 ne:g≠gr
theorem CR.fr{S:Nat→Prop}{h h':ar}{g gr:Nat}{rc:List Value}{p:List aX}{vp:Value}(D:CR h g gr rc p vp)(f:Fr S h h')(h1:¬S g)(h2:∀k,k<h.size→vp.ownBlock=some k→¬S k):CR h' g gr rc p vp:=
 ⟨ay f D.rd h1,D.pl.fr (by decide) f h2,D.v5,D.nb,D.ne⟩
theorem CR.cY{h h':ar}{g gr:Nat}{rc:List Value}{p:List aX}{vp:Value}(D:CR h g gr rc p vp)(f:eW gr h h'):CR h' g gr rc p vp:=
 D.fr f D.ne (fun k _ hk hS=>D.nb (by rw[hk,hS]))
structure FT(h:ar)(g gr:Nat)(rc:List Value)(p:List aX)(vp:Value)(rb eX:Nat)(t:TypeId)(zs:Array Value)(hx:ar):Prop where
 cr:CR hx g gr rc p vp
 br:hx[rb]? =some (.cells #[aE g] 139 (0,0))
 b2:hx[eX]? =some (.cells zs t (0,0))
 fr:eW gr h hx
 n1:rb≠gr
 n2:eX≠gr
theorem FT.cY{h hx hy:ar}{g gr:Nat}{rc:List Value}{p:List aX}{vp:Value}{rb eX:Nat}{t:TypeId}{zs:Array Value}(D:FT h g gr rc p vp rb eX t zs hx)(f:eW gr hx hy):FT h g gr rc p vp rb eX t zs hy:=
 ⟨D.cr.cY f,ay f D.br D.n1,ay f D.b2 D.n2,D.fr.trans' f,D.n1,D.n2⟩
theorem FT.kr{h hx:ar}{g gr:Nat}{rc:List Value}{p:List aX}{vp:Value}{rb eX:Nat}{t:TypeId}{zs:Array Value}(D:FT h g gr rc p vp rb eX t zs hx):cellAt hx ⟨rb,0,none⟩=some (aE g):=by rw[au D.br];rfl
theorem eW.new{h h1 h2:ar}{gr b:Nat}(H:eW gr h h1)(K:Fr (fun k=>k=b) h1 h2)(hb:h.size≤b):eW gr h h2:=Fr.trans H K (fun _ _ h=>h) (fun k hk hS=>by omega)
section
variable{h h1:ar}{g gr rb fb sb eX:Nat}{rc:List Value}{p:List aX}{vp:Value}{l:az}{s:RS}
structure FI(h:ar)(g gr:Nat)(rc:List Value)(p:List aX)(vp:Value)(rb fb sb eX f1 f2 f3:Nat)(x:Bool × Nat)(h1:ar):Prop where
 cr:CR h1 g gr rc p vp
 br:h1[rb]? =some (.cells #[aE g] 139 (0,0))
 bf:h1[fb]? =some (.cells (fC.cells ⟨f1,f2,f3,x.2⟩).toArray 103 (0,0))
 bs:h1[sb]? =some (.cells #[.bool x.1] 4 (0,0))
 fr:eW gr h h1
 o0:g<rb∧gr<rb
 o1:h.size≤rb
 o2:rb<fb
 o3:fb<sb
 o4:rb<eX∧eX<fb
 b2:h1[eX]? =some (.cells #[ax 0,ax 0,ax 0,ax 0] 103 (0,0))
theorem FI.cY{f1 f2 f3:Nat}{x:Bool × Nat}{h2:ar}(D:FI h g gr rc p vp rb fb sb eX f1 f2 f3 x h1)(f:eW gr h1 h2):FI h g gr rc p vp rb fb sb eX f1 f2 f3 x h2:=by
 have o0:=D.o0;have o2:=D.o2;have o3:=D.o3;have o4:=D.o4;exact⟨D.cr.cY f,ay f D.br (by omega),ay f D.bf (by omega),ay f D.bs (by omega),D.fr.trans' f,D.o0,D.o1,D.o2,D.o3,D.o4,ay f D.b2 (by omega)⟩
theorem CR.old{b:Nat}{h2:ar}(D:CR h1 g gr rc p vp)(D0:CR h g gr rc p vp)(f:Fr (fun k=>k=b) h1 h2)(x:eW gr h h1)(hg:g<h.size)(hb:h.size≤b):CR h2 g gr rc p vp:=
 ⟨ay f D.rd (by omega),D0.pl.fr (by decide) (x.new f hb) (fun k _ hk hS=>D0.nb (by rw[hk,hS])),D.v5,D.nb,D.ne⟩
theorem Zx{f1 f2 f3:Nat}(hl:l.length≤1073741824)(hg:g<h.size)(D0:CR h g gr rc p vp)(name:az)(q n:Nat)(x:Bool × Nat)(D:FI h g gr rc p vp rb fb sb eX f1 f2 f3 x h1)(H:eF h1 gr l s):
 aF Tryz.prog 153 #[str name,ao q,ao n,aE rb,aE sb,aE fb] h1 (TkP gr l (FI h g gr rc p vp rb fb sb eX f1 f2 f3) x s (sP l name q n x s)):=by
 refine EW (args:=[str name,ao q,ao n,aE rb,aE sb,aE fb]) rfl ?_;have o0:=D.o0;have o1:=D.o1;have o2:=D.o2;have o3:=D.o3;have o4:=D.o4;by_cases hn:name=cvN
 case neg=>
  have sR:¬name=[67,111,110,115,116,97,110,116,86,97,108,117,101]:=hn;have hT:sP l name q n x s=none:=by unfold sP;rw[av9 hn]
  rw[hT];simp only[mE,ae,seval,av7 sR];exact⟨rfl,D,H⟩
 have sR:name=[67,111,110,115,116,97,110,116,86,97,108,117,101]:=hn;have hT:sP l name q n x s=some ((true,(aA l 2 (kR x.1 q s)).1),(aA l 2 (kR x.1 q s)).2):=by unfold sP;rw[awa hn]
 rw[hT];have kr:cellAt h1 ⟨rb,0,none⟩=some (aE g):=by rw[au D.br];rfl
 have ks:cellAt h1 ⟨sb,0,none⟩=some (.bool x.1):=by rw[au D.bs];rfl
 have kz:frozenAt h1 ⟨sb,0,none⟩=false:=by simp[frozenAt,D.bs]
 simp only[mE,ae,seval,av8 sR,kr];refine aj rfl (OG x.1 sb 0 q D.cr.rd ks kz (by omega) H) ?_;rintro _ _⟨h2,f2,r2,rfl,c2⟩;have D2:=D.cY f2;have f3:Fr (fun k=>k=sb) h2 (setAt h2 ⟨sb,0,none⟩ (.bool true)):=Fr.set (S:=fun k=>k=sb) _ _ _ fun _=>rfl;have b3:=bu (o:=0) D2.bs (.bool true);have D3:FI h g gr rc p vp rb fb sb eX f1 _ _ (true,x.2) (setAt h2 ⟨sb,0,none⟩ (.bool true)):=
  ⟨D2.cr.old D0 f3 D2.fr hg (by omega),ay f3 D2.br (by omega),ay f3 D2.bf (by omega),by rw[b3];simp,D2.fr.new f3 (by omega),D2.o0,D2.o1,D2.o2,D2.o3,D2.o4,ay f3 D2.b2 (by omega)⟩
 have r3:eF (setAt h2 ⟨sb,0,none⟩ (.bool true)) gr l _:=r2.fr f3 (by omega);generalize setAt h2 ⟨sb,0,none⟩ (.bool true)=h3 at*;have kr:cellAt h3 ⟨rb,0,none⟩=some (aE g):=by rw[au D3.br];rfl
 have k0:=D3.cr.rd.k0;simp only[mE,ae,seval,kr,k0];refine aj rfl (ei hl r3) ?_;rintro _ h4⟨f4,r4,rfl⟩;have D4:=D3.cY f4;have k3:cellAt h4 ⟨fb,3,none⟩=some (ax x.2):=by rw[au D4.bf];rfl
 have kz:frozenAt h4 ⟨fb,3,none⟩=false:=by simp[frozenAt,D4.bf]
 simp only[ae,seval];refine aC eN rfl rfl rfl rfl rfl k3 kz ?_;generalize aA l 2 (kR x.1 q s)=v at*;have f5:Fr (fun k=>k=fb) h4 (setAt h4 ⟨fb,3,none⟩ (ax v.1)):=Fr.set (S:=fun k=>k=fb) _ _ _ fun _=>rfl;have b5:=bu (o:=3) D4.bf (ax v.1);simp only[mE,ae,seval];exact⟨rfl,⟨D4.cr.old D0 f5 D4.fr hg (by omega),ay f5 D4.br (by omega),by rw[b5];simp[fC.cells],ay f5 D4.bs (by omega),D4.fr.new f5 (by omega),D4.o0,D4.o1,D4.o2,D4.o3,D4.o4,ay f5 D4.b2 (by omega)⟩,r4.fr f5 (by omega)⟩
theorem ahQ(hl:l.length≤1073741824)(D0:CR h g gr rc p vp)(H:eF h gr l s):
 aF Tryz.prog 78 #[aE g] h fun r h'=>eW gr h h'∧eF h' gr l (d7 p l s).2∧r= .agg (d7 p l s).1.cells.toArray:=by
 refine Kj (args:=[aE g]) rfl ?_;have hgr:=H.lt;have hg:g<h.size:=(awd.1 D0.rd).1;simp only[lY,ae,seval];refine cT ?_;have e1:Ext h (h.push (.cells #[aE g] 139)):=Ext.push _ _;have b1:(h.push (.cells #[aE g] 139))[h.size]? =some (.cells #[aE g] 139 (0,0)):=by simp
 have s1:(h.push (.cells #[aE g] 139)).size=h.size+1:=by simp
 simp only[ae,seval];generalize h.push _=h1 at*;obtain⟨rb,uC⟩:∃x,x=h.size:=⟨_,rfl⟩;rw[←uC]at b1⊢;refine aD eG ?_;have e2:Ext h1 (h1.push (.cells #[ax 0,ax 0,ax 0,ax 0] 103)):=Ext.push _ _;have b2:(h1.push (.cells #[ax 0,ax 0,ax 0,ax 0] 103))[h1.size]? =some (.cells #[ax 0,ax 0,ax 0,ax 0] 103 (0,0)):=by simp
 have Uh:=ay e2 b1 id;have s2:(h1.push (.cells #[ax 0,ax 0,ax 0,ax 0] 103)).size=h1.size+1:=by simp
 obtain⟨eX,PI⟩:∃x,x=h1.size:=⟨_,rfl⟩;rw[←PI]at b2;have X:eW gr h (h1.push (.cells #[ax 0,ax 0,ax 0,ax 0] 103)):=eW.ext (e1.trans e2);have pR:∀(h3:ar)(fb f1 f2 f3:Nat)(t:RS),CR h3 g gr rc p vp→h3[rb]? =some (.cells #[aE g] 139 (0,0))→h3[eX]? =some (.cells #[ax 0,ax 0,ax 0,ax 0] 103 (0,0))→
  h3[fb]? =some (.cells (fC.cells ⟨f1,f2,f3,0⟩).toArray 103 (0,0))→eW gr h h3→eX<fb→eF h3 gr l t→d7 p l s=((⟨f1,f2,f3,(eS p l (sP l) (aA l 2 t).1 (false,0) (aA l 2 t).2).1.2⟩:fC),(eS p l (sP l) (aA l 2 t).1 (false,0) (aA l 2 t).2).2)→
  Cd.vc Tryz.prog Qk (gP Tryz.prog [(2,some 103)] fun r h'=>eW gr h h'∧eF h' gr l (d7 p l s).2∧r= .agg (d7 p l s).1.cells.toArray) [(0,aE g),(1,aE rb),(2,aE eX),(3,aE fb),(4,undef)] h3:=by
  intro h3 fb f1 f2 f3 t D3 br3 b23 bf3 x3 aV r3 hR;rw[Kk,hR];have M5:=(awd.1 bf3).1;simp only[lY,ae,seval];refine aD jf ?_;simp only[ae,seval];refine aI jf rfl rfl rfl (by simp[Value.cells,oneCell]) rfl ?_;intro h4 x4 zY avh b4;change h4[h3.size]? =some (.cells #[.bool false] 4 (0,0))at b4;have I0:FI h g gr rc p vp rb fb h3.size eX f1 f2 f3 (false,0) h4:=⟨D3.cY (eW.ext x4),ay x4 br3 id,ay x4 bf3 id,b4,x3.trans' (eW.ext x4),⟨by omega,by omega⟩,by omega,by omega,M5,⟨by omega,aV⟩,ay x4 b23 id⟩;have r4:=r3.fr x4 id;have kr:cellAt h4 ⟨rb,0,none⟩=some (aE g):=by rw[au I0.br];rfl
  simp only[lY,ae,seval,kr];refine dk ?_;simp only[ae,seval];refine(pw p vp (sP l) 153 #[aE rb,aE h3.size,aE fb]
   (fun x hh=>FI h g gr rc p vp rb fb h3.size eX f1 f2 f3 x hh) hl (by decide+kernel) D0.v5 (fun x hh hx=>⟨hx.cr.rd,hx.cr.pl⟩) (fun x hh hh' hx f=>hx.cY f) ?_ (false,0) I0 r4).mono ?_
  ·intro hh name q n x s1 hx hr he hq hn
   exact Zx hl hg D0 name q n x hx hr
  rintro _ h5⟨I5,r5⟩;generalize eS p l (sP l) (aA l 2 t).1 (false,0) (aA l 2 t).2=R at*;have bm:=aS lN (aN (vs:=fC.cells ⟨f1,f2,f3,R.1.2⟩) I5.bf) rfl;simp only[fC.cells]at bm;simp only[lY,ae,seval,bm];refine dD eG rfl rfl rfl (by simp[Value.cells,oneCell]) I5.b2 (by decide) (fun j _ _=>by simp) ?_;intro h6 f6 b6;have di:Rd h6 eX 0 (fC.cells ⟨f1,f2,f3,R.1.2⟩):=aN (by simpa[Value.cells,fC.cells]using b6);have GA:=aS lN di rfl;simp only[fC.cells]at GA;simp only[ae,seval,GA];exact⟨I5.fr.new f6 (by omega),r5.fr f6 (by omega),rfl⟩
 have r2:=H.fr (e1.trans e2) id;have c2:=D0.cY X;generalize h1.push _=h2 at*;rw[←PI];have ji:eX<h2.size:=by omega
 have kr:cellAt h2 ⟨rb,0,none⟩=some (aE g):=by rw[au Uh];rfl
 have k0:=c2.rd.k0;simp only[lY,ae,seval,kr,k0];have D2:FT h g gr rc p vp rb eX 103 #[ax 0,ax 0,ax 0,ax 0] h2:=⟨c2,Uh,b2,X,by omega,by omega⟩;refine⟨?_,?_⟩
 ·refine aj rfl (ei hl r2) ?_
  rintro _ y1⟨f1,r1,rfl⟩;have D1:=D2.cY f1;have kr:=D1.kr;have k0:=D1.cr.rd.k0;simp only[ae,seval,kr,k0];refine⟨?_,?_⟩
  ·refine aj rfl (ei hl r1) ?_
   rintro _ y2⟨f2,r2,rfl⟩;have D2:=D1.cY f2;have kr:=D2.kr;have k0:=D2.cr.rd.k0;simp only[ae,seval,kr,k0];refine⟨?_,?_⟩
   ·refine aj rfl (ei hl r2) ?_
    rintro _ y3⟨f3,r3,rfl⟩;have D3:=D2.cY f3;have kr:=D3.kr;have k0:=D3.cr.rd.k0;simp only[ae,seval,];refine aD eG ?_;have ex:Ext y3 (y3.push (.cells #[ax 0,ax 0,ax 0,ax 0] 103)):=Ext.push _ _;have ba:(y3.push (.cells #[ax 0,ax 0,ax 0,ax 0] 103))[y3.size]? =some (.cells #[ax 0,ax 0,ax 0,ax 0] 103 (0,0)):=by simp
    have Dx:=D3.cY (eW.ext ex);have rx:=r3.fr ex id;have nT:eX<y3.size:=(awd.1 D3.b2).1;have Ui:h.size≤y3.size:=D3.fr.size;generalize y3.push _=ha,y3.size=fb at*;have kr:=Dx.kr;have k0:=Dx.cr.rd.k0;simp only[ae,seval,kr,k0];refine dD eG rfl rfl rfl (by simp[Value.cells,oneCell]) ba (by decide) (fun j _ _=>by simp) ?_;intro yz fz bz;have dz:CR yz g gr rc p vp:=Dx.cr.old D0 fz Dx.fr hg (by omega);simp only[ae,seval];exact pR yz fb _ _ _ _ dz (ay fz Dx.br (by omega)) (ay fz Dx.b2 (by omega)) (by simpa[Value.cells,fC.cells]using bz) (Dx.fr.new fz (by omega)) (by omega) (rx.fr fz (by omega)) rfl
   ·refine aD eG ?_
    have ex:Ext y2 (y2.push (.cells #[ax 0,ax 0,ax 0,ax 0] 103)):=Ext.push _ _;have ba:(y2.push (.cells #[ax 0,ax 0,ax 0,ax 0] 103))[y2.size]? =some (.cells #[ax 0,ax 0,ax 0,ax 0] 103 (0,0)):=by simp
    have Dx:=D2.cY (eW.ext ex);have rx:=r2.fr ex id;have nT:eX<y2.size:=(awd.1 D2.b2).1;have Ui:h.size≤y2.size:=D2.fr.size;generalize y2.push _=ha,y2.size=fb at*;have vX:fb≠gr:=by omega
    have kr:=Dx.kr;have k0:=Dx.cr.rd.k0;simp only[ae,seval,kr,k0];refine aj rfl (ei hl rx) ?_;rintro _ y4⟨f4,r4,rfl⟩;have D4:=Dx.cY f4;have b4':=ay f4 ba vX;simp only[ae,seval,];refine dD eG rfl rfl rfl (by simp[Value.cells,oneCell]) b4' (by decide) (fun j _ _=>by simp) ?_;intro yz fz bz;have dz:CR yz g gr rc p vp:=D4.cr.old D0 fz D4.fr hg (by omega);simp only[ae,seval];exact pR yz fb _ _ _ _ dz (ay fz D4.br (by omega)) (ay fz D4.b2 (by omega)) (by simpa[Value.cells,fC.cells]using bz) (D4.fr.new fz (by omega)) (by omega) (r4.fr fz (by omega)) rfl
  ·refine aD eG ?_
   have ex:Ext y1 (y1.push (.cells #[ax 0,ax 0,ax 0,ax 0] 103)):=Ext.push _ _;have ba:(y1.push (.cells #[ax 0,ax 0,ax 0,ax 0] 103))[y1.size]? =some (.cells #[ax 0,ax 0,ax 0,ax 0] 103 (0,0)):=by simp
   have Dx:=D1.cY (eW.ext ex);have rx:=r1.fr ex id;have nT:eX<y1.size:=(awd.1 D1.b2).1;have Ui:h.size≤y1.size:=D1.fr.size;generalize y1.push _=ha,y1.size=fb at*;have vX:fb≠gr:=by omega
   have kr:=Dx.kr;have k0:=Dx.cr.rd.k0;simp only[ae,seval,kr,k0];refine aj rfl (ei hl rx) ?_;rintro _ y5⟨f5,r5,rfl⟩;have D5:=Dx.cY f5;have b5':=ay f5 ba vX;have kr:=D5.kr;have k0:=D5.cr.rd.k0;simp only[ae,seval,kr,k0];refine aj rfl (ei hl r5) ?_;rintro _ y6⟨f6,r6,rfl⟩;have D6:=D5.cY f6;have b6':=ay f6 b5' vX;simp only[ae,seval,];refine dD eG rfl rfl rfl (by simp[Value.cells,oneCell]) b6' (by decide) (fun j _ _=>by simp) ?_;intro yz fz bz;have dz:CR yz g gr rc p vp:=D6.cr.old D0 fz D6.fr hg (by omega);simp only[ae,seval];exact pR yz fb _ _ _ _ dz (ay fz D6.br (by omega)) (ay fz D6.b2 (by omega)) (by simpa[Value.cells,fC.cells]using bz) (D6.fr.new fz (by omega)) (by omega) (r6.fr fz (by omega)) rfl
 ·refine aD eG ?_
  have ex:Ext h2 (h2.push (.cells #[ax 0,ax 0,ax 0,ax 0] 103)):=Ext.push _ _;have ba:(h2.push (.cells #[ax 0,ax 0,ax 0,ax 0] 103))[h2.size]? =some (.cells #[ax 0,ax 0,ax 0,ax 0] 103 (0,0)):=by simp
  have Dx:=D2.cY (eW.ext ex);have rx:=r2.fr ex id;have nT:eX<h2.size:=(awd.1 D2.b2).1;have Ui:h.size≤h2.size:=D2.fr.size;generalize h2.push _=ha,h2.size=fb at*;have vX:fb≠gr:=by omega
  have kr:=Dx.kr;have k0:=Dx.cr.rd.k0;simp only[ae,seval,kr,k0];refine aj rfl (ei hl rx) ?_;rintro _ y7⟨f7,r7,rfl⟩;have D7:=Dx.cY f7;have b7':=ay f7 ba vX;have kr:=D7.kr;have k0:=D7.cr.rd.k0;simp only[ae,seval,kr,k0];refine aj rfl (ei hl r7) ?_;rintro _ y8⟨f8,r8,rfl⟩;have D8:=D7.cY f8;have b8':=ay f8 b7' vX;have kr:=D8.kr;have k0:=D8.cr.rd.k0;simp only[ae,seval,kr,k0];refine aj rfl (ei hl r8) ?_;rintro _ y9⟨f9,r9,rfl⟩;have D9:=D8.cY f9;have b9':=ay f9 b8' vX;simp only[ae,seval,];refine dD eG rfl rfl rfl (by simp[Value.cells,oneCell]) b9' (by decide) (fun j _ _=>by simp) ?_;intro yz fz bz;have dz:CR yz g gr rc p vp:=D9.cr.old D0 fz D9.fr hg (by omega);simp only[ae,seval];exact pR yz fb _ _ _ _ dz (ay fz D9.br (by omega)) (ay fz D9.b2 (by omega)) (by simpa[Value.cells,fC.cells]using bz) (D9.fr.new fz (by omega)) (by omega) (r9.fr fz (by omega)) rfl
end
end
section
structure CC(h:ar)(g gr:Nat)(rc:List Value)(p:List aX)(vp:Value)(rb eX fb:Nat)(c:vu)(vH:Value)(hx:ar):Prop where
 t:FT h g gr rc p vp rb eX 88 #[ao 0,ao 0,str [],nS,str []] hx
 bf:hx[fb]? =some (.cells (fX c vH).toArray 88 (0,0))
 own:Own hx h.size 226 4 vH c.hs.length (gZ c.hs)
 o1:h.size≤rb
 o2:rb<eX∧eX<fb
 o3:g<h.size∧gr<h.size
section
variable{h hx hy:ar}{g gr rb fb eX sb:Nat}{rc:List Value}{p:List aX}{vp:Value}{l:az}{s:RS}{c:vu}{vH:Value}
theorem CC.cY(D:CC h g gr rc p vp rb eX fb c vH hx)(f:eW gr hx hy):CC h g gr rc p vp rb eX fb c vH hy:=by
 have o1:=D.o1;have o2:=D.o2;have o3:=D.o3;exact⟨D.t.cY f,ay f D.bf (by omega),D.own.fr f (fun k hk hS=>by have:=(D.own.lt k hk).1;omega),D.o1,D.o2,D.o3⟩
theorem CC.out(D:CC h g gr rc p vp rb eX fb c vH hx)(D0:CR h g gr rc p vp){b:Nat}(f:Fr (fun k=>k=b) hx hy)(hb:h.size≤b)(h1:b≠rb)(h2:b≠eX)(h3:b≠fb)(hw:¬vH.ownBlock=some b):CC h g gr rc p vp rb eX fb c vH hy:=by
 have o3:=D.o3;exact⟨⟨D.t.cr.old D0 f D.t.fr o3.1 hb,ay f D.t.br (Ne.symm h1),ay f D.t.b2 (Ne.symm h2),D.t.fr.new f hb,D.t.n1,D.t.n2⟩,ay f D.bf (Ne.symm h3),D.own.fr f (fun k hk hS=>hw (by rw[hk,hS])),D.o1,D.o2,D.o3⟩
theorem CC.set(D:CC h g gr rc p vp rb eX fb c vH hx)(D0:CR h g gr rc p vp){c':vu}{w:Value}(f:Fr (fun k=>k=fb) hx hy)(hb:hy[fb]? =some (.cells (fX c' w).toArray 88 (0,0)))(ho:Own hx h.size 226 4 w c'.hs.length (gZ c'.hs)):CC h g gr rc p vp rb eX fb c' w hy:=by
 have o1:=D.o1;have o2:=D.o2;have o3:=D.o3;exact⟨⟨D.t.cr.old D0 f D.t.fr o3.1 (by omega),ay f D.t.br (by omega),ay f D.t.b2 (by omega),D.t.fr.new f (by omega),D.t.n1,D.t.n2⟩,hb,ho.fr f (fun k hk hS=>by
  subst hS;exact bK ho D.bf (by decide) hk),D.o1,D.o2,D.o3⟩
structure CI(h:ar)(g gr:Nat)(rc:List Value)(p:List aX)(vp:Value)(rb eX fb sb:Nat)(c:vu)(vH:Value)(x:Bool × az)(hx:ar):Prop where
 c:CC h g gr rc p vp rb eX fb ⟨c.maxS,c.fF,c.bytes,c.hs,x.2⟩ vH hx
 bs:hx[sb]? =some (.cells #[.bool x.1] 4 (0,0))
 o:fb<sb
theorem CI.cY{x:Bool × az}(D:CI h g gr rc p vp rb eX fb sb c vH x hx)(f:eW gr hx hy):CI h g gr rc p vp rb eX fb sb c vH x hy:=by
 have o1:=D.c.o1;have o2:=D.c.o2;have o3:=D.c.o3;have o:=D.o;exact⟨D.c.cY f,ay f D.bs (by omega),o⟩
theorem abY(hl:l.length≤1073741824)(D0:CR h g gr rc p vp)(name:az)(q n:Nat)(hn:n<4294967296)(x:Bool × az)(D:CI h g gr rc p vp rb eX fb sb c vH x hx)(H:eF hx gr l s):
 aF Tryz.prog 245 #[str name,ao q,ao n,aE rb,aE sb,aE fb] hx (TkP gr l (CI h g gr rc p vp rb eX fb sb c vH) x s (IQ l name q n x s)):=by
 refine Ie (args:=[str name,ao q,ao n,aE rb,aE sb,aE fb]) rfl ?_;have o1:=D.c.o1;have o2:=D.c.o2;have o3:=D.c.o3;have o:=D.o;by_cases kQ:name=smN
 case neg=>
  have sR:¬name=[83,116,97,99,107,77,97,112,84,97,98,108,101]:=kQ;have hT:IQ l name q n x s=none:=by unfold IQ;rw[av9 kQ]
  rw[hT];simp only[nB,ae,seval,av7 sR];exact⟨rfl,D,H⟩
 have sR:name=[83,116,97,99,107,77,97,112,84,97,98,108,101]:=kQ;have hT:IQ l name q n x s=some ((true,(cV l n (kR x.1 q s)).1),(cV l n (kR x.1 q s)).2):=by unfold IQ;rw[awa kQ]
 rw[hT];have kr:=D.c.t.kr;have ks:cellAt hx ⟨sb,0,none⟩=some (.bool x.1):=by rw[au D.bs];rfl
 have kz:frozenAt hx ⟨sb,0,none⟩=false:=by simp[frozenAt,D.bs]
 simp only[nB,ae,seval,av8 sR,kr];refine aj rfl (OG x.1 sb 0 q D.c.t.cr.rd ks kz (by omega) H) ?_;rintro _ _⟨h2,f2,r2,rfl,c2⟩;have D2:=D.cY f2;have f3:Fr (fun k=>k=sb) h2 (setAt h2 ⟨sb,0,none⟩ (.bool true)):=Fr.set (S:=fun k=>k=sb) _ _ _ fun _=>rfl;have b3:=bu (o:=0) D2.bs (.bool true);have D3:CI h g gr rc p vp rb eX fb sb c vH (true,x.2) (setAt h2 ⟨sb,0,none⟩ (.bool true)):=
  ⟨D2.c.out D0 f3 (by omega) (by omega) (by omega) (by omega) (bK D2.c.own D2.bs (by decide)),by rw[b3];simp,o⟩
 have r3:eF (setAt h2 ⟨sb,0,none⟩ (.bool true)) gr l _:=r2.fr f3 (by omega);generalize setAt h2 ⟨sb,0,none⟩ (.bool true)=h3 at*;have kr:=D3.c.t.kr;have k0:=D3.c.t.cr.rd.k0;simp only[nB,ae,seval,kr,k0];refine aj rfl (zO n hl (by omega) r3) ?_;rintro _ h4⟨f4,r4,rfl⟩;have D4:=D3.cY f4;have k4:cellAt h4 ⟨fb,4,none⟩=some (str x.2):=by rw[au D4.c.bf];rfl
 have kz:frozenAt h4 ⟨fb,4,none⟩=false:=by simp[frozenAt,D4.c.bf]
 simp only[ae,seval];refine aC nM rfl rfl rfl rfl rfl k4 kz ?_;generalize cV l n (kR x.1 q s)=v at*;have f5:Fr (fun k=>k=fb) h4 (setAt h4 ⟨fb,4,none⟩ (str v.1)):=Fr.set (S:=fun k=>k=fb) _ _ _ fun _=>rfl;have b5:=bu (o:=4) D4.c.bf (str v.1);simp only[nB,ae,seval];exact⟨rfl,⟨D4.c.set D0 (c':=⟨c.maxS,c.fF,c.bytes,c.hs,v.1⟩) f5 (by rw[b5];simp[fX]) D4.c.own,ay f5 D4.bs (by omega),o⟩,r4.fr f5 (by omega)⟩
theorem aeD(hl:l.length≤1073741824)(D0:CR h g gr rc p vp)(H:eF h gr l s):
 aF Tryz.prog 156 #[aE g] h fun r h'=>eW gr h h'∧eF h' gr l (iO p l s).2∧∃vH,r= .agg (fX (iO p l s).1 vH).toArray∧Own h' h.size 226 4 vH (iO p l s).1.hs.length (gZ (iO p l s).1.hs):=by
 refine LY (args:=[aE g]) rfl ?_;have hgr:=H.lt;have hg:g<h.size:=(awd.1 D0.rd).1;simp only[fH,ae,seval];refine cT ?_;have e1:Ext h (h.push (.cells #[aE g] 139)):=Ext.push _ _;have b1:(h.push (.cells #[aE g] 139))[h.size]? =some (.cells #[aE g] 139 (0,0)):=by simp
 have s1:(h.push (.cells #[aE g] 139)).size=h.size+1:=by simp
 simp only[ae,seval];generalize h.push _=h1 at*;obtain⟨rb,uC⟩:∃x,x=h.size:=⟨_,rfl⟩;rw[←uC]at b1⊢;refine aD iX ?_;have e2:Ext h1 (h1.push (.cells #[ao 0,ao 0,str [],nS,str []] 88)):=Ext.push _ _;have b2:(h1.push (.cells #[ao 0,ao 0,str [],nS,str []] 88))[h1.size]? =some (.cells #[ao 0,ao 0,str [],nS,str []] 88 (0,0)):=by simp
 have Uh:=ay e2 b1 id;have s2:(h1.push (.cells #[ao 0,ao 0,str [],nS,str []] 88)).size=h1.size+1:=by simp
 obtain⟨eX,PI⟩:∃x,x=h1.size:=⟨_,rfl⟩;rw[←PI]at b2;have X:eW gr h (h1.push (.cells #[ao 0,ao 0,str [],nS,str []] 88)):=eW.ext (e1.trans e2);have pR:∀(h3:ar)(fb a b:Nat)(t:RS),CR h3 g gr rc p vp→h3[rb]? =some (.cells #[aE g] 139 (0,0))→h3[eX]? =some (.cells #[ao 0,ao 0,str [],nS,str []] 88 (0,0))→
  h3[fb]? =some (.cells (fX ⟨(a:Int),(b:Int),[],[],[]⟩ nS).toArray 88 (0,0))→eW gr h h3→eX<fb→eF h3 gr l t→(a,b,t)=((aA l 2 s).1,(aA l 2 (aA l 2 s).2).1,(aA l 2 (aA l 2 s).2).2)→
  Cd.vc Tryz.prog Q6 (gP Tryz.prog [(2,some 88)] fun r h'=>eW gr h h'∧eF h' gr l (iO p l s).2∧∃vH,r= .agg (fX (iO p l s).1 vH).toArray∧Own h' rb 226 4 vH (iO p l s).1.hs.length (gZ (iO p l s).1.hs)) [(0,aE g),(1,aE rb),(2,aE eX),(3,aE fb),(4,undef),(5,undef),(42,undef)] h3:=by
  intro h3 fb a b t D3 br3 b23 bf3 x3 aV r3 hR;rw[LZ];have FV:eX<fb:=aV;have C3:CC h g gr rc p vp rb eX fb ⟨(a:Int),(b:Int),[],[],[]⟩ nS h3:=⟨⟨D3,br3,b23,x3,by omega,by omega⟩,bf3,Own.nil,by omega,⟨by omega,aV⟩,⟨hg,hgr⟩⟩;have kr:=C3.t.kr;have k0:=C3.t.cr.rd.k0;simp only[fH,ae,seval,kr,k0];refine aj rfl (dU 4 hl (by omega) r3) ?_;rintro _ h4⟨f4,r4,rfl⟩;have hn4:= @dJ l 4 t;simp only[Nat.reducePow]at hn4;obtain⟨N,hN⟩:∃N,N=aA l 4 t:=⟨_,rfl⟩;rw[←hN]at r4 hn4⊢;have C4:=C3.cY f4;have kr:=C4.t.kr;have k0:=C4.t.cr.rd.k0;simp only[ae,seval,kr,k0];refine aj rfl (zO N.1 hl (by omega) r4) ?_;rintro _ h5⟨f5,r5,rfl⟩;have C5:=C4.cY f5;obtain⟨M,hM⟩:∃M,M=cV l N.1 N.2:=⟨_,rfl⟩;rw[←hM]at r5⊢;have k2:cellAt h5 ⟨fb,2,none⟩=some (str []):=by rw[au C5.bf];rfl
  have kz:frozenAt h5 ⟨fb,2,none⟩=false:=by simp[frozenAt,C5.bf]
  simp only[ae,seval];refine aC nM rfl rfl rfl rfl rfl k2 kz ?_;have f6:Fr (fun k=>k=fb) h5 (setAt h5 ⟨fb,2,none⟩ (str M.1)):=Fr.set (S:=fun k=>k=fb) _ _ _ fun _=>rfl;have b6:=bu (o:=2) C5.bf (str M.1);have C6:CC h g gr rc p vp rb eX fb ⟨(a:Int),(b:Int),M.1,[],[]⟩ nS (setAt h5 ⟨fb,2,none⟩ (str M.1)):=C5.set D0 f6 (by rw[b6];simp[fX]) Own.nil;have r6:=r5.fr f6 (show¬gr=fb by omega);generalize setAt h5 ⟨fb,2,none⟩ (str M.1)=h6 at*;have kr:=C6.t.kr;have k0:=C6.t.cr.rd.k0;simp only[fH,ae,seval,kr,k0];refine aj rfl (dU 2 hl (by omega) r6) ?_;rintro _ h7⟨f7,r7,rfl⟩;have C7:=C6.cY f7;have hk:= @dJ l 2 M.2;simp only[Nat.reducePow]at hk;obtain⟨K,hK⟩:∃K,K=aA l 2 M.2:=⟨_,rfl⟩;rw[←hK]at r7 hk⊢;obtain⟨R,vG⟩:∃R,R=eo (mh l) K.1 [] K.2:=⟨_,rfl⟩;simp only[ae,seval];refine aG [0,1,2,3,4] (fun m ρ hc=>∃(k:Nat)(hs:List ns)(vH:Value)(u:RS),m=k∧hs.length+k≤65535∧ρ=[(0,aE g),(1,aE rb),(2,aE eX),(3,aE fb),(4,ao k)]∧
   CC h g gr rc p vp rb eX fb ⟨(a:Int),(b:Int),M.1,hs,[]⟩ vH hc∧eF hc gr l u∧eo (mh l) k hs u=R) ?_ ?_
  ·simp only[ae,seval]
   exact⟨_,K.1,[],_,K.2,rfl,by simp;omega,rfl,C7,r7,vG.symm⟩
  rintro m ρ hc⟨k,hs,vH,u,rfl,mY,rfl,Cx,ru,hL⟩;have kr:=Cx.t.kr;have k0:=Cx.t.cr.rd.k0;refine Or.elim (Classical.em (0<m∧u.e=0)) (fun hgo=>?vI) (fun hgo=>?Qx)
  case vI=>
   obtain⟨pT,he⟩:=hgo;obtain⟨j,rfl⟩:∃j,m=j+1:=⟨m-1,by omega⟩;have jS:(0:Int)<((j+1:Nat):Int):=by omega
   have dH:(decide (u.e≠0))=false:=by simp[he]
   rw[eo,av9 (by simp[he])]at hL;simp only[fH,ae,seval,jS,kr,k0];refine aj rfl (jB ru) ?_;rintro _ hd⟨rfl,rfl⟩;have k3:cellAt hd ⟨fb,3,none⟩=some vH:=by rw[au Cx.bf];rfl
   simp only[fH,ae,seval,dH,kr,k0,k3];refine aj rfl (dU 2 hl (by omega) ru) ?_;rintro _ z1⟨g1,q1,rfl⟩;have E1:=Cx.cY g1;have kr:=E1.t.kr;have k0:=E1.t.cr.rd.k0;have k3:cellAt z1 ⟨fb,3,none⟩=some vH:=by rw[au E1.bf];rfl
   simp only[ae,seval,kr,k0,k3];refine aj rfl (dU 2 hl (by omega) q1) ?_;rintro _ z2⟨g2,q2,rfl⟩;have E2:=E1.cY g2;have kr:=E2.t.kr;have k0:=E2.t.cr.rd.k0;have k3:cellAt z2 ⟨fb,3,none⟩=some vH:=by rw[au E2.bf];rfl
   simp only[ae,seval,kr,k0,k3];refine aj rfl (dU 2 hl (by omega) q2) ?_;rintro _ z3⟨g3,q3,rfl⟩;have E3:=E2.cY g3;have kr:=E3.t.kr;have k0:=E3.t.cr.rd.k0;have k3:cellAt z3 ⟨fb,3,none⟩=some vH:=by rw[au E3.bf];rfl
   simp only[ae,seval,kr,k0,k3];refine aj rfl (ei hl q3) ?_;rintro _ z4⟨g4,q4,rfl⟩;have E4:=E3.cY g4;have k3:cellAt z4 ⟨fb,3,none⟩=some vH:=by rw[au E4.bf];rfl
   simp only[ae,seval,k3];change eo (mh l) j (hs++[(mh l u).1]) (mh l u).2=R at hL;have hx:(mh l u).1.cells=[ao ((aA l 2 u).1:Int),ao ((aA l 2 (aA l 2 u).2).1:Int),ao ((aA l 2 (aA l 2 (aA l 2 u).2).2).1:Int),ax ((aA l 2 (aA l 2 (aA l 2 (aA l 2 u).2).2).2).1:Int)]:=rfl;refine aU AI rfl rfl (by decide) ?_;have zY:=(awd.1 E4.bf).1;have ex:Ext z4 (z4.push (.cells (mh l u).1.cells.toArray 226)):=Ext.push _ _;have ba:(z4.push (.cells (mh l u).1.cells.toArray 226))[z4.size]? =some (.cells (mh l u).1.cells.toArray 226 (0,0)):=by simp
   have E5:=E4.cY (eW.ext ex);have q5:=q4.fr ex id;rw[hx]at ex ba E5 q5;simp only[ae,seval];refine⟨by rw[au E5.bf];rfl,?_⟩;generalize z4.push _=z5,z4.size=lb at*;rw[←hx]at ba;have pB:fR z5 4 (.slice (some ⟨lb,0,none⟩) 1 1) 1 (mh l u).1.cells:=⟨rfl,_,_,rfl, .inr ⟨lb,0,rfl,aN ba⟩⟩;have eY:∀w∈(mh l u).1.cells,oneCell w=true:=fun w hw=>ahm [(mh l u).1] w (by simpa[gZ]using hw);refine gO (m:=1) (news:=(mh l u).1.cells) AI rfl rfl E5.own pB eY (by simp only;omega) (by simp only;omega) E5.t.fr.size ?_;intro vH2 z6 kx Ol;have k36:cellAt z6 ⟨fb,3,none⟩=some vH:=by
    rw[au (ay Ol E5.bf (bK E5.own E5.bf (by decide)))];rfl
   have o1:=E5.o1;have o2:=E5.o2;have frh:eW gr h z6:=Fr.trans E5.t.fr Ol (fun _ _ hh=>hh) (fun k hk hS=>by have:=(E5.own.lt k hS).1;omega);have b6':=ay Ol E5.bf (bK E5.own E5.bf (by decide));have cr6:CR z6 g gr rc p vp:=⟨ay Ol E5.t.cr.rd (bK E5.own E5.t.cr.rd (by decide)),D0.pl.fr (by decide) frh (fun k _ hk hS=>D0.nb (by rw[hk,hS])),D0.v5,D0.nb,D0.ne⟩;have br6:=ay Ol E5.t.br (bK E5.own E5.t.br (by decide));have bb6:=ay Ol E5.t.b2 (bK E5.own E5.t.b2 (by decide));have q6:=q5.fr Ol (fun hS=>by have:=(E5.own.lt gr hS).1;omega);obtain⟨a6,c6,rfl,_⟩:=kx.dQ.2;have kz:frozenAt z6 ⟨fb,3,none⟩=false:=by simp[frozenAt,b6']
   simp only at kx;simp only[ae,seval];refine aC UG rfl rfl rfl rfl rfl k36 kz ?_;have f7:Fr (fun k=>k=fb) z6 (setAt z6 ⟨fb,3,none⟩ (.slice a6 (hs.length+1) c6)):=Fr.set (S:=fun k=>k=fb) _ _ _ fun _=>rfl;have b7:=bu (o:=3) b6' (.slice a6 (hs.length+1) c6);have C8:CC h g gr rc p vp rb eX fb ⟨(a:Int),(b:Int),M.1,hs++[(mh l u).1],[]⟩ (.slice a6 (hs.length+1) c6) (setAt z6 ⟨fb,3,none⟩ (.slice a6 (hs.length+1) c6)):=
    ⟨⟨cr6.old D0 f7 frh hg (by omega),ay f7 br6 (by omega),ay f7 bb6 (by omega),frh.new f7 (by omega),E5.t.n1,E5.t.n2⟩,by rw[b7];simp[fX],dR (kx.fr f7 (fun k hk hS=>by
     subst hS;exact bK kx b6' (by decide) hk)) (by simp) (by simp[gZ]),o1,o2,E5.o3⟩
   have hw:IntKind.i64.wrap (((j+1:Nat):Int)-1)=(j:Int):=by rw[wrap_i64 (by omega) (by omega)];omega
   simp only[fH,ae,seval,hw];exact⟨_,by omega,j,hs++[(mh l u).1],_,_,rfl,by simp;omega,rfl,C8,q6.fr f7 (by omega),hL⟩
  have yh:R=(hs,u):=by
   rw[←hL];rcases Nat.eq_zero_or_pos m with h0|h0
   ·subst h0;rfl
   ·exact mH (fun he=>hgo ⟨h0,he⟩)
  refine Or.elim (Classical.em (m=0)) (fun h0=>?ccG) (fun h0=>?yj)
  case' ccG=>
   have hz:¬(0:Int)<(m:Int):=by omega
   simp only[fH,ae,seval,hz]
  case' yj=>
   have hz:(0:Int)<(m:Int):=by omega
   simp only[fH,ae,seval,hz,kr,k0];refine aj rfl (jB ru) ?_;rintro _ hd⟨e1,rfl⟩;rw[e1];have dH:(decide (u.e≠0))=true:=awh (fun he=>hgo ⟨by omega,he⟩);simp only[fH,ae,seval,dH]
  all_goals
   have M5:=(awd.1 Cx.bf).1;refine aD jf ?_;simp only[ae,seval];refine aI jf rfl rfl rfl (by simp[Value.cells,oneCell]) rfl ?_;intro h8 x8 aqQ avi b8;change h8[hc.size]? =some (.cells #[.bool false] 4 (0,0))at b8;have I0:CI h g gr rc p vp rb eX fb hc.size ⟨(a:Int),(b:Int),M.1,hs,[]⟩ vH (false,[]) h8:=⟨Cx.cY (eW.ext x8),b8,M5⟩;have r8:=ru.fr x8 id;have kr:=I0.c.t.kr;simp only[fH,ae,seval,kr];refine dk ?_;simp only[ae,seval];refine(pw p vp (IQ l) 245 #[aE rb,aE hc.size,aE fb]
    (fun x hh=>CI h g gr rc p vp rb eX fb hc.size ⟨(a:Int),(b:Int),M.1,hs,[]⟩ vH x hh) hl (by decide+kernel) D0.v5 (fun x hh hx=>⟨hx.c.t.cr.rd,hx.c.t.cr.pl⟩) (fun x hh hh' hx f=>hx.cY f) ?_ (false,[]) I0 r8).mono ?_
   ·intro hh name q n x s1 hx hr he hq hn
    exact abY hl D0 name q n hn x hx hr
   rintro _ h9⟨I9,r9⟩;have An:iO p l s=((⟨(a:Int),(b:Int),M.1,hs,(eS p l (IQ l) (aA l 2 u).1 (false,[]) (aA l 2 u).2).1.2⟩:vu),(eS p l (IQ l) (aA l 2 u).1 (false,[]) (aA l 2 u).2).2):=by
    simp only[aw8]at hR;unfold iO;simp only[←hR.1,←hR.2.1,←hR.2.2,←hN,←hM,←hK,←vG,yh]
   generalize eS p l (IQ l) (aA l 2 u).1 (false,[]) (aA l 2 u).2=Y at*;rw[An];obtain⟨aH,cH,rfl,_⟩:=I9.c.own.dQ.2;have bm:=aS pW (aN I9.c.bf) rfl;simp only[fX]at bm;simp only[fH,ae,seval,bm];refine dD iX rfl rfl rfl (by simp[Value.cells,oneCell,str]) I9.c.t.b2 (by decide) (fun j _ _=>by simp) ?_;intro d9 f10 Wv;have di:Rd d9 eX 0 (fX ⟨(a:Int),(b:Int),M.1,hs,Y.1.2⟩ (.slice aH hs.length cH)):=aN (by simpa[Value.cells,fX]using Wv);have SN:=aS pW di rfl;simp only[fX]at SN;have o2:=I9.c.o2;simp only[ae,seval,SN];refine⟨I9.c.t.fr.new f10 (by omega),r9.fr f10 (by omega), .slice aH hs.length cH,rfl,?_⟩;rw[uC];exact I9.c.own.fr f10 (fun k hk hS=>by
    subst hS;exact bK I9.c.own I9.c.t.b2 (by decide) hk)
 have r2:=H.fr (e1.trans e2) id;have c2:=D0.cY X;generalize h1.push _=h2 at*;rw[←PI];have ji:eX<h2.size:=by omega
 have kr:cellAt h2 ⟨rb,0,none⟩=some (aE g):=by rw[au Uh];rfl
 have k0:=c2.rd.k0;simp only[fH,ae,seval,kr,k0];have D2:FT h g gr rc p vp rb eX 88 #[ao 0,ao 0,str [],nS,str []] h2:=⟨c2,Uh,b2,X,by omega,by omega⟩;refine⟨?_,?_⟩
 ·refine aj rfl (dU 2 hl (by omega) r2) ?_
  rintro _ y1⟨f1,r1,rfl⟩;have D1:=D2.cY f1;have kr:=D1.kr;have k0:=D1.cr.rd.k0;simp only[ae,seval,kr,k0];refine⟨?_,?_⟩
  ·refine aj rfl (dU 2 hl (by omega) r1) ?_
   rintro _ y2⟨f2,r2,rfl⟩;have D2:=D1.cY f2;have kr:=D2.kr;have k0:=D2.cr.rd.k0;simp only[ae,seval,];refine aD iX ?_;have ex:Ext y2 (y2.push (.cells #[ao 0,ao 0,str [],nS,str []] 88)):=Ext.push _ _;have ba:(y2.push (.cells #[ao 0,ao 0,str [],nS,str []] 88))[y2.size]? =some (.cells #[ao 0,ao 0,str [],nS,str []] 88 (0,0)):=by simp
   have Dx:=D2.cY (eW.ext ex);have rx:=r2.fr ex id;have nT:eX<y2.size:=(awd.1 D2.b2).1;have Ui:h.size≤y2.size:=D2.fr.size;generalize y2.push _=ha,y2.size=fb at*;have kr:=Dx.kr;have k0:=Dx.cr.rd.k0;simp only[ae,seval,kr,k0];refine dD iX rfl rfl rfl (by simp[Value.cells,oneCell,str]) ba (by decide) (fun j _ _=>by simp) ?_;intro yz fz bz;have dz:CR yz g gr rc p vp:=Dx.cr.old D0 fz Dx.fr hg (by omega);simp only[ae,seval];exact pR yz fb (aA l 2 s).1 (aA l 2 (aA l 2 s).2).1 (aA l 2 (aA l 2 s).2).2 dz (ay fz Dx.br (by omega)) (ay fz Dx.b2 (by omega)) (by simpa[Value.cells,fX]using bz) (Dx.fr.new fz (by omega)) (by omega) (rx.fr fz (by omega)) rfl
  ·refine aD iX ?_
   have ex:Ext y1 (y1.push (.cells #[ao 0,ao 0,str [],nS,str []] 88)):=Ext.push _ _;have ba:(y1.push (.cells #[ao 0,ao 0,str [],nS,str []] 88))[y1.size]? =some (.cells #[ao 0,ao 0,str [],nS,str []] 88 (0,0)):=by simp
   have Dx:=D1.cY (eW.ext ex);have rx:=r1.fr ex id;have nT:eX<y1.size:=(awd.1 D1.b2).1;have Ui:h.size≤y1.size:=D1.fr.size;generalize y1.push _=ha,y1.size=fb at*;have vX:fb≠gr:=by omega
   have kr:=Dx.kr;have k0:=Dx.cr.rd.k0;simp only[ae,seval,kr,k0];refine aj rfl (dU 2 hl (by omega) rx) ?_;rintro _ y3⟨f3,r3,rfl⟩;have D3:=Dx.cY f3;have b3':=ay f3 ba vX;simp only[ae,seval,];refine dD iX rfl rfl rfl (by simp[Value.cells,oneCell,str]) b3' (by decide) (fun j _ _=>by simp) ?_;intro yz fz bz;have dz:CR yz g gr rc p vp:=D3.cr.old D0 fz D3.fr hg (by omega);simp only[ae,seval];exact pR yz fb (aA l 2 s).1 (aA l 2 (aA l 2 s).2).1 (aA l 2 (aA l 2 s).2).2 dz (ay fz D3.br (by omega)) (ay fz D3.b2 (by omega)) (by simpa[Value.cells,fX]using bz) (D3.fr.new fz (by omega)) (by omega) (r3.fr fz (by omega)) rfl
 ·refine aD iX ?_
  have ex:Ext h2 (h2.push (.cells #[ao 0,ao 0,str [],nS,str []] 88)):=Ext.push _ _;have ba:(h2.push (.cells #[ao 0,ao 0,str [],nS,str []] 88))[h2.size]? =some (.cells #[ao 0,ao 0,str [],nS,str []] 88 (0,0)):=by simp
  have Dx:=D2.cY (eW.ext ex);have rx:=r2.fr ex id;have nT:eX<h2.size:=(awd.1 D2.b2).1;have Ui:h.size≤h2.size:=D2.fr.size;generalize h2.push _=ha,h2.size=fb at*;have vX:fb≠gr:=by omega
  have kr:=Dx.kr;have k0:=Dx.cr.rd.k0;simp only[ae,seval,kr,k0];refine aj rfl (dU 2 hl (by omega) rx) ?_;rintro _ y4⟨f4,r4,rfl⟩;have D4:=Dx.cY f4;have b4':=ay f4 ba vX;have kr:=D4.kr;have k0:=D4.cr.rd.k0;simp only[ae,seval,kr,k0];refine aj rfl (dU 2 hl (by omega) r4) ?_;rintro _ y5⟨f5,r5,rfl⟩;have D5:=D4.cY f5;have b5':=ay f5 b4' vX;simp only[ae,seval,];refine dD iX rfl rfl rfl (by simp[Value.cells,oneCell,str]) b5' (by decide) (fun j _ _=>by simp) ?_;intro yz fz bz;have dz:CR yz g gr rc p vp:=D5.cr.old D0 fz D5.fr hg (by omega);simp only[ae,seval];exact pR yz fb (aA l 2 s).1 (aA l 2 (aA l 2 s).2).1 (aA l 2 (aA l 2 s).2).2 dz (ay fz D5.br (by omega)) (ay fz D5.b2 (by omega)) (by simpa[Value.cells,fX]using bz) (D5.fr.new fz (by omega)) (by omega) (r5.fr fz (by omega)) rfl
end
end
section
structure MM(h:ar)(g gr:Nat)(rc:List Value)(p:List aX)(vp:Value)(rb eX fb f1 f2 f3:Nat)(x:Bool × vu)(vH:Value)(hx:ar):Prop where
 t:FT h g gr rc p vp rb eX 107 #[ax 0,ax 0,ax 0, .bool false,ao 0,ao 0,str [],nS,str []] hx
 bf:hx[fb]? =some (.cells (fQ ⟨f1,f2,f3,x.1,x.2⟩ vH).toArray 107 (0,0))
 own:Own hx h.size 226 4 vH x.2.hs.length (gZ x.2.hs)
 o1:h.size≤rb
 o2:rb<eX∧eX<fb
 o3:g<h.size∧gr<h.size
section
variable{h hx hy:ar}{g gr rb fb eX f1 f2 f3:Nat}{rc:List Value}{p:List aX}{vp:Value}{l:az}{s:RS}{x:Bool × vu}{vH:Value}
theorem MM.cY(D:MM h g gr rc p vp rb eX fb f1 f2 f3 x vH hx)(f:eW gr hx hy):MM h g gr rc p vp rb eX fb f1 f2 f3 x vH hy:=by
 have o1:=D.o1;have o2:=D.o2;have o3:=D.o3;exact⟨D.t.cY f,ay f D.bf (by omega),D.own.fr f (fun k hk hS=>by have:=(D.own.lt k hk).1;omega),D.o1,D.o2,D.o3⟩
theorem MM.set(D:MM h g gr rc p vp rb eX fb f1 f2 f3 x vH hx)(D0:CR h g gr rc p vp){y:Bool × vu}{w:Value}(f:Fr (fun k=>k=fb) hx hy)(hb:hy[fb]? =some (.cells (fQ ⟨f1,f2,f3,y.1,y.2⟩ w).toArray 107 (0,0)))(ho:Own hx h.size 226 4 w y.2.hs.length (gZ y.2.hs)):MM h g gr rc p vp rb eX fb f1 f2 f3 y w hy:=by
 have o1:=D.o1;have o2:=D.o2;have o3:=D.o3;exact⟨⟨D.t.cr.old D0 f D.t.fr o3.1 (by omega),ay f D.t.br (by omega),ay f D.t.b2 (by omega),D.t.fr.new f (by omega),D.t.n1,D.t.n2⟩,hb,ho.fr f (fun k hk hS=>by
  subst hS;exact bK ho D.bf (by decide) hk),D.o1,D.o2,D.o3⟩
theorem W0(hl:l.length≤1073741824)(D0:CR h g gr rc p vp)(name:az)(q n:Nat)(D:MM h g gr rc p vp rb eX fb f1 f2 f3 x vH hx)(H:eF hx gr l s):
 aF Tryz.prog 155 #[str name,ao q,ao n,aE rb,aE fb] hx (TkP gr l (fun y hh=>∃w,MM h g gr rc p vp rb eX fb f1 f2 f3 y w hh) x s (DK p l name q n x s)):=by
 refine Dc (args:=[str name,ao q,ao n,aE rb,aE fb]) rfl ?_;have o1:=D.o1;have o2:=D.o2;have o3:=D.o3;by_cases kQ:name=cdN
 case neg=>
  have sR:¬name=[67,111,100,101]:=kQ;have hT:DK p l name q n x s=none:=by unfold DK;rw[av9 kQ]
  rw[hT];simp only[lT,ae,seval,av7 sR];exact⟨rfl,⟨vH,D⟩,H⟩
 have sR:name=[67,111,100,101]:=kQ;have hT:DK p l name q n x s=some ((true,(iO p l (kR x.1 q s)).1),(iO p l (kR x.1 q s)).2):=by unfold DK;rw[awa kQ]
 rw[hT];have kr:=D.t.kr;have ks:cellAt hx ⟨fb,3,none⟩=some (.bool x.1):=by rw[au D.bf];rfl
 have kz:frozenAt hx ⟨fb,3,none⟩=false:=by simp[frozenAt,D.bf]
 simp only[lT,ae,seval,av8 sR,kr];refine aj rfl (OG x.1 fb 3 q D.t.cr.rd ks kz (by omega) H) ?_;rintro _ _⟨h2,y2,r2,rfl,c2⟩;have D2:=D.cY y2;have y3:Fr (fun k=>k=fb) h2 (setAt h2 ⟨fb,3,none⟩ (.bool true)):=Fr.set (S:=fun k=>k=fb) _ _ _ fun _=>rfl;have b3:=bu (o:=3) D2.bf (.bool true);have D3:MM h g gr rc p vp rb eX fb f1 f2 f3 (true,x.2) vH (setAt h2 ⟨fb,3,none⟩ (.bool true)):=D2.set D0 (y:=(true,x.2)) y3 (by rw[b3];simp[fQ,fX]) D2.own;have r3:eF (setAt h2 ⟨fb,3,none⟩ (.bool true)) gr l _:=r2.fr y3 (by omega);generalize setAt h2 ⟨fb,3,none⟩ (.bool true)=h3 at*;have kr:=D3.t.kr;simp only[lT,ae,seval,kr];refine aj rfl (aeD hl D3.t.cr r3) ?_;rintro _ h4⟨y4,r4,w,rfl,PK⟩;have D4:=D3.cY y4;generalize iO p l (kR x.1 q s)=v at*;have SP:=PK.mono D3.t.fr.size;obtain⟨aH,cH,rfl,_⟩:=PK.dQ.2;simp only[fX];simp only[ae,seval];refine dD iX rfl rfl rfl (by simp[Value.cells,oneCell,str]) D4.bf (by simp[fQ,fX]) (fun j _ _=>by simp) ?_;intro h5 y5 b5;have D5:MM h g gr rc p vp rb eX fb f1 f2 f3 (true,v.1) _ h5:=D4.set D0 (y:=(true,v.1)) y5 (by rw[b5];simp[fQ,fX,Value.cells]) SP;have r5:=r4.fr y5 (show¬gr=fb by omega);simp only[lT,ae,seval];exact⟨rfl,⟨_,D5⟩,r5⟩
theorem ahV(hl:l.length≤1073741824)(D0:CR h g gr rc p vp)(H:eF h gr l s):
 aF Tryz.prog 79 #[aE g] h fun r h'=>eW gr h h'∧eF h' gr l (bT p l s).2∧∃vH,r= .agg (fQ (bT p l s).1 vH).toArray∧Own h' h.size 226 4 vH (bT p l s).1.code.hs.length (gZ (bT p l s).1.code.hs):=by
 refine Ib (args:=[aE g]) rfl ?_;have hgr:=H.lt;have hg:g<h.size:=(awd.1 D0.rd).1;simp only[nA,ae,seval];refine cT ?_;have e1:Ext h (h.push (.cells #[aE g] 139)):=Ext.push _ _;have b1:(h.push (.cells #[aE g] 139))[h.size]? =some (.cells #[aE g] 139 (0,0)):=by simp
 have s1:(h.push (.cells #[aE g] 139)).size=h.size+1:=by simp
 simp only[ae,seval];generalize h.push _=h1 at*;obtain⟨rb,uC⟩:∃x,x=h.size:=⟨_,rfl⟩;rw[←uC]at b1⊢;refine aD eH ?_;have e2:Ext h1 (h1.push (.cells #[ax 0,ax 0,ax 0, .bool false,ao 0,ao 0,str [],nS,str []] 107)):=Ext.push _ _;have b2:(h1.push (.cells #[ax 0,ax 0,ax 0, .bool false,ao 0,ao 0,str [],nS,str []] 107))[h1.size]? =some (.cells #[ax 0,ax 0,ax 0, .bool false,ao 0,ao 0,str [],nS,str []] 107 (0,0)):=by simp
 have Uh:=ay e2 b1 id;have s2:(h1.push (.cells #[ax 0,ax 0,ax 0, .bool false,ao 0,ao 0,str [],nS,str []] 107)).size=h1.size+1:=by simp
 obtain⟨eX,PI⟩:∃x,x=h1.size:=⟨_,rfl⟩;rw[←PI]at b2;have X:eW gr h (h1.push (.cells #[ax 0,ax 0,ax 0, .bool false,ao 0,ao 0,str [],nS,str []] 107)):=eW.ext (e1.trans e2);have pR:∀(h3:ar)(fb f1 f2 f3:Nat)(t:RS),CR h3 g gr rc p vp→h3[rb]? =some (.cells #[aE g] 139 (0,0))→h3[eX]? =some (.cells #[ax 0,ax 0,ax 0, .bool false,ao 0,ao 0,str [],nS,str []] 107 (0,0))→
  h3[fb]? =some (.cells (fQ ⟨f1,f2,f3,false,⟨0,0,[],[],[]⟩⟩ nS).toArray 107 (0,0))→eW gr h h3→eX<fb→eF h3 gr l t→(f1,f2,f3,t)=((aA l 2 s).1,(aA l 2 (aA l 2 s).2).1,(aA l 2 (aA l 2 (aA l 2 s).2).2).1,(aA l 2 (aA l 2 (aA l 2 s).2).2).2)→
  Cd.vc Tryz.prog NL (gP Tryz.prog [(2,some 107)] fun r h'=>eW gr h h'∧eF h' gr l (bT p l s).2∧∃vH,r= .agg (fQ (bT p l s).1 vH).toArray∧Own h' rb 226 4 vH (bT p l s).1.code.hs.length (gZ (bT p l s).1.code.hs)) [(0,aE g),(1,aE rb),(2,aE eX),(3,aE fb)] h3:=by
  intro h3 fb f1 f2 f3 t D3 br3 b23 bf3 x3 aV r3 hR;rw[Ic];have FV:eX<fb:=aV;have C3:MM h g gr rc p vp rb eX fb f1 f2 f3 (false,Cs) nS h3:=⟨⟨D3,br3,b23,x3,by omega,by omega⟩,bf3,Own.nil,by omega,⟨by omega,aV⟩,⟨hg,hgr⟩⟩;have kr:=C3.t.kr;simp only[nA,ae,seval,kr];refine dk ?_;simp only[ae,seval];refine(pw p vp (DK p l) 155 #[aE rb,aE fb]
   (fun x hh=>∃w,MM h g gr rc p vp rb eX fb f1 f2 f3 x w hh) hl (by decide+kernel) D0.v5 (fun x hh⟨w,hx⟩=>⟨hx.t.cr.rd,hx.t.cr.pl⟩) (fun x hh hh'⟨w,hx⟩f=>⟨w,hx.cY f⟩) ?_ (false,Cs) ⟨_,C3⟩ r3).mono ?_
  ·rintro hh name q n x s1⟨w,hx⟩hr he hq hn
   exact W0 hl D0 name q n hx hr
  rintro _ h9⟨⟨w,I9⟩,r9⟩;have hmd:bT p l s=((⟨f1,f2,f3,(eS p l (DK p l) (aA l 2 t).1 (false,Cs) (aA l 2 t).2).1.1,(eS p l (DK p l) (aA l 2 t).1 (false,Cs) (aA l 2 t).2).1.2⟩:fj),(eS p l (DK p l) (aA l 2 t).1 (false,Cs) (aA l 2 t).2).2):=by
   simp only[aw8]at hR;unfold bT;simp only[hR.1,hR.2.1,hR.2.2.1,hR.2.2.2]
  generalize eS p l (DK p l) (aA l 2 t).1 (false,Cs) (aA l 2 t).2=Y at*;rw[hmd];obtain⟨aH,cH,rfl,_⟩:=I9.own.dQ.2;have bm:=aS lO (aN I9.bf) rfl;simp only[fQ,fX,awC,awD]at bm;simp only[nA,ae,seval,bm];refine dD eH rfl rfl rfl (by simp[Value.cells,oneCell,str]) I9.t.b2 (by decide) (fun j _ _=>by simp) ?_;intro d9 f10 Wv;have di:Rd d9 eX 0 (fQ ⟨f1,f2,f3,Y.1.1,Y.1.2⟩ (.slice aH Y.1.2.hs.length cH)):=aN (by simpa[Value.cells,fQ,fX]using Wv);have SN:=aS lO di rfl;simp only[fQ,fX,awC,awD]at SN;have o2:=I9.o2;simp only[ae,seval,SN];refine⟨I9.t.fr.new f10 (by omega),r9.fr f10 (by omega), .slice aH Y.1.2.hs.length cH,rfl,?_⟩;rw[uC];exact I9.own.fr f10 (fun k hk hS=>by
   subst hS;exact bK I9.own I9.t.b2 (by decide) hk)
 have r2:=H.fr (e1.trans e2) id;have c2:=D0.cY X;generalize h1.push _=h2 at*;rw[←PI];have ji:eX<h2.size:=by omega
 have kr:cellAt h2 ⟨rb,0,none⟩=some (aE g):=by rw[au Uh];rfl
 have k0:=c2.rd.k0;simp only[nA,ae,seval,kr,k0];have D2:FT h g gr rc p vp rb eX 107 #[ax 0,ax 0,ax 0, .bool false,ao 0,ao 0,str [],nS,str []] h2:=⟨c2,Uh,b2,X,by omega,by omega⟩;refine⟨?_,?_⟩
 ·refine aj rfl (ei hl r2) ?_
  rintro _ y1⟨f1,r1,rfl⟩;have D1:=D2.cY f1;have kr:=D1.kr;have k0:=D1.cr.rd.k0;simp only[ae,seval,kr,k0];refine⟨?_,?_⟩
  ·refine aj rfl (ei hl r1) ?_
   rintro _ y2⟨f2,r2,rfl⟩;have D2:=D1.cY f2;have kr:=D2.kr;have k0:=D2.cr.rd.k0;simp only[ae,seval,kr,k0];refine⟨?_,?_⟩
   ·refine aj rfl (ei hl r2) ?_
    rintro _ y3⟨f3,r3,rfl⟩;have D3:=D2.cY f3;have kr:=D3.kr;have k0:=D3.cr.rd.k0;simp only[ae,seval,];refine aD eH ?_;have ex:Ext y3 (y3.push (.cells #[ax 0,ax 0,ax 0, .bool false,ao 0,ao 0,str [],nS,str []] 107)):=Ext.push _ _;have ba:(y3.push (.cells #[ax 0,ax 0,ax 0, .bool false,ao 0,ao 0,str [],nS,str []] 107))[y3.size]? =some (.cells #[ax 0,ax 0,ax 0, .bool false,ao 0,ao 0,str [],nS,str []] 107 (0,0)):=by simp
    have Dx:=D3.cY (eW.ext ex);have rx:=r3.fr ex id;have nT:eX<y3.size:=(awd.1 D3.b2).1;have Ui:h.size≤y3.size:=D3.fr.size;generalize y3.push _=ha,y3.size=fb at*;have kr:=Dx.kr;have k0:=Dx.cr.rd.k0;simp only[ae,seval,kr,k0];refine dD eH rfl rfl rfl (by simp[Value.cells,oneCell,str]) ba (by decide) (fun j _ _=>by simp) ?_;intro yz fz bz;have dz:CR yz g gr rc p vp:=Dx.cr.old D0 fz Dx.fr hg (by omega);simp only[ae,seval];exact pR yz fb (aA l 2 s).1 (aA l 2 (aA l 2 s).2).1 (aA l 2 (aA l 2 (aA l 2 s).2).2).1 (aA l 2 (aA l 2 (aA l 2 s).2).2).2 dz (ay fz Dx.br (by omega)) (ay fz Dx.b2 (by omega)) (by simpa[Value.cells,fQ,fX]using bz) (Dx.fr.new fz (by omega)) (by omega) (rx.fr fz (by omega)) rfl
   ·refine aD eH ?_
    have ex:Ext y2 (y2.push (.cells #[ax 0,ax 0,ax 0, .bool false,ao 0,ao 0,str [],nS,str []] 107)):=Ext.push _ _;have ba:(y2.push (.cells #[ax 0,ax 0,ax 0, .bool false,ao 0,ao 0,str [],nS,str []] 107))[y2.size]? =some (.cells #[ax 0,ax 0,ax 0, .bool false,ao 0,ao 0,str [],nS,str []] 107 (0,0)):=by simp
    have Dx:=D2.cY (eW.ext ex);have rx:=r2.fr ex id;have nT:eX<y2.size:=(awd.1 D2.b2).1;have Ui:h.size≤y2.size:=D2.fr.size;generalize y2.push _=ha,y2.size=fb at*;have vX:fb≠gr:=by omega
    have kr:=Dx.kr;have k0:=Dx.cr.rd.k0;simp only[ae,seval,kr,k0];refine aj rfl (ei hl rx) ?_;rintro _ y4⟨f4,r4,rfl⟩;have D4:=Dx.cY f4;have b4':=ay f4 ba vX;simp only[ae,seval,];refine dD eH rfl rfl rfl (by simp[Value.cells,oneCell,str]) b4' (by decide) (fun j _ _=>by simp) ?_;intro yz fz bz;have dz:CR yz g gr rc p vp:=D4.cr.old D0 fz D4.fr hg (by omega);simp only[ae,seval];exact pR yz fb (aA l 2 s).1 (aA l 2 (aA l 2 s).2).1 (aA l 2 (aA l 2 (aA l 2 s).2).2).1 (aA l 2 (aA l 2 (aA l 2 s).2).2).2 dz (ay fz D4.br (by omega)) (ay fz D4.b2 (by omega)) (by simpa[Value.cells,fQ,fX]using bz) (D4.fr.new fz (by omega)) (by omega) (r4.fr fz (by omega)) rfl
  ·refine aD eH ?_
   have ex:Ext y1 (y1.push (.cells #[ax 0,ax 0,ax 0, .bool false,ao 0,ao 0,str [],nS,str []] 107)):=Ext.push _ _;have ba:(y1.push (.cells #[ax 0,ax 0,ax 0, .bool false,ao 0,ao 0,str [],nS,str []] 107))[y1.size]? =some (.cells #[ax 0,ax 0,ax 0, .bool false,ao 0,ao 0,str [],nS,str []] 107 (0,0)):=by simp
   have Dx:=D1.cY (eW.ext ex);have rx:=r1.fr ex id;have nT:eX<y1.size:=(awd.1 D1.b2).1;have Ui:h.size≤y1.size:=D1.fr.size;generalize y1.push _=ha,y1.size=fb at*;have vX:fb≠gr:=by omega
   have kr:=Dx.kr;have k0:=Dx.cr.rd.k0;simp only[ae,seval,kr,k0];refine aj rfl (ei hl rx) ?_;rintro _ y5⟨f5,r5,rfl⟩;have D5:=Dx.cY f5;have b5':=ay f5 ba vX;have kr:=D5.kr;have k0:=D5.cr.rd.k0;simp only[ae,seval,kr,k0];refine aj rfl (ei hl r5) ?_;rintro _ y6⟨f6,r6,rfl⟩;have D6:=D5.cY f6;have b6':=ay f6 b5' vX;simp only[ae,seval,];refine dD eH rfl rfl rfl (by simp[Value.cells,oneCell,str]) b6' (by decide) (fun j _ _=>by simp) ?_;intro yz fz bz;have dz:CR yz g gr rc p vp:=D6.cr.old D0 fz D6.fr hg (by omega);simp only[ae,seval];exact pR yz fb (aA l 2 s).1 (aA l 2 (aA l 2 s).2).1 (aA l 2 (aA l 2 (aA l 2 s).2).2).1 (aA l 2 (aA l 2 (aA l 2 s).2).2).2 dz (ay fz D6.br (by omega)) (ay fz D6.b2 (by omega)) (by simpa[Value.cells,fQ,fX]using bz) (D6.fr.new fz (by omega)) (by omega) (r6.fr fz (by omega)) rfl
 ·refine aD eH ?_
  have ex:Ext h2 (h2.push (.cells #[ax 0,ax 0,ax 0, .bool false,ao 0,ao 0,str [],nS,str []] 107)):=Ext.push _ _;have ba:(h2.push (.cells #[ax 0,ax 0,ax 0, .bool false,ao 0,ao 0,str [],nS,str []] 107))[h2.size]? =some (.cells #[ax 0,ax 0,ax 0, .bool false,ao 0,ao 0,str [],nS,str []] 107 (0,0)):=by simp
  have Dx:=D2.cY (eW.ext ex);have rx:=r2.fr ex id;have nT:eX<h2.size:=(awd.1 D2.b2).1;have Ui:h.size≤h2.size:=D2.fr.size;generalize h2.push _=ha,h2.size=fb at*;have vX:fb≠gr:=by omega
  have kr:=Dx.kr;have k0:=Dx.cr.rd.k0;simp only[ae,seval,kr,k0];refine aj rfl (ei hl rx) ?_;rintro _ y7⟨f7,r7,rfl⟩;have D7:=Dx.cY f7;have b7':=ay f7 ba vX;have kr:=D7.kr;have k0:=D7.cr.rd.k0;simp only[ae,seval,kr,k0];refine aj rfl (ei hl r7) ?_;rintro _ y8⟨f8,r8,rfl⟩;have D8:=D7.cY f8;have b8':=ay f8 b7' vX;have kr:=D8.kr;have k0:=D8.cr.rd.k0;simp only[ae,seval,kr,k0];refine aj rfl (ei hl r8) ?_;rintro _ y9⟨f9,r9,rfl⟩;have D9:=D8.cY f9;have b9':=ay f9 b8' vX;simp only[ae,seval,];refine dD eH rfl rfl rfl (by simp[Value.cells,oneCell,str]) b9' (by decide) (fun j _ _=>by simp) ?_;intro yz fz bz;have dz:CR yz g gr rc p vp:=D9.cr.old D0 fz D9.fr hg (by omega);simp only[ae,seval];exact pR yz fb (aA l 2 s).1 (aA l 2 (aA l 2 s).2).1 (aA l 2 (aA l 2 (aA l 2 s).2).2).1 (aA l 2 (aA l 2 (aA l 2 s).2).2).2 dz (ay fz D9.br (by omega)) (ay fz D9.b2 (by omega)) (by simpa[Value.cells,fQ,fX]using bz) (D9.fr.new fz (by omega)) (by omega) (r9.fr fz (by omega)) rfl
end
end
end Go.Proofs.YtmbboehmnfhjjaaGreatDoor
