/- Instructions out of bytes: how long (plain). Numbers as bytes, errors in turn, blocks that are kept. Classes, and what writing one gives, in plain Lean. Rows of a class's lists; their cells are single values (plain). What is wrong with constants of a class, plainly. Texts, names of classes and constants, by the program. Constants checked, by the program. The class itself checked, by the program. -/
import Derived.Test.YtmbboehmnfhjjaaGreatDoorU16
import Derived.Test.YtmbboehmnfhjjaaGreatDoorU11
import Derived.Test.YtmbboehmnfhjjaaGreatDoorU15
import Derived.Test.YtmbboehmnfhjjaaGreatDoorU13
import Derived.Test.YtmbboehmnfhjjaaGreatDoorU9
import Derived.Test.YtmbboehmnfhjjaaGreatDoorU4
set_option maxRecDepth 100000
set_option maxHeartbeats 8000000
set_option linter.unusedSimpArgs false
set_option linter.unusedVariables false
set_option linter.defProp false
namespace Go.Proofs.YtmbboehmnfhjjaaGreatDoor
open Go.Vc
def Bd(l:az)(x:In):Prop:=x.keys.length≤l.length+8∧x.bX.length≤l.length+8
theorem UY(l:az)(s:RS):(sN l s).1.at'=(s.p:Int)∧(sN l s).1.op<256:=by
 have h1:=dJ (l:=l) (n:=1) (s:=s);have h2:=dJ (l:=l) (n:=1) (s:=(aA l 1 s).2);have hc:∀(x:In)(a f:Nat)(t:RS),(sM x a f l t).1.at'=x.at'∧(sM x a f l t).1.op=x.op:=by
  intro x a f t;unfold sM;simp only
  split
  ·split<;>exact⟨rfl,rfl⟩
  ·split<;>exact⟨rfl,rfl⟩
 have ho:∀(x:In)(a f:Nat)(t:RS),(nH x a f l t).1.at'=x.at'∧(nH x a f l t).1.op=x.op:=by
  intro x a f t;have hi:∀(c:Prop) [Decidable c](y z:In × RS),(y.1.at'=x.at'∧y.1.op=x.op)→(z.1.at'=x.at'∧z.1.op=x.op)→((if c then y else z).1.at'=x.at'∧(if c then y else z).1.op=x.op):=by
   intro c _ y z hy hz
   split<;>assumption
  have r3:x.at'=x.at'∧x.op=x.op:=⟨rfl,rfl⟩;unfold nH;simp only;exact hi _ _ _ r3 (hi _ _ _ r3 (hi _ _ _ r3 (hi _ _ _ r3 (hi _ _ _ r3 (hi _ _ _ r3 (hi _ _ _ r3 (hi _ _ _ r3 (hi _ _ _ r3 (hi _ _ _ (hc x a f t) (hi _ _ _ r3 (hi _ _ _ r3 (hi _ _ _ r3 r3))))))))))))
 unfold sN;simp only
 split
 ·split
  ·exact⟨rfl,h2⟩
  ·exact⟨(ho _ _ _ _).1,by rw[(ho _ _ _ _).2];exact h2⟩
 ·exact⟨(ho _ _ _ _).1,by rw[(ho _ _ _ _).2];exact h1⟩
theorem aek(l:az)(hl:l.length≤1073741824):∀(k:Nat)(xs:List In)(s:RS),s.p≤l.length→(∀x∈xs,x.Fit)→∀x∈(xk l k xs s).1,x.Fit:=by
 intro k
 induction k with
 |zero=>intro xs s _ h;exact h
 |succ k ih=>
  intro xs s hs h;rw[xk]
  split
  ·refine ih _ _ ((ok_one l s hs).1.2.1 hs) (fun x hx=>?_)
   rcases awi.1 hx with hx|hx
   ·exact h x hx
   ·rw[awf.1 hx]
    obtain⟨e1,e2⟩:=UY l s;exact⟨e2,by rw[e1];omega,by rw[e1];omega⟩
  ·exact h
theorem UZ(l:az)(hl:l.length≤1073741824):∀x∈(j0 l).1,x.Fit:=by
 unfold j0
 split
 ·simp
 ·unfold Px
  simp only
  split
  ·simp
  ·exact aek l hl _ _ _ (awb _) (by simp)
def xZ(h h':ar)(g:Nat):Prop:=h.size≤h'.size∧∀c cs e fz,c≠g→e≠5→h[c]? =some (.cells cs e fz)→h'[c]? =some (.cells cs e fz)
theorem xZ.refl(h:ar)(g:Nat):xZ h h g:=⟨awp _,fun _ _ _ _ _ _ h=>h⟩
theorem xZ.trans{a b c:ar}{g:Nat}(H:xZ a b g)(K:xZ b c g):xZ a c g:=⟨awG H.1 K.1,fun _ _ _ _ h1 h2 h3=>K.2 _ _ _ _ h1 h2 (H.2 _ _ _ _ h1 h2 h3)⟩
theorem xZ.ext{h h':ar}{g:Nat}(H:Ext h h'):xZ h h' g:=⟨H.size,fun _ _ _ _ _ _ h3=>ay H h3 id⟩
theorem xZ.blk{h h':ar}{g c:Nat}{cs:Array Value}{t:TypeId}{fz:Nat × Nat}(H:xZ h h' g)(hb:h[c]? =some (.cells cs t fz))(cN:c≠g)(ht:t≠5):h'[c]? =some (.cells cs t fz):=H.2 _ _ _ _ cN ht hb
theorem abD{α:Type}(f:α→List Value)(n:Nat)(hf:∀x,(f x).length=n)(l:List α):∀k,(l.flatMap f).drop (k*n)=(l.drop k).flatMap f:=by
 induction l with
 |nil=>intro k;simp
 |cons c l ih=>
  intro k;cases k with
  |zero=>simp
  |succ k=>
   rw[show(k+1)*n=n+k*n by rw[Nat.add_mul];omega,←awN,List.flatMap_cons,List.drop_left' (hf c)];exact ih k
theorem Zc{α:Type}(f:α→List Value)(n:Nat)(hf:∀x,(f x).length=n){l:List α}{i:Nat}(d:α)(hi:i<l.length):((l.flatMap f).drop (i*n)).take n=f (l.getD i d):=by
 have h2:l.drop i=l.getD i d::l.drop (i+1):=by rw[awO hi];simp[hi]
 rw[abD f n hf,h2,List.flatMap_cons];exact List.take_left' (hf _)
structure fC where
 flags:Nat
 name:Nat
 type:Nat
 value:Nat
structure fC.Fit(f:fC):Prop where
 flags:f.flags<65536
 name:f.name<65536
 type:f.type<65536
 value:f.value<65536
def fC.zero:fC:=⟨0,0,0,0⟩
def fC.cells(f:fC):List Value:=[ax f.flags,ax f.name,ax f.type,ax f.value]
def vr(l:List fC):List Value:=l.flatMap fC.cells
structure ns where
 from':Int
 to:Int
 target:Int
 type:Nat
structure ns.Fit(f:ns):Prop where
 f1: -9223372036854775808≤f.from'
 f2:f.from'<9223372036854775808
 t1: -9223372036854775808≤f.to
 t2:f.to<9223372036854775808
 g1: -9223372036854775808≤f.target
 g2:f.target<9223372036854775808
 type:f.type<65536
def ns.zero:ns:=⟨0,0,0,0⟩
def ns.cells(f:ns):List Value:=[ao f.from',ao f.to,ao f.target,ax f.type]
def gZ(l:List ns):List Value:=l.flatMap ns.cells
structure vu where
 maxS:Int
 fF:Int
 bytes:az
 hs:List ns
 map:az
structure vu.Fit(c:vu):Prop where
 s1: -9223372036854775808≤c.maxS
 s2:c.maxS<9223372036854775808
 l1: -9223372036854775808≤c.fF
 l2:c.fF<9223372036854775808
 hs:∀h∈c.hs,h.Fit
def fX(c:vu)(vH:Value):List Value:=[ao c.maxS,ao c.fF,str c.bytes,vH,str c.map]
structure fj where
 flags:Nat
 name:Nat
 type:Nat
 has:Bool
 code:vu
structure fj.Fit(m:fj):Prop where
 flags:m.flags<65536
 name:m.name<65536
 type:m.type<65536
 code:m.code.Fit
def fj.zero:fj:=⟨0,0,0,false,⟨0,0,[],[],[]⟩⟩
def fQ(m:fj)(vH:Value):List Value:=[ax m.flags,ax m.name,ax m.type, .bool m.has]++fX m.code vH
structure iP where
 minor:Nat
 major:Nat
 flags:Nat
 this:Nat
 super:Nat
 pool:List aX
 ifs:List Nat
 fields:List fC
 methods:List fj
def Cq(l:List Nat):List Value:=l.map fun x:Nat=>ax x
def mP(c:iP)(vp vi vf vm:Value):List Value:=[ax c.minor,ax c.major,ax c.flags,ax c.this,ax c.super,vp,vi,vf,vm]
structure iP.Fit(c:iP):Prop where
 minor:c.minor<65536
 major:c.major<65536
 flags:c.flags<65536
 this:c.this<65536
 super:c.super<65536
 pool:∀x∈c.pool,x.Fit
 ifs:∀x∈c.ifs,x<65536
 fields:∀x∈c.fields,x.Fit
 methods:∀x∈c.methods,x.Fit
def U0(h:ar)(m:fj)(r:List Value):Prop:=∃vH,r=fQ m vH∧fR h 4 vH m.code.hs.length (gZ m.code.hs)∧gH vH
def KV(h:ar)(v:Value)(ms:List fj):Prop:=∃rows:List (List Value),rows.length=ms.length∧fR h 9 v ms.length rows.flatten∧(∀j,j<ms.length→U0 h (ms.getD j fj.zero) (rows.getD j []))
structure sO(h:ar)(c:iP)(vp vi vf vm:Value):Prop where
 p:fR h 5 vp c.pool.length (du c.pool)
 pc:gH vp
 i:fR h 1 vi c.ifs.length (Cq c.ifs)
 ic:gH vi
 f:fR h 4 vf c.fields.length (vr c.fields)
 fc:gH vf
 m:KV h vm c.methods
 mc:gH vm
theorem U0.ext{h h':ar}{m:fj}{r:List Value}(H:U0 h m r)(hx:Ext h h'):U0 h' m r:=by
 obtain⟨vH,h1,h2,h3⟩:=H;exact⟨vH,h1,h2.ext (by decide) hx,h3⟩
theorem U0.len{h:ar}{m:fj}{r:List Value}(H:U0 h m r):r.length=9:=by
 obtain⟨vH,rfl,_⟩:=H;rfl
theorem KV.ext{h h':ar}{v:Value}{ms:List fj}(H:KV h v ms)(hx:Ext h h'):KV h' v ms:=by
 obtain⟨rows,h1,h2,h3⟩:=H;exact⟨rows,h1,h2.ext (by decide) hx,fun j hj=>(h3 j hj).ext hx⟩
theorem sO.ext{h h':ar}{c:iP}{vp vi vf vm:Value}(H:sO h c vp vi vf vm)(hx:Ext h h'):sO h' c vp vi vf vm:=
 ⟨H.p.ext (by decide) hx,H.pc,H.i.ext (by decide) hx,H.ic,H.f.ext (by decide) hx,H.fc,H.m.ext hx,H.mc⟩
theorem WC(n:Nat):∀(rows:List (List Value))(i:Nat),(∀r∈rows,r.length=n)→i<rows.length→(rows.flatten.drop (i*n)).take n=rows.getD i []:=by
 intro rows
 induction rows with
 |nil=>intro i _ hi;simp at hi
 |cons r rows ih=>
  intro i oD hi;have hr:=oD r (by simp);cases i with
  |zero=>simp only[List.flatten_cons,Nat.zero_mul,axd,List.getD_cons_zero];exact List.take_left' hr
  |succ i=>
   rw[List.flatten_cons,show(i+1)*n=n+i*n by rw[Nat.add_mul];omega,←awN,List.drop_left' hr,List.getD_cons_succ];exact ih i (fun r MB=>oD r (by simp[MB])) (by simpa using hi)
theorem KV.at{h:ar}{v:Value}{ms:List fj}(H:KV h v ms){i:Nat}(hi:i<ms.length):∃b o c vH,v= .slice (some ⟨b,o,none⟩) ms.length c∧Rd h b (o+i*9) (fQ (ms.getD i fj.zero) vH)∧
 fR h 4 vH (ms.getD i fj.zero).code.hs.length (gZ (ms.getD i fj.zero).code.hs)∧gH vH:=by
 obtain⟨rows,h1,h2,h3⟩:=H;obtain⟨b,o,c,e1,e2,_⟩:=h2.at hi;have oD:∀r∈rows,r.length=9:=by
  intro r hr;obtain⟨j,hj,rfl⟩:=List.mem_iff_getElem.1 hr;have:=(h3 j (by omega)).len;simpa[hj]using this
 rw[WC 9 rows i oD (by omega)]at e2;obtain⟨vH,q1,q2,q3⟩:=h3 i hi;rw[q1]at e2;exact⟨b,o,c,vH,e1,e2,q2,q3⟩
def cvN:az:=[67,111,110,115,116,97,110,116,86,97,108,117,101]
def cdN:az:=[67,111,100,101]
def smN:az:=[83,116,97,99,107,77,97,112,84,97,98,108,101]
theorem Gn{l:List Nat}{i:Nat}(hi:i<l.length):((Cq l).drop (i*1)).take 1=[ax (l.getD i 0:Nat)]:=by
 rw[Nat.mul_one];unfold Cq;rw[awO (by simpa using hi)];simp[hi]
theorem U1{l:List ns}{i:Nat}(hi:i<l.length):((gZ l).drop (i*4)).take 4=(l.getD i ns.zero).cells:=Zc ns.cells 4 (fun _=>rfl) ns.zero hi
theorem zT{l:List fC}{i:Nat}(hi:i<l.length):((vr l).drop (i*4)).take 4=(l.getD i fC.zero).cells:=Zc fC.cells 4 (fun _=>rfl) fC.zero hi
theorem ael{h h':ar}(x:Ext h h'){b j:Nat}{v:Value}(hc:cellAt h ⟨b,j,none⟩=some v):cellAt h' ⟨b,j,none⟩=some v:=by
 rw[x.cell (sp:=none) (JJ hc) id];exact hc
theorem U2{α:Type}(f:α→List Value)(hf:∀x,∀u∈f x,oneCell u=true)(l:List α):∀u∈l.flatMap f,oneCell u=true:=by
 intro u hu;obtain⟨x,_,hx⟩:=List.mem_flatMap.1 hu;exact hf x u hx
theorem ahl(l:List fC):∀u∈vr l,oneCell u=true:=U2 fC.cells (fun x u hu=>by
 simp only[fC.cells,awL,awP,aw6]at hu;rcases hu with rfl|rfl|rfl|rfl<;>rfl) l
theorem ahm(l:List ns):∀u∈gZ l,oneCell u=true:=U2 ns.cells (fun x u hu=>by
 simp only[ns.cells,awL,awP,aw6]at hu;rcases hu with rfl|rfl|rfl|rfl<;>rfl) l
theorem abE{m:fj}{vH:Value}(hv:oneCell vH=true):∀u∈fQ m vH,oneCell u=true:=by
 intro u hu;simp only[fQ,fX,awC,awD,awL,awP,aw6]at hu;rcases hu with rfl|rfl|rfl|rfl|rfl|rfl|rfl|rfl|rfl<;>first|rfl|exact hv
def acI(p:List aX)(c:aX):Nat:=
 if eV p c.a 7=false∨eV p c.b 12=false then 7
 else if eV p (p.getD c.b aX.zero).a 1=false∨eV p (p.getD c.b aX.zero).b 1=false then 7
 else if c.tag=9 then(if dc (bM p (p.getD c.b aX.zero).a) false=0 then 8 else if cG (bM p (p.getD c.b aX.zero).b)=false then 9 else 0)
 else if dc (bM p (p.getD c.b aX.zero).a) true=0∨dc (bM p (p.getD c.b aX.zero).a) true=3∨(dc (bM p (p.getD c.b aX.zero).a) true=2∧c.tag=11)then 8
 else if(fV (bM p (p.getD c.b aX.zero).b)).isSome=false∨(dc (bM p (p.getD c.b aX.zero).a) true=2∧mG (bM p (p.getD c.b aX.zero).b)≠[86])then 9 else 0
def jL(p:List aX)(c:aX):Nat:=
 if c.tag=7 then(if eV p c.a 1=false then 7 else if jA (bM p c.a)=false then 8 else 0)
 else if c.tag=8 then(if eV p c.a 1=false then 7 else 0)
 else if c.tag=12 then(if eV p c.a 1=false∨eV p c.b 1=false then 7 else if dc (bM p c.a) true=0∧dc (bM p c.a) false=0 then 8
  else if(fV (bM p c.b)).isSome=false∧cG (bM p c.b)=false then 9 else 0)
 else if c.tag=9∨c.tag=10∨c.tag=11 then acI p c else 0
theorem MV(s:az)(m:Bool):dc s m<4:=by
 unfold dc
 split
 ·decide
 split
 ·decide
 split<;>decide
structure CB(h:ar)(g:Nat)(c:iP)(vp vi vf vm:Value):Prop where
 blk:h[g]? =some (.cells (mP c vp vi vf vm).toArray 96 (0,0))
 cls:sO h c vp vi vf vm
theorem CB.ext{h h':ar}{g:Nat}{c:iP}{vp vi vf vm:Value}(H:CB h g c vp vi vf vm)(x:Ext h h'):CB h' g c vp vi vf vm:=⟨ay x H.blk awx,H.cls.ext x⟩
theorem CB.at{h:ar}{g:Nat}{c:iP}{vp vi vf vm:Value}(H:CB h g c vp vi vf vm){i:Nat}{v:Value}(hi:(mP c vp vi vf vm)[i]? =some v):cellAt h ⟨g,i,none⟩=some v:=by
 rw[au H.blk];simpa using hi
structure CF(c:iP):Prop where
 fit:c.Fit
 len:c.pool.length≤65536
 txt:∀x∈c.pool,x.text.length≤4294967296
section
section
variable{h:ar}{g:Nat}{c:iP}{vp vi vf vm:Value}
abbrev vw(g:Nat):Value:= .agg #[aE g]
theorem CF.str{c:iP}(F:CF c)(k:Nat):(bM c.pool k).length≤4294967296:=pX F.txt k
theorem jC(H:CB h g c vp vi vf vm)(k:Nat)(hk:k<65536):
 aF Tryz.prog 157 #[vw g,ax k] h fun v h'=>Ext h h'∧v= .tuple #[str (bM c.pool k), .bool (eV c.pool k 1)]:=by
 refine LR (args:=[vw g,ax k]) rfl ?_;simp only[BE,ae,seval];refine cT ?_;have q0:cellAt (h.push (.cells #[aE g] 157)) ⟨h.size,0,none⟩=some (aE g):=by rw[fo];rfl
 have E:=Ext.push h (.cells #[aE g] 157);have H1:=H.ext E;simp only[BE,ae,seval];generalize h.push _=h1,h.size=q at*;have c5:cellAt h1 ⟨g,5,none⟩=some vp:=H1.at rfl;simp only[ae,seval,q0,c5];refine aj rfl (pY k hk H1.cls.p) ?_;rintro v2 h2⟨rfl,rfl⟩;simp only[ae,seval,q0,c5];refine aj rfl (lC k 1 hk H1.cls.p) ?_;rintro v3 h3⟨rfl,rfl⟩;simp only[ae,seval,];exact E
theorem tY(H:CB h g c vp vi vf vm)(F:CF c)(k:Nat)(hk:k<65536):
 aF Tryz.prog 160 #[vw g,ax k] h fun v h'=>Ext h h'∧v= .tuple #[str (bZ c.pool k).1, .bool (bZ c.pool k).2]:=by
 refine JY (args:=[vw g,ax k]) rfl ?_;simp only[oq,ae,seval];refine cT ?_;have q0:cellAt (h.push (.cells #[aE g] 157)) ⟨h.size,0,none⟩=some (aE g):=by rw[fo];rfl
 have qb:(h.push (.cells #[aE g] 157))[h.size]? =some (.cells ([aE g]:List Value).toArray 157 (0,0)):=by simp
 have qk:=aS KA (aN qb) rfl;have E:=Ext.push h (.cells #[aE g] 157);have H1:=H.ext E;simp only[oq,ae,seval];generalize h.push _=h1,h.size=q at*;have c5:cellAt h1 ⟨g,5,none⟩=some vp:=H1.at rfl;simp only[ae,seval,q0,c5];refine aj rfl (lC k 7 hk H1.cls.p) ?_;rintro v2 h2⟨rfl,rfl⟩;unfold bZ;cases h7:eV c.pool k 7 with
 |false=>
  simp only[oq,ae,seval];exact E
 |true=>
  obtain⟨_,pD⟩:=sf h7;have AF:(k:Int)<(c.pool.length:Int):=by omega
  have hs:=H1.cls.p;obtain⟨b,o,c',Sm,di,_⟩:=hs.at pD;subst Sm;rw[iu pD]at di;have Yv:(c.pool.getD k aX.zero).a<65536:=(F.fit.pool _ (by simp[pD])).a;generalize c.pool.getD k aX.zero=x at*;have c3:cellAt h2 ⟨b,o+k*5+3,none⟩=some (ax x.a):=di 3 _ rfl;simp(disch:=omega)only[oq,ae,seval,q0,qk,c5,c3];refine aj rfl (jC H1 x.a Yv) ?_;rintro v3 h3⟨x3,rfl⟩;simp only[ae,seval]
  first|exact E.trans x3|exact⟨E.trans x3,rfl⟩
theorem T0(H:CB h g c vp vi vf vm)(F:CF c)(k:aX)(hk:k.Fit)(ht:k.tag=9∨k.tag=10∨k.tag=11):
 aF Tryz.prog 159 #[vw g,MN k] h fun v h'=>Ext h h'∧v=ao (acI c.pool k:Nat):=by
 refine HG (args:=[vw g,MN k]) rfl ?_;simp(disch:=omega)only[cA,ae,↓reduceIte,Nat.reduceEqDiff,reduceCtorEq,Nat.reduceLeDiff,Nat.reducePow,Int.reducePow,Int.reduceToNat,Nat.reduceAdd];refine cT ?_;have qb:(h.push (.cells #[aE g] 157))[h.size]? =some (.cells ([aE g]:List Value).toArray 157 (0,0)):=by simp
 have E:=Ext.push h (.cells #[aE g] 157);simp(disch:=omega)only[cA,ae,↓reduceIte,Nat.reduceEqDiff,reduceCtorEq,Nat.reduceLeDiff,Nat.reducePow,Int.reducePow,Int.reduceToNat,Nat.reduceAdd,aw2];generalize h.push _=h1,h.size=q at*;refine cT ?_;have E1:=Ext.push h1 (.cells #[bH k.tag,str k.text, .int .u64 (k.bits:Int),ax k.a,ax k.b] 160);have qc:(h1.push (.cells #[bH k.tag,str k.text, .int .u64 (k.bits:Int),ax k.a,ax k.b] 160))[h1.size]? =some (.cells #[bH k.tag,str k.text, .int .u64 (k.bits:Int),ax k.a,ax k.b] 160 (0,0)):=by simp
 have qb:=ay E1 qb awx;simp(disch:=omega)only[cA,ae,↓reduceIte,Nat.reduceEqDiff,reduceCtorEq,Nat.reduceLeDiff,Nat.reducePow,Int.reducePow,Int.reduceToNat,Nat.reduceAdd,aw2];generalize h1.push _=h2,h1.size=q2 at*;have x2:=E.trans E1;have H2:=H.ext x2;have key:∀h3,Ext h2 h3→cellAt h3 ⟨q,0,none⟩=some (aE g)∧ld Tryz.prog 157 ⟨q,0,none⟩ h3=some (vw g)∧cellAt h3 ⟨g,5,none⟩=some vp∧
  cellAt h3 ⟨q2,0,none⟩=some (bH k.tag)∧cellAt h3 ⟨q2,3,none⟩=some (ax k.a)∧cellAt h3 ⟨q2,4,none⟩=some (ax k.b):=by
  intro h3 x3;have b1:=ay x3 qb awx;have b2:=ay x3 qc awx;refine⟨?_,aS KA (aN b1) rfl,(H2.ext x3).at rfl,?_,?_,?_⟩
  ·rw[au b1];rfl
  all_goals rw[au b2];rfl
 obtain⟨q0,ql,c5,k0,k3,k4⟩:=key h2 (Ext.refl _);simp(disch:=omega)only[cA,ae,↓reduceIte,Nat.reduceEqDiff,reduceCtorEq,Nat.reduceLeDiff,Nat.reducePow,Int.reducePow,Int.reduceToNat,Nat.reduceAdd,q0,c5,k3];refine aj rfl (lC k.a 7 hk.a H2.cls.p) ?_;rintro v3 h3⟨rfl,rfl⟩;unfold acI;cases h7:eV c.pool k.a 7 with
 |false=>
  rw[awa (.inl rfl)];simp(disch:=omega)only[cA,ae,↓reduceIte,Nat.reduceEqDiff,reduceCtorEq,Nat.reduceLeDiff,Nat.reducePow,Int.reducePow,Int.reduceToNat,Nat.reduceAdd,q0,c5,k3,k4];exact⟨x2,rfl⟩
 |true=>
  simp(disch:=omega)only[cA,ae,↓reduceIte,Nat.reduceEqDiff,reduceCtorEq,Nat.reduceLeDiff,Nat.reducePow,Int.reducePow,Int.reduceToNat,Nat.reduceAdd,q0,c5,k3,k4];refine aj rfl (lC k.b 12 hk.b H2.cls.p) ?_;rintro v3 h3⟨rfl,rfl⟩;cases xV:eV c.pool k.b 12 with
  |false=>
   rw[awa (.inr rfl)];simp(disch:=omega)only[cA,ae,↓reduceIte,Nat.reduceEqDiff,reduceCtorEq,Nat.reduceLeDiff,Nat.reducePow,Int.reducePow,Int.reduceToNat,Nat.reduceAdd,q0,c5,k3,k4];exact⟨x2,rfl⟩
  |true=>
   rw[av9 (by simp)];obtain⟨_,pD⟩:=sf xV;have AF:(k.b:Int)<(c.pool.length:Int):=by omega
   have hs:=H2.cls.p;obtain⟨b,o,c',Sm,di,_⟩:=hs.at pD;subst Sm;rw[iu pD]at di;have RF:=F.fit.pool (c.pool.getD k.b aX.zero) (by simp[pD]);generalize c.pool.getD k.b aX.zero=y at*;have y3:cellAt h3 ⟨b,o+k.b*5+3,none⟩=some (ax y.a):=di 3 _ rfl;simp(disch:=omega)only[cA,ae,↓reduceIte,Nat.reduceEqDiff,reduceCtorEq,Nat.reduceLeDiff,Nat.reducePow,Int.reducePow,Int.reduceToNat,Nat.reduceAdd,q0,ql,c5,k3,k4,AF,y3];refine aj rfl (jC H2 y.a RF.a) ?_;rintro v4 h4⟨x4,rfl⟩;obtain⟨q0,ql,c5,k0,k3,k4⟩:=key h4 x4;have y4:cellAt h4 ⟨b,o+k.b*5+4,none⟩=some (ax y.b):=(x4.rd di (di.lt (by simp[aX.cells])) awx) 4 _ rfl;simp(disch:=omega)only[cA,ae,↓reduceIte,Nat.reduceEqDiff,reduceCtorEq,Nat.reduceLeDiff,Nat.reducePow,Int.reducePow,Int.reduceToNat,Nat.reduceAdd,q0,ql,c5,k3,k4,AF,y4];refine aj rfl (jC (H2.ext x4) y.b RF.b) ?_;rintro v5 h5⟨x5,rfl⟩;have x25:=x4.trans x5;have xx:=x2.trans x25;have la:=F.str y.a;have lb:=F.str y.b;obtain⟨q0,ql,c5,k0,k3,k4⟩:=key h5 x25;generalize bM c.pool y.a=na,bM c.pool y.b=nd at*;cases eV c.pool y.a 1 with
   |false=>
    rw[awa (.inl rfl)];simp(disch:=omega)only[cA,ae,↓reduceIte,Nat.reduceEqDiff,reduceCtorEq,Nat.reduceLeDiff,Nat.reducePow,Int.reducePow,Int.reduceToNat,Nat.reduceAdd];exact⟨xx,rfl⟩
   |true=>
    cases eV c.pool y.b 1 with
    |false=>
     rw[awa (.inr rfl)];simp(disch:=omega)only[cA,ae,↓reduceIte,Nat.reduceEqDiff,reduceCtorEq,Nat.reduceLeDiff,Nat.reducePow,Int.reducePow,Int.reduceToNat,Nat.reduceAdd];exact⟨xx,rfl⟩
    |true=>
     rw[av9 (by simp)];by_cases t9:k.tag=9
     ·rw[awa t9]
      simp(disch:=omega)only[cA,ae,↓reduceIte,Nat.reduceEqDiff,reduceCtorEq,Nat.reduceLeDiff,Nat.reducePow,Int.reducePow,Int.reduceToNat,Nat.reduceAdd,k0,va];refine aj rfl (nP na false la) ?_;rintro v6 h6⟨x6,rfl⟩;by_cases m0:dc na false=0
      ·rw[awa m0]
       simp(disch:=omega)only[cA,ae,↓reduceIte,Nat.reduceEqDiff,reduceCtorEq,Nat.reduceLeDiff,Nat.reducePow,Int.reducePow,Int.reduceToNat,Nat.reduceAdd,va];exact⟨xx.trans x6,rfl⟩
      ·rw[av9 m0]
       simp(disch:=omega)only[cA,ae,↓reduceIte,Nat.reduceEqDiff,reduceCtorEq,Nat.reduceLeDiff,Nat.reducePow,Int.reducePow,Int.reduceToNat,Nat.reduceAdd,va];refine aj rfl (rI nd lb) ?_;rintro v7 h7⟨x7,rfl⟩;cases cG nd
       all_goals
        simp(disch:=omega)only[cA,ae,↓reduceIte,Nat.reduceEqDiff,reduceCtorEq,Nat.reduceLeDiff,Nat.reducePow,Int.reducePow,Int.reduceToNat,Nat.reduceAdd,va];exact⟨(xx.trans x6).trans x7,rfl⟩
     ·rw[av9 t9]
      simp(disch:=omega)only[cA,ae,↓reduceIte,Nat.reduceEqDiff,reduceCtorEq,Nat.reduceLeDiff,Nat.reducePow,Int.reducePow,Int.reduceToNat,Nat.reduceAdd,k0,va];refine aj rfl (sJ nd lb) ?_;rintro v6 h6⟨x6,hm⟩;obtain⟨sv,rfl,_⟩:=jX hm;simp(disch:=omega)only[cA,ae,↓reduceIte,Nat.reduceEqDiff,reduceCtorEq,Nat.reduceLeDiff,Nat.reducePow,Int.reducePow,Int.reduceToNat,Nat.reduceAdd];refine aj rfl (nP na true la) ?_;rintro v7 h7⟨x7,rfl⟩;obtain⟨q0,ql,c5,k0,k3,k4⟩:=key h7 ((x25.trans x6).trans x7);have Gp:=(xx.trans x6).trans x7;generalize dc na true=kd,(fV nd).isSome=ok,mG nd=gv at*;by_cases c1:kd=0
      ·rw[awa (.inl c1)]
       simp(disch:=omega)only[cA,ae,↓reduceIte,Nat.reduceEqDiff,reduceCtorEq,Nat.reduceLeDiff,Nat.reducePow,Int.reducePow,Int.reduceToNat,Nat.reduceAdd,k0,va];exact⟨Gp,rfl⟩
      by_cases c2:kd=3
      ·rw[awa (.inr (.inl c2))]
       simp(disch:=omega)only[cA,ae,↓reduceIte,Nat.reduceEqDiff,reduceCtorEq,Nat.reduceLeDiff,Nat.reducePow,Int.reducePow,Int.reduceToNat,Nat.reduceAdd,k0,va];exact⟨Gp,rfl⟩
      by_cases c4:kd=2
      ·by_cases c3:k.tag=11
       ·rw[awa (.inr (.inr ⟨c4,c3⟩))]
        simp(disch:=omega)only[cA,ae,↓reduceIte,Nat.reduceEqDiff,reduceCtorEq,Nat.reduceLeDiff,Nat.reducePow,Int.reducePow,Int.reduceToNat,Nat.reduceAdd,k0,va];exact⟨Gp,rfl⟩
       ·rw[av9 (by omega)]
        by_cases hg:gv=[86]
        ·cases ok
         ·rw[awa (.inl rfl)]
          simp(disch:=omega)only[cA,ae,↓reduceIte,Nat.reduceEqDiff,reduceCtorEq,Nat.reduceLeDiff,Nat.reducePow,Int.reducePow,Int.reduceToNat,Nat.reduceAdd,k0,va];exact⟨Gp,rfl⟩
         ·rw[av9 (by simp[hg])]
          simp(disch:=omega)only[cA,ae,↓reduceIte,Nat.reduceEqDiff,reduceCtorEq,Nat.reduceLeDiff,Nat.reducePow,Int.reducePow,Int.reduceToNat,Nat.reduceAdd,k0,va];exact⟨Gp,rfl⟩
        ·rw[awa (.inr ⟨c4,hg⟩)]
         cases ok
         all_goals
          simp(disch:=omega)only[cA,ae,↓reduceIte,Nat.reduceEqDiff,reduceCtorEq,Nat.reduceLeDiff,Nat.reducePow,Int.reducePow,Int.reduceToNat,Nat.reduceAdd,k0,va];exact⟨Gp,rfl⟩
      ·rw[av9 (by omega)]
       cases ok
       ·rw[awa (.inl rfl)]
        simp(disch:=omega)only[cA,ae,↓reduceIte,Nat.reduceEqDiff,reduceCtorEq,Nat.reduceLeDiff,Nat.reducePow,Int.reducePow,Int.reduceToNat,Nat.reduceAdd,k0,va];exact⟨Gp,rfl⟩
       ·rw[av9 (by simp[c4])]
        simp(disch:=omega)only[cA,ae,↓reduceIte,Nat.reduceEqDiff,reduceCtorEq,Nat.reduceLeDiff,Nat.reducePow,Int.reducePow,Int.reduceToNat,Nat.reduceAdd,k0,va];exact⟨Gp,rfl⟩
end
end
section
section
variable{h:ar}{g:Nat}{c:iP}{vp vi vf vm:Value}
def Bx(h:ar)(q g:Nat):Prop:=h[q]? =some (.cells ([aE g]:List Value).toArray 157 (0,0))
theorem Bx.ext{h h':ar}{q g:Nat}(H:Bx h q g)(x:Ext h h'):Bx h' q g:=ay x H awx
theorem Bx.p{h:ar}{q g:Nat}(H:Bx h q g):cellAt h ⟨q,0,none⟩=some (aE g):=by rw[au H];rfl
theorem Bx.l{h:ar}{q g:Nat}(H:Bx h q g):ld Tryz.prog 157 ⟨q,0,none⟩ h=some (vw g):=aS KA (aN H) rfl
theorem Bx.new{h:ar}{g:Nat}:Bx (h.push (.cells #[aE g] 157)) h.size g:=by simp[Bx]
abbrev MW(k:aX):Obj:= .cells #[bH k.tag,str k.text, .int .u64 (k.bits:Int),ax k.a,ax k.b] 160
theorem WE{h:ar}{q:Nat}{k:aX}(hb:h[q]? =some (MW k)):ld Tryz.prog 160 ⟨q,0,none⟩ h=some (MN k):=
 aS eA (aN (vs:=[bH k.tag,str k.text, .int .u64 (k.bits:Int),ax k.a,ax k.b]) hb) rfl
theorem Qt(H:CB h g c vp vi vf vm)(F:CF c)(k:aX)(hk:k.Fit):
 aF Tryz.prog 85 #[vw g,MN k] h fun v h'=>Ext h h'∧v=ao (jL c.pool k:Nat):=by
 refine CX (args:=[vw g,MN k]) rfl ?_;simp(disch:=omega)only[bL,ae,↓reduceIte,Nat.reduceEqDiff,reduceCtorEq,Nat.reduceLeDiff,Nat.reducePow,Int.reducePow,Int.reduceToNat,Nat.reduceAdd];refine cT ?_;have B:=Bx.new (h:=h) (g:=g);have E:=Ext.push h (.cells #[aE g] 157);simp(disch:=omega)only[bL,ae,↓reduceIte,Nat.reduceEqDiff,reduceCtorEq,Nat.reduceLeDiff,Nat.reducePow,Int.reducePow,Int.reduceToNat,Nat.reduceAdd,aw2];generalize h.push _=h1,h.size=q at*;refine cT ?_;have E1:=Ext.push h1 (MW k);have qc:(h1.push (MW k))[h1.size]? =some (MW k):=by simp
 have B:=B.ext E1;simp(disch:=omega)only[bL,ae,↓reduceIte,Nat.reduceEqDiff,reduceCtorEq,Nat.reduceLeDiff,Nat.reducePow,Int.reducePow,Int.reduceToNat,Nat.reduceAdd,aw2];generalize h1.push _=h2,h1.size=q2 at*;have x2:=E.trans E1;have H2:=H.ext x2;have key:∀h3,Ext h2 h3→cellAt h3 ⟨q2,0,none⟩=some (bH k.tag)∧cellAt h3 ⟨q2,3,none⟩=some (ax k.a)∧cellAt h3 ⟨q2,4,none⟩=some (ax k.b):=by
  intro h3 x3;have b2:=ay x3 qc awx;refine⟨?_,?_,?_⟩
  all_goals rw[au b2];rfl
 obtain⟨k0,k3,k4⟩:=key h2 (Ext.refl _);have ql:=B.l;have la:=F.str k.a;have lb:=F.str k.b;have lQ:=WE qc;unfold jL;by_cases t7:k.tag=7
 ·rw[awa t7]
  simp(disch:=omega)only[bL,ae,↓reduceIte,Nat.reduceEqDiff,reduceCtorEq,Nat.reduceLeDiff,Nat.reducePow,Int.reducePow,Int.reduceToNat,Nat.reduceAdd,k0,ql,k3,va];refine aj rfl (jC H2 k.a hk.a) ?_;rintro v3 h3⟨x3,rfl⟩;generalize bM c.pool k.a=na at*;cases eV c.pool k.a 1 with
  |false=>
   simp(disch:=omega)only[bL,ae,↓reduceIte,Nat.reduceEqDiff,reduceCtorEq,Nat.reduceLeDiff,Nat.reducePow,Int.reducePow,Int.reduceToNat,Nat.reduceAdd];exact⟨x2.trans x3,rfl⟩
  |true=>
   simp(disch:=omega)only[bL,ae,↓reduceIte,Nat.reduceEqDiff,reduceCtorEq,Nat.reduceLeDiff,Nat.reducePow,Int.reducePow,Int.reduceToNat,Nat.reduceAdd];refine aj rfl (Rx na la) ?_;rintro v4 h4⟨x4,rfl⟩;cases jA na
   all_goals
    simp(disch:=omega)only[bL,ae,↓reduceIte,Nat.reduceEqDiff,reduceCtorEq,Nat.reduceLeDiff,Nat.reducePow,Int.reducePow,Int.reduceToNat,Nat.reduceAdd];exact⟨(x2.trans x3).trans x4,rfl⟩
 rw[av9 t7];by_cases t8:k.tag=8
 ·rw[awa t8]
  simp(disch:=omega)only[bL,ae,↓reduceIte,Nat.reduceEqDiff,reduceCtorEq,Nat.reduceLeDiff,Nat.reducePow,Int.reducePow,Int.reduceToNat,Nat.reduceAdd,k0,ql,k3,va];refine aj rfl (jC H2 k.a hk.a) ?_;rintro v3 h3⟨x3,rfl⟩;cases eV c.pool k.a 1
  all_goals
   simp(disch:=omega)only[bL,ae,↓reduceIte,Nat.reduceEqDiff,reduceCtorEq,Nat.reduceLeDiff,Nat.reducePow,Int.reducePow,Int.reduceToNat,Nat.reduceAdd];exact⟨x2.trans x3,rfl⟩
 rw[av9 t8];by_cases t12:k.tag=12
 ·rw[awa t12]
  simp(disch:=omega)only[bL,ae,↓reduceIte,Nat.reduceEqDiff,reduceCtorEq,Nat.reduceLeDiff,Nat.reducePow,Int.reducePow,Int.reduceToNat,Nat.reduceAdd,k0,ql,k3,va];refine aj rfl (jC H2 k.a hk.a) ?_;rintro v3 h3⟨x3,rfl⟩;have ql3:=(B.ext x3).l;obtain⟨_,_,k4⟩:=key h3 x3;simp(disch:=omega)only[bL,ae,↓reduceIte,Nat.reduceEqDiff,reduceCtorEq,Nat.reduceLeDiff,Nat.reducePow,Int.reducePow,Int.reduceToNat,Nat.reduceAdd,ql3,k4];refine aj rfl (jC (H2.ext x3) k.b hk.b) ?_;rintro v4 h4⟨x4,rfl⟩;generalize bM c.pool k.a=na,bM c.pool k.b=nd,eV c.pool k.a 1=b1,eV c.pool k.b 1=b2 at*;simp(disch:=omega)only[bL,ae,↓reduceIte,Nat.reduceEqDiff,reduceCtorEq,Nat.reduceLeDiff,Nat.reducePow,Int.reducePow,Int.reduceToNat,Nat.reduceAdd];refine aj rfl (sJ nd lb) ?_;rintro v5 h5⟨x5,hm⟩;obtain⟨sv,rfl,_⟩:=jX hm;have xx:=((x2.trans x3).trans x4).trans x5;generalize(fV nd).isSome=ok,mG nd=gv at*;cases b1 with
  |false=>
   rw[awa (.inl rfl)];simp(disch:=omega)only[bL,ae,↓reduceIte,Nat.reduceEqDiff,reduceCtorEq,Nat.reduceLeDiff,Nat.reducePow,Int.reducePow,Int.reduceToNat,Nat.reduceAdd];exact⟨xx,rfl⟩
  |true=>
   cases b2 with
   |false=>
    rw[awa (.inr rfl)];simp(disch:=omega)only[bL,ae,↓reduceIte,Nat.reduceEqDiff,reduceCtorEq,Nat.reduceLeDiff,Nat.reducePow,Int.reducePow,Int.reduceToNat,Nat.reduceAdd];exact⟨xx,rfl⟩
   |true=>
    rw[av9 (by simp)];simp(disch:=omega)only[bL,ae,↓reduceIte,Nat.reduceEqDiff,reduceCtorEq,Nat.reduceLeDiff,Nat.reducePow,Int.reducePow,Int.reduceToNat,Nat.reduceAdd];refine aj rfl (nP na true la) ?_;rintro v6 h6⟨x6,rfl⟩;by_cases m0:dc na true=0
    ·simp(disch:=omega)only[bL,ae,↓reduceIte,Nat.reduceEqDiff,reduceCtorEq,Nat.reduceLeDiff,Nat.reducePow,Int.reducePow,Int.reduceToNat,Nat.reduceAdd,va]
     refine aj rfl (nP na false la) ?_;rintro v7 h7⟨x7,rfl⟩;by_cases m1:dc na false=0
     ·rw[awa ⟨m0,m1⟩]
      simp(disch:=omega)only[bL,ae,↓reduceIte,Nat.reduceEqDiff,reduceCtorEq,Nat.reduceLeDiff,Nat.reducePow,Int.reducePow,Int.reduceToNat,Nat.reduceAdd,va];exact⟨(xx.trans x6).trans x7,rfl⟩
     ·rw[av9 (fun x=>m1 x.2)]
      cases ok with
      |true=>
       rw[av9 (by simp)];simp(disch:=omega)only[bL,ae,↓reduceIte,Nat.reduceEqDiff,reduceCtorEq,Nat.reduceLeDiff,Nat.reducePow,Int.reducePow,Int.reduceToNat,Nat.reduceAdd,va];exact⟨(xx.trans x6).trans x7,rfl⟩
      |false=>
       simp(disch:=omega)only[bL,ae,↓reduceIte,Nat.reduceEqDiff,reduceCtorEq,Nat.reduceLeDiff,Nat.reducePow,Int.reducePow,Int.reduceToNat,Nat.reduceAdd,va];refine aj rfl (rI nd lb) ?_;rintro v8 h8⟨x8,rfl⟩;cases cG nd
       all_goals
        simp(disch:=omega)only[bL,ae,↓reduceIte,Nat.reduceEqDiff,reduceCtorEq,Nat.reduceLeDiff,Nat.reducePow,Int.reducePow,Int.reduceToNat,Nat.reduceAdd,va];exact⟨((xx.trans x6).trans x7).trans x8,rfl⟩
    ·rw[av9 (fun x=>m0 x.1)]
     cases ok with
     |true=>
      rw[av9 (by simp)];simp(disch:=omega)only[bL,ae,↓reduceIte,Nat.reduceEqDiff,reduceCtorEq,Nat.reduceLeDiff,Nat.reducePow,Int.reducePow,Int.reduceToNat,Nat.reduceAdd,va];exact⟨xx.trans x6,rfl⟩
     |false=>
      simp(disch:=omega)only[bL,ae,↓reduceIte,Nat.reduceEqDiff,reduceCtorEq,Nat.reduceLeDiff,Nat.reducePow,Int.reducePow,Int.reduceToNat,Nat.reduceAdd,va];refine aj rfl (rI nd lb) ?_;rintro v8 h8⟨x8,rfl⟩;cases cG nd
      all_goals
       simp(disch:=omega)only[bL,ae,↓reduceIte,Nat.reduceEqDiff,reduceCtorEq,Nat.reduceLeDiff,Nat.reducePow,Int.reducePow,Int.reduceToNat,Nat.reduceAdd,va];exact⟨(xx.trans x6).trans x8,rfl⟩
 rw[av9 t12];by_cases t9:k.tag=9∨k.tag=10∨k.tag=11
 ·rw[awa t9]
  rcases t9 with t|t|t
  all_goals
   simp(disch:=omega)only[bL,ae,↓reduceIte,Nat.reduceEqDiff,reduceCtorEq,Nat.reduceLeDiff,Nat.reducePow,Int.reducePow,Int.reduceToNat,Nat.reduceAdd,k0,ql,lQ,va];refine aj rfl (T0 H2 F k hk (by omega)) ?_;rintro v3 h3⟨x3,rfl⟩;simp(disch:=omega)only[bL,ae,↓reduceIte,Nat.reduceEqDiff,reduceCtorEq,Nat.reduceLeDiff,Nat.reducePow,Int.reducePow,Int.reduceToNat,Nat.reduceAdd];exact x2.trans x3
 ·rw[av9 t9]
  simp(disch:=omega)only[bL,ae,↓reduceIte,Nat.reduceEqDiff,reduceCtorEq,Nat.reduceLeDiff,Nat.reducePow,Int.reducePow,Int.reduceToNat,Nat.reduceAdd,k0,va];exact⟨x2,rfl⟩
end
end
section
theorem jR(f m:Nat)(hf:f<65536)(hm:m<65536):cB .and .u16 (f:Int) (m:Int)=((f&&&m:Nat):Int):=Uw rfl f m (by simpa[IntKind.bits]using hf) (by simpa[IntKind.bits]using hm)
def yb(f:Nat):Bool:=(decide (f&&&512≠0)&&(decide (f&&&1024=0)||decide (f&&&48≠0)))||(decide (f&&&1024≠0)&&decide (f&&&16≠0))
def zU:az:=[106,97,118,97,47,108,97,110,103,47,79,98,106,101,99,116]
def vz(p:List aX):List Nat→List (az)→Nat
 |[],_=>0
 |x::r,seen=>if(bZ p x).2=false then 7 else if(bZ p x).1.head?=some 91 then 8 else if(bZ p x).1∈seen then 11 else vz p r (seen++[(bZ p x).1])
def oE(c:iP):Nat:=
 if yb c.flags=true then 10
 else if(bZ c.pool c.this).2=false then 7
 else if(bZ c.pool c.this).1.head?=some 91 then 8
 else if(bZ c.pool c.super).2=false then 7
 else if(bZ c.pool c.super).1.head?=some 91∨(c.flags&&&512≠0∧(bZ c.pool c.super).1≠zU)then 8
 else vz c.pool c.ifs []
theorem uq{p:List aX}(hp:∀x∈p,jL p x=0){k:Nat}(h:(bZ p k).2=true):(bZ p k).1≠[]:=by
 unfold bZ at h⊢
 split at h
 ·rename_i h7
  rw[awa h7];simp only[]at h⊢;rw[awa h];have hl:=(sf h7).2;have hc:=hp (p.getD k aX.zero) (by simp[hl]);have ht:(p.getD k aX.zero).tag=7:=by
   unfold eV at h7;simp only[awm,awo]at h7;exact h7.2.2
  unfold jL at hc;rw[awa ht,av9 (by rw[h];decide)]at hc;intro he;have hs:bM p (p.getD k aX.zero).a=[]:=by unfold bM;rw[awa h];exact he
  rw[hs,show jA []=false by decide]at hc;cases hc
 ·cases h
def kS:az→Value:=fun a=>str a
theorem acJ(a:az):Go.MapKept.IsKey .string (kS a):=trivial
theorem akp(a a':az)(h:kS a=kS a'):a=a':=by
 unfold kS str at h;injection h with h;injection h with h;simpa using h
theorem ahn:mpT Tryz.prog 253 .string (.agg #[]):=⟨_,_,_,rfl,rfl,rfl,rfl⟩
section
variable{h:ar}{g:Nat}{c:iP}{vp vi vf vm:Value}
def Gq(seen:List (az)):az→Option Value:=fun s=>if s∈seen then some (.agg #[])else none
theorem Zd(seen:List (az))(a:az):(fun a'=>if a'=a then some (.agg #[])else Gq seen a')=Gq (seen++[a]):=by
 funext s
 unfold Gq;by_cases h1:s=a
 ·simp[h1]
 ·simp[h1]
theorem MX{h0:ar}{q:Nat}{u0 u4 u5 u6 u7 u8 u53 u64 u67 u77 u80:Value}(X:Ext h0 h)(B:Bx h q g)(H:CB h g c vp vi vf vm)(F:CF c)(hp:∀x∈c.pool,jL c.pool x=0)(mL:c.ifs.length≤1073741824):
 Cd.vc Tryz.prog Ny (gP Tryz.prog [(2,none)] fun v h'=>Ext h0 h'∧v=ao (vz c.pool c.ifs []:Nat))
  [(0,u0),(1,aE q),(2,ao 0),(3,aE g),(4,u4),(5,u5),(6,u6),(7,u7),(8,u8),(9,undef),(11,undef),(12,undef),(13,undef),(15,undef),(53,u53),(64,u64),(67,u67),(77,u77),(80,u80),(95,undef),(96,undef),(97,undef),(98,undef),(108,undef),(111,undef),(118,undef)] h:=by
 rw[HJ];have DJ:=H.cls.i;obtain⟨_,a,ci,rfl,_⟩:=id DJ;simp(disch:=omega)only[bJ,ae,seval];refine qF ?_;have M0:iT kS (h.push (.map #[] 0)) h.size (fun _=>none):=iT.new;have hz0:(fun _:az=>(none:Option Value))=Gq []:=by funext s;simp[Gq]
 rw[hz0]at M0;have E1:=Ext.push h (.map #[] 0);have hmb:h.size≤h.size:=awp _;have c6:cellAt (h.push (.map #[] 0)) ⟨g,6,none⟩=some (.slice a c.ifs.length ci):=(H.ext E1).at rfl;generalize h.push _=h1 at*;obtain⟨mb,Ze⟩:∃x,x=h.size:=⟨_,rfl⟩;rw[←Ze]at M0 hmb⊢;simp(disch:=omega)only[bJ,ae,seval,c6];refine aG [1,9,95,96,97] (fun m ρ hc=>∃i:Nat,m=c.ifs.length-i∧i≤c.ifs.length∧
  ρ=[(1,aE q),(9, .map (some mb)),(95, .slice a c.ifs.length ci),(96,ao c.ifs.length),(97,ao i)]∧Ext h hc∧
  iT kS hc mb (Gq ((c.ifs.take i).map fun k=>(bZ c.pool k).1))∧vz c.pool c.ifs []=vz c.pool (c.ifs.drop i) ((c.ifs.take i).map fun k=>(bZ c.pool k).1)) ?_ ?_
 ·simp(disch:=omega)only[bJ,ae,seval]
  exact⟨_,0,rfl,awb _,rfl,E1,by simpa using M0,by simp⟩
 rintro m ρ hc⟨i,rfl,hi,rfl,hx,hM,hk⟩;by_cases aV:i<c.ifs.length
 case neg=>
  have aK:¬(i:Int)<(c.ifs.length:Int):=by omega
  rw[hk,awV (by omega)];simp(disch:=omega)only[bJ,ae,seval,va];exact⟨X.trans hx,rfl⟩
 have aK:(i:Int)<(c.ifs.length:Int):=by omega
 obtain⟨b,o,c',heq,di,_⟩:=(DJ.ext (by decide) hx).at aV;cases heq;rw[Gn aV]at di;have vB:=F.fit.ifs (c.ifs.getD i 0) (dF aV);rw[gL (d:=0) aV,vz]at hk;have mq:=iU (l:=c.ifs) (d:=0) aV;have uE:(c.ifs.take (i+1)).map (fun k=>(bZ c.pool k).1)=(c.ifs.take i).map (fun k=>(bZ c.pool k).1)++[(bZ c.pool (c.ifs.getD i 0)).1]:=by rw[mq];simp
 generalize c.ifs.getD i 0=k at*;have r0:cellAt hc ⟨b,o+i,none⟩=some (ax k):=by
  have:=di 0 (ax k) rfl;simpa using this
 have bl:=(B.ext hx).l;simp(disch:=omega)only[bJ,ae,seval,r0,bl,va];refine aj rfl (tY (H.ext hx) F k vB) ?_;rintro v1 h2⟨x1,rfl⟩;have cN:= @uq c.pool hp k;generalize(bZ c.pool k).1=nm,(bZ c.pool k).2=kk at*;have nO:=hx.trans x1;cases kk with
 |false=>
  rw[awa rfl]at hk;rw[hk];simp(disch:=omega)only[bJ,ae,↓reduceIte,Nat.reduceEqDiff,reduceCtorEq,Nat.reduceLeDiff,Nat.reducePow,Int.reducePow,Int.reduceToNat,Nat.reduceAdd];exact⟨X.trans nO,rfl⟩
 |true=>
  rw[av9 (by decide)]at hk;have hn:=cN rfl;have lp:(0:Int)<(nm.length:Int):=by have:=awr.2 hn;omega
  by_cases hb:nm.head?=some 91
  ·have g1:((nm.getD 0 0).toNat:Int)=91:=(iY hn 91).1 hb
   rw[awa hb]at hk;rw[hk];simp(disch:=omega)only[bJ,ae,↓reduceIte,Nat.reduceEqDiff,reduceCtorEq,Nat.reduceLeDiff,Nat.reducePow,Int.reducePow,Int.reduceToNat,Nat.reduceAdd,lp,g1,va];exact⟨X.trans nO,rfl⟩
  have g1:¬((nm.getD 0 0).toNat:Int)=91:=fun x=>hb ((iY hn 91).2 x);rw[av9 hb]at hk;have hM2:=hM.fr x1 awx;generalize(c.ifs.take i).map (fun k=>(bZ c.pool k).1)=seen at*;have hlk:vT Tryz.prog 253 (.map (some mb)) (str nm) true h2=some (.tuple #[.agg #[], .bool (decide (nm∈seen))]):=by
   have:=VN ahn acJ hM2 nm true;have e:Gq seen nm=if nm∈seen then some (.agg #[])else none:=rfl;rw[e]at this;by_cases hs:nm∈seen
   ·rw[awa hs]at this
    rw[awh hs];exact this
   ·rw[av9 hs]at this
    rw[awg hs];exact this
  simp(disch:=omega)only[bJ,ae,seval,lp,g1,hlk,va];refine aD Rm ?_;simp(disch:=omega)only[bJ,ae,seval];refine aI Rm rfl rfl rfl (by simp[Value.cells]) rfl ?_;intro h3 x3 _ _ _;have hM3:=hM2.fr x3 awx;have iG:=nO.trans x3;by_cases hs:nm∈seen
  ·rw[awa hs]at hk
   rw[hk];simp(disch:=omega)only[bJ,ae,↓reduceIte,Nat.reduceEqDiff,reduceCtorEq,Nat.reduceLeDiff,Nat.reducePow,Int.reducePow,Int.reduceToNat,Nat.reduceAdd,awh hs];exact⟨X.trans iG,rfl⟩
  rw[av9 hs]at hk;simp(disch:=omega)only[bJ,ae,seval,awg hs];refine sC (K:=_) ahn acJ akp (a:=nm) (b:=mb) (F:=Gq seen) rfl rfl rfl hM3 ?_;intro h4 hM4 f4 _;rw[Zd,←uE]at hM4;have hx4:Ext h h4:=Fr.trans iG f4 (fun _ _ h=>h) (fun k hk hS=>by omega);have w1:=gU (k:=i) (by omega);simp(disch:=omega)only[bJ,ae,seval,w1];exact⟨c.ifs.length-(i+1),by omega,i+1,rfl,by omega,rfl,hx4,hM4,by rw[hk,uE]⟩
theorem WG{h0:ar}{q:Nat}{face:Bool}{u0 u5 u53:Value}(X:Ext h0 h)(B:Bx h q g)(H:CB h g c vp vi vf vm)(F:CF c)(hp:∀x∈c.pool,jL c.pool x=0)(mL:c.ifs.length≤1073741824)
 (WH:face=true↔c.flags&&&512≠0)(nT:yb c.flags=false):
 Cd.vc Tryz.prog Nz (gP Tryz.prog [(2,none)] fun v h'=>Ext h0 h'∧v=ao (oE c:Nat))
  [(0,u0),(1,aE q),(2,ao 0),(3,aE g),(4, .bool face),(5,u5),(6,undef),(7,undef),(8,undef),(9,undef),(11,undef),(12,undef),(13,undef),(15,undef),(53,u53),(64,undef),(67,undef),(77,undef),(80,undef),(95,undef),(96,undef),(97,undef),(98,undef),(108,undef),(111,undef),(118,undef)] h:=by
 rw[HK];have c3:cellAt h ⟨g,3,none⟩=some (ax c.this):=H.at rfl;have bl:=B.l;unfold oE;rw[av9 (by rw[nT];decide)];simp(disch:=omega)only[bJ,ae,seval,bl,c3];refine aj rfl (tY H F c.this F.fit.this) ?_;rintro v1 h1⟨x1,rfl⟩;have aqc:= @uq c.pool hp c.this;generalize(bZ c.pool c.this).1=n1,(bZ c.pool c.this).2=k1 at*;cases k1 with
 |false=>
  simp(disch:=omega)only[bJ,ae,↓reduceIte,Nat.reduceEqDiff,reduceCtorEq,Nat.reduceLeDiff,Nat.reducePow,Int.reducePow,Int.reduceToNat,Nat.reduceAdd];exact⟨X.trans x1,rfl⟩
 |true=>
  have hn1:=aqc rfl;have lp1:(0:Int)<(n1.length:Int):=by have:=awr.2 hn1;omega
  rw[av9 (by decide)];by_cases Oq:n1.head?=some 91
  ·have g1:((n1.getD 0 0).toNat:Int)=91:=(iY hn1 91).1 Oq
   rw[awa Oq];simp(disch:=omega)only[bJ,ae,↓reduceIte,Nat.reduceEqDiff,reduceCtorEq,Nat.reduceLeDiff,Nat.reducePow,Int.reducePow,Int.reduceToNat,Nat.reduceAdd,lp1,g1,va];exact⟨X.trans x1,rfl⟩
  have g1:¬((n1.getD 0 0).toNat:Int)=91:=fun x=>Oq ((iY hn1 91).2 x);rw[av9 Oq];have c4:cellAt h1 ⟨g,4,none⟩=some (ax c.super):=(H.ext x1).at rfl;have bl:=(B.ext x1).l;simp(disch:=omega)only[bJ,ae,seval,lp1,g1,bl,c4,va];refine aj rfl (tY (H.ext x1) F c.super F.fit.super) ?_;rintro v2 h2⟨x2,rfl⟩;have aqe:= @uq c.pool hp c.super;have H2:=(H.ext x1).ext x2;have B2:=(B.ext x1).ext x2;have X2:=(X.trans x1).trans x2;generalize(bZ c.pool c.super).1=n2,(bZ c.pool c.super).2=k2 at*;cases k2 with
  |false=>
   simp(disch:=omega)only[bJ,ae,↓reduceIte,Nat.reduceEqDiff,reduceCtorEq,Nat.reduceLeDiff,Nat.reducePow,Int.reducePow,Int.reduceToNat,Nat.reduceAdd];exact⟨X2,rfl⟩
  |true=>
   have Qu:=aqe rfl;have lp2:(0:Int)<(n2.length:Int):=by have:=awr.2 Qu;omega
   rw[av9 (by decide)];by_cases FV:n2.head?=some 91
   ·have g2:((n2.getD 0 0).toNat:Int)=91:=(iY Qu 91).1 FV
    rw[awa (.inl FV)];simp(disch:=omega)only[bJ,ae,↓reduceIte,Nat.reduceEqDiff,reduceCtorEq,Nat.reduceLeDiff,Nat.reducePow,Int.reducePow,Int.reduceToNat,Nat.reduceAdd,lp2,g2,va];exact⟨X2,rfl⟩
   have g2:¬((n2.getD 0 0).toNat:Int)=91:=fun x=>FV ((iY Qu 91).2 x);by_cases ra:face=true∧n2≠zU
   ·rw[awa (.inr ⟨WH.1 ra.1,ra.2⟩)]
    obtain⟨rfl,ra⟩:=ra;have ave:¬n2=[106,97,118,97,47,108,97,110,103,47,79,98,106,101,99,116]:=ra;simp(disch:=omega)only[bJ,ae,↓reduceIte,Nat.reduceEqDiff,reduceCtorEq,Nat.reduceLeDiff,Nat.reducePow,Int.reducePow,Int.reduceToNat,Nat.reduceAdd,lp2,g2,va];exact⟨X2,rfl⟩
   rw[av9 (by
    rintro(hh|⟨h1,h2⟩)
    ·exact FV hh
    ·exact ra ⟨WH.2 h1,h2⟩)]
   cases face with
   |false=>
    simp(disch:=omega)only[bJ,ae,seval,lp2,g2,va];exact MX X2 B2 H2 F hp mL
   |true=>
    have ho:n2=[106,97,118,97,47,108,97,110,103,47,79,98,106,101,99,116]:=by
     by_cases he:n2=zU
     ·exact he
     ·exact aww ⟨rfl,he⟩ ra
    simp(disch:=omega)only[bJ,ae,seval,lp2,g2,av8 ho,va];exact MX X2 B2 H2 F hp mL
theorem T4(H:CB h g c vp vi vf vm)(F:CF c)(hp:∀x∈c.pool,jL c.pool x=0)(mL:c.ifs.length≤1073741824):
 aF Tryz.prog 86 #[vw g] h fun v h'=>Ext h h'∧v=ao (oE c:Nat):=by
 refine HI (args:=[vw g]) rfl ?_;simp(disch:=omega)only[bJ,ae,seval];refine cT ?_;have B:=Bx.new (h:=h) (g:=g);have E:=Ext.push h (.cells #[aE g] 157);simp(disch:=omega)only[bJ,ae,seval,aw2];generalize h.push _=h1,h.size=q at*;have H1:=H.ext E;have b0:=B.p;have c2:cellAt h1 ⟨g,2,none⟩=some (ax c.flags):=H1.at rfl;have a1:cB .and .u16 (c.flags:Int) 512=((c.flags&&&512:Nat):Int):=jR _ 512 F.fit.flags (by decide);have a2:cB .and .u16 (c.flags:Int) 1024=((c.flags&&&1024:Nat):Int):=jR _ 1024 F.fit.flags (by decide);have a3:cB .and .u16 (c.flags:Int) 48=((c.flags&&&48:Nat):Int):=jR _ 48 F.fit.flags (by decide);have a4:cB .and .u16 (c.flags:Int) 16=((c.flags&&&16:Nat):Int):=jR _ 16 F.fit.flags (by decide);have tail:=fun(face:Bool)(u5 u53:Value)(xT:face=true↔c.flags&&&512≠0)(vV:yb c.flags=false)=>WG (face:=face) (u0:=vw g) (u5:=u5) (u53:=u53) E B H1 F hp mL xT vV;have tH:yb c.flags=true→oE c=10:=fun hh=>by unfold oE;rw[awa hh]
 generalize oE c=Z at*;unfold yb at tail tH;generalize c.flags&&&512=f1,c.flags&&&1024=f2,c.flags&&&48=f3,c.flags&&&16=f4 at*;by_cases nT:((decide (f1≠0)&&(decide (f2=0)||decide (f3≠0)))||(decide (f2≠0)&&decide (f4≠0)))=true
 ·rw[tH nT]
  simp only[awX,awm,awo]at nT;by_cases z1:f1=0
  ·have z2:¬f2=0:=by omega
   have z4:¬f4=0:=by omega
   simp(disch:=omega)only[bJ,ae,↓reduceIte,Nat.reduceEqDiff,reduceCtorEq,Nat.reduceLeDiff,Nat.reducePow,Int.reducePow,Int.reduceToNat,Nat.reduceAdd,b0,c2,a1,a2,a3,a4,va];exact⟨E,rfl⟩
  ·by_cases z2:f2=0
   ·simp(disch:=omega)only[bJ,ae,↓reduceIte,Nat.reduceEqDiff,reduceCtorEq,Nat.reduceLeDiff,Nat.reducePow,Int.reducePow,Int.reduceToNat,Nat.reduceAdd,b0,c2,a1,a2,a3,a4,va]
    exact⟨E,rfl⟩
   ·by_cases z3:f3=0
    ·have z4:¬f4=0:=by omega
     simp(disch:=omega)only[bJ,ae,↓reduceIte,Nat.reduceEqDiff,reduceCtorEq,Nat.reduceLeDiff,Nat.reducePow,Int.reducePow,Int.reduceToNat,Nat.reduceAdd,b0,c2,a1,a2,a3,a4,va];exact⟨E,rfl⟩
    ·simp(disch:=omega)only[bJ,ae,↓reduceIte,Nat.reduceEqDiff,reduceCtorEq,Nat.reduceLeDiff,Nat.reducePow,Int.reducePow,Int.reduceToNat,Nat.reduceAdd,b0,c2,a1,a2,a3,a4,va]
     exact⟨E,rfl⟩
 have als:((decide (f1≠0)&&(decide (f2=0)||decide (f3≠0)))||(decide (f2≠0)&&decide (f4≠0)))=false:=by
  revert nT;cases((decide (f1≠0)&&(decide (f2=0)||decide (f3≠0)))||(decide (f2≠0)&&decide (f4≠0)))<;>simp
 simp only[awX,awm,awo,not_or,not_and]at nT;by_cases z1:f1=0
 ·have tl:=fun u5 u53=>tail false u5 u53 (by simp[z1]) als
  by_cases z2:f2=0
  ·simp(disch:=omega)only[bJ,ae,seval,b0,c2,a1,a2,a3,a4,va]
   exact tl _ _
  ·have z4:f4=0:=by
    by_cases z4:f4=0
    ·exact z4
    ·exact aww z4 (nT.2 z2)
   simp(disch:=omega)only[bJ,ae,seval,b0,c2,a1,a2,a3,a4,va];exact tl _ _
 ·have tl:=fun u5 u53=>tail true u5 u53 (by simp[z1]) als
  have xT:=nT.1 z1;have z2:¬f2=0:=xT.1;have z4:f4=0:=by
   by_cases z4:f4=0
   ·exact z4
   ·exact aww z4 (nT.2 z2)
  simp(disch:=omega)only[bJ,ae,seval,b0,c2,a1,a2,a3,a4,va];exact tl _ _
end
end
end Go.Proofs.YtmbboehmnfhjjaaGreatDoor
