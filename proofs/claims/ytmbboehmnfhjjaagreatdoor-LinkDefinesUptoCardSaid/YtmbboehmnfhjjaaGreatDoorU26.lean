/- Reading one constant. Reading a pool, by the program. What the reference reads of a pool (plain). pool.Read is the reference's reading. -/
import Derived.Test.YtmbboehmnfhjjaaGreatDoorU15
import Derived.Test.YtmbboehmnfhjjaaGreatDoorU5
import Derived.Test.YtmbboehmnfhjjaaGreatDoorU11
import Derived.Test.YtmbboehmnfhjjaaGreatDoorU25
set_option maxRecDepth 100000
set_option maxHeartbeats 4000000
set_option linter.unusedSimpArgs false
set_option linter.unusedVariables false
set_option linter.defProp false
namespace Go.Proofs.YtmbboehmnfhjjaaGreatDoor
open Go.Vc
section
def gj(l:az)(s:RS):aX × RS:=
 let a:=aA l 1 s
 if a.1=1 then
  let b:=aA l 2 a.2
  let c:=cV l b.1 b.2
  (⟨1,c.1,0,0,0⟩,if jK c.1=none then cg 6 s.p c.2 else c.2)
 else if a.1=3∨a.1=4 then
  let b:=aA l 4 a.2
  (⟨a.1,[],b.1,0,0⟩,b.2)
 else if a.1=5∨a.1=6 then
  let b:=aA l 4 a.2
  let c:=aA l 4 b.2
  (⟨a.1,[],b.1*4294967296+c.1,0,0⟩,c.2)
 else if a.1=7∨a.1=8 then
  let b:=aA l 2 a.2
  (⟨a.1,[],0,b.1,0⟩,b.2)
 else if a.1=9∨a.1=10∨a.1=11∨a.1=12 then
  let b:=aA l 2 a.2
  let c:=aA l 2 b.2
  (⟨a.1,[],0,b.1,c.1⟩,c.2)
 else(⟨a.1,[],0,0,0⟩,cg 5 s.p a.2)
theorem abT{a b:Nat}(ha:a<4294967296)(hb:b<4294967296):cB .or .u64 ((a:Int)*4294967296) (b:Int)=((a*4294967296+b:Nat):Int):=by
 have h:=Lt (k:= .u64) rfl (a*4294967296) b (by rw[QR];omega) (by rw[QR];omega);have h2:a*4294967296|||b=a*4294967296+b:=QC 32 a b (by omega);rw[h2]at h;rw[←h,Int.natCast_mul];rfl
section
variable{h:ar}{g:Nat}{l:az}{s:RS}
theorem eF.set(H:eF h g l s){b o:Nat}{v:Value}(cN:g≠b):eF (setAt h ⟨b,o,none⟩ v) g l s:=⟨by rw[Ux cN];exact H.1,H.2⟩
theorem zW{b c o:Nat}{v:Value}{x:Obj}(hb:h[c]? =some x)(cN:c≠b):(setAt h ⟨b,o,none⟩ v)[c]? =some x:=by rw[Ux cN];exact hb
theorem akH(hl:l.length≤1073741824)(H:eF h g l s):aF Tryz.prog 152 #[aE g] h fun v h'=>Fr (fun k=>k=g) h h'∧eF h' g l (gj l s).2∧v= .agg (gj l s).1.cells.toArray:=by
 refine EV (args:=[aE g]) rfl ?_;have hg:=H.lt;simp only[dh,ae,seval];refine aD gi ?_;have H0:eF (h.push (.cells #[bH 0,str [], .int .u64 0,ax 0,ax 0] 160 (0,0))) g l s:=H.fr (Ext.push _ _) id;have z0:(h.push (.cells #[bH 0,str [], .int .u64 0,ax 0,ax 0] 160 (0,0)))[h.size]? =some (.cells #[bH 0,str [], .int .u64 0,ax 0,ax 0] 160 (0,0)):=by simp
 have f0:Fr (fun k=>k=g) h (h.push (.cells #[bH 0,str [], .int .u64 0,ax 0,ax 0] 160 (0,0))):=Fr.push _ _ _;have Ws:h.size<(h.push (.cells #[bH 0,str [], .int .u64 0,ax 0,ax 0] 160 (0,0))).size:=by simp
 generalize h.push _=h0 at*;have c1:=H0.c1;simp only[dh,ae,seval,c1];refine aj rfl (dU 1 hl (by omega) H0) ?_;rintro v1 h1⟨f1,r1,rfl⟩;have ht:(aA l 1 s).1<256:=dJ;have cN:h.size≠g:=by omega
 have z1:=ay f1 z0 cN;have xW:=f1.size;have g1:Fr (fun k=>k=g) h h1:=Fr.trans f0 f1 (fun _ _ h=>h) (fun _ _ h=>h);unfold gj;generalize aA l 1 s=a at*;obtain⟨t,s1⟩:=a;simp only at ht r1⊢;have hw:IntKind.u8.wrap (t:Int)=(t:Int):=wrap_u8 (by omega) (by omega);simp only[ae,seval,hw];refine aD gi ?_;simp only[ae,seval];refine aI gi rfl rfl rfl (by simp[Value.cells,oneCell,str]) rfl ?_;intro h3 x3 nQ Gc b3;change h3[h1.size]? =some (.cells #[bH t,str [], .int .u64 0,ax 0,ax 0] 160 (0,0))at b3;have z3:=ay x3 z1 id;have r3:=r1.fr x3 id;have g3:Fr (fun k=>k=g) h h3:=Fr.trans g1 x3 (fun _ _ h=>h) (fun _ _ h=>h.elim);have yx:h1.size≠g:=by omega
 have hbz:h1.size≠h.size:=by omega
 have hqh:h.size<h1.size:=by omega
 have c0:cellAt h3 ⟨h1.size,0,none⟩=some (bH t):=Gc 0 _ rfl;generalize h1.size=q at*;by_cases t1:t=1
 ·subst t1
  rw[show((1:Nat):Int)=1 from rfl]at c0 b3;simp only[Nat.reduceEqDiff,aw0,aw1,aw6];simp only[dh,ae,seval,c0,];refine aj rfl (dU 2 hl (by omega) r3) ?_;rintro v4 h4⟨w4,r4,rfl⟩;have b4:=ay w4 b3 yx;have z4:=ay w4 z3 cN;have f4:Fr (fun k=>k=g) h h4:=Fr.trans g3 w4 (fun _ _ h=>h) (fun _ _ h=>h);have hn:(aA l 2 s1).1<65536:=dJ;generalize aA l 2 s1=x at*;obtain⟨n,s2⟩:=x;simp only at hn r4⊢;simp only[ae,seval];refine aj rfl (zO n hl (by omega) r4) ?_;rintro v5 h5⟨w5,r5,rfl⟩;have b5:=ay w5 b4 yx;have z5:=ay w5 z4 cN;have f5:Fr (fun k=>k=g) h h5:=Fr.trans f4 w5 (fun _ _ h=>h) (fun _ _ h=>h);have KM:(cV l n s2).1.length≤n:=uZ;generalize cV l n s2=x at*;obtain⟨tx,s3⟩:=x;simp only at r5 KM⊢;simp only[ae,seval];refine aC nM rfl rfl rfl rfl rfl (u:=str []) (by rw[au b5];rfl) (by simp[frozenAt,b5]) ?_;have b6:=bu (o:=1) b5 (str tx);have z6:=zW (b:=q) (o:=1) (v:=str tx) z5 (Ne.symm hbz);have r6:=eF.set (b:=q) (o:=1) (v:=str tx) r5 (Ne.symm yx);have f6:Fr (fun k=>k=g) h _:=Fr.trans f5 (Fr.set (S:=fun k=>k=q) h5 ⟨q,1,none⟩ (str tx) fun _=>rfl) (fun _ _ h=>h) (fun k hk hS=>aww hS (by have:=hqh;omega));change(setAt h5 ⟨q,1,none⟩ (str tx))[q]? =some (.cells #[bH 1,str tx, .int .u64 0,ax 0,ax 0] 160 (0,0))at b6;generalize setAt h5 ⟨q,1,none⟩ (str tx)=k6 at*;have d1:cellAt k6 ⟨q,1,none⟩=some (str tx):=by rw[au b6];rfl
  simp only[dh,ae,seval,d1];refine aj rfl (abR tx k6 (by omega)) ?_;rintro v7 h7⟨x7,u7⟩;have b7:=ay x7 b6 id;have z7:=ay x7 z6 id;have r7:=r6.fr x7 id;have f7:Fr (fun k=>k=g) h h7:=Fr.trans f6 x7 (fun _ _ h=>h) (fun _ _ h=>h.elim);cases hu:jK tx with
  |none=>
   rw[hu]at u7;simp only[U7]at u7;subst u7;simp only[dh,ae,seval];refine aj rfl (fA 6 s.p r7) ?_;rintro v8 h8⟨w8,r8⟩;have b8:=ay w8 b7 yx;have z8:=ay w8 z7 cN;have f8:Fr (fun k=>k=g) h h8:=Fr.trans f7 w8 (fun _ _ h=>h) (fun _ _ h=>h);simp only[dh,ae,seval];have bm:=aS eA (aN (vs:=[bH 1,str tx, .int .u64 0,ax 0,ax 0]) b8) rfl;simp only[ae,seval,bm];obtain⟨zi,zz,zq,_,_,OC⟩:=jx gi;have ml:zi.size=5:=OC;refine jv zq (cur:=#[bH 0,str [], .int .u64 0,ax 0,ax 0]) (e:=160) (fz:=(0,0)) rfl rfl (by rw[ml];rfl) (by simp[Value.cells,oneCell,str]) z8 (by rw[ml];simp) (by intro j _ _;simp) ?_;rw[ml];intro h9 f9 _ b9;change h9[h.size]? =some (.cells #[bH 1,str tx, .int .u64 0,ax 0,ax 0] 160 (0,0))at b9;have zX:=aS eA (aN (vs:=[bH 1,str tx, .int .u64 0,ax 0,ax 0]) b9) rfl;simp only[ae,seval,zX];exact⟨Fr.trans f8 f9 (fun _ _ h=>h) (fun k hk hS=>aww hS (by omega)),r8.fr f9 (by omega),rfl⟩
  |some us=>
   rw[hu]at u7;simp only[U7]at u7;obtain⟨sv,rfl,_⟩:=u7;simp only[dh,ae,seval];have bm:=aS eA (aN (vs:=[bH 1,str tx, .int .u64 0,ax 0,ax 0]) b7) rfl;simp only[ae,seval,bm];obtain⟨zi,zz,zq,_,_,OC⟩:=jx gi;have ml:zi.size=5:=OC;refine jv zq (cur:=#[bH 0,str [], .int .u64 0,ax 0,ax 0]) (e:=160) (fz:=(0,0)) rfl rfl (by rw[ml];rfl) (by simp[Value.cells,oneCell,str]) z7 (by rw[ml];simp) (by intro j _ _;simp) ?_;rw[ml];intro h9 f9 _ b9;change h9[h.size]? =some (.cells #[bH 1,str tx, .int .u64 0,ax 0,ax 0] 160 (0,0))at b9;have zX:=aS eA (aN (vs:=[bH 1,str tx, .int .u64 0,ax 0,ax 0]) b9) rfl;simp only[ae,seval,zX];exact⟨Fr.trans f7 f9 (fun _ _ h=>h) (fun k hk hS=>aww hS (by omega)),r7.fr f9 (by omega),rfl⟩
 by_cases gg3:t=3∨t=4
 ·rcases gg3 with rfl|rfl
  all_goals
   simp only[Int.cast_ofNat_Int]at c0 b3;simp only[Nat.reduceEqDiff,aw0,aw1,or_true,aw6,true_or,aw7];simp only[dh,ae,seval,c0,Int.reduceEq,];refine aj rfl (dU 4 hl (by omega) r3) ?_;rintro v4 h4⟨w4,r4,rfl⟩;have b4:=ay w4 b3 yx;have z4:=ay w4 z3 cN;have f4:Fr (fun k=>k=g) h h4:=Fr.trans g3 w4 (fun _ _ h=>h) (fun _ _ h=>h);have hn:(aA l 4 s1).1<4294967296:=dJ;generalize aA l 4 s1=x at*;obtain⟨n,s2⟩:=x;simp only at hn r4⊢;have hw4:IntKind.u64.wrap (n:Int)=(n:Int):=wrap_u64 (by omega) (by omega);simp only[ae,seval,hw4];refine aC AK rfl rfl rfl rfl rfl (u:= .int .u64 0) (by rw[au b4];rfl) (by simp[frozenAt,b4]) ?_;have b6:=bu (o:=2) b4 (.int .u64 (n:Int));have z6:=zW (b:=q) (o:=2) (v:= .int .u64 (n:Int)) z4 (Ne.symm hbz);have r6:=eF.set (b:=q) (o:=2) (v:= .int .u64 (n:Int)) r4 (Ne.symm yx);have f6:Fr (fun k=>k=g) h _:=Fr.trans f4 (Fr.set (S:=fun k=>k=q) h4 ⟨q,2,none⟩ (.int .u64 (n:Int)) fun _=>rfl) (fun _ _ h=>h) (fun k hk hS=>aww hS (by have:=hqh;omega));change(setAt h4 ⟨q,2,none⟩ (.int .u64 (n:Int)))[q]? =some (.cells #[bH _,str [], .int .u64 (n:Int),ax 0,ax 0] 160 (0,0))at b6;generalize setAt h4 ⟨q,2,none⟩ (.int .u64 (n:Int))=k6 at*;simp only[dh,ae,seval];have bm:=aS eA (aN (vs:=[bH _,str [], .int .u64 (n:Int),ax 0,ax 0]) b6) rfl;simp only[ae,seval,bm];obtain⟨zi,zz,zq,_,_,OC⟩:=jx gi;have ml:zi.size=5:=OC;refine jv zq (cur:=#[bH 0,str [], .int .u64 0,ax 0,ax 0]) (e:=160) (fz:=(0,0)) rfl rfl (by rw[ml];rfl) (by simp[Value.cells,oneCell,str]) z6 (by rw[ml];simp) (by intro j _ _;simp) ?_;rw[ml];intro h9 f9 _ b9;change h9[h.size]? =some (.cells #[bH _,str [], .int .u64 (n:Int),ax 0,ax 0] 160 (0,0))at b9;have zX:=aS eA (aN (vs:=[bH _,str [], .int .u64 (n:Int),ax 0,ax 0]) b9) rfl;simp only[ae,seval,zX];exact⟨Fr.trans f6 f9 (fun _ _ h=>h) (fun k hk hS=>aww hS (by omega)),r6.fr f9 (by omega),rfl⟩
 by_cases gg5:t=5∨t=6
 ·rcases gg5 with rfl|rfl
  all_goals
   simp only[Int.cast_ofNat_Int]at c0 b3;simp only[Nat.reduceEqDiff,aw0,aw1,or_true,aw6,true_or,aw7];simp only[dh,ae,seval,c0,Int.reduceEq,];refine aj rfl (dU 4 hl (by omega) r3) ?_;rintro v4 h4⟨w4,r4,rfl⟩;have b4:=ay w4 b3 yx;have z4:=ay w4 z3 cN;have f4:Fr (fun k=>k=g) h h4:=Fr.trans g3 w4 (fun _ _ h=>h) (fun _ _ h=>h);have hn:(aA l 4 s1).1<4294967296:=dJ;generalize aA l 4 s1=x at*;obtain⟨n,s2⟩:=x;simp only at hn r4⊢;have hw4:IntKind.u64.wrap (n:Int)=(n:Int):=wrap_u64 (by omega) (by omega);have hw5:IntKind.u64.wrap ((n:Int)*4294967296)=(n:Int)*4294967296:=wrap_u64 (by omega) (by omega);simp(disch:=omega)only[dh,ae,seval,hw4,hw5];refine aj rfl (dU 4 hl (by omega) r4) ?_;rintro v5 h5⟨w5,r5,rfl⟩;have b5:=ay w5 b4 yx;have z5:=ay w5 z4 cN;have f5:Fr (fun k=>k=g) h h5:=Fr.trans f4 w5 (fun _ _ h=>h) (fun _ _ h=>h);have hm:(aA l 4 s2).1<4294967296:=dJ;generalize aA l 4 s2=x at*;obtain⟨m,s3⟩:=x;simp only at hm r5⊢;have hw6:IntKind.u64.wrap (m:Int)=(m:Int):=wrap_u64 (by omega) (by omega);have hor:=abT hn hm;simp only[ae,seval,hw6,hor];refine aC AK rfl rfl rfl rfl rfl (u:= .int .u64 0) (by rw[au b5];rfl) (by simp[frozenAt,b5]) ?_;have b6:=bu (o:=2) b5 (.int .u64 ((n*4294967296+m:Nat):Int));have z6:=zW (b:=q) (o:=2) (v:= .int .u64 ((n*4294967296+m:Nat):Int)) z5 (Ne.symm hbz);have r6:=eF.set (b:=q) (o:=2) (v:= .int .u64 ((n*4294967296+m:Nat):Int)) r5 (Ne.symm yx);have f6:Fr (fun k=>k=g) h _:=Fr.trans f5 (Fr.set (S:=fun k=>k=q) h5 ⟨q,2,none⟩ (.int .u64 ((n*4294967296+m:Nat):Int)) fun _=>rfl) (fun _ _ h=>h) (fun k hk hS=>aww hS (by have:=hqh;omega));change(setAt h5 ⟨q,2,none⟩ (.int .u64 ((n*4294967296+m:Nat):Int)))[q]? =some (.cells #[bH _,str [], .int .u64 ((n*4294967296+m:Nat):Int),ax 0,ax 0] 160 (0,0))at b6;generalize setAt h5 ⟨q,2,none⟩ (.int .u64 ((n*4294967296+m:Nat):Int))=k6 at*;simp only[dh,ae,seval];have bm:=aS eA (aN (vs:=[bH _,str [], .int .u64 ((n*4294967296+m:Nat):Int),ax 0,ax 0]) b6) rfl;simp only[ae,seval,bm];obtain⟨zi,zz,zq,_,_,OC⟩:=jx gi;have ml:zi.size=5:=OC;refine jv zq (cur:=#[bH 0,str [], .int .u64 0,ax 0,ax 0]) (e:=160) (fz:=(0,0)) rfl rfl (by rw[ml];rfl) (by simp[Value.cells,oneCell,str]) z6 (by rw[ml];simp) (by intro j _ _;simp) ?_;rw[ml];intro h9 f9 _ b9;change h9[h.size]? =some (.cells #[bH _,str [], .int .u64 ((n*4294967296+m:Nat):Int),ax 0,ax 0] 160 (0,0))at b9;have zX:=aS eA (aN (vs:=[bH _,str [], .int .u64 ((n*4294967296+m:Nat):Int),ax 0,ax 0]) b9) rfl;simp only[ae,seval,zX];exact⟨Fr.trans f6 f9 (fun _ _ h=>h) (fun k hk hS=>aww hS (by omega)),r6.fr f9 (by omega),rfl⟩
 by_cases gg7:t=7∨t=8
 ·rcases gg7 with rfl|rfl
  all_goals
   simp only[Int.cast_ofNat_Int]at c0 b3;simp only[Nat.reduceEqDiff,aw0,aw1,or_true,aw6,true_or,aw7];simp only[dh,ae,seval,c0,Int.reduceEq,];refine aj rfl (ei hl r3) ?_;rintro v4 h4⟨w4,r4,rfl⟩;have b4:=ay w4 b3 yx;have z4:=ay w4 z3 cN;have f4:Fr (fun k=>k=g) h h4:=Fr.trans g3 w4 (fun _ _ h=>h) (fun _ _ h=>h);generalize aA l 2 s1=x at*;obtain⟨n,s2⟩:=x;simp only at r4⊢;simp only[ae,seval];refine aC eN rfl rfl rfl rfl rfl (u:=ax 0) (by rw[au b4];rfl) (by simp[frozenAt,b4]) ?_;have b6:=bu (o:=3) b4 (ax n);have z6:=zW (b:=q) (o:=3) (v:=ax n) z4 (Ne.symm hbz);have r6:=eF.set (b:=q) (o:=3) (v:=ax n) r4 (Ne.symm yx);have f6:Fr (fun k=>k=g) h _:=Fr.trans f4 (Fr.set (S:=fun k=>k=q) h4 ⟨q,3,none⟩ (ax n) fun _=>rfl) (fun _ _ h=>h) (fun k hk hS=>aww hS (by have:=hqh;omega));change(setAt h4 ⟨q,3,none⟩ (ax n))[q]? =some (.cells #[bH _,str [], .int .u64 0,ax n,ax 0] 160 (0,0))at b6;generalize setAt h4 ⟨q,3,none⟩ (ax n)=k6 at*;simp only[dh,ae,seval];have bm:=aS eA (aN (vs:=[bH _,str [], .int .u64 0,ax n,ax 0]) b6) rfl;simp only[ae,seval,bm];obtain⟨zi,zz,zq,_,_,OC⟩:=jx gi;have ml:zi.size=5:=OC;refine jv zq (cur:=#[bH 0,str [], .int .u64 0,ax 0,ax 0]) (e:=160) (fz:=(0,0)) rfl rfl (by rw[ml];rfl) (by simp[Value.cells,oneCell,str]) z6 (by rw[ml];simp) (by intro j _ _;simp) ?_;rw[ml];intro h9 f9 _ b9;change h9[h.size]? =some (.cells #[bH _,str [], .int .u64 0,ax n,ax 0] 160 (0,0))at b9;have zX:=aS eA (aN (vs:=[bH _,str [], .int .u64 0,ax n,ax 0]) b9) rfl;simp only[ae,seval,zX];exact⟨Fr.trans f6 f9 (fun _ _ h=>h) (fun k hk hS=>aww hS (by omega)),r6.fr f9 (by omega),rfl⟩
 by_cases gg9:t=9∨t=10∨t=11∨t=12
 ·rcases gg9 with rfl|rfl|rfl|rfl
  all_goals
   simp only[Int.cast_ofNat_Int]at c0 b3;simp only[Nat.reduceEqDiff,aw0,aw1,or_true,aw6,true_or,aw7];simp only[dh,ae,seval,c0,Int.reduceEq,];refine aj rfl (ei hl r3) ?_;rintro v4 h4⟨w4,r4,rfl⟩;have b4:=ay w4 b3 yx;have z4:=ay w4 z3 cN;have f4:Fr (fun k=>k=g) h h4:=Fr.trans g3 w4 (fun _ _ h=>h) (fun _ _ h=>h);generalize aA l 2 s1=x at*;obtain⟨n,s2⟩:=x;simp only at r4⊢;simp only[ae,seval];refine aj rfl (ei hl r4) ?_;rintro v5 h5⟨w5,r5,rfl⟩;have b5:=ay w5 b4 yx;have z5:=ay w5 z4 cN;have f5:Fr (fun k=>k=g) h h5:=Fr.trans f4 w5 (fun _ _ h=>h) (fun _ _ h=>h);generalize aA l 2 s2=x at*;obtain⟨m,s3⟩:=x;simp only at r5⊢;simp only[ae,seval];refine aC eN rfl rfl rfl rfl rfl (u:=ax 0) (by rw[au b5];rfl) (by simp[frozenAt,b5]) ?_;have b6:=bu (o:=3) b5 (ax n);have z6:=zW (b:=q) (o:=3) (v:=ax n) z5 (Ne.symm hbz);have r6:=eF.set (b:=q) (o:=3) (v:=ax n) r5 (Ne.symm yx);have f6:Fr (fun k=>k=g) h _:=Fr.trans f5 (Fr.set (S:=fun k=>k=q) h5 ⟨q,3,none⟩ (ax n) fun _=>rfl) (fun _ _ h=>h) (fun k hk hS=>aww hS (by have:=hqh;omega));change(setAt h5 ⟨q,3,none⟩ (ax n))[q]? =some (.cells #[bH _,str [], .int .u64 0,ax n,ax 0] 160 (0,0))at b6;generalize setAt h5 ⟨q,3,none⟩ (ax n)=k6 at*;simp only[ae,seval];refine aC eN rfl rfl rfl rfl rfl (u:=ax 0) (by rw[au b6];rfl) (by simp[frozenAt,b6]) ?_;have b7:=bu (o:=4) b6 (ax m);have z7:=zW (b:=q) (o:=4) (v:=ax m) z6 (Ne.symm hbz);have r7:=eF.set (b:=q) (o:=4) (v:=ax m) r6 (Ne.symm yx);have f7:Fr (fun k=>k=g) h _:=Fr.trans f6 (Fr.set (S:=fun k=>k=q) k6 ⟨q,4,none⟩ (ax m) fun _=>rfl) (fun _ _ h=>h) (fun k hk hS=>aww hS (by have:=hqh;omega));change(setAt k6 ⟨q,4,none⟩ (ax m))[q]? =some (.cells #[bH _,str [], .int .u64 0,ax n,ax m] 160 (0,0))at b7;generalize setAt k6 ⟨q,4,none⟩ (ax m)=k7 at*;simp only[dh,ae,seval];have bm:=aS eA (aN (vs:=[bH _,str [], .int .u64 0,ax n,ax m]) b7) rfl;simp only[ae,seval,bm];obtain⟨zi,zz,zq,_,_,OC⟩:=jx gi;have ml:zi.size=5:=OC;refine jv zq (cur:=#[bH 0,str [], .int .u64 0,ax 0,ax 0]) (e:=160) (fz:=(0,0)) rfl rfl (by rw[ml];rfl) (by simp[Value.cells,oneCell,str]) z7 (by rw[ml];simp) (by intro j _ _;simp) ?_;rw[ml];intro h9 f9 _ b9;change h9[h.size]? =some (.cells #[bH _,str [], .int .u64 0,ax n,ax m] 160 (0,0))at b9;have zX:=aS eA (aN (vs:=[bH _,str [], .int .u64 0,ax n,ax m]) b9) rfl;simp only[ae,seval,zX];exact⟨Fr.trans f7 f9 (fun _ _ h=>h) (fun k hk hS=>aww hS (by omega)),r7.fr f9 (by omega),rfl⟩
 obtain⟨t3,t4,t5,t6,t7,t8,t9,t10,rf,t12⟩:¬t=3∧¬t=4∧¬t=5∧¬t=6∧¬t=7∧¬t=8∧¬t=9∧¬t=10∧¬t=11∧¬t=12:=by omega
 simp only[t1,t3,t4,t5,t6,t7,t8,t9,t10,rf,t12,aw1,or_self];have nn:∀i:Int,i∈[1,3,4,5,6,7,8,9,10,11,12]→((t:Int)=i)=False:=fun i hi=>av7 (by simp only[awL,awP,aw6]at hi;omega);simp(disch:=simp)only[dh,ae,seval,c0,nn];refine aj rfl (fA 5 s.p r3) ?_;rintro v8 h8⟨w8,r8⟩;have b8:=ay w8 b3 yx;have z8:=ay w8 z3 cN;have f8:Fr (fun k=>k=g) h h8:=Fr.trans g3 w8 (fun _ _ h=>h) (fun _ _ h=>h);simp only[dh,ae,seval];have bm:=aS eA (aN (vs:=[bH t,str [], .int .u64 0,ax 0,ax 0]) b8) rfl;simp only[ae,seval,bm];obtain⟨zi,zz,zq,_,_,OC⟩:=jx gi;have ml:zi.size=5:=OC;refine jv zq (cur:=#[bH 0,str [], .int .u64 0,ax 0,ax 0]) (e:=160) (fz:=(0,0)) rfl rfl (by rw[ml];rfl) (by simp[Value.cells,oneCell,str]) z8 (by rw[ml];simp) (by intro j _ _;simp) ?_;rw[ml];intro h9 f9 _ b9;change h9[h.size]? =some (.cells #[bH t,str [], .int .u64 0,ax 0,ax 0] 160 (0,0))at b9;have zX:=aS eA (aN (vs:=[bH t,str [], .int .u64 0,ax 0,ax 0]) b9) rfl;simp only[ae,seval,zX];exact⟨Fr.trans f8 f9 (fun _ _ h=>h) (fun k hk hS=>aww hS (by omega)),r8.fr f9 (by omega),rfl⟩
end
end
section
def jl(l:az)(n:Nat):Nat→List aX→RS→List aX × RS
 |0,cs,s=>(cs,s)
 |k+1,cs,s=>if cs.length<n∧s.e=0 then
  (if kE (gj l s).1.tag then jl l n k (cs++[(gj l s).1]++[aX.zero]) (if n<cs.length+2 then cg 12 s.p (gj l s).2 else(gj l s).2)
   else jl l n k (cs++[(gj l s).1]) (gj l s).2)
  else(cs,s)
def hE(l:az)(s:RS):List aX × RS:=
 jl l (aA l 2 s).1 (aA l 2 s).1 [aX.zero] (if(aA l 2 s).1=0 then cg 12 s.p (aA l 2 s).2 else(aA l 2 s).2)
theorem aeu{l:az}{s:RS}:(gj l s).1.tag<256:=by
 have ht:(aA l 1 s).1<256:=dJ;unfold gj;generalize aA l 1 s=a at*;simp only
 repeat' split
 all_goals simp only
 all_goals omega
theorem nV{l:az}{n k:Nat}{cs:List aX}{s:RS}(h:¬(cs.length<n∧s.e=0)):jl l n k cs s=(cs,s):=by
 cases k with
 |zero=>rfl
 |succ k=>rw[jl,av9 h]
section
variable{h:ar}{g:Nat}{l:az}{s:RS}
theorem aev(hl:l.length≤1073741824)(H:eF h g l s):aF Tryz.prog 76 #[aE g] h fun v h'=>
 Fr (fun k=>k=g) h h'∧Own h' h.size 160 5 v (hE l s).1.length (du (hE l s).1)∧eF h' g l (hE l s).2:=by
 refine Db (args:=[aE g]) rfl ?_;have hg:=H.lt;have c1:=H.c1;simp only[dW,ae,seval,c1];refine aj rfl (dU 2 hl (by omega) H) ?_;rintro v1 h1⟨f1,r1,rfl⟩;have hn:(aA l 2 s).1<65536:=dJ;unfold hE;generalize aA l 2 s=a at*;obtain⟨n,s1⟩:=a;simp only at hn r1⊢;have US:∀(hh:ar)(v:Value)(cs:List aX)(s':RS)(k:Nat),Fr (fun k=>k=g) h hh→eF hh g l s'→Own hh h.size 160 5 v cs.length (du cs)→jl l n n [aX.zero] s1=jl l n k cs s'→True:=fun _ _ _ _ _ _ _ _ _=>trivial;by_cases hz:n=0
 case' pos=>
  have nl:(n:Int)=0:=by omega
  rw[awa hz];simp only[dW,ae,seval,av8 nl];refine aj rfl (fA 12 s.p r1) ?_;rintro v2 h2⟨f2',r2⟩;have f2:=Fr.trans f1 f2' (fun _ _ h=>h) (T:=fun k=>k=g) (fun _ _ h=>h);generalize cg 12 s.p s1=s2 at*;simp only[dW,ae,seval]
 case' neg=>
  have nl:¬(n:Int)=0:=by omega
  rw[av9 hz];obtain⟨h2,rfl⟩:∃x,x=h1:=⟨_,rfl⟩;obtain⟨s2,rfl⟩:∃x,x=s1:=⟨_,rfl⟩;have r2:=r1;have f2:=f1;simp only[dW,ae,seval,av7 nl]
 all_goals
  refine aU gh rfl rfl (by decide) ?_;simp only[ae,seval];have Zt:Own (h2.push (.cells (aX.zero.cells).toArray 160 (0,0))) h.size 160 5 (.slice (some ⟨h2.size,0,none⟩) 1 1) 1 (du [aX.zero]):=Own.new (vs:=du [aX.zero]) rfl (by decide+kernel) f2.size;have r3:eF (h2.push (.cells (aX.zero.cells).toArray 160 (0,0))) g l s2:=r2.fr (Ext.push _ _) id;have f3:Fr (fun k=>k=g) h (h2.push (.cells (aX.zero.cells).toArray 160 (0,0))):=Fr.trans f2 (Ext.push _ _) (fun _ _ h=>h) (fun _ _ h=>h.elim);change Own (h2.push (.cells #[bH 0,str [], .int .u64 0,ax 0,ax 0] 160)) h.size 160 5 (.slice (some ⟨h2.size,0,none⟩) 1 1) 1 (du [aX.zero])at Zt;change eF (h2.push (.cells #[bH 0,str [], .int .u64 0,ax 0,ax 0] 160)) g l s2 at r3;change Fr (fun k=>k=g) h (h2.push (.cells #[bH 0,str [], .int .u64 0,ax 0,ax 0] 160))at f3;refine aG [0,4,5] (fun m ρ hc=>∃(k:Nat)(cs:List aX)(v:Value)(s':RS),m=n-cs.length∧n≤k+cs.length∧
   ρ=[(0,aE g),(4,ao n),(5,v)]∧Fr (fun k=>k=g) h hc∧eF hc g l s'∧Own hc h.size 160 5 v cs.length (du cs)∧
   jl l n n [aX.zero] s2=jl l n k cs s'∧cs.length≤n+1) ?_ ?_
  ·simp only[ae,seval]
   exact⟨_,n,[aX.zero],_,s2,rfl,by omega,rfl,f3,r3,Zt,rfl,by simp⟩
  ·rintro m ρ hc⟨k,cs,v,s',rfl,hk,rfl,fc,rc,oc,hL,hcs⟩
   obtain⟨a,c,rfl,_⟩:=oc.dQ.2;by_cases aV:cs.length<n
   ·have aK:(cs.length:Int)<n:=by omega
    simp only[dW,ae,seval,aK];refine aj rfl (jB rc) ?_;rintro v3 h3⟨rfl,rfl⟩;have hgs:=rc.lt;by_cases he:s'.e=0
    ·have c1:=rc.c1
     simp only[dW,ae,seval,he,c1];refine aj rfl (akH hl rc) ?_;rintro v4 h4⟨f4,r4,rfl⟩;have o4:=oc.fr f4 (fun k hk hg'=>by have:=(oc.lt k hk).1;omega);have F4:Fr (fun k=>k=g) h h4:=Fr.trans fc f4 (fun _ _ h=>h) (fun _ _ h=>h);obtain⟨k,rfl⟩:∃k',k=k'+1:=⟨k-1,by omega⟩;have Sy:jl l n (k+1) cs s'=if kE (gj l s').1.tag then jl l n k (cs++[(gj l s').1]++[aX.zero]) (if n<cs.length+2 then cg 12 s'.p (gj l s').2 else(gj l s').2)
      else jl l n k (cs++[(gj l s').1]) (gj l s').2:=by rw[jl,awa ⟨aV,he⟩]
     rw[Sy]at hL;have aqG:(gj l s').1.tag<256:=aeu;generalize gj l s'=x at*;obtain⟨⟨tag,text,bits,ka,kb⟩,s5⟩:=x;simp only[aX.cells]at r4 hL aqG⊢;simp only[ae,seval];refine aD gi ?_;simp only[ae,seval];refine aI gi rfl rfl rfl (by simp[Value.cells,oneCell,str]) rfl ?_;intro h5 x5 avf aqH b5;change h5[h4.size]? =some (.cells #[bH tag,str text, .int .u64 (bits:Int),ax ka,ax kb] 160 (0,0))at b5;have bm:=aS eA aqH rfl;have o5:=o4.ext x5;have r5:=r4.fr x5 id;have F5:Fr (fun k=>k=g) h h5:=Fr.trans F4 x5 (fun _ _ h=>h) (fun _ _ h=>h.elim);have hq:∀k,(Value.slice a cs.length c).ownBlock=some k→h.size≤k∧k<h4.size:=o4.lt;have hgr:Array.size h4≠g:=by have:=r4.lt;omega
     generalize h4.size=q at*;change ld _ _ ⟨q,0,none⟩ h5=some (.agg #[bH tag,str text, .int .u64 (bits:Int),ax ka,ax kb])at bm;simp only[dW,ae,seval,bm];refine aU gh rfl rfl (by decide) ?_;simp only[ae,seval];refine bF (m:=1) gh rfl rfl (o5.push _) rfl (bV (vs:=[bH tag,str text, .int .u64 (bits:Int),ax ka,ax kb])) (by simp[oneCell,str]) (by omega) (by omega) (by have:=F5.size;simp;omega) ?_;intro v6 h6 o6 f6 _;have b6:=ay f6 (dw b5) (fun hk=>by have:=(hq _ hk).2;omega);have r6:eF h6 g l s5:=(r5.fr (Ext.push _ _) id).fr f6 (fun hk=>by have:=(hq _ hk).1;omega);have F6:Fr (fun k=>k=g) h h6:=Fr.trans (Fr.trans F5 (Ext.push _ _) (fun _ _ h=>h) (fun _ _ h=>h.elim)) f6 (fun _ _ h=>h) (fun k hk hS=>aww ((hq _ hS).1) (by omega)) (T:=fun k=>k=g);have e6:du cs++[bH tag,str text, .int .u64 (bits:Int),ax ka,ax kb]=du (cs++[aX.mk tag text bits ka kb]):=by simp[du,aX.cells]
     have o7:Own h6 h.size 160 5 v6 (cs++[aX.mk tag text bits ka kb]).length (du (cs++[aX.mk tag text bits ka kb])):=dR o6 (by simp) e6;have c0:cellAt h6 ⟨q,0,none⟩=some (bH tag):=by rw[au b6];rfl
     obtain⟨a6,cc6,rfl,_⟩:=o7.dQ.2;by_cases rP:kE tag=true
     case' neg=>
      rw[av9 rP]at hL;have k5:¬(tag:Int)=5:=by simp[kE]at rP;omega
      have k6:¬(tag:Int)=6:=by simp[kE]at rP;omega
      simp only[dW,ae,seval,c0,av7 k5,av7 k6];exact⟨_,by simp;omega,k,_,_,_,rfl,by simp;omega,rfl,F6,r6,o7,hL,by simp;omega⟩
     case' pos=>
      rw[awa rP]at hL;have aqI:tag=5∨tag=6:=by simpa[kE]using rP
      have j7:(cs++[aX.mk tag text bits ka kb]).length=cs.length+1:=by simp
      generalize cs++[aX.mk tag text bits ka kb]=Gy at*;rcases aqI with rfl|rfl
     all_goals
      first
      |rw[show((5:Nat):Int)=5 from rfl]at c0
      |rw[show((6:Nat):Int)=6 from rfl]at c0
      simp only[dW,ae,seval,c0,Int.reduceEq,];refine aU gh rfl rfl (by decide) ?_;simp only[ae,seval];refine bF (m:=1) gh rfl rfl (o7.push _) rfl (bV (vs:=aX.zero.cells)) (by simp[oneCell,str,aX.cells,aX.zero]) (by omega) (by omega) (by have:=F6.size;simp;omega) ?_;intro v8 h8 o8 f8 _;have hq6:=o7.lt;have r8:eF h8 g l s5:=(r6.fr (Ext.push _ _) id).fr f8 (fun hk=>by have:=(hq6 _ hk).1;omega);have F8:Fr (fun k=>k=g) h h8:=Fr.trans (Fr.trans F6 (Ext.push _ _) (fun _ _ h=>h) (fun _ _ h=>h.elim)) f8 (fun _ _ h=>h) (fun k hk hS=>aww ((hq6 _ hS).1) (by omega)) (T:=fun k=>k=g);have o9:Own h8 h.size 160 5 v8 (Gy++[aX.zero]).length (du (Gy++[aX.zero])):=dR o8 (by simp) (by rw[Jv];rfl);obtain⟨a8,c8,rfl,_⟩:=o9.dQ.2;have hl8:(Gy++[aX.zero]).length=cs.length+2:=by simp[j7]
      generalize Gy++[aX.zero]=Zu at*;by_cases hn8:n<cs.length+2
      ·have SH:(n:Int)<(Zu.length:Int):=by omega
       rw[awa hn8]at hL;simp only[dW,ae,seval,SH];refine aj rfl (fA 12 s'.p r8) ?_;rintro v9 h9⟨f9,r9⟩;have o10:=o9.fr f9 (fun k hk hg'=>by have:=(o9.lt k hk).1;omega);have F9:Fr (fun k=>k=g) h h9:=Fr.trans F8 f9 (fun _ _ h=>h) (fun _ _ h=>h);simp only[ae,seval];exact⟨_,by omega,k,Zu,_,_,rfl,by omega,rfl,F9,r9,o10,hL,by omega⟩
      ·have SH:¬(n:Int)<(Zu.length:Int):=by omega
       rw[av9 hn8]at hL;simp only[dW,ae,seval,SH];exact⟨_,by omega,k,Zu,_,_,rfl,by omega,rfl,F8,r8,o9,hL,by omega⟩
    ·have dH:(decide (s'.e≠0))=true:=by simp[he]
     have gl:¬(cs.length<n∧s'.e=0):=fun h=>he h.2;rw[nV gl]at hL;rw[hL];simp only[dW,ae,seval,dH];exact⟨fc,oc,rc⟩
   ·have aK:¬(cs.length:Int)<n:=by omega
    have gl:¬(cs.length<n∧s'.e=0):=fun h=>aV h.1;rw[nV gl]at hL;rw[hL];simp only[dW,ae,seval,aK];exact⟨fc,oc,rc⟩
end
end
def qT(l:az)(p:Nat):(Nat × Nat)⊕(aX × Nat):=
 let t:=(l.getD p 0).toNat
 let z:=(mI t).toNat
 let b:=(l.take (p+1+z)).drop (p+1)
 if l.length≤p then .inl (1,l.length)
 else if mI t<0 then .inl (5,p)
 else if l.length<p+1+z then .inl (1,l.length)
 else if t=1 then
  (if l.length<p+1+z+eh b then .inl (1,l.length)
   else if jK ((l.take (p+1+z+eh b)).drop (p+1+z))=none then .inl (6,p)
   else .inr (⟨1,(l.take (p+1+z+eh b)).drop (p+1+z),0,0,0⟩,p+1+z+eh b))
 else if t=3∨t=4∨t=5∨t=6 then .inr (⟨t,[],eh b,0,0⟩,p+1+z)
 else if t=7∨t=8 then .inr (⟨t,[],0,eh b,0⟩,p+1+z)
 else .inr (⟨t,[],0,eh (b.take 2),eh (b.drop 2)⟩,p+1+z)
abbrev RR:=List aX × Nat × Nat × Nat
def mn(l:az)(n:Nat):Nat→List aX→Nat→RR
 |0,cs,p=>(cs,p,0,0)
 |k+1,cs,p=>if cs.length<n then
  (match qT l p with
   | .inl e=>([],0,e.1,e.2)
   | .inr (c,p')=>if kE c.tag then(if n<cs.length+2 then([],0,12,p)else mn l n k (cs++[c]++[aX.zero]) p')else mn l n k (cs++[c]) p')
  else(cs,p,0,0)
def lJ(l:az):RR:=
 if l.length<2 then([],0,1,l.length)
 else if eh (l.take 2)=0 then([],0,12,0)
 else mn l (eh (l.take 2)) (eh (l.take 2)) [aX.zero] 2
def JC(x:List aX × RS):RR:=if x.2.e≠0 then([],0,x.2.e,x.2.es)else(x.1,x.2.p,0,0)
theorem aew(a b:az):eh (a++b)=eh a*256^b.length+eh b:=by
 suffices H:∀(k:Nat)(b:az),b.length=k→eh (a++b)=eh a*256^b.length+eh b from H _ b rfl
 intro k
 induction k with
 |zero=>intro b hb;have:=List.length_eq_zero_iff.1 hb;subst this;simp[eh]
 |succ k ih=>
  intro b hb;obtain⟨c,d,rfl⟩:∃c d,b=c++[d]:=by
   rcases List.eq_nil_or_concat b with h|⟨c,d,h⟩
   ·subst h;simp at hb
   ·exact⟨c,d,by simpa using h⟩
  have h1:c.length=k:=by simpa using hb
  rw[←awQ,ow,ow,ih c h1,awn,awt,Nat.pow_succ,Nat.add_mul,Nat.mul_assoc,Nat.add_assoc]
theorem G4(l:az)(p n:Nat):(l.take (p+n)).drop p=(l.drop p).take n:=by rw[List.drop_take,Nat.add_sub_cancel_left]
theorem Zv(l:az)(p a b:Nat):(l.drop p).take (a+b)=(l.drop p).take a++(l.drop (p+a)).take b:=by
 rw[List.take_add,awN]
theorem nW{l:az}{n p es:Nat}(h:p+n≤l.length):aA l n ⟨p,0,es⟩=(eh ((l.drop p).take n),⟨p+n,0,es⟩):=by
 have h1:¬(RS.mk p 0 es).e≠0:=by simp
 have h2:¬l.length<p+n:=by omega
 simp only[aA,cV,av9 h1,av9 h2]
theorem oB{l:az}{n p es:Nat}(h:l.length<p+n):aA l n ⟨p,0,es⟩=(0,⟨p,1,l.length⟩):=by
 have h1:¬(RS.mk p 0 es).e≠0:=by simp
 simp only[aA,cV,av9 h1,awa h];rfl
theorem U8{l:az}{n p e es:Nat}(h:e≠0):aA l n ⟨p,e,es⟩=(0,⟨p,e,es⟩):=by
 simp only[aA,cV,ne_eq,h,not_false_eq_true,aw0];rfl
theorem OD{l:az}{n p es:Nat}(h:p+n≤l.length):cV l n ⟨p,0,es⟩=((l.drop p).take n,⟨p+n,0,es⟩):=by
 have h1:¬(RS.mk p 0 es).e≠0:=by simp
 have h2:¬l.length<p+n:=by omega
 simp only[cV,av9 h1,av9 h2]
theorem La{l:az}{n p es:Nat}(h:l.length<p+n):cV l n ⟨p,0,es⟩=([],⟨p,1,l.length⟩):=by
 have h1:¬(RS.mk p 0 es).e≠0:=by simp
 simp only[cV,av9 h1,awa h]
theorem Lb{l:az}{n p e es:Nat}(h:e≠0):cV l n ⟨p,e,es⟩=([],⟨p,e,es⟩):=by
 simp only[cV,ne_eq,h,not_false_eq_true,aw0]
theorem aex{l:az}{p:Nat}(h:p<l.length):eh ((l.drop p).take 1)=(l.getD p 0).toNat:=by
 rw[awO h,List.take_succ_cons,List.take_zero];simp[eh,h]
theorem ahL{l:az}{p es:Nat}(hp:p≤l.length):
 match qT l p with
 | .inl e=>e.1≠0∧(gj l ⟨p,0,es⟩).2.e=e.1∧(gj l ⟨p,0,es⟩).2.es=e.2
 | .inr (c,p')=>gj l ⟨p,0,es⟩=(c,⟨p',0,es⟩)∧p'≤l.length:=by
 by_cases h0:l.length≤p
 ·have hr:qT l p= .inl (1,l.length):=awa h0
  have hn:gj l ⟨p,0,es⟩=(⟨0,[],0,0,0⟩,⟨p,1,l.length⟩):=by
   unfold gj;rw[oB (by omega)];simp[cg]
  rw[hr,hn];simp
 have hn1:aA l 1 ⟨p,0,es⟩=((l.getD p 0).toNat,⟨p+1,0,es⟩):=by rw[nW (by omega),aex (by omega)]
 unfold gj qT;simp only[hn1,av9 h0];have ht:(l.getD p 0).toNat<256:=by have:=UInt8.toNat_lt (l.getD p 0);simpa using this
 generalize(l.getD p 0).toNat=t at*;by_cases t1:t=1
 ·subst t1
  rw[show mI 1=2 from rfl];simp only[Int.reduceToNat,Int.reduceLT,aw1,aw0,Nat.add_assoc,Nat.reduceAdd];rw[show p+3=(p+1)+2 by omega,G4];by_cases h1:l.length<p+1+2
  ·rw[awa h1,oB h1]
   simp[Lb,jK,gJ]
  ·rw[av9 h1,nW (by omega)]
   simp only;generalize eh ((l.drop (p+1)).take 2)=m;rw[show p+(3+m)=(p+1+2)+m by omega,G4];by_cases h2:l.length<p+1+2+m
   ·rw[awa h2,La h2]
    simp[jK,gJ]
   ·rw[av9 h2,OD (by omega)]
    simp only;cases hu:jK ((l.drop (p+1+2)).take m)with
    |none=>simp[cg]
    |some us=>simp;omega
 simp only[av9 t1];by_cases t34:t=3∨t=4
 ·have hz:mI t=4:=by rcases t34 with rfl|rfl<;>rfl
  have h36:t=3∨t=4∨t=5∨t=6:=by omega
  rw[hz];simp only[Int.reduceToNat,Int.reduceLT,aw1,awa t34,awa h36];by_cases h1:l.length<p+1+4
  ·rw[awa h1,oB h1]
   simp
  ·rw[av9 h1,nW (by omega),G4]
   exact⟨rfl,by omega⟩
 simp only[av9 t34];by_cases t56:t=5∨t=6
 ·have hz:mI t=8:=by rcases t56 with rfl|rfl<;>rfl
  have h36:t=3∨t=4∨t=5∨t=6:=by omega
  rw[hz];simp only[Int.reduceToNat,Int.reduceLT,aw1,awa t56,awa h36];by_cases h1:l.length<p+1+8
  ·rw[awa h1]
   by_cases h3:l.length<p+1+4
   ·rw[oB h3,U8 (by simp)]
    simp
   ·rw[nW (by omega),oB (by omega)]
    simp
  ·rw[av9 h1,nW (by omega),nW (by omega),G4,show(8:Nat)=4+4 from rfl,Zv,aew]
   have:((l.drop (p+1+4)).take 4).length=4:=by simp;omega
   rw[this];exact⟨rfl,by omega⟩
 simp only[av9 t56];have h36:¬(t=3∨t=4∨t=5∨t=6):=by omega
 by_cases t78:t=7∨t=8
 ·have hz:mI t=2:=by rcases t78 with rfl|rfl<;>rfl
  rw[hz];simp only[Int.reduceToNat,Int.reduceLT,aw1,awa t78,av9 h36];by_cases h1:l.length<p+1+2
  ·rw[awa h1,oB h1]
   simp
  ·rw[av9 h1,nW (by omega),G4]
   exact⟨rfl,by omega⟩
 simp only[av9 t78];by_cases t9:t=9∨t=10∨t=11∨t=12
 ·have hz:mI t=4:=by rcases t9 with rfl|rfl|rfl|rfl<;>rfl
  rw[hz];simp only[Int.reduceToNat,Int.reduceLT,aw1,awa t9,av9 h36];by_cases h1:l.length<p+1+4
  ·rw[awa h1]
   by_cases h3:l.length<p+1+2
   ·rw[oB h3,U8 (by simp)]
    simp
   ·rw[nW (by omega),oB (by omega)]
    simp
  ·rw[av9 h1,nW (by omega),nW (by omega),G4,show(4:Nat)=2+2 from rfl,Zv]
   have:((l.drop (p+1)).take 2).length=2:=by simp;omega
   rw[List.take_left' this,List.drop_left' this];exact⟨rfl,by omega⟩
 ·have hz:mI t= -1:=by unfold mI;rw[av9 (by omega),av9 (by omega),av9 (by omega)]
  rw[hz];simp only[Int.reduceNeg,Int.reduceLT,aw0,av9 t9];simp[cg]
theorem aez(l:az)(n es:Nat):∀(k:Nat)(cs:List aX)(p:Nat),n≤k+cs.length→p≤l.length→JC (jl l n k cs ⟨p,0,es⟩)=mn l n k cs p:=by
 intro k
 induction k with
 |zero=>intro cs p _ _;rfl
 |succ k ih=>
  intro cs p hk hp;rw[jl,mn];by_cases aV:cs.length<n
  ·rw[awa ⟨aV,rfl⟩,awa aV]
   have h1:=ahL (es:=es) hp;cases hr:qT l p with
   |inl e=>
    rw[hr]at h1;simp only at h1⊢;obtain⟨h2,h3,h4⟩:=h1;have gl:∀(k:Nat)(cs:List aX),JC (jl l n k cs (gj l ⟨p,0,es⟩).2)=([],0,e.1,e.2):=by
     intro k cs;rw[nV (by rw[h3];exact fun h=>h2 h.2),JC,awa (by simpa[h3]using h2)];simp[h3,h4]
    have hf:cg 12 p (gj l ⟨p,0,es⟩).2=(gj l ⟨p,0,es⟩).2:=by rw[cg,av9 (by rw[h3];exact h2)]
    split
    ·rw[hf,ite_self,gl]
    ·exact gl _ _
   |inr c=>
    obtain⟨c,p'⟩:=c;rw[hr]at h1;simp only at h1⊢;rw[h1.1];simp only;by_cases hb:kE c.tag=true
    ·rw[awa hb,awa hb]
     by_cases hn:n<cs.length+2
     ·rw[awa hn,awa hn]
      have:cg 12 p ⟨p',0,es⟩=⟨p',12,p⟩:=rfl;rw[this,nV (by simp),JC];simp
     ·rw[av9 hn,av9 hn]
      exact ih _ _ (by simp;omega) h1.2
    ·rw[av9 hb,av9 hb]
     exact ih _ _ (by simp;omega) h1.2
  ·rw[av9 (fun h=>aV h.1),av9 aV];rfl
theorem OE(l:az):JC (hE l ⟨0,0,0⟩)=lJ l:=by
 unfold hE lJ;by_cases h2:l.length<2
 ·rw[awa h2,oB (by omega)]
  simp[cg,nV,JC]
 ·rw[av9 h2,nW (by omega)]
  simp only[aw2,axd];by_cases hz:eh (l.take 2)=0
  ·rw[awa hz,awa hz]
   simp[cg,nV,JC,hz]
  ·rw[av9 hz,av9 hz]
   exact aez l _ 0 _ _ _ (by simp) (by omega)
end Go.Proofs.YtmbboehmnfhjjaaGreatDoor
