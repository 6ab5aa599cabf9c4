/- Functions of Go's library on texts: prefix, the place of a byte, of a rune, of any of some. strings.Split at a slash. The program's package desc. The program's package desc: descriptors. -/
import Derived.Test.YtmbboehmnfhjjaaGreatDoorU10
import Derived.Test.YtmbboehmnfhjjaaGreatDoorU3
import Derived.Test.YtmbboehmnfhjjaaGreatDoorU11
set_option maxRecDepth 100000
set_option linter.unusedSimpArgs false
set_option linter.unusedVariables false
set_option linter.defProp false
namespace Go.Proofs.YtmbboehmnfhjjaaGreatDoor
open Go.Vc
theorem aj8(c:UInt8)(l:az)(w:World):(Extern.BytealgIndexByte.indexByte #[str l,bH c.toNat]).run Tryz.prog w= .ok (ao (ib l c)) w:=by
 have h:=Lib.run_indexByteString (P:=Tryz.prog) ⟨l.toArray⟩ (c.toNat:Int) w;have hc:((c.toNat:Int)).toNat.toUInt8=c:=by simp
 rw[hc]at h;exact h
theorem zK{h:ar}(c:UInt8)(l:az):aF Tryz.prog 71 #[str l,bH c.toNat] h fun v h'=>h'=h∧v=ao (ib l c):=by
 refine Av (args:=[str l,bH c.toNat]) rfl ?_;simp only[Ep,ae,seval];refine Rb (v:=ao (ib l c)) rfl Tryz.func150 (by kernel_rfl) (by kernel_rfl) (by kernel_rfl) (by kernel_rfl) (aj8 c l) ?_;simp only[ae,seval]
theorem nN{h:ar}(c:UInt8)(l:az):aF Tryz.prog 33 #[str l,bH c.toNat] h fun v h'=>h'=h∧v=ao (ib l c):=by
 refine CM (args:=[str l,bH c.toNat]) rfl ?_;simp only[Ht,ae,seval];refine aj rfl (zK c l) ?_;rintro v1 h1⟨rfl,rfl⟩;simp only[ae,seval]
theorem Oa{h:ar}(c:UInt8)(l:az):aF Tryz.prog 184 #[str l,str [c]] h fun v h'=>h'=h∧v= .bool (decide (l.head?=some c)):=by
 refine Au (args:=[str l,str [c]]) rfl ?_;cases l with
 |nil=>
  have f1:¬(((1:Nat):Int)≤((0:Nat):Int)):=by decide
  simp(disch:=first|omega|assumption)only[sw,ae,↓reduceIte,Nat.reduceEqDiff,reduceCtorEq,Nat.reduceLeDiff,Nat.reducePow,Int.reducePow,Int.reduceToNat,Nat.reduceAdd,f1,awZ]
  all_goals simp
 |cons b r=>
  have f1:((1:Nat):Int)≤((r.length+1:Nat):Int):=by omega
  simp(disch:=first|omega|assumption)only[sw,ae,↓reduceIte,Nat.reduceEqDiff,reduceCtorEq,Nat.reduceLeDiff,Nat.reducePow,Int.reducePow,Int.reduceToNat,Nat.reduceAdd,f1,awY]
  all_goals simp
theorem FU{h:ar}(c:UInt8)(l:az):aF Tryz.prog 105 #[str l,str [c]] h fun v h'=>h'=h∧v= .bool (decide (l.head?=some c)):=by
 refine CK (args:=[str l,str [c]]) rfl ?_;simp only[Hr,ae,seval];refine aj rfl (Oa c l) ?_;rintro v1 h1⟨rfl,rfl⟩;simp only[ae,seval]
theorem Rr{h:ar}(n:Int):aF Tryz.prog 335 #[.int .i32 n] h fun v h'=>h'=h∧∃b,v= .bool b:=by
 refine CN (args:=[.int .i32 n]) rfl ?_;by_cases h1:0≤n<;>by_cases h2:n<55296<;>by_cases h3:57343<n<;>by_cases h4:n≤1114111
 all_goals
  simp only[Hv,ae,seval,h1,h2,h3,h4,]
 all_goals exact⟨_,rfl⟩
theorem TQ{h:ar}(cs:az)(c:UInt8)(hc:c.toNat<128):
 aF Tryz.prog 309 #[str cs, .int .i32 (c.toNat:Int)] h fun v h'=>h'=h∧v=ao (ib cs c):=by
 refine rj (args:=[str cs, .int .i32 (c.toNat:Int)]) rfl ?_;have f1:(0:Int)≤(c.toNat:Int):=by omega
 have f2:(c.toNat:Int)<128:=by omega
 simp(disch:=omega)only[eD,ae,seval,f1,f2];refine aj rfl (nN c cs) ?_;rintro v1 h1⟨rfl,rfl⟩;simp only[ae,seval]
theorem TR{h:ar}(cs:az)(n:Int)(hcs:∀b∈cs,b.toNat<128)(hl:cs.length≤1000)(h0:128≤n)(h31:n<2147483648):
 aF Tryz.prog 309 #[str cs, .int .i32 n] h fun v h'=>Ext h h'∧v=ao (-1):=by
 refine rj (args:=[str cs, .int .i32 n]) rfl ?_;have f1:0≤n:=by omega
 have f2:¬n<128:=by omega
 by_cases he:n=65533
 ·simp only[eD,ae,seval,f1,f2,av8 he,]
  refine FJ Tryz.underlying9 rfl ?_;have E:=Ext.push h (.stringIter ⟨cs.toArray⟩ 0);have b0:(h.push (.stringIter ⟨cs.toArray⟩ 0))[h.size]? =some (.stringIter ⟨cs.toArray⟩ 0):=by simp
  generalize h.push _=h1 at*;obtain⟨it,hit⟩:∃x,x=h.size:=⟨_,rfl⟩;rw[←hit]at b0⊢;simp only[ae,seval];refine aG [175] (fun m ρ hc=>∃pos:Nat,m=cs.length-pos∧ρ=[(175,aE it)]∧Ext h hc∧hc[it]? =some (.stringIter ⟨cs.toArray⟩ pos)) ?_ ?_
  ·simp only[ae,seval]
   exact⟨_,0,rfl,E,b0⟩
  ·rintro m ρ hc⟨pos,rfl,rfl,hx,hb⟩
   simp only[eD,ae,seval];refine Jr rfl hb ?_ ?_
   ·intro hp
    have Wb:(cs.getD pos 0).toNat<128:=hcs _ (by simp[hp]);rw[YC Wb];have cN:¬((cs.getD pos 0).toNat:Int)=65533:=by omega
    simp only[eD,ae,seval,cN];exact⟨cs.length-(pos+1),by omega,pos+1,rfl,hx.iter (by omega),NT hb⟩
   ·intro hp
    simp only[eD,ae,seval];exact hx
 ·simp only[eD,ae,seval,f1,f2,av7 he,]
  refine aj rfl (Rr n) ?_;rintro v1 h1⟨rfl,b,rfl⟩;cases b with
  |false=>
   simp only[eD,ae,seval];exact Ext.refl _
  |true=>
   obtain⟨pre,b,hb,dK,jQ,ash⟩:=agH h0;have hcv:=fun(h:ar)=>agr (P:=Tryz.prog) (h:=h) (k':= .i32) (n:=n) Tryz.underlying21 Tryz.underlying9;have hL:(UA n).length=pre.length+1:=by rw[hb];simp
   have hg:(UA n).getD pre.length 0=b:=by rw[hb];simp
   generalize UA n=eu at*;obtain⟨p,hp⟩:∃p,p=pre.length:=⟨_,rfl⟩;rw[←hp]at hL hg dK jQ;have hw:IntKind.i64.wrap ((eu.length:Int)-1)=(p:Int):=by rw[wrap_i64 (by omega) (by omega)];omega
   simp only[eD,ae,seval,hcv,hw];refine aG [0,7,8,9] (fun m ρ hc=>ρ=[(0,str cs),(7,str eu),(8,ao p),(9,ao p)]∧hc=h1) ?_ ?_
   ·simp only[ae,seval]
    exact⟨0,trivial⟩
   ·rintro m ρ hc⟨rfl,rfl⟩
    by_cases aV:p<cs.length
    ·have aK:(p:Int)<(cs.length:Int):=by omega
     have heu:(p:Int)<(eu.length:Int):=by omega
     have Wb:(cs.getD p 0).toNat<128:=hcs _ (by simp[aV]);have cN:¬((cs.getD p 0).toNat:Int)=(b.toNat:Int):=by omega
     have hq:((p:Int)+1).toNat=p+1:=by omega
     have mX:ib (cs.drop (p+1)) b= -1:=YD fun hm=>by have:=hcs b (List.mem_of_mem_drop hm);omega
     simp(disch:=omega)only[eD,ae,seval,aK,hg,cN,hq,];refine aj rfl (nN b (cs.drop (p+1))) ?_;rintro v2 h2⟨rfl,rfl⟩;rw[mX];have:(-1:Int)<0:=by decide
     simp only[eD,ae,seval,this];exact Ext.refl _
    ·have aK:¬(p:Int)<(cs.length:Int):=by omega
     simp only[eD,ae,seval,aK];exact Ext.refl _
def qG(cs:az):List Value:=(List.range 256).map fun i=> .bool (cs.any fun b=>decide (b.toNat=i))
theorem G3(cs:az):(qG cs).length=256:=by simp[qG]
theorem UL(cs:az):∀u∈qG cs,oneCell u=true:=by
 intro u hu;obtain⟨i,_,rfl⟩:=List.mem_map.1 hu;rfl
theorem YF(cs:az)(b:UInt8):(qG cs)[b.toNat]? =some (.bool (decide (b∈cs))):=by
 have hb:b.toNat<256:=UInt8.toNat_lt b;unfold qG;rw[awK,List.getElem?_range hb];simp only[axc]
 congr 2
 rw[Bool.eq_iff_iff,List.any_eq_true,awo];constructor
 ·rintro⟨x,hx,he⟩
  have:x=b:=UInt8.toNat_inj.1 (by simpa using he);subst this;exact hx
 ·intro h;exact⟨b,h,by simp⟩
theorem aa9(cs:az)(b:UInt8):(qG cs).set b.toNat (.bool true)=qG (cs++[b]):=by
 apply List.ext_getElem
 ·simp[qG]
 ·intro i h1 h2
  rw[List.getElem_set];simp only[qG,List.getElem_map,List.getElem_range,List.any_append,List.any_cons,List.any_nil,Bool.or_false];by_cases he:b.toNat=i
  ·simp[he]
  ·simp[he]
theorem MJ:fN Tryz.prog 276 (qG []).toArray:=by unfold fN;kernel_rfl
theorem YG{b o:Nat}{k:IntKind}{i:Int}{h:ar}(h0:0≤i)(h1:i<256):TB Tryz.prog 276 (.pointer (some ⟨b,o,none⟩)) (.int k i) h=some (.pointer (some ⟨b,o+i.toNat*1,none⟩)):=
 VO (len:=256) (by kernel_rfl) h0 h1
theorem Wc{h:ar}(cs:az)(hcs:∀b∈cs,b.toNat<128)(hl:cs.length≤1000):
 aF Tryz.prog 189 #[str cs] h fun v h'=>Ext h h'∧v= .tuple #[.agg (qG cs).toArray, .bool true]:=by
 refine Hu (args:=[str cs]) rfl ?_;simp only[lm,ae,seval];refine aD MJ ?_;have E:=Ext.push h (.cells (qG []).toArray 276);have b0:(h.push (.cells (qG []).toArray 276))[h.size]? =some (.cells (qG []).toArray 276 (0,0)):=by simp
 generalize h.push _=h1 at*;obtain⟨g,hg⟩:∃x,x=h.size:=⟨_,rfl⟩;rw[←hg]at b0⊢;simp only[lm,ae,seval];refine aG [0,2,4] (fun m ρ hc=>∃i:Nat,m=cs.length-i∧i≤cs.length∧ρ=[(0,str cs),(2,aE g),(4,ao i)]∧Ext h hc∧hc[g]? =some (.cells (qG (cs.take i)).toArray 276 (0,0))) ?_ ?_
 ·simp only[ae,seval]
  exact⟨_,0,rfl,awb _,rfl,E,b0⟩
 rintro m ρ hc⟨i,rfl,hi,rfl,hx,hb⟩;by_cases aV:i<cs.length
 ·have aK:(i:Int)<(cs.length:Int):=by omega
  have Wb:(cs.getD i 0).toNat<128:=hcs _ (by simp[aV]);have VJ:¬(128:Int)≤((cs.getD i 0).toNat:Int):=by omega
  have alm:((cs.getD i 0).toNat:Int)<256:=by omega
  have gl:cs.take (i+1)=cs.take i++[cs.getD i 0]:=by rw[List.take_add_one];simp[aV]
  generalize hbd:cs.getD i 0=b at*;simp(disch:=omega)only[lm,ae,seval,hbd,aK,VJ,YG];have Wd:cellAt hc ⟨g,b.toNat,none⟩=some (.bool (decide (b∈cs.take i))):=by
   rw[au hb,awl,YF]
  have hz:frozenAt hc ⟨g,b.toNat,none⟩=false:=by unfold frozenAt;rw[hb];simp
  refine aC (v:= .bool true) (b:=g) (o:=b.toNat) jf rfl rfl rfl rfl rfl Wd hz ?_;have ju:=bu (o:=b.toNat) hb (.bool true);rw[List.setIfInBounds_toArray,aa9,←gl]at ju;have hx':Ext h (setAt hc ⟨g,b.toNat,none⟩ (.bool true)):=Fr.trans (T:=fun _=>False) hx (Fr.set (S:=fun k=>k=g) hc ⟨g,b.toNat,none⟩ (.bool true) fun _=>rfl) (fun _ _ h=>h) fun k hk hS=>by omega
  generalize setAt hc ⟨g,b.toNat,none⟩ (.bool true)=h2 at*;simp(disch:=omega)only[lm,ae,seval];exact⟨cs.length-(i+1),by omega,i+1,rfl,by omega,rfl,hx',ju⟩
 ·have aK:¬(i:Int)<(cs.length:Int):=by omega
  rw[List.take_of_length_le (by omega)]at hb;have bm:∀h':ar,h'[g]? =some (.cells (qG cs).toArray 276 (0,0))→ld Tryz.prog 276 ⟨g,0,none⟩ h'=some (.agg (qG cs).toArray):=by
   intro h' ju;refine aS aaW (fun j v hv=>?_) (G3 cs);rw[aw2,au ju];simpa using hv
  have apJ:=bm hc hb;simp only[lm,ae,seval,aK,apJ];refine aO MJ rfl rfl (by simp[Value.cells,G3]) (by simpa[Value.cells]using UL cs) hb (by simp[G3]) ?_;intro h2 hf FV;have apK:=bm h2 FV;have nO:Ext h h2:=Fr.trans (T:=fun _=>False) hx hf (fun _ _ h=>h) fun k hk hS=>by omega
  simp only[ae,seval,apK];exact nO
theorem YH{h:ar}{g:Nat}{cs:az}{e:TypeId}{fz:Nat × Nat}(b:UInt8)(hb:h[g]? =some (.cells (qG cs).toArray e fz)):
 aF Tryz.prog 251 #[aE g,bH b.toNat] h fun v h'=>h'=h∧v= .bool (decide (b∈cs)):=by
 refine En (args:=[aE g,bH b.toNat]) rfl ?_;have alm:(b.toNat:Int)<256:=by have:=UInt8.toNat_lt b;omega
 have Wd:cellAt h ⟨g,b.toNat,none⟩=some (.bool (decide (b∈cs))):=by
  rw[au hb,awl,YF]
 simp(disch:=omega)only[JN,ae,seval,YG,Wd]
theorem YI{h:ar}(n:Nat):aF Tryz.prog 324 #[ao n] h fun v h'=>h'=h∧v= .bool (decide (8<n)):=by
 refine JM (args:=[ao n]) rfl ?_;by_cases hn:8<n
 ·have h1:(8:Int)<(n:Int):=by omega
  simp only[yN,ae,seval,h1,hn]
 ·have h1:¬(8:Int)<(n:Int):=by omega
  simp only[yN,ae,seval,h1,hn]
theorem TS{h:ar}(cs l:az)(hcs:∀b∈cs,b.toNat<128)(j7:2≤cs.length)(hl:cs.length≤1000)(hs:l.length≤1099511627776):
 aF Tryz.prog 300 #[str l,str cs] h fun v h'=>Ext h h'∧∃k:Int,v=ao k∧(decide (0≤k)=nG cs l):=by
 refine El (args:=[str l,str cs]) rfl ?_;have n0:¬cs=[]:=by rintro rfl;simp at j7
 have n1:¬(cs.length:Int)=1:=by omega
 simp only[eg,ae,seval,n0,n1];refine aj rfl (YI l.length) ?_;rintro v1 h1⟨rfl,rfl⟩;by_cases h8:8<l.length
 ·rw[awh h8]
  simp only[eg,ae,seval];refine aj rfl (Wc cs hcs hl) ?_;rintro v2 h2⟨hx,rfl⟩;simp only[ae,seval];refine aD MJ ?_;simp only[ae,seval];refine aI MJ rfl rfl (by simp[Value.cells,G3]) (by simpa[Value.cells]using UL cs) rfl ?_;intro h3 iG _ _ Rs
  replace Rs:h3[h2.size]? =some (.cells (qG cs).toArray 276 (0,0)):=Rs
  obtain⟨g,hg⟩:∃x,x=h2.size:=⟨_,rfl⟩;rw[←hg]at Rs⊢;have aln:=hx.trans iG;simp only[eg,ae,seval];refine aG [0,6,8] (fun m ρ hc=>∃i:Nat,m=l.length-i∧i≤l.length∧ρ=[(0,str l),(6,aE g),(8,ao i)]∧hc=h3∧∀j,j<i→l.getD j 0∉cs) ?_ ?_
  ·simp only[ae,seval]
   exact⟨_,0,rfl,awb _,rfl,fun j hj=>by omega⟩
  rintro m ρ hc⟨i,rfl,hi,rfl,rfl,mX⟩;by_cases aV:i<l.length
  ·have aK:(i:Int)<(l.length:Int):=by omega
   simp(disch:=omega)only[eg,ae,seval,aK];refine aj rfl (YH (l.getD i 0) Rs) ?_;rintro v4 h4⟨rfl,rfl⟩;by_cases pP:l.getD i 0∈cs
   ·rw[awh pP]
    simp only[eg,ae,seval];refine⟨aln,(i:Int),rfl,?_⟩;rw[AO aV pP];simp
   ·rw[awg pP]
    simp(disch:=omega)only[eg,ae,seval];refine⟨l.length-(i+1),by omega,i+1,rfl,by omega,rfl,fun j hj=>?_⟩;rcases Nat.lt_or_ge j i with h'|h'
    ·exact mX j h'
    ·have:j=i:=by omega
     subst this;exact pP
  ·have aK:¬(i:Int)<(l.length:Int):=by omega
   simp only[eg,ae,seval,aK];refine⟨aln,-1,rfl,?_⟩;rw[xU fun j hj=>mX j (by omega)];rfl
 ·rw[awg h8]
  simp only[eg,ae,seval];refine FJ Tryz.underlying9 rfl ?_;have E:=Ext.push h1 (.stringIter ⟨l.toArray⟩ 0);have b0:(h1.push (.stringIter ⟨l.toArray⟩ 0))[h1.size]? =some (.stringIter ⟨l.toArray⟩ 0):=by simp
  generalize h1.push _=h2 at*;obtain⟨it,hit⟩:∃x,x=h1.size:=⟨_,rfl⟩;rw[←hit]at b0⊢;simp only[ae,seval];refine aG [1,45] (fun m ρ hc=>∃pos:Nat,m=l.length-pos∧ρ=[(1,str cs),(45,aE it)]∧Ext h1 hc∧hc[it]? =some (.stringIter ⟨l.toArray⟩ pos)∧∀j,j<pos→j<l.length→l.getD j 0∉cs) ?_ ?_
  ·simp only[ae,seval]
   exact⟨_,0,rfl,E,b0,fun j hj=>by omega⟩
  rintro m ρ hc⟨pos,rfl,rfl,hx,hb,mX⟩;simp only[eg,ae,seval];refine Jr rfl hb ?_ ?_
  ·intro hp
   by_cases Wb:(l.getD pos 0).toNat<128
   ·rw[YC Wb]
    have nO:=hx.iter (it:=it) (o:= .stringIter ⟨l.toArray⟩ (pos+1)) (by omega);have FV:=NT (o:= .stringIter ⟨l.toArray⟩ (pos+1)) hb;generalize hc.setIfInBounds it (.stringIter ⟨l.toArray⟩ (pos+1))=h3 at*;simp only[eg,ae,seval];refine aj rfl (TQ cs (l.getD pos 0) Wb) ?_;rintro v4 h4⟨rfl,rfl⟩;by_cases pP:l.getD pos 0∈cs
    ·have h0:=(QE (l.getD pos 0) cs).2 pP
     simp only[eg,ae,seval,h0];refine⟨nO,(pos:Int),rfl,?_⟩;rw[AO hp pP];simp
    ·have h0:¬0≤ib cs (l.getD pos 0):=fun h=>pP ((QE _ _).1 h)
     simp only[ae,seval,h0];refine⟨l.length-(pos+1),by omega,pos+1,rfl,nO,FV,fun j hj ta=>?_⟩;rcases Nat.lt_or_ge j pos with h'|h'
     ·exact mX j h' ta
     ·have:j=pos:=by omega
      subst this;exact pP
   ·obtain⟨d1,d2,d3,d4,d5⟩:=agG hp Wb
    generalize FK l pos=cw at*;obtain⟨c,w⟩:=cw;simp only[]at d1 d2 d3 d4 d5⊢;have nO:=hx.iter (it:=it) (o:= .stringIter ⟨l.toArray⟩ (pos+w)) (by omega);have FV:=NT (o:= .stringIter ⟨l.toArray⟩ (pos+w)) hb;generalize hc.setIfInBounds it (.stringIter ⟨l.toArray⟩ (pos+w))=h3 at*;simp only[eg,ae,seval];refine aj rfl (TR cs (c:Int) hcs hl (by omega) (by omega)) ?_;rintro v4 h4⟨hx4,rfl⟩;have h0:¬(0:Int)≤-1:=by decide
    simp only[ae,seval,h0];have apL:=(awd.1 FV).1;refine⟨l.length-(pos+w),by omega,pos+w,rfl,nO.trans hx4,by rw[hx4.same it apL id];exact FV,fun j hj ta=>?_⟩;rcases Nat.lt_or_ge j pos with h'|h'
    ·exact mX j h' ta
    ·intro hm
     have:=hcs _ hm;have:=d5 j h' hj;omega
  ·intro hp
   simp only[eg,ae,seval];refine⟨hx,-1,rfl,?_⟩;rw[xU fun j hj=>mX j (by omega) hj];rfl
theorem zL{h:ar}(cs l:az)(hcs:∀b∈cs,b.toNat<128)(j7:2≤cs.length)(hl:cs.length≤1000)(hs:l.length≤1099511627776):
 aF Tryz.prog 246 #[str l,str cs] h fun v h'=>Ext h h'∧v= .bool (nG cs l):=by
 refine yL (args:=[str l,str cs]) rfl ?_;simp only[CJ,ae,seval];refine aj rfl (TS cs l hcs j7 hl hs) ?_;rintro v1 h1⟨hx,k,rfl,hk⟩;simp only[ae,seval,hk];exact hx
theorem aka(c:UInt8)(l:az)(w:World):(Extern.BytealgCount.count #[str l,bH c.toNat]).run Tryz.prog w= .ok (ao (l.count c:Nat)) w:=by
 have h:=Lib.run_countString (P:=Tryz.prog) ⟨l.toArray⟩ (c.toNat:Int) w;have hc:((c.toNat:Int)).toNat.toUInt8=c:=by simp
 rw[hc]at h;exact h
theorem abb{h:ar}(l:az):aF Tryz.prog 306 #[str l,str [47]] h fun v h'=>h'=h∧v=ao (l.count 47:Nat):=by
 refine LD (args:=[str l,str [47]]) rfl ?_;have f0:¬(1:Int)=0:=by decide
 have f1:((1:Nat):Int)=1:=rfl;have f2:(0:Int)<((([47]:az).length:Nat):Int):=by decide
 simp(disch:=omega)only[Qd,ae,seval,f0,f1,];refine Rb (v:=ao (l.count 47:Nat)) rfl Tryz.func333 (by kernel_rfl) (by kernel_rfl) (by kernel_rfl) (by kernel_rfl) (aka 47 l) ?_;simp only[ae,seval]
theorem Wg{h:ar}(l:az):aF Tryz.prog 334 #[str l,str [47]] h fun v h'=>h'=h∧v=ao (ib l 47):=by
 refine JO (args:=[str l,str [47]]) rfl ?_;have f0:¬(1:Int)=0:=by decide
 have f1:((1:Nat):Int)=1:=rfl;have f2:(0:Int)<((([47]:az).length:Nat):Int):=by decide
 by_cases he:[47]=l
 ·subst he
  simp only[yQ,ae,seval,f0,f1,];rfl
 ·simp(disch:=omega)only[yQ,ae,seval,f0,f1,he,]
  refine aj rfl (zK 47 l) ?_;rintro v1 h1⟨rfl,rfl⟩;simp only[ae,seval]
theorem abd{h:ar}(l:az):aF Tryz.prog 307 #[str l,str [47]] h fun v h'=>h'=h∧v=ao (ib l 47):=by
 refine LF (args:=[str l,str [47]]) rfl ?_;simp only[Qe,ae,seval];refine aj rfl (Wg l) ?_;rintro v1 h1⟨rfl,rfl⟩;simp only[ae,seval]
theorem TU{h:ar}(l:az)(hl:l.length≤4294967296):
 aF Tryz.prog 250 #[str l,str [47],ao 0,ao (-1)] h fun v h'=>Ext h h'∧Sl h' v ((pieces [] l).map str):=by
 refine Eo (args:=[str l,str [47],ao 0,ao (-1)]) rfl ?_;have f0:¬((-1:Int)=0):=by decide
 have f1:¬(([47]:az)=[]):=by decide
 have f2:(-1:Int)<0:=by decide
 simp only[gC,ae,seval,f0,f1,f2,];refine aj rfl (abb l) ?_;rintro v1 h1⟨rfl,rfl⟩;obtain⟨n,hn⟩:∃n,n=l.count 47:=⟨_,rfl⟩;have hnl:n≤l.length:=by rw[hn];exact List.count_le_length
 rw[←hn];have f3:(if(l.length:Int)+1<(n:Int)+1 then(l.length:Int)+1 else(n:Int)+1)=((n+1:Nat):Int):=by rw[av9 (by omega)];omega
 simp(disch:=omega)only[gC,ae,seval,f3];refine rA dE rfl rfl (by omega) (by omega) (by omega) ?_;intro cs z ii hii KH hcs;have gB:cs.size=n+1:=by rw[hcs,size_madeCells];omega
 rw[show((n+1:Nat):Int).toNat=n+1 by omega];have E:=Ext.push h1 (.cells cs 9);have b0:(h1.push (.cells cs 9))[h1.size]? =some (.cells cs 9 (0,0)):=by simp
 generalize h1.push _=h2 at*;obtain⟨g,hg⟩:∃x,x=h1.size:=⟨_,rfl⟩;rw[←hg]at b0⊢;have f4:IntKind.i64.wrap (((n+1:Nat):Int)-1)=(n:Int):=by rw[wrap_i64 (by omega) (by omega)];omega
 simp only[gC,ae,seval,f4];refine aG [0,1,2,3,9,10] (fun m ρ hc=>∃(i:Nat)(done:List (az))(r:az)(cells:Array Value),m=n-i∧i≤n∧
  ρ=[(0,str r),(1,str [47]),(2,ao 0),(3,ao n),(9, .slice (some ⟨g,0,none⟩) (n+1) (n+1)),(10,ao i)]∧Ext h1 hc∧
  hc[g]? =some (.cells cells 9 (0,0))∧cells.size=n+1∧done.length=i∧cells.toList.take i=done.map str∧pieces [] l=done++pieces [] r∧r.length≤l.length) ?_ ?_
 ·simp only[ae,seval]
  exact⟨_,0,[],l,cs,rfl,awb _,rfl,E,b0,gB,rfl,by simp,by simp,awp _⟩
 rintro m ρ hc⟨i,done,r,cells,rfl,hi,rfl,hx,hb,hcs,sg,mq,hpc,vb⟩;have Lm:r.count 47=n-i:=by
  have e1:=sI (l:=l) (acc:=[]);have e2:=sI (l:=r) (acc:=[]);rw[hpc,awn,e2,sg]at e1;omega
 have store:∀v:az,∃ox:Array Value,(setAt hc ⟨g,i,none⟩ (str v))[g]? =some (.cells ox 9 (0,0))∧ox.size=n+1∧ox.toList.take (i+1)=(done++[v]).map str∧Ext h1 (setAt hc ⟨g,i,none⟩ (str v)):=by
  intro v;refine⟨_,bu (o:=i) hb (str v),by simp[hcs],?_,Fr.trans (T:=fun _=>False) hx (Fr.set (S:=fun k=>k=g) hc ⟨g,i,none⟩ (str v) fun _=>rfl) (fun _ _ h=>h) fun k hk hS=>by omega⟩;rw[Array.toList_setIfInBounds,List.take_add_one,List.take_set_of_le (awp _),mq];simp[hcs,show i<n+1 by omega]
 have hz:frozenAt hc ⟨g,i,none⟩=false:=by unfold frozenAt;rw[hb];simp
 have mL:i<cells.size:=by omega
 have Wd:cellAt hc ⟨g,i,none⟩=some (cells[i]):=by rw[au hb];simp[mL]
 by_cases aV:i<n
 ·have aK:(i:Int)<(n:Int):=by omega
  simp only[gC,ae,seval,aK];refine aj rfl (abd r) ?_;rintro v3 h3⟨rfl,rfl⟩;rcases ve 47 r with⟨_,mX⟩|⟨k,hk,qY,TV,apM⟩
  ·exact aww (List.count_eq_zero.2 mX) (by omega)
  rw[qY];have g0:¬(k:Int)<0:=by omega
  have g1:(k:Int)≤(r.length:Int):=by omega
  have g2:IntKind.i64.wrap ((k:Int)+0)=(k:Int):=by rw[Int.add_zero,wrap_i64 (by omega) (by omega)]
  have g3:(i:Int)<((n+1:Nat):Int):=by omega
  have g4:IntKind.i64.wrap ((k:Int)+((1:Nat):Int))=((k+1:Nat):Int):=by rw[wrap_i64 (by omega) (by omega)];omega
  simp(disch:=omega)only[gC,ae,seval,g0,g2,];obtain⟨ox,s1,s2,s3,s4⟩:=store (r.take k);refine aC (v:=str (r.take k)) (b:=g) (o:=i) nM rfl rfl rfl rfl rfl Wd hz ?_;generalize setAt h3 ⟨g,i,none⟩ (str (r.take k))=h4 at*;simp(disch:=omega)only[gC,ae,seval,];refine⟨n-(i+1),by omega,i+1,done++[r.take k],r.drop (k+1),ox,rfl,by omega,rfl,s4,s1,s2,by simp[sg],s3,?_,by rw[aws];omega⟩;rw[hpc,Rq TV apM];simp
 ·have aK:¬(i:Int)<(n:Int):=by omega
  have g3:(i:Int)<((n+1:Nat):Int):=by omega
  simp(disch:=omega)only[gC,ae,seval,aK,];obtain⟨ox,s1,s2,s3,s4⟩:=store r;refine aC (v:=str r) (b:=g) (o:=i) nM rfl rfl rfl rfl rfl Wd hz ?_;generalize setAt hc ⟨g,i,none⟩ (str r)=h4 at*;simp(disch:=omega)only[gC,ae,seval];refine⟨s4,?_⟩;have mX:(47:UInt8)∉r:=List.count_eq_zero.1 (by omega);have hp:pieces [] l=done++[r]:=by rw[hpc,MI mX];simp
  rw[hp];have hlen:((i:Int)+1).toNat-0=((done++[r]).map str).length:=by rw[awk,awn,sg,awt];omega
  rw[hlen];refine⟨_,_,rfl, .inr ⟨g,0,?_,fun j v hv=>?_⟩⟩
  ·unfold sB
   split
   ·rfl
   ·simp[Addr.add]
  ·rw[aw2,au s1]
   rw[←s3,List.getElem?_take]at hv
   split at hv
   ·simpa using hv
   ·cases hv
theorem abe{h:ar}(l:az)(hl:l.length≤4294967296):
 aF Tryz.prog 186 #[str l,str [47]] h fun v h'=>Ext h h'∧Sl h' v ((pieces [] l).map str):=by
 refine LB (args:=[str l,str [47]]) rfl ?_;simp only[Qc,ae,seval];refine aj rfl (TU l hl) ?_;rintro v1 h1⟨hx,hs⟩;simp only[ae,seval];exact⟨hx,hs⟩
theorem Ob{h:ar}(l:az)(hl:l.length≤4294967296):aF Tryz.prog 187 #[str l] h fun v h'=>Ext h h'∧v= .bool (without A4 l):=by
 refine Hn (args:=[str l]) rfl ?_;by_cases he:l=[]
 ·subst he
  simp only[wA,ae,seval,];exact⟨Ext.refl _,rfl⟩
 ·simp only[wA,ae,seval,he,]
  refine aj rfl (zL A4 l (by decide) (by decide) (by decide) (by omega)) ?_;rintro v1 h1⟨hx,rfl⟩;have hw:without A4 l= !nG A4 l:=by simp[without,he]
  rw[hw];cases nG A4 l
  all_goals
   simp only[ae,seval];exact hx
theorem nP{h:ar}(l:az)(m:Bool)(hl:l.length≤4294967296):aF Tryz.prog 158 #[str l, .bool m] h fun v h'=>Ext h h'∧v=ao (dc l m:Nat):=by
 refine Cy (args:=[str l, .bool m]) rfl ?_;cases m with
 |false=>
  simp only[gV,ae,seval];refine aj rfl (Ob l hl) ?_;rintro v1 h1⟨hx,rfl⟩;unfold dc;cases without A4 l
  all_goals
   simp only[gV,ae,seval];exact⟨hx,rfl⟩
 |true=>
  by_cases e1:l=[60,105,110,105,116,62]
  ·simp only[gV,ae,seval,av8 e1]
   exact⟨Ext.refl _,by simp[dc,e1]⟩
  by_cases e2:l=[60,99,108,105,110,105,116,62]
  ·simp only[gV,ae,seval,av7 e1,av8 e2,]
   exact⟨Ext.refl _,by simp[dc,e2]⟩
  have hm:dc l true=if without A4 l=false∨without [60,62] l=false then 0 else 1:=by simp[dc,e1,e2]
  rw[hm];simp only[gV,ae,seval,av7 e1,av7 e2];refine aj rfl (Ob l hl) ?_;rintro v1 h1⟨hx,rfl⟩;cases hw:without A4 l with
  |false=>
   simp only[gV,ae,seval];exact⟨hx,rfl⟩
  |true=>
   have cN:l≠[]:=by intro e;subst e;cases hw
   have YJ:without [60,62] l= !nG [60,62] l:=by simp[without,cN]
   rw[YJ];simp only[ae,seval];refine aj rfl (zL [60,62] l (by decide) (by decide) (by decide) (by omega)) ?_;rintro v2 h2⟨nO,rfl⟩;cases nG [60,62] l
   all_goals
    simp only[gV,ae,seval];exact⟨hx.trans nO,rfl⟩
theorem UM{h:ar}(l:az)(hl:l.length≤4294967296):aF Tryz.prog 107 #[str l] h fun v h'=>Ext h h'∧v= .bool (eJ l):=by
 refine Ho (args:=[str l]) rfl ?_;simp only[ll,ae,seval];refine aj rfl (abe l hl) ?_;rintro v1 h1⟨hx,hs⟩;rw[agJ];have rD:∀p∈pieces [] l,p.length≤4294967296:=by
  have H:∀(l acc:az),∀p∈pieces acc l,p.length≤acc.length+l.length:=by
   intro l
   induction l with
   |nil=>intro acc p hp;simp only[pieces,awf]at hp;subst hp;simp
   |cons b r ih=>
    intro acc p hp;rw[pieces]at hp
    split at hp
    ·rcases awL.1 hp with rfl|hp
     ·simp
     ·have:=ih [] p hp;simp at this⊢;omega
    ·have:=ih _ p hp;simp at this⊢;omega
  intro p hp;have:=H l [] p hp;simp at this;omega
 have hlen:(pieces [] l).length≤4294967297:=by rw[sI];have:l.count 47≤l.length:=List.count_le_length;omega
 generalize pieces [] l=ps at*;have hs':=hs;obtain⟨a,c,rfl,_⟩:=hs';rw[awk];simp only[ae,seval];refine aG [6,7,8] (fun m ρ hc=>∃i:Nat,m=ps.length-i∧i≤ps.length∧ρ=[(6, .slice a ps.length c),(7,ao ps.length),(8,ao i)]∧Ext h hc∧Ext h1 hc∧(ps.take i).all (without A4)=true) ?_ ?_
 ·simp only[ae,seval]
  exact⟨_,0,rfl,awb _,rfl,hx,Ext.refl _,by simp⟩
 rintro m ρ hc⟨i,rfl,hi,rfl,hxc,hx1,jV⟩;by_cases aV:i<ps.length
 ·have aK:(i:Int)<(ps.length:Int):=by omega
  obtain⟨b,o,c',heq,_,hcell⟩:=(hs.ext hx1).at (i:=i) (by simpa using aV);rw[awk]at heq;cases heq;have se:cellAt hc ⟨b,o+i,none⟩=some (str (ps.getD i [])):=by rw[hcell];simp[aV]
  have kG:ps.getD i []∈ps:=by simp[aV]
  have gl:ps.take (i+1)=ps.take i++[ps.getD i []]:=by rw[List.take_add_one];simp[aV]
  generalize ps.getD i []=p at*;simp(disch:=omega)only[ll,ae,seval,aK,se];refine aj rfl (Ob p (rD p kG)) ?_;rintro v2 h2⟨nO,rfl⟩;cases hw:without A4 p with
  |false=>
   simp only[ll,ae,seval];refine⟨hxc.trans nO,?_⟩;have:ps.all (without A4)=false:=by
    rw[List.all_eq_false];exact⟨p,kG,by simp[hw]⟩
   rw[this]
  |true=>
   simp(disch:=omega)only[ll,ae,seval];refine⟨ps.length-(i+1),by omega,i+1,rfl,by omega,rfl,hxc.trans nO,hx1.trans nO,?_⟩;rw[gl,List.all_append,jV];simp[hw]
 ·have aK:¬(i:Int)<(ps.length:Int):=by omega
  rw[List.take_of_length_le (by omega)]at jV;simp only[ll,ae,seval,aK];exact⟨hxc,by rw[jV]⟩
theorem UN{h:ar}(l:az)(hl:l.length≤4294967296):aF Tryz.prog 185 #[str l] h fun v h'=>Ext h h'∧v=ao (FR l:Nat):=by
 refine Hp (args:=[str l]) rfl ?_;simp(disch:=omega)only[ec,ae,seval];refine aG [0,3] (fun m ρ hc=>∃i:Nat,m=l.length-i∧i≤l.length∧ρ=[(0,str l),(3,ao i)]∧hc=h∧dq l=i+dq (l.drop i)) ?_ ?_
 ·simp(disch:=omega)only[ec,ae,seval]
  exact⟨_,0,rfl,awb _,rfl,by simp⟩
 rintro m ρ hc⟨i,rfl,hi,rfl,rfl,hn⟩;by_cases aV:i<l.length
 ·have aK:(i:Int)<(l.length:Int):=by omega
  have hd:l.drop i=l.getD i 0::l.drop (i+1):=by rw[awO aV];simp[aV]
  by_cases hb:l.getD i 0=91
  ·have ju:((l.getD i 0).toNat:Int)=91:=by rw[hb];rfl
   have w1:=gU (k:=i) (by omega);simp(disch:=omega)only[ec,ae,seval,aK,ju,w1,awY,awZ];refine⟨l.length-(i+1),by omega,i+1,rfl,by omega,rfl,?_⟩;rw[hn,hd,dq,awa hb];omega
  ·have ju:¬((l.getD i 0).toNat:Int)=91:=by
    intro e;apply hb;apply UInt8.toNat_inj.1;show _=91;omega
   have vh:dq l=i:=by rw[hn,hd,dq,av9 hb];rfl
   have Od:FR l=(if 255<i then none else(rm (l.drop i)).map (·+i)).getD 0:=by unfold FR;rw[zI,vh,aw2]
   rw[Od,hd];by_cases Pt:255<i
   ·have g1:(255:Int)<(i:Int):=by omega
    rw[awa Pt];simp(disch:=omega)only[ec,ae,seval,aK,ju,g1,awY,awZ];exact⟨Ext.refl _,rfl⟩
   rw[av9 Pt];have g1:¬(255:Int)<(i:Int):=by omega
   have g2:¬(i:Int)=(l.length:Int):=by omega
   have w1:=gU (k:=i) (by omega);generalize hbb:l.getD i 0=b at*;simp(disch:=omega)only[ec,ae,seval,hbb,aK,ju,g1,g2,awY,awZ];refine aj rfl (nN b B8) ?_;rintro v1 h1⟨rfl,rfl⟩;have kG:=QE b B8;by_cases hm:b∈B8
   ·have g4:=kG.2 hm
    rw[rm,awa hm];simp(disch:=omega)only[ec,ae,seval,hbb,aK,g4,w1,awY,awZ];refine⟨Ext.refl _,?_⟩;simp only[axc,Option.getD_some,Value.int.injEq,aw5];omega
   have g4:¬0≤ib B8 b:=fun x=>hm (kG.1 x);rw[rm,av9 hm];by_cases hL:b=76
   ·subst hL
    have g5:(((76:UInt8).toNat:Nat):Int)=76:=rfl;have agM:(76:UInt8)::l.drop (i+1)=l.drop i:=hd.symm;have sg:(l.drop i).length=l.length-i:=aws;have g6:(i:Int)≤(l.length:Int):=by omega
    rw[awa rfl,agM];simp(disch:=omega)only[ec,ae,seval,hbb,aK,g4,w1,g5,g6,awY,awZ];refine aj rfl (nN 59 (l.drop i)) ?_;rintro v2 h2⟨rfl,rfl⟩;rcases ve 59 (l.drop i)with⟨qY,_⟩|⟨k,hk,qY,TV,_⟩
    ·rw[qY]
     have g7:(-1:Int)<0:=by decide
     rw[awa g7];simp(disch:=omega)only[ec,ae,seval,g7,awY,awZ];exact⟨Ext.refl _,rfl⟩
    ·rw[qY]
     have hk0:k≠0:=by
      rintro rfl;rw[←agM]at TV;simp at TV
     rw[sg]at hk;have g7:¬(k:Int)<0:=by omega
     have w2:IntKind.i64.wrap ((i:Int)+(k:Int))=((i+k:Nat):Int):=by rw[wrap_i64 (by omega) (by omega)];omega
     have w3:IntKind.i64.wrap (((i+k:Nat):Int)+1)=((i+k+1:Nat):Int):=by rw[wrap_i64 (by omega) (by omega)];omega
     have g8:((i+1:Nat):Int)≤((i+k:Nat):Int):=by omega
     have g9:((i+k:Nat):Int)≤(l.length:Int):=by omega
     have apN:((l.drop i).take ((k:Nat):Int).toNat).drop 1=(l.take (i+k)).drop (i+1):=by
      rw[Int.toNat_natCast,←awN]
      congr 1
      rw[List.drop_take,show i+k-i=k by omega]
     rw[av9 g7,apN];simp(disch:=omega)only[ec,ae,seval,g7,w1,w2,g8,g9,awY,awZ];refine aj rfl (UM ((l.take (i+k)).drop (i+1)) (by simp;omega)) ?_;rintro v3 h3⟨hx,rfl⟩;cases eJ ((l.take (i+k)).drop (i+1))
     ·simp(disch:=omega)only[ec,ae,seval,w2,w3]
      exact⟨hx,rfl⟩
     ·simp(disch:=omega)only[ec,ae,seval,w2,w3]
      refine⟨hx,?_⟩;simp only[aw0,axc,Option.getD_some,Value.int.injEq,aw5];omega
   ·rw[av9 hL]
    have g5:¬((b.toNat:Nat):Int)=76:=by
     intro e;apply hL;apply UInt8.toNat_inj.1;show _=76;omega
    simp(disch:=omega)only[ec,ae,seval,hbb,aK,g4,w1,g5,awY,awZ];exact⟨Ext.refl _,rfl⟩
 ·have mL:i=l.length:=by omega
  subst mL;have aK:¬(l.length:Int)<(l.length:Int):=by omega
  have hdn:l.drop l.length=[]:=by simp
  have vh:dq l=l.length:=by rw[hn,hdn];rfl
  have Od:FR l=0:=by unfold FR;rw[zI,vh,hdn];split<;>rfl
  rw[Od];by_cases Pt:255<l.length
  ·have g0:(255:Int)<(l.length:Int):=by omega
   simp(disch:=omega)only[ec,ae,↓reduceIte,Nat.reduceEqDiff,reduceCtorEq,Nat.reduceLeDiff,Nat.reducePow,Int.reducePow,Int.reduceToNat,Nat.reduceAdd,aK,g0,awY,awZ];exact⟨Ext.refl _,rfl⟩
  ·have g0:¬(255:Int)<(l.length:Int):=by omega
   simp(disch:=omega)only[ec,ae,↓reduceIte,Nat.reduceEqDiff,reduceCtorEq,Nat.reduceLeDiff,Nat.reducePow,Int.reducePow,Int.reduceToNat,Nat.reduceAdd,aK,g0,awY,awZ];exact⟨Ext.refl _,rfl⟩
theorem rI{h:ar}(l:az)(hl:l.length≤4294967296):aF Tryz.prog 106 #[str l] h fun v h'=>Ext h h'∧v= .bool (cG l):=by
 refine Ef (args:=[str l]) rfl ?_;rw[V9];by_cases he:l=[]
 ·subst he
  simp only[uI,ae,seval,];exact⟨Ext.refl _,rfl⟩
 ·simp only[uI,ae,seval,he,]
  refine aj rfl (UN l hl) ?_;rintro v1 h1⟨hx,rfl⟩;simp only[ae,seval];refine⟨hx,?_⟩;simp[Int.ofNat_inj]
theorem AQ{h:ar}(l:az):aF Tryz.prog 165 #[str l] h fun v h'=>h'=h∧v=ao (mf l:Nat):=by
 refine Eg (args:=[str l]) rfl ?_;unfold mf;have q1:¬([74]:az)=[86]:=by decide
 have q2:¬([68]:az)=[86]:=by decide
 have q3:¬([68]:az)=[74]:=by decide
 have q4:¬([74]:az)=[68]:=by decide
 by_cases h1:l=[86]
 ·subst h1
  simp(disch:=omega)only[mB,ae,↓reduceIte,Nat.reduceEqDiff,reduceCtorEq,Nat.reduceLeDiff,Nat.reducePow,Int.reducePow,Int.reduceToNat,Nat.reduceAdd,av7 q1,av7 q2,av7 q3,av7 q4,awY,awZ];rfl
 by_cases h2:l=[74]
 ·subst h2
  simp(disch:=omega)only[mB,ae,seval,av7 q1,av7 q2,av7 q3,av7 q4,awY,awZ];rfl
 by_cases h3:l=[68]
 ·subst h3
  simp(disch:=omega)only[mB,ae,seval,av7 q1,av7 q2,av7 q3,av7 q4,awY,awZ];rfl
 rw[av9 h1,av9 (by simp[h2,h3])];simp(disch:=omega)only[mB,ae,↓reduceIte,Nat.reduceEqDiff,reduceCtorEq,Nat.reduceLeDiff,Nat.reducePow,Int.reducePow,Int.reduceToNat,Nat.reduceAdd,h1,h2,h3,av7 h1,av7 h2,av7 h3,awZ];rfl
def FW(s:az)(v:Value)(h:ar):Prop:=match fV s with
 |none=>v= .tuple #[nS,str [], .bool false]
 |some (ts,g)=>∃sv,v= .tuple #[sv,str g, .bool true]∧Sl h sv (ts.map str)
theorem iY{l:az}(cN:l≠[])(c:UInt8):l.head?=some c↔((l.getD 0 0).toNat:Int)=(c.toNat:Int):=by
 cases l with
 |nil=>exact aww rfl cN
 |cons b r=>
  simp only[List.head?_cons,awe,List.getD_cons_zero];constructor
  ·rintro rfl;rfl
  ·intro e;apply UInt8.toNat_inj.1;omega
theorem sJ{h:ar}(s:az)(hl:s.length≤4294967296):aF Tryz.prog 126 #[str s] h fun v h'=>Ext h h'∧FW s v h':=by
 refine Cz (args:=[str s]) rfl ?_;simp only[dL,ae,seval];refine aj rfl (FU 40 s) ?_;rintro v1 h1⟨rfl,rfl⟩;by_cases hh:s.head?=some 40
 ·have hm:fV s=ng (zJ s.length (s.drop 1) [] 0):=by unfold fV;rw[awa hh]
  unfold FW;rw[hm,awh hh];have cN:s≠[]:=by rintro rfl;simp at hh
  have pT:1≤s.length:=awr.2 cN;have g1:(1:Int)≤(s.length:Int):=by omega
  simp(disch:=omega)only[dL,ae,seval];generalize hR:zJ s.length (s.drop 1) [] 0=R;refine aG [0,5,6] (fun m ρ hc=>∃(l:az)(ts:List (az))(sl:Nat)(out:Value),m=l.length∧ρ=[(0,str l),(5,out),(6,ao sl)]∧
   Own hc h1.size 9 1 out ts.length (ts.map str)∧Ext h1 hc∧l.length+ts.length≤s.length∧sl≤2*ts.length∧∃f,l.length<f∧zJ f l ts sl=R) ?_ ?_
  ·simp only[ae,seval]
   exact⟨_,s.drop 1,[],0,_,rfl,rfl,Own.nil,Ext.refl _,by simp,by simp,s.length,by simp;omega,hR⟩
  rintro m ρ hc⟨l,ts,sl,out,rfl,rfl,gQ,hx,hlen,pB,f,hf,my⟩;obtain⟨f,rfl⟩:∃k,f=k+1:=⟨f-1,by omega⟩;rw[zJ]at my;by_cases he:l=[]
  ·subst he
   rw[awa (.inl rfl)]at my;subst my;simp only[dL,ae,seval,];exact⟨hx,by simp[ng]⟩
  have hlp:(0:Int)<(l.length:Int):=by have:=awr.2 he;omega
  have AR:(1:Int)≤(l.length:Int):=by omega
  by_cases Ru:l.head?=some 41
  ·have g2:((l.getD 0 0).toNat:Int)=41:=(iY he 41).1 Ru
   rw[awa (.inr Ru)]at my;subst my;by_cases Rv:254<sl
   ·have g3:(254:Int)<(sl:Int):=by omega
    simp(disch:=omega)only[dL,ae,seval,he,g2,g3,];exact⟨hx,by simp[ng,Rv]⟩
   have g3:¬(254:Int)<(sl:Int):=by omega
   by_cases hV:l.drop 1=[86]
   ·simp(disch:=omega)only[dL,ae,seval,he,g2,g3,hV,]
    refine⟨hx,?_⟩;simp only[ng,he,hV,Rv,aw7,ne_eq,not_true_eq_false,false_and,aw1];exact⟨_,rfl,gQ.sl⟩
   ·simp(disch:=omega)only[dL,ae,seval,he,g2,g3,hV,]
    refine aj rfl (rI (l.drop 1) (by rw[aws];omega)) ?_;rintro v2 h2⟨nO,rfl⟩;cases KI:cG (l.drop 1)with
    |true=>
     simp(disch:=omega)only[dL,ae,seval];refine⟨hx.trans nO,?_⟩;simp only[ng,he,hV,Rv,KI,aw7,ne_eq,not_false_eq_true,aw5,Bool.true_eq_false,aw1];exact⟨_,rfl,(gQ.ext nO).sl⟩
    |false=>
     simp only[dL,ae,seval];refine⟨hx.trans nO,?_⟩;rw[show ng (some (ts,sl,l))=none by unfold ng;simp only[];rw[awa (.inr (.inr ⟨hV,KI⟩))]]
     trivial
  ·have g2:¬((l.getD 0 0).toNat:Int)=41:=fun x=>Ru ((iY he 41).2 x)
   rw[av9 (by simp[he,Ru])]at my;simp(disch:=omega)only[dL,ae,seval,he,g2,];refine aj rfl (UN l (by omega)) ?_;rintro v2 h2⟨nO,rfl⟩;unfold FR;cases ho:jc l 0 with
   |none=>
    rw[ho]at my;subst my;have z0:((0:Nat):Int)=0:=rfl;simp only[Option.getD_none];simp only[dL,ae,seval,z0,];exact⟨hx.trans nO,by simp[ng]⟩
   |some k=>
    rw[ho]at my;have hk:=FQ ho;have g4:¬(k:Int)=0:=by omega
    have g5:(k:Int)≤(l.length:Int):=by omega
    simp only[Option.getD_some];simp only[]at my;have rJ:(l.take k).length≤4294967296:=by rw[awz];omega
    have MK:=rH (l.take k);generalize hlk:l.take k=q at*;have w1:IntKind.i64.wrap ((sl:Int)+(mf q:Int))=((sl+mf q:Nat):Int):=by rw[wrap_i64 (by omega) (by omega)];omega
    simp(disch:=omega)only[dL,ae,seval,g4,hlk,];refine aU dE rfl rfl (by decide) ?_;simp only[ae,seval];have agO:=gQ.ext nO;have gB:=hx.size;have alo:=nO.size;refine bF dE rfl rfl (agO.push _) rfl (bV (vs:=[str q])) (by intro u hu;simp only[awf]at hu;subst hu;rfl) (by omega) (by omega) (by simp;omega) ?_;intro v' h' iV nI _;simp(disch:=omega)only[dL,ae,seval,hlk];refine aj rfl (AQ q) ?_;rintro v3 h3⟨rfl,rfl⟩;simp(disch:=omega)only[dL,ae,seval,w1];refine⟨(l.drop k).length,by rw[aws];omega,l.drop k,ts++[q],sl+mf q,v',rfl,rfl,by simpa using iV,
     Ext.app ((hx.trans nO).trans (Ext.push _ _)) nI (fun k hk=>by have:=(agO.lt k hk).1;simpa using this),by rw[aws,awn,awt];omega,by simp;omega,f,by rw[aws];omega,my⟩
 ·have hm:fV s=none:=by unfold fV;rw[av9 hh]
  unfold FW;rw[hm,awg hh];simp only[dL,ae,seval];exact Ext.refl _
end Go.Proofs.YtmbboehmnfhjjaaGreatDoor
