/- Pairs of texts as keys of a map; what is there twice. Fields checked, by the program. A field checked, by the program. The flags of a method, by the program. Code checked, by the program. -/
import Derived.Test.YtmbboehmnfhjjaaGreatDoorU20
import Derived.Test.YtmbboehmnfhjjaaGreatDoorU10
import Derived.Test.YtmbboehmnfhjjaaGreatDoorU19
set_option maxRecDepth 100000
set_option maxHeartbeats 8000000
set_option linter.unusedSimpArgs false
set_option linter.unusedVariables false
set_option linter.defProp false
namespace Go.Proofs.YtmbboehmnfhjjaaGreatDoor
open Go.Vc
section
theorem k_s(h:ar)(d:Nat)(a u:ByteArray):rd Tryz.prog (Op.equalIn (d+1) 9 (.string a) (.string u)) h=some (a==u):=by
 rw[Op.equalIn,aM,aY Tryz.underlying9,awc];dsimp only;rfl
theorem aqg(h:ar)(a b u v:ByteArray):rd Tryz.prog (Op.equal 65 (.agg #[.string a, .string b]) (.agg #[.string u, .string v])) h=some ((a==u)&&(b==v)):=by
 show rd Tryz.prog (Op.equalIn (9998+1+1) 65 _ _) h=_
 rw[Op.equalIn,aM,aY Tryz.underlying65,awc];dsimp only;rw[aM,show rd Tryz.prog (sizeOf 9) h=some 1 by kernel_rfl,awc];have p0:∀x y:ByteArray,rd Tryz.prog (part 9 #[Value.string x,Value.string y] (0*1)) h=some (.string x):=fun x y=>by kernel_rfl
 have p1:∀x y:ByteArray,rd Tryz.prog (part 9 #[Value.string x,Value.string y] ((0+1)*1)) h=some (.string y):=fun x y=>by kernel_rfl
 rw[aM];rw[Std.Legacy.Range.forIn_eq_forIn_range'];simp only[Std.Legacy.Range.size,Nat.add_sub_cancel,Nat.sub_zero,Nat.div_one,List.range',List.forIn_cons,aM,p0,awc,k_s];cases hau:(a==u)
 ·simp[aZ]
 ·simp only[Bool.not_true,awj,aw1,aZ,awc,aM,p1,k_s]
  cases hbv:(b==v)
  ·simp[aZ]
  ·simp[aZ]
abbrev TT:=az × az
def kP:TT→Value:=fun p=> .agg #[str p.1,str p.2]
theorem QH(a a':TT)(h:kP a=kP a'):a=a':=by
 obtain⟨a1,a2⟩:=a;obtain⟨b1,b2⟩:=a';unfold kP str at h;simp only[Value.agg.injEq,Array.mk.injEq,aw9,Value.string.injEq,ByteArray.mk.injEq,aw4]at h;have h1:a1=b1:=by simpa using h.1
 have h2:a2=b2:=by simpa using h.2
 rw[h1,h2]
theorem Sn(a b:az):((⟨a.toArray⟩:ByteArray)==⟨b.toArray⟩)=decide (a=b):=by
 show(a.toArray==b.toArray)=decide (a=b)
 rw[Bool.eq_iff_iff];simp
theorem anl(h:ar)(p q:TT):rd Tryz.prog (Op.equal 65 (kP p) (kP q)) h=some (decide (q=p)):=by
 have:=aqg h ⟨p.1.toArray⟩ ⟨p.2.toArray⟩ ⟨q.1.toArray⟩ ⟨q.2.toArray⟩;rw[show kP p= .agg #[.string ⟨p.1.toArray⟩, .string ⟨p.2.toArray⟩]from rfl,show kP q= .agg #[.string ⟨q.1.toArray⟩, .string ⟨q.2.toArray⟩]from rfl,this,Sn,Sn];obtain⟨p1,p2⟩:=p;obtain⟨q1,q2⟩:=q
 congr 1
 rw[Bool.eq_iff_iff,awm,awo,awo,awo,aw8];exact⟨fun h=>⟨h.1.symm,h.2.symm⟩,fun h=>⟨h.1.symm,h.2.symm⟩⟩
theorem ahp(h:ar)(a:TT):∀(es:List MapEntry)(i:Nat),(∀x∈es,∃a',x.key=kP a')→
 (rd Tryz.prog (Instr.findAsking 65 (kP a) es i) h=some none∧∀x∈es,x.key≠kP a)∨∃j e0,rd Tryz.prog (Instr.findAsking 65 (kP a) es i) h=some (some (i+j,e0.val))∧es[j]? =some e0∧e0.key=kP a
 |[],i,_=> .inl ⟨rfl,by simp⟩
 |e::es,i,H=>by
  obtain⟨a',ha⟩:=H e (by simp);unfold Instr.findAsking;rw[aM,ha,anl,awc];by_cases hk:a'=a
  ·rw[awh hk]
   exact .inr ⟨0,e,rfl,rfl,by rw[ha,hk]⟩
  ·rw[awg hk]
   simp only[awj,aw1];rcases ahp h a es (i+1) (fun x hx=>H x (by simp[hx]))with⟨h1,h2⟩|⟨j,e0,h1,h2,h3⟩
   ·refine .inl ⟨h1,fun x hx=>?_⟩
    rcases awL.1 hx with rfl|hx
    ·rw[ha];exact fun h=>hk (QH _ _ h)
    ·exact h2 x hx
   ·exact .inr ⟨j+1,e0,by rw[h1,show i+1+j=i+(j+1) by omega],by simpa using h2,h3⟩
theorem AZ:agt Tryz.prog 65 kP where
 check e h a:=by
  obtain⟨a,b⟩:=a
  show rd Tryz.prog (Instr.checkKey e 10000 65 (.agg #[str a,str b])) h=some ()
  kernel_rfl
 find h a es H:=by
  unfold Instr.findKey;rw[aM,aY Tryz.underlying65,awc];cases es with
  |nil=>exact .inl ⟨rfl,by simp⟩
  |cons e es=>
   obtain⟨a',ha⟩:=H e (by simp);have hn:Instr.findNow (.array 2 9) (kP a) (e::es) 0=none:=by
    unfold Instr.findNow;rw[ha];rfl
   rw[hn];have:=ahp h a (e::es) 0 H;simpa using this
 stays a:=by
  obtain⟨a,b⟩:=a;simp[kP,str,Instr.sameBits,Sn]
 inj:=QH
theorem KW:mpK Tryz.prog 163 65 (ao 0):=⟨_,_,rfl,rfl,rfl⟩
def cntF(seen:List TT):TT→Option Value:=fun p=>if p∈seen then some (ao 1)else none
theorem abF(seen:List TT)(a:TT):(fun a'=>if a'=a then some (ao 1)else cntF seen a')=cntF (seen++[a]):=by
 funext s
 unfold cntF;by_cases h1:s=a
 ·simp[h1]
 ·simp[h1]
section
variable{h:ar}{b:Nat}{seen:List TT}
theorem vC(HM:iT kP h b (cntF seen))(p1 p2:az):
 aF Tryz.prog 162 #[.map (some b),str p1,str p2] h fun v h'=>Fr (fun k=>k=b) h h'∧v= .bool (decide ((p1,p2)∈seen))∧((p1,p2)∉seen→iT kP h' b (cntF (seen++[(p1,p2)]))):=by
 refine CY (args:=[.map (some b),str p1,str p2]) rfl ?_;have bl:∀h:ar,ik Tryz.prog 65 [0,1] [str p1,str p2] h=some (.agg #[str p1,str p2]):=fun h=>by kernel_rfl
 have lk:=FL KW AZ HM (p1,p2) false;simp only[awj,aw1]at lk;have lk1:vT Tryz.prog 163 (.map (some b)) (.agg #[str p1,str p2]) false h=some ((cntF seen (p1,p2)).getD (ao 0)):=lk;by_cases hs:(p1,p2)∈seen
 ·have hc:cntF seen (p1,p2)=some (ao 1):=awa hs
  rw[hc]at lk1;simp only[Option.getD_some]at lk1;simp(disch:=omega)only[lS,ae,seval,bl,lk1];refine Js KW AZ (a:=(p1,p2)) (F:=cntF seen) rfl rfl HM ?_;intro h1 s WI A1 f1 _;rw[hc]at WI⊢;simp only[Option.getD_some]at WI⊢;have lk2:vT Tryz.prog 163 (.map (some b)) (.agg #[str p1,str p2]) false h1=some (ao 1):=by
   have:=FL KW AZ WI (p1,p2) false;simp at this;exact this
  simp(disch:=omega)only[ae,seval,lk2];refine Ck QH (a:=(p1,p2)) (n:=s) (v:=ao 2) rfl rfl rfl WI A1 ?_;intro h2 HM2 f2 _;have lk3:vT Tryz.prog 163 (.map (some b)) (.agg #[str p1,str p2]) false h2=some (ao 2):=by
   have:=FL KW AZ HM2 (p1,p2) false;simp at this;exact this
  simp(disch:=omega)only[lS,ae,seval,bl,lk3,va];have ff:Fr (fun k=>k=b) h h2:=Fr.trans f1 f2 (fun _ _ h=>h) (fun _ _ h=>h)
  first|exact⟨ff,by rw[awh hs],fun h=>aww hs h⟩|exact⟨ff,fun h=>aww hs h⟩
 ·have hc:cntF seen (p1,p2)=none:=av9 hs
  rw[hc]at lk1;simp only[Option.getD_none]at lk1;simp(disch:=omega)only[lS,ae,seval,bl,lk1];refine Js KW AZ (a:=(p1,p2)) (F:=cntF seen) rfl rfl HM ?_;intro h1 s WI A1 f1 _;rw[hc]at WI⊢;simp only[Option.getD_none]at WI⊢;have lk2:vT Tryz.prog 163 (.map (some b)) (.agg #[str p1,str p2]) false h1=some (ao 0):=by
   have:=FL KW AZ WI (p1,p2) false;simp at this;exact this
  simp(disch:=omega)only[ae,seval,lk2];refine Ck QH (a:=(p1,p2)) (n:=s) (v:=ao 1) rfl rfl rfl WI A1 ?_;intro h2 HM2 f2 _;have lk3:vT Tryz.prog 163 (.map (some b)) (.agg #[str p1,str p2]) false h2=some (ao 1):=by
   have:=FL KW AZ HM2 (p1,p2) false;simp at this;exact this
  simp(disch:=omega)only[lS,ae,seval,bl,lk3,va];have ff:Fr (fun k=>k=b) h h2:=Fr.trans f1 f2 (fun _ _ h=>h) (fun _ _ h=>h)
  first|refine⟨ff,by rw[awg hs],fun _=>?_⟩|refine⟨ff,fun _=>?_⟩
  rw[←abF];have e:(fun a'=>if a'=(p1,p2)then some (Value.int .i64 1)else if a'=(p1,p2)then some (Value.int .i64 0)else cntF seen a')=(fun a'=>if a'=(p1,p2)then some (ao 1)else cntF seen a'):=by
   funext a';split<;>rfl
  rw[←e];exact HM2
end
end
section
def pg(f:Nat):List Nat→Nat
 |[]=>0
 |m::r=>(if f&&&m=0 then 0 else 1)+pg f r
def oL(f:Nat)(ms:List Nat):Bool:=decide (pg f ms≤1)
theorem Zf(f:Nat):∀ms,pg f ms≤ms.length
 |[]=>awp _
 |m::r=>by have:=Zf f r;rw[pg,awy];split<;>omega
theorem Sq(f m:Nat):∀ms,pg f (ms++[m])=pg f ms+(if f&&&m=0 then 0 else 1)
 |[]=>by simp[pg]
 |x::r=>by rw[awC,pg,Sq f m r,pg];omega
def ahq:az:=[76,106,97,118,97,47,108,97,110,103,47,83,116,114,105,110,103,59]
def xn(of:az):Nat:=
 if of=[73]∨of=[83]∨of=[67]∨of=[66]∨of=[90]then 3 else if of=[74]then 5 else if of=[70]then 4 else if of=[68]then 6 else if of=ahq then 8 else 0
def Cr(p:List aX)(x:Nat)(of:az):Bool:=decide (xn of≠0)&&eV p x (xn of)
def Pz(fl:Nat)(p:List aX)(seen:List TT)(f:fC):Nat:=
 if eV p f.name 1=false∨eV p f.type 1=false then 7
 else if dc (bM p f.name) false=0 then 8
 else if cG (bM p f.type)=false then 9
 else if oL f.flags [1,2,4]=false∨oL f.flags [16,64]=false then 10
 else if fl&&&512≠0∧f.flags&&&223≠25 then 10
 else if(bM p f.name,bM p f.type)∈seen then 11
 else if f.value≠0∧Cr p f.value (bM p f.type)=false then 7 else 0
section
variable{h:ar}{g:Nat}{c:iP}{vp vi vf vm:Value}
theorem Ou(f:Nat)(hf:f<65536)(ms:List Nat)(hms:∀m∈ms,m<65536)(hlen:ms.length≤1000){tv:Value}(rJ:Sl h tv (ms.map fun t:Nat=>ax t)):
 aF Tryz.prog 161 #[ax f,tv] h fun v h'=>h'=h∧v= .bool (oL f ms):=by
 refine EK (args:=[ax f,tv]) rfl ?_;have YN:=rJ;obtain⟨a,c,rfl,_⟩:=YN;rw[awk];simp only[mD,ae,seval];refine aG [0,5,8,9,10] (fun m ρ hc=>∃i:Nat,m=ms.length-i∧i≤ms.length∧
  ρ=[(0,ax f),(5,ao (pg f (ms.take i):Nat)),(8, .slice a ms.length c),(9,ao ms.length),(10,ao i)]∧hc=h) ?_ ?_
 ·simp only[ae,seval]
  exact⟨_,0,rfl,awb _,rfl⟩
 rintro m ρ hc⟨i,rfl,hi,rfl,rfl⟩;have lQ:=Zf f (ms.take i);rw[awz]at lQ;by_cases aV:i<ms.length
 ·have aK:(i:Int)<(ms.length:Int):=by omega
  obtain⟨b,o,c',heq,_,hcell⟩:=rJ.at (i:=i) (by simpa using aV);rw[awk]at heq;cases heq;have se:cellAt hc ⟨b,o+i,none⟩=some (ax (ms.getD i 0:Nat)):=by rw[hcell];simp[aV]
  have gl:ms.take (i+1)=ms.take i++[ms.getD i 0]:=iU aV;have hm:=hms _ (dF (d:=0) aV);generalize ms.getD i 0=t at*;have w1:=gU (k:=i) (by omega);have hb:=jR f t hf hm;have hsn:=Sq f t (ms.take i);rw[←gl]at hsn;by_cases hz:f&&&t=0
  ·rw[awa hz]at hsn
   rw[hz]at hb;simp(disch:=omega)only[mD,ae,seval,aK,se,hb,w1];exact⟨ms.length-(i+1),by omega,i+1,rfl,by omega,by rw[hsn];rfl⟩
  ·rw[av9 hz]at hsn
   have w2:IntKind.i64.wrap (((pg f (ms.take i):Nat):Int)+1)=((pg f (ms.take (i+1)):Nat):Int):=by rw[hsn,wrap_i64 (by omega) (by omega)];omega
   generalize f&&&t=ft at*;simp(disch:=omega)only[mD,ae,seval,aK,se,hb,w1,w2,va];exact⟨ms.length-(i+1),by omega,i+1,rfl,by omega,rfl⟩
 ·have aK:¬(i:Int)<(ms.length:Int):=by omega
  rw[List.take_of_length_le (by omega)];have e:decide (((pg f ms:Nat):Int)≤1)=oL f ms:=decide_eq_decide.2 (by omega);simp only[mD,ae,seval,aK,e,]
theorem WJ(H:CB h g c vp vi vf vm)(k:Nat)(hk:k<65536)(of:az):
 aF Tryz.prog 163 #[vw g,ax k,str of] h fun v h'=>Ext h h'∧v= .bool (Cr c.pool k of):=by
 refine J0 (args:=[vw g,ax k,str of]) rfl ?_;simp only[fq,ae,seval];refine cT ?_;have B:=Bx.new (h:=h) (g:=g);have E:=Ext.push h (.cells #[aE g] 157);simp only[fq,ae,seval];generalize h.push _=h1,h.size=q at*;have H1:=H.ext E;have b0:=B.p;have c5:cellAt h1 ⟨g,5,none⟩=some vp:=H1.at rfl;unfold Cr xn ahq;have fin:∀t:Nat,t≠0→(decide (t≠0)&&eV c.pool k t)=eV c.pool k t:=fun t ht=>by rw[awh ht,Bool.true_and]
 by_cases n0:of=[73]
 case pos=>
  rw[show(if of=[73]∨of=[83]∨of=[67]∨of=[66]∨of=[90]then 3 else if of=[74]then 5 else if of=[70]then 4 else if of=[68]then 6 else if of=[76,106,97,118,97,47,108,97,110,103,47,83,116,114,105,110,103,59]then 8 else 0)=3 by rw[awa (by simp[n0])],fin 3 (by decide)];simp only[fq,ae,seval,b0,c5,av8 n0];refine aj rfl (lC k 3 hk H1.cls.p) ?_;rintro v2 h2⟨rfl,rfl⟩;simp only[ae,seval];exact E
 by_cases n1:of=[83]
 case pos=>
  rw[show(if of=[73]∨of=[83]∨of=[67]∨of=[66]∨of=[90]then 3 else if of=[74]then 5 else if of=[70]then 4 else if of=[68]then 6 else if of=[76,106,97,118,97,47,108,97,110,103,47,83,116,114,105,110,103,59]then 8 else 0)=3 by rw[awa (by simp[n1])],fin 3 (by decide)];simp only[fq,ae,seval,b0,c5,av7 n0,av8 n1];refine aj rfl (lC k 3 hk H1.cls.p) ?_;rintro v2 h2⟨rfl,rfl⟩;simp only[ae,seval];exact E
 by_cases n2:of=[67]
 case pos=>
  rw[show(if of=[73]∨of=[83]∨of=[67]∨of=[66]∨of=[90]then 3 else if of=[74]then 5 else if of=[70]then 4 else if of=[68]then 6 else if of=[76,106,97,118,97,47,108,97,110,103,47,83,116,114,105,110,103,59]then 8 else 0)=3 by rw[awa (by simp[n2])],fin 3 (by decide)];simp only[fq,ae,seval,b0,c5,av7 n0,av7 n1,av8 n2];refine aj rfl (lC k 3 hk H1.cls.p) ?_;rintro v2 h2⟨rfl,rfl⟩;simp only[ae,seval];exact E
 by_cases n3:of=[66]
 case pos=>
  rw[show(if of=[73]∨of=[83]∨of=[67]∨of=[66]∨of=[90]then 3 else if of=[74]then 5 else if of=[70]then 4 else if of=[68]then 6 else if of=[76,106,97,118,97,47,108,97,110,103,47,83,116,114,105,110,103,59]then 8 else 0)=3 by rw[awa (by simp[n3])],fin 3 (by decide)];simp only[fq,ae,seval,b0,c5,av7 n0,av7 n1,av7 n2,av8 n3];refine aj rfl (lC k 3 hk H1.cls.p) ?_;rintro v2 h2⟨rfl,rfl⟩;simp only[ae,seval];exact E
 by_cases n4:of=[90]
 case pos=>
  rw[show(if of=[73]∨of=[83]∨of=[67]∨of=[66]∨of=[90]then 3 else if of=[74]then 5 else if of=[70]then 4 else if of=[68]then 6 else if of=[76,106,97,118,97,47,108,97,110,103,47,83,116,114,105,110,103,59]then 8 else 0)=3 by rw[awa (by simp[n4])],fin 3 (by decide)];simp only[fq,ae,seval,b0,c5,av7 n0,av7 n1,av7 n2,av7 n3,av8 n4];refine aj rfl (lC k 3 hk H1.cls.p) ?_;rintro v2 h2⟨rfl,rfl⟩;simp only[ae,seval];exact E
 by_cases n5:of=[74]
 case pos=>
  rw[show(if of=[73]∨of=[83]∨of=[67]∨of=[66]∨of=[90]then 3 else if of=[74]then 5 else if of=[70]then 4 else if of=[68]then 6 else if of=[76,106,97,118,97,47,108,97,110,103,47,83,116,114,105,110,103,59]then 8 else 0)=5 by rw[av9 (by simp[n5]),awa n5],fin 5 (by decide)];simp only[fq,ae,seval,b0,c5,av7 n0,av7 n1,av7 n2,av7 n3,av7 n4,av8 n5];refine aj rfl (lC k 5 hk H1.cls.p) ?_;rintro v2 h2⟨rfl,rfl⟩;simp only[ae,seval];exact E
 by_cases n6:of=[70]
 case pos=>
  rw[show(if of=[73]∨of=[83]∨of=[67]∨of=[66]∨of=[90]then 3 else if of=[74]then 5 else if of=[70]then 4 else if of=[68]then 6 else if of=[76,106,97,118,97,47,108,97,110,103,47,83,116,114,105,110,103,59]then 8 else 0)=4 by rw[av9 (by simp[n6]),av9 n5,awa n6],fin 4 (by decide)];simp only[fq,ae,seval,b0,c5,av7 n0,av7 n1,av7 n2,av7 n3,av7 n4,av7 n5,av8 n6];refine aj rfl (lC k 4 hk H1.cls.p) ?_;rintro v2 h2⟨rfl,rfl⟩;simp only[ae,seval];exact E
 by_cases n7:of=[68]
 case pos=>
  rw[show(if of=[73]∨of=[83]∨of=[67]∨of=[66]∨of=[90]then 3 else if of=[74]then 5 else if of=[70]then 4 else if of=[68]then 6 else if of=[76,106,97,118,97,47,108,97,110,103,47,83,116,114,105,110,103,59]then 8 else 0)=6 by rw[av9 (by simp[n7]),av9 n5,av9 n6,awa n7],fin 6 (by decide)];simp only[fq,ae,seval,b0,c5,av7 n0,av7 n1,av7 n2,av7 n3,av7 n4,av7 n5,av7 n6,av8 n7];refine aj rfl (lC k 6 hk H1.cls.p) ?_;rintro v2 h2⟨rfl,rfl⟩;simp only[ae,seval];exact E
 by_cases n8:of=[76,106,97,118,97,47,108,97,110,103,47,83,116,114,105,110,103,59]
 case pos=>
  rw[show(if of=[73]∨of=[83]∨of=[67]∨of=[66]∨of=[90]then 3 else if of=[74]then 5 else if of=[70]then 4 else if of=[68]then 6 else if of=[76,106,97,118,97,47,108,97,110,103,47,83,116,114,105,110,103,59]then 8 else 0)=8 by rw[av9 (by simp[n8]),av9 n5,av9 n6,av9 n7,awa n8],fin 8 (by decide)];simp only[fq,ae,seval,b0,c5,av7 n0,av7 n1,av7 n2,av7 n3,av7 n4,av7 n5,av7 n6,av7 n7,av8 n8];refine aj rfl (lC k 8 hk H1.cls.p) ?_;rintro v2 h2⟨rfl,rfl⟩;simp only[ae,seval];exact E
 rw[av9 (by simp[n0,n1,n2,n3,n4]),av9 n5,av9 n6,av9 n7,av9 n8];simp only[fq,ae,seval,av7 n0,av7 n1,av7 n2,av7 n3,av7 n4,av7 n5,av7 n6,av7 n7,av7 n8]
 first|exact E|exact⟨E,rfl⟩
end
end
section
abbrev ahr(f:fC):Value:= .agg #[ax f.flags,ax f.name,ax f.type,ax f.value]
abbrev Ss(f:fC):Obj:= .cells #[ax f.flags,ax f.name,ax f.type,ax f.value] 103
section
variable{h0 h:ar}{g mb:Nat}{c:iP}{vp vi vf vm:Value}{seen:List TT}
def alu(h0:ar)(mb:Nat)(seen:List TT)(k:TT)(e:Nat)(v:Value)(h':ar):Prop:=
 Ext h0 h'∧v=ao (e:Nat)∧(e=0→iT kP h' mb (cntF (seen++[k])))
theorem vD{h0 h1 h2:ar}{mb:Nat}(X:Ext h0 h1)(f:Fr (fun k=>k=mb) h1 h2)(hm:h0.size≤mb):Ext h0 h2:=Fr.trans X f (fun _ _ h=>h) (fun k hk hS=>by omega)
theorem Sv{h:ar}{b:Nat}{ts:List Nat}(H:Rd h b 0 (ts.map fun t:Nat=>ax t)):Sl h (.slice (some ⟨b,0,none⟩) ts.length ts.length) (ts.map fun t:Nat=>ax t):=
 ⟨some ⟨b,0,none⟩,ts.length,by rw[awk], .inr ⟨b,0,rfl,H⟩⟩
theorem WK(H:CB h0 g c vp vi vf vm)(F:CF c)(X:Ext h0 h)(hm:h0.size≤mb)(HM:iT kP h mb (cntF seen))(f:fC)(hf:f.Fit):
 aF Tryz.prog 87 #[vw g,ahr f, .map (some mb)] h (alu h0 mb seen (bM c.pool f.name,bM c.pool f.type) (Pz c.flags c.pool seen f)):=by
 refine JZ (args:=[vw g,ahr f, .map (some mb)]) rfl ?_;have AU:=HM.lt;simp(disch:=omega)only[bR,ae,↓reduceIte,Nat.reduceEqDiff,reduceCtorEq,Nat.reduceLeDiff,Nat.reducePow,Int.reducePow,Int.reduceToNat,Nat.reduceAdd];refine cT ?_;have B:=Bx.new (h:=h) (g:=g);have E:=Ext.push h (.cells #[aE g] 157);simp(disch:=omega)only[bR,ae,↓reduceIte,Nat.reduceEqDiff,reduceCtorEq,Nat.reduceLeDiff,Nat.reducePow,Int.reducePow,Int.reduceToNat,Nat.reduceAdd,aw2];generalize h.push _=h1 at*;have hqm:mb<h.size:=AU;generalize h.size=q at*;refine cT ?_;have E1:=Ext.push h1 (Ss f);have qc:(h1.push (Ss f))[h1.size]? =some (Ss f):=by simp
 have B:=B.ext E1;have hq2:=E.size;simp(disch:=omega)only[bR,ae,↓reduceIte,Nat.reduceEqDiff,reduceCtorEq,Nat.reduceLeDiff,Nat.reducePow,Int.reducePow,Int.reduceToNat,Nat.reduceAdd,aw2];generalize h1.push _=h2 at*;have aqh:mb<h1.size:=by have:=(HM.fr E awx).lt;omega
 generalize h1.size=q2 at*;have x2:=(X.trans E).trans E1;have M2:=(HM.fr E awx).fr E1 awx;have key:∀h3,Fr (fun k=>k=mb) h2 h3→cellAt h3 ⟨q2,0,none⟩=some (ax f.flags)∧cellAt h3 ⟨q2,1,none⟩=some (ax f.name)∧cellAt h3 ⟨q2,2,none⟩=some (ax f.type)∧cellAt h3 ⟨q2,3,none⟩=some (ax f.value)∧Bx h3 q g∧CB h3 g c vp vi vf vm:=by
  intro h3 x3;have b2:=ay x3 qc (by omega);refine⟨?_,?_,?_,?_,ay x3 B (by omega),H.ext (vD x2 x3 hm)⟩
  all_goals rw[au b2];rfl
 have up:∀{a b:ar},Ext a b→Fr (fun k=>k=mb) a b:=fun e=>⟨e.size,fun k hk _=>e.same k hk awx⟩;have tr:∀{a b c:ar},Fr (fun k=>k=mb) a b→Fr (fun k=>k=mb) b c→Fr (fun k=>k=mb) a c:=fun p q=>Fr.trans p q (fun _ _ h=>h) (fun _ _ h=>h);obtain⟨k0,k1,k2,k3,B2,H2⟩:=key h2 (up (Ext.refl _));have la:=F.str f.name;have lb:=F.str f.type;have bl:=B2.l;simp(disch:=omega)only[bR,ae,↓reduceIte,Nat.reduceEqDiff,reduceCtorEq,Nat.reduceLeDiff,Nat.reducePow,Int.reducePow,Int.reduceToNat,Nat.reduceAdd,bl,k1];refine aj rfl (jC H2 f.name hf.name) ?_;rintro v3 h3⟨x3,rfl⟩;obtain⟨k0,k1,k2,k3,B3,H3⟩:=key h3 (up x3);have bl:=B3.l;simp(disch:=omega)only[bR,ae,↓reduceIte,Nat.reduceEqDiff,reduceCtorEq,Nat.reduceLeDiff,Nat.reducePow,Int.reducePow,Int.reduceToNat,Nat.reduceAdd,bl,k2];refine aj rfl (jC H3 f.type hf.type) ?_;rintro v4 h4⟨x4,rfl⟩;have Ow:=x3.trans x4;obtain⟨k0,k1,k2,k3,B4,H4⟩:=key h4 (up Ow);have b0:=B4.p;have c2:cellAt h4 ⟨g,2,none⟩=some (ax c.flags):=H4.at rfl;have a1:cB .and .u16 (c.flags:Int) 512=((c.flags&&&512:Nat):Int):=jR _ 512 F.fit.flags (by decide);have a2:cB .and .u16 (f.flags:Int) 223=((f.flags&&&223:Nat):Int):=jR _ 223 hf.flags (by decide);have xx:=x2.trans Ow;unfold alu Pz;generalize bM c.pool f.name=na,bM c.pool f.type=nd at*;have vk:=fun(h:ar)(H:CB h g c vp vi vf vm)=>WJ H f.value hf.value nd;generalize eV c.pool f.name 1=i1,eV c.pool f.type 1=i2,c.flags&&&512=cf,f.flags&&&223=ff at*;cases i1 with
 |false=>
  rw[awa (.inl rfl)];simp(disch:=omega)only[bR,ae,↓reduceIte,Nat.reduceEqDiff,reduceCtorEq,Nat.reduceLeDiff,Nat.reducePow,Int.reducePow,Int.reduceToNat,Nat.reduceAdd,b0,c2,a1,va];exact⟨xx,rfl⟩
 |true=>
  cases i2 with
  |false=>
   rw[awa (.inr rfl)];simp(disch:=omega)only[bR,ae,↓reduceIte,Nat.reduceEqDiff,reduceCtorEq,Nat.reduceLeDiff,Nat.reducePow,Int.reducePow,Int.reduceToNat,Nat.reduceAdd,b0,c2,a1,va];exact⟨xx,rfl⟩
  |true=>
   rw[av9 (by simp)];simp(disch:=omega)only[bR,ae,↓reduceIte,Nat.reduceEqDiff,reduceCtorEq,Nat.reduceLeDiff,Nat.reducePow,Int.reducePow,Int.reduceToNat,Nat.reduceAdd,b0,c2,a1,va];refine aj rfl (nP na false la) ?_;rintro v5 h5⟨x5,rfl⟩;by_cases m0:dc na false=0
   ·rw[awa m0]
    simp(disch:=omega)only[bR,ae,↓reduceIte,Nat.reduceEqDiff,reduceCtorEq,Nat.reduceLeDiff,Nat.reducePow,Int.reducePow,Int.reduceToNat,Nat.reduceAdd,va];exact⟨xx.trans x5,rfl⟩
   rw[av9 m0];simp(disch:=omega)only[bR,ae,↓reduceIte,Nat.reduceEqDiff,reduceCtorEq,Nat.reduceLeDiff,Nat.reducePow,Int.reducePow,Int.reduceToNat,Nat.reduceAdd,va];refine aj rfl (rI nd lb) ?_;rintro v6 h6⟨x6,rfl⟩;have WL:=(Ow.trans x5).trans x6;have Sw:=x2.trans WL;cases KI:cG nd with
   |false=>
    rw[awa rfl];simp(disch:=omega)only[bR,ae,↓reduceIte,Nat.reduceEqDiff,reduceCtorEq,Nat.reduceLeDiff,Nat.reducePow,Int.reducePow,Int.reduceToNat,Nat.reduceAdd];exact⟨Sw,rfl⟩
   |true=>
    rw[av9 (by decide)];obtain⟨k0,k1,k2,k3,B6,H6⟩:=key h6 (up WL);simp(disch:=omega)only[bR,ae,↓reduceIte,Nat.reduceEqDiff,reduceCtorEq,Nat.reduceLeDiff,Nat.reducePow,Int.reducePow,Int.reduceToNat,Nat.reduceAdd,k0];refine aU fL rfl rfl (by decide) ?_;simp(disch:=omega)only[bR,ae,↓reduceIte,Nat.reduceEqDiff,reduceCtorEq,Nat.reduceLeDiff,Nat.reducePow,Int.reducePow,Int.reduceToNat,Nat.reduceAdd];have e7:=Ext.push h6 (.cells #[ax 1,ax 2,ax 4] 40);have t7:Sl (h6.push (.cells #[ax 1,ax 2,ax 4] 40)) (.slice (some ⟨h6.size,0,none⟩) 3 3) (([1,2,4]:List Nat).map fun t:Nat=>ax t):=Sv (ts:=[1,2,4]) (bV (vs:=[ax 1,ax 2,ax 4]));generalize h6.push _=h7,h6.size=q7 at*;refine aj rfl (Ou f.flags hf.flags [1,2,4] (by decide) (by decide) t7) ?_;rintro v8 h8⟨rfl,rfl⟩;have WM:=WL.trans e7;have A0:=x2.trans WM;cases oL f.flags [1,2,4]with
    |false=>
     rw[awa (.inl rfl)];simp(disch:=omega)only[bR,ae,↓reduceIte,Nat.reduceEqDiff,reduceCtorEq,Nat.reduceLeDiff,Nat.reducePow,Int.reducePow,Int.reduceToNat,Nat.reduceAdd,k0];exact⟨A0,rfl⟩
    |true=>
     obtain⟨k0,k1,k2,k3,B8,H8⟩:=key h8 (up WM);simp(disch:=omega)only[bR,ae,↓reduceIte,Nat.reduceEqDiff,reduceCtorEq,Nat.reduceLeDiff,Nat.reducePow,Int.reducePow,Int.reduceToNat,Nat.reduceAdd,k0];refine aU fL rfl rfl (by decide) ?_;simp(disch:=omega)only[bR,ae,↓reduceIte,Nat.reduceEqDiff,reduceCtorEq,Nat.reduceLeDiff,Nat.reducePow,Int.reducePow,Int.reduceToNat,Nat.reduceAdd];have e9:=Ext.push h8 (.cells #[ax 16,ax 64] 40);have t9:Sl (h8.push (.cells #[ax 16,ax 64] 40)) (.slice (some ⟨h8.size,0,none⟩) 2 2) (([16,64]:List Nat).map fun t:Nat=>ax t):=Sv (ts:=[16,64]) (bV (vs:=[ax 16,ax 64]));generalize h8.push _=h9,h8.size=q9 at*;refine aj rfl (Ou f.flags hf.flags [16,64] (by decide) (by decide) t9) ?_;rintro v10 d9⟨rfl,rfl⟩;have x20:=WM.trans e9;have xx0:=x2.trans x20;cases oL f.flags [16,64]with
     |false=>
      rw[awa (.inr rfl)];simp(disch:=omega)only[bR,ae,↓reduceIte,Nat.reduceEqDiff,reduceCtorEq,Nat.reduceLeDiff,Nat.reducePow,Int.reducePow,Int.reduceToNat,Nat.reduceAdd];exact⟨xx0,rfl⟩
     |true=>
      rw[av9 (by simp)];obtain⟨k0,k1,k2,k3,B10,H10⟩:=key d9 (up x20);have M10:=M2.fr x20 awx;by_cases IL:cf≠0∧ff≠25
      ·rw[awa IL]
       obtain⟨hc1,IK⟩:=IL;simp(disch:=omega)only[bR,ae,↓reduceIte,Nat.reduceEqDiff,reduceCtorEq,Nat.reduceLeDiff,Nat.reducePow,Int.reducePow,Int.reduceToNat,Nat.reduceAdd,k0,a2,va];exact⟨xx0,rfl⟩
      rw[av9 IL];by_cases hc1:cf=0
      case pos=>
       simp(disch:=omega)only[bR,ae,↓reduceIte,Nat.reduceEqDiff,reduceCtorEq,Nat.reduceLeDiff,Nat.reducePow,Int.reducePow,Int.reduceToNat,Nat.reduceAdd,k0,a2,va];refine aj rfl (vC M10 na nd) ?_;rintro v11 AY⟨f11,rfl,aht⟩;obtain⟨k0,k1,k2,k3,B11,H11⟩:=key AY (tr (up x20) f11);have yd:=vD xx0 f11 hm;have bl:=B11.l;by_cases hs:(na,nd)∈seen
       case pos=>
        rw[awa hs];simp(disch:=omega)only[bR,ae,↓reduceIte,Nat.reduceEqDiff,reduceCtorEq,Nat.reduceLeDiff,Nat.reducePow,Int.reducePow,Int.reduceToNat,Nat.reduceAdd,awh hs];exact⟨yd,rfl⟩
       rw[av9 hs];have Sx:=aht hs;by_cases v0:f.value=0
       case pos=>
        rw[av9 (by simp[v0])];simp(disch:=omega)only[bR,ae,↓reduceIte,Nat.reduceEqDiff,reduceCtorEq,Nat.reduceLeDiff,Nat.reducePow,Int.reducePow,Int.reduceToNat,Nat.reduceAdd,awg hs,k3,va]
        first|exact⟨yd,rfl,fun _=>Sx⟩|exact⟨yd,fun _=>Sx⟩|exact⟨yd,rfl,Sx⟩|exact⟨yd,Sx⟩
       simp(disch:=omega)only[bR,ae,↓reduceIte,Nat.reduceEqDiff,reduceCtorEq,Nat.reduceLeDiff,Nat.reducePow,Int.reducePow,Int.reduceToNat,Nat.reduceAdd,awg hs,k3,bl,va];refine aj rfl (vk AY H11) ?_;rintro v12 xV⟨pj,rfl⟩;have WN:=Sx.fr pj awx;cases Cr c.pool f.value nd with
       |false=>
        rw[awa ⟨v0,rfl⟩];simp(disch:=omega)only[bR,ae,↓reduceIte,Nat.reduceEqDiff,reduceCtorEq,Nat.reduceLeDiff,Nat.reducePow,Int.reducePow,Int.reduceToNat,Nat.reduceAdd];exact⟨yd.trans pj,rfl⟩
       |true=>
        rw[av9 (by simp)];simp(disch:=omega)only[bR,ae,↓reduceIte,Nat.reduceEqDiff,reduceCtorEq,Nat.reduceLeDiff,Nat.reducePow,Int.reducePow,Int.reduceToNat,Nat.reduceAdd]
        first|exact⟨yd.trans pj,rfl,fun _=>WN⟩|exact⟨yd.trans pj,fun _=>WN⟩|exact⟨yd.trans pj,rfl,WN⟩|exact⟨yd.trans pj,WN⟩
      have IK:ff=25:=by omega
      simp(disch:=omega)only[bR,ae,↓reduceIte,Nat.reduceEqDiff,reduceCtorEq,Nat.reduceLeDiff,Nat.reducePow,Int.reducePow,Int.reduceToNat,Nat.reduceAdd,k0,a2,va];refine aj rfl (vC M10 na nd) ?_;rintro v11 AY⟨f11,rfl,aht⟩;obtain⟨k0,k1,k2,k3,B11,H11⟩:=key AY (tr (up x20) f11);have yd:=vD xx0 f11 hm;have bl:=B11.l;by_cases hs:(na,nd)∈seen
      case pos=>
       rw[awa hs];simp(disch:=omega)only[bR,ae,↓reduceIte,Nat.reduceEqDiff,reduceCtorEq,Nat.reduceLeDiff,Nat.reducePow,Int.reducePow,Int.reduceToNat,Nat.reduceAdd,awh hs];exact⟨yd,rfl⟩
      rw[av9 hs];have Sx:=aht hs;by_cases v0:f.value=0
      case pos=>
       rw[av9 (by simp[v0])];simp(disch:=omega)only[bR,ae,↓reduceIte,Nat.reduceEqDiff,reduceCtorEq,Nat.reduceLeDiff,Nat.reducePow,Int.reducePow,Int.reduceToNat,Nat.reduceAdd,awg hs,k3,va]
       first|exact⟨yd,rfl,fun _=>Sx⟩|exact⟨yd,fun _=>Sx⟩|exact⟨yd,rfl,Sx⟩|exact⟨yd,Sx⟩
      simp(disch:=omega)only[bR,ae,↓reduceIte,Nat.reduceEqDiff,reduceCtorEq,Nat.reduceLeDiff,Nat.reducePow,Int.reducePow,Int.reduceToNat,Nat.reduceAdd,awg hs,k3,bl,va];refine aj rfl (vk AY H11) ?_;rintro v12 xV⟨pj,rfl⟩;have WN:=Sx.fr pj awx;cases Cr c.pool f.value nd with
      |false=>
       rw[awa ⟨v0,rfl⟩];simp(disch:=omega)only[bR,ae,↓reduceIte,Nat.reduceEqDiff,reduceCtorEq,Nat.reduceLeDiff,Nat.reducePow,Int.reducePow,Int.reduceToNat,Nat.reduceAdd];exact⟨yd.trans pj,rfl⟩
      |true=>
       rw[av9 (by simp)];simp(disch:=omega)only[bR,ae,↓reduceIte,Nat.reduceEqDiff,reduceCtorEq,Nat.reduceLeDiff,Nat.reducePow,Int.reducePow,Int.reduceToNat,Nat.reduceAdd]
       first|exact⟨yd.trans pj,rfl,fun _=>WN⟩|exact⟨yd.trans pj,fun _=>WN⟩|exact⟨yd.trans pj,rfl,WN⟩|exact⟨yd.trans pj,WN⟩
end
end
section
def Gr(cf f kind:Nat):Bool:=
 if kind=3 then decide (f&&&1280=0)&&decide (f&&&8≠0)
 else if cf&&&512≠0 then decide (f&&&3391=1025)&&decide (kind≠2)
 else if oL f [1,2,4]=false then false
 else if f&&&1024≠0 then decide (f&&&314=0)&&(decide (cf&&&1024≠0)&&decide (kind≠2))
 else if kind=2 then decide (f&&&312=0)else true
section
variable{h:ar}{g:Nat}{c:iP}{vp vi vf vm:Value}
theorem A5(H:CB h g c vp vi vf vm)(F:CF c)(f:Nat)(hf:f<65536)(kind:Nat)(hk:kind<4):
 aF Tryz.prog 164 #[vw g,ax f,ao kind] h fun v h'=>Ext h h'∧v= .bool (Gr c.flags f kind):=by
 refine J6 (args:=[vw g,ax f,ao kind]) rfl ?_;simp only[eM,ae,seval];refine cT ?_;have B:=Bx.new (h:=h) (g:=g);have E:=Ext.push h (.cells #[aE g] 157);simp only[eM,ae,seval];generalize h.push _=h1,h.size=q at*;have H1:=H.ext E;have b0:=B.p;have c2:cellAt h1 ⟨g,2,none⟩=some (ax c.flags):=H1.at rfl;have a1:cB .and .u16 (c.flags:Int) 512=((c.flags&&&512:Nat):Int):=jR _ 512 F.fit.flags (by decide);have a2:cB .and .u16 (c.flags:Int) 1024=((c.flags&&&1024:Nat):Int):=jR _ 1024 F.fit.flags (by decide);have a3:cB .and .u16 (f:Int) 1280=((f&&&1280:Nat):Int):=jR _ 1280 hf (by decide);have a4:cB .and .u16 (f:Int) 8=((f&&&8:Nat):Int):=jR _ 8 hf (by decide);have a5:cB .and .u16 (f:Int) 3391=((f&&&3391:Nat):Int):=jR _ 3391 hf (by decide);have a6:cB .and .u16 (f:Int) 1024=((f&&&1024:Nat):Int):=jR _ 1024 hf (by decide);have a7:cB .and .u16 (f:Int) 314=((f&&&314:Nat):Int):=jR _ 314 hf (by decide);have a8:cB .and .u16 (f:Int) 312=((f&&&312:Nat):Int):=jR _ 312 hf (by decide);unfold Gr;generalize c.flags&&&512=z1,c.flags&&&1024=z2,f&&&1280=z3,f&&&8=z4,f&&&3391=z5,f&&&1024=z6,f&&&314=z7,f&&&312=z8 at*;by_cases k3:kind=3
 ·rw[awa k3]
  by_cases y3:z3=0
  ·by_cases y4:z4=0
   all_goals
    simp(disch:=omega)only[eM,ae,seval,b0,c2,a1,a3,a4,va];exact⟨E,by simp[]⟩
  ·simp(disch:=omega)only[eM,ae,seval,b0,c2,a1,a3,va]
   exact⟨E,by simp[]⟩
 rw[av9 k3];by_cases y1:z1≠0
 ·rw[awa y1]
  by_cases y5:z5=1025
  ·by_cases k2:kind=2
   all_goals
    simp(disch:=omega)only[eM,ae,seval,b0,c2,a1,a5,va];exact⟨E,by simp[]⟩
  ·simp(disch:=omega)only[eM,ae,seval,b0,c2,a1,a5,va]
   exact⟨E,by simp[]⟩
 rw[av9 y1];simp(disch:=omega)only[eM,ae,seval,b0,c2,a1,va];refine aU fL rfl rfl (by decide) ?_;simp only[ae,seval];have e7:=Ext.push h1 (.cells #[ax 1,ax 2,ax 4] 40);have t7:Sl (h1.push (.cells #[ax 1,ax 2,ax 4] 40)) (.slice (some ⟨h1.size,0,none⟩) 3 3) (([1,2,4]:List Nat).map fun t:Nat=>ax t):=Sv (ts:=[1,2,4]) (bV (vs:=[ax 1,ax 2,ax 4]));generalize h1.push _=h2,h1.size=q7 at*;refine aj rfl (Ou f hf [1,2,4] (by decide) (by decide) t7) ?_;rintro v3 h3⟨rfl,rfl⟩;have E2:=E.trans e7;have b0:=(B.ext e7).p;have c2:cellAt h3 ⟨g,2,none⟩=some (ax c.flags):=(H1.ext e7).at rfl;cases oL f [1,2,4]with
 |false=>
  rw[awa rfl];simp only[eM,ae,seval];exact E2
 |true=>
  rw[av9 (by decide)];by_cases y6:z6≠0
  ·rw[awa y6]
   by_cases y7:z7=0
   ·by_cases y2:z2=0
    ·simp(disch:=omega)only[eM,ae,seval,b0,c2,a2,a6,a7,va]
     exact⟨E2,by simp[]⟩
    ·by_cases k2:kind=2
     all_goals
      simp(disch:=omega)only[eM,ae,seval,b0,c2,a2,a6,a7,va];exact⟨E2,by simp[]⟩
   ·simp(disch:=omega)only[eM,ae,seval,a6,a7,va]
    exact⟨E2,by simp[]⟩
  ·rw[av9 y6]
   by_cases k2:kind=2
   ·rw[awa k2]
    by_cases y8:z8=0
    all_goals
     simp(disch:=omega)only[eM,ae,seval,a6,a8,va]
     first|exact E2|exact⟨E2,by simp[y8]⟩|exact⟨E2,rfl⟩
   ·rw[av9 k2]
    simp(disch:=omega)only[eM,ae,seval,a6,va];exact E2
end
end
section
def PF(eU:List Int)(L:Int)(x:ns):Bool:=
 !((decide (x.from'∈eU∨x.from'=L)&&decide (x.to∈eU∨x.to=L))&&(decide (x.target∈eU)&&decide (x.from'<x.to)))
def JA(p:List aX)(eU:List Int)(L:Int):Nat→List ns→Int × Int
 |_,[]=>(0,0)
 |n,x::r=>if PF eU L x=true then(16,(n:Int))else if x.type≠0∧(bZ p x.type).2=false then(7,(n:Int))else JA p eU L (n+1) r
def JB(p:List aX)(cd:vu):Int × Int:=
 if(j0 cd.bytes).2.1≠0 then(((j0 cd.bytes).2.1:Int),((j0 cd.bytes).2.2:Int))
 else if(iM p cd.fF (j0 cd.bytes).1).1≠0 then iM p cd.fF (j0 cd.bytes).1
 else JA p ((j0 cd.bytes).1.map In.at') (cd.bytes.length:Int) 0 cd.hs
theorem Zg(l:az):∀(k:Nat)(xs:List In)(s:RS),(∀x∈xs,0≤x.at'∧x.at'<(l.length:Int))→∀x∈(xk l k xs s).1,0≤x.at'∧x.at'<(l.length:Int)
 |0,xs,s,H=>H
 |k+1,xs,s,H=>by
  rw[xk]
  split
  ·rename_i hc
   refine Zg l k _ _ fun x hx=>?_;rcases awi.1 hx with hx|hx
   ·exact H x hx
   ·simp only[awf]at hx
    subst hx;rw[(UY l s).1];omega
  ·exact H
theorem Zh(l:az):∀x∈(j0 l).1,0≤x.at'∧x.at'<(l.length:Int):=by
 unfold j0
 split
 ·simp
 ·unfold Px
  simp only[]
  split
  ·simp
  ·exact Zg l _ _ _ (by simp)
theorem U3(l:az):(j0 l).1.length≤65535:=by
 have key:∀(k:Nat)(xs:List In)(s:RS),(xk l k xs s).1.length≤xs.length+k:=by
  intro k
  induction k with
  |zero=>intro xs s;exact awp _
  |succ k ih=>
   intro xs s;rw[xk]
   split
   ·have:=ih (xs++[(sN l s).1]) (sN l s).2
    rw[awn,awt]at this;omega
   ·simp only[];omega
 unfold j0
 split
 ·simp
 ·unfold Px
  simp only[]
  split
  ·simp
  ·have:=key l.length [] ⟨0,0,0⟩
   rw[awM]at this;simp only[];omega
theorem KX(p:List aX)(L:Int):∀l,(iM p L l).1=0∨(iM p L l).1=15
 |[]=> .inl rfl
 |x::r=>by
  rw[iM]
  split
  ·exact KX p L r
  ·exact .inr rfl
def kJ:Int→Value:=fun a=>ao a
theorem WO(a:Int):Go.MapKept.IsKey (.int .i64) (kJ a):=rfl
theorem acK(a a':Int)(h:kJ a=kJ a'):a=a':=by cases h;rfl
theorem abG:mpT Tryz.prog 191 (.int .i64) (ao 0):=⟨_,_,_,rfl,rfl,rfl,rfl⟩
structure WQ(F:Int→Option Value)(eU:List Int)(L:Int):Prop where
 h1:∀a∈eU,∃n:Nat,n<1073741824∧F a=some (ao n)
 h2:F L=some (ao (-1))
 h3:∀a,a∉eU→a≠L→F a=none
theorem WQ.new(L:Int):WQ (fun a'=>if a'=L then some (ao (-1))else none) [] L:=⟨fun a ha=>aww ha (by simp),awa rfl,fun a _ hL=>av9 hL⟩
theorem WQ.snoc{F:Int→Option Value}{eU:List Int}{L a:Int}{n:Nat}(H:WQ F eU L)(hn:n<1073741824)(ha:a≠L):WQ (fun a'=>if a'=a then some (ao n)else F a') (eU++[a]) L:=by
 refine⟨fun b hb=>?_,?_,fun b hb hL=>?_⟩
 ·by_cases he:b=a
  ·exact⟨n,hn,awa he⟩
  ·rw[awi,awf]at hb
   obtain⟨k,h1,h2⟩:=H.h1 b (hb.resolve_right he);exact⟨k,h1,by rw[av9 he];exact h2⟩
 ·rw[av9 (Ne.symm ha)];exact H.h2
 ·rw[awi,awf,not_or]at hb
  rw[av9 hb.2];exact H.h3 b hb.1 hL
theorem WQ.some{F:Int→Option Value}{eU:List Int}{L a:Int}(H:WQ F eU L):(F a).isSome=decide (a∈eU∨a=L):=by
 by_cases h1:a∈eU
 ·obtain⟨n,_,h⟩:=H.h1 a h1
  rw[h,awh (.inl h1)];rfl
 ·by_cases h2:a=L
  ·rw[h2,H.h2,awh (.inr rfl)];rfl
  ·rw[H.h3 a h1 h2,awg (by simp[h1,h2])];rfl
section
variable{h:ar}{g:Nat}{c:iP}{vp vi vf vm:Value}
abbrev cdA(cd:vu)(vH:Value):Value:= .agg #[ao cd.maxS,ao cd.fF,str cd.bytes,vH,str cd.map]
theorem PG(H:CB h g c vp vi vf vm)(F:CF c)(cd:vu){vH:Value}(IL:cd.Fit)(hH:fR h 4 vH cd.hs.length (gZ cd.hs))(kO:cd.bytes.length≤1073741824)(A6:cd.hs.length≤1073741824):
 aF Tryz.prog 166 #[vw g,cdA cd vH] h fun v h'=>Ext h h'∧v= .tuple #[ao (JB c.pool cd).1,ao (JB c.pool cd).2]:=by
 obtain⟨_,ah,ch,rfl,_⟩:=id hH;refine LU (args:=[vw g,cdA cd (.slice ah cd.hs.length ch)]) rfl ?_;simp only[dn,ae,seval];refine cT ?_;have B:=Bx.new (h:=h) (g:=g);have E:=Ext.push h (.cells #[aE g] 157);simp only[ae,seval];generalize h.push _=h1,h.size=q at*;refine cT ?_;have E1:=Ext.push h1 (.cells #[ao cd.maxS,ao cd.fF,str cd.bytes, .slice ah cd.hs.length ch,str cd.map] 88);have qc:(h1.push (.cells #[ao cd.maxS,ao cd.fF,str cd.bytes, .slice ah cd.hs.length ch,str cd.map] 88))[h1.size]? =some (.cells #[ao cd.maxS,ao cd.fF,str cd.bytes, .slice ah cd.hs.length ch,str cd.map] 88 (0,0)):=by simp
 have B:=B.ext E1;simp only[dn,ae,seval];generalize h1.push _=h2,h1.size=q2 at*;have x2:=E.trans E1;have key:∀h3,Ext h2 h3→cellAt h3 ⟨q2,1,none⟩=some (ao cd.fF)∧cellAt h3 ⟨q2,2,none⟩=some (str cd.bytes)∧cellAt h3 ⟨q2,3,none⟩=some (.slice ah cd.hs.length ch)∧Bx h3 q g∧CB h3 g c vp vi vf vm:=by
  intro h3 x3;have b2:=ay x3 qc awx;refine⟨?_,?_,?_,B.ext x3,H.ext (x2.trans x3)⟩
  all_goals rw[au b2];rfl
 obtain⟨k1,k2,k3,B2,H2⟩:=key h2 (Ext.refl _);simp only[ae,seval,k2];refine aj rfl (Y1 cd.bytes h2 kO) ?_;rintro v3 h3⟨x3,sv,rfl,hIF⟩;have hI:=hIF.alp;have TV:=Zh cd.bytes;have MP:=UZ cd.bytes kO;have aqj:=U3 cd.bytes;have U4:∀a∈(j0 cd.bytes).1.map In.at',0≤a∧a<(cd.bytes.length:Int):=by
  intro a ha;obtain⟨x,hx,rfl⟩:=List.mem_map.1 ha;exact TV x hx
 unfold JB;generalize(j0 cd.bytes).2.1=e1,(j0 cd.bytes).2.2=e2,(j0 cd.bytes).1=l at*;have xx3:=x2.trans x3;by_cases Wl:e1≠0
 ·rw[awa Wl]
  simp(disch:=omega)only[dn,ae,seval,va];exact xx3
 rw[av9 Wl];obtain⟨k1,k2,k3,B3,H3⟩:=key h3 x3;have b0:=B3.p;have c5:cellAt h3 ⟨g,5,none⟩=some vp:=H3.at rfl;obtain⟨_,_,hr2,_⟩:=id hI;obtain⟨_,al,cl,rfl,_⟩:=hr2;simp(disch:=omega)only[dn,ae,seval,b0,c5,k1,va];refine aj rfl (abm l _ h3 hI MP (by omega) cd.fF (by have:=IL.l2;omega) F.len F.fit.pool F.txt H3.cls.p) ?_;rintro v4 h4⟨x4,rfl⟩;have rM:=KX c.pool cd.fF l;have WR:=xx3.trans x4;by_cases hk:(iM c.pool cd.fF l).1≠0
 ·rw[awa hk]
  generalize iM c.pool cd.fF l=kk at*;have AF:kk.1=15:=by omega
  rw[AF];simp only[dn,ae,seval,Int.reduceEq];exact WR
 rw[av9 hk];have AF:(iM c.pool cd.fF l).1=0:=by omega
 rw[AF];generalize(iM c.pool cd.fF l).2=k22 at*;have Ow:=x3.trans x4;obtain⟨k1,k2,k3,B4,H4⟩:=key h4 Ow;simp only[dn,ae,seval,];refine qF ?_;have M0:iT kJ (h4.push (.map #[] 0)) h4.size (fun _=>none):=iT.new;have e5:=Ext.push h4 (.map #[] 0);have k2':cellAt (h4.push (.map #[] 0)) ⟨q2,2,none⟩=some (str cd.bytes):=(key _ (Ow.trans e5)).2.1;generalize h4.push _=h5 at*;obtain⟨mb,Ze⟩:∃y,y=h4.size:=⟨_,rfl⟩;rw[←Ze]at M0⊢;simp only[ae,seval,k2'];refine XO (sC (K:=_) abG WO acK (a:=(cd.bytes.length:Int)) (b:=mb) (F:=fun _=>none) rfl rfl rfl M0 ?_);intro h6 M6 f6 _;have x46:Ext h4 h6:=Fr.trans e5 f6 (fun _ _ h=>h) (fun k hk hS=>by omega);have B0:=WQ.new (cd.bytes.length:Int);generalize(fun a':Int=>if a'=(cd.bytes.length:Int)then some (Value.int .i64 (-1))else none)=G0 at*;simp only[dn,ae,seval];refine aG [2,3,11,56,57,58] (fun m ρ hc=>∃(i:Nat)(G:Int→Option Value),m=l.length-i∧i≤l.length∧
  ρ=[(2,aE q),(3,aE q2),(11, .map (some mb)),(56, .slice al l.length cl),(57,ao l.length),(58,ao i)]∧Ext h4 hc∧
  iT kJ hc mb G∧WQ G ((l.take i).map In.at') (cd.bytes.length:Int)) ?_ ?_
 ·simp only[ae,seval]
  exact⟨_,0,G0,rfl,awb _,rfl,x46,M6,by simpa using B0⟩
 rintro m ρ hc⟨i,G,rfl,hi,rfl,hx,hM,hG⟩;by_cases aV:i<l.length
 ·have aK:(i:Int)<(l.length:Int):=by omega
  have w1:=gU (k:=i) (by omega);obtain⟨b,o,c',vk,vt,heq,tG,sk,_,st,_⟩:=(hI.ext (x4.trans hx)).at aV;cases heq;have hax:=U4 (l.getD i l8).at' (List.mem_map_of_mem (dF aV));have gl:=iU (l:=l) (d:=l8) aV;generalize l.getD i l8=x at*;obtain⟨_,ak,ck,rfl,_⟩:=sk;obtain⟨_,bk,cb,rfl,_⟩:=st;have bm:=aS gg tG rfl;simp only[fu]at bm;simp(disch:=omega)only[dn,ae,seval,aK,bm];refine aD eB ?_;simp only[ae,seval];refine aI eB rfl rfl rfl (by simp[Value.cells,oneCell]) rfl ?_;intro h7 x7 _ qR b7;have c0:cellAt h7 ⟨hc.size,0,none⟩=some (ao x.at'):=qR 0 _ rfl;have M7:=hM.fr x7 awx;simp only[dn,ae,seval,c0];refine sC (K:=_) abG WO acK (a:=x.at') (b:=mb) (F:=G) rfl rfl rfl M7 ?_;intro h8 M8 f8 _;have x48:Ext h4 h8:=Fr.trans (hx.trans x7) f8 (fun _ _ h=>h) (fun k hk hS=>by omega);simp only[dn,ae,seval,w1];refine⟨l.length-(i+1),by omega,i+1,_,rfl,by omega,rfl,x48,M8,?_⟩;rw[gl,List.map_append];exact hG.snoc (by omega) (by omega)
 have aK:¬(i:Int)<(l.length:Int):=by omega
 rw[List.take_of_length_le (by omega)]at hG;generalize l.map In.at'=eU at*;obtain⟨k1,k2,k3,B5,H5⟩:=key hc (Ow.trans hx);simp only[dn,ae,seval,aK,k3];refine aG [2,11,69,70,71] (fun m ρ hd=>∃i:Nat,m=cd.hs.length-i∧i≤cd.hs.length∧
  ρ=[(2,aE q),(11, .map (some mb)),(69, .slice ah cd.hs.length ch),(70,ao cd.hs.length),(71,ao i)]∧Ext hc hd∧
  JA c.pool eU (cd.bytes.length:Int) 0 cd.hs=JA c.pool eU (cd.bytes.length:Int) i (cd.hs.drop i)) ?_ ?_
 ·simp only[ae,seval]
  exact⟨_,0,rfl,awb _,rfl,Ext.refl _,by simp⟩
 rintro m ρ hd⟨j,rfl,hj,rfl,rR,nK⟩;have KY:=(WR.trans hx).trans rR;by_cases vR:j<cd.hs.length
 case neg=>
  have rq:¬(j:Int)<(cd.hs.length:Int):=by omega
  rw[nK,awV (by omega)];simp only[dn,ae,seval,rq]
  first|exact⟨KY,rfl⟩|exact KY
 have rq:(j:Int)<(cd.hs.length:Int):=by omega
 have w1:=gU (k:=j) (by omega);obtain⟨b,o,c',heq,di,_⟩:=(hH.ext (by decide) KY).at vR;cases heq;rw[U1 vR]at di;rw[gL (d:=ns.zero) vR,JA]at nK;have hxf:=IL.hs _ (dF (d:=ns.zero) vR);generalize cd.hs.getD j ns.zero=x at*;have bm:=aS KC di rfl;simp only[ns.cells]at bm;simp(disch:=omega)only[dn,ae,seval,rq,bm];refine aD rF ?_;simp only[ae,seval];refine aI rF rfl rfl rfl (by simp[Value.cells,oneCell]) rfl ?_;intro h7 x7 _ qR b7;have c0:cellAt h7 ⟨hd.size,0,none⟩=some (ao x.from'):=qR 0 _ rfl;have c1:cellAt h7 ⟨hd.size,1,none⟩=some (ao x.to):=qR 1 _ rfl;have c2:cellAt h7 ⟨hd.size,2,none⟩=some (ao x.target):=qR 2 _ rfl;have c3:cellAt h7 ⟨hd.size,3,none⟩=some (ax x.type):=qR 3 _ rfl;have M7:=(hM.fr rR awx).fr x7 awx;have rS:=KY.trans x7;obtain⟨_,_,_,B7,H7⟩:=key h7 (((Ow.trans hx).trans rR).trans x7);have lk:=fun a=>VN abG WO M7 a true;simp only[aw0,hG.some]at lk;have l1:vT Tryz.prog 191 (.map (some mb)) (ao x.from') true h7=_:=lk x.from';have l2:vT Tryz.prog 191 (.map (some mb)) (ao x.to) true h7=_:=lk x.to;have l3:vT Tryz.prog 191 (.map (some mb)) (ao x.target) true h7=_:=lk x.target;generalize hd.size=qh at*;unfold PF at nK;have bad:∀{B:Bool},B=true→(16,(j:Int))=(if B=true then(16,(j:Int))else if x.type≠0∧(bZ c.pool x.type).2=false then(7,(j:Int))else JA c.pool eU (cd.bytes.length:Int) (j+1) (cd.hs.drop (j+1))):=fun h=>by rw[awa h]
 generalize(G x.from').getD (ao 0)=v1 at l1;generalize(G x.to).getD (ao 0)=v2 at l2;by_cases p1:x.from'∈eU∨x.from'=(cd.bytes.length:Int)
 case neg=>
  rw[nK,←bad (by rw[awg p1];rfl)];rw[awg p1]at l1;simp only[dn,ae,seval,c0,c1,c2,l1,l2,l3];exact rS
 rw[awh p1]at l1 nK;by_cases p2:x.to∈eU∨x.to=(cd.bytes.length:Int)
 case neg=>
  rw[nK,←bad (by rw[awg p2];rfl)];rw[awg p2]at l2;simp only[dn,ae,seval,c0,c1,c2,l1,l2,l3];exact rS
 rw[awh p2]at l2 nK;by_cases p3:x.target∈eU
 case neg=>
  rw[nK,←bad (by rw[awg p3];rfl)];by_cases pL:x.target=(cd.bytes.length:Int)
  ·rw[awh (.inr pL),pL,hG.h2,Option.getD_some]at l3
   rw[pL]at c2;simp only[dn,ae,seval,c0,c1,c2,l1,l2,l3];exact rS
  ·rw[awg (by simp[p3,pL])]at l3
   generalize(G x.target).getD (ao 0)=v3 at l3;simp only[dn,ae,seval,c0,c1,c2,l1,l2,l3];exact rS
 obtain⟨n,_,hn⟩:=hG.h1 x.target p3;rw[awh (.inl p3),hn,Option.getD_some]at l3;rw[awh p3]at nK;by_cases p4:x.from'<x.to
 case neg=>
  rw[nK,←bad (by rw[awg p4];rfl)];simp(disch:=omega)only[dn,ae,seval,c0,c1,c2,l1,l2,l3,va];exact rS
 rw[awh p4,av9 (by decide)]at nK;have bl:=B7.l;simp(disch:=omega)only[dn,ae,seval,c0,c1,c2,c3,l1,l2,l3,bl,va];refine aj rfl (tY H7 F x.type hxf.type) ?_;rintro v9 h9⟨x9,rfl⟩;have c3':=ael x9 c3;have RA:=(rR.trans x7).trans x9;have xx9:=rS.trans x9;cases mY:(bZ c.pool x.type).2 with
 |true=>
  rw[mY,av9 (by simp)]at nK;simp only[dn,ae,seval,w1];exact⟨cd.hs.length-(j+1),by omega,j+1,rfl,by omega,rfl,RA,nK⟩
 |false=>
  rw[mY]at nK;by_cases t0:x.type=0
  ·rw[av9 (by simp[t0])]at nK
   simp(disch:=omega)only[dn,ae,seval,c3',w1,va];exact⟨cd.hs.length-(j+1),by omega,j+1,rfl,by omega,rfl,RA,nK⟩
  ·rw[awa ⟨t0,rfl⟩]at nK
   rw[nK];simp(disch:=omega)only[dn,ae,seval,c3',va];exact xx9
end
end
end Go.Proofs.YtmbboehmnfhjjaaGreatDoor
