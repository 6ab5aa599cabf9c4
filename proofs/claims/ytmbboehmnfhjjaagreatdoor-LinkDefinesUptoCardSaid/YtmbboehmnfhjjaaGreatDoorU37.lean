/- link.New: the built-in classes in memory. The two worlds side by side in memory. What is read of a class file keeps to bounds; what the check lets pass has names that are right. Define, by the program: it answers as the bytes say; the world has the class. -/
import Derived.Test.YtmbboehmnfhjjaaGreatDoorU36
import Derived.Test.YtmbboehmnfhjjaaGreatDoorU31
import Derived.Test.YtmbboehmnfhjjaaGreatDoorU25
set_option maxRecDepth 100000
set_option maxHeartbeats 32000000
set_option linter.unusedSimpArgs false
set_option linter.unusedVariables false
set_option linter.defProp false
namespace Go.Proofs.YtmbboehmnfhjjaaGreatDoor
open Go.Vc
section
open Go.Lib (fields)
section
variable{h0 h:ar}{b:Nat}{c:LC}{s:Nat × Int}{vi vp vf vm:Value}{W:List LC}
theorem PN.set2(N:PN h0 h b c s vi vp vf vm){v:Value}{l:List (az)}(O:Own h h0.size 9 1 v l.length (l.map str)):PN h0 (setAt h ⟨b,2,none⟩ v) b {c with ifs:=l} s v vp vf vm:=by
 have f:=Fr.set (S:=fun k=>k=b) h ⟨b,2,none⟩ v fun _=>rfl;have nb:∀{e base size n w xs},Own h base e size w n xs→e≠50→∀k,w.ownBlock=some k→¬k=b:=fun O he k hk e=>bK O N.k.b he (by rw[hk,e]);have q:=bu (o:=2) N.k.b v;exact⟨⟨q,(O.fr f (nb O (by decide))).mono (awb _),N.k.f.fr f (nb N.k.f (by decide)),N.k.m.fr f (nb N.k.m (by decide))⟩,N.b,N.m.fr f (nb N.m (by decide)),Fr.trans N.x f (fun _ _ h=>h) fun k hk e=>by have:=N.b;omega⟩
theorem ak1(h:(((W++[c]).map LC.sk).map (·.1)).Nodup):∀i,i<W.length→(at' W i).nm≠c.nm:=by
 rw[List.map_append,List.map_append,List.nodup_append]at h;intro i hi e;refine h.2.2 (at' W i).nm ?_ c.nm (by simp[LC.sk]) e;rw[List.map_map];exact List.mem_map.2 ⟨at' W i,by simp[at',hi],rfl⟩
theorem PW.none{h:ar}{g mb:Nat}(hw:h[g]? =some (.cells #[.map (some mb)] 37))(M:iT kN h mb (fun _=>none)):PW h g mb [] [] S0:=
 ⟨hw,M,rfl,List.nodup_nil,fun i hi=>aww hi (awq _),fun i hi=>aww hi (awq _),fun i hi=>aww hi (awq _),fun i hi=>aww hi (awq _),by decide,fun i hi=>aww hi (awq _)⟩
end
theorem ak2{x:BI}(h:okB x=true):(∀f∈fields x.mb,f≠[]∧0≤ib (mbS f) 40∧f.length≤200)∧(∀b∈x.fc,b.toNat<128)∧(∀b∈x.mb,b.toNat<128)∧x.fl<65536∧x.nm.length≤200∧x.sup.length≤200∧x.fc.length≤200∧x.mb.length≤200∧(fields x.mb).length≤200∧(fields x.fc).length≤200∧∀f∈fields x.fc,f.length≤200:=by
 unfold okB at h;simp only[awm,awX,List.all_eq_true,awo,Bool.not_eq_true',awi,beq_eq_false_iff_ne]at h;obtain⟨⟨⟨⟨⟨⟨⟨⟨⟨⟨⟨⟨-,-⟩,-⟩,a⟩,b⟩,c⟩,d⟩,e⟩,f⟩,g⟩,i⟩,j⟩,k⟩:=h;exact⟨fun f hf=>⟨(a f hf).1.1,(a f hf).1.2,(a f hf).2⟩,fun x hx=>b x (.inl hx),fun x hx=>b x (.inr hx),c,d,e,f,g,i,j,k⟩
theorem aox{k:Nat}(hk:k<35):∃x,(BL.map Lg).getD k []=Lg x∧okB x=true∧BQ.take (k+1)=BQ.take k++[skB x]:=by
 have hl:k<BL.length:=by rw[Xi];exact hk
 refine⟨BL[k],by simp[hl],List.all_eq_true.1 aou _ (List.getElem_mem hl),?_⟩;rw[List.take_add_one];simp[BQ,hl]
theorem arw{m:Option Nat}{h:ar}:ik Tryz.prog 37 [0] [.map m] h=some (.agg #[.map m]):=dT (by kernel_rfl)
theorem aiN{h:ar}(Hs:Sp h):aF Tryz.prog 6 #[] h fun v h'=>Ext h h'∧∃g mb bs W,v=fh g∧PW h' g mb bs W S0∧W.map LC.sk=BQ∧(∀c∈W,c.fds=[])∧h.size≤mb∧∀b∈bs,h.size≤b:=by
 refine Kn (args:=[]) rfl ?_;simp only[fK,ae,seval];refine qF ?_;have M0:iT kN (h.push (.map #[] 0)) h.size (fun _=>none):=iT.new;have E1:=Ext.push h (.map #[] 0);have hmb:h.size≤h.size:=awp _;generalize h.push _=h1 at*;obtain⟨mb,Ze⟩:∃x,x=h.size:=⟨_,rfl⟩;rw[←Ze]at M0⊢;simp only[ae,seval,arw];refine cT ?_;have E2:=Ext.push h1 (.cells #[.map (some mb)] 37);have b2:(h1.push (.cells #[.map (some mb)] 37))[h1.size]? =some (.cells #[.map (some mb)] 37 (0,0)):=by simp
 simp only[fK,ae,seval];generalize h1.push _=h2,h1.size=g at*;refine aj rfl Un ?_;rintro _ h3⟨x3,O3⟩;obtain⟨_,ba,bc,rfl,_⟩:=id O3.dQ;have X3:=(E1.trans E2).trans x3;have P3:PW h3 g mb [] [] S0:=PW.none (ay x3 b2 awx) ((M0.fr E2 awx).fr x3 awx);have vb:∀r∈BL.map Lg,r.length=5:=fun r hr=>by obtain⟨x,_,rfl⟩:=List.mem_map.1 hr;rfl
 have rz:=O3.mono (awb _);simp only[ae,seval];refine aG [1,10,11,12] (fun m ρ hc=>∃(k:Nat)(W:List LC)(bs:List Nat),m=35-k∧k≤35∧ρ=[(1,aE g),(10, .slice ba 35 bc),(11,ao 35),(12,ao k)]∧
  PW hc g mb bs W S0∧W.map LC.sk=BQ.take k∧(∀c∈W,c.fds=[])∧Ext h hc∧(∀b∈bs,h.size≤b)∧Own hc 0 42 5 (.slice ba 35 bc) 35 (BL.map Lg).flatten) ?_ ?_
 case refine_1=>
  simp only[ae,seval];exact⟨_,0,[],[],rfl,awb _,rfl,P3,rfl,(fun c hc=>by cases hc),X3,(fun b hb=>by cases hb),rz⟩
 rintro m ρ hc⟨k,W,bs,rfl,hk,rfl,PWc,hsk,KI,X,Uo,O⟩;by_cases aV:k<35
 case neg=>
  have aK:¬(k:Int)<35:=by omega
  simp only[fK,ae,seval,aK];refine⟨X,g,mb,bs,W,rfl,PWc,?_,KI,by omega,fun b hb=>by have:=Uo b hb;omega⟩;rw[hsk,show k=35 by omega];rfl
 have aK:(k:Int)<35:=by omega
 obtain⟨x,pf,hx,mq⟩:=aox aV;obtain⟨bq,cq,heq,di⟩:=qV (O:=O) vb (show k<(BL.map Lg).length by rw[awk,Xi];exact aV);cases heq;rw[pf]at di;unfold Lg at di;have bm:=aS adW di rfl;obtain⟨okm,okf,oka,a1,a2,a3,a4,a5,a6,a7,a8⟩:=ak2 hx;simp(disch:=omega)only[fK,ae,seval,aK,bm];refine aD UD ?_;simp only[ae,seval];refine aI UD rfl rfl rfl (by simp[Value.cells,oneCell,str]) rfl ?_;intro h4 x4 zY _ b4;have e0:cellAt h4 ⟨hc.size,0,none⟩=some (str x.nm):=by rw[au b4];rfl
 have e1:cellAt h4 ⟨hc.size,1,none⟩=some (str x.sup):=by rw[au b4];rfl
 have e3:cellAt h4 ⟨hc.size,3,none⟩=some (ax x.fl):=by rw[au b4];rfl
 have ary:=x4.size;generalize hp:hc.size=p at*;simp only[fK,ae,seval,e0,e1,e3];refine cT ?_;have E5:=Ext.push h4 (.cells #[str x.nm,str x.sup,nS,ax x.fl,nS,nS,nS,ao 0,ao 0] 50);have b5:(h4.push (.cells #[str x.nm,str x.sup,nS,ax x.fl,nS,nS,nS,ao 0,ao 0] 50))[h4.size]? =some (.cells #[str x.nm,str x.sup,nS,ax x.fl,nS,nS,nS,ao 0,ao 0] 50 (0,0)):=by simp
 simp only[fK,ae,seval];generalize h4.push _=h5 at*;have N5:PN h4 h5 h4.size ⟨x.nm,x.sup,[],x.fl,[],[]⟩ (0,0) nS nS nS nS:=⟨⟨b5,Own.nil,Own.nil,Own.nil⟩,awp _,Own.nil,E5⟩;have Bp:=ay E5 b4 awx;have S5:=(Hs.ext X).ext (x4.trans E5);have XW:=x4.trans E5;obtain⟨q,hq⟩:∃q,q=h4.size:=⟨_,rfl⟩;rw[←hq]at N5⊢;have e2:cellAt h5 ⟨p,2,none⟩=some (str x.fc):=by rw[au Bp];rfl
 simp only[ae,seval,e2];refine aj rfl (PR S5 x.fc okf (by omega)) ?_;rintro v6 h6⟨x6,O6⟩;have N6:=N5.ext x6;obtain⟨_,ga,gc,rfl,_⟩:=id O6.dQ;have O6':=O6.mono N5.x.size;have Bp:=ay x6 Bp awx;simp only[ae,seval];have cc:cellAt h6 ⟨q,2,none⟩=some nS:=N6.k.c2;refine aC zE rfl rfl rfl rfl rfl cc (N6.k.nf 2) ?_;have N7:=N6.set2 O6';have f7:=Fr.set (S:=fun k=>k=q) h6 ⟨q,2,none⟩ (.slice ga (fields x.fc).length gc) fun _=>rfl;have Bp:=ay f7 Bp (by omega);generalize setAt h6 ⟨q,2,none⟩ _=h7 at*;have X7:Ext hc h7:=x4.trans N7.x;have e4:cellAt h7 ⟨p,4,none⟩=some (str x.mb):=by rw[au Bp];rfl
 simp only[fK,ae,seval,e4];refine aj rfl (PR ((Hs.ext X).ext X7) x.mb oka (by omega)) ?_;rintro v8 h8⟨x8,O8⟩;have N8:=N7.ext x8;obtain⟨_,fa,fc,rfl,_⟩:=id O8.dQ;have O8:=O8.mono (awb _);obtain⟨ms,hms⟩:∃ms,ms=fields x.mb:=⟨_,rfl⟩;rw[←hms]at O8 okm a6⊢;simp only[ae,seval];refine aG [1,4,10,11,12,32,33,34] (fun m ρ hd=>∃(j:Nat)(c:LC)(vm:Value),m=ms.length-j∧j≤ms.length∧
  ρ=[(1,aE g),(4,aE q),(10, .slice (some ⟨bq,0,none⟩) 35 bc),(11,ao 35),(12,ao k),(32, .slice fa ms.length fc),(33,ao ms.length),(34,ao j)]∧
  PN h4 hd q c (0,0) (.slice ga (fields x.fc).length gc) nS nS vm∧c.sk=skB x∧c.fl=x.fl∧c.fds=[]∧c.iw.length=j∧(∀r∈c.iw,rv x.nm 6 r)∧Own hd 0 9 1 (.slice fa ms.length fc) ms.length (ms.map str)) ?_ ?_
 case refine_1=>
  simp only[ae,seval];exact⟨_,0,_,_,rfl,awb _,rfl,N8,rfl,rfl,rfl,rfl,(fun r hr=>by cases hr),O8⟩
 rintro m ρ hd⟨j,c,vm,rfl,hj,rfl,N,hcs,IL,An,hcm,hmr,Om⟩;obtain⟨n1,n2,n3⟩:c.nm=x.nm∧c.sup=x.sup∧c.ifs=fields x.fc:=by
  unfold LC.sk skB at hcs;exact⟨(Prod.mk.inj hcs).1,(Prod.mk.inj (Prod.mk.inj hcs).2).1,(Prod.mk.inj (Prod.mk.inj hcs).2).2⟩
 by_cases ta:j<ms.length
 case pos=>
  have aK:(j:Int)<(ms.length:Int):=by omega
  obtain⟨b1,p1,td,fD,_,eR⟩:=Om.sl.at (i:=j) (by simpa using ta);rw[awk]at fD;cases fD;have fm:ms.getD j []∈ms:=by simp[ta]
  have e1:cellAt hd ⟨b1,p1+j,none⟩=some (str (ms.getD j [])):=by rw[eR];simp[ta]
  obtain⟨f1,f2,f3⟩:=okm _ fm;generalize ms.getD j []=f at*;have w1:=gU (k:=j) (by omega);simp(disch:=omega)only[fK,ae,seval,aK,e1];refine aj rfl (Xh N f f1 f2 (by omega) (by omega)) ?_;rintro v9 h9⟨r,Zz,R,N9,F9⟩;simp only[fK,ae,seval,w1];refine⟨_,by omega,j+1,_,_,rfl,by omega,rfl,N9,hcs,IL,An,by simp[LC.GN,hcm],fun r' MB=>?_,Om.fr F9 fun k hk=>?_⟩
  ·rcases awi.1 MB with h|h
   ·exact hmr r' h
   ·rw[awf.1 h,←n1];exact R
  ·rintro(e|e)
   ·exact bK Om N.k.b (by decide) (by rw[hk,e])
   ·exact GM Om N.m (by decide) hk e
 have aK:¬(j:Int)<(ms.length:Int):=by omega
 have Xd:Ext hc hd:=x4.trans N.x;have Pd:=PWc.ext Xd;have m0:=Pd.m0;have c0:=N.k.c0;simp only[fK,ae,seval,aK,m0,c0];refine sC (K:=_) aiv W3 acU (a:=c.nm) (b:=mb) (v:=aE q) rfl rfl rfl Pd.mp ?_;intro h9 M9 f9 s9;have nd:(((W++[c]).map LC.sk).map (·.1)).Nodup:=by
  rw[List.map_append,List.map_singleton,hsk,hcs,←mq];exact(List.Sublist.map _ (List.take_sublist _ _)).nodup aiM
 have fd:∀c'∈W++[c],c'.fds=[]:=fun c' hc'=>by
  rcases awi.1 hc' with h|h
  ·exact KI c' h
  ·rw[awf.1 h];exact An
 have hb9:∀b∈bs,b<hc.size:=fun b hb=>by obtain⟨_,_,hb⟩:=PWc.cells hb;exact(awd.1 hb).1
 have P9:=Pd.snoc N.k (fun hq'=>by have:=hb9 q hq';omega) (ak1 nd) M9 f9 ⟨by omega,(fun r hr=>by rw[An]at hr;cases hr),(fun r hr=>by rw[n1];exact hmr r hr),by rw[n1,n2,n3,An];exact⟨by omega,by omega,fun f hf=>by have:=a8 f hf;omega,by omega,by simp,by omega⟩⟩ (by rw[uz fd];decide);rw[ac1]at P9;have X9:Ext h h9:=Fr.trans (X.trans Xd) f9 (fun _ _ h=>h) fun k hk e=>by omega
 have O9:=(O.ext Xd).fr f9 fun k hk e=>by
  obtain⟨cs,fz,h1⟩:=uh (O.ext Xd) hk;obtain⟨es,cl,h2,_⟩:=Pd.mp;rw[e,h2]at h1;cases h1
 have w1:=gU (k:=k) (by omega);simp only[fK,ae,seval,w1];refine⟨_,by omega,k+1,W++[c],bs++[q],rfl,by omega,rfl,P9,by rw[List.map_append,List.map_singleton,hsk,hcs,mq],fd,X9,fun b hb=>?_,O9⟩;rcases awi.1 hb with h|h
 ·exact Uo b h
 ·rw[awf.1 h];have:=X.size;omega
end
section
def pS(h:ar)(T:Nat→Prop)(e:TypeId):Prop:=∀k,T k→∀cs fz,h[k]?≠some (.cells cs e fz)
section
variable{h0 h h':ar}{T:Nat→Prop}{g mb:Nat}{vL:Value}{bs:List Nat}{W:List LC}{S:LS}{rk:Nat→Nat}
theorem kC{base:Nat}{e:TypeId}{size n:Nat}{v:Value}{xs:List Value}(O:Own h base e size v n xs)(f:Fr T h h')(F:pS h T e):Own h' base e size v n xs:=O.fr f fun k hk hT=>by
 obtain⟨cs,fz,hc⟩:=uh O hk;exact F k hT cs fz hc
theorem pS.blk{b:Nat}{e:TypeId}{cs:Array Value}{fz:Nat × Nat}(F:pS h T e)(f:Fr T h h')(hb:h[b]? =some (.cells cs e fz)):h'[b]? =some (.cells cs e fz):=ay f hb fun hT=>F b hT cs fz hb
theorem PW.far(H:PW h g mb bs W S)(f:Fr T h h')(hm:¬T mb)(F:pS h T 37∧pS h T 50∧pS h T 9∧pS h T 105∧pS h T 90):PW h' g mb bs W S:=
 ⟨F.1.blk f H.w,H.mp.fr f hm,H.ln,H.nd,fun i hi=>by obtain⟨a,b,c,d,p⟩:=H.cl i hi;exact⟨a,b,c,d,F.2.1.blk f p.b,kC p.i f F.2.2.1,kC p.f f F.2.2.2.1,kC p.m f F.2.2.2.2⟩,H.fl,H.fr,H.mr,H.tf,H.sz⟩
theorem RW.far(H:RW h g vL bs W S)(f:Fr T h h')(F:pS h T 55∧pS h T 62∧pS h T 9∧pS h T 72∧pS h T 92∧pS h T 56):RW h' g vL bs W S:=
 ⟨F.1.blk f H.w,kC H.l f F.2.2.2.2.2,H.ln,H.nd,fun i hi=>by obtain⟨a,b,c,d,e,w,p⟩:=H.cl i hi;exact⟨a,b,c,d,e,w,F.2.1.blk f p.b,kC p.i f F.2.2.1,kC p.f f F.2.2.2.1,kC p.m f F.2.2.2.2.1⟩,H.fl,H.fr,H.mr,H.tf,H.tn,H.sz⟩
theorem RW.cells(H:RW h g vL bs W S){k:Nat}(hk:k∈bs):∃cs fz,h[k]? =some (.cells cs 62 fz):=by
 obtain⟨j,hj,rfl⟩:=List.getElem_of_mem hk;obtain⟨_,_,_,_,_,_,L⟩:=H.cl j (by rw[←H.ln];exact hj);exact⟨_,_,by have:=L.b;simpa[hj]using this⟩
theorem Bh{e e':TypeId}(cN:e'≠e)(h1:∀k,T k→∃cs fz,h[k]? =some (.cells cs e' fz)):pS h T e:=fun k hk cs fz hc=>by
 obtain⟨Qn,Yu,h2⟩:=h1 k hk;rw[h2]at hc;simp only[awe,awE]at hc;exact cN hc.2.1
end
section
variable{h0 h h7:ar}{b:Nat}
theorem sT{tc e:TypeId}{cs:Array Value}{s n:Nat}{v:Value}{xs:List Value}(hb:h[b]? =some (.cells cs tc (0,0)))(B:h0.size≤b)(x:Ext h0 h)(O:Own h h0.size e s v n xs)(he:e≠tc)(f:Fr (fun k=>v.ownBlock=some k) h h7)(o:Nat)(u:Value):
 h7[b]? =some (.cells cs tc (0,0))∧frozenAt h7 ⟨b,o,none⟩=false∧(setAt h7 ⟨b,o,none⟩ u)[b]? =some (.cells (cs.setIfInBounds o u) tc (0,0))∧Ext h0 (setAt h7 ⟨b,o,none⟩ u)∧
 (∀{e' s' w m ys B},Own h B e' s' w m ys→e'≠e→e'≠tc→Own (setAt h7 ⟨b,o,none⟩ u) B e' s' w m ys)∧(∀{B w m ys},Own h7 B e s w m ys→Own (setAt h7 ⟨b,o,none⟩ u) B e s w m ys):=by
 have K:=ay f hb (bK O hb he);have f8:=Fr.set (S:=fun k=>k=b) h7 ⟨b,o,none⟩ u fun _=>rfl;refine⟨K,by unfold frozenAt;dsimp only;rw[K];simp,bu (o:=o) K u,?_,?_,?_⟩
 ·exact Fr.trans (Fr.trans (T:=fun _=>False) x f (fun _ _ h=>h) fun k hk hv=>by have:=(O.lt k hv).1;omega) f8 (fun _ _ h=>h) fun k hk e=>by omega
 ·intro e' s' w m ys B A h1 h2
  exact(A.fr f fun k hk hv=>GM A O h1 hk hv).fr f8 fun k hk e=>bK A hb h2 (by rw[hk,e])
 ·intro B w m ys A
  exact A.fr f8 fun k hk e=>bK A K he (by rw[hk,e])
end
structure JD where
 gw:Nat
 gp:Nat
 mp:Nat
 bp:List Nat
 Wp:List LC
 Sp:LS
 rp:Nat→Nat
 gr:Nat
 vL:Value
 br:List Nat
 Wr:List LC
 Sr:LS
 rr:Nat→Nat
structure JW(h0 h:ar)(d:JD)(n:Nat):Prop where
 w:h[d.gw]? =some (.cells #[fh d.gp,fh d.gr] 33)
 p:PW h d.gp d.mp d.bp d.Wp d.Sp
 ip:ek d.Wp d.Sp d.rp
 r:RW h d.gr d.vL d.br d.Wr d.Sr
 ir:ek d.Wr d.Sr d.rr
 nm:∀n,JF d.Wp n↔JF d.Wr n
 x:Ext h0 h
 np:h0.size≤d.mp∧∀b∈d.bp,h0.size≤b
 nr:h0.size≤d.gr∧(∀b∈d.br,h0.size≤b)∧∀k,d.vL.ownBlock=some k→h0.size≤k
 ct:d.Wp.length≤n∧d.Wr.length≤n∧(d.Wp.map fun c=>c.fds.length).sum≤65536*n∧(d.Wr.map fun c=>c.fds.length).sum≤65536*n
section
variable{h0 h h':ar}{d:JD}{n:Nat}{S':LS}{r':Nat→Nat}
theorem JW.ext(J:JW h0 h d n)(x:Ext h h'):JW h0 h' d n:=⟨ay x J.w awx,J.p.ext x,J.ip,J.r.ext x,J.ir,J.nm,J.x.trans x,J.np,J.nr,J.ct⟩
theorem Nn{T:Nat→Prop}(x:Ext h0 h)(f:Fr T h h')(hT:∀k,T k→h0.size≤k):Ext h0 h':=Fr.trans x f (fun _ _ h=>h) fun k hk hS=>by have:=hT k hS;omega
theorem JW.Tp(J:JW h0 h d n)(P:gR d.gp d.mp d.bp d.Wp d.Sp h h' S' r'):JW h0 h' {d with Sp:=S',rp:=r'} n:=by
 obtain⟨p,i,_,f⟩:=P;have F:∀{e},50≠e→pS h (fun k=>k∈d.bp) e:=fun cN=>Bh cN fun k hk=>J.p.cells hk;exact⟨(F (by decide)).blk f J.w,p,i,J.r.far f ⟨F (by decide),F (by decide),F (by decide),F (by decide),F (by decide),F (by decide)⟩,J.ir,J.nm,Nn J.x f J.np.2,J.np,J.nr,J.ct⟩
theorem JW.Tq(J:JW h0 h d n)(P:fY d.gr d.vL d.br d.Wr d.Sr h h' S' r'):JW h0 h' {d with Sr:=S',rr:=r'} n:=by
 obtain⟨p,i,_,f,_⟩:=P;have F:∀{e},62≠e→pS h (fun k=>k∈d.br) e:=fun cN=>Bh cN fun k hk=>J.r.cells hk;have hm:¬d.mp∈d.br:=fun hk=>by
  obtain⟨cs,fz,hc⟩:=J.r.cells hk;obtain⟨es,c,hm,_⟩:=J.p.mp;rw[hc]at hm;cases hm
 exact⟨(F (by decide)).blk f J.w,J.p.far f hm ⟨F (by decide),F (by decide),F (by decide),F (by decide),F (by decide)⟩,J.ip,p,i,J.nm,Nn J.x f J.nr.2.1,J.np,J.nr,J.ct⟩
end
end
section
theorem Tr{α:Type}(f:RS→α × RS):∀(k:Nat)(xs:List α)(s:RS),(eo f k xs s).1.length≤xs.length+k:=by
 intro k
 induction k with
 |zero=>intro xs s;exact awp _
 |succ k ih=>
  intro xs s;rw[eo];split
  ·simp
  ·have:=ih (xs++[(f s).1]) (f s).2
   simp only[awn,awt]at this;omega
theorem Bi{α:Type}(f:RS→α × RS)(P:α→Prop)(hf:∀s,P (f s).1):∀(k:Nat)(xs:List α)(s:RS),(∀x∈xs,P x)→∀x∈(eo f k xs s).1,P x:=by
 intro k
 induction k with
 |zero=>intro xs s h;exact h
 |succ k ih=>
  intro xs s h;rw[eo];split
  ·exact h
  ·refine ih _ _ (fun x hx=>?_)
   rcases awi.1 hx with hx|hx
   ·exact h x hx
   ·rw[awf.1 hx];exact hf s
theorem PT{σ:Type}{p:List aX}{l:az}{take:Take σ}(P:σ→Prop)(ht:∀name q n x s y,P x→take name q n x s=some y→P y.1):∀(k:Nat)(x:σ)(s:RS),P x→P (eS p l take k x s).1:=by
 intro k
 induction k with
 |zero=>intro x s h;exact h
 |succ k ih=>
  intro x s h;by_cases he:s.e=0
  ·rw[qS he]
   split
   ·exact h
   ·split
    ·exact ih _ _ h
    ·next y hy=>exact ih _ _ (ht _ _ _ _ _ _ h hy)
  ·rw[jD he];exact h
section
variable(p:List aX)(l:az)
theorem sU(s:RS):(aA l 2 s).1<65536:=by have:= @dJ l 2 s;simpa using this
theorem arA(s:RS):(aA l 4 s).1<4294967296:=by have:= @dJ l 4 s;simpa using this
theorem ZV(n:Nat)(s:RS):(cV l n s).1.length≤l.length:=by
 unfold cV;split
 ·simp
 ·split
  ·simp
  ·simp;omega
theorem acm(s:RS):(d7 p l s).1.Fit:=by
 refine⟨sU l _,sU l _,sU l _,?_⟩;refine PT (σ:=Bool × Nat) (fun x=>x.2<65536) ?_ _ _ _ (by decide);intro name q n x s y hx hy;unfold sP at hy
 split at hy
 ·simp only[awe]at hy
  subst hy;exact sU l _
 ·cases hy
theorem aiO(s:RS):(mh l s).1.Fit:=by
 have a:=fun s=>sU l s;unfold mh;refine⟨?_,?_,?_,?_,?_,?_,a _⟩<;>dsimp only<;>(first|(have:=a s;omega)|(have:=a (aA l 2 s).2;omega)|(have:=a (aA l 2 (aA l 2 s).2).2;omega))
structure ZW(c:vu):Prop where
 fit:c.Fit
 b:c.bytes.length≤l.length
 h:c.hs.length≤65535
theorem ak3(s:RS):ZW l (iO p l s).1:=by
 have a:=fun s=>sU l s;have hl:∀s t,(eo (mh l) (aA l 2 s).1 [] t).1.length≤65535:=fun s t=>by
  have:=Tr (mh l) (aA l 2 s).1 [] t;have:=a s;simp only[awM]at*;omega
 unfold iO;dsimp only;have a1:=a s;have a2:=a (aA l 2 s).2;refine⟨⟨by dsimp only;omega,by dsimp only;omega,by dsimp only;omega,by dsimp only;omega,?_⟩,ZV l _ _,hl _ _⟩;exact Bi _ _ (aiO l) _ _ _ (fun x hx=>by cases hx)
theorem ak4:ZW l Cs:=⟨⟨by decide,by decide,by decide,by decide,(fun x hx=>by cases hx)⟩,awb _,awb _⟩
structure aiP(m:fj):Prop where
 fit:m.Fit
 c:ZW l m.code
theorem aeT(s:RS):aiP l (bT p l s).1:=by
 have c:ZW l (bT p l s).1.code:=by
  refine PT (σ:=Bool × vu) (fun x=>ZW l x.2) ?_ _ _ _ (ak4 l);intro name q n x s y hx hy;unfold DK at hy
  split at hy
  ·simp only[awe]at hy
   subst hy;exact ak3 p l _
  ·cases hy
 exact⟨⟨sU l _,sU l _,sU l _,c.fit⟩,c⟩
def PU(c:aX):Prop:=c.Fit∧c.text.length≤l.length
theorem aoA(s:RS):PU l (gj l s).1:=by
 have a:=fun s=>sU l s;have b:=fun s=>arA l s;have ht:(aA l 1 s).1<256:=dJ;have c:=fun n s=>ZV l n s;unfold gj;generalize aA l 1 s=z at*;dsimp only;have fin:∀t w x y z',t<256→w.length≤l.length→x<18446744073709551616→y<65536→z'<65536→PU l ⟨t,w,x,y,z'⟩:=fun t w x y z' h1 h0 h2 h3 h4=>⟨⟨h1,h2,h3,h4⟩,h0⟩
 split
 ·exact fin _ _ _ _ _ (by decide) (c _ _) (by decide) (by decide) (by decide)
 split
 ·have:=b z.2;exact fin _ _ _ _ _ ht (awb _) (by omega) (by decide) (by decide)
 split
 ·have:=b z.2;have:=b (aA l 4 z.2).2;exact fin _ _ _ _ _ ht (awb _) (by omega) (by decide) (by decide)
 split
 ·exact fin _ _ _ _ _ ht (awb _) (by decide) (a _) (by decide)
 split
 ·exact fin _ _ _ _ _ ht (awb _) (by decide) (a _) (a _)
 ·exact fin _ _ _ _ _ ht (awb _) (by decide) (by decide) (by decide)
theorem aiQ(n:Nat):∀(k:Nat)(cs:List aX)(s:RS),(∀c∈cs,PU l c)→∀c∈(jl l n k cs s).1,PU l c:=by
 have z:PU l aX.zero:=⟨⟨by decide,by decide,by decide,by decide⟩,awb _⟩;intro k
 induction k with
 |zero=>intro cs s h;exact h
 |succ k ih=>
  intro cs s h;have h1:∀c∈cs++[(gj l s).1],PU l c:=fun c hc=>by
   rcases awi.1 hc with hc|hc
   ·exact h c hc
   ·rw[awf.1 hc];exact aoA l s
  rw[jl];split
  ·split
   ·refine ih _ _ fun c hc=>?_
    rcases awi.1 hc with hc|hc
    ·exact h1 c hc
    ·rw[awf.1 hc];exact z
   ·exact ih _ _ h1
  ·exact h
structure Ts(c:iP):Prop where
 fit:c.Fit
 p:c.pool.length≤65536
 t:∀x∈c.pool,x.text.length≤l.length
 i:c.ifs.length≤65536
 f:c.fields.length≤65536
 m:c.methods.length≤65536
 c:∀m∈c.methods,aiP l m
theorem Bj{α:Type}(f:RS→α × RS)(k s':RS):(eo f (aA l 2 k).1 [] s').1.length≤65536:=by
 have hn:=sU l k;have h:=Tr f (aA l 2 k).1 [] s';simp only[awM,aw2]at h;omega
theorem ak5(mi ma:Nat)(s:RS)(h1:mi<65536)(h2:ma<65536)(hp:p.length≤65536)(hg:∀c∈p,PU l c):Ts l (jE p l mi ma s).1:=by
 have im:∀(k:Nat)(s:RS),∀m∈(eo (bT p l) k [] s).1,aiP l m:=fun k s=>Bi _ _ (aeT p l) _ _ _ (fun x hx=>by cases hx);have nf:∀(k:Nat)(s:RS),∀m∈(eo (d7 p l) k [] s).1,m.Fit:=fun k s=>Bi _ _ (acm p l) _ _ _ (fun x hx=>by cases hx);have ni:∀(k:Nat)(s:RS),∀m∈(eo (aA l 2) k [] s).1,m<65536:=fun k s=>Bi _ _ (sU l) _ _ _ (fun x hx=>by cases hx);obtain⟨a1,e1⟩:∃s',(jE p l mi ma s).1.flags=(aA l 2 s').1:=⟨_,rfl⟩;obtain⟨a2,e2⟩:∃s',(jE p l mi ma s).1.this=(aA l 2 s').1:=⟨_,rfl⟩;obtain⟨a3,e3⟩:∃s',(jE p l mi ma s).1.super=(aA l 2 s').1:=⟨_,rfl⟩;obtain⟨k1,a4,e4⟩:∃k s',(jE p l mi ma s).1.ifs=(eo (aA l 2) (aA l 2 k).1 [] s').1:=⟨_,_,rfl⟩;obtain⟨k2,a5,e5⟩:∃k s',(jE p l mi ma s).1.fields=(eo (d7 p l) (aA l 2 k).1 [] s').1:=⟨_,_,rfl⟩;obtain⟨k3,a6,e6⟩:∃k s',(jE p l mi ma s).1.methods=(eo (bT p l) (aA l 2 k).1 [] s').1:=by
  unfold jE;dsimp only;generalize eo (d7 p l) _ _ _=F;exact⟨F.2,(aA l 2 F.2).2,rfl⟩
 have e7:(jE p l mi ma s).1.pool=p:=rfl;have e8:(jE p l mi ma s).1.minor=mi:=rfl;have e9:(jE p l mi ma s).1.major=ma:=rfl;generalize(jE p l mi ma s).1=C at*;have n1:=sU l a1;have n2:=sU l a2;have n3:=sU l a3;exact⟨⟨by omega,by omega,by omega,by omega,by omega,by rw[e7];exact fun x hx=>(hg x hx).1,by rw[e4];exact ni _ _,by rw[e5];exact nf _ _,by rw[e6];exact fun m hm=>(im _ _ m hm).fit⟩,by rw[e7];exact hp,by rw[e7];exact fun x hx=>(hg x hx).2,
  by rw[e4];exact Bj l _ _ _,by rw[e5];exact Bj l _ _ _,by rw[e6];exact Bj l _ _ _,by rw[e6];exact im _ _⟩
theorem ak6:Ts l M3:=⟨⟨by decide,by decide,by decide,by decide,by decide,(fun x hx=>by cases hx),(fun x hx=>by cases hx),(fun x hx=>by cases hx),(fun x hx=>by cases hx)⟩,by decide,(fun x hx=>by cases hx),by decide,by decide,by decide,(fun x hx=>by cases hx)⟩
theorem ac2:Ts l (kT l).1:=by
 have hz:∀c∈[aX.zero],PU l c:=fun c hc=>by rw[awf.1 hc];exact⟨⟨by decide,by decide,by decide,by decide⟩,awb _⟩
 have h:=ak5 (hE l (oF l).2.2).1 l (oF l).1 (oF l).2.1 (hE l (oF l).2.2).2 (sU l _) (sU l _) (ab1 _ _) (aiQ l _ _ _ _ hz);have e:kT l=mj (jE (hE l (oF l).2.2).1 l (oF l).1 (oF l).2.1 (hE l (oF l).2.2).2):=rfl;rw[e];generalize jE (hE l (oF l).2.2).1 l (oF l).1 (oF l).2.1 (hE l (oF l).2.2).2=X at*;unfold mj
 split
 ·exact ak6 l
 ·exact h
theorem ak7:(oF l).2.2.p≤l.length:=by
 have ht:∀n s,s.p≤l.length→(cV l n s).2.p≤l.length:=fun n s h=>by
  unfold cV;split
  ·exact h
  ·split
   ·exact h
   ·dsimp only;omega
 have hn:∀n s,s.p≤l.length→(aA l n s).2.p≤l.length:=fun n s h=>ht n s h;have hf:∀e q s,s.p≤l.length→(cg e q s).p≤l.length:=fun e q s h=>by unfold cg;split<;>exact h
 have hi:∀(c:Prop) [Decidable c](s t:RS),s.p≤l.length→t.p≤l.length→(if c then s else t).p≤l.length:=fun c _ s t h1 h2=>by split<;>assumption
 have h1:=hn 4 ⟨0,0,0⟩ (awb _);have h2:=hn 2 _ (hi ((aA l 4 ⟨0,0,0⟩).1=3405691582) _ _ h1 (hf 3 0 _ h1));have h3:=hn 2 _ h2;unfold oF;dsimp only;exact hi _ _ _ h3 (hf 4 4 _ h3)
theorem aiR:OJ l=kT l:=ahY (ak7 l)
end
section
variable{l:az}{c:iP}
theorem Ts.cf(G:Ts l c)(hl:l.length≤1073741824):CF c:=⟨G.fit,G.p,fun x hx=>by have:=G.t x hx;omega⟩
theorem Ts.cl(G:Ts l c)(hl:l.length≤1073741824):CL c:=⟨by have:=G.i;omega,by have:=G.f;omega,by have:=G.m;omega,fun m hm=>by have:=(G.c m hm).c.b;omega,fun m hm=>by have:=(G.c m hm).c.h;omega⟩
theorem ZX{p:List aX}:∀(i:Nat)(r:List aX),(∀x∈r,jL p x=0)∨∃e j,e≠0∧mg p i r=some (e,j)
 |_,[]=> .inl fun x hx=>by cases hx
 |i,x::r=>by
  rw[mg];by_cases h:jL p x=0
  ·rw[av9 (by simp[h])]
   rcases ZX (i+1) r with h1|h1
   ·exact .inl fun y hy=>(awL.1 hy).elim (fun e=>e▸h) fun hy=>h1 y hy
   ·exact .inr h1
  ·rw[awa h];exact .inr ⟨_,_,h,rfl⟩
theorem aoB(h:(lI c).1=0):(∀x∈c.pool,jL c.pool x=0)∧oE c=0:=by
 unfold lI at h;rcases ZX (p:=c.pool) 0 c.pool with h1|⟨e,j,he,h1⟩
 ·refine⟨h1,?_⟩
  split at h
  ·rename_i e i hp
   have:∀(i:Nat)(r:List aX),(∀x∈r,jL c.pool x=0)→mg c.pool i r=none:=by
    intro i r
    induction r generalizing i with
    |nil=>intro _;rfl
    |cons x r ih=>intro hr;rw[mg,av9 (by simp[hr x (by simp)]),ih _ fun y hy=>hr y (by simp[hy])]
   rw[this _ _ h1]at hp;cases hp
  ·by_cases hi:oE c=0
   ·exact hi
   ·rw[awa hi]at h;dsimp only at h;omega
 ·rw[h1]at h;dsimp only at h;omega
theorem OW{p:List aX}(hp:∀x∈p,jL p x=0){k:Nat}(h:(bZ p k).2=true)(hb:(bZ p k).1.head?≠some 91):eJ (bZ p k).1=true∧k<p.length∧(bZ p k).1=bM p (p.getD k aX.zero).a:=by
 unfold bZ at h hb⊢
 split at h
 ·rename_i h7
  rw[awa h7]at hb⊢;dsimp only at h hb⊢;rw[awa h]at hb⊢;have hl:=(sf h7).2;have hc:=hp (p.getD k aX.zero) (by simp[hl]);have ht:(p.getD k aX.zero).tag=7:=by
   unfold eV at h7;simp only[awm,awo]at h7;exact h7.2.2
  unfold jL at hc;rw[awa ht,av9 (by rw[h];decide)]at hc;have hs:bM p (p.getD k aX.zero).a=(p.getD (p.getD k aX.zero).a aX.zero).text:=by unfold bM;rw[awa h]
  refine⟨?_,hl,hs.symm⟩;by_cases hn:jA (bM p (p.getD k aX.zero).a)=true
  ·rw[hs]at hn
   unfold jA at hn;rwa[av9 hb]at hn
  ·rw[awa (by simpa using hn)]at hc;cases hc
 ·cases h
theorem aiS{p:List aX}(hp:∀x∈p,jL p x=0):∀(r:List Nat)(seen:List (az)),vz p r seen=0→∀k∈r,eJ (bZ p k).1=true∧k<p.length∧(bZ p k).1=bM p (p.getD k aX.zero).a
 |[],_,_,k,hk=>by cases hk
 |x::r,seen,h,k,hk=>by
  rw[vz]at h
  split at h
  ·cases h
  split at h
  ·cases h
  split at h
  ·cases h
  rename_i a1 a2 a3;rcases awL.1 hk with rfl|hk
  ·exact OW hp (by simpa using a1) a2
  ·exact aiS hp r _ h k hk
def jT(c:iP)(k:Nat):az:=(bZ c.pool k).1
def okK(c:iP)(k:Nat):Prop:=eJ (jT c k)=true∧k<c.pool.length∧jT c k=bM c.pool (c.pool.getD k aX.zero).a
theorem aiT(h:(lI c).1=0):okK c c.this∧okK c c.super∧∀k∈c.ifs,okK c k:=by
 obtain⟨hp,hi⟩:=aoB h;unfold oE at hi
 split at hi
 ·cases hi
 split at hi
 ·cases hi
 split at hi
 ·cases hi
 split at hi
 ·cases hi
 split at hi
 ·cases hi
 rename_i _ a1 a2 a3 a4;exact⟨OW hp (by simpa using a1) a2,OW hp (by simpa using a3) fun e=>a4 (.inl e),aiS hp _ _ hi⟩
end
end
section
def xq(l:az)(has:az→Prop)(n:az)(e:Int):Prop:=
 if(kT l).2.1≠0 then n=[]∧e=((kT l).2.1:Nat)
 else if(lI (kT l).1).1≠0 then n=[]∧e=(lI (kT l).1).1
 else(has (jT (kT l).1 (kT l).1.this)∧n=[]∧e=26)∨(¬has (jT (kT l).1 (kT l).1.this)∧n=jT (kT l).1 (kT l).1.this∧e=0)
theorem xq.det{l:az}{has alH:az→Prop}{n n':az}{e e':Int}(h:∀x,has x↔alH x)(a:xq l has n e)(b:xq l alH n' e'):n=n'∧e=e':=by
 unfold xq at a b
 split at a
 ·rename_i h1
  rw[awa h1]at b;exact⟨a.1.trans b.1.symm,a.2.trans b.2.symm⟩
 rename_i h1;rw[av9 h1]at b
 split at a
 ·rename_i h2
  rw[awa h2]at b;exact⟨a.1.trans b.1.symm,a.2.trans b.2.symm⟩
 rename_i h2;rw[av9 h2]at b;rcases a with⟨a1,a2,a3⟩|⟨a1,a2,a3⟩<;>rcases b with⟨b1,b2,b3⟩|⟨b1,b2,b3⟩
 ·exact⟨a2.trans b2.symm,a3.trans b3.symm⟩
 ·exact aww ((h _).1 a1) b1
 ·exact aww ((h _).2 b1) a1
 ·exact⟨a2.trans b2.symm,a3.trans b3.symm⟩
structure alI(C:iP)(k:Nat)(c:LC):Prop where
 nm:c.nm=jT C C.this
 ok:PS k c
 p1:eJ c.nm=true
 p2:eJ c.sup=true
 p3:∀f∈c.ifs,eJ f=true
 fd:c.fds.length≤65536
theorem Tt{C:iP}{N:Nat}(h:∀x∈C.pool,x.text.length≤N)(k:Nat):(jT C k).length≤N:=by
 unfold jT bZ
 split
 ·dsimp only
  split
  ·rename_i h1
   have hl:=(sf h1).2;exact h _ (dF hl)
  ·exact awb _
 ·exact awb _
theorem ZY{p:List aX}{N:Nat}(h:∀x∈p,x.text.length≤N)(k:Nat):(bM p k).length≤N:=by
 unfold bM
 split
 ·rename_i h1
  have hl:=(sf h1).2;exact h _ (dF hl)
 ·exact awb _
section
variable{h0 h h7:ar}{g mb b:Nat}{bs:List Nat}{W:List LC}{S:LS}{c:LC}{vp ui uf um v7:Value}
theorem pm0{h:ar}{x y:Operand}:ej Tryz.prog .neq 43 x y (.pointer none) (.pointer none) h=some (.bool false):=sd (a:=none) Tryz.underlying43
theorem pm1{h:ar}{a:Addr}{x y:Operand}:ej Tryz.prog .neq 43 x y (.pointer (some a)) (.pointer none) h=some (.bool true):=sd (a:=some a) Tryz.underlying43
theorem OX{p:List aX}{k:Nat}(hf:∀c∈p,c.Fit)(hs:fR h 5 vp p.length (du p))(hk:k<p.length):
 aF Tryz.prog 36 #[vp,ax k] h fun v h'=>h'=h∧v=str (bM p (p.getD k aX.zero).a):=by
 obtain⟨b,o,c',rfl,di,_⟩:=hs.at hk;refine Ih (args:=[.slice (some ⟨b,o,none⟩) p.length c',ax k]) rfl ?_;rw[iu hk]at di;have Yv:(p.getD k aX.zero).a<65536:=(hf _ (by simp[hk])).a;have AF:(k:Int)<(p.length:Int):=by omega
 generalize p.getD k aX.zero=x at*;have c3:cellAt h ⟨b,o+k*5+3,none⟩=some (ax x.a):=di 3 _ rfl;simp(disch:=omega)only[Me,ae,seval,c3];refine aj rfl (pY x.a Yv hs) ?_;rintro _ _⟨rfl,rfl⟩;simp only[ae,seval]
structure PD(h0 h:ar)(b:Nat)(c:LC)(vp ui uf um:Value):Prop where
 k:PC h b c (0,0) ui vp uf um
 b:h0.size≤b
 i:Own h h0.size 9 1 ui c.ifs.length (c.ifs.map str)
 f:Own h h0.size 105 5 uf c.fds.length c.fds.flatten
 m:Own h h0.size 90 10 um c.iw.length c.iw.flatten
 x:Ext h0 h
theorem PD.ext(N:PD h0 h b c vp ui uf um)(x:Ext h h7):PD h0 h7 b c vp ui uf um:=⟨N.k.fr x awx fun _ _=>awx,N.b,N.i.ext x,N.f.ext x,N.m.ext x,N.x.trans x⟩
theorem PD.aiU(N:PD h0 h b c vp ui uf um){y:az}(O:Own h7 h0.size 9 1 v7 (c.ifs.length+1) (c.ifs.map str++[str y]))(f:Fr (fun k=>ui.ownBlock=some k) h h7):
 cellAt h7 ⟨b,2,none⟩=some ui∧frozenAt h7 ⟨b,2,none⟩=false∧PD h0 (setAt h7 ⟨b,2,none⟩ v7) b {c with ifs:=c.ifs++[y]} vp v7 uf um:=by
 obtain⟨a1,a2,a3,a4,K,L⟩:=sT N.k.b N.b N.x N.i (by decide) f 2 v7;have O:=L (show Own h7 h0.size 9 1 v7 (c.ifs++[y]).length ((c.ifs++[y]).map str)from dR O (by simp) (by simp));have A:=K N.f (by decide) (by decide);have B:=K N.m (by decide) (by decide);exact⟨by rw[au a1];rfl,a2,⟨a3,O.mono (awb _),A.mono (awb _),B.mono (awb _)⟩,N.b,O,A,B,a4⟩
theorem PD.aiV(N:PD h0 h b c vp ui uf um){r:List Value}(O:Own h7 h0.size 105 5 v7 (c.fds.length+1) (c.fds.flatten++r))(f:Fr (fun k=>uf.ownBlock=some k) h h7):
 cellAt h7 ⟨b,5,none⟩=some uf∧frozenAt h7 ⟨b,5,none⟩=false∧PD h0 (setAt h7 ⟨b,5,none⟩ v7) b {c with fds:=c.fds++[r]} vp ui v7 um:=by
 obtain⟨a1,a2,a3,a4,K,L⟩:=sT N.k.b N.b N.x N.f (by decide) f 5 v7;have O:=L (show Own h7 h0.size 105 5 v7 (c.fds++[r]).length ((c.fds++[r]).flatten)from dR O (by simp) (by simp));have A:=K N.i (by decide) (by decide);have B:=K N.m (by decide) (by decide);exact⟨by rw[au a1];rfl,a2,⟨a3,A.mono (awb _),O.mono (awb _),B.mono (awb _)⟩,N.b,A,O,B,a4⟩
theorem PD.GN(N:PD h0 h b c vp ui uf um){r:List Value}(O:Own h7 h0.size 90 10 v7 (c.iw.length+1) (c.iw.flatten++r))(f:Fr (fun k=>um.ownBlock=some k) h h7):
 cellAt h7 ⟨b,6,none⟩=some um∧frozenAt h7 ⟨b,6,none⟩=false∧PD h0 (setAt h7 ⟨b,6,none⟩ v7) b {c with iw:=c.iw++[r]} vp ui uf v7:=by
 obtain⟨a1,a2,a3,a4,K,L⟩:=sT N.k.b N.b N.x N.m (by decide) f 6 v7;have O:=L (show Own h7 h0.size 90 10 v7 (c.iw++[r]).length ((c.iw++[r]).flatten)from dR O (by simp) (by simp));have A:=K N.i (by decide) (by decide);have B:=K N.f (by decide) (by decide);exact⟨by rw[au a1];rfl,a2,⟨a3,A.mono (awb _),B.mono (awb _),O.mono (awb _)⟩,N.b,A,B,O,a4⟩
def Vs(g mb:Nat)(bs:List Nat)(W:List LC)(S:LS)(l:az)(h:ar)(v:Value)(h':ar):Prop:=∃n e,v= .tuple #[str n,ao e]∧xq l (JF W) n e∧Fr (fun k=>k=mb) h h'∧
 ((e≠0∧PW h' g mb bs W S)∨e=0∧∃b c,h.size≤b∧alI (kT l).1 1 c∧PW h' g mb (bs++[b]) (W++[c]) (S.put W.length (0,0))∧(∀i,i<W.length→(at' W i).nm≠c.nm))
theorem ZZ(H:PW h g mb bs W S)(l:az)(hl:l.length≤1048576)(tf:(W.map fun c=>c.fds.length).sum≤549755813888):
 aF Tryz.prog 15 #[aE g,str l] h (Vs g mb bs W S l h):=by
 refine Dn (args:=[aE g,str l]) rfl ?_;have G:=ac2 l;simp only[cQ,ae,seval];refine aj rfl (aeE l h (by omega)) ?_;rintro _ h1⟨x1,vp,vi,vf,vm,rfl,C1⟩;obtain⟨X,hX⟩:∃X,X=kT l:=⟨_,rfl⟩;rw[←hX]at G C1⊢;obtain⟨K,e0,at0⟩:=X;dsimp only at C1 G⊢;have F:=G.cf (by omega);have L:=G.cl (by omega);have rM:=fun h'(x:Ext h1 h')=>Qv (h:=h') (sO.ext C1 x) F L;obtain⟨a1,c1,a2,c2,a3,c3,a4,c4,rfl,rfl,rfl,rfl⟩:=sO.sl C1;simp only[mP]at rM⊢;simp only[ae,seval];refine aD jJ ?_;simp only[ae,seval];refine aI jJ rfl rfl rfl (by simp[Value.cells,oneCell]) rfl ?_;intro h2 x2 _ _ b2;have X2:=x1.trans x2;have hq:h.size≤h1.size:=x1.size;generalize h1.size=q at*;by_cases he:e0=0
 case neg=>
  have dH:¬(e0:Int)=0:=by omega
  simp only[cQ,ae,seval,av7 dH];unfold Vs xq;rw[←hX];refine⟨[],e0,rfl,?_,X2.mono fun _ _ h=>h.elim, .inl ⟨dH,H.ext X2⟩⟩;rw[awa he];exact⟨rfl,rfl⟩
 have dH:(e0:Int)=0:=by omega
 have bm:=aS mR (aN (vs:=[ax K.minor,ax K.major,ax K.flags,ax K.this,ax K.super, .slice a1 K.pool.length c1, .slice a2 K.ifs.length c2, .slice a3 K.fields.length c3, .slice a4 K.methods.length c4]) b2) rfl;simp only[cQ,ae,seval,av8 dH,bm];refine aj rfl (rM h2 x2) ?_;rintro _ h3⟨x3,rfl⟩;have X3:=X2.trans x3;have C3:=(sO.ext C1 x2).ext x3;have b3:=ay x3 b2 awx;have tH:= @aiT K;unfold acL;obtain⟨z,KH⟩:∃z,z=lI K:=⟨_,rfl⟩;rw[←KH]at tH⊢;obtain⟨z1,z2,z3,z4⟩:=z;dsimp only at tH⊢;by_cases hz:z1=0
 case neg=>
  simp only[cQ,ae,seval,av7 hz];unfold Vs xq;rw[←hX,←KH];refine⟨[],z1,rfl,?_,X3.mono fun _ _ h=>h.elim, .inl ⟨hz,H.ext X3⟩⟩;rw[av9 (by simp[he]),awa hz];exact⟨rfl,rfl⟩
 obtain⟨k1,k2,k3⟩:=tH hz;subst hz;have q5:cellAt h3 ⟨q,5,none⟩=some (.slice a1 K.pool.length c1):=by rw[au b3];rfl
 have q3:cellAt h3 ⟨q,3,none⟩=some (ax K.this):=by rw[au b3];rfl
 have q4:cellAt h3 ⟨q,4,none⟩=some (ax K.super):=by rw[au b3];rfl
 have q2:cellAt h3 ⟨q,2,none⟩=some (ax K.flags):=by rw[au b3];rfl
 have tle:=Tt G.t;have sle:=ZY G.t;simp only[cQ,ae,seval,q5,q3,q4,q2];refine aj rfl (OX G.fit.pool C3.p k1.2.1) ?_;rintro _ h3⟨rfl,rfl⟩;simp only[ae,seval,q5,q4,q2];refine aj rfl (OX G.fit.pool C3.p k2.2.1) ?_;rintro _ h3⟨rfl,rfl⟩;rw[←k1.2.2,←k2.2.2];simp only[ae,seval,q5,q2];refine cT ?_;have N4:PD h3 (h3.push (.cells #[str (jT K K.this),str (jT K K.super),nS,ax K.flags, .slice a1 K.pool.length c1,nS,nS,ao 0,ao 0] 50)) h3.size ⟨jT K K.this,jT K K.super,[],K.flags,[],[]⟩ (.slice a1 K.pool.length c1) nS nS nS:=
  ⟨⟨by simp[aiw],Own.nil,Own.nil,Own.nil⟩,awp _,Own.nil,Own.nil,Own.nil,Ext.push _ _⟩
 have OH:=X3.size;simp only[cQ,ae,seval];generalize h3.push _=h4 at*;obtain⟨b,hb⟩:∃x,x=h3.size:=⟨_,rfl⟩;rw[←hb]at N4⊢;have P4:=H.ext (X3.trans N4.x);have m0:=P4.m0;have c0:=N4.k.c0;have lk:=P4.lk (jT K K.this);have q6:cellAt h4 ⟨q,6,none⟩=some (.slice a2 K.ifs.length c2):=by rw[au (ay N4.x b3 awx)];rfl
 dsimp only at c0;rcases Vq (bs:=bs) (W:=W) (n:=jT K K.this)with⟨e,mX⟩|⟨i,hi,vh,e⟩
 case inr=>
  rw[e]at lk;simp only[cQ,ae,seval,m0,c0,lk,pm1];unfold Vs xq;rw[←hX,←KH];refine⟨[],26,rfl,?_,(X3.trans N4.x).mono fun _ _ h=>h.elim, .inl ⟨by decide,P4⟩⟩;rw[av9 (by simp[he]),av9 (by simp)];exact .inl ⟨⟨i,hi,vh⟩,rfl,rfl⟩
 rw[e]at lk;simp only[cQ,ae,seval,m0,c0,lk,pm0,q6];have F3:=fun{hc:ar}(x:Ext h3 hc)=>awv (ay x b3 awx) (C3.ext x);have arB:=G.i;have arC:=G.f;have arD:=G.m;have Oq:h3.size≤b:=Nat.le_of_eq hb.symm;refine aG [0,6,13,66,67,68] (fun m ρ hc=>∃(i:Nat)(c:LC)(ui:Value),m=K.ifs.length-i∧i≤K.ifs.length∧
  ρ=[(0,aE g),(6,aE q),(13,aE b),(66, .slice a2 K.ifs.length c2),(67,ao K.ifs.length),(68,ao i)]∧
  PD h3 hc b c (.slice a1 K.pool.length c1) ui nS nS∧c.nm=jT K K.this∧c.sup=jT K K.super∧c.fl=K.flags∧c.fds=[]∧c.iw=[]∧c.ifs.length=i∧∀f∈c.ifs,eJ f=true∧f.length≤l.length) ?_ ?_
 case refine_1=>
  simp only[ae,seval];exact⟨_,0,_,_,rfl,awb _,rfl,N4,rfl,rfl,rfl,rfl,rfl,rfl,fun f hf=>by cases hf⟩
 rintro m ρ hc⟨i,c,ui,rfl,hi,rfl,N,n1,n2,n3,n4,n5,n6,n7⟩;obtain⟨bq,Cc⟩:=F3 N.x;by_cases aV:i<K.ifs.length
 case pos=>
  have aK:(i:Int)<(K.ifs.length:Int):=by omega
  obtain⟨b',o,c',heq,di,_⟩:=Cc.i.at aV;cases heq;rw[Gn aV]at di;have hk3:=k3 _ (dF (d:=0) aV);generalize K.ifs.getD i 0=k at*;have r0:cellAt hc ⟨b',o+i,none⟩=some (ax k):=by
   have:=di 0 (ax k) rfl;simpa using this
  have q5:cellAt hc ⟨q,5,none⟩=some (.slice a1 K.pool.length c1):=by rw[au bq];rfl
  have c2:=N.k.c2;simp(disch:=omega)only[cQ,ae,seval,aK,r0,q5,c2];refine aj rfl (OX G.fit.pool Cc.p hk3.2.1) ?_;rintro _ hc⟨rfl,rfl⟩;rw[←hk3.2.2];simp only[ae,seval,c2];refine aU dE rfl rfl (by decide) ?_;have N6:=N.ext (Ext.push hc (.cells #[str (jT K k)] 9));have c2:=N6.k.c2;simp only[ae,seval,c2];have gB:=N6.x.size;refine bF (m:=1) dE rfl rfl N6.i rfl (bV (vs:=[str (jT K k)])) (by simp[oneCell,str]) (by omega) (by omega) gB ?_;intro v7 h7 O7 f7 _;obtain⟨c7,z7,N8⟩:=N6.aiU O7 f7;obtain⟨_,ma,mc,rfl,_⟩:=id O7.dQ;simp only[ae,seval];refine aC zE rfl rfl rfl rfl rfl c7 z7 ?_;generalize setAt h7 ⟨b,2,none⟩ _=h8 at*;have w1:=gU (k:=i) (by omega);simp only[cQ,ae,seval,w1];refine⟨_,by omega,i+1,_,_,rfl,by omega,rfl,N8,n1,n2,n3,n4,n5,by simp[n6],fun f hf=>?_⟩;rcases awi.1 hf with h|h
  ·exact n7 f h
  ·rw[awf.1 h];exact⟨hk3.1,tle k⟩
 have aK:¬(i:Int)<(K.ifs.length:Int):=by omega
 have q7:cellAt hc ⟨q,7,none⟩=some (.slice a3 K.fields.length c3):=by rw[au bq];rfl
 simp only[cQ,ae,seval,aK,q7];refine aG [0,6,13,87,88,89] (fun m ρ hc=>∃(j:Nat)(c:LC)(uf:Value),m=K.fields.length-j∧j≤K.fields.length∧
  ρ=[(0,aE g),(6,aE q),(13,aE b),(87, .slice a3 K.fields.length c3),(88,ao K.fields.length),(89,ao j)]∧
  PD h3 hc b c (.slice a1 K.pool.length c1) ui uf nS∧c.nm=jT K K.this∧c.sup=jT K K.super∧c.fl=K.flags∧c.fds.length=j∧c.iw=[]∧c.ifs.length=i∧(∀f∈c.ifs,eJ f=true∧f.length≤l.length)∧∀r∈c.fds,rv (jT K K.this) 1 r) ?_ ?_
 case refine_1=>
  simp only[ae,seval];exact⟨_,0,_,_,rfl,awb _,rfl,N,n1,n2,n3,by simp[n4],n5,n6,n7,fun r hr=>by rw[n4]at hr;cases hr⟩
 rintro m ρ hc⟨j,c,uf,rfl,hj,rfl,N,n1,n2,n3,n4,n5,n6,n7,n8⟩;obtain⟨bq,Cc⟩:=F3 N.x;by_cases aV:j<K.fields.length
 case pos=>
  have aK:(j:Int)<(K.fields.length:Int):=by omega
  obtain⟨b',o,c',heq,di,_⟩:=Cc.f.at aV;cases heq;rw[zT aV]at di;have vB:=G.fit.fields _ (dF (d:=fC.zero) aV);generalize K.fields.getD j fC.zero=f at*;have bm:=aS lN di rfl;simp only[fC.cells]at bm;simp(disch:=omega)only[cQ,ae,seval,aK,bm];refine aD eG ?_;simp only[ae,seval];refine aI eG rfl rfl rfl (by simp[Value.cells,oneCell]) rfl ?_;intro h5 x5 _ _ b5;have N5:=N.ext x5;have C5:=Cc.ext x5;have bq5:=ay x5 bq awx;generalize hc.size=p at*;have p0:cellAt h5 ⟨p,0,none⟩=some (ax f.flags):=by rw[au b5];rfl
  have p1:cellAt h5 ⟨p,1,none⟩=some (ax f.name):=by rw[au b5];rfl
  have p2:cellAt h5 ⟨p,2,none⟩=some (ax f.type):=by rw[au b5];rfl
  have p3:cellAt h5 ⟨p,3,none⟩=some (ax f.value):=by rw[au b5];rfl
  have q5:cellAt h5 ⟨q,5,none⟩=some (.slice a1 K.pool.length c1):=by rw[au bq5];rfl
  have c5:=N5.k.c5;have c0:=N5.k.c0;rw[n1]at c0;simp only[cQ,ae,seval,p0,p1,p2,p3,q5,c5,c0];refine aj rfl (pY f.name vB.name C5.p) ?_;rintro _ h5⟨rfl,rfl⟩;simp only[ae,seval,p0,p2,p3,q5,c5,c0];refine aj rfl (pY f.type vB.type C5.p) ?_;rintro _ h5⟨rfl,rfl⟩;simp only[ae,seval,p0,p3,c5,c0];refine aU Rk rfl rfl (by decide) ?_;have N6:=N5.ext (Ext.push h5 (.cells #[str (jT K K.this),str (bM K.pool f.name),str (bM K.pool f.type),ax f.flags,ax f.value] 105));have c5:=N6.k.c5;have c0:=N6.k.c0;rw[n1]at c0;simp only[ae,seval,c5];have gB:=N6.x.size;refine bF (m:=1) Rk rfl rfl N6.f rfl (bV (vs:=[str (jT K K.this),str (bM K.pool f.name),str (bM K.pool f.type),ax f.flags,ax f.value])) (by simp[oneCell,str]) (by omega) (by omega) gB ?_;intro v7 h7 O7 f7 _;obtain⟨c7,z7,N8⟩:=N6.aiV O7 f7;obtain⟨_,ma,mc,rfl,_⟩:=id O7.dQ;simp only[ae,seval];refine aC ad6 rfl rfl rfl rfl rfl c7 z7 ?_;generalize setAt h7 ⟨b,5,none⟩ _=h8 at*;have w1:=gU (k:=j) (by omega);simp only[cQ,ae,seval,w1];refine⟨_,by omega,j+1,_,_,rfl,by omega,rfl,N8,n1,n2,n3,by simp[n4],n5,n6,n7,fun r hr=>?_⟩;rcases awi.1 hr with h|h
  ·exact n8 r h
  ·rw[awf.1 h];exact⟨_,_,_,[ax f.value],rfl,rfl,by simp[oneCell]⟩
 have aK:¬(j:Int)<(K.fields.length:Int):=by omega
 have q8:cellAt hc ⟨q,8,none⟩=some (.slice a4 K.methods.length c4):=by rw[au bq];rfl
 simp only[cQ,ae,seval,aK,q8];refine aG [0,6,13,124,125,126] (fun m ρ hc=>∃(k:Nat)(c:LC)(um:Value),m=K.methods.length-k∧k≤K.methods.length∧
  ρ=[(0,aE g),(6,aE q),(13,aE b),(124, .slice a4 K.methods.length c4),(125,ao K.methods.length),(126,ao k)]∧
  PD h3 hc b c (.slice a1 K.pool.length c1) ui uf um∧c.nm=jT K K.this∧c.sup=jT K K.super∧c.fl=K.flags∧c.fds.length=j∧c.iw.length=k∧c.ifs.length=i∧(∀f∈c.ifs,eJ f=true∧f.length≤l.length)∧(∀r∈c.fds,rv (jT K K.this) 1 r)∧∀r∈c.iw,rv (jT K K.this) 6 r) ?_ ?_
 case refine_1=>
  simp only[ae,seval];exact⟨_,0,_,_,rfl,awb _,rfl,N,n1,n2,n3,n4,by simp[n5],n6,n7,n8,fun r hr=>by rw[n5]at hr;cases hr⟩
 rintro m ρ hc⟨k,c,um,rfl,hk,rfl,N,n1,n2,n3,n4,n5,n6,n7,n8,n9⟩;obtain⟨bq,Cc⟩:=F3 N.x;by_cases aV:k<K.methods.length
 case pos=>
  have aK:(k:Int)<(K.methods.length:Int):=by omega
  obtain⟨b',o,c',vH,heq,di,WU,_⟩:=Cc.m.at aV;cases heq;have vB:=G.fit.methods _ (dF (d:=fj.zero) aV);generalize K.methods.getD k fj.zero=f at*;obtain⟨_,ah,ch,rfl,_⟩:=id WU;have bm:=aS lO di rfl;simp only[fQ,fX,awC,awD]at bm;simp(disch:=omega)only[cQ,ae,seval,aK,bm];refine aD eH ?_;simp only[ae,seval];refine aI eH rfl rfl rfl (by simp[Value.cells,oneCell,str]) rfl ?_;intro h5 x5 _ _ b5;have N5:=N.ext x5;have C5:=Cc.ext x5;have bq5:=ay x5 bq awx;generalize hc.size=p at*;have p0:cellAt h5 ⟨p,0,none⟩=some (ax f.flags):=by rw[au b5];rfl
  have p1:cellAt h5 ⟨p,1,none⟩=some (ax f.name):=by rw[au b5];rfl
  have p2:cellAt h5 ⟨p,2,none⟩=some (ax f.type):=by rw[au b5];rfl
  have p3:cellAt h5 ⟨p,3,none⟩=some (.bool f.has):=by rw[au b5];rfl
  have p4:ld Tryz.prog 88 ⟨p,4,none⟩ h5=some (.agg #[ao f.code.maxS,ao f.code.fF,str f.code.bytes, .slice ah f.code.hs.length ch,str f.code.map]):=aS pW ((aN (vs:=[ax f.flags,ax f.name,ax f.type, .bool f.has,ao f.code.maxS,ao f.code.fF,str f.code.bytes, .slice ah f.code.hs.length ch,str f.code.map]) b5).sub 4 5) rfl;have q5:cellAt h5 ⟨q,5,none⟩=some (.slice a1 K.pool.length c1):=by rw[au bq5];rfl
  have c6:=N5.k.c6;have c0:=N5.k.c0;rw[n1]at c0;simp only[cQ,ae,seval,p0,p1,p2,p3,p4,q5,c6,c0];refine aj rfl (pY f.name vB.name C5.p) ?_;rintro _ h5⟨rfl,rfl⟩;simp only[ae,seval,p0,p2,p3,p4,q5,c6,c0];refine aj rfl (pY f.type vB.type C5.p) ?_;rintro _ h5⟨rfl,rfl⟩;simp only[ae,seval,p0,p3,p4,c6,c0];refine aU AG rfl rfl (by decide) ?_;have N6:=N5.ext (Ext.push h5 (.cells #[str (jT K K.this),str (bM K.pool f.name),str (bM K.pool f.type),ax f.flags, .bool f.has,ao f.code.maxS,ao f.code.fF,str f.code.bytes, .slice ah f.code.hs.length ch,str f.code.map] 90));have c6:=N6.k.c6;have c0:=N6.k.c0;rw[n1]at c0;simp only[ae,seval,c6];have gB:=N6.x.size;refine bF (m:=1) AG rfl rfl N6.m rfl (bV (vs:=[str (jT K K.this),str (bM K.pool f.name),str (bM K.pool f.type),ax f.flags, .bool f.has,ao f.code.maxS,ao f.code.fF,str f.code.bytes, .slice ah f.code.hs.length ch,str f.code.map])) (by simp[oneCell,str]) (by omega) (by omega) gB ?_;intro v7 h7 O7 f7 _;obtain⟨c7,z7,N8⟩:=N6.GN O7 f7;obtain⟨_,ma,mc,rfl,_⟩:=id O7.dQ;simp only[ae,seval];refine aC UE rfl rfl rfl rfl rfl c7 z7 ?_;generalize setAt h7 ⟨b,6,none⟩ _=h8 at*;have w1:=gU (k:=k) (by omega);simp only[cQ,ae,seval,w1];refine⟨_,by omega,k+1,_,_,rfl,by omega,rfl,N8,n1,n2,n3,n4,by simp[n5],n6,n7,n8,fun r hr=>?_⟩;rcases awi.1 hr with h|h
  ·exact n9 r h
  ·rw[awf.1 h];exact⟨_,_,_,[.bool f.has,ao f.code.maxS,ao f.code.fF,str f.code.bytes, .slice ah f.code.hs.length ch,str f.code.map],rfl,rfl,by simp[oneCell,str]⟩
 have aK:¬(k:Int)<(K.methods.length:Int):=by omega
 have Pc:=H.ext (X3.trans N.x);have m0:=Pc.m0;have c0:=N.k.c0;simp only[cQ,ae,seval,aK,m0,c0];refine sC (K:=_) aiv W3 acU (a:=c.nm) (b:=mb) (v:=aE b) rfl rfl rfl Pc.mp ?_;intro h9 M9 f9 _;have nb:∀x∈bs,x<h3.size:=fun x hx=>by obtain⟨_,_,hx⟩:=(H.ext X3).cells hx;exact(awd.1 hx).1
 have hnew:∀i,i<W.length→(at' W i).nm≠c.nm:=fun i hi e=>mX ⟨i,hi,by rw[e,n1]⟩;have l1:=tle K.this;have l2:=tle K.super;have ok:PS 1 c:=⟨by rw[n3];exact G.fit.flags,by rw[n1];exact n8,by rw[n1];exact n9,by rw[n1,n2];exact⟨by omega,by omega,fun f hf=>by have:=(n7 f hf).2;omega,by omega,by omega,by omega⟩⟩;have P9:=Pc.snoc N.k (fun hx=>by have:=nb b hx;omega) hnew M9 f9 ok (by rw[List.map_append,List.sum_append];simp;omega);have d0:cellAt h9 ⟨b,0,none⟩=some (str c.nm):=by
  obtain⟨es,cl,hm,_⟩:=Pc.mp;rw[au (ay f9 N.k.b fun e=>by have:=N.k.b;rw[e,hm]at this;cases this)];rfl
 simp only[cQ,ae,seval,d0];unfold Vs xq;rw[←hX,←KH];refine⟨_,0,rfl,by rw[av9 (by simp[he]),av9 (by simp)];exact .inr ⟨mX,n1,rfl⟩,Fr.trans (X3.trans N.x) f9 (fun _ _ h=>h.elim) (fun _ _ h=>h), .inr ⟨rfl,b,c,by omega,⟨n1,ok,by rw[n1];exact k1.1,by rw[n2];exact k2.1,fun f hf=>(n7 f hf).1,by omega⟩,P9,hnew⟩⟩
end
end
end Go.Proofs.YtmbboehmnfhjjaaGreatDoor
