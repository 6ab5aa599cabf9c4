/- A class under construction by the reference; always, with. The reference's New: the classes that are always there. The reference's New. -/
import Derived.Test.YtmbboehmnfhjjaaGreatDoorU37
set_option maxRecDepth 100000
set_option maxHeartbeats 32000000
set_option linter.unusedSimpArgs false
set_option linter.unusedVariables false
set_option linter.defProp false
namespace Go.Proofs.YtmbboehmnfhjjaaGreatDoor
open Go.Vc
section
section
variable{h0 h h7:ar}{b nv:Nat}{c:LC}{vp ui uf uv um vo v7:Value}
structure PE(h0 h:ar)(b:Nat)(c:LC)(vp ui uf uv um vo:Value)(nv:Nat):Prop where
 k:RC h b c (0,0) ui vp uf uv um vo
 b:h0.size≤b
 i:Own h h0.size 9 1 ui c.ifs.length (c.ifs.map str)
 f:Own h h0.size 72 4 uf c.fds.length c.fds.flatten
 v:∃vs,Own h h0.size 40 1 uv nv vs
 m:Own h h0.size 92 10 um c.iw.length c.iw.flatten
 x:Ext h0 h
theorem RC.ext{bb:Nat}{s:Nat × Int}(p:RC h bb c s ui vp uf uv um vo)(x:Ext h h7):RC h7 bb c s ui vp uf uv um vo:=⟨ay x p.b awx,p.i.ext x,p.f.ext x,p.m.ext x⟩
theorem PE.ext(N:PE h0 h b c vp ui uf uv um vo nv)(x:Ext h h7):PE h0 h7 b c vp ui uf uv um vo nv:=⟨N.k.ext x,N.b,N.i.ext x,N.f.ext x,N.v.imp fun _ a=>a.ext x,N.m.ext x,N.x.trans x⟩
theorem PE.GN(N:PE h0 h b c vp ui uf uv um vo nv){r:List Value}(O:Own h7 h0.size 92 10 v7 (c.iw.length+1) (c.iw.flatten++r))(f:Fr (fun k=>um.ownBlock=some k) h h7):
 cellAt h7 ⟨b,7,none⟩=some um∧frozenAt h7 ⟨b,7,none⟩=false∧PE h0 (setAt h7 ⟨b,7,none⟩ v7) b {c with iw:=c.iw++[r]} vp ui uf uv v7 vo nv:=by
 obtain⟨a1,a2,a3,a4,K,L⟩:=sT N.k.b N.b N.x N.m (by decide) f 7 v7;have O:=L (show Own h7 h0.size 92 10 v7 (c.iw++[r]).length (c.iw++[r]).flatten from dR O (by simp) (by simp));have i:=K N.i (by decide) (by decide);have f:=K N.f (by decide) (by decide);exact⟨by rw[au a1];rfl,a2,⟨a3,i.mono (awb _),f.mono (awb _),O.mono (awb _)⟩,N.b,i,f,N.v.imp fun _ a=>K a (by decide) (by decide),O,a4⟩
def NB(h0 h:ar)(b:Nat)(q:SK)(n:Nat):Prop:=∃c ui um,PE h0 h b c nS ui nS nS um (.bool false) 0∧c.sk=q∧c.fds=[]∧c.iw.length=n∧PS 0 c
theorem NB.ext{q:SK}{n:Nat}(N:NB h0 h b q n)(x:Ext h h7):NB h0 h7 b q n:=by
 obtain⟨c,ui,um,N,r⟩:=N;exact⟨c,ui,um,N.ext x,r⟩
theorem NB.x{q:SK}{n:Nat}(N:NB h0 h b q n):Ext h0 h:=by obtain⟨_,_,_,N,_⟩:=N;exact N.x
def TF(h:ar)(k:Nat):Prop:=∃cs fz e,h[k]? =some (.cells cs e fz)∧(e=62∨e=92)
theorem od(n s:az)(f:Nat)(hn:n.length≤1048576)(hs:s.length≤1048576)(hf:f<65536):
 aF Tryz.prog 12 #[str n,str s,ax f] h fun v h'=>∃b,v=fh b∧NB h h' b (n,s,[]) 0:=by
 refine Io (args:=[str n,str s,ax f]) rfl ?_;simp only[Mg,ae,seval];refine cT ?_;simp only[ae,seval];refine⟨_,rfl,⟨n,s,[],f,[],[]⟩,_,_,⟨⟨by simp[acZ],Own.nil,Own.nil,Own.nil⟩,awp _,Own.nil,Own.nil,⟨_,Own.nil⟩,Own.nil,Ext.push _ _⟩,rfl,rfl,rfl,hf,(fun r hr=>by cases hr),(fun r hr=>by cases hr),hn,hs,(fun f hf=>by cases hf),by simp,by simp,by simp⟩
theorem i6{q:SK}{k:Nat}(N:NB h0 h b q k)(hk:k≤1000)(n t:az)(f:Nat)(hf:f<65536):
 aF Tryz.prog 13 #[fh b,str n,str t,ax f] h fun v h'=>v=fh b∧NB h0 h' b q (k+1)∧Fr (TF h) h h':=by
 obtain⟨c,ui,um,N,hq,KI,hm,hc⟩:=N;refine Mh (args:=[fh b,str n,str t,ax f]) rfl ?_;have c0:=N.k.c0;obtain⟨fl,ho⟩:∃fl:Nat,cB .or .u16 1 (f:Int)=(fl:Int):=⟨1|||f,Lt rfl 1 f (by decide) (by simpa[IntKind.bits]using hf)⟩;unfold fh;simp only[kZ,ae,seval,c0,ho];refine aD GW ?_;simp only[ae,seval];refine aI GW rfl rfl rfl (cS (l:=[.bool false,ao 0,ao 0,str [],nS,str []]) (by decide)) rfl ?_;intro h4 x4 zY _ b4;obtain⟨p,hps⟩:∃p,p=h.size:=⟨_,rfl⟩;rw[←hps]at b4⊢;by_cases fn:cB .and .u16 (f:Int) 256=0
 case' neg=>
  have X4:=x4;simp only[kZ,ae,seval,av7 fn];obtain⟨r,R,b4⟩:∃r,rv c.nm 6 r∧h4[p]? =some (.cells r.toArray 92 (0,0)):=⟨_,⟨n,t,fl,[.bool false,ao 0,ao 0,str [],nS,str []],rfl,rfl,by decide⟩,b4⟩
 case' pos=>
  have c4:cellAt h4 ⟨p,4,none⟩=some (.bool false):=by rw[au b4];rfl
  simp only[kZ,ae,seval,av8 fn];refine aC (v:= .bool true) jf rfl rfl rfl rfl rfl c4 (by unfold frozenAt;rw[b4];rfl) ?_;have b5:=bu (o:=4) b4 (.bool true);have x5:Ext h (setAt h4 ⟨p,4,none⟩ (.bool true)):=ev x4 (Fr.set (S:=fun k=>k=p) h4 ⟨p,4,none⟩ (.bool true) fun _=>rfl) (by omega);generalize setAt h4 ⟨p,4,none⟩ _=h5 at*;simp only[kZ,ae,seval];refine dD iX rfl rfl rfl (by decide) b5 (show 5+5≤10 by decide) (by intro j _ _;simp) ?_;intro h4 f6 b4;have X4:=ev x5 f6 (by omega);simp only[kZ,ae,seval];obtain⟨r,R,b4⟩:∃r,rv c.nm 6 r∧h4[p]? =some (.cells r.toArray 92 (0,0)):=⟨_,⟨n,t,fl,[.bool true,ao 0,ao 1,str [177],nS,str []],rfl,rfl,by decide⟩,b4⟩
 all_goals
  have N4:=N.ext X4;have c7:=N4.k.c7;obtain⟨n',t',f',l,rfl,Ld,h1⟩:=R
  match l,Ld with
  |[u1,u2,u3,u4,u5,u6],_=>
   have bm:=aS UC (aN b4) rfl;simp only[ae,seval,bm,c7];refine aU AH rfl rfl (by decide) ?_;have N6:=N4.ext (Ext.push h4 (.cells #[str c.nm,str n',str t',ax f',u1,u2,u3,u4,u5,u6] 92));have E6:=X4.trans (Ext.push h4 (.cells #[str c.nm,str n',str t',ax f',u1,u2,u3,u4,u5,u6] 92));have c7:=N6.k.c7;simp only[ae,seval,c7];have gB:=N6.x.size;refine bF (m:=1) AH rfl rfl N6.m rfl (bV (vs:=[str c.nm,str n',str t',ax f',u1,u2,u3,u4,u5,u6])) (cS h1) (by omega) (by omega) gB ?_;intro v7 h7 O7 f7 _;obtain⟨c7,z7,N8⟩:=N6.GN O7 f7;have q7:=ay f7 N6.k.b (bK N6.m N6.k.b (by decide));have f8:=Fr.set (S:=fun k=>k=b) h7 ⟨b,7,none⟩ v7 fun _=>rfl;obtain⟨_,ma,mc,rfl,_⟩:=id O7.dQ;simp only[ae,seval];refine aC UF rfl rfl rfl rfl rfl c7 z7 ?_;generalize setAt h7 ⟨b,7,none⟩ _=h8 at*;simp only[kZ,ae,seval];refine⟨⟨_,_,_,N8,hq,KI,by simp[hm],hc.fl,hc.fr,fun r hr=>?_,hc.sz.1,hc.sz.2.1,hc.sz.2.2.1,hc.sz.2.2.2.1,hc.sz.2.2.2.2.1,by simp;omega⟩,?_⟩
   ·rcases awi.1 hr with h|h
    ·exact hc.mr r h
    ·rw[awf.1 h];exact⟨_,_,_,_,rfl,rfl,h1⟩
   ·have old:∀{k},k<h.size→∀{o},(h4.push (.cells #[str c.nm,str n',str t',ax f',u1,u2,u3,u4,u5,u6] 92))[k]? =some o→h[k]? =some o:=fun hk _ ho=>by rw[←E6.same _ hk awx];exact ho
    refine Fr.trans (Fr.trans (T:=TF h) E6 f7 (fun _ _ h=>h.elim) fun k hk hv=>?_) f8 (fun _ _ h=>h) fun k hk e=>?_
    ·obtain⟨cs,fz,hb⟩:=uh N6.m hv
     exact⟨cs,fz,_,old hk hb, .inr rfl⟩
    ·subst e
     exact⟨_,_,_,old hk N6.k.b, .inl rfl⟩
theorem NB.set2{q:SK}{n:Nat}(N:NB h0 h b q n){l:List (az)}(O:Own h h0.size 9 1 v7 l.length (l.map str))(hl:l.length≤1048576)(hf:∀f∈l,f.length≤1048576):
 (∃u,cellAt h ⟨b,2,none⟩=some u)∧frozenAt h ⟨b,2,none⟩=false∧NB h0 (setAt h ⟨b,2,none⟩ v7) b (q.1,q.2.1,l) n∧Fr (TF h) h (setAt h ⟨b,2,none⟩ v7):=by
 obtain⟨c,ui,um,N,hq,KI,hm,hc⟩:=N;have f8:=Fr.set (S:=fun k=>k=b) h ⟨b,2,none⟩ v7 fun _=>rfl;have K:∀{e s w m ys B},Own h B e s w m ys→e≠62→Own (setAt h ⟨b,2,none⟩ v7) B e s w m ys:=fun A h2=>A.fr f8 fun k hk e=>bK A N.k.b h2 (by rw[hk,e]);have i:=K O (by decide);have f:=K N.f (by decide);have m:=K N.m (by decide);refine⟨⟨_,N.k.c2⟩,N.k.nf 2,⟨{c with ifs:=l},v7,um,⟨⟨bu (o:=2) N.k.b v7,i.mono (awb _),f.mono (awb _),m.mono (awb _)⟩,N.b,i,f,N.v.imp fun _ a=>K a (by decide),m,?_⟩,by rw[←hq];rfl,KI,hm,hc.fl,hc.fr,hc.mr,hc.sz.1,hc.sz.2.1,hf,hl,hc.sz.2.2.2.2⟩,f8.mono fun k _ e=>?_⟩
 ·exact Fr.trans N.x f8 (fun _ _ h=>h) fun k hk e=>by have:=N.b;omega
 ·subst e;exact⟨_,_,_,N.k.b, .inl rfl⟩
theorem TF.ext{T:Nat→Prop}(f:Fr T h h7)(hT:∀k,T k→TF h k){B s n:Nat}{v:Value}{xs:List Value}(O:Own h B 9 s v n xs):Own h7 B 9 s v n xs:=O.fr f fun k hk hv=>by
 obtain⟨cs,fz,e,h1,h2⟩:=hT k hv;obtain⟨Qn,Yu,h3⟩:=uh O hk;rw[h3]at h1;simp only[awe,awE]at h1;rcases h2 with h2|h2<;>rw[h2]at h1<;>exact aww h1.2.1 (by decide)
end
end
section
section
variable{h0 h h7:ar}{g b:Nat}{vL v7:Value}{bs:List Nat}{W:List LC}{S:LS}{c:LC}{s:Nat × Int}{vi vp vf vv vm vo:Value}
theorem RC.far{T:Nat→Prop}(p:RC h b c s vi vp vf vv vm vo)(f:Fr T h h7)(F:pS h T 62∧pS h T 9∧pS h T 72∧pS h T 92):RC h7 b c s vi vp vf vv vm vo:=
 ⟨F.1.blk f p.b,kC p.i f F.2.1,kC p.f f F.2.2.1,kC p.m f F.2.2.2⟩
theorem RW.snoc(H:RW h g vL bs W S)(K:RC h b c s vi vp vf vv vm vo)(hb:¬b∈bs)(ok:PS 0 c)(tf:((W++[c]).map fun c=>c.fds.length).sum≤1099511627776)(tn:W.length+1≤1048576){base:Nat}
 (O:Own h7 base 56 1 v7 (bs.length+1) (bs.map fh++[fh b]))(f:Fr (fun k=>vL.ownBlock=some k) h h7):
 cellAt h7 ⟨g,0,none⟩=some vL∧frozenAt h7 ⟨g,0,none⟩=false∧RW (setAt h7 ⟨g,0,none⟩ v7) g v7 (bs++[b]) (W++[c]) (S.put W.length s)∧Fr (fun k=>k=g∨vL.ownBlock=some k) h (setAt h7 ⟨g,0,none⟩ v7):=by
 obtain⟨a1,a2,a3,_,_,L⟩:=sT (h0:=#[]) H.w (awb _) ⟨awb _,fun k hk=>aww hk (awq _)⟩ H.l (by decide) f 0 v7;have f8:Fr (fun k=>k=g∨vL.ownBlock=some k) h (setAt h7 ⟨g,0,none⟩ v7):=Fr.trans f (Fr.set (S:=fun k=>k=g) h7 ⟨g,0,none⟩ v7 fun _=>rfl) (fun _ _ h=> .inr h) fun _ _ h=> .inl h;have F:∀{e},55≠e→56≠e→pS h (fun k=>k=g∨vL.ownBlock=some k) e:=fun h1 h2 k hk cs fz hc=>by
  rcases hk with rfl|hk
  ·rw[H.w]at hc;simp only[awe,awE]at hc;exact h1 hc.2.1
  ·obtain⟨Qn,Yu,h3⟩:=uh H.l hk
   rw[h3]at hc;simp only[awe,awE]at hc;exact h2 hc.2.1
 have fr:∀{b c s vi vp vf vv vm vo},RC h b c s vi vp vf vv vm vo→RC (setAt h7 ⟨g,0,none⟩ v7) b c s vi vp vf vv vm vo:=fun K=>K.far f8 ⟨F (by decide) (by decide),F (by decide) (by decide),F (by decide) (by decide),F (by decide) (by decide)⟩;refine⟨by rw[au a1];rfl,a2,⟨a3,dR ((L O).mono (awb _)) (by simp) (by simp),by simp[H.ln],?_,fun i hi=>?_,fun i hi=>?_,fun i hi=>?_,fun i hi=>?_,tf,by simp;omega,fun i hi=>?_⟩,f8⟩
 ·rw[List.nodup_append]
  exact⟨H.nd,by simp,fun x hx y hy e=>hb (by rw[awf.1 hy]at e;exact e▸hx)⟩
 ·rcases iZ hi with⟨h,e⟩|⟨rfl,e⟩<;>rw[e]
  ·have:i<bs.length:=by rw[H.ln];exact h
   rw[jY (by omega),show(bs++[b]).getD i 0=bs.getD i 0 by simp[awu,awS this]];obtain⟨a,b,c,d,e,w,K⟩:=H.cl i h;exact⟨a,b,c,d,e,w,fr K⟩
  ·rw[fM,show(bs++[b]).getD W.length 0=b by simp[←H.ln]]
   exact⟨_,_,_,_,_,_,fr K⟩
 ·rcases iZ hi with⟨h,e⟩|⟨rfl,e⟩<;>rw[e]
  ·exact H.fl i h
  ·exact ok.fl
 ·rcases iZ hi with⟨h,e⟩|⟨rfl,e⟩<;>rw[e]
  ·exact H.fr i h
  ·exact ok.fr
 ·rcases iZ hi with⟨h,e⟩|⟨rfl,e⟩<;>rw[e]
  ·exact H.mr i h
  ·exact ok.mr
 ·rcases iZ hi with⟨h,e⟩|⟨rfl,e⟩<;>rw[e]
  ·exact H.sz i h
  ·exact ok.sz
def BO(h:ar)(b:Nat)(q:SK):Prop:=∃c,(∃vi vp vf vv vm vo,RC h b c (0,0) vi vp vf vv vm vo)∧c.sk=q∧c.fds=[]∧PS 0 c
theorem NB.bo{q:SK}{n:Nat}(N:NB h0 h b q n):BO h b q:=by
 obtain⟨c,ui,um,N,h1,h2,_,h3⟩:=N;exact⟨c,⟨_,_,_,_,_,_,N.k⟩,h1,h2,h3⟩
theorem Z0{α:Type}{P:α→LC→Prop}:∀(L:List α),(∀p∈L,∃c,P p c)→∃W:List LC,W.length=L.length∧∀i(hi:i<L.length),P L[i] (at' W i)
 |[],_=>⟨[],rfl,fun i hi=>aww hi (awq _)⟩
 |p::L,h=>by
  obtain⟨c,hc⟩:=h p (by simp);obtain⟨W,h1,h2⟩:=Z0 L fun p hp=>h p (by simp[hp]);refine⟨c::W,by simp[h1],fun i hi=>?_⟩;cases i with
  |zero=>exact hc
  |succ i=>exact h2 i (by simpa using hi)
theorem RW.start{L:List (Nat × SK)}(hw:h[g]? =some (.cells #[vL] 55))(hl:Own h 0 56 1 vL L.length (L.map fun p=>fh p.1))(nd:(L.map (·.1)).Nodup)(hL:∀p∈L,BO h p.1 p.2)(hn:L.length≤1000):
 ∃W,RW h g vL (L.map (·.1)) W S0∧W.map LC.sk=L.map (·.2)∧∀c∈W,c.fds=[]:=by
 obtain⟨W,e,hW⟩:=Z0 (P:=fun(p:Nat × SK)c=>(∃vi vp vf vv vm vo,RC h p.1 c (0,0) vi vp vf vv vm vo)∧c.sk=p.2∧c.fds=[]∧PS 0 c) L fun p hp=>hL p hp;have fd:∀c∈W,c.fds=[]:=fun c hc=>by
  obtain⟨i,hi,rfl⟩:=List.getElem_of_mem hc;have:=(hW i (by omega)).2.2.1;simpa[at',hi]using this
 refine⟨W,⟨hw,dR hl (by simp) (by simp),by simp[e],nd,fun i hi=>?_,fun i hi=>(hW i (by omega)).2.2.2.fl,fun i hi=>(hW i (by omega)).2.2.2.fr,fun i hi=>(hW i (by omega)).2.2.2.mr,by rw[uz fd];decide,by omega,fun i hi=>(hW i (by omega)).2.2.2.sz⟩,?_,fd⟩
 ·have:=(hW i (by omega)).1
  simpa[S0,show i<L.length by omega]using this
 ·refine List.ext_getElem (by simp[e]) fun i h1 h2=>?_
  have:=(hW i (by simpa using h2)).2.1;simpa[at',show i<W.length by simpa using h1]using this
end
def yl:az:=b8 "java0io0Serializable"
def RO:List SK:=[(nt,[],[]),(b8 "java0lang0Cloneable",nt,[]),(yl,nt,[]),(b8 "java0lang0String",nt,[yl]),(b8 "jvm0Out",nt,[]),(b8 "java0lang0Thread",nt,[])]
def RN:List (az × az):=
 let r:=b8 "java0lang0RuntimeException";let c:=b8 "java0lang0IncompatibleClassChangeError";let l:=b8 "java0lang0LinkageError";let m:=b8 "java0lang0VirtualMachineError";let i:=b8 "java0lang0IndexOutOfBoundsException"
 let t:=b8 "java0lang0Throwable";let e:=b8 "java0lang0Error"
 [(t,nt),(b8 "java0lang0Exception",t),(r,b8 "java0lang0Exception"),(e,t),(l,e),(c,l),(m,e),
  (b8 "java0lang0ArithmeticException",r),(b8 "java0lang0ArrayStoreException",r),(b8 "java0lang0ClassCastException",r),(b8 "java0lang0IllegalMonitorStateException",r),(b8 "java0lang0IllegalThreadStateException",r),(i,r),
  (b8 "java0lang0ArrayIndexOutOfBoundsException",i),(b8 "java0lang0StringIndexOutOfBoundsException",i),(b8 "java0lang0NegativeArraySizeException",r),(b8 "java0lang0NullPointerException",r),
  (b8 "java0lang0AbstractMethodError",c),(b8 "java0lang0IllegalAccessError",c),(b8 "java0lang0InstantiationError",c),(b8 "java0lang0NoSuchFieldError",c),(b8 "java0lang0NoSuchMethodError",c),
  (b8 "java0lang0UnsatisfiedLinkError",l),(b8 "java0lang0ClassCircularityError",l),(b8 "java0lang0ExceptionInInitializerError",l),(b8 "java0lang0NoClassDefFoundError",l),(b8 "java0lang0VerifyError",l),(b8 "java0lang0OutOfMemoryError",m),(b8 "java0lang0StackOverflowError",m)]
def RT:List SK:=RN.zipIdx.map fun p=>(p.1.1,p.1.2,if p.2=0 then [yl]else [])
def RQ:List SK:=RO++RT
theorem aoD:RQ.all okQ=true:=by kernel_rfl
theorem aoE:(RQ.map (·.1)).Nodup:=by decide+kernel
theorem aoF:RQ.head?=some (nt,[],[]):=by kernel_rfl
theorem aiX:(RQ.map (·.1)).all (fun n=>(BQ.map (·.1)).contains n)=true∧(BQ.map (·.1)).all (fun n=>(RQ.map (·.1)).contains n)=true:=by decide+kernel
theorem ac3:RN.length=29:=by kernel_rfl
theorem aoG:RN.all (fun x=>decide (x.1.length≤200)&&decide (x.2.length≤200))=true:=by kernel_rfl
def Vt(x:az × az):List Value:=[str x.1,str x.2]
theorem aoH{k:Nat}(hk:k<29):∃n s,(RN.map Vt).getD k []=[str n,str s]∧n.length≤200∧s.length≤200∧RQ.take (6+k+1)=RQ.take (6+k)++[(n,s,if k=0 then [yl]else [])]:=by
 have hl:k<RN.length:=by rw[ac3];exact hk
 have hz:=List.all_eq_true.1 aoG _ (List.getElem_mem hl);simp only[awm,awo]at hz;refine⟨RN[k].1,RN[k].2,by simp[hl,Vt],hz.1,hz.2,?_⟩;rw[List.take_add_one];have:RQ[6+k]? =RT[k]? :=by
  unfold RQ;rw[awT (by simp[RO]),show 6+k-RO.length=k by simp[RO]]
 rw[this];simp[RT,hl]
theorem aoI{a b:az}{h:ar}:ik Tryz.prog 65 [0,1] [str a,str b] h=some (.agg #[str a,str b]):=dT (by kernel_rfl)
theorem Z1{h:ar}:aF Tryz.prog 14 #[] h fun v h'=>Ext h h'∧Own h' h.size 65 2 v 29 (RN.map Vt).flatten:=by
 refine Kr (args:=[]) rfl ?_;simp only[NN,ae,seval,aoI];refine aU aa5 rfl rfl (by decide) ?_;simp only[ae,seval];refine⟨Ext.push _ _,dR (Own.new (n:=29) rfl (by decide+kernel) (awp _)) rfl (by kernel_rfl)⟩
end
theorem aeU{h:ar}{B B' s n:Nat}{e:TypeId}{v:Value}{xs:List Value}(O:Own h B e s v n xs)(hB:∀k,v.ownBlock=some k→B'≤k):Own h B' e s v n xs:=by
 refine⟨O.1,?_⟩;rcases O.2 with h1|⟨g,cap,cur,fz,rfl,h2,h3⟩
 ·exact .inl h1
 ·exact .inr ⟨g,cap,cur,fz,rfl,hB g rfl,h3⟩
theorem NB.lt{h0 h:ar}{b n:Nat}{q:SK}(N:NB h0 h b q n):h0.size≤b∧b<h.size:=by
 obtain⟨_,_,_,N,_⟩:=N;exact⟨N.b,(awd.1 N.k.b).1⟩
theorem ak8{b o:Nat}{k:IntKind}{i:Int}{h:ar}(h0:0≤i)(h1:i<2):TB Tryz.prog 65 (.pointer (some ⟨b,o,none⟩)) (.int k i) h=some (.pointer (some ⟨b,o+i.toNat*1,none⟩)):=
 VO (len:=2) (by kernel_rfl) h0 h1
theorem Tv{b:Nat}:(fh b).cells=#[fh b]:=awx rfl
theorem aiY:fN Tryz.prog 65 #[str [],str []]:=by unfold fN;kernel_rfl
theorem BO.far{h h':ar}{b:Nat}{q:SK}{T:Nat→Prop}(B:BO h b q)(f:Fr T h h')(F:pS h T 62∧pS h T 9∧pS h T 72∧pS h T 92):BO h' b q:=by
 obtain⟨c,⟨_,_,_,_,_,_,K⟩,r⟩:=B;exact⟨c,⟨_,_,_,_,_,_,K.far f F⟩,r⟩
theorem aeV{h:ar}:aF Tryz.prog 7 #[] h fun v h'=>Ext h h'∧∃g vL bs W,v=fh g∧RW h' g vL bs W S0∧W.map LC.sk=RQ∧(∀c∈W,c.fds=[])∧h.size≤g∧(∀b∈bs,h.size≤b)∧∀k,vL.ownBlock=some k→h.size≤k:=by
 refine NP (args:=[]) rfl ?_;have o1:cB .or .u16 256 8=264:=by decide
 have o2:cB .or .u16 33 16=49:=by decide
 simp only[eE,ae,seval];refine cT ?_;have E1:=Ext.push h (.cells #[nS] 55);have bg:(h.push (.cells #[nS] 55))[h.size]? =some (.cells #[nS] 55 (0,0)):=by simp
 simp only[eE,ae,seval,o1,o2];generalize h.push _=h1 at*;obtain⟨g,hg⟩:∃g,g=h.size:=⟨_,rfl⟩;rw[←hg]at bg⊢;refine aj rfl (od _ _ 49 (by decide) (by decide) (by decide)) ?_;rintro _ h2⟨bt,rfl,Nt⟩;simp only[ae,seval,];refine aj rfl (i6 Nt (by decide) _ _ 256 (by decide)) ?_;rintro _ h2⟨rfl,Nt,-⟩;simp only[ae,seval,];refine aj rfl (i6 Nt (by decide) _ _ 256 (by decide)) ?_;rintro _ h2⟨rfl,Nt,-⟩;simp only[ae,seval,];refine aj rfl (i6 Nt (by decide) _ _ 256 (by decide)) ?_;rintro _ h2⟨rfl,Nt,-⟩;simp only[ae,seval,];refine aj rfl (i6 Nt (by decide) _ _ 256 (by decide)) ?_;rintro _ h2⟨rfl,Nt,-⟩;simp only[ae,seval,];refine aj rfl (i6 Nt (by decide) _ _ 256 (by decide)) ?_;rintro _ h2⟨rfl,Nt,-⟩;simp only[eE,ae,seval,fh];refine aU dE rfl rfl (by decide) ?_;have key:∀{h1 h2:ar}{b n:Nat}{q:SK},NB h1 h2 b q n→NB h1 (h2.push (.cells #[str yl] 9)) b q n∧Own (h2.push (.cells #[str yl] 9)) h1.size 9 1 (.slice (some ⟨h2.size,0,none⟩) 1 1) [yl].length ([yl].map str):=fun N=>
  ⟨N.ext (Ext.push _ _),(Own.new (vs:=[str yl]) rfl (by decide) (awp _)).mono N.x.size⟩
 have hS:yl.length≤1048576∧∀f∈[yl],f.length≤1048576:=⟨by decide,fun f hf=>by rw[awf.1 hf];decide⟩;obtain⟨Nt,Ot⟩:=key Nt;obtain⟨⟨u,cu⟩,zu,Nt,-⟩:=Nt.set2 Ot (by decide) hS.2;rw[show yl=[106,97,118,97,47,105,111,47,83,101,114,105,97,108,105,122,97,98,108,101] by kernel_rfl]at Nt cu zu;simp only[ae,seval];refine aC zE rfl rfl rfl rfl rfl cu zu ?_;generalize setAt _ ⟨bt,2,none⟩ _=h2 at*;simp only[eE,ae,seval,o2];refine aj rfl (od _ _ 49 (by decide) (by decide) (by decide)) ?_;rintro _ h3⟨bo,rfl,No⟩;simp only[eE,ae,seval,];refine aU dE rfl rfl (by decide) ?_;obtain⟨xs,QV⟩:∃xs:List (az),xs=[[73],[74],[70],[68],[67],[76,106,97,118,97,47,108,97,110,103,47,83,116,114,105,110,103,59]]:=⟨_,rfl⟩;have KS:xs.length=6:=by rw[QV];rfl
 have hxb:∀f∈xs,f.length≤100:=by rw[QV];decide
 have Ox:Own (h3.push (.cells (xs.map str).toArray 9)) 0 9 1 (.slice (some ⟨h3.size,0,none⟩) 6 6) xs.length (xs.map str):=dR (Own.new (n:=6) (vs:=xs.map str) (by simp[KS]) (by decide) (awb _)) KS.symm rfl;have No:=No.ext (Ext.push h3 (.cells (xs.map str).toArray 9));have hx:xs.map str=[str [73],str [74],str [70],str [68],str [67],str [76,106,97,118,97,47,108,97,110,103,47,83,116,114,105,110,103,59]]:=by rw[QV];rfl
 rw[hx]at Ox No;simp only[ae,seval];generalize h3.push _=h3' at*;rw[←hx]at Ox;generalize h3.size=q at*;have Rt:=Nt.lt;refine aG [1,2,3,4,5,6,7,37,38,39] (fun m ρ hc=>∃k:Nat,m=6-k∧k≤6∧ρ=[(1,aE g),(2,ax 256),(3,ax 264),(4,ax 33),(5,ax 1537),(6,fh bt),(7,fh bo),(37, .slice (some ⟨q,0,none⟩) 6 6),(38,ao 6),(39,ao k)]∧
  NB h2 hc bo ([106,118,109,47,79,117,116],[106,97,118,97,47,108,97,110,103,47,79,98,106,101,99,116],[]) k∧Own hc 0 9 1 (.slice (some ⟨q,0,none⟩) 6 6) xs.length (xs.map str)) ?_ ?_
 case refine_1=>
  simp only[ae,seval];exact⟨_,0,rfl,awb _,rfl,No,Ox⟩
 rintro m ρ hc⟨k,rfl,hk,rfl,No,Ox⟩;by_cases aV:k<6
 case pos=>
  have aK:(k:Int)<6:=by omega
  obtain⟨b1,p1,td,fD,_,eR⟩:=Ox.sl.at (i:=k) (by simpa[KS]using aV);rw[awk,KS]at fD;cases fD;have e1:cellAt hc ⟨q,k,none⟩=some (str (xs.getD k [])):=by rw[aw2]at eR;rw[eR];simp[KS,aV]
  have w1:=gU (k:=k) (by omega);have hb:=hxb (xs.getD k []) (by simp[KS,aV]);generalize xs.getD k []=t at*;have s1:∀{x y:Operand}{h:ar},ej Tryz.prog .add 9 x y (str [40]) (str t) h=some (str (40::t)):=tN (by simp;omega);have s2:∀{x y:Operand}{h:ar},ej Tryz.prog .add 9 x y (str (40::t)) (str [41,86]) h=some (str (40::t++[41,86])):=tN (by simp;omega);simp(disch:=omega)only[eE,ae,seval,aK,e1,s1,s2];refine aj rfl (i6 No (by omega) _ _ 264 (by decide)) ?_;rintro _ h4⟨rfl,N4,F4⟩;simp only[eE,ae,seval,w1];exact⟨_,by omega,k+1,rfl,by omega,rfl,N4,TF.ext F4 (fun _ h=>h) Ox⟩
 have aK:¬(k:Int)<6:=by omega
 have Ro:=No.lt;have Nt:=Nt.ext No.x;simp only[eE,ae,seval,aK,];refine aj rfl (od _ _ 33 (by decide) (by decide) (by decide)) ?_;rintro _ h3⟨bj,rfl,Nj⟩;simp only[ae,seval,];refine aj rfl (i6 Nj (by decide) _ _ 0 (by decide)) ?_;rintro _ h3⟨rfl,Nj,-⟩;simp only[ae,seval,];refine aj rfl (i6 Nj (by decide) _ _ 256 (by decide)) ?_;rintro _ h3⟨rfl,Nj,-⟩;simp only[ae,seval,];refine aj rfl (i6 Nj (by decide) _ _ 256 (by decide)) ?_;rintro _ h3⟨rfl,Nj,-⟩;simp only[ae,seval,];refine aj rfl (i6 Nj (by decide) _ _ 256 (by decide)) ?_;rintro _ h3⟨rfl,Nj,-⟩;simp only[ae,seval,];refine aj rfl (od _ _ 1537 (by decide) (by decide) (by decide)) ?_;rintro _ h3⟨bc,rfl,Nc⟩;simp only[ae,seval,];refine aj rfl (od _ _ 1537 (by decide) (by decide) (by decide)) ?_;rintro _ h3⟨bs,rfl,Ns⟩;simp only[ae,seval,];refine aj rfl (od _ _ 33 (by decide) (by decide) (by decide)) ?_;rintro _ h3⟨bh,rfl,Nh⟩;simp only[ae,seval,];refine aj rfl (i6 Nh (by decide) _ _ 0 (by decide)) ?_;rintro _ h3⟨rfl,Nh,-⟩;simp only[ae,seval,];refine aj rfl (i6 Nh (by decide) _ _ 0 (by decide)) ?_;rintro _ h3⟨rfl,Nh,-⟩;simp only[ae,seval,];refine aj rfl (i6 Nh (by decide) _ _ 256 (by decide)) ?_;rintro _ h3⟨rfl,Nh,-⟩;simp only[ae,seval,];refine aj rfl (i6 Nh (by decide) _ _ 256 (by decide)) ?_;rintro _ h3⟨rfl,Nh,-⟩;simp only[ae,seval,];refine aj rfl (i6 Nh (by decide) _ _ 264 (by decide)) ?_;rintro _ h3⟨rfl,Nh,-⟩;simp only[ae,seval,];refine aU uY rfl rfl (by decide) ?_;have X1:=Nh.x;have X2:=Ns.x.trans X1;have X3:=Nc.x.trans X2;have X4:=Nj.x.trans X3;have lj:=Nj.lt;have lc:=Nc.lt;have ls:=Ns.lt;have lh:=Nh.lt;have bg:=ay ((Nt.ext X4).x.trans (Ext.push h3 (.cells #[fh bj,fh bc,fh bs,fh bt,fh bo,fh bh] 56))) bg awx;have Xg:=E1.trans ((Nt.ext X4).x.trans (Ext.push h3 (.cells #[fh bj,fh bc,fh bs,fh bt,fh bo,fh bh] 56)));have On:Own (h3.push (.cells #[fh bj,fh bc,fh bs,fh bt,fh bo,fh bh] 56)) 0 56 1 (.slice (some ⟨h3.size,0,none⟩) 6 6) 6 [fh bj,fh bc,fh bs,fh bt,fh bo,fh bh]:=Own.new (vs:=[fh bj,fh bc,fh bs,fh bt,fh bo,fh bh]) rfl (by decide) (awb _);have B:∀p∈[(bj,(nt,[],[])),(bc,(b8 "java0lang0Cloneable",nt,[])),(bs,(yl,nt,[])),(bt,(b8 "java0lang0String",nt,[yl])),(bo,(b8 "jvm0Out",nt,[])),(bh,(b8 "java0lang0Thread",nt,[]))],BO (h3.push (.cells #[fh bj,fh bc,fh bs,fh bt,fh bo,fh bh] 56)) p.1 p.2:=by
  have P:=Ext.push h3 (.cells #[fh bj,fh bc,fh bs,fh bt,fh bo,fh bh] 56);intro p hp;simp only[awL,awP,aw6]at hp;rcases hp with rfl|rfl|rfl|rfl|rfl|rfl
  ·exact(Nj.ext (X3.trans P)).bo
  ·exact(Nc.ext (X2.trans P)).bo
  ·exact(Ns.ext (X1.trans P)).bo
  ·exact(Nt.ext (X4.trans P)).bo
  ·exact(No.ext (X4.trans P)).bo
  ·exact(Nh.ext P).bo
 have cu:cellAt (h3.push (.cells #[fh bj,fh bc,fh bs,fh bt,fh bo,fh bh] 56)) ⟨g,0,none⟩=some nS:=by rw[au bg];rfl
 have zu:frozenAt (h3.push (.cells #[fh bj,fh bc,fh bs,fh bt,fh bo,fh bh] 56)) ⟨g,0,none⟩=false:=by unfold frozenAt;dsimp only;rw[bg];simp
 simp only[ae,seval,Tv];refine aC NZ rfl rfl rfl rfl rfl cu zu ?_;generalize h3.push _=h4,h3.size=q at*;have f5:=Fr.set (S:=fun k=>k=g) h4 ⟨g,0,none⟩ (.slice (some ⟨q,0,none⟩) 6 6) fun _=>rfl;have b5:=bu (o:=0) bg (.slice (some ⟨q,0,none⟩) 6 6);have F:∀{e},55≠e→pS h4 (fun k=>k=g) e:=fun cN=>Bh cN fun k hk=>by cases hk;exact⟨_,_,bg⟩
 have X5:Ext h (setAt h4 ⟨g,0,none⟩ (.slice (some ⟨q,0,none⟩) 6 6)):=Fr.trans Xg f5 (fun _ _ h=>h) fun k hk e=>by omega
 have On:=kC On f5 (F (by decide));have B:=fun p hp=>(B p hp).far f5 ⟨F (by decide),F (by decide),F (by decide),F (by decide)⟩;generalize setAt h4 ⟨g,0,none⟩ _=h5 at*;obtain⟨W,R5,w1,w2⟩:=RW.start (L:=[(bj,(nt,[],[])),(bc,(b8 "java0lang0Cloneable",nt,[])),(bs,(yl,nt,[])),(bt,(b8 "java0lang0String",nt,[yl])),(bo,(b8 "jvm0Out",nt,[])),(bh,(b8 "java0lang0Thread",nt,[]))]) b5 On (by simp;omega) B (show 6≤1000 by decide);have hs:=E1.size;have Uo:∀b∈[(bj,(nt,[],[])),(bc,(b8 "java0lang0Cloneable",nt,[])),(bs,(yl,nt,[])),(bt,(b8 "java0lang0String",nt,[yl])),(bo,(b8 "jvm0Out",nt,[])),(bh,(b8 "java0lang0Thread",nt,[]))].map Prod.fst,h.size≤b:=by
  intro b hb;simp only[awH,awI,awL,awP,aw6]at hb;rcases hb with rfl|rfl|rfl|rfl|rfl|rfl<;>omega
 have w1:W.map LC.sk=RQ.take 6:=w1;generalize [(bj,(nt,[],[])),(bc,(b8 "java0lang0Cloneable",nt,[])),(bs,(yl,nt,[])),(bt,(b8 "java0lang0String",nt,[yl])),(bo,(b8 "jvm0Out",nt,[])),(bh,(b8 "java0lang0Thread",nt,[]))].map Prod.fst=bl at*;have kO:=R5.ln;have hWl:W.length=6:=by have:=axf List.length w1;simpa[RQ,RO]using this
 have Gm:∀k,(Value.slice (some ⟨q,0,none⟩) 6 6).ownBlock=some k→h.size≤k:=fun k hk=>by
  simp[Value.ownBlock]at hk;omega
 simp only[eE,ae,seval];refine aj rfl Z1 ?_;rintro _ h6⟨x6,O6⟩;obtain⟨_,na,nc,rfl,_⟩:=id O6.dQ;have vb:∀r∈RN.map Vt,r.length=2:=fun r hr=>by obtain⟨x,_,rfl⟩:=List.mem_map.1 hr;rfl
 have O6:=O6.mono (awb _);have R6:=R5.ext x6;have X6:=X5.trans x6;simp only[ae,seval];refine aG [1,4,79,80,81] (fun m ρ hc=>∃(k:Nat)(W:List LC)(bs:List Nat)(vL:Value),m=29-k∧k≤29∧ρ=[(1,aE g),(4,ax 33),(79, .slice na 29 nc),(80,ao 29),(81,ao k)]∧
  RW hc g vL bs W S0∧W.map LC.sk=RQ.take (6+k)∧(∀c∈W,c.fds=[])∧Ext h hc∧(∀b∈bs,h.size≤b)∧(∀k,vL.ownBlock=some k→h.size≤k)∧Own hc 0 65 2 (.slice na 29 nc) 29 (RN.map Vt).flatten) ?_ ?_
 case refine_1=>
  simp only[ae,seval];exact⟨_,0,W,bl,_,rfl,awb _,rfl,R6,w1,w2,X6,Uo,Gm,O6⟩
 rintro m ρ hc⟨k,W,bs,vL,rfl,hk,rfl,R,w1,w2,X,Uo,hv,O⟩;by_cases aV:k<29
 case neg=>
  have aK:¬(k:Int)<29:=by omega
  simp only[eE,ae,seval,aK];refine⟨X,g,vL,bs,W,rfl,R,?_,w2,by omega,fun b hb=>by have:=Uo b hb;omega,fun k hk=>by have:=hv k hk;omega⟩;rw[w1,show k=29 by omega];rfl
 have aK:(k:Int)<29:=by omega
 obtain⟨n,s,pf,n1,n2,mq⟩:=aoH aV;obtain⟨bq,cq,heq,di⟩:=qV (O:=O) vb (show k<(RN.map Vt).length by rw[awk,ac3];exact aV);cases heq;rw[pf]at di;have bm:=aS adX di rfl;simp(disch:=omega)only[eE,ae,seval,aK,bm];refine aD aiY ?_;simp only[ae,seval];refine aI aiY rfl rfl rfl (by simp[Value.cells,oneCell,str]) rfl ?_;intro h4 x4 zY _ b4;have e0:cellAt h4 ⟨hc.size,0,none⟩=some (str n):=by rw[au b4];rfl
 have e1:cellAt h4 ⟨hc.size,1,none⟩=some (str s):=by rw[au b4];rfl
 have ary:=x4.size;generalize hp:hc.size=p at*;simp(disch:=omega)only[eE,ae,seval,ak8,e0,e1];refine aj rfl (od n s 33 (by omega) (by omega) (by decide)) ?_;rintro _ h5⟨b,rfl,N⟩;simp only[ae,seval];refine aj rfl (i6 N (by decide) _ _ 0 (by decide)) ?_;rintro _ h5⟨rfl,N,-⟩;have mY:(k:Int)=0↔k=0:=by omega
 by_cases k0:k=0
 case' neg=>
  simp only[eE,ae,seval,av7 (fun x=>k0 (mY.1 x))];rw[av9 k0]at mq;obtain⟨fs,hfs⟩:∃fs:List (az),fs=[]:=⟨_,rfl⟩;rw[←hfs]at mq N
 case' pos=>
  simp only[eE,ae,seval,av8 (mY.2 k0)];refine aU dE rfl rfl (by decide) ?_;rw[awa k0]at mq;obtain⟨N,Of⟩:=key N;obtain⟨⟨u,cu⟩,zu,N,-⟩:=N.set2 Of (by decide) hS.2;rw[show yl=[106,97,118,97,47,105,111,47,83,101,114,105,97,108,105,122,97,98,108,101] by kernel_rfl]at N cu zu mq;simp only[ae,seval,fh];refine aC zE rfl rfl rfl rfl rfl cu zu ?_;generalize setAt _ ⟨b,2,none⟩ _=h5 at*;obtain⟨fs,hfs⟩:∃fs:List (az),fs=[[106,97,118,97,47,105,111,47,83,101,114,105,97,108,105,122,97,98,108,101]]:=⟨_,rfl⟩;rw[←hfs]at mq N
 all_goals
  have R5:=R.ext (x4.trans N.x);have O5:=O.ext (x4.trans N.x);have X5:=X.trans (x4.trans N.x);have lb:=N.lt;have hb9:∀x∈bs,x<hc.size:=fun x hx=>by obtain⟨_,_,hx⟩:=R.cells hx;exact(awd.1 hx).1
  obtain⟨_,va,vc,rfl,_⟩:=id R5.l.dQ;have l0:=R5.l0;simp only[eE,ae,seval,l0];refine aU uY rfl rfl (by decide) ?_;have E6:=Ext.push h5 (.cells #[fh b] 56);have R6:=R5.ext E6;have B6:=(N.ext E6).bo;have O6:=O5.ext E6;have X6:=X5.trans E6;have l0:=R6.l0;have hlen:=R6.ln;have hWl:W.length=6+k:=by have:=axf List.length w1;rw[awk,awz,show RQ.length=35 by kernel_rfl]at this;omega
  simp only[ae,seval,Tv];have On:Own (h5.push (.cells #[fh b] 56)) h.size 56 1 (.slice va bs.length vc) bs.length (bs.map fh):=aeU R6.l hv;refine bF (m:=1) uY rfl rfl On rfl (bV (vs:=[fh b])) (by simp[oneCell,fh]) (by omega) (by omega) X6.size ?_;intro v7 h7 O7 f7 _;obtain⟨c,⟨_,_,_,_,_,_,K⟩,q1,q2,q3⟩:=B6;have fd:∀c'∈W++[c],c'.fds=[]:=fun c' hc'=>by
   rcases awi.1 hc' with h|h
   ·exact w2 c' h
   ·rw[awf.1 h];exact q2
  obtain⟨c7,z7,R8,f8⟩:=R6.snoc K (fun hx=>by have:=hb9 b hx;omega) q3 (by rw[uz fd];decide) (by omega) O7 f7;have v8:∀k,v7.ownBlock=some k→h.size≤k:=fun k hk=>(O7.lt k hk).1;obtain⟨_,ma,mc,rfl,_⟩:=id O7.dQ;simp only[ae,seval];refine aC NZ rfl rfl rfl rfl rfl c7 z7 ?_;have O8:=O6.fr f8 fun k hk hT=>by
   obtain⟨cs,fz,h1⟩:=uh O6 hk;rcases hT with rfl|hT
   ·rw[R6.w]at h1;simp only[awe,awE]at h1;exact aww h1.2.1 (by decide)
   ·exact bK R6.l h1 (by decide) hT
  have X8:Ext h _:=Fr.trans X6 f8 (fun _ _ h=>h) fun k hk hT=>by
   rcases hT with rfl|hT
   ·omega
   ·have:=hv k hT;omega
  generalize setAt h7 ⟨g,0,none⟩ _=h8 at*;have w1':=gU (k:=k) (by omega);rw[ac1]at R8;simp only[eE,ae,seval,w1'];refine⟨_,by omega,k+1,_,_,_,rfl,by omega,rfl,R8,?_,fd,X8,fun x hx=>?_,v8,O8⟩
  ·rw[List.map_append,List.map_singleton,w1,q1,←Nat.add_assoc,mq]
  ·rcases awi.1 hx with h|h
   ·exact Uo x h
   ·rw[awf.1 h];have:=X.size;omega
end Go.Proofs.YtmbboehmnfhjjaaGreatDoor
