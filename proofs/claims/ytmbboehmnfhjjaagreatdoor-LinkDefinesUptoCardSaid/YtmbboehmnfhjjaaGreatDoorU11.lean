/- Plain laws: bits of bytes; units of a text in modified UTF-8, by two readers. Numbers as bytes, plainly. Pools of constants: what writing one gives, in plain Lean. Helpers on heaps. The reader of bytes (pool.Reader): what each of its functions does. Constants and class names of a pool, by index. Instructions: what stands in memory. The forms of instructions, by the program and by the reference. The forms of instructions, by the reference. Names and descriptors, plainly. -/
import Derived.Test.YtmbboehmnfhjjaaGreatDoorU9
import Derived.Test.YtmbboehmnfhjjaaGreatDoorU10
import Derived.Test.YtmbboehmnfhjjaaGreatDoorU3
import Derived.Test.YtmbboehmnfhjjaaGreatDoorU2
set_option maxRecDepth 100000
set_option maxHeartbeats 8000000
set_option linter.unusedSimpArgs false
set_option linter.unusedVariables false
set_option linter.defProp false
namespace Go.Vc
theorem GY(m:Nat)(hm:m<256)(f:Nat→Nat)(hf:∀c:Fin 256,c.val&&&m=f c.val)(c:UInt8):cB .and .u8 (c.toNat:Int) (m:Int)=((f c.toNat:Nat):Int):=by
 have hc:c.toNat<256:=UInt8.toNat_lt c;rw[Uw rfl c.toNat m (by simpa[IntKind.bits]using hc) (by simpa[IntKind.bits]using hm)];rw[hf ⟨c.toNat,hc⟩]
theorem agz(c:UInt8):cB .and .u8 (c.toNat:Int) 192=((c.toNat/64*64:Nat):Int):=GY 192 (by decide) (fun c=>c/64*64) (by decide+kernel) c
theorem ME(c:UInt8):cB .and .u8 (c.toNat:Int) 224=((c.toNat/32*32:Nat):Int):=GY 224 (by decide) (fun c=>c/32*32) (by decide+kernel) c
theorem Rp(c:UInt8):cB .and .u8 (c.toNat:Int) 240=((c.toNat/16*16:Nat):Int):=GY 240 (by decide) (fun c=>c/16*16) (by decide+kernel) c
theorem aj4(c:UInt8):cB .and .u8 (c.toNat:Int) 63=((c.toNat%64:Nat):Int):=GY 63 (by decide) (fun c=>c%64) (by decide+kernel) c
theorem QB(c:UInt8):cB .and .u8 (c.toNat:Int) 31=((c.toNat%32:Nat):Int):=GY 31 (by decide) (fun c=>c%32) (by decide+kernel) c
theorem MF(c:UInt8):cB .and .u8 (c.toNat:Int) 15=((c.toNat%16:Nat):Int):=GY 15 (by decide) (fun c=>c%16) (by decide+kernel) c
theorem QC(k a x:Nat)(hx:x<2^k):a*2^k|||x=a*2^k+x:=by
 rw[←Nat.shiftLeft_eq];exact(Nat.shiftLeft_add_eq_or_of_lt hx a).symm
theorem Yp{a x:Nat}(hx:x<64)(ha:a<1024):cB .or .u16 ((a:Int)*64) (x:Int)=((a*64+x:Nat):Int):=by
 have h1:((a:Int)*64)=((a*64:Nat):Int):=by omega
 rw[h1,Lt rfl (a*64) x (by simp[IntKind.bits];omega) (by simp[IntKind.bits];omega)];have:=QC 6 a x (by omega);rw[show(2:Nat)^6=64 from rfl]at this;rw[this]
theorem agA{a x:Nat}(hx:x<64)(ha:a<16):cB .or .u16 ((a:Int)*4096) ((x:Int)*64)=((a*64+x:Nat):Int)*64:=by
 have h1:((a:Int)*4096)=((a*4096:Nat):Int):=by omega
 have h2:((x:Int)*64)=((x*64:Nat):Int):=by omega
 rw[h1,h2,Lt rfl (a*4096) (x*64) (by simp[IntKind.bits];omega) (by simp[IntKind.bits];omega)];have:=QC 12 a (x*64) (by omega);rw[show(2:Nat)^12=4096 from rfl]at this;rw[this];omega
def enc(u:Nat):az:=
 if 0<u∧u<128 then [UInt8.ofNat u]
 else if u<2048 then [UInt8.ofNat (192+u/64),UInt8.ofNat (128+u%64)]
 else [UInt8.ofNat (224+u/4096),UInt8.ofNat (128+u/64%64),UInt8.ofNat (128+u%64)]
def je(l:az)(i:Nat):Option Nat:=if i<l.length∧(l.getD i 0).toNat/64=2 then some ((l.getD i 0).toNat%64)else none
def kp(l:az)(i:Nat):Option (Nat × Nat):=
 let c:=(l.getD i 0).toNat
 if 0<c∧c<128 then some (c,1)
 else if c/32=6 then
  match je l (i+1)with
  |some x=>if c%32*64+x<128∧c%32*64+x≠0 then none else some (c%32*64+x,2)
  |none=>none
 else if c/16=14 then
  match je l (i+1),je l (i+2)with
  |some x,some y=>if c%16*4096+x*64+y<2048 then none else some (c%16*4096+x*64+y,3)
  |_,_=>none
 else none
def gJ(l:az):Nat→Nat→Option (List Nat)
 |0,_=>some []
 |f+1,i=>if i<l.length then
  match kp l i with
  |some (u,n)=>(gJ l f (i+n)).map fun r=>u::r
  |none=>none
  else some []
def jK(l:az):Option (List Nat):=gJ l l.length 0
theorem UJ{l:az}{i u n:Nat}(h:kp l i=some (u,n)):1≤n∧n≤3∧u<65536:=by
 unfold kp at h;simp only[]at h;have hc:=UInt8.toNat_lt (l.getD i 0)
 split at h
 ·cases h;omega
 ·split at h
  ·split at h
   ·rename_i x hx
    have:x<64:=by unfold je at hx;split at hx<;>first|(cases hx;omega)|cases hx
    split at h
    ·cases h
    ·cases h;omega
   ·cases h
  ·split at h
   ·split at h
    ·rename_i x y hx hy
     have:x<64:=by unfold je at hx;split at hx<;>first|(cases hx;omega)|cases hx
     have:y<64:=by unfold je at hy;split at hy<;>first|(cases hy;omega)|cases hy
     split at h
     ·cases h
     ·cases h;omega
    ·cases h
   ·cases h
theorem TM(l:az):∀(f g i:Nat),l.length≤f+i→l.length≤g+i→gJ l f i=gJ l g i:=by
 intro f
 induction f with
 |zero=>
  intro g i hf hg;cases g with
  |zero=>rfl
  |succ g=>simp only[gJ];rw[av9 (by omega)]
 |succ f ih=>
  intro g i hf hg;cases g with
  |zero=>simp only[gJ];rw[av9 (by omega)]
  |succ g=>
   simp only[gJ]
   split
   ·split
    ·rename_i u n hd
     have:=(UJ hd).1;rw[ih g (i+n) (by omega) (by omega)]
    ·rfl
   ·rfl
theorem zG{l:az}{i x:Nat}(h:je l i=some x):x<64∧i<l.length:=by
 unfold je at h;split at h
 ·rename_i hc;cases h;exact⟨by omega,hc.1⟩
 ·cases h
theorem agB{l:az}{i u n:Nat}(hi:i<l.length)(h:kp l i=some (u,n)):i+n≤l.length:=by
 unfold kp at h;simp only[]at h
 split at h
 ·cases h;omega
 ·split at h
  ·split at h
   ·rename_i x hx
    have:=zG hx
    split at h
    ·cases h
    ·cases h;omega
   ·cases h
  ·split at h
   ·split at h
    ·rename_i x y hx hy
     have:=zG hy
     split at h
     ·cases h
     ·cases h;omega
    ·cases h
   ·cases h
theorem TN{l:az}{i u n:Nat}(hi:i<l.length)(h:kp l i=some (u,n)):gJ l (l.length-i) i=(gJ l (l.length-(i+n)) (i+n)).map fun r=>u::r:=by
 rw[show l.length-i=(l.length-i-1)+1 by omega,gJ,awa hi,h];have:=UJ h;have:=agB hi h;simp only[];rw[TM l (l.length-i-1) (l.length-(i+n)) (i+n) (by omega) (by omega)]
theorem TP{l:az}{i:Nat}(hi:i<l.length)(h:kp l i=none):gJ l (l.length-i) i=none:=by
 rw[show l.length-i=(l.length-i-1)+1 by omega,gJ,awa hi,h]
theorem V7{l:az}{i:Nat}(hi:¬i<l.length):gJ l (l.length-i) i=some []:=by
 rw[show l.length-i=0 by omega,gJ]
theorem lB{l:az}{i u n:Nat}{us:List Nat}(hS:jK l=(gJ l (l.length-i) i).map fun r=>us++r)(hi:i<l.length)(h:kp l i=some (u,n)):
 jK l=(gJ l (l.length-(i+n)) (i+n)).map fun r=>(us++[u])++r:=by
 rw[hS,TN hi h,Option.map_map]
 congr 1;funext r;simp
theorem il{l:az}{i:Nat}{us:List Nat}(hS:jK l=(gJ l (l.length-i) i).map fun r=>us++r)(hi:i<l.length)(h:kp l i=none):jK l=none:=by
 rw[hS,TP hi h];rfl
theorem Pq{l:az}{i:Nat}{us:List Nat}(hS:jK l=(gJ l (l.length-i) i).map fun r=>us++r)(hi:¬i<l.length):jK l=some us:=by
 rw[hS,V7 hi];simp
theorem aj5{l:az}{i:Nat}(h:0<(l.getD i 0).toNat∧(l.getD i 0).toNat<128):kp l i=some ((l.getD i 0).toNat,1):=by
 unfold kp;simp only[];rw[awa h]
theorem aj6{l:az}{i x:Nat}(h:(l.getD i 0).toNat/32=6)(hx:je l (i+1)=some x)(hu:¬((l.getD i 0).toNat%32*64+x<128∧(l.getD i 0).toNat%32*64+x≠0)):kp l i=some ((l.getD i 0).toNat%32*64+x,2):=by
 unfold kp;simp only[];rw[av9 (by omega),awa h,hx];simp only[];rw[av9 hu]
theorem agC{l:az}{i:Nat}(h:(l.getD i 0).toNat/32=6)(hx:je l (i+1)=none):kp l i=none:=by
 unfold kp;simp only[];rw[av9 (by omega),awa h,hx]
theorem agD{l:az}{i x:Nat}(h:(l.getD i 0).toNat/32=6)(hx:je l (i+1)=some x)(hu:(l.getD i 0).toNat%32*64+x<128∧(l.getD i 0).toNat%32*64+x≠0):kp l i=none:=by
 unfold kp;simp only[];rw[av9 (by omega),awa h,hx];simp only[];rw[awa hu]
theorem aj7{l:az}{i x y:Nat}(h:(l.getD i 0).toNat/16=14)(hx:je l (i+1)=some x)(hy:je l (i+2)=some y)(hu:¬(l.getD i 0).toNat%16*4096+x*64+y<2048):kp l i=some ((l.getD i 0).toNat%16*4096+x*64+y,3):=by
 unfold kp;simp only[];rw[av9 (by omega),av9 (by omega),awa h,hx,hy];simp only[];rw[av9 hu]
theorem agE{l:az}{i x y:Nat}(h:(l.getD i 0).toNat/16=14)(hx:je l (i+1)=some x)(hy:je l (i+2)=some y)(hu:(l.getD i 0).toNat%16*4096+x*64+y<2048):kp l i=none:=by
 unfold kp;simp only[];rw[av9 (by omega),av9 (by omega),awa h,hx,hy];simp only[];rw[awa hu]
theorem Yq{l:az}{i:Nat}(h:(l.getD i 0).toNat/16=14)(hx:je l (i+1)=none):kp l i=none:=by
 unfold kp;simp only[];rw[av9 (by omega),av9 (by omega),awa h,hx]
theorem agF{l:az}{i:Nat}(h:(l.getD i 0).toNat/16=14)(hy:je l (i+2)=none):kp l i=none:=by
 unfold kp;simp only[];rw[av9 (by omega),av9 (by omega),awa h,hy];cases je l (i+1)<;>rfl
theorem acx{l:az}{i:Nat}(h1:¬(0<(l.getD i 0).toNat∧(l.getD i 0).toNat<128))(h2:¬(l.getD i 0).toNat/32=6)(h3:¬(l.getD i 0).toNat/16=14):kp l i=none:=by
 unfold kp;simp only[];rw[av9 h1,av9 h2,av9 h3]
theorem getD_drop{l:az}{i k:Nat}:(l.drop i).getD k 0=l.getD (i+k) 0:=by
 simp[awu]
def Ju(l:az)(i:Nat):Nat × Nat:=
 let c:=(l.getD i 0).toNat
 if 224≤c∧3≤l.length-i then(c%16*4096+(l.getD (i+1) 0).toNat%64*64+(l.getD (i+2) 0).toNat%64,3)
 else if 192≤c∧2≤l.length-i then(c%32*64+(l.getD (i+1) 0).toNat%64,2)
 else(c,1)
theorem Yr{l:az}{i:Nat}(h:i<l.length):(l.drop i).take 1=[l.getD i 0]:=by
 rw[awO h];show [l[i]]=_;simp[h]
theorem Ys{l:az}{i:Nat}(h:i+1<l.length):(l.drop i).take 2=[l.getD i 0,l.getD (i+1) 0]:=by
 rw[awO (show i<l.length by omega),awO h];show [l[i],l[i+1]]=_;simp[h,show i<l.length by omega]
theorem Yt{l:az}{i:Nat}(h:i+2<l.length):(l.drop i).take 3=[l.getD i 0,l.getD (i+1) 0,l.getD (i+2) 0]:=by
 rw[awO (show i<l.length by omega),awO (show i+1<l.length by omega),awO h];show [l[i],l[i+1],l[i+2]]=_;simp[h,show i<l.length by omega,show i+1<l.length by omega]
theorem jg{n:Nat}{c:UInt8}(h:n<256):UInt8.ofNat n=c↔n=c.toNat:=by
 constructor
 ·intro e;rw[←e];simp[UInt8.toNat_ofNat',Nat.mod_eq_of_lt h]
 ·intro e;subst e;simp
theorem uo{l:az}{i:Nat}(hi:i<l.length):kp l i=if enc (Ju l i).1=(l.drop i).take (Ju l i).2 then some (Ju l i)else none:=by
 have hc:=UInt8.toNat_lt (l.getD i 0);have hb:=UInt8.toNat_lt (l.getD (i+1) 0);have hd:=UInt8.toNat_lt (l.getD (i+2) 0);simp only[Nat.reducePow]at hc hb hd;unfold Ju;simp only[];by_cases a3:224≤(l.getD i 0).toNat∧3≤l.length-i
 ·rw[awa a3]
  simp only[];rw[Yt (by omega)];have hu:(l.getD i 0).toNat%16*4096+(l.getD (i+1) 0).toNat%64*64+(l.getD (i+2) 0).toNat%64<65536:=by omega
  unfold enc kp;simp only[je];by_cases b1:(l.getD i 0).toNat/16=14
  ·rw[av9 (show¬(0<(l.getD i 0).toNat∧(l.getD i 0).toNat<128) by omega),av9 (show¬(l.getD i 0).toNat/32=6 by omega),awa b1]
   by_cases b2:(l.getD (i+1) 0).toNat/64=2
   ·by_cases b3:(l.getD (i+2) 0).toNat/64=2
    ·rw[awa ⟨by omega,b2⟩,awa ⟨by omega,b3⟩]
     simp only[];by_cases b4:(l.getD i 0).toNat%16*4096+(l.getD (i+1) 0).toNat%64*64+(l.getD (i+2) 0).toNat%64<2048
     ·rw[awa b4]
      symm
      rw[av9]
      split
      ·simp
      ·simp
     ·rw[av9 b4]
      symm
      rw[awa];rw[av9 (by omega),av9 b4];simp only[aw9,aw4];refine⟨(jg (by omega)).2 (by omega),(jg (by omega)).2 (by omega),(jg (by omega)).2 (by omega)⟩
    ·rw[awa ⟨by omega,b2⟩,av9 (fun h=>b3 h.2)]
     simp only[]
     symm
     rw[av9]
     split
     ·simp
     ·split
      ·simp
      ·simp only[aw9,aw4]
       rw[jg (by omega),jg (by omega),jg (by omega)];omega
   ·rw[av9 (fun h=>b2 h.2)]
    simp only[]
    symm
    rw[av9]
    split
    ·simp
    ·split
     ·simp
     ·simp only[aw9,aw4]
      rw[jg (by omega),jg (by omega),jg (by omega)];omega
  ·rw[av9 (show¬(0<(l.getD i 0).toNat∧(l.getD i 0).toNat<128) by omega),av9 (show¬(l.getD i 0).toNat/32=6 by omega),av9 b1]
   symm
   rw[av9]
   split
   ·simp
   ·split
    ·simp
    ·simp only[aw9,aw4]
     rw[jg (by omega),jg (by omega),jg (by omega)];omega
 ·rw[av9 a3]
  by_cases a2:192≤(l.getD i 0).toNat∧2≤l.length-i
  ·rw[awa a2]
   simp only[];rw[Ys (by omega)];unfold enc kp;simp only[je];by_cases b1:(l.getD i 0).toNat/32=6
   ·rw[av9 (show¬(0<(l.getD i 0).toNat∧(l.getD i 0).toNat<128) by omega),awa b1]
    by_cases b2:(l.getD (i+1) 0).toNat/64=2
    ·rw[awa ⟨by omega,b2⟩]
     simp only[];by_cases b4:(l.getD i 0).toNat%32*64+(l.getD (i+1) 0).toNat%64<128∧(l.getD i 0).toNat%32*64+(l.getD (i+1) 0).toNat%64≠0
     ·rw[awa b4]
      symm
      rw[av9];rw[awa (by omega)];simp
     ·rw[av9 b4]
      symm
      rw[awa];rw[av9 (by omega),awa (by omega)];simp only[aw9,aw4];refine⟨(jg (by omega)).2 (by omega),(jg (by omega)).2 (by omega)⟩
    ·rw[av9 (fun h=>b2 h.2)]
     simp only[]
     symm
     rw[av9]
     split
     ·simp
     ·rw[awa (by omega)]
      simp only[aw9,aw4];rw[jg (by omega),jg (by omega)];omega
   ·rw[av9 (show¬(0<(l.getD i 0).toNat∧(l.getD i 0).toNat<128) by omega),av9 b1]
    have:(if(l.getD i 0).toNat/16=14 then
     match if i+1<l.length∧(l.getD (i+1) 0).toNat/64=2 then some ((l.getD (i+1) 0).toNat%64)else none,if i+2<l.length∧(l.getD (i+2) 0).toNat/64=2 then some ((l.getD (i+2) 0).toNat%64)else none with
     |some x,some y=>if(l.getD i 0).toNat%16*4096+x*64+y<2048 then none else some ((l.getD i 0).toNat%16*4096+x*64+y,3)
     |_,_=>none
     else none:Option (Nat × Nat))=none:=by
     split
     ·rw[av9 (show¬(i+2<l.length∧(l.getD (i+2) 0).toNat/64=2) by omega)]
      split<;>simp_all
     ·rfl
    rw[this]
    symm
    rw[av9]
    split
    ·simp
    ·rw[awa (by omega)]
     simp only[aw9,aw4];rw[jg (by omega),jg (by omega)];omega
  ·rw[av9 a2]
   simp only[];rw[Yr hi];unfold enc kp;simp only[je];by_cases b1:0<(l.getD i 0).toNat∧(l.getD i 0).toNat<128
   ·rw[awa b1,awa b1,awa]
    simp
   ·rw[av9 b1,av9 b1]
    have e1:¬(i+1<l.length∧(l.getD (i+1) 0).toNat/64=2)∨(l.getD i 0).toNat/32≠6:=by omega
    symm
    rw[av9 (by split<;>simp)]
    symm
    split
    ·rename_i h6
     rcases e1 with e1|e1
     ·rw[av9 e1]
     ·exact aww h6 e1
    ·split
     ·rename_i h14
      by_cases h1:i+1<l.length
      ·rw[av9 (show¬(i+2<l.length∧(l.getD (i+2) 0).toNat/64=2) by omega)]
       split<;>simp_all
      ·rw[av9 (show¬(i+1<l.length∧(l.getD (i+1) 0).toNat/64=2) by omega)]
     ·rfl
end Go.Vc
namespace Go.Proofs.YtmbboehmnfhjjaaGreatDoor
open Go.Vc
theorem aN{h:ar}{b:Nat}{vs:List Value}{e:TypeId}{fz:Nat × Nat}(hb:h[b]? =some (.cells vs.toArray e fz)):Rd h b 0 vs:=by
 intro j v hv;rw[aw2,au hb];simpa using hv
structure aX where
 tag:Nat
 text:az
 bits:Nat
 a:Nat
 b:Nat
structure aX.Fit(c:aX):Prop where
 tag:c.tag<256
 bits:c.bits<18446744073709551616
 a:c.a<65536
 b:c.b<65536
def aX.zero:aX:=⟨0,[],0,0,0⟩
def aX.cells(c:aX):List Value:=[bH c.tag,str c.text, .int .u64 (c.bits:Int),ax c.a,ax c.b]
def du(l:List aX):List Value:=l.flatMap aX.cells
theorem iu{l:List aX}{i:Nat}(hi:i<l.length):((du l).drop (i*5)).take 5=(l.getD i aX.zero).cells:=by
 induction l generalizing i with
 |nil=>simp at hi
 |cons c l ih=>
  cases i with
  |zero=>simp[du,aX.cells]
  |succ i=>
   have h:(du (c::l)).drop ((i+1)*5)=(du l).drop (i*5):=by
    rw[show(i+1)*5=5+i*5 by omega,←awN];rfl
   rw[h,ih (by simpa using hi)];simp
theorem Jv(a b:List aX):du (a++b)=du a++du b:=by simp[du]
def kE(t:Nat):Bool:=decide (t=5)||decide (t=6)
theorem bK{h:ar}{base:Nat}{e e':TypeId}{size n b:Nat}{v:Value}{xs:List Value}{cs:Array Value}{fz:Nat × Nat}(H:Own h base e size v n xs)(hb:h[b]? =some (.cells cs e' fz))(cN:e≠e'):¬v.ownBlock=some b:=by
 intro hk;rcases H.2 with⟨rfl,_⟩|⟨g,cap,cur,Yu,rfl,_,hg,_⟩
 ·simp[Value.ownBlock]at hk
 ·simp[Value.ownBlock]at hk
  subst hk;rw[hg]at hb;cases hb;exact cN rfl
theorem ay{S:Nat→Prop}{h h':ar}(H:Fr S h h'){b:Nat}{o:Obj}(hb:h[b]? =some o)(hS:¬S b):h'[b]? =some o:=by
 rw[H.same b (awd.1 hb).1 hS,hb]
theorem dR{h:ar}{base:Nat}{e:TypeId}{size n n':Nat}{v:Value}{xs xs':List Value}(H:Own h base e size v n xs)(hn:n=n')(hx:xs=xs'):Own h base e size v n' xs':=hn▸hx▸H
theorem dw{h:ar}{b:Nat}{o o':Obj}(hb:h[b]? =some o):(h.push o')[b]? =some o:=ay (Ext.push h o') hb id
section
structure RS where
 p:Nat
 e:Nat
 es:Nat
def cg(e q:Nat)(s:RS):RS:=if s.e=0 then⟨s.p,e,q⟩else s
def cV(l:az)(n:Nat)(s:RS):az × RS:=
 if s.e≠0 then([],s)else if l.length<s.p+n then([],⟨s.p,1,l.length⟩)else((l.drop s.p).take n,⟨s.p+n,0,s.es⟩)
def eh(l:az):Nat:=l.foldl (fun x b=>x*256+b.toNat) 0
def aA(l:az)(n:Nat)(s:RS):Nat × RS:=(eh (cV l n s).1,(cV l n s).2)
def eF(h:ar)(g:Nat)(l:az)(s:RS):Prop:=
 h[g]? =some (.cells #[str l,ao s.p,ao s.e,ao s.es] 244 (0,0))∧s.p≤l.length
theorem ow(a:az)(b:UInt8):eh (a++[b])=eh a*256+b.toNat:=by simp[eh]
theorem oX(l:az):eh l<256^l.length:=by
 suffices H:∀(k:Nat)(l:az),l.length=k→eh l<256^l.length from H _ l rfl
 intro k
 induction k with
 |zero=>intro l hl;have:=List.length_eq_zero_iff.1 hl;subst this;decide
 |succ k ih=>
  intro l hl;obtain⟨a,b,rfl⟩:∃a b,l=a++[b]:=by
   rcases List.eq_nil_or_concat l with h|⟨a,b,h⟩
   ·subst h;simp at hl
   ·exact⟨a,b,by simpa using h⟩
  have h1:a.length=k:=by simpa using hl
  have h2:=ih a h1;have h3:=UInt8.toNat_lt b;simp only[Nat.reducePow]at h3;rw[ow,awn,awt,Nat.pow_succ];omega
theorem uZ{l:az}{n:Nat}{s:RS}:(cV l n s).1.length≤n:=by
 unfold cV;split
 ·simp
 ·split
  ·simp
  ·simp;omega
theorem dJ{l:az}{n:Nat}{s:RS}:(aA l n s).1<256^n:=awF (oX _) (Nat.pow_le_pow_right (by decide) uZ)
section
variable{h:ar}{g:Nat}{l:az}{s:RS}
theorem eF.lt(H:eF h g l s):g<h.size:=(awd.1 H.1).1
theorem eF.c0(H:eF h g l s):cellAt h ⟨g,0,none⟩=some (str l):=by rw[au H.1];rfl
theorem eF.c1(H:eF h g l s):cellAt h ⟨g,1,none⟩=some (ao s.p):=by rw[au H.1];rfl
theorem eF.c2(H:eF h g l s):cellAt h ⟨g,2,none⟩=some (ao s.e):=by rw[au H.1];rfl
theorem eF.c3(H:eF h g l s):cellAt h ⟨g,3,none⟩=some (ao s.es):=by rw[au H.1];rfl
theorem eF.fr{S:Nat→Prop}{h':ar}(H:eF h g l s)(hf:Fr S h h')(hS:¬S g):eF h' g l s:=⟨by rw[hf.same g H.lt hS,H.1],H.2⟩
end
end
section
def eV(p:List aX)(k tag:Nat):Bool:=decide (k<p.length)&&(decide (0<k)&&decide ((p.getD k aX.zero).tag=tag))
section
variable{h:ar}{p:List aX}{vp:Value}
theorem lC(k tag:Nat)(hk:k<65536)(hs:fR h 5 vp p.length (du p)):
 aF Tryz.prog 89 #[vp,ax k,bH tag] h fun v h'=>h'=h∧v= .bool (eV p k tag):=by
 refine Ly (args:=[vp,ax k,bH tag]) rfl ?_;have hs':=hs;obtain⟨_,a,c,rfl,_⟩:=hs';have hw:IntKind.i64.wrap (k:Int)=(k:Int):=wrap_i64 (by omega) (by omega);unfold eV;by_cases h1:k<p.length
 ·have xT:(k:Int)<p.length:=by omega
  by_cases h2:0<k
  ·have vV:(0:Int)<k:=by omega
   obtain⟨b,o,c',heq,di,_⟩:=hs.at h1;cases heq;rw[iu h1]at di;generalize p.getD k aX.zero=x at*;have c0:cellAt h ⟨b,o+k*5,none⟩=some (bH x.tag):=di 0 _ rfl;have e:decide ((x.tag:Int)=(tag:Int))=decide (x.tag=tag):=decide_eq_decide.2 (by omega);simp(disch:=omega)only[sX,ae,seval,hw,xT,vV,c0,e];simp[h1,h2]
  ·have vV:¬(0:Int)<k:=by omega
   simp only[sX,ae,seval,hw,xT,vV];simp[h1,h2]
 ·have xT:¬(k:Int)<p.length:=by omega
  simp only[sX,ae,seval,hw,xT];simp[h1]
theorem FP(k:Nat)(hk:k<65536)(hs:fR h 5 vp p.length (du p)):
 aF Tryz.prog 37 #[vp,ax k] h fun v h'=>h'=h∧v=str (if eV p k 1=true then(p.getD k aX.zero).text else []):=by
 refine Ct (args:=[vp,ax k]) rfl ?_;simp only[oH,ae,seval];refine aj rfl (lC k 1 hk hs) ?_;rintro v1 h1⟨rfl,rfl⟩;by_cases hi:eV p k 1=true
 ·have h1:k<p.length:=by
   unfold eV at hi;simp at hi;exact hi.1
  have xT:(k:Int)<p.length:=by omega
  obtain⟨b,o,c',rfl,di,_⟩:=hs.at h1;rw[iu h1]at di;rw[awa hi,hi];generalize p.getD k aX.zero=x at*;have c1:cellAt _ ⟨b,o+k*5+1,none⟩=some (str x.text):=di 1 _ rfl;simp(disch:=omega)only[oH,ae,seval,c1]
 ·have xy:eV p k 1=false:=by simpa using hi
  rw[av9 hi,xy];simp only[oH,ae,seval]
theorem zH(k tag:Nat)(hs:fR h 5 vp p.length (du p)):
 aF Tryz.prog 175 #[vp,ao k,bH tag] h fun v h'=>h'=h∧v= .bool (eV p k tag):=by
 refine wj (args:=[vp,ao k,bH tag]) rfl ?_;have hs':=hs;obtain⟨_,a,c,rfl,_⟩:=hs';unfold eV;by_cases h2:0<k
 ·have vV:(0:Int)<k:=by omega
  by_cases h1:k<p.length
  ·have xT:(k:Int)<p.length:=by omega
   obtain⟨b,o,c',heq,di,_⟩:=hs.at h1;cases heq;rw[iu h1]at di;generalize p.getD k aX.zero=x at*;have c0:cellAt h ⟨b,o+k*5,none⟩=some (bH x.tag):=di 0 _ rfl;have e:decide ((x.tag:Int)=(tag:Int))=decide (x.tag=tag):=decide_eq_decide.2 (by omega);simp(disch:=omega)only[po,ae,seval,xT,vV,c0,e];simp[h1,h2]
  ·have xT:¬(k:Int)<p.length:=by omega
   simp only[po,ae,seval,xT,vV];simp[h1]
 ·have vV:¬(0:Int)<k:=by omega
  simp only[po,ae,seval,vV];simp[h2]
theorem AL(k:Nat)(hs:fR h 5 vp p.length (du p)):
 aF Tryz.prog 104 #[vp,ao k] h fun v h'=>h'=h∧v= .tuple #[str (if eV p k 1=true then(p.getD k aX.zero).text else []), .bool (eV p k 1)]:=by
 refine Cu (args:=[vp,ao k]) rfl ?_;simp only[oI,ae,seval];refine aj rfl (zH k 1 hs) ?_;rintro v1 h1⟨rfl,rfl⟩;by_cases hi:eV p k 1=true
 ·have h1:k<p.length:=by
   unfold eV at hi;simp at hi;exact hi.1
  have xT:(k:Int)<p.length:=by omega
  obtain⟨b,o,c',rfl,di,_⟩:=hs.at h1;rw[iu h1]at di;rw[awa hi,hi];generalize p.getD k aX.zero=x at*;have c1:cellAt _ ⟨b,o+k*5+1,none⟩=some (str x.text):=di 1 _ rfl;simp(disch:=omega)only[oI,ae,seval,c1]
 ·have xy:eV p k 1=false:=by simpa using hi
  rw[av9 hi,xy];simp only[oI,ae,seval]
def bZ(p:List aX)(k:Nat):az × Bool:=
 if eV p k 7=true then(if eV p (p.getD k aX.zero).a 1=true then(p.getD (p.getD k aX.zero).a aX.zero).text else [],eV p (p.getD k aX.zero).a 1)else([],false)
theorem AN(k:Nat)(hf:∀c∈p,c.Fit)(hs:fR h 5 vp p.length (du p)):
 aF Tryz.prog 103 #[vp,ao k] h fun v h'=>h'=h∧v= .tuple #[str (bZ p k).1, .bool (bZ p k).2]:=by
 refine qA (args:=[vp,ao k]) rfl ?_;simp only[jy,ae,seval];refine aj rfl (zH k 7 hs) ?_;rintro v1 h1⟨rfl,rfl⟩;unfold bZ;by_cases hi:eV p k 7=true
 ·have h1:k<p.length:=by
   unfold eV at hi;simp at hi;exact hi.1
  have xT:(k:Int)<p.length:=by omega
  have hs':=hs;obtain⟨b,o,c',rfl,di,_⟩:=hs'.at h1;rw[iu h1]at di;have Yv:(p.getD k aX.zero).a<65536:=(hf _ (by simp[h1])).a;rw[awa hi,hi];generalize p.getD k aX.zero=x at*;have c3:cellAt _ ⟨b,o+k*5+3,none⟩=some (ax x.a):=di 3 _ rfl;have hw:IntKind.i64.wrap (x.a:Int)=(x.a:Int):=wrap_i64 (by omega) (by omega);simp(disch:=omega)only[jy,ae,seval,c3,hw];refine aj rfl (AL x.a hs) ?_;rintro v2 h2⟨rfl,rfl⟩;simp only[ae,seval]
 ·have xy:eV p k 7=false:=by simpa using hi
  rw[av9 hi,xy];simp only[jy,ae,seval]
end
end
structure VT where
 tag:Nat
 name:az
 at':Int
 deriving DecidableEq
structure VT.Fit(v:VT):Prop where
 tag:v.tag<256
 lo: -9223372036854775808≤v.at'
 hi:v.at'<9223372036854775808
def VT.zero:VT:=⟨0,[],0⟩
def VT.cells(v:VT):List Value:=[bH v.tag,str v.name,ao v.at']
def V8(l:List VT):List Value:=l.flatMap VT.cells
structure Yw where
 at':Int
 L:List VT
 S:List VT
def FrC(h:ar)(f:Yw)(r:List Value):Prop:=∃vL vS,r=[ao f.at',vL,vS]∧fR h 3 vL f.L.length (V8 f.L)∧gH vL∧fR h 3 vS f.S.length (V8 f.S)∧gH vS
def Yx(h:ar)(v:Value)(fs:List Yw):Prop:=∃rows:List (List Value),rows.length=fs.length∧fR h 3 v fs.length rows.flatten∧∀i,i<fs.length→FrC h (fs.getD i ⟨0,[],[]⟩) (rows.getD i [])
structure Yw.Fit(f:Yw):Prop where
 lo: -9223372036854775808≤f.at'
 hi:f.at'<9223372036854775808
 L:∀v∈f.L,v.Fit
 S:∀v∈f.S,v.Fit
theorem FrC.ext{h h':ar}{f:Yw}{r:List Value}(H:FrC h f r)(hx:Ext h h'):FrC h' f r:=by
 obtain⟨vL,vS,h1,h2,h3,h4,h5⟩:=H;exact⟨vL,vS,h1,h2.ext (by decide) hx,h3,h4.ext (by decide) hx,h5⟩
theorem FrC.len{h:ar}{f:Yw}{r:List Value}(H:FrC h f r):r.length=3:=by
 obtain⟨vL,vS,h1,_⟩:=H;rw[h1];rfl
theorem Yx.ext{h h':ar}{v:Value}{fs:List Yw}(H:Yx h v fs)(hx:Ext h h'):Yx h' v fs:=by
 obtain⟨rows,h1,h2,h3⟩:=H;exact⟨rows,h1,h2.ext (by decide) hx,fun i hi=>(h3 i hi).ext hx⟩
theorem Yy:∀(rows:List (List Value))(i:Nat),(∀r∈rows,r.length=3)→i<rows.length→(rows.flatten.drop (i*3)).take 3=rows.getD i []:=by
 intro rows
 induction rows with
 |nil=>intro i _ hi;simp at hi
 |cons r rows ih=>
  intro i hr hi;have vb:r.length=3:=hr r (by simp);cases i with
  |zero=>
   rw[Nat.zero_mul,axd,List.flatten_cons,List.take_left' vb];simp
  |succ i=>
   rw[show(i+1)*3=3+i*3 by omega,←awN,List.flatten_cons,List.drop_left' vb,ih i (fun r h=>hr r (by simp[h])) (by simpa using hi)];simp
theorem Yx.at{h:ar}{v:Value}{fs:List Yw}(H:Yx h v fs){i:Nat}(hi:i<fs.length):∃b o c vL vS,v= .slice (some ⟨b,o,none⟩) fs.length c∧Rd h b (o+i*3) [ao (fs.getD i ⟨0,[],[]⟩).at',vL,vS]∧
 fR h 3 vL (fs.getD i ⟨0,[],[]⟩).L.length (V8 (fs.getD i ⟨0,[],[]⟩).L)∧gH vL∧fR h 3 vS (fs.getD i ⟨0,[],[]⟩).S.length (V8 (fs.getD i ⟨0,[],[]⟩).S)∧gH vS:=by
 obtain⟨rows,h1,h2,h3⟩:=H;obtain⟨b,o,c,he,hr,_⟩:=h2.at hi;have hlen:∀r∈rows,r.length=3:=by
  intro r hr;obtain⟨j,hj,rfl⟩:=List.getElem_of_mem hr;have:=(h3 j (by omega)).len;simpa[hj]using this
 rw[Yy rows i hlen (by omega)]at hr;obtain⟨vL,vS,g1,g2,g3,g4,g5⟩:=h3 i hi;rw[g1]at hr;exact⟨b,o,c,vL,vS,he,hr,g2,g3,g4,g5⟩
theorem MG{e q:Nat}{s:RS}(h:s.e≠0):cg e q s=s:=by unfold cg;rw[av9 h]
structure In where
 at':Int
 op:Nat
 wide:Bool
 A:Int
 B:Int
 low:Int
 keys:List Int
 bX:List Int
structure In.Fit(x:In):Prop where
 op:x.op<256
 at1: -9223372036854775808≤x.at'
 at2:x.at'<9223372036854775808
def eI(l:List Int):List Value:=l.map fun n=>ao n
def fu(x:In)(vk vt:Value):List Value:=[ao x.at',bH x.op, .bool x.wide,ao x.A,ao x.B,ao x.low,vk,vt]
def Yz(h:ar)(x:In)(r:List Value):Prop:=∃vk vt,r=fu x vk vt∧fR h 1 vk x.keys.length (eI x.keys)∧gH vk∧fR h 1 vt x.bX.length (eI x.bX)∧gH vt
def l8:In:=⟨0,0,false,0,0,0,[],[]⟩
def Pr(h:ar)(v:Value)(l:List In):Prop:=∃rows:List (List Value),rows.length=l.length∧fR h 8 v l.length rows.flatten∧∀i,i<l.length→Yz h (l.getD i l8) (rows.getD i [])
theorem Yz.ext{h h':ar}{x:In}{r:List Value}(H:Yz h x r)(hx:Ext h h'):Yz h' x r:=by
 obtain⟨vk,vt,h1,h2,h3,h4,h5⟩:=H;exact⟨vk,vt,h1,h2.ext (by decide) hx,h3,h4.ext (by decide) hx,h5⟩
theorem Yz.len{h:ar}{x:In}{r:List Value}(H:Yz h x r):r.length=8:=by
 obtain⟨vk,vt,rfl,_⟩:=H;rfl
theorem Pr.ext{h h':ar}{v:Value}{l:List In}(H:Pr h v l)(hx:Ext h h'):Pr h' v l:=by
 obtain⟨rows,h1,h2,h3⟩:=H;exact⟨rows,h1,h2.ext (by decide) hx,fun i hi=>(h3 i hi).ext hx⟩
theorem MH(w:Nat):∀(rows:List (List Value))(i:Nat),(∀r∈rows,r.length=w)→i<rows.length→(rows.flatten.drop (i*w)).take w=rows.getD i []:=by
 intro rows
 induction rows with
 |nil=>intro i _ hi;simp at hi
 |cons r rows ih=>
  intro i hr hi;have h3:=hr r List.mem_cons_self;cases i with
  |zero=>simp[h3]
  |succ i=>
   rw[List.flatten_cons,List.drop_append,awV (by rw[h3,Nat.add_mul];omega),awD,h3,show(i+1)*w-w=i*w by rw[Nat.add_mul];omega,ih i (fun q hq=>hr q (List.mem_cons_of_mem _ hq)) (by simpa using hi)];simp
theorem dF{α:Type}{l:List α}{i:Nat}{d:α}(hi:i<l.length):l.getD i d∈l:=by simp[hi]
theorem Pr.at{h:ar}{v:Value}{l:List In}(H:Pr h v l){i:Nat}(hi:i<l.length):∃b o c vk vt,v= .slice (some ⟨b,o,none⟩) l.length c∧Rd h b (o+i*8) (fu (l.getD i l8) vk vt)∧
 fR h 1 vk (l.getD i l8).keys.length (eI (l.getD i l8).keys)∧gH vk∧fR h 1 vt (l.getD i l8).bX.length (eI (l.getD i l8).bX)∧gH vt:=by
 obtain⟨rows,h1,h2,h3⟩:=H;obtain⟨b,o,c,e1,e2,e3⟩:=h2.at hi;have oD:∀r∈rows,r.length=8:=by
  intro r hr;obtain⟨j,hj,rfl⟩:=List.mem_iff_getElem.1 hr;have:=(h3 j (by omega)).len;simpa[hj]using this
 rw[MH 8 rows i oD (by omega)]at e2;obtain⟨vk,vt,q1,q2,q3,q4,q5⟩:=h3 i hi;rw[q1]at e2;exact⟨b,o,c,vk,vt,e1,e2,q2,q3,q4,q5⟩
theorem gL{α:Type}{l:List α}{i:Nat}{d:α}(hi:i<l.length):l.drop i=l.getD i d::l.drop (i+1):=by rw[awO hi];simp[hi]
theorem iU{α:Type}{l:List α}{i:Nat}{d:α}(hi:i<l.length):l.take (i+1)=l.take i++[l.getD i d]:=by rw[List.take_succ_eq_append_getElem hi];simp[hi]
def InO(h:ar)(base:Nat)(x:In)(r:List Value):Prop:=∃vk vt,r=fu x vk vt∧Own h base 3 1 vk x.keys.length (eI x.keys)∧Own h base 3 1 vt x.bX.length (eI x.bX)
theorem InO.inc{h:ar}{base:Nat}{x:In}{r:List Value}(H:InO h base x r):Yz h x r:=by
 obtain⟨vk,vt,h1,h2,h3⟩:=H;exact⟨vk,vt,h1,h2.dQ,h2.gH,h3.dQ,h3.gH⟩
def ku(n:Nat)(eU:List Int):List Value:=(List.range n).map fun j=> .bool (eU.contains ((j:Nat):Int))
theorem UK(n:Nat)(eU:List Int):(ku n eU).length=n:=by simp[ku]
theorem KG(n:Nat):madeCells #[.bool false] n=(ku n []).toArray:=by
 apply Array.ext
 ·simp[madeCells,ku]
 ·intro i h1 h2
  simp[madeCells,ku,Nat.mod_one]
theorem sH{n j:Nat}(hj:j<n)(eU:List Int):(ku n eU)[j]? =some (.bool (eU.contains ((j:Nat):Int))):=by simp[ku,hj]
theorem N3{n:Nat}(eU:List Int)(a:Nat):(ku n eU).toArray.setIfInBounds a (.bool true)=(ku n (eU++[(a:Int)])).toArray:=by
 apply Array.ext
 ·simp[ku]
 ·intro i h1 h2
  simp only[Array.size_setIfInBounds,awU,UK]at h1;rw[Array.getElem_setIfInBounds (by simpa[UK]using h1)];simp only[List.getElem_toArray];by_cases he:a=i
  ·subst he;simp[ku]
  ·simp[ku,he];omega
def d6(op:Nat):Nat:=
 if op≤15 then 0
 else if op≤16 then 2
 else if op≤17 then 3
 else if op≤18 then 4
 else if op≤19 then 5
 else if op≤20 then 5
 else if op≤25 then 6
 else if op≤53 then 0
 else if op≤58 then 6
 else if op≤131 then 0
 else if op≤132 then 7
 else if op≤152 then 0
 else if op≤167 then 8
 else if op≤168 then 1
 else if op≤169 then 1
 else if op≤170 then 10
 else if op≤171 then 11
 else if op≤177 then 0
 else if op≤184 then 5
 else if op≤185 then 12
 else if op≤186 then 1
 else if op≤187 then 5
 else if op≤188 then 13
 else if op≤189 then 5
 else if op≤191 then 0
 else if op≤192 then 5
 else if op≤193 then 5
 else if op≤195 then 0
 else if op≤196 then 15
 else if op≤197 then 14
 else if op≤198 then 8
 else if op≤199 then 8
 else if op≤200 then 9
 else if op≤255 then 1
 else 1
theorem GZ(op:Nat)(rG:op<256)(h:ar):aF Tryz.prog 255 #[bH op] h fun v h'=>h'=h∧v=ao (d6 op):=by
 refine Hg (args:=[bH op]) rfl ?_;obtain⟨f,hf⟩:∃f,f=d6 op:=⟨_,rfl⟩;rw[←hf];unfold d6 at hf;have cs:(0≤op∧op≤15)∨(16≤op∧op≤16)∨(17≤op∧op≤17)∨(18≤op∧op≤18)∨(19≤op∧op≤19)∨(20≤op∧op≤20)∨(21≤op∧op≤25)∨(26≤op∧op≤53)∨(54≤op∧op≤58)∨(59≤op∧op≤131)∨(132≤op∧op≤132)∨(133≤op∧op≤152)∨(153≤op∧op≤167)∨(168≤op∧op≤168)∨(169≤op∧op≤169)∨(170≤op∧op≤170)∨(171≤op∧op≤171)∨(172≤op∧op≤177)∨(178≤op∧op≤184)∨(185≤op∧op≤185)∨(186≤op∧op≤186)∨(187≤op∧op≤187)∨(188≤op∧op≤188)∨(189≤op∧op≤189)∨(190≤op∧op≤191)∨(192≤op∧op≤192)∨(193≤op∧op≤193)∨(194≤op∧op≤195)∨(196≤op∧op≤196)∨(197≤op∧op≤197)∨(198≤op∧op≤198)∨(199≤op∧op≤199)∨(200≤op∧op≤200)∨(201≤op∧op≤255):=by omega
 rcases cs with c|c|c|c|c|c|c|c|c|c|c|c|c|c|c|c|c|c|c|c|c|c|c|c|c|c|c|c|c|c|c|c|c|c
 all_goals
  repeat(first|rw[awa (by omega)]at hf|rw[av9 (by omega)]at hf)
  subst hf;simp(disch:=omega)only[Lx,ae,seval,va]
  try rfl
def QD:az:=(List.append (List.append [46,46,46,46,46,46,46,46,46,46,46,46,46,46,46,46,98,115,99,105,105,108,108,108,108,108,46,46,46,46,46,46,46,46,46,46,46,46,46,46,46,46,46,46,46,46,46,46,46,46] [46,46,46,46,108,108,108,108,108,46,46,46,46,46,46,46,46,46,46,46,46,46,46,46,46,46,46,46,46,46,46,46,46,46,46,46,46,46,46,46,46,46,46,46,46,46,46,46,46,46]) (List.append [46,46,46,46,46,46,46,46,46,46,46,46,46,46,46,46,46,46,46,46,46,46,46,46,46,46,46,46,46,46,46,46,110,46,46,46,46,46,46,46,46,46,46,46,46,46,46,46,46,46] [46,46,46,106,106,106,106,106,106,106,106,106,106,106,106,106,106,106,120,120,116,107,46,46,46,46,46,46,105,105,105,105,105,105,105,102,120,105,97,105,46,46,105,105,46,46,119,109,106,106,74]))
theorem aa7:(List.append (List.append [46,46,46,46,46,46,46,46,46,46,46,46,46,46,46,46,98,115,99,105,105,108,108,108,108,108,46,46,46,46,46,46,46,46,46,46,46,46,46,46,46,46,46,46,46,46,46,46,46,46] [46,46,46,46,108,108,108,108,108,46,46,46,46,46,46,46,46,46,46,46,46,46,46,46,46,46,46,46,46,46,46,46,46,46,46,46,46,46,46,46,46,46,46,46,46,46,46,46,46,46]) (List.append [46,46,46,46,46,46,46,46,46,46,46,46,46,46,46,46,46,46,46,46,46,46,46,46,46,46,46,46,46,46,46,46,110,46,46,46,46,46,46,46,46,46,46,46,46,46,46,46,46,46] [46,46,46,106,106,106,106,106,106,106,106,106,106,106,106,106,106,106,120,120,116,107,46,46,46,46,46,46,105,105,105,105,105,105,105,102,120,105,97,105,46,46,105,105,46,46,119,109,106,106,74]))=QD:=by rfl
def tE(op:Nat):az:=if 201≤op then [120]else(QD.take (op+1)).drop op
theorem YB:QD.length=201:=by rfl
theorem vd(op:Nat)(rG:op<256)(h:ar):aF Tryz.prog 284 #[ao op] h fun v h'=>h'=h∧v=str (tE op):=by
 refine Hh (args:=[ao op]) rfl ?_;unfold tE;by_cases h2:201≤op
 ·have vV:(201:Int)≤op:=by omega
  rw[awa h2];simp only[vZ,ae,seval,vV]
 ·have vV:¬(201:Int)≤op:=by omega
  rw[av9 h2];have hl:(op:Int)+1≤(QD.length:Int):=by rw[YB];omega
  have ht:((op:Int)+1).toNat=op+1:=by omega
  simp(disch:=omega)only[vZ,ae,seval,vV,aa7,ht]
def me(f:Nat):UInt8:=[46,120,98,115,99,105,108,110,106,74,116,107,102,97,109,119].getD f 0
theorem acy:∀op,op<256→tE op=[me (d6 op)]:=by decide+kernel
theorem G1:∀op,op<256→d6 op<16:=by decide+kernel
theorem acz(l:az)(j:Nat):(ByteArray.mk l.toArray).get! j=l.getD j 0:=by
 simp[ByteArray.get!,List.getD];rfl
theorem YC{l:az}{i:Nat}(hb:(l.getD i 0).toNat<128):FK l i=((l.getD i 0).toNat,1):=by
 unfold FK Utf8.decode;simp only[acz,aw3];rw[awa hb]
theorem agG{l:az}{i:Nat}(hi:i<l.length)(hb:¬(l.getD i 0).toNat<128):
 128≤(FK l i).1∧(FK l i).1<2147483648∧1≤(FK l i).2∧i+(FK l i).2≤l.length∧∀j,i≤j→j<i+(FK l i).2→128≤(l.getD j 0).toNat:=by
 have hs:(ByteArray.mk l.toArray).size=l.length:=by simp[ByteArray.size]
 have g0:(l.getD i 0).toNat<256:=UInt8.toNat_lt _;have g1:(l.getD (i+1) 0).toNat<256:=UInt8.toNat_lt _;have g2:(l.getD (i+2) 0).toNat<256:=UInt8.toNat_lt _;have g3:(l.getD (i+3) 0).toNat<256:=UInt8.toNat_lt _;have one:∀c:Nat,128≤c→c<2147483648→128≤(c,1).1∧(c,1).1<2147483648∧1≤(c,1).2∧i+(c,1).2≤l.length∧∀j,i≤j→j<i+(c,1).2→128≤(l.getD j 0).toNat:=by
  intro c h1 h2;refine⟨h1,h2,awp _,hi,fun j h3 h4=>?_⟩;have:j=i:=by simp at h4;omega
  subst this;omega
 unfold FK Utf8.decode;simp only[acz,aw3,hs,Utf8.runeError];rw[av9 hb]
 split
 ·rename_i hc
  simp only[awm,beq_iff_eq,awo]at hc
  split
  ·refine⟨by simp only[];omega,by simp only[];omega,by simp,by simp only[];omega,fun j h3 h4=>?_⟩
   simp only[]at h4;have:j=i∨j=i+1:=by omega
   rcases this with rfl|rfl<;>omega
  ·exact one _ (by decide) (by decide)
 split
 ·rename_i hc
  simp only[awm,beq_iff_eq,awo]at hc
  split
  ·rename_i hv
   simp only[awm,awo,ge_iff_le]at hv;refine⟨by simp only[];omega,by simp only[];omega,by simp,by simp only[];omega,fun j h3 h4=>?_⟩;simp only[]at h4;have:j=i∨j=i+1∨j=i+2:=by omega
   rcases this with rfl|rfl|rfl<;>omega
  ·exact one _ (by decide) (by decide)
 split
 ·rename_i hc
  simp only[awm,beq_iff_eq,awo]at hc
  split
  ·rename_i hv
   simp only[awm,awo,ge_iff_le]at hv;refine⟨by simp only[];omega,by simp only[];omega,by simp,by simp only[];omega,fun j h3 h4=>?_⟩;simp only[]at h4;have:j=i∨j=i+1∨j=i+2∨j=i+3:=by omega
   rcases this with rfl|rfl|rfl|rfl<;>omega
  ·exact one _ (by decide) (by decide)
 exact one _ (by decide) (by decide)
theorem agH{n:Int}(h0:128≤n):∃pre b,UA n=pre++[b]∧1≤pre.length∧pre.length≤3∧128≤b.toNat:=by
 unfold UA Utf8.encode;have hc:128≤(if Utf8.valid n=true then n.toNat else Utf8.runeError):=by
  split
  ·omega
  ·decide
 generalize(if Utf8.valid n=true then n.toNat else Utf8.runeError)=c at hc;have hl:128≤(UInt8.ofNat (0x80+c%64)).toNat:=by
  rw[UInt8.toNat_ofNat_of_lt' (by simp[UInt8.size];omega)];omega
 simp only[];rw[av9 (by omega)]
 split
 ·exact⟨[_],_,rfl,by simp,by simp,hl⟩
 split
 ·exact⟨[_,_],_,rfl,by simp,by simp,hl⟩
 ·exact⟨[_,_,_],_,rfl,by simp,by simp,hl⟩
abbrev ib:=Lib.indexByte
theorem ve(c:UInt8):∀l:az,(ib l c= -1∧c∉l)∨∃k,k<l.length∧ib l c=(k:Int)∧l[k]? =some c∧c∉l.take k
 |[]=> .inl ⟨rfl,by simp⟩
 |b::l=>by
  have ih:=ve c l;have e:ib (b::l) c=if b==c then 0 else if ib l c== -1 then-1 else ib l c+1:=rfl;rw[e];by_cases hb:b=c
  ·subst hb
   exact .inr ⟨0,by simp,by simp,by simp,by simp⟩
  ·have ju:(b==c)=false:=by simpa using hb
   rw[ju];rcases ih with⟨h1,h2⟩|⟨k,h1,h2,h3,h4⟩
   ·left
    rw[h1];refine⟨by simp,?_⟩;simp only[awL,not_or];exact⟨fun h=>hb h.symm,h2⟩
   ·right
    refine⟨k+1,by simp;omega,?_,by simpa using h3,?_⟩
    ·rw[h2]
     have:((k:Int)== -1)=false:=by rw[beq_eq_false_iff_ne];omega
     rw[this];simp
    ·simp only[List.take_succ_cons,awL,not_or]
     exact⟨fun h=>hb h.symm,h4⟩
theorem agI(c:UInt8)(l:az): -1≤ib l c∧ib l c<l.length:=by
 rcases ve c l with⟨h,_⟩|⟨k,h1,h2,_⟩
 ·rw[h];omega
 ·rw[h2];omega
theorem QE(c:UInt8)(l:az):0≤ib l c↔c∈l:=by
 rcases ve c l with⟨h,h2⟩|⟨k,h1,h2,h3,_⟩
 ·rw[h];simp[h2]
 ·rw[h2]
  exact⟨fun _=>awR h3,fun _=>by omega⟩
theorem YD{c:UInt8}{l:az}(h:c∉l):ib l c= -1:=by
 have h1:=QE c l;have h2:=(agI c l).1;have:¬0≤ib l c:=fun x=>h (h1.1 x);omega
def nG(cs l:az):Bool:=l.any fun b=>cs.contains b
def without(cs l:az):Bool:=decide (l≠[])&& !nG cs l
theorem AO{cs l:az}{i:Nat}(hi:i<l.length)(hc:l.getD i 0∈cs):nG cs l=true:=by
 unfold nG;rw[List.any_eq_true];refine⟨l[i],List.getElem_mem hi,?_⟩;simpa[hi]using hc
theorem xU{cs l:az}(H:∀j,j<l.length→l.getD j 0∉cs):nG cs l=false:=by
 unfold nG;rw[List.any_eq_false];intro x hx;obtain⟨j,hj,rfl⟩:=List.getElem_of_mem hx;have:=H j hj;simpa[hj]using this
def A4:az:=[46,59,91,47]
def A3:az:=[46,59,91]
def pieces(acc:az):az→List (az)
 |[]=>[acc]
 |b::l=>if b=47 then acc::pieces [] l else pieces (acc++[b]) l
theorem MI:∀{l acc:az},(47:UInt8)∉l→pieces acc l=[acc++l]
 |[],acc,_=>by simp[pieces]
 |b::l,acc,h=>by
  simp only[awL,not_or]at h;rw[pieces,av9 (fun e=>h.1 e.symm),MI h.2];simp
theorem Rq:∀{l acc:az}{k:Nat},l[k]? =some 47→(47:UInt8)∉l.take k→pieces acc l=(acc++l.take k)::pieces [] (l.drop (k+1))
 |[],_,_,h,_=>by simp at h
 |b::l,acc,0,h,_=>by
  simp only[awA,awe]at h;subst h;rw[pieces,awa rfl];simp
 |b::l,acc,k+1,h,hn=>by
  simp only[List.take_succ_cons,awL,not_or]at hn;rw[pieces,av9 (fun e=>hn.1 e.symm),Rq (by simpa using h) hn.2];simp
theorem sI:∀{l acc:az},(pieces acc l).length=l.count 47+1
 |[],acc=>by simp[pieces]
 |b::l,acc=>by
  rw[pieces]
  split
  ·rename_i hb;subst hb
   rw[awy,sI,List.count_cons];simp
  ·rename_i hb
   rw[sI,List.count_cons];simp[hb]
theorem AP:∀{l acc:az},(47:UInt8)∉acc→∀p∈pieces acc l,(47:UInt8)∉p
 |[],acc,h,p,hp=>by
  simp only[pieces,awf]at hp;subst hp;exact h
 |b::l,acc,h,p,hp=>by
  rw[pieces]at hp
  split at hp
  ·rcases awL.1 hp with rfl|hp
   ·exact h
   ·exact AP (by simp) p hp
  ·rename_i hb
   exact AP (by simp only[awi,awf,not_or];exact⟨h,fun e=>hb e.symm⟩) p hp
theorem Ps{p:az}(h:(47:UInt8)∉p):without A4 p=without A3 p:=by
 unfold without
 congr 2
 unfold nG;rw[Bool.eq_iff_iff,List.any_eq_true,List.any_eq_true];constructor
 ·rintro⟨x,hx,hc⟩
  refine⟨x,hx,?_⟩;simp only[A4,A3,List.contains_eq_mem,awL,awP,aw6,awo]at hc⊢;rcases hc with h|h|h|rfl
  ·exact .inl h
  ·exact .inr (.inl h)
  ·exact .inr (.inr h)
  ·exact aww hx ‹_›
 ·rintro⟨x,hx,hc⟩
  refine⟨x,hx,?_⟩;simp only[A4,A3,List.contains_eq_mem,awL,awP,aw6,awo]at hc⊢;rcases hc with h|h|h
  ·exact .inl h
  ·exact .inr (.inl h)
  ·exact .inr (.inr (.inl h))
def vg(acc l:az):Bool:=(pieces acc l).all (without A3)
def eJ(l:az):Bool:=vg [] l
theorem agJ(l:az):eJ l=(pieces [] l).all (without A4):=by
 unfold eJ vg;rw[Bool.eq_iff_iff,List.all_eq_true,List.all_eq_true];constructor
 ·intro H p hp;rw[Ps (AP (by simp) p hp)];exact H p hp
 ·intro H p hp;rw[←Ps (AP (by simp) p hp)];exact H p hp
theorem aa8{acc:az}:vg acc []=without A3 acc:=by simp[vg,pieces]
theorem YE{acc l:az}{b:UInt8}:vg acc (b::l)=if b=47 then without A3 acc&&vg [] l else vg (acc++[b]) l:=by
 unfold vg;rw[pieces]
 split<;>simp
def dc(s:az)(m:Bool):Nat:=
 if m=true∧s=[60,105,110,105,116,62]then 2 else if m=true∧s=[60,99,108,105,110,105,116,62]then 3
 else if without A4 s=false∨(m=true∧without [60,62] s=false)then 0 else 1
def B8:az:=[66,67,68,70,73,74,83,90]
def rm:az→Option Nat
 |[]=>none
 |b::r=>if b∈B8 then some 1 else if b=76 then(if ib (b::r) 59<0 then none else if eJ (((b::r).take (ib (b::r) 59).toNat).drop 1)then some ((ib (b::r) 59).toNat+1)else none)else none
def jc:az→Nat→Option Nat
 |[],_=>none
 |b::r,d=>if 255<d then none else if b=91 then(jc r (d+1)).map (·+1)else rm (b::r)
def dq:az→Nat
 |[]=>0
 |b::r=>if b=91 then dq r+1 else 0
theorem G2:∀l,dq l≤l.length
 |[]=>awp _
 |b::r=>by
  have:=G2 r;rw[dq];split<;>simp<;>omega
theorem zI:∀(l:az)(d:Nat),jc l d=if 255<d+dq l then none else(rm (l.drop (dq l))).map (·+dq l)
 |[],d=>by
  rw[jc];split<;>simp[dq,rm]
 |b::r,d=>by
  rw[jc,dq];by_cases hb:b=91
  ·subst hb
   rw[awa rfl,awa rfl,zI r (d+1)];by_cases h1:255<d
   ·rw[awa h1,awa (by omega)]
   ·rw[av9 h1]
    by_cases h2:255<d+1+dq r
    ·rw[awa h2,awa (by omega)];rfl
    ·rw[av9 h2,av9 (by omega)]
     simp only[List.drop_succ_cons];cases rm (r.drop (dq r))with
     |none=>rfl
     |some m=>simp only[axc];congr 1
  ·rw[av9 hb,av9 hb]
   simp
theorem agK:∀{l:az}{m:Nat},rm l=some m→1≤m∧m≤l.length
 |[],_,h=>by cases h
 |b::r,m,h=>by
  rw[rm]at h
  split at h
  ·cases h;simp
  split at h
  ·split at h
   ·cases h
   split at h
   ·cases h
    have:=agI 59 (b::r);omega
   ·cases h
  ·cases h
theorem FQ{l:az}{d m:Nat}(h:jc l d=some m):1≤m∧m≤l.length:=by
 rw[zI]at h
 split at h
 ·cases h
 ·cases hf:rm (l.drop (dq l))with
  |none=>rw[hf]at h;cases h
  |some k=>
   rw[hf]at h;simp only[axc,awe]at h;have h1:=agK hf;have h2:=G2 l;rw[aws]at h1;omega
def FR(l:az):Nat:=(jc l 0).getD 0
def cG(l:az):Bool:=decide (jc l 0=some l.length)
theorem V9(l:az):cG l=(decide (l≠[])&&decide (FR l=l.length)):=by
 unfold cG FR;cases h:jc l 0 with
 |none=>
  cases l with
  |nil=>simp
  |cons b r=>simp
 |some m=>
  have:=FQ h;cases l with
  |nil=>simp at this;omega
  |cons b r=>simp
theorem Wa{l:az}{m:Nat}(h:jc l 0=some m):cG l=decide (l.drop m=[]):=by
 have h1:=FQ h;unfold cG;rw[h];simp only[awe,List.drop_eq_nil_iff,decide_eq_decide];omega
def jA(l:az):Bool:=if l.head?=some 91 then cG l else eJ l
def mf(l:az):Nat:=if l=[86]then 0 else if l=[74]∨l=[68]then 2 else 1
theorem rH(l:az):mf l≤2:=by unfold mf;split<;>first|omega|(split<;>omega)
def zJ:Nat→az→List (az)→Nat→Option (List (az) × Nat × az)
 |0,_,_,_=>none
 |f+1,l,ts,sl=>if l=[]∨l.head?=some 41 then some (ts,sl,l)else match jc l 0 with
  |none=>none
  |some m=>zJ f (l.drop m) (ts++[l.take m]) (sl+mf (l.take m))
def ng(r:Option (List (az) × Nat × az)):Option (List (az) × az):=match r with
 |none=>none
 |some (ts,sl,l)=>if l=[]∨254<sl∨(l.drop 1≠[86]∧cG (l.drop 1)=false)then none else some (ts,l.drop 1)
def fV(s:az):Option (List (az) × az):=
 if s.head?=some 40 then ng (zJ s.length (s.drop 1) [] 0)else none
end Go.Proofs.YtmbboehmnfhjjaaGreatDoor
