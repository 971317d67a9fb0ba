import Derived.Test.YtlkjdchmeihhkaaGreatDoorLawBits
import Derived.Test.YtlkjdchmeihhkaaGreatDoorBk8
set_option autoImplicit true
set_option relaxedAutoImplicit true
set_option linter.all false
set_option maxRecDepth 20000
namespace Go.Proofs.YtlkjdchmeihhkaaGreatDoor
open Go Go.Sim
open Go.IntKind (wrap)
variable [Fu]
def xC (x n:Int):Int:=nL .u32 (co .u32 x n) (en .u32 x (32 - n))
theorem zD {x:Int} {a n:Int} (h1:eH .u64 (wrap .u64 a) 31=32 - n) (h2:wrap .u64 (32 - (32 - n))=n) (b:0≤n∧n≤32):cn x a=some (xC x n):=by unfold cn xC;rw[h1,h2];(have b:decide (0≤32 - n)=true:=by simp;omega);(have c:decide (0≤n)=true:=by simp;omega);rw[b,c,D1];rfl
def g (l:List Int) (i:Nat):Int:=l.getD i 0
def SN (b:List Int) (i:Nat):Int:=nL .u32 (nL .u32 (nL .u32 (en .u32 (IntKind.u32.wrap (g b (4*i))) 24) (en .u32 (IntKind.u32.wrap (g b (4*i+1))) 16)) (en .u32 (IntKind.u32.wrap (g b (4*i+2))) 8)) (IntKind.u32.wrap (g b (4*i+3)))
def Tp (w:List Int) (t:Nat):Int:=wrap .u32 ((wrap .u32 ((wrap .u32 ((bD .u32 (bD .u32 (xC (g w (t - 2)) 17) (xC (g w (t - 2)) 19)) (co .u32 (g w (t - 2)) 10))+g w (t - 7)))+(bD .u32 (bD .u32 (xC (g w (t - 15)) 7) (xC (g w (t - 15)) 18)) (co .u32 (g w (t - 15)) 3))))+g w (t - 16))
def QC (b:List Int):Nat→List Int|0=>List.replicate 64 0|i+1=>(QC b i).set i (if i<16 then SN b i else Tp (QC b i) i)
def FS (k w:List Int) (i:Nat) (v:List Int):List Int:=
 let one:=wrap .u32 ((wrap .u32 ((wrap .u32 ((wrap .u32 (g v 7+(bD .u32 (bD .u32 (xC (g v 4) 6) (xC (g v 4) 11)) (xC (g v 4) 25))))+(bD .u32 (eH .u32 (g v 4) (g v 5)) (eH .u32 (Om .u32 (g v 4)) (g v 6)))))+g k i))+g w i)
 let a:=wrap .u32 ((bD .u32 (bD .u32 (xC (g v 0) 2) (xC (g v 0) 13)) (xC (g v 0) 22))+(bD .u32 (bD .u32 (eH .u32 (g v 0) (g v 1)) (eH .u32 (g v 0) (g v 2))) (eH .u32 (g v 1) (g v 2))))
 [wrap .u32 (one+a),g v 0,g v 1,g v 2,wrap .u32 (g v 3+one),g v 4,g v 5,g v 6]
def TZ (k w s:List Int):Nat→List Int|0=>s|i+1=>FS k w i (TZ k w s i)
def Su (s v:List Int):Nat→List Int|0=>s|i+1=>(Su s v i).set i (wrap .u32 (g (Su s v i) i+g v i))
def blk (k s b:List Int):List Int:=Su s (TZ k (QC b 64) s 64) 8
theorem Cw (b:List Int):∀i,(QC b i).length=64|0=>by simp[QC]|i+1=>by rw[QC,IA,Cw b i]
theorem Fn {k w s:List Int} (h:s.length=8):∀i,(TZ k w s i).length=8
 |0=>h
 |i+1=>rfl
theorem za {s v:List Int}:∀i,(Su s v i).length=s.length
 |0=>rfl
 |i+1=>by rw[Su,IA,za i]
theorem Fo {k s b:List Int} (h:s.length=8):(blk k s b).length=8:=by rw[blk,za,h]
theorem Ak (b:List Int):∀i j,i≤j→g (QC b i) j=0|0,j,_=>by simp only[QC,g,H5,List.getElem?_replicate];split<;>rfl|i+1,j,h=>by have:=Ak b i j (by omega);simp only[QC,g,H5] at this⊢;rw[JL (by omega)];exact this
section
variable {s b k m:List Int}
theorem BO (hs:s.length=8) (hb:b.length=64):gj s b=some (blk rN s b):=by
 have hg:rN.length=64:=rfl
 unfold gj
 obtain⟨W,hW⟩:∃W,W=QC b:=⟨_,rfl⟩
 have hW0:W 0=List.replicate 64 0:=by rw[hW];rfl
 have hWS:∀i,W (i+1)=(W i).set i (if i<16 then SN b i else Tp (W i) i):=by rw[hW];intro i;rfl
 have hWl:∀i,(W i).length=64:=by rw[hW];exact Cw b
 have hWz:∀i,g (W i) i=0:=by rw[hW];exact λi=>Ak b i i (GZ _)
 rw[cb (λi=>((i:Int),W i)) 0 16 (r:=W 16) (by omega) ?_ (jt rfl) (by rw[hW0];rfl)]
 rotate_left
 · intro i _ hi
   have h1:decide ((i:Int)<16)=true:=by simp;omega
   simp only[h1,Gy]
   rw[wrap64 (x:=4*(i:Int)) (by omega),wrap64 (x:=4*(i:Int)+1) (by omega),wrap64 (x:=4*(i:Int)+2) (by omega),wrap64 (x:=4*(i:Int)+3) (by omega),
    bP (z:=4*(i:Int)) (i:=4*i) (by omega) (by omega),bP (z:=4*(i:Int)+1) (i:=4*i+1) (by omega) (by omega),bP (z:=4*(i:Int)+2) (i:=4*i+2) (by omega) (by omega),bP (z:=4*(i:Int)+3) (i:=4*i+3) (by omega) (by omega),
    bP (xs:=W i) (z:=(i:Int)) (i:=i) rfl (by rw[hWl];omega),wrap64 (by omega)]
   simp only[aF,GG,hWS,Hv hi]
   rfl
 simp only[aF]
 rw[cb (λi=>((i:Int),W i)) 16 64 (r:=W 64) (by omega) ?_ (jt rfl) (by rfl)]
 rotate_left
 · intro i h16 hi
   have h1:decide ((i:Int)<64)=true:=by simp;omega
   have hl:=hWl i
   simp only[h1,Gy]
   rw[wrap64 (x:=(i:Int) - 15) (by omega),wrap64 (x:=(i:Int) - 2) (by omega),wrap64 (x:=(i:Int) - 7) (by omega),wrap64 (x:=(i:Int) - 16) (by omega),
    bP (z:=(i:Int) - 15) (i:=i - 15) (by omega) (by omega),bP (z:=(i:Int) - 2) (i:=i - 2) (by omega) (by omega),bP (z:=(i:Int) - 7) (i:=i - 7) (by omega) (by omega),bP (z:=(i:Int) - 16) (i:=i - 16) (by omega) (by omega),
    bP (xs:=W i) (z:=(i:Int)) (i:=i) rfl (by omega),wrap64 (by omega)]
   simp only[aF]
   rw[zD (n:=7) (by decide) (by decide) (by decide),zD (n:=18) (by decide) (by decide) (by decide),zD (n:=17) (by decide) (by decide) (by decide),zD (n:=19) (by decide) (by decide) (by decide)]
   simp only[aF,GG,hWS,Hu (show¬i<16 by omega)]
   rfl
 simp only[aF]
 generalize hw:W 64=w
 have hwl:w.length=64:=by rw[←hw];exact hWl 64
 obtain⟨V,hV⟩:∃V,V=TZ rN w s:=⟨_,rfl⟩
 have hV0:V 0=s:=by rw[hV];rfl
 have hVS:∀i,V (i+1)=FS rN w i (V i):=by rw[hV];intro i;rfl
 have hVl:∀i,(V i).length=8:=by rw[hV];exact Fn hs
 rw[cb (λi=>((i:Int),V i)) 0 64 (r:=V 64) (by omega) ?_ (jt rfl) (by rw[hV0];rfl)]
 rotate_left
 · intro i _ hi
   have h1:decide ((i:Int)<64)=true:=by simp;omega
   have hl:=hVl i
   generalize hv:V i=v at hl
   simp only[h1,Gy]
   rw[bP (xs:=v) (z:=0) (i:=0) rfl (by omega),bP (xs:=v) (z:=1) (i:=1) rfl (by omega),bP (xs:=v) (z:=2) (i:=2) rfl (by omega),bP (xs:=v) (z:=4) (i:=4) rfl (by omega),bP (xs:=v) (z:=5) (i:=5) rfl (by omega),bP (xs:=v) (z:=6) (i:=6) rfl (by omega),bP (xs:=v) (z:=7) (i:=7) rfl (by omega),bP (xs:=v) (z:=3) (i:=3) rfl (by omega),
    bP (xs:=rN) (z:=(i:Int)) (i:=i) rfl (by omega),bP (xs:=w) (z:=(i:Int)) (i:=i) rfl (by omega),wrap64 (by omega)]
   simp only[aF]
   rw[zD (n:=6) (by decide) (by decide) (by decide),zD (n:=11) (by decide) (by decide) (by decide),zD (n:=25) (by decide) (by decide) (by decide),zD (n:=2) (by decide) (by decide) (by decide),zD (n:=13) (by decide) (by decide) (by decide),zD (n:=22) (by decide) (by decide) (by decide)]
   simp only[aF,hVS,hv]
   rfl
 simp only[aF]
 have hvl:=hVl 64
 generalize hv:V 64=v at hvl
 obtain⟨U,hU⟩:∃U,U=Su s v:=⟨_,rfl⟩
 have hU0:U 0=s:=by rw[hU];rfl
 have hUS:∀i,U (i+1)=(U i).set i (wrap .u32 (g (U i) i+g v i)):=by rw[hU];intro i;rfl
 have hUl:∀i,(U i).length=s.length:=by rw[hU];exact za
 rw[cb (λi=>((i:Int),U i)) 0 8 (r:=U 8) (by omega) ?_ (jt rfl) (by rw[hU0];rfl)]
 rotate_left
 · intro i _ hi
   have h1:decide ((i:Int)<8)=true:=by simp;omega
   have hl:=hUl i
   simp only[h1,Gy]
   rw[bP (xs:=U i) (z:=(i:Int)) (i:=i) rfl (by omega),bP (xs:=v) (z:=(i:Int)) (i:=i) rfl (by omega),wrap64 (by omega)]
   simp only[aF,GG,hUS]
   rfl
 simp only[aF,blk,←hW,hw,←hV,hv,←hU]
end
end Go.Proofs.YtlkjdchmeihhkaaGreatDoor
set_option maxRecDepth 20000
namespace Go.Proofs.YtlkjdchmeihhkaaGreatDoor
open Go Go.Sim
open Go.IntKind (wrap)
variable [Fu]
def IV:List Int:=[1779033703,3144134277,1013904242,2773480762,1359893119,2600822924,528734635,1541459225]
def z_ (m:List Int) (i:Nat):List Int:=(m.drop (64*i)).take 64
def cmp (m:List Int):Nat→List Int|0=>IV|n+1=>blk rN (cmp m n) (z_ m n)
theorem zb (m:List Int):∀n,(cmp m n).length=8|0=>rfl|n+1=>by rw[cmp,Fo (zb m n)]
theorem De {p q:List Int} {i:Nat} (h:64*(i+1)≤p.length):z_ (p++q) i=z_ p i:=by unfold z_;rw[Il (by omega),Im (by simp;omega)]
theorem zc {p q:List Int}:∀{n:Nat},64*n≤p.length→cmp (p++q) n=cmp p n|0,_=>rfl|n+1,h=>by rw[cmp,cmp,zc (by omega),De h]
structure HR (h:bp) (q:List Int):Prop where
 n:h.n=q.length
 tl:h.tail.length=64
 tail:h.tail.take (q.length%64)=q.drop (64*(q.length / 64))
 words:h.words=cmp q (q.length / 64)
structure SE (h:bp) (q:List Int):Prop where
 n:h.n=q.length
 tl:h.tail.length=64
 tail:h.tail.take (q.length%64)=q.drop (64*(q.length / 64))
 words:64≤q.length→h.words=cmp q (q.length / 64)
theorem HR.zero {h:bp} {q:List Int} (r:HR h q):SE h q:=⟨r.n,r.tl,r.tail,λ_=>r.words⟩
theorem nX {xs ys:List Int} {a b:Nat} (h1:a≤b) (h2:b≤xs.length):over xs a b ys=xs.take a++ys.take (b - a)++xs.drop (a+min ys.length (b - a)):=by unfold over;rfl
theorem D7:∃h,mi=some h∧SE h []:=⟨_,rfl,⟨rfl,by simp,by simp,λh=>by simp at h⟩⟩
theorem pg {h:bp} {q a:List Int} (b:SE h q) (c:q.length+a.length<2^60):∃c,eF h a=some c∧HR c (q++a):=by unfold eF;(have d:∃f,(bif decide (h.n<64) then(lZ).bind λe=>some ({h with words:=e}:bp) else some h:Option bp)=some f∧HR f q:=by by_cases e:q.length<64;(have e:decide (h.n<64)=true:=by rw[b.n];simp;omega);rw[e];refine⟨_,rfl,b.n,b.tl,b.tail,?_⟩;(have:q.length / 64=0:=by omega);rw[this];rfl;(have e:decide (h.n<64)=false:=by rw[b.n];simp;omega);rw[e];exact⟨h,rfl,b.n,b.tl,b.tail,b.words (by omega)⟩);obtain⟨f,b,e⟩:=d;rw[b];simp only[aF];refine D3 (Cs (P:=λs=>∃p,HR s.2 p∧p++s.1=q++a) (Q:=λc=>HR c (q++a)) (λs=>s.1.length) ?_ (s:=(a,f)) ⟨q,e,rfl⟩);rintro⟨b,k⟩ ⟨p,d,e⟩;simp only at d e⊢;(have c:p.length+b.length=q.length+a.length:=by have:=congrArg List.length e;simpa using this);cases c:b with|nil=>subst c;left;refine⟨k,by simp,?_⟩;rw[HY] at e;rw[←e];exact d|cons x f=>right;rw[←c];(have f:0<b.length:=by rw[c];simp);(have c:decide ((b.length:Int)>0)=true:=by simp;omega);rw[c,d.n];have em:Int.tmod (p.length:Int) 64=((p.length%64:Nat):Int):=rfl;have c:p.length%64<64:=Nat.mod_lt _ (by decide);simp only[Gy,em,GG];generalize f:p.length%64=r at c;(have c:decide ((0:Int)≤(r:Int)∧(r:Int)≤64∧(64:Int)≤64)=true:=by simp;omega);have i:Int.toNat 64=64:=rfl;(have j:decide (r≤Int.toNat 64∧Int.toNat 64≤64)=true:=by simp;omega);rw[c,j];simp only[Gy,i];generalize i:min b.length (64 - r)=c;(have j:1≤c:=by omega);(have j:c≤b.length:=by omega);(have j:r+c≤64:=by omega);(have j:sub b (c:Int) (b.length:Int)=some (b.drop c):=by unfold sub;(have d1:decide (0≤(c:Int))=true:=by simp);(have d2:decide ((c:Int)≤(b.length:Int))=true:=by simp;omega);rw[d1,d2];simp);rw[j,jO (x:=(c:Int)) (by omega),jO (x:=(p.length:Int)+(c:Int)) (by omega)];simp only[aF];have j:=d.tl;(have j:over k.tail r 64 b=k.tail.take r++b.take (64 - r)++k.tail.drop (r+c):=by rw[nX (by omega) (by omega),i]);(have i:(over k.tail r 64 b).length=64:=by rw[j];simp;omega);have l:=d.tail;rw[f] at l;(have m:(p++b.take c)++b.drop c=q++a:=by rw[GW,Hn,e]);(have e:(p++b.take c).length=p.length+c:=by simp;omega);(have n:p.length=64*(p.length / 64)+r:=by rw[←f];exact(Nat.div_add_mod _ _).symm);(have f:Int.tmod ((p.length:Int)+(c:Int)) 64=(((p.length+c)%64:Nat):Int):=by rw[←Int.natCast_add];rfl);rw[f];by_cases f:r+c=64;(have f:(p.length+c)%64=0:=by omega);(have n:(p.length+c) / 64=p.length / 64+1:=by omega);rw[f];simp only[Int.ofNat_zero,Int.natCast_zero,Iy,Gy];(have o:over k.tail r 64 b=z_ (p++b.take c) (p.length / 64):=by rw[j,l];unfold z_;have:k.tail.drop (r+c)=[]:=Ir (by omega);(have s:(p.drop (64*(p.length / 64))++b.take c).length=64:=by simp;omega);rw[this,HY,show 64 - r=c by omega,Il (by omega)];exact(GN (by omega)).symm);rw[BO (by rw[d.words,zb]) i];simp only[aF];refine⟨_,rfl,⟨p++b.take c,⟨?_,i,?_,?_⟩,m⟩,?_⟩;simp only[e];omega;rw[e,f,n];simp only[Ia];exact(Ir (by rw[e];omega)).symm;rw[e,n,cmp,zc (by omega),←o,d.words];simp;omega;(have f:(p.length+c)%64=r+c:=by omega);(have n:(p.length+c) / 64=p.length / 64:=by omega);(have o:((((p.length+c)%64:Nat):Int)==0)=false:=by rw[f];simp;omega);rw[o];simp only[Gx];refine⟨_,rfl,⟨p++b.take c,⟨?_,i,?_,?_⟩,m⟩,?_⟩;show(p.length:Int)+(c:Int)=(((p++b.take c).length:Nat):Int);rw[e];simp;(have i:c=b.length:=by omega);rw[e,f,n];show(over k.tail r 64 b).take (r+c)=_;rw[j,l];(have f:b.take (64 - r)=b.take c:=by rw[GN (by omega),GN (by omega)]);(have i:(p.drop (64*(p.length / 64))++b.take (64 - r)).length=r+c:=by simp;omega);rw[Im (by omega),GN (by omega),f,Il (by omega)];rw[e,n,zc (by omega)];exact d.words;simp;omega
end Go.Proofs.YtlkjdchmeihhkaaGreatDoor
set_option maxRecDepth 20000
namespace Go.Proofs.YtlkjdchmeihhkaaGreatDoor
open Go Go.Sim
open Go.IntKind (wrap)
variable [Fu]
def yN (n:Nat):Nat→List Int|0=>[]|i+1=>yN n i++[IntKind.u8.wrap (co .u64 (IntKind.u64.wrap ((n:Int)*8)) (56 - 8*(i:Int)))]
theorem vp (n:Nat):∀i,(yN n i).length=i|0=>rfl|i+1=>by rw[yN,GD,vp n i];rfl
def tj (n:Nat):Nat:=(119 - n%64)%64
def fill (n:Nat):List Int:=128::List.replicate (tj n) 0
def Sv (p:List Int):List Int:=p++(fill p.length++yN p.length 8)
theorem D8 (n:Nat):(fill n).length=1+tj n:=by simp[fill];omega
def Q7 (v:List Int):Nat→List Int|0=>List.replicate 32 0|i+1=>(Q7 v i).set i (IntKind.u8.wrap (co .u32 (g v (i / 4)) (24 - 8*((i%4:Nat):Int))))
theorem zd (v:List Int):∀i,(Q7 v i).length=32|0=>by simp[Q7]|i+1=>by rw[Q7,IA,zd v i]
def nN (p:List Int):List Int:=Q7 (cmp (Sv p) ((Sv p).length / 64)) 32
theorem qT (p:List Int):(nN p).length=32:=zd _ _
theorem xu (v:List Int):∀i,bW (Q7 v i)|0=>λb a=>by simp[Q7] at a;omega|i+1=>λb a=>by rw[Q7] at a;rcases List.mem_or_eq_of_mem_set a with h|rfl;exact xu v i b h;exact oW _
theorem ze (p:List Int):bW (nN p):=xu _ _
theorem U_ {x:Int}:en .u64 x 3=IntKind.u64.wrap (x*8):=rfl
theorem UP {x:Int}:co .u32 x 0=x:=by have:co .u32 x 0=x.fdiv 1:=rfl;rw[this];simp
theorem pi {h:bp} {p:List Int} (a:SE h p) (b:p.length<2^59):fO h=some (nN p):=by
 unfold fO
 have b:=a.n
 have c:wrap .u64 (1+Int.tmod (wrap .u64 (119 - Int.tmod h.n 64)) 64)=((1+tj p.length:Nat):Int):=by
   have d:Int.tmod h.n 64=((p.length%64:Nat):Int):=by rw[b];rfl
   rw[d,jO (x:=119 - ((p.length%64:Nat):Int)) (by omega)]
   have d:(119 - ((p.length%64:Nat):Int))=((119 - p.length%64:Nat):Int):=by omega
   have e:Int.tmod ((119 - p.length%64:Nat):Int) 64=((tj p.length:Nat):Int):=rfl
   rw[d,e,jO (by unfold tj;omega)];simp
 rw[c]
 have c:tj p.length<64:=Nat.mod_lt _ (by decide)
 have e:kN ((1+tj p.length:Nat):Int) 72=true:=by
   unfold kN
   have:(dC:Int)=17179869184:=rfl
   simp only[this,GH,GM];omega
 rw[e]
 simp only[Gy,GG]
 rw[bP (xs:=List.replicate (1+tj p.length) 0) (z:=0) (i:=0) rfl (by rw[Iv];omega)]
 simp only[aF]
 have c:List.set (List.replicate (1+tj p.length) (0:Int)) (Int.toNat 0) 128=fill p.length:=by
   rw[Nat.add_comm];rfl
 rw[c]
 have l:=D8 p.length
 rw[cb (λi=>(fill p.length++yN p.length i,56 - 8*(i:Int))) 0 8 (r:=fill p.length++yN p.length 8) (by omega) ?_ (jt rfl) (by simp[yN])]
 rotate_left
 · intro i _ c
   have d:decide (56 - 8*(i:Int)≥0)=true:=by simp;omega
   have e:decide (0≤56 - 8*(i:Int))=true:=by simp;omega
   simp only[d,e,Gy]
   have m:=vp p.length i
   rw[cf (by rw[GD];simp[dC];omega),wrap64 (by omega),U_,b]
   have b:(56 - 8*(i:Int)) - 8=56 - 8*((i+1:Nat):Int):=by omega
   simp only[aF,yN,GW,b]
 simp only[aF]
 have k:(fill p.length++yN p.length 8).length=9+tj p.length:=by rw[GD,vp];omega
 obtain⟨b,e,f⟩:=pg a (a:=fill p.length++yN p.length 8) (by omega)
 rw[e]
 simp only[aF]
 have a:b.words=cmp (Sv p) ((Sv p).length / 64):=f.words
 rw[a]
 generalize a:cmp (Sv p) ((Sv p).length / 64)=v
 have o:v.length=8:=by rw[←a];exact zb _ _
 obtain⟨O,e⟩:∃O,O=Q7 v:=⟨_,rfl⟩
 have f:O 0=List.replicate 32 0:=by rw[e];rfl
 have b:∀i,O (i+1)=(O i).set i (IntKind.u8.wrap (co .u32 (g v (i / 4)) (24 - 8*((i%4:Nat):Int)))):=by rw[e];intro i;rfl
 have j:∀i,(O i).length=32:=by rw[e];exact zd v
 rw[cb (λi=>((i:Int),O (4*i))) 0 8 (r:=O 32) (by omega) ?_ (jt rfl) (by rw[Nat.mul_zero,f];rfl)]
 rotate_left
 · intro i _ c
   have d:decide ((i:Int)<8)=true:=by simp;omega
   simp only[d,Gy]
   rw[wrap64 (x:=4*(i:Int)) (by omega),wrap64 (x:=4*(i:Int)+1) (by omega),wrap64 (x:=4*(i:Int)+2) (by omega),wrap64 (x:=4*(i:Int)+3) (by omega),wrap64 (by omega)]
   have t0:Int.toNat (4*(i:Int))=4*i:=by omega
   have t1:Int.toNat (4*(i:Int)+1)=4*i+1:=by omega
   have t2:Int.toNat (4*(i:Int)+2)=4*i+2:=by omega
   have t3:Int.toNat (4*(i:Int)+3)=4*i+3:=by omega
   rw[t0,t1,t2,t3,bP (xs:=v) (z:=(i:Int)) (i:=i) rfl (by omega)]
   have c:=j (4*i)
   rw[bP (xs:=O (4*i)) (z:=4*(i:Int)) (i:=4*i) (by omega) (by omega)]
   simp only[aF]
   rw[bP (z:=4*(i:Int)+1) (i:=4*i+1) (by omega) (by simp;omega)]
   simp only[aF]
   rw[bP (z:=4*(i:Int)+2) (i:=4*i+2) (by omega) (by simp;omega)]
   simp only[aF]
   rw[bP (z:=4*(i:Int)+3) (i:=4*i+3) (by omega) (by simp;omega)]
   simp only[aF]
   have d:O (4*(i+1))=List.set (List.set (List.set (List.set (O (4*i)) (4*i) (IntKind.u8.wrap (co .u32 (v.getD i 0) 24))) (4*i+1) (IntKind.u8.wrap (co .u32 (v.getD i 0) 16))) (4*i+2) (IntKind.u8.wrap (co .u32 (v.getD i 0) 8))) (4*i+3) (IntKind.u8.wrap (v.getD i 0)):=by
    rw[show 4*(i+1)=4*i+1+1+1+1 by omega,b,b,b,b]
    have b:4*i / 4=i:=by omega
    have c:(4*i+1) / 4=i:=by omega
    have f:(4*i+1+1) / 4=i:=by omega
    have j:(4*i+1+1+1) / 4=i:=by omega
    have k:4*i%4=0:=by omega
    have l:(4*i+1)%4=1:=by omega
    have m:(4*i+1+1)%4=2:=by omega
    have n:(4*i+1+1+1)%4=3:=by omega
    rw[b,c,f,j,k,l,m,n]
    have b:(24 - 8*((3:Nat):Int))=0:=rfl
    rw[b,UP];rfl
   rw[d];rfl
 simp only[aF]
 show some (O 32)=some (nN p)
 unfold nN;rw[a,e]
theorem D9 {p:List Int} (a:p.length<2^59):lb p=some (nN p):=by unfold lb;obtain⟨h,e,r⟩:=D7;rw[e];simp only[aF];obtain⟨b,b,c⟩:=pg r (a:=p) (by simp;omega);rw[b];simp only[aF];rw[pi (p:=p) (by simpa using c.zero) a];rfl
end Go.Proofs.YtlkjdchmeihhkaaGreatDoor
