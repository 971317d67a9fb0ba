import Derived.Test.YtkjlhdndbdenaaaGreatDoorLawBits
import Derived.Test.YtkjlhdndbdenaaaGreatDoorCm5
set_option autoImplicit true
set_option relaxedAutoImplicit true
set_option linter.all false
set_option maxRecDepth 20000
namespace Go.Proofs.YtkjlhdndbdenaaaGreatDoor
open Go Go.Sim
open Go.IntKind (wrap)
variable [Fu]
def p6 (x n:Int):Int:=kC .u32 (cv .u32 x n) (c5 .u32 x (32 - n))
theorem tI {x:Int} {a n:Int} (h1:cJ .u64 (wrap .u64 a) 31=32 - n) (h2:wrap .u64 (32 - (32 - n))=n) (b:0≤n∧n≤32):aV x a=some (p6 x n):=by unfold aV p6;rw[h1,h2];(have b:decide (0≤32 - n)=true:=by simp;omega);(have c:decide (0≤n)=true:=by simp;omega);rw[b,c,sT];rfl
theorem tK {x n:Int} (h:0≤n∧n≤32):aW x n=some (p6 x n):=by unfold aW p6;(have a:decide (0≤n)=true:=by simp;omega);(have b:decide (0≤32 - n)=true:=by simp;omega);rw[bA (by omega),a,b];rfl
def g (l:List Int) (i:Nat):Int:=l.getD i 0
def yC (b:List Int) (i:Nat):Int:=kC .u32 (kC .u32 (kC .u32 (c5 .u32 (IntKind.u32.wrap (g b (4*i))) 24) (c5 .u32 (IntKind.u32.wrap (g b (4*i+1))) 16)) (c5 .u32 (IntKind.u32.wrap (g b (4*i+2))) 8)) (IntKind.u32.wrap (g b (4*i+3)))
def uW (b:List Int) (i:Nat):Nat→Int|0=>0|j+1=>kC .u32 (c5 .u32 (uW b i j) 8) (IntKind.u32.wrap (g b (4*i+j)))
theorem GQ (b:List Int) (i:Nat):uW b i 4=yC b i:=by simp only[uW,yC,ym];exact Eh _ _ _ _
def DI (w:List Int) (t:Nat):Int:=wrap .u32 ((wrap .u32 ((wrap .u32 ((bC .u32 (bC .u32 (p6 (g w (t - 2)) 17) (p6 (g w (t - 2)) 19)) (cv .u32 (g w (t - 2)) 10))+g w (t - 7)))+(bC .u32 (bC .u32 (p6 (g w (t - 15)) 7) (p6 (g w (t - 15)) 18)) (cv .u32 (g w (t - 15)) 3))))+g w (t - 16))
def zG (b:List Int):Nat→List Int|0=>List.replicate 64 0|i+1=>(zG b i).set i (if i<16 then yC b i else DI (zG b i) i)
def s9 (k w:List Int) (i:Nat) (v:List Int):List Int:=
 let one:=wrap .u32 ((wrap .u32 ((wrap .u32 ((wrap .u32 (g v 7+(bC .u32 (bC .u32 (p6 (g v 4) 6) (p6 (g v 4) 11)) (p6 (g v 4) 25))))+(bC .u32 (cJ .u32 (g v 4) (g v 5)) (cJ .u32 (oJ .u32 (g v 4)) (g v 6)))))+g k i))+g w i)
 let a:=wrap .u32 ((bC .u32 (bC .u32 (p6 (g v 0) 2) (p6 (g v 0) 13)) (p6 (g v 0) 22))+(bC .u32 (bC .u32 (cJ .u32 (g v 0) (g v 1)) (cJ .u32 (g v 0) (g v 2))) (cJ .u32 (g v 1) (g v 2))))
 [wrap .u32 (one+a),g v 0,g v 1,g v 2,wrap .u32 (g v 3+one),g v 4,g v 5,g v 6]
def DX (k w s:List Int):Nat→List Int|0=>s|i+1=>s9 k w i (DX k w s i)
def DH (s v:List Int):Nat→List Int|0=>s|i+1=>(DH s v i).set i (wrap .u32 (g (DH s v i) i+g v i))
def blk (k s b:List Int):List Int:=DH s (DX k (zG b 64) s 64) 8
theorem nR (b:List Int):∀i,(zG b i).length=64|0=>by simp[zG]|i+1=>by rw[zG,yj,nR b i]
theorem q9 {k w s:List Int} (h:s.length=8):∀i,(DX k w s i).length=8
 |0=>h
 |i+1=>rfl
theorem ll {s v:List Int}:∀i,(DH s v i).length=s.length
 |0=>rfl
 |i+1=>by rw[DH,yj,ll i]
theorem uy {k s b:List Int} (h:s.length=8):(blk k s b).length=8:=by rw[blk,ll,h]
theorem lM (b:List Int):∀i j,i≤j→g (zG b i) j=0|0,j,_=>by simp only[zG,g,w9,List.getElem?_replicate];split<;>rfl|i+1,j,h=>by have:=lM b i j (by omega);simp only[zG,g,w9] at this⊢;rw[List.getElem?_set_ne (by omega)];exact this
section
variable {s b k m:List Int}
theorem qr (hs:s.length=8) (hb:b.length=64):dP s b=some (blk kH s b):=by
 have hg:kH.length=64:=rfl
 unfold dP
 obtain⟨W,hW⟩:∃W,W=zG b:=⟨_,rfl⟩
 have hW0:W 0=List.replicate 64 0:=by rw[hW];rfl
 have hWS:∀i,W (i+1)=(W i).set i (if i<16 then yC b i else DI (W i) i):=by rw[hW];intro i;rfl
 have hWl:∀i,(W i).length=64:=by rw[hW];exact nR b
 have hWz:∀i,g (W i) i=0:=by rw[hW];exact λi=>lM b i i (wy _)
 rw[aQ (λi=>((i:Int),W i)) 0 16 (r:=W 16) (by omega) ?_ (dp rfl) (by rw[hW0];rfl)]
 rotate_left
 · intro i _ hi
   have h1:decide ((i:Int)<16)=true:=by simp;omega
   simp only[h1,wd]
   rw[bA (x:=4*(i:Int)) (by omega),bA (x:=4*(i:Int)+1) (by omega),bA (x:=4*(i:Int)+2) (by omega),bA (x:=4*(i:Int)+3) (by omega),
    aI (z:=4*(i:Int)) (i:=4*i) (by omega) (by omega),aI (z:=4*(i:Int)+1) (i:=4*i+1) (by omega) (by omega),aI (z:=4*(i:Int)+2) (i:=4*i+2) (by omega) (by omega),aI (z:=4*(i:Int)+3) (i:=4*i+3) (by omega) (by omega),
    aI (xs:=W i) (z:=(i:Int)) (i:=i) rfl (by rw[hWl];omega),bA (by omega)]
   simp only[aC,wl,hWS,xN hi]
   rfl
 simp only[aC]
 rw[aQ (λi=>((i:Int),W i)) 16 64 (r:=W 64) (by omega) ?_ (dp rfl) (by rfl)]
 rotate_left
 · intro i h16 hi
   have h1:decide ((i:Int)<64)=true:=by simp;omega
   have hl:=hWl i
   simp only[h1,wd]
   rw[bA (x:=(i:Int) - 15) (by omega),bA (x:=(i:Int) - 2) (by omega),bA (x:=(i:Int) - 7) (by omega),bA (x:=(i:Int) - 16) (by omega),
    aI (z:=(i:Int) - 15) (i:=i - 15) (by omega) (by omega),aI (z:=(i:Int) - 2) (i:=i - 2) (by omega) (by omega),aI (z:=(i:Int) - 7) (i:=i - 7) (by omega) (by omega),aI (z:=(i:Int) - 16) (i:=i - 16) (by omega) (by omega),
    aI (xs:=W i) (z:=(i:Int)) (i:=i) rfl (by omega),bA (by omega)]
   simp only[aC]
   rw[tI (n:=7) (by decide) (by decide) (by decide),tI (n:=18) (by decide) (by decide) (by decide),tI (n:=17) (by decide) (by decide) (by decide),tI (n:=19) (by decide) (by decide) (by decide)]
   simp only[aC,wl,hWS,xv (show¬i<16 by omega)]
   rfl
 simp only[aC]
 generalize hw:W 64=w
 have hwl:w.length=64:=by rw[←hw];exact hWl 64
 obtain⟨V,hV⟩:∃V,V=DX kH w s:=⟨_,rfl⟩
 have hV0:V 0=s:=by rw[hV];rfl
 have hVS:∀i,V (i+1)=s9 kH w i (V i):=by rw[hV];intro i;rfl
 have hVl:∀i,(V i).length=8:=by rw[hV];exact q9 hs
 rw[aQ (λi=>((i:Int),V i)) 0 64 (r:=V 64) (by omega) ?_ (dp rfl) (by rw[hV0];rfl)]
 rotate_left
 · intro i _ hi
   have h1:decide ((i:Int)<64)=true:=by simp;omega
   have hl:=hVl i
   generalize hv:V i=v at hl
   simp only[h1,wd]
   rw[aI (xs:=v) (z:=0) (i:=0) rfl (by omega),aI (xs:=v) (z:=1) (i:=1) rfl (by omega),aI (xs:=v) (z:=2) (i:=2) rfl (by omega),aI (xs:=v) (z:=4) (i:=4) rfl (by omega),aI (xs:=v) (z:=5) (i:=5) rfl (by omega),aI (xs:=v) (z:=6) (i:=6) rfl (by omega),aI (xs:=v) (z:=7) (i:=7) rfl (by omega),aI (xs:=v) (z:=3) (i:=3) rfl (by omega),
    aI (xs:=kH) (z:=(i:Int)) (i:=i) rfl (by omega),aI (xs:=w) (z:=(i:Int)) (i:=i) rfl (by omega),bA (by omega)]
   simp only[aC]
   rw[tI (n:=6) (by decide) (by decide) (by decide),tI (n:=11) (by decide) (by decide) (by decide),tI (n:=25) (by decide) (by decide) (by decide),tI (n:=2) (by decide) (by decide) (by decide),tI (n:=13) (by decide) (by decide) (by decide),tI (n:=22) (by decide) (by decide) (by decide)]
   simp only[aC,hVS,hv]
   rfl
 simp only[aC]
 have hvl:=hVl 64
 generalize hv:V 64=v at hvl
 obtain⟨U,hU⟩:∃U,U=DH s v:=⟨_,rfl⟩
 have hU0:U 0=s:=by rw[hU];rfl
 have hUS:∀i,U (i+1)=(U i).set i (wrap .u32 (g (U i) i+g v i)):=by rw[hU];intro i;rfl
 have hUl:∀i,(U i).length=s.length:=by rw[hU];exact ll
 rw[aQ (λi=>((i:Int),U i)) 0 8 (r:=U 8) (by omega) ?_ (dp rfl) (by rw[hU0];rfl)]
 rotate_left
 · intro i _ hi
   have h1:decide ((i:Int)<8)=true:=by simp;omega
   have hl:=hUl i
   simp only[h1,wd]
   rw[aI (xs:=U i) (z:=(i:Int)) (i:=i) rfl (by omega),aI (xs:=v) (z:=(i:Int)) (i:=i) rfl (by omega),bA (by omega)]
   simp only[aC,wl,hUS]
   rfl
 simp only[aC,blk,←hW,hw,←hV,hv,←hU]
theorem rW (hs:s.length=8) (hk:k.length=64) {at_:Nat} (hm:at_+64≤m.length) (hb:m.length<2^62):du s k m (at_:Int)=some (blk k s ((m.drop at_).take 64)):=by
 generalize hbb:(m.drop at_).take 64=b
 have hbl:b.length=64:=by rw[←hbb];simp;omega
 have hgb:∀j,j<64→m.getD (at_+j) 0=g b j:=λj hj=>by
   rw[←hbb];simp only[g,w9,w8,wT,xN hj]
 unfold du
 obtain⟨W,hW⟩:∃W,W=zG b:=⟨_,rfl⟩
 have hW0:W 0=List.replicate 64 0:=by rw[hW];rfl
 have hWS:∀i,W (i+1)=(W i).set i (if i<16 then yC b i else DI (W i) i):=by rw[hW];intro i;rfl
 have hWl:∀i,(W i).length=64:=by rw[hW];exact nR b
 have hWz:∀i,g (W i) i=0:=by rw[hW];exact λi=>lM b i i (wy _)
 rw[aQ (λi=>((i:Int),W i)) 0 64 (r:=W 64) (by omega) ?_ (dp rfl) (by rw[hW0];rfl)]
 rotate_left
 · intro i _ hi
   have h1:decide ((i:Int)<64)=true:=by simp;omega
   have hl:=hWl i
   simp only[h1,wd]
   by_cases h16:i<16
   · have h2:decide ((i:Int)<16)=true:=by simp;omega
     simp only[h2,wd]
     generalize hw:W i=w at hl
     have hz:g w i=0:=by rw[←hw];exact hWz i
     rw[aQ (λj=>((j:Int),w.set i (uW b i j))) 0 4 (r:=w.set i (uW b i 4)) (by omega) ?_ (dp rfl) ?_]
     rotate_left
     · intro j _ hj
       have h3:decide ((j:Int)<4)=true:=by simp;omega
       simp only[h3,wd]
       rw[bA (x:=4*(i:Int)) (by omega),bA (x:=(at_:Int)+4*(i:Int)) (by omega),bA (x:=(at_:Int)+4*(i:Int)+(j:Int)) (by omega),
        aI (xs:=w.set i (uW b i j)) (z:=(i:Int)) (i:=i) rfl (by simp;omega),aI (xs:=m) (z:=(at_:Int)+4*(i:Int)+(j:Int)) (i:=at_+(4*i+j)) (by omega) (by omega),bA (by omega),hgb _ (by omega)]
       have hu:(w.set i (uW b i j)).getD i 0=uW b i j:=by simp[show i<w.length by omega]
       simp only[aC,hu,wl,List.set_set]
       rw[uW];rfl
     · have:w.set i (uW b i 0)=w:=by
        have h0:w[i]? =some 0:=by
          have:=hz;simp only[g,w9] at this
          rw[ya (show i<w.length by omega)] at this⊢
          simpa using this
        refine yv λq=>?_
        by_cases hq:i=q
        · subst hq;rw[List.getElem?_set_self (by omega),h0,uW]
        · rw[List.getElem?_set_ne hq]
       rw[this];rfl
     simp only[aC]
     rw[bA (by omega)]
     have:uW b i 4=yC b i:=GQ b i
     simp only[hWS,xN h16,hw,this]
     rfl
   · have h2:decide ((i:Int)<16)=false:=by simp;omega
     simp only[h2,wc,aC]
     rw[bA (x:=(i:Int) - 15) (by omega),bA (x:=(i:Int) - 2) (by omega),bA (x:=(i:Int) - 7) (by omega),bA (x:=(i:Int) - 16) (by omega),
       aI (z:=(i:Int) - 15) (i:=i - 15) (by omega) (by omega),aI (z:=(i:Int) - 2) (i:=i - 2) (by omega) (by omega),aI (z:=(i:Int) - 7) (i:=i - 7) (by omega) (by omega),aI (z:=(i:Int) - 16) (i:=i - 16) (by omega) (by omega),
       aI (xs:=W i) (z:=(i:Int)) (i:=i) rfl (by omega),bA (by omega)]
     simp only[aC]
     rw[tK (n:=7) (by decide),tK (n:=18) (by decide),tK (n:=17) (by decide),tK (n:=19) (by decide)]
     simp only[aC,wl,hWS,xv h16]
     rfl
 simp only[aC]
 generalize hw:W 64=w
 have hwl:w.length=64:=by rw[←hw];exact hWl 64
 obtain⟨V,hV⟩:∃V,V=DX k w s:=⟨_,rfl⟩
 have hV0:V 0=s:=by rw[hV];rfl
 have hVS:∀i,V (i+1)=s9 k w i (V i):=by rw[hV];intro i;rfl
 have hVl:∀i,(V i).length=8:=by rw[hV];exact q9 hs
 rw[aQ (λi=>((i:Int),V i)) 0 64 (r:=V 64) (by omega) ?_ (dp rfl) (by rw[hV0];rfl)]
 rotate_left
 · intro i _ hi
   have h1:decide ((i:Int)<64)=true:=by simp;omega
   have hl:=hVl i
   generalize hv:V i=v at hl
   simp only[h1,wd]
   rw[aI (xs:=v) (z:=0) (i:=0) rfl (by omega),aI (xs:=v) (z:=1) (i:=1) rfl (by omega),aI (xs:=v) (z:=2) (i:=2) rfl (by omega),aI (xs:=v) (z:=4) (i:=4) rfl (by omega),aI (xs:=v) (z:=5) (i:=5) rfl (by omega),aI (xs:=v) (z:=6) (i:=6) rfl (by omega),aI (xs:=v) (z:=7) (i:=7) rfl (by omega),aI (xs:=v) (z:=3) (i:=3) rfl (by omega),
     aI (xs:=k) (z:=(i:Int)) (i:=i) rfl (by omega),aI (xs:=w) (z:=(i:Int)) (i:=i) rfl (by omega),bA (by omega)]
   simp only[aC]
   rw[tK (n:=6) (by decide),tK (n:=11) (by decide),tK (n:=25) (by decide),tK (n:=2) (by decide),tK (n:=13) (by decide),tK (n:=22) (by decide)]
   simp only[aC,hVS,hv]
   rfl
 simp only[aC]
 have hvl:=hVl 64
 generalize hv:V 64=v at hvl
 obtain⟨U,hU⟩:∃U,U=DH s v:=⟨_,rfl⟩
 have hU0:U 0=s:=by rw[hU];rfl
 have hUS:∀i,U (i+1)=(U i).set i (wrap .u32 (g (U i) i+g v i)):=by rw[hU];intro i;rfl
 have hUl:∀i,(U i).length=s.length:=by rw[hU];exact ll
 rw[aQ (λi=>((i:Int),U i)) 0 8 (r:=U 8) (by omega) ?_ (dp rfl) (by rw[hU0];rfl)]
 rotate_left
 · intro i _ hi
   have h1:decide ((i:Int)<8)=true:=by simp;omega
   have hl:=hUl i
   simp only[h1,wd]
   rw[aI (xs:=U i) (z:=(i:Int)) (i:=i) rfl (by omega),aI (xs:=v) (z:=(i:Int)) (i:=i) rfl (by omega),bA (by omega)]
   simp only[aC,wl,hUS]
   rfl
 simp only[aC,blk,←hW,hw,←hV,hv,←hU]
end
end Go.Proofs.YtkjlhdndbdenaaaGreatDoor
set_option maxRecDepth 20000
namespace Go.Proofs.YtkjlhdndbdenaaaGreatDoor
open Go Go.Sim
open Go.IntKind (wrap)
variable [Fu]
def IV:List Int:=[1779033703,3144134277,1013904242,2773480762,1359893119,2600822924,528734635,1541459225]
def rH (m:List Int) (i:Nat):List Int:=(m.drop (64*i)).take 64
def x4 (m:List Int):Nat→List Int|0=>IV|n+1=>blk kH (x4 m n) (rH m n)
theorem lm (m:List Int):∀n,(x4 m n).length=8|0=>rfl|n+1=>by rw[x4,uy (lm m n)]
theorem rY {p q:List Int} {i:Nat} (h:64*(i+1)≤p.length):rH (p++q) i=rH p i:=by unfold rH;rw[xx (by omega),xw (by simp;omega)]
theorem nS {p q:List Int}:∀{n:Nat},64*n≤p.length→x4 (p++q) n=x4 p n|0,_=>rfl|n+1,h=>by rw[x4,x4,nS (by omega),rY h]
structure HR (h:aJ) (q:List Int):Prop where
 n:h.n=q.length
 tl:h.tail.length=64
 tail:h.tail.take (q.length%64)=q.drop (64*(q.length / 64))
 words:h.words=x4 q (q.length / 64)
structure Ef (h:aJ) (q:List Int):Prop where
 n:h.n=q.length
 tl:h.tail.length=64
 tail:h.tail.take (q.length%64)=q.drop (64*(q.length / 64))
 words:64≤q.length→h.words=x4 q (q.length / 64)
theorem HR.zero {h:aJ} {q:List Int} (r:HR h q):Ef h q:=⟨r.n,r.tl,r.tail,λ_=>r.words⟩
theorem iQ {xs ys:List Int} {a b:Nat} (h1:a≤b) (h2:b≤xs.length):over xs a b ys=xs.take a++ys.take (b - a)++xs.drop (a+min ys.length (b - a)):=by unfold over;rfl
theorem ta:∃h,g8=some h∧Ef h []:=⟨_,rfl,⟨rfl,by simp,by simp,λh=>by simp at h⟩⟩
theorem jd {h:aJ} {q a:List Int} (b:Ef h q) (c:q.length+a.length<2^60):∃c,cl h a=some c∧HR c (q++a):=by unfold cl;(have d:∃f,(bif decide (h.n<64) then(gF).bind λe=>some ({h with words:=e}:aJ) else some h:Option aJ)=some f∧HR f q:=by by_cases e:q.length<64;(have e:decide (h.n<64)=true:=by rw[b.n];simp;omega);rw[e];refine⟨_,rfl,b.n,b.tl,b.tail,?_⟩;(have:q.length / 64=0:=by omega);rw[this];rfl;(have e:decide (h.n<64)=false:=by rw[b.n];simp;omega);rw[e];exact⟨h,rfl,b.n,b.tl,b.tail,b.words (by omega)⟩);obtain⟨f,b,e⟩:=d;rw[b];simp only[aC];refine sU (gd (P:=λs=>∃p,HR s.2 p∧p++s.1=q++a) (Q:=λc=>HR c (q++a)) (λs=>s.1.length) ?_ (s:=(a,f)) ⟨q,e,rfl⟩);rintro⟨b,k⟩ ⟨p,d,e⟩;simp only at d e⊢;(have c:p.length+b.length=q.length+a.length:=by have:=congrArg List.length e;simpa using this);cases c:b with|nil=>subst c;left;refine⟨k,by simp,?_⟩;rw[yY] at e;rw[←e];exact d|cons x f=>right;rw[←c];(have f:0<b.length:=by rw[c];simp);(have c:decide ((b.length:Int)>0)=true:=by simp;omega);rw[c,d.n];have em:Int.tmod (p.length:Int) 64=((p.length%64:Nat):Int):=rfl;have c:p.length%64<64:=Nat.mod_lt _ (by decide);simp only[wd,em,wl];generalize f:p.length%64=r at c;(have c:decide ((0:Int)≤(r:Int)∧(r:Int)≤64∧(64:Int)≤64)=true:=by simp;omega);have i:Int.toNat 64=64:=rfl;(have j:decide (r≤Int.toNat 64∧Int.toNat 64≤64)=true:=by simp;omega);rw[c,j];simp only[wd,i];generalize i:min b.length (64 - r)=c;(have j:1≤c:=by omega);(have j:c≤b.length:=by omega);(have j:r+c≤64:=by omega);(have j:sub b (c:Int) (b.length:Int)=some (b.drop c):=by unfold sub;(have d1:decide (0≤(c:Int))=true:=by simp);(have d2:decide ((c:Int)≤(b.length:Int))=true:=by simp;omega);rw[d1,d2];simp);rw[j,eX (x:=(c:Int)) (by omega),eX (x:=(p.length:Int)+(c:Int)) (by omega)];simp only[aC];have j:=d.tl;(have j:over k.tail r 64 b=k.tail.take r++b.take (64 - r)++k.tail.drop (r+c):=by rw[iQ (by omega) (by omega),i]);(have i:(over k.tail r 64 b).length=64:=by rw[j];simp;omega);have l:=d.tail;rw[f] at l;(have m:(p++b.take c)++b.drop c=q++a:=by rw[wM,xn,e]);(have e:(p++b.take c).length=p.length+c:=by simp;omega);(have n:p.length=64*(p.length / 64)+r:=by rw[←f];exact(Nat.div_add_mod _ _).symm);(have f:Int.tmod ((p.length:Int)+(c:Int)) 64=(((p.length+c)%64:Nat):Int):=by rw[←Int.natCast_add];rfl);rw[f];by_cases f:r+c=64;(have f:(p.length+c)%64=0:=by omega);(have n:(p.length+c) / 64=p.length / 64+1:=by omega);rw[f];simp only[Int.ofNat_zero,Int.natCast_zero,yO,wd];(have o:over k.tail r 64 b=rH (p++b.take c) (p.length / 64):=by rw[j,l];unfold rH;have:k.tail.drop (r+c)=[]:=yp (by omega);(have s:(p.drop (64*(p.length / 64))++b.take c).length=64:=by simp;omega);rw[this,yY,show 64 - r=c by omega,xx (by omega)];exact(wn (by omega)).symm);rw[qr (by rw[d.words,lm]) i];simp only[aC];refine⟨_,rfl,⟨p++b.take c,⟨?_,i,?_,?_⟩,m⟩,?_⟩;simp only[e];omega;rw[e,f,n];simp only[yh];exact(yp (by rw[e];omega)).symm;rw[e,n,x4,nS (by omega),←o,d.words];simp;omega;(have f:(p.length+c)%64=r+c:=by omega);(have n:(p.length+c) / 64=p.length / 64:=by omega);(have o:((((p.length+c)%64:Nat):Int)==0)=false:=by rw[f];simp;omega);rw[o];simp only[wc];refine⟨_,rfl,⟨p++b.take c,⟨?_,i,?_,?_⟩,m⟩,?_⟩;show(p.length:Int)+(c:Int)=(((p++b.take c).length:Nat):Int);rw[e];simp;(have i:c=b.length:=by omega);rw[e,f,n];show(over k.tail r 64 b).take (r+c)=_;rw[j,l];(have f:b.take (64 - r)=b.take c:=by rw[wn (by omega),wn (by omega)]);(have i:(p.drop (64*(p.length / 64))++b.take (64 - r)).length=r+c:=by simp;omega);rw[xw (by omega),wn (by omega),f,xx (by omega)];rw[e,n,nS (by omega)];exact d.words;simp;omega
end Go.Proofs.YtkjlhdndbdenaaaGreatDoor
set_option maxRecDepth 20000
namespace Go.Proofs.YtkjlhdndbdenaaaGreatDoor
open Go Go.Sim
open Go.IntKind (wrap)
variable [Fu]
def pK (n:Nat):Nat→List Int|0=>[]|i+1=>pK n i++[IntKind.u8.wrap (cv .u64 (IntKind.u64.wrap ((n:Int)*8)) (56 - 8*(i:Int)))]
theorem je (n:Nat):∀i,(pK n i).length=i|0=>rfl|i+1=>by rw[pK,wi,je n i];rfl
def ez (n:Nat):Nat:=(119 - n%64)%64
def fill (n:Nat):List Int:=128::List.replicate (ez n) 0
def vA (p:List Int):List Int:=p++(fill p.length++pK p.length 8)
theorem lN (n:Nat):(fill n).length=1+ez n:=by simp[fill];omega
theorem ra (p:List Int):(vA p).length=p.length+9+ez p.length:=by unfold vA;rw[wi,wi,lN,je];omega
theorem uz (p:List Int):(vA p).length%64=0:=by rw[ra];unfold ez;omega
def C1 (v:List Int):Nat→List Int|0=>List.replicate 32 0|i+1=>(C1 v i).set i (IntKind.u8.wrap (cv .u32 (g v (i / 4)) (24 - 8*((i%4:Nat):Int))))
theorem ln (v:List Int):∀i,(C1 v i).length=32|0=>by simp[C1]|i+1=>by rw[C1,yj,ln v i]
def gJ (p:List Int):List Int:=C1 (x4 (vA p) ((vA p).length / 64)) 32
theorem iR (p:List Int):(gJ p).length=32:=ln _ _
theorem mU (v:List Int):∀i,aT (C1 v i)|0=>λb a=>by simp[C1] at a;omega|i+1=>λb a=>by rw[C1] at a;rcases List.mem_or_eq_of_mem_set a with h|rfl;exact mU v i b h;exact io _
theorem nT (p:List Int):aT (gJ p):=mU _ _
theorem Ff {x:Int}:c5 .u64 x 3=IntKind.u64.wrap (x*8):=rfl
theorem E2 {x:Int}:cv .u32 x 0=x:=by have:cv .u32 x 0=x.fdiv 1:=rfl;rw[this];simp
theorem jf {h:aJ} {p:List Int} (a:Ef h p) (b:p.length<2^59):dn h=some (gJ p):=by
 unfold dn
 have b:=a.n
 have c:wrap .u64 (1+Int.tmod (wrap .u64 (119 - Int.tmod h.n 64)) 64)=((1+ez p.length:Nat):Int):=by
   have d:Int.tmod h.n 64=((p.length%64:Nat):Int):=by rw[b];rfl
   rw[d,eX (x:=119 - ((p.length%64:Nat):Int)) (by omega)]
   have d:(119 - ((p.length%64:Nat):Int))=((119 - p.length%64:Nat):Int):=by omega
   have e:Int.tmod ((119 - p.length%64:Nat):Int) 64=((ez p.length:Nat):Int):=rfl
   rw[d,e,eX (by unfold ez;omega)];simp
 rw[c]
 have c:ez p.length<64:=Nat.mod_lt _ (by decide)
 have e:mA ((1+ez p.length:Nat):Int) 72=true:=by
   unfold mA
   have:(c7:Int)=17179869184:=rfl
   simp only[this,wq,wz];omega
 rw[e]
 simp only[wd,wl]
 rw[aI (xs:=List.replicate (1+ez p.length) 0) (z:=0) (i:=0) rfl (by rw[xX];omega)]
 simp only[aC]
 have c:List.set (List.replicate (1+ez p.length) (0:Int)) (Int.toNat 0) 128=fill p.length:=by
   rw[Nat.add_comm];rfl
 rw[c]
 have l:=lN p.length
 rw[aQ (λi=>(fill p.length++pK p.length i,56 - 8*(i:Int))) 0 8 (r:=fill p.length++pK p.length 8) (by omega) ?_ (dp rfl) (by simp[pK])]
 rotate_left
 · intro i _ c
   have d:decide (56 - 8*(i:Int)≥0)=true:=by simp;omega
   have e:decide (0≤56 - 8*(i:Int))=true:=by simp;omega
   simp only[d,e,wd]
   have m:=je p.length i
   rw[bb (by rw[wi];simp[c7];omega),bA (by omega),Ff,b]
   have b:(56 - 8*(i:Int)) - 8=56 - 8*((i+1:Nat):Int):=by omega
   simp only[aC,pK,wM,b]
 simp only[aC]
 have k:(fill p.length++pK p.length 8).length=9+ez p.length:=by rw[wi,je];omega
 obtain⟨b,e,f⟩:=jd a (a:=fill p.length++pK p.length 8) (by omega)
 rw[e]
 simp only[aC]
 have a:b.words=x4 (vA p) ((vA p).length / 64):=f.words
 rw[a]
 generalize a:x4 (vA p) ((vA p).length / 64)=v
 have o:v.length=8:=by rw[←a];exact lm _ _
 obtain⟨O,e⟩:∃O,O=C1 v:=⟨_,rfl⟩
 have f:O 0=List.replicate 32 0:=by rw[e];rfl
 have b:∀i,O (i+1)=(O i).set i (IntKind.u8.wrap (cv .u32 (g v (i / 4)) (24 - 8*((i%4:Nat):Int)))):=by rw[e];intro i;rfl
 have j:∀i,(O i).length=32:=by rw[e];exact ln v
 rw[aQ (λi=>((i:Int),O (4*i))) 0 8 (r:=O 32) (by omega) ?_ (dp rfl) (by rw[Nat.mul_zero,f];rfl)]
 rotate_left
 · intro i _ c
   have d:decide ((i:Int)<8)=true:=by simp;omega
   simp only[d,wd]
   rw[bA (x:=4*(i:Int)) (by omega),bA (x:=4*(i:Int)+1) (by omega),bA (x:=4*(i:Int)+2) (by omega),bA (x:=4*(i:Int)+3) (by omega),bA (by omega)]
   have t0:Int.toNat (4*(i:Int))=4*i:=by omega
   have t1:Int.toNat (4*(i:Int)+1)=4*i+1:=by omega
   have t2:Int.toNat (4*(i:Int)+2)=4*i+2:=by omega
   have t3:Int.toNat (4*(i:Int)+3)=4*i+3:=by omega
   rw[t0,t1,t2,t3,aI (xs:=v) (z:=(i:Int)) (i:=i) rfl (by omega)]
   have c:=j (4*i)
   rw[aI (xs:=O (4*i)) (z:=4*(i:Int)) (i:=4*i) (by omega) (by omega)]
   simp only[aC]
   rw[aI (z:=4*(i:Int)+1) (i:=4*i+1) (by omega) (by simp;omega)]
   simp only[aC]
   rw[aI (z:=4*(i:Int)+2) (i:=4*i+2) (by omega) (by simp;omega)]
   simp only[aC]
   rw[aI (z:=4*(i:Int)+3) (i:=4*i+3) (by omega) (by simp;omega)]
   simp only[aC]
   have d:O (4*(i+1))=List.set (List.set (List.set (List.set (O (4*i)) (4*i) (IntKind.u8.wrap (cv .u32 (v.getD i 0) 24))) (4*i+1) (IntKind.u8.wrap (cv .u32 (v.getD i 0) 16))) (4*i+2) (IntKind.u8.wrap (cv .u32 (v.getD i 0) 8))) (4*i+3) (IntKind.u8.wrap (v.getD i 0)):=by
    rw[show 4*(i+1)=4*i+1+1+1+1 by omega,b,b,b,b]
    have b:4*i / 4=i:=by omega
    have c:(4*i+1) / 4=i:=by omega
    have f:(4*i+1+1) / 4=i:=by omega
    have j:(4*i+1+1+1) / 4=i:=by omega
    have k:4*i%4=0:=by omega
    have l:(4*i+1)%4=1:=by omega
    have m:(4*i+1+1)%4=2:=by omega
    have n:(4*i+1+1+1)%4=3:=by omega
    rw[b,c,f,j,k,l,m,n]
    have b:(24 - 8*((3:Nat):Int))=0:=rfl
    rw[b,E2];rfl
   rw[d];rfl
 simp only[aC]
 show some (O 32)=some (gJ p)
 unfold gJ;rw[a,e]
theorem tc {p:List Int} (a:p.length<2^59):fS p=some (gJ p):=by unfold fS;obtain⟨h,e,r⟩:=ta;rw[e];simp only[aC];obtain⟨b,b,c⟩:=jd r (a:=p) (by simp;omega);rw[b];simp only[aC];rw[jf (p:=p) (by simpa using c.zero) a];rfl
theorem qt {p:List Int} (a:p.length<2^31):dt p=some (vA p):=by
 unfold dt
 have b:c7=17179869184:=rfl
 rw[bA (by omega)]
 have c:mA 0 ((p.length:Int)+72)=true:=by
   unfold mA
   have:(c7:Int)=17179869184:=rfl
   simp only[this,wq,wz];omega
 rw[c]
 simp only[wd]
 rw[bb (by simp[c7];omega)]
 simp only[aC,Int.toNat_zero,List.replicate_zero,wQ]
 rw[bb (by simp[c7];omega)]
 simp only[aC]
 have a:ez p.length<64:=Nat.mod_lt _ (by decide)
 rw[aQ (λi=>p++(128::List.replicate i 0)) 0 (ez p.length) (r:=p++fill p.length) (by omega) ?_ ?_ (by rfl)]
 rotate_left
 · intro i _ c
   have e:(p++(128::List.replicate i (0:Int))).length=p.length+1+i:=by simp;omega
   have a:((Int.tmod ((p++(128::List.replicate i (0:Int))).length:Int) 64) != 56)=true:=by
    rw[e]
    have:Int.tmod ((p.length+1+i:Nat):Int) 64=(((p.length+1+i)%64:Nat):Int):=rfl
    rw[this]
    have:(p.length+1+i)%64≠56:=by unfold ez at c;omega
    simp;omega
   simp only[a,wd]
   rw[bb (by rw[e];simp[b];omega)]
   simp only[aC,wM,xP]
   rw[←List.replicate_succ']
 · have e:(p++(128::List.replicate (ez p.length) (0:Int))).length=p.length+1+ez p.length:=by simp;omega
   have a:((Int.tmod ((p++(128::List.replicate (ez p.length) (0:Int))).length:Int) 64) != 56)=false:=by
    rw[e]
    have:Int.tmod ((p.length+1+ez p.length:Nat):Int) 64=(((p.length+1+ez p.length)%64:Nat):Int):=rfl
    rw[this]
    have:(p.length+1+ez p.length)%64=56:=by unfold ez;omega
    rw[this];rfl
   simp only[a,wc];rfl
 simp only[aC]
 have d:(p++fill p.length).length=p.length+1+ez p.length:=by rw[wi,lN];omega
 rw[aQ (λi=>((p++fill p.length)++pK p.length i,(i:Int))) 0 8 (r:=(p++fill p.length)++pK p.length 8) (by omega) ?_ (dp rfl) (by simp[pK])]
 rotate_left
 · intro i _ c
   have a:decide ((i:Int)<8)=true:=by simp;omega
   have f:=je p.length i
   rw[bA (x:=8*(i:Int)) (by omega),bA (x:=56 - 8*(i:Int)) (by omega)]
   have b:decide (0≤56 - 8*(i:Int))=true:=by simp;omega
   simp only[a,b,wd]
   rw[bb (by rw[wi];simp only[List.length_singleton];omega),bA (by omega),eX (x:=(p.length:Int)) (by omega)]
   simp only[aC,pK,wM]
   rfl
 simp only[aC,vA,wM]
theorem rZ:ei=some kH:=rfl
theorem nU {p:List Int} (a:p.length<2^31):cu p=some (gJ p):=by
 unfold cu
 rw[rZ,qt a]
 simp only[aC]
 have d:kH.length=64:=rfl
 have j:=ra p
 have k:=uz p
 have a:ez p.length<64:=Nat.mod_lt _ (by decide)
 obtain⟨C,j⟩:∃C,C=x4 (vA p):=⟨_,rfl⟩
 have b:C 0=IV:=by rw[j];rfl
 have c:∀n,C (n+1)=blk kH (C n) (rH (vA p) n):=by rw[j];intro n;rfl
 have a:∀n,(C n).length=8:=by rw[j];exact lm _
 have e:(vA p).length=64*((vA p).length / 64):=by omega
 rw[aQ (λi=>(((64*i:Nat):Int),C i)) 0 ((vA p).length / 64) (r:=C ((vA p).length / 64)) (by omega) ?_ ?_ (by rw[b];rfl)]
 rotate_left
 · intro i _ b
   have k:decide (((64*i:Nat):Int)<((vA p).length:Int))=true:=by simp;omega
   simp only[k,wd]
   rw[rW (a i) d (by omega) (by omega),bA (by omega)]
   simp only[aC]
   rw[c]
   have d:((64*i:Nat):Int)+64=((64*(i+1):Nat):Int):=by omega
   rw[d];rfl
 · refine dp ?_
   simp;omega
 simp only[aC]
 generalize c:C ((vA p).length / 64)=v
 have l:v.length=8:=by rw[←c];exact a _
 obtain⟨O,a⟩:∃O,O=C1 v:=⟨_,rfl⟩
 have e:O 0=List.replicate 32 0:=by rw[a];rfl
 have f:∀i,O (i+1)=(O i).set i (IntKind.u8.wrap (cv .u32 (g v (i / 4)) (24 - 8*((i%4:Nat):Int)))):=by rw[a];intro i;rfl
 have h:∀i,(O i).length=32:=by rw[a];exact ln v
 rw[aQ (λi=>((i:Int),O i)) 0 32 (r:=O 32) (by omega) ?_ (dp rfl) (by rw[e];rfl)]
 rotate_left
 · intro i _ b
   have k:decide ((i:Int)<32)=true:=by simp;omega
   have b:Int.tdiv (i:Int) 4=((i / 4:Nat):Int):=rfl
   have d:Int.tmod (i:Int) 4=((i%4:Nat):Int):=rfl
   simp only[k,wd,b,d]
   rw[bA (x:=((i / 4:Nat):Int)) (by omega),bA (x:=8*((i%4:Nat):Int)) (by omega),bA (x:=24 - 8*((i%4:Nat):Int)) (by omega)]
   have b:decide (0≤24 - 8*((i%4:Nat):Int))=true:=by simp;omega
   have d:=h i
   rw[aI (xs:=v) (z:=((i / 4:Nat):Int)) (i:=i / 4) rfl (by omega),b,aI (xs:=O i) (z:=(i:Int)) (i:=i) rfl (by omega),bA (by omega)]
   simp only[aC,wd,wl]
   rw[f];rfl
 simp only[aC]
 unfold gJ;rw[a,←c,j]
end Go.Proofs.YtkjlhdndbdenaaaGreatDoor
