import Derived.Test.YtobbmodjdkcdcaaGreatDoorLawBits
import Derived.Test.YtobbmodjdkcdcaaGreatDoorRm9
set_option autoImplicit true
set_option relaxedAutoImplicit true
set_option linter.all false
set_option maxRecDepth 20000
namespace Go.Proofs.YtobbmodjdkcdcaaGreatDoor
open Go Go.Sim
open Go.IntKind (wrap)
variable [Fu]
def RI (x n:Int):Int:=PV .u32 (K_ .u32 x n) (OX .u32 x (32 - n))
theorem SP {x:Int} {a n:Int} (h1:OZ .u64 (wrap .u64 a) 31=32 - n) (h2:wrap .u64 (32 - (32 - n))=n) (h3:0≤n∧n≤32):bU x a=some (RI x n):=by unfold bU RI;rw[h1,h2];(have e1:decide (0≤32 - n)=true:=by simp;omega);(have e2:decide (0≤n)=true:=by simp;omega);rw[e1,e2,EL];rfl
theorem SU {x n:Int} (h:0≤n∧n≤32):bW x n=some (RI x n):=by unfold bW RI;(have e1:decide (0≤n)=true:=by simp;omega);(have e2:decide (0≤32 - n)=true:=by simp;omega);rw[wrap64 (by omega),e1,e2];rfl
def g (l:List Int) (i:Nat):Int:=l.getD i 0
def UL (b:List Int) (i:Nat):Int:=PV .u32 (PV .u32 (PV .u32 (OX .u32 (IntKind.u32.wrap (g b (4*i))) 24) (OX .u32 (IntKind.u32.wrap (g b (4*i+1))) 16)) (OX .u32 (IntKind.u32.wrap (g b (4*i+2))) 8)) (IntKind.u32.wrap (g b (4*i+3)))
def uW (b:List Int) (i:Nat):Nat→Int|0=>0|j+1=>PV .u32 (OX .u32 (uW b i j) 8) (IntKind.u32.wrap (g b (4*i+j)))
theorem uW4 (b:List Int) (i:Nat):uW b i 4=UL b i:=by simp only[uW,UL,JJ];exact Yx _ _ _ _
def WQ (w:List Int) (t:Nat):Int:=wrap .u32 ((wrap .u32 ((wrap .u32 ((g_ .u32 (g_ .u32 (RI (g w (t - 2)) 17) (RI (g w (t - 2)) 19)) (K_ .u32 (g w (t - 2)) 10))+g w (t - 7)))+(g_ .u32 (g_ .u32 (RI (g w (t - 15)) 7) (RI (g w (t - 15)) 18)) (K_ .u32 (g w (t - 15)) 3))))+g w (t - 16))
def Vy (b:List Int):Nat→List Int|0=>List.replicate 64 0|i+1=>(Vy b i).set i (if i<16 then UL b i else WQ (Vy b i) i)
def EV (k w:List Int) (i:Nat) (v:List Int):List Int:=
 let one:=wrap .u32 ((wrap .u32 ((wrap .u32 ((wrap .u32 (g v 7+(g_ .u32 (g_ .u32 (RI (g v 4) 6) (RI (g v 4) 11)) (RI (g v 4) 25))))+(g_ .u32 (OZ .u32 (g v 4) (g v 5)) (OZ .u32 (Rv .u32 (g v 4)) (g v 6)))))+g k i))+g w i)
 let two:=wrap .u32 ((g_ .u32 (g_ .u32 (RI (g v 0) 2) (RI (g v 0) 13)) (RI (g v 0) 22))+(g_ .u32 (g_ .u32 (OZ .u32 (g v 0) (g v 1)) (OZ .u32 (g v 0) (g v 2))) (OZ .u32 (g v 1) (g v 2))))
 [wrap .u32 (one+two),g v 0,g v 1,g v 2,wrap .u32 (g v 3+one),g v 4,g v 5,g v 6]
def XN (k w s:List Int):Nat→List Int|0=>s|i+1=>EV k w i (XN k w s i)
def Xj (s v:List Int):Nat→List Int|0=>s|i+1=>(Xj s v i).set i (wrap .u32 (g (Xj s v i) i+g v i))
def blk (k s b:List Int):List Int:=Xj s (XN k (Vy b 64) s 64) 8
theorem zT (b:List Int):∀i,(Vy b i).length=64|0=>by simp[Vy]|i+1=>by rw[Vy,Jy,zT b i]
theorem Dd {k w s:List Int} (h:s.length=8):∀i,(XN k w s i).length=8
 |0=>h
 |i+1=>rfl
theorem vL {s v:List Int}:∀i,(Xj s v i).length=s.length
 |0=>rfl
 |i+1=>by rw[Xj,Jy,vL i]
theorem Ga {k s b:List Int} (h:s.length=8):(blk k s b).length=8:=by rw[blk,vL,h]
theorem wu (b:List Int):∀i j,i≤j→g (Vy b i) j=0|0,j,_=>by simp only[Vy,g,IH,List.getElem?_replicate];split<;>rfl|i+1,j,h=>by have:=wu b i j (by omega);simp only[Vy,g,IH] at this⊢;rw[List.getElem?_set_ne (by omega)];exact this
section
variable {s b k m:List Int}
theorem Cy (hs:s.length=8) (hb:b.length=64):gF s b=some (blk QH s b):=by
 have hg:QH.length=64:=rfl
 unfold gF
 obtain⟨W,hW⟩:∃W,W=Vy b:=⟨_,rfl⟩
 have hW0:W 0=List.replicate 64 0:=by rw[hW];rfl
 have hWS:∀i,W (i+1)=(W i).set i (if i<16 then UL b i else WQ (W i) i):=by rw[hW];intro i;rfl
 have hWl:∀i,(W i).length=64:=by rw[hW];exact zT b
 have hWz:∀i,g (W i) i=0:=by rw[hW];exact λi=>wu b i i (HK _)
 rw[aY (λi=>((i:Int),W i)) 0 16 (r:=W 16) (by omega) ?_ (dF rfl) (by rw[hW0];rfl)]
 rotate_left
 · intro i _ hi
   have h1:decide ((i:Int)<16)=true:=by simp;omega
   simp only[h1,Hn]
   rw[wrap64 (x:=4*(i:Int)) (by omega),wrap64 (x:=4*(i:Int)+1) (by omega),wrap64 (x:=4*(i:Int)+2) (by omega),wrap64 (x:=4*(i:Int)+3) (by omega),
    aJ (z:=4*(i:Int)) (i:=4*i) (by omega) (by omega),aJ (z:=4*(i:Int)+1) (i:=4*i+1) (by omega) (by omega),aJ (z:=4*(i:Int)+2) (i:=4*i+2) (by omega) (by omega),aJ (z:=4*(i:Int)+3) (i:=4*i+3) (by omega) (by omega),
    aJ (xs:=W i) (z:=(i:Int)) (i:=i) rfl (by rw[hWl];omega),wrap64 (by omega)]
   simp only[aB,Hq,hWS,Il hi]
   rfl
 simp only[aB]
 rw[aY (λi=>((i:Int),W i)) 16 64 (r:=W 64) (by omega) ?_ (dF rfl) (by rfl)]
 rotate_left
 · intro i h16 hi
   have h1:decide ((i:Int)<64)=true:=by simp;omega
   have hl:=hWl i
   simp only[h1,Hn]
   rw[wrap64 (x:=(i:Int) - 15) (by omega),wrap64 (x:=(i:Int) - 2) (by omega),wrap64 (x:=(i:Int) - 7) (by omega),wrap64 (x:=(i:Int) - 16) (by omega),
    aJ (z:=(i:Int) - 15) (i:=i - 15) (by omega) (by omega),aJ (z:=(i:Int) - 2) (i:=i - 2) (by omega) (by omega),aJ (z:=(i:Int) - 7) (i:=i - 7) (by omega) (by omega),aJ (z:=(i:Int) - 16) (i:=i - 16) (by omega) (by omega),
    aJ (xs:=W i) (z:=(i:Int)) (i:=i) rfl (by omega),wrap64 (by omega)]
   simp only[aB]
   rw[SP (n:=7) (by decide) (by decide) (by decide),SP (n:=18) (by decide) (by decide) (by decide),SP (n:=17) (by decide) (by decide) (by decide),SP (n:=19) (by decide) (by decide) (by decide)]
   simp only[aB,Hq,hWS,Ic (show¬i<16 by omega)]
   rfl
 simp only[aB]
 generalize hw:W 64=w
 have hwl:w.length=64:=by rw[←hw];exact hWl 64
 obtain⟨V,hV⟩:∃V,V=XN QH w s:=⟨_,rfl⟩
 have hV0:V 0=s:=by rw[hV];rfl
 have hVS:∀i,V (i+1)=EV QH w i (V i):=by rw[hV];intro i;rfl
 have hVl:∀i,(V i).length=8:=by rw[hV];exact Dd hs
 rw[aY (λi=>((i:Int),V i)) 0 64 (r:=V 64) (by omega) ?_ (dF rfl) (by rw[hV0];rfl)]
 rotate_left
 · intro i _ hi
   have h1:decide ((i:Int)<64)=true:=by simp;omega
   have hl:=hVl i
   generalize hv:V i=v at hl
   simp only[h1,Hn]
   rw[aJ (xs:=v) (z:=0) (i:=0) rfl (by omega),aJ (xs:=v) (z:=1) (i:=1) rfl (by omega),aJ (xs:=v) (z:=2) (i:=2) rfl (by omega),aJ (xs:=v) (z:=4) (i:=4) rfl (by omega),aJ (xs:=v) (z:=5) (i:=5) rfl (by omega),aJ (xs:=v) (z:=6) (i:=6) rfl (by omega),aJ (xs:=v) (z:=7) (i:=7) rfl (by omega),aJ (xs:=v) (z:=3) (i:=3) rfl (by omega),
    aJ (xs:=QH) (z:=(i:Int)) (i:=i) rfl (by omega),aJ (xs:=w) (z:=(i:Int)) (i:=i) rfl (by omega),wrap64 (by omega)]
   simp only[aB]
   rw[SP (n:=6) (by decide) (by decide) (by decide),SP (n:=11) (by decide) (by decide) (by decide),SP (n:=25) (by decide) (by decide) (by decide),SP (n:=2) (by decide) (by decide) (by decide),SP (n:=13) (by decide) (by decide) (by decide),SP (n:=22) (by decide) (by decide) (by decide)]
   simp only[aB,hVS,hv]
   rfl
 simp only[aB]
 have hvl:=hVl 64
 generalize hv:V 64=v at hvl
 obtain⟨U,hU⟩:∃U,U=Xj s v:=⟨_,rfl⟩
 have hU0:U 0=s:=by rw[hU];rfl
 have hUS:∀i,U (i+1)=(U i).set i (wrap .u32 (g (U i) i+g v i)):=by rw[hU];intro i;rfl
 have hUl:∀i,(U i).length=s.length:=by rw[hU];exact vL
 rw[aY (λi=>((i:Int),U i)) 0 8 (r:=U 8) (by omega) ?_ (dF rfl) (by rw[hU0];rfl)]
 rotate_left
 · intro i _ hi
   have h1:decide ((i:Int)<8)=true:=by simp;omega
   have hl:=hUl i
   simp only[h1,Hn]
   rw[aJ (xs:=U i) (z:=(i:Int)) (i:=i) rfl (by omega),aJ (xs:=v) (z:=(i:Int)) (i:=i) rfl (by omega),wrap64 (by omega)]
   simp only[aB,Hq,hUS]
   rfl
 simp only[aB,blk,←hW,hw,←hV,hv,←hU]
theorem DY (hs:s.length=8) (hk:k.length=64) {at_:Nat} (hm:at_+64≤m.length) (hb:m.length<2^62):f7 s k m (at_:Int)=some (blk k s ((m.drop at_).take 64)):=by
 generalize hbb:(m.drop at_).take 64=b
 have hbl:b.length=64:=by rw[←hbb];simp;omega
 have hgb:∀j,j<64→m.getD (at_+j) 0=g b j:=λj hj=>by
   rw[←hbb];simp only[g,IH,Iw,H5,Il hj]
 unfold f7
 obtain⟨W,hW⟩:∃W,W=Vy b:=⟨_,rfl⟩
 have hW0:W 0=List.replicate 64 0:=by rw[hW];rfl
 have hWS:∀i,W (i+1)=(W i).set i (if i<16 then UL b i else WQ (W i) i):=by rw[hW];intro i;rfl
 have hWl:∀i,(W i).length=64:=by rw[hW];exact zT b
 have hWz:∀i,g (W i) i=0:=by rw[hW];exact λi=>wu b i i (HK _)
 rw[aY (λi=>((i:Int),W i)) 0 64 (r:=W 64) (by omega) ?_ (dF rfl) (by rw[hW0];rfl)]
 rotate_left
 · intro i _ hi
   have h1:decide ((i:Int)<64)=true:=by simp;omega
   have hl:=hWl i
   simp only[h1,Hn]
   by_cases h16:i<16
   · have h2:decide ((i:Int)<16)=true:=by simp;omega
     simp only[h2,Hn]
     generalize hw:W i=w at hl
     have hz:g w i=0:=by rw[←hw];exact hWz i
     rw[aY (λj=>((j:Int),w.set i (uW b i j))) 0 4 (r:=w.set i (uW b i 4)) (by omega) ?_ (dF rfl) ?_]
     rotate_left
     · intro j _ hj
       have h3:decide ((j:Int)<4)=true:=by simp;omega
       simp only[h3,Hn]
       rw[wrap64 (x:=4*(i:Int)) (by omega),wrap64 (x:=(at_:Int)+4*(i:Int)) (by omega),wrap64 (x:=(at_:Int)+4*(i:Int)+(j:Int)) (by omega),
        aJ (xs:=w.set i (uW b i j)) (z:=(i:Int)) (i:=i) rfl (by simp;omega),aJ (xs:=m) (z:=(at_:Int)+4*(i:Int)+(j:Int)) (i:=at_+(4*i+j)) (by omega) (by omega),wrap64 (by omega),hgb _ (by omega)]
       have hu:(w.set i (uW b i j)).getD i 0=uW b i j:=by simp[show i<w.length by omega]
       simp only[aB,hu,Hq,List.set_set]
       rw[uW];rfl
     · have:w.set i (uW b i 0)=w:=by
        have h0:w[i]? =some 0:=by
          have:=hz;simp only[g,IH] at this
          rw[H4 (show i<w.length by omega)] at this⊢
          simpa using this
        refine JH λq=>?_
        by_cases hq:i=q
        · subst hq;rw[List.getElem?_set_self (by omega),h0,uW]
        · rw[List.getElem?_set_ne hq]
       rw[this];rfl
     simp only[aB]
     rw[wrap64 (by omega)]
     have:uW b i 4=UL b i:=uW4 b i
     simp only[hWS,Il h16,hw,this]
     rfl
   · have h2:decide ((i:Int)<16)=false:=by simp;omega
     simp only[h2,Hm,aB]
     rw[wrap64 (x:=(i:Int) - 15) (by omega),wrap64 (x:=(i:Int) - 2) (by omega),wrap64 (x:=(i:Int) - 7) (by omega),wrap64 (x:=(i:Int) - 16) (by omega),
       aJ (z:=(i:Int) - 15) (i:=i - 15) (by omega) (by omega),aJ (z:=(i:Int) - 2) (i:=i - 2) (by omega) (by omega),aJ (z:=(i:Int) - 7) (i:=i - 7) (by omega) (by omega),aJ (z:=(i:Int) - 16) (i:=i - 16) (by omega) (by omega),
       aJ (xs:=W i) (z:=(i:Int)) (i:=i) rfl (by omega),wrap64 (by omega)]
     simp only[aB]
     rw[SU (n:=7) (by decide),SU (n:=18) (by decide),SU (n:=17) (by decide),SU (n:=19) (by decide)]
     simp only[aB,Hq,hWS,Ic h16]
     rfl
 simp only[aB]
 generalize hw:W 64=w
 have hwl:w.length=64:=by rw[←hw];exact hWl 64
 obtain⟨V,hV⟩:∃V,V=XN k w s:=⟨_,rfl⟩
 have hV0:V 0=s:=by rw[hV];rfl
 have hVS:∀i,V (i+1)=EV k w i (V i):=by rw[hV];intro i;rfl
 have hVl:∀i,(V i).length=8:=by rw[hV];exact Dd hs
 rw[aY (λi=>((i:Int),V i)) 0 64 (r:=V 64) (by omega) ?_ (dF rfl) (by rw[hV0];rfl)]
 rotate_left
 · intro i _ hi
   have h1:decide ((i:Int)<64)=true:=by simp;omega
   have hl:=hVl i
   generalize hv:V i=v at hl
   simp only[h1,Hn]
   rw[aJ (xs:=v) (z:=0) (i:=0) rfl (by omega),aJ (xs:=v) (z:=1) (i:=1) rfl (by omega),aJ (xs:=v) (z:=2) (i:=2) rfl (by omega),aJ (xs:=v) (z:=4) (i:=4) rfl (by omega),aJ (xs:=v) (z:=5) (i:=5) rfl (by omega),aJ (xs:=v) (z:=6) (i:=6) rfl (by omega),aJ (xs:=v) (z:=7) (i:=7) rfl (by omega),aJ (xs:=v) (z:=3) (i:=3) rfl (by omega),
     aJ (xs:=k) (z:=(i:Int)) (i:=i) rfl (by omega),aJ (xs:=w) (z:=(i:Int)) (i:=i) rfl (by omega),wrap64 (by omega)]
   simp only[aB]
   rw[SU (n:=6) (by decide),SU (n:=11) (by decide),SU (n:=25) (by decide),SU (n:=2) (by decide),SU (n:=13) (by decide),SU (n:=22) (by decide)]
   simp only[aB,hVS,hv]
   rfl
 simp only[aB]
 have hvl:=hVl 64
 generalize hv:V 64=v at hvl
 obtain⟨U,hU⟩:∃U,U=Xj s v:=⟨_,rfl⟩
 have hU0:U 0=s:=by rw[hU];rfl
 have hUS:∀i,U (i+1)=(U i).set i (wrap .u32 (g (U i) i+g v i)):=by rw[hU];intro i;rfl
 have hUl:∀i,(U i).length=s.length:=by rw[hU];exact vL
 rw[aY (λi=>((i:Int),U i)) 0 8 (r:=U 8) (by omega) ?_ (dF rfl) (by rw[hU0];rfl)]
 rotate_left
 · intro i _ hi
   have h1:decide ((i:Int)<8)=true:=by simp;omega
   have hl:=hUl i
   simp only[h1,Hn]
   rw[aJ (xs:=U i) (z:=(i:Int)) (i:=i) rfl (by omega),aJ (xs:=v) (z:=(i:Int)) (i:=i) rfl (by omega),wrap64 (by omega)]
   simp only[aB,Hq,hUS]
   rfl
 simp only[aB,blk,←hW,hw,←hV,hv,←hU]
end
end Go.Proofs.YtobbmodjdkcdcaaGreatDoor
set_option maxRecDepth 20000
namespace Go.Proofs.YtobbmodjdkcdcaaGreatDoor
open Go Go.Sim
open Go.IntKind (wrap)
variable [Fu]
def IV:List Int:=[1779033703,3144134277,1013904242,2773480762,1359893119,2600822924,528734635,1541459225]
def SA (m:List Int) (i:Nat):List Int:=(m.drop (64*i)).take 64
def cmp (m:List Int):Nat→List Int|0=>IV|n+1=>blk QH (cmp m n) (SA m n)
theorem vM (m:List Int):∀n,(cmp m n).length=8|0=>rfl|n+1=>by rw[cmp,Ga (vM m n)]
theorem DZ {p q:List Int} {i:Nat} (h:64*(i+1)≤p.length):SA (p++q) i=SA p i:=by unfold SA;rw[Jm (by omega),Jl (by simp;omega)]
theorem zU {p q:List Int}:∀{n:Nat},64*n≤p.length→cmp (p++q) n=cmp p n|0,_=>rfl|n+1,h=>by rw[cmp,cmp,zU (by omega),DZ h]
structure HR (h:aZ) (q:List Int):Prop where
 n:h.n=q.length
 tl:h.tail.length=64
 tail:h.tail.take (q.length%64)=q.drop (64*(q.length / 64))
 words:h.words=cmp q (q.length / 64)
structure YD (h:aZ) (q:List Int):Prop where
 n:h.n=q.length
 tl:h.tail.length=64
 tail:h.tail.take (q.length%64)=q.drop (64*(q.length / 64))
 words:64≤q.length→h.words=cmp q (q.length / 64)
theorem HR.zero {h:aZ} {q:List Int} (r:HR h q):YD h q:=⟨r.n,r.tl,r.tail,λ_=>r.words⟩
theorem rL {xs ys:List Int} {lo hi:Nat} (h1:lo≤hi) (h2:hi≤xs.length):over xs lo hi ys=xs.take lo++ys.take (hi - lo)++xs.drop (lo+min ys.length (hi - lo)):=by unfold over;rfl
theorem EW:∃h,od=some h∧YD h []:=⟨_,rfl,⟨rfl,by simp,by simp,λh=>by simp at h⟩⟩
theorem qT {h:aZ} {q a:List Int} (hr:YD h q) (hb:q.length+a.length<2^60):∃h',el h a=some h'∧HR h' (q++a):=by unfold el;(have hfirst:∃h1,(bif decide (h.n<64) then(np).bind λy91=>some ({h with words:=y91}:aZ) else some h:Option aZ)=some h1∧HR h1 q:=by by_cases hlt:q.length<64;(have e:decide (h.n<64)=true:=by rw[hr.n];simp;omega);rw[e];refine⟨_,rfl,hr.n,hr.tl,hr.tail,?_⟩;(have:q.length / 64=0:=by omega);rw[this];rfl;(have e:decide (h.n<64)=false:=by rw[hr.n];simp;omega);rw[e];exact⟨h,rfl,hr.n,hr.tl,hr.tail,hr.words (by omega)⟩);obtain⟨h1,e1,r1⟩:=hfirst;rw[e1];simp only[aB];refine EM (Da (P:=λs=>∃p,HR s.2 p∧p++s.1=q++a) (Q:=λh'=>HR h' (q++a)) (λs=>s.1.length) ?_ (s:=(a,h1)) ⟨q,r1,rfl⟩);rintro⟨rest,k⟩ ⟨p,hk,he⟩;simp only at hk he⊢;(have hlen:p.length+rest.length=q.length+a.length:=by have:=congrArg List.length he;simpa using this);cases hrest:rest with|nil=>subst hrest;left;refine⟨k,by simp,?_⟩;rw[IS] at he;rw[←he];exact hk|cons x xs=>right;rw[←hrest];(have hpos:0<rest.length:=by rw[hrest];simp);(have c0:decide ((rest.length:Int)>0)=true:=by simp;omega);rw[c0,hk.n];have em:Int.tmod (p.length:Int) 64=((p.length%64:Nat):Int):=rfl;have hr64:p.length%64<64:=KL _ (by decide);simp only[Hn,em,Hq];generalize hrr:p.length%64=r at hr64;(have g1:decide ((0:Int)≤(r:Int)∧(r:Int)≤64∧(64:Int)≤64)=true:=by simp;omega);have e64:Int.toNat 64=64:=rfl;(have g2:decide (r≤Int.toNat 64∧Int.toNat 64≤64)=true:=by simp;omega);rw[g1,g2];simp only[Hn,e64];generalize hcc:min rest.length (64 - r)=c;(have hc1:1≤c:=by omega);(have hc2:c≤rest.length:=by omega);(have hc3:r+c≤64:=by omega);(have hsub:sub rest (c:Int) (rest.length:Int)=some (rest.drop c):=by unfold sub;(have d1:decide (0≤(c:Int))=true:=by simp);(have d2:decide ((c:Int)≤(rest.length:Int))=true:=by simp;omega);rw[d1,d2];simp);rw[hsub,jG (x:=(c:Int)) (by omega),jG (x:=(p.length:Int)+(c:Int)) (by omega)];simp only[aB];have htl:=hk.tl;(have hov:over k.tail r 64 rest=k.tail.take r++rest.take (64 - r)++k.tail.drop (r+c):=by rw[rL (by omega) (by omega),hcc]);(have hovl:(over k.tail r 64 rest).length=64:=by rw[hov];simp;omega);have htail:=hk.tail;rw[hrr] at htail;(have hq':(p++rest.take c)++rest.drop c=q++a:=by rw[HS,Ie,he]);(have hpl:(p++rest.take c).length=p.length+c:=by simp;omega);(have hdm:p.length=64*(p.length / 64)+r:=by rw[←hrr];exact(KS _ _).symm);(have e2:Int.tmod ((p.length:Int)+(c:Int)) 64=(((p.length+c)%64:Nat):Int):=by rw[←Int.natCast_add];rfl);rw[e2];by_cases hfull:r+c=64;(have hz:(p.length+c)%64=0:=by omega);(have hd:(p.length+c) / 64=p.length / 64+1:=by omega);rw[hz];simp only[Int.ofNat_zero,Int.natCast_zero,Jz,Hn];(have hov2:over k.tail r 64 rest=SA (p++rest.take c) (p.length / 64):=by rw[hov,htail];unfold SA;have:k.tail.drop (r+c)=[]:=Jt (by omega);(have hl3:(p.drop (64*(p.length / 64))++rest.take c).length=64:=by simp;omega);rw[this,IS,show 64 - r=c by omega,Jm (by omega)];exact(HD (by omega)).symm);rw[Cy (by rw[hk.words,vM]) hovl];simp only[aB];refine⟨_,rfl,⟨p++rest.take c,⟨?_,hovl,?_,?_⟩,hq'⟩,?_⟩;simp only[hpl];omega;rw[hpl,hz,hd];simp only[JE];exact(Jt (by rw[hpl];omega)).symm;rw[hpl,hd,cmp,zU (by omega),←hov2,hk.words];simp;omega;(have hz:(p.length+c)%64=r+c:=by omega);(have hd:(p.length+c) / 64=p.length / 64:=by omega);(have hne:((((p.length+c)%64:Nat):Int)==0)=false:=by rw[hz];simp;omega);rw[hne];simp only[Hm];refine⟨_,rfl,⟨p++rest.take c,⟨?_,hovl,?_,?_⟩,hq'⟩,?_⟩;show(p.length:Int)+(c:Int)=(((p++rest.take c).length:Nat):Int);rw[hpl];simp;(have hcr:c=rest.length:=by omega);rw[hpl,hz,hd];show(over k.tail r 64 rest).take (r+c)=_;rw[hov,htail];(have ht2:rest.take (64 - r)=rest.take c:=by rw[HD (by omega),HD (by omega)]);(have hl2:(p.drop (64*(p.length / 64))++rest.take (64 - r)).length=r+c:=by simp;omega);rw[Jl (by omega),HD (by omega),ht2,Jm (by omega)];rw[hpl,hd,zU (by omega)];exact hk.words;simp;omega
end Go.Proofs.YtobbmodjdkcdcaaGreatDoor
set_option maxRecDepth 20000
namespace Go.Proofs.YtobbmodjdkcdcaaGreatDoor
open Go Go.Sim
open Go.IntKind (wrap)
variable [Fu]
def RG (n:Nat):Nat→List Int|0=>[]|i+1=>RG n i++[IntKind.u8.wrap (K_ .u64 (IntKind.u64.wrap ((n:Int)*8)) (56 - 8*(i:Int)))]
theorem qU (n:Nat):∀i,(RG n i).length=i|0=>rfl|i+1=>by rw[RG,Hu,qU n i];rfl
def PC (n:Nat):Nat:=(119 - n%64)%64
def fill (n:Nat):List Int:=128::List.replicate (PC n) 0
def S_ (p:List Int):List Int:=p++(fill p.length++RG p.length 8)
theorem wv (n:Nat):(fill n).length=1+PC n:=by simp[fill];omega
theorem De (p:List Int):(S_ p).length=p.length+9+PC p.length:=by unfold S_;rw[Hu,Hu,wv,qU];omega
theorem Gb (p:List Int):(S_ p).length%64=0:=by rw[De];unfold PC;omega
def VR (v:List Int):Nat→List Int|0=>List.replicate 32 0|i+1=>(VR v i).set i (IntKind.u8.wrap (K_ .u32 (g v (i / 4)) (24 - 8*((i%4:Nat):Int))))
theorem vN (v:List Int):∀i,(VR v i).length=32|0=>by simp[VR]|i+1=>by rw[VR,Jy,vN v i]
def Qf (p:List Int):List Int:=VR (cmp (S_ p) ((S_ p).length / 64)) 32
theorem pZ (p:List Int):(Qf p).length=32:=vN _ _
theorem yz (v:List Int):∀i,aT (VR v i)|0=>λb hb=>by simp[VR] at hb;omega|i+1=>λb hb=>by rw[VR] at hb;rcases List.mem_or_eq_of_mem_set hb with h|rfl;exact yz v i b h;exact lB _
theorem zV (p:List Int):aT (Qf p):=yz _ _
theorem shl3 {x:Int}:OX .u64 x 3=IntKind.u64.wrap (x*8):=rfl
theorem aai {x:Int}:K_ .u32 x 0=x:=by have:K_ .u32 x 0=x.fdiv 1:=rfl;rw[this];simp
theorem qV {h:aZ} {p:List Int} (hr:YD h p) (hb:p.length<2^59):fT h=some (Qf p):=by
 unfold fT
 have hn:=hr.n
 have ez:wrap .u64 (1+Int.tmod (wrap .u64 (119 - Int.tmod h.n 64)) 64)=((1+PC p.length:Nat):Int):=by
   have e1:Int.tmod h.n 64=((p.length%64:Nat):Int):=by rw[hn];rfl
   rw[e1,jG (x:=119 - ((p.length%64:Nat):Int)) (by omega)]
   have e2:(119 - ((p.length%64:Nat):Int))=((119 - p.length%64:Nat):Int):=by omega
   have e3:Int.tmod ((119 - p.length%64:Nat):Int) 64=((PC p.length:Nat):Int):=rfl
   rw[e2,e3,jG (by unfold PC;omega)];simp
 rw[ez]
 have hz:PC p.length<64:=KL _ (by decide)
 have e:P2 ((1+PC p.length:Nat):Int) 72=true:=by
   unfold P2
   have:(F_:Int)=17179869184:=rfl
   simp only[this,Hx,HB];omega
 rw[e]
 simp only[Hn,Hq]
 rw[aJ (xs:=List.replicate (1+PC p.length) 0) (z:=0) (i:=0) rfl (by rw[J3];omega)]
 simp only[aB]
 have c:List.set (List.replicate (1+PC p.length) (0:Int)) (Int.toNat 0) 128=fill p.length:=by
   rw[Nat.add_comm];rfl
 rw[c]
 have l:=wv p.length
 rw[aY (λi=>(fill p.length++RG p.length i,56 - 8*(i:Int))) 0 8 (r:=fill p.length++RG p.length 8) (by omega) ?_ (dF rfl) (by simp[RG])]
 rotate_left
 · intro i _ hi
   have h1:decide (56 - 8*(i:Int)≥0)=true:=by simp;omega
   have h2:decide (0≤56 - 8*(i:Int))=true:=by simp;omega
   simp only[h1,h2,Hn]
   have m:=qU p.length i
   rw[aW (by rw[Hu];simp[F_];omega),wrap64 (by omega),shl3,hn]
   have e8:(56 - 8*(i:Int)) - 8=56 - 8*((i+1:Nat):Int):=by omega
   simp only[aB,RG,HS,e8]
 simp only[aB]
 have k:(fill p.length++RG p.length 8).length=9+PC p.length:=by rw[Hu,qU];omega
 obtain⟨h',e',r'⟩:=qT hr (a:=fill p.length++RG p.length 8) (by omega)
 rw[e']
 simp only[aB]
 have hw:h'.words=cmp (S_ p) ((S_ p).length / 64):=r'.words
 rw[hw]
 generalize hv:cmp (S_ p) ((S_ p).length / 64)=v
 have o:v.length=8:=by rw[←hv];exact vM _ _
 obtain⟨O,hO⟩:∃O,O=VR v:=⟨_,rfl⟩
 have f:O 0=List.replicate 32 0:=by rw[hO];rfl
 have b:∀i,O (i+1)=(O i).set i (IntKind.u8.wrap (K_ .u32 (g v (i / 4)) (24 - 8*((i%4:Nat):Int)))):=by rw[hO];intro i;rfl
 have j:∀i,(O i).length=32:=by rw[hO];exact vN v
 rw[aY (λi=>((i:Int),O (4*i))) 0 8 (r:=O 32) (by omega) ?_ (dF rfl) (by rw[Nat.mul_zero,f];rfl)]
 rotate_left
 · intro i _ hi
   have h1:decide ((i:Int)<8)=true:=by simp;omega
   simp only[h1,Hn]
   rw[wrap64 (x:=4*(i:Int)) (by omega),wrap64 (x:=4*(i:Int)+1) (by omega),wrap64 (x:=4*(i:Int)+2) (by omega),wrap64 (x:=4*(i:Int)+3) (by omega),wrap64 (by omega)]
   have t0:Int.toNat (4*(i:Int))=4*i:=by omega
   have t1:Int.toNat (4*(i:Int)+1)=4*i+1:=by omega
   have t2:Int.toNat (4*(i:Int)+2)=4*i+2:=by omega
   have t3:Int.toNat (4*(i:Int)+3)=4*i+3:=by omega
   rw[t0,t1,t2,t3,aJ (xs:=v) (z:=(i:Int)) (i:=i) rfl (by omega)]
   have hl:=j (4*i)
   rw[aJ (xs:=O (4*i)) (z:=4*(i:Int)) (i:=4*i) (by omega) (by omega)]
   simp only[aB]
   rw[aJ (z:=4*(i:Int)+1) (i:=4*i+1) (by omega) (by simp;omega)]
   simp only[aB]
   rw[aJ (z:=4*(i:Int)+2) (i:=4*i+2) (by omega) (by simp;omega)]
   simp only[aB]
   rw[aJ (z:=4*(i:Int)+3) (i:=4*i+3) (by omega) (by simp;omega)]
   simp only[aB]
   have d:O (4*(i+1))=List.set (List.set (List.set (List.set (O (4*i)) (4*i) (IntKind.u8.wrap (K_ .u32 (v.getD i 0) 24))) (4*i+1) (IntKind.u8.wrap (K_ .u32 (v.getD i 0) 16))) (4*i+2) (IntKind.u8.wrap (K_ .u32 (v.getD i 0) 8))) (4*i+3) (IntKind.u8.wrap (v.getD i 0)):=by
    rw[show 4*(i+1)=4*i+1+1+1+1 by omega,b,b,b,b]
    have q0:4*i / 4=i:=by omega
    have q1:(4*i+1) / 4=i:=by omega
    have q2:(4*i+1+1) / 4=i:=by omega
    have q3:(4*i+1+1+1) / 4=i:=by omega
    have m0:4*i%4=0:=by omega
    have m1:(4*i+1)%4=1:=by omega
    have m2:(4*i+1+1)%4=2:=by omega
    have m3:(4*i+1+1+1)%4=3:=by omega
    rw[q0,q1,q2,q3,m0,m1,m2,m3]
    have z3:(24 - 8*((3:Nat):Int))=0:=rfl
    rw[z3,aai];rfl
   rw[d];rfl
 simp only[aB]
 show some (O 32)=some (Qf p)
 unfold Qf;rw[hv,hO]
theorem EX {p:List Int} (hb:p.length<2^59):mL p=some (Qf p):=by unfold mL;obtain⟨h,e,r⟩:=EW;rw[e];simp only[aB];obtain⟨h',e',r'⟩:=qT r (a:=p) (by simp;omega);rw[e'];simp only[aB];rw[qV (p:=p) (by simpa using r'.zero) hb];rfl
theorem Cz {p:List Int} (hb:p.length<2^31):fZ p=some (S_ p):=by
 unfold fZ
 have b:F_=17179869184:=rfl
 rw[wrap64 (by omega)]
 have c:P2 0 ((p.length:Int)+72)=true:=by
   unfold P2
   have:(F_:Int)=17179869184:=rfl
   simp only[this,Hx,HB];omega
 rw[c]
 simp only[Hn]
 rw[aW (by simp[F_];omega)]
 simp only[aB,Int.toNat_zero,Jv,HM]
 rw[aW (by simp[F_];omega)]
 simp only[aB]
 have hz:PC p.length<64:=KL _ (by decide)
 rw[aY (λi=>p++(128::List.replicate i 0)) 0 (PC p.length) (r:=p++fill p.length) (by omega) ?_ ?_ (by rfl)]
 rotate_left
 · intro i _ hi
   have e:(p++(128::List.replicate i (0:Int))).length=p.length+1+i:=by simp;omega
   have a:((Int.tmod ((p++(128::List.replicate i (0:Int))).length:Int) 64) != 56)=true:=by
    rw[e]
    have:Int.tmod ((p.length+1+i:Nat):Int) 64=(((p.length+1+i)%64:Nat):Int):=rfl
    rw[this]
    have:(p.length+1+i)%64≠56:=by unfold PC at hi;omega
    simp;omega
   simp only[a,Hn]
   rw[aW (by rw[e];simp[b];omega)]
   simp only[aB,HS,IM]
   rw[←List.replicate_succ']
 · have e:(p++(128::List.replicate (PC p.length) (0:Int))).length=p.length+1+PC p.length:=by simp;omega
   have a:((Int.tmod ((p++(128::List.replicate (PC p.length) (0:Int))).length:Int) 64) != 56)=false:=by
    rw[e]
    have:Int.tmod ((p.length+1+PC p.length:Nat):Int) 64=(((p.length+1+PC p.length)%64:Nat):Int):=rfl
    rw[this]
    have:(p.length+1+PC p.length)%64=56:=by unfold PC;omega
    rw[this];rfl
   simp only[a,Hm];rfl
 simp only[aB]
 have d:(p++fill p.length).length=p.length+1+PC p.length:=by rw[Hu,wv];omega
 rw[aY (λi=>((p++fill p.length)++RG p.length i,(i:Int))) 0 8 (r:=(p++fill p.length)++RG p.length 8) (by omega) ?_ (dF rfl) (by simp[RG])]
 rotate_left
 · intro i _ hi
   have h1:decide ((i:Int)<8)=true:=by simp;omega
   have f:=qU p.length i
   rw[wrap64 (x:=8*(i:Int)) (by omega),wrap64 (x:=56 - 8*(i:Int)) (by omega)]
   have h2:decide (0≤56 - 8*(i:Int))=true:=by simp;omega
   simp only[h1,h2,Hn]
   rw[aW (by rw[Hu];simp only[List.length_singleton];omega),wrap64 (by omega),jG (x:=(p.length:Int)) (by omega)]
   simp only[aB,RG,HS]
   rfl
 simp only[aB,S_,HS]
theorem D0:iZ=some QH:=rfl
theorem zW {p:List Int} (hb:p.length<2^31):eN p=some (Qf p):=by
 unfold eN
 rw[D0,Cz hb]
 simp only[aB]
 have hg:QH.length=64:=rfl
 have j:=De p
 have k:=Gb p
 have hz:PC p.length<64:=KL _ (by decide)
 obtain⟨C,hC⟩:∃C,C=cmp (S_ p):=⟨_,rfl⟩
 have b:C 0=IV:=by rw[hC];rfl
 have c:∀n,C (n+1)=blk QH (C n) (SA (S_ p) n):=by rw[hC];intro n;rfl
 have a:∀n,(C n).length=8:=by rw[hC];exact vM _
 have hN:(S_ p).length=64*((S_ p).length / 64):=by omega
 rw[aY (λi=>(((64*i:Nat):Int),C i)) 0 ((S_ p).length / 64) (r:=C ((S_ p).length / 64)) (by omega) ?_ ?_ (by rw[b];rfl)]
 rotate_left
 · intro i _ hi
   have h1:decide (((64*i:Nat):Int)<((S_ p).length:Int))=true:=by simp;omega
   simp only[h1,Hn]
   rw[DY (a i) hg (by omega) (by omega),wrap64 (by omega)]
   simp only[aB]
   rw[c]
   have d:((64*i:Nat):Int)+64=((64*(i+1):Nat):Int):=by omega
   rw[d];rfl
 · refine dF ?_
   simp;omega
 simp only[aB]
 generalize hv:C ((S_ p).length / 64)=v
 have l:v.length=8:=by rw[←hv];exact a _
 obtain⟨O,hO⟩:∃O,O=VR v:=⟨_,rfl⟩
 have e:O 0=List.replicate 32 0:=by rw[hO];rfl
 have f:∀i,O (i+1)=(O i).set i (IntKind.u8.wrap (K_ .u32 (g v (i / 4)) (24 - 8*((i%4:Nat):Int)))):=by rw[hO];intro i;rfl
 have h:∀i,(O i).length=32:=by rw[hO];exact vN v
 rw[aY (λi=>((i:Int),O i)) 0 32 (r:=O 32) (by omega) ?_ (dF rfl) (by rw[e];rfl)]
 rotate_left
 · intro i _ hi
   have h1:decide ((i:Int)<32)=true:=by simp;omega
   have e1:Int.tdiv (i:Int) 4=((i / 4:Nat):Int):=rfl
   have e2:Int.tmod (i:Int) 4=((i%4:Nat):Int):=rfl
   simp only[h1,Hn,e1,e2]
   rw[wrap64 (x:=((i / 4:Nat):Int)) (by omega),wrap64 (x:=8*((i%4:Nat):Int)) (by omega),wrap64 (x:=24 - 8*((i%4:Nat):Int)) (by omega)]
   have h2:decide (0≤24 - 8*((i%4:Nat):Int))=true:=by simp;omega
   have hl:=h i
   rw[aJ (xs:=v) (z:=((i / 4:Nat):Int)) (i:=i / 4) rfl (by omega),h2,aJ (xs:=O i) (z:=(i:Int)) (i:=i) rfl (by omega),wrap64 (by omega)]
   simp only[aB,Hn,Hq]
   rw[f];rfl
 simp only[aB]
 unfold Qf;rw[hO,←hv,hC]
end Go.Proofs.YtobbmodjdkcdcaaGreatDoor
