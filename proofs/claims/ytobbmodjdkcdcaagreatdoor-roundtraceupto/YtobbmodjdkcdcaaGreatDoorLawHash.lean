import Derived.Test.YtobbmodjdkcdcaaGreatDoorLawBits
import Derived.Test.YtobbmodjdkcdcaaGreatDoorRt8
set_option linter.all false
set_option maxRecDepth 20000
namespace Go.Proofs.YtobbmodjdkcdcaaGreatDoor
open Go Go.Sim
variable [Fu]
def rotR (x n:Int):Int:=orI .u32 (shrI .u32 x n) (shlI .u32 x (32 - n))
theorem rotL {x:Int} {a n:Int} (h1:andI .u64 (IntKind.wrap .u64 a) 31=32 - n) (h2:IntKind.wrap .u64 (32 - (32 - n))=n) (h3:0≤n∧n≤32):be x a=some (rotR x n):=by unfold be rotR;rw[h1,h2];(have e1:decide (0≤32 - n)=true:=by simp;omega);(have e2:decide (0≤n)=true:=by simp;omega);rw[e1,e2,C6];rfl
theorem rotT {x n:Int} (h:0≤n∧n≤32):bf x n=some (rotR x n):=by unfold bf rotR;(have e1:decide (0≤n)=true:=by simp;omega);(have e2:decide (0≤32 - n)=true:=by simp;omega);rw[wrap64 (by omega),e1,e2];rfl
def g (l:List Int) (i:Nat):Int:=l.getD i 0
def word (b:List Int) (i:Nat):Int:=orI .u32 (orI .u32 (orI .u32 (shlI .u32 (IntKind.u32.wrap (g b (4*i))) 24) (shlI .u32 (IntKind.u32.wrap (g b (4*i+1))) 16)) (shlI .u32 (IntKind.u32.wrap (g b (4*i+2))) 8)) (IntKind.u32.wrap (g b (4*i+3)))
def uW (b:List Int) (i:Nat):Nat→Int|0=>0|j+1=>orI .u32 (shlI .u32 (uW b i j) 8) (IntKind.u32.wrap (g b (4*i+j)))
theorem uW4 (b:List Int) (i:Nat):uW b i 4=word b i:=by simp only[uW,word,HQ];exact word4 _ _ _ _
def mixW (w:List Int) (t:Nat):Int:=IntKind.wrap .u32 ((IntKind.wrap .u32 ((IntKind.wrap .u32 ((xorI .u32 (xorI .u32 (rotR (g w (t - 2)) 17) (rotR (g w (t - 2)) 19)) (shrI .u32 (g w (t - 2)) 10))+g w (t - 7)))+(xorI .u32 (xorI .u32 (rotR (g w (t - 15)) 7) (rotR (g w (t - 15)) 18)) (shrI .u32 (g w (t - 15)) 3))))+g w (t - 16))
def wAt (b:List Int):Nat→List Int|0=>List.replicate 64 0|i+1=>(wAt b i).set i (if i<16 then word b i else mixW (wAt b i) i)
def De (k w:List Int) (i:Nat) (v:List Int):List Int:=
 let one:=IntKind.wrap .u32 ((IntKind.wrap .u32 ((IntKind.wrap .u32 ((IntKind.wrap .u32 (g v 7+(xorI .u32 (xorI .u32 (rotR (g v 4) 6) (rotR (g v 4) 11)) (rotR (g v 4) 25))))+(xorI .u32 (andI .u32 (g v 4) (g v 5)) (andI .u32 (cplI .u32 (g v 4)) (g v 6)))))+g k i))+g w i)
 let two:=IntKind.wrap .u32 ((xorI .u32 (xorI .u32 (rotR (g v 0) 2) (rotR (g v 0) 13)) (rotR (g v 0) 22))+(xorI .u32 (xorI .u32 (andI .u32 (g v 0) (g v 1)) (andI .u32 (g v 0) (g v 2))) (andI .u32 (g v 1) (g v 2))))
 [IntKind.wrap .u32 (one+two),g v 0,g v 1,g v 2,IntKind.wrap .u32 (g v 3+one),g v 4,g v 5,g v 6]
def rAt (k w s:List Int):Nat→List Int|0=>s|i+1=>De k w i (rAt k w s i)
def aAt (s v:List Int):Nat→List Int|0=>s|i+1=>(aAt s v i).set i (IntKind.wrap .u32 (g (aAt s v i) i+g v i))
def blk (k s b:List Int):List Int:=aAt s (rAt k (wAt b 64) s 64) 8
theorem xw (b:List Int):∀i,(wAt b i).length=64|0=>by simp[wAt]|i+1=>by rw[wAt,H0,xw b i]
theorem Br {k w s:List Int} (h:s.length=8):∀i,(rAt k w s i).length=8
 |0=>h
 |i+1=>rfl
theorem tt {s v:List Int}:∀i,(aAt s v i).length=s.length|0=>rfl|i+1=>by rw[aAt,H0,tt i]
theorem Et {k s b:List Int} (h:s.length=8):(blk k s b).length=8:=by rw[blk,tt,h]
theorem uh (b:List Int):∀i j,i≤j→g (wAt b i) j=0|0,j,_=>by simp only[wAt,g,GW,List.getElem?_replicate];split<;>rfl|i+1,j,h=>by have:=uh b i j (by omega);simp only[wAt,g,GW] at this⊢;rw[List.getElem?_set_ne (by omega)];exact this
section
variable {s b k m:List Int}
theorem AO (hs:s.length=8) (hb:b.length=64):fL s b=some (blk glob0 s b):=by
 have hg:glob0.length=64:=rfl
 unfold fL
 obtain⟨W,hW⟩:∃W,W=wAt b:=⟨_,rfl⟩
 have hW0:W 0=List.replicate 64 0:=by rw[hW];rfl
 have hWS:∀i,W (i+1)=(W i).set i (if i<16 then word b i else mixW (W i) i):=by rw[hW];intro i;rfl
 have hWl:∀i,(W i).length=64:=by rw[hW];exact xw b
 have hWz:∀i,g (W i) i=0:=by rw[hW];exact λi=>uh b i i (F9 _)
 rw[aP (λi=>((i:Int),W i)) 0 16 (r:=W 16) (by omega) ?_ (cY rfl) (by rw[hW0];rfl)]
 rotate_left
 · intro i _ hi
   have h1:decide ((i:Int)<16)=true:=by simp;omega
   simp only[h1,FJ]
   rw[wrap64 (x:=4*(i:Int)) (by omega),wrap64 (x:=4*(i:Int)+1) (by omega),wrap64 (x:=4*(i:Int)+2) (by omega),wrap64 (x:=4*(i:Int)+3) (by omega),
    ar (z:=4*(i:Int)) (i:=4*i) (by omega) (by omega),ar (z:=4*(i:Int)+1) (i:=4*i+1) (by omega) (by omega),ar (z:=4*(i:Int)+2) (i:=4*i+2) (by omega) (by omega),ar (z:=4*(i:Int)+3) (i:=4*i+3) (by omega) (by omega),
    ar (xs:=W i) (z:=(i:Int)) (i:=i) rfl (by rw[hWl];omega),wrap64 (by omega)]
   simp only[ab,FP,hWS,Gz hi]
   rfl
 simp only[ab]
 rw[aP (λi=>((i:Int),W i)) 16 64 (r:=W 64) (by omega) ?_ (cY rfl) (by rfl)]
 rotate_left
 · intro i h16 hi
   have h1:decide ((i:Int)<64)=true:=by simp;omega
   have hl:=hWl i
   simp only[h1,FJ]
   rw[wrap64 (x:=(i:Int) - 15) (by omega),wrap64 (x:=(i:Int) - 2) (by omega),wrap64 (x:=(i:Int) - 7) (by omega),wrap64 (x:=(i:Int) - 16) (by omega),
    ar (z:=(i:Int) - 15) (i:=i - 15) (by omega) (by omega),ar (z:=(i:Int) - 2) (i:=i - 2) (by omega) (by omega),ar (z:=(i:Int) - 7) (i:=i - 7) (by omega) (by omega),ar (z:=(i:Int) - 16) (i:=i - 16) (by omega) (by omega),
    ar (xs:=W i) (z:=(i:Int)) (i:=i) rfl (by omega),wrap64 (by omega)]
   simp only[ab]
   rw[rotL (n:=7) (by decide) (by decide) (by decide),rotL (n:=18) (by decide) (by decide) (by decide),rotL (n:=17) (by decide) (by decide) (by decide),rotL (n:=19) (by decide) (by decide) (by decide)]
   simp only[ab,FP,hWS,Gt (show¬i<16 by omega)]
   rfl
 simp only[ab]
 generalize hw:W 64=w
 have hwl:w.length=64:=by rw[←hw];exact hWl 64
 obtain⟨V,hV⟩:∃V,V=rAt glob0 w s:=⟨_,rfl⟩
 have hV0:V 0=s:=by rw[hV];rfl
 have hVS:∀i,V (i+1)=De glob0 w i (V i):=by rw[hV];intro i;rfl
 have hVl:∀i,(V i).length=8:=by rw[hV];exact Br hs
 rw[aP (λi=>((i:Int),V i)) 0 64 (r:=V 64) (by omega) ?_ (cY rfl) (by rw[hV0];rfl)]
 rotate_left
 · intro i _ hi
   have h1:decide ((i:Int)<64)=true:=by simp;omega
   have hl:=hVl i
   generalize hv:V i=v at hl
   simp only[h1,FJ]
   rw[ar (xs:=v) (z:=0) (i:=0) rfl (by omega),ar (xs:=v) (z:=1) (i:=1) rfl (by omega),ar (xs:=v) (z:=2) (i:=2) rfl (by omega),ar (xs:=v) (z:=4) (i:=4) rfl (by omega),ar (xs:=v) (z:=5) (i:=5) rfl (by omega),ar (xs:=v) (z:=6) (i:=6) rfl (by omega),ar (xs:=v) (z:=7) (i:=7) rfl (by omega),ar (xs:=v) (z:=3) (i:=3) rfl (by omega),
    ar (xs:=glob0) (z:=(i:Int)) (i:=i) rfl (by omega),ar (xs:=w) (z:=(i:Int)) (i:=i) rfl (by omega),wrap64 (by omega)]
   simp only[ab]
   rw[rotL (n:=6) (by decide) (by decide) (by decide),rotL (n:=11) (by decide) (by decide) (by decide),rotL (n:=25) (by decide) (by decide) (by decide),rotL (n:=2) (by decide) (by decide) (by decide),rotL (n:=13) (by decide) (by decide) (by decide),rotL (n:=22) (by decide) (by decide) (by decide)]
   simp only[ab,hVS,hv]
   rfl
 simp only[ab]
 have hvl:=hVl 64
 generalize hv:V 64=v at hvl
 obtain⟨U,hU⟩:∃U,U=aAt s v:=⟨_,rfl⟩
 have hU0:U 0=s:=by rw[hU];rfl
 have hUS:∀i,U (i+1)=(U i).set i (IntKind.wrap .u32 (g (U i) i+g v i)):=by rw[hU];intro i;rfl
 have hUl:∀i,(U i).length=s.length:=by rw[hU];exact tt
 rw[aP (λi=>((i:Int),U i)) 0 8 (r:=U 8) (by omega) ?_ (cY rfl) (by rw[hU0];rfl)]
 rotate_left
 · intro i _ hi
   have h1:decide ((i:Int)<8)=true:=by simp;omega
   have hl:=hUl i
   simp only[h1,FJ]
   rw[ar (xs:=U i) (z:=(i:Int)) (i:=i) rfl (by omega),ar (xs:=v) (z:=(i:Int)) (i:=i) rfl (by omega),wrap64 (by omega)]
   simp only[ab,FP,hUS]
   rfl
 simp only[ab,blk,←hW,hw,←hV,hv,←hU]
theorem Cd (hs:s.length=8) (hk:k.length=64) {at_:Nat} (hm:at_+64≤m.length) (hb:m.length<2^62):fq s k m (at_:Int)=some (blk k s ((m.drop at_).take 64)):=by
 generalize hbb:(m.drop at_).take 64=b
 have hbl:b.length=64:=by rw[←hbb];simp;omega
 have hgb:∀j,j<64→m.getD (at_+j) 0=g b j:=λj hj=>by
   rw[←hbb];simp only[g,GW,GN,Gq,Gz hj]
 unfold fq
 obtain⟨W,hW⟩:∃W,W=wAt b:=⟨_,rfl⟩
 have hW0:W 0=List.replicate 64 0:=by rw[hW];rfl
 have hWS:∀i,W (i+1)=(W i).set i (if i<16 then word b i else mixW (W i) i):=by rw[hW];intro i;rfl
 have hWl:∀i,(W i).length=64:=by rw[hW];exact xw b
 have hWz:∀i,g (W i) i=0:=by rw[hW];exact λi=>uh b i i (F9 _)
 rw[aP (λi=>((i:Int),W i)) 0 64 (r:=W 64) (by omega) ?_ (cY rfl) (by rw[hW0];rfl)]
 rotate_left
 · intro i _ hi
   have h1:decide ((i:Int)<64)=true:=by simp;omega
   have hl:=hWl i
   simp only[h1,FJ]
   by_cases h16:i<16
   · have h2:decide ((i:Int)<16)=true:=by simp;omega
     simp only[h2,FJ]
     generalize hw:W i=w at hl
     have hz:g w i=0:=by rw[←hw];exact hWz i
     rw[aP (λj=>((j:Int),w.set i (uW b i j))) 0 4 (r:=w.set i (uW b i 4)) (by omega) ?_ (cY rfl) ?_]
     rotate_left
     · intro j _ hj
       have h3:decide ((j:Int)<4)=true:=by simp;omega
       simp only[h3,FJ]
       rw[wrap64 (x:=4*(i:Int)) (by omega),wrap64 (x:=(at_:Int)+4*(i:Int)) (by omega),wrap64 (x:=(at_:Int)+4*(i:Int)+(j:Int)) (by omega),
        ar (xs:=w.set i (uW b i j)) (z:=(i:Int)) (i:=i) rfl (by simp;omega),ar (xs:=m) (z:=(at_:Int)+4*(i:Int)+(j:Int)) (i:=at_+(4*i+j)) (by omega) (by omega),wrap64 (by omega),hgb _ (by omega)]
       have hu:(w.set i (uW b i j)).getD i 0=uW b i j:=by simp[show i<w.length by omega]
       simp only[ab,hu,FP,List.set_set]
       rw[uW];rfl
     · have:w.set i (uW b i 0)=w:=by
        have h0:w[i]? =some 0:=by
          have:=hz;simp only[g,GW] at this
          rw[GP (show i<w.length by omega)] at this⊢
          simpa using this
        refine HM λq=>?_
        by_cases hq:i=q
        · subst hq;rw[List.getElem?_set_self (by omega),h0,uW]
        · rw[List.getElem?_set_ne hq]
       rw[this];rfl
     simp only[ab]
     rw[wrap64 (by omega)]
     have:uW b i 4=word b i:=uW4 b i
     simp only[hWS,Gz h16,hw,this]
     rfl
   · have h2:decide ((i:Int)<16)=false:=by simp;omega
     simp only[h2,FI,ab]
     rw[wrap64 (x:=(i:Int) - 15) (by omega),wrap64 (x:=(i:Int) - 2) (by omega),wrap64 (x:=(i:Int) - 7) (by omega),wrap64 (x:=(i:Int) - 16) (by omega),
       ar (z:=(i:Int) - 15) (i:=i - 15) (by omega) (by omega),ar (z:=(i:Int) - 2) (i:=i - 2) (by omega) (by omega),ar (z:=(i:Int) - 7) (i:=i - 7) (by omega) (by omega),ar (z:=(i:Int) - 16) (i:=i - 16) (by omega) (by omega),
       ar (xs:=W i) (z:=(i:Int)) (i:=i) rfl (by omega),wrap64 (by omega)]
     simp only[ab]
     rw[rotT (n:=7) (by decide),rotT (n:=18) (by decide),rotT (n:=17) (by decide),rotT (n:=19) (by decide)]
     simp only[ab,FP,hWS,Gt h16]
     rfl
 simp only[ab]
 generalize hw:W 64=w
 have hwl:w.length=64:=by rw[←hw];exact hWl 64
 obtain⟨V,hV⟩:∃V,V=rAt k w s:=⟨_,rfl⟩
 have hV0:V 0=s:=by rw[hV];rfl
 have hVS:∀i,V (i+1)=De k w i (V i):=by rw[hV];intro i;rfl
 have hVl:∀i,(V i).length=8:=by rw[hV];exact Br hs
 rw[aP (λi=>((i:Int),V i)) 0 64 (r:=V 64) (by omega) ?_ (cY rfl) (by rw[hV0];rfl)]
 rotate_left
 · intro i _ hi
   have h1:decide ((i:Int)<64)=true:=by simp;omega
   have hl:=hVl i
   generalize hv:V i=v at hl
   simp only[h1,FJ]
   rw[ar (xs:=v) (z:=0) (i:=0) rfl (by omega),ar (xs:=v) (z:=1) (i:=1) rfl (by omega),ar (xs:=v) (z:=2) (i:=2) rfl (by omega),ar (xs:=v) (z:=4) (i:=4) rfl (by omega),ar (xs:=v) (z:=5) (i:=5) rfl (by omega),ar (xs:=v) (z:=6) (i:=6) rfl (by omega),ar (xs:=v) (z:=7) (i:=7) rfl (by omega),ar (xs:=v) (z:=3) (i:=3) rfl (by omega),
     ar (xs:=k) (z:=(i:Int)) (i:=i) rfl (by omega),ar (xs:=w) (z:=(i:Int)) (i:=i) rfl (by omega),wrap64 (by omega)]
   simp only[ab]
   rw[rotT (n:=6) (by decide),rotT (n:=11) (by decide),rotT (n:=25) (by decide),rotT (n:=2) (by decide),rotT (n:=13) (by decide),rotT (n:=22) (by decide)]
   simp only[ab,hVS,hv]
   rfl
 simp only[ab]
 have hvl:=hVl 64
 generalize hv:V 64=v at hvl
 obtain⟨U,hU⟩:∃U,U=aAt s v:=⟨_,rfl⟩
 have hU0:U 0=s:=by rw[hU];rfl
 have hUS:∀i,U (i+1)=(U i).set i (IntKind.wrap .u32 (g (U i) i+g v i)):=by rw[hU];intro i;rfl
 have hUl:∀i,(U i).length=s.length:=by rw[hU];exact tt
 rw[aP (λi=>((i:Int),U i)) 0 8 (r:=U 8) (by omega) ?_ (cY rfl) (by rw[hU0];rfl)]
 rotate_left
 · intro i _ hi
   have h1:decide ((i:Int)<8)=true:=by simp;omega
   have hl:=hUl i
   simp only[h1,FJ]
   rw[ar (xs:=U i) (z:=(i:Int)) (i:=i) rfl (by omega),ar (xs:=v) (z:=(i:Int)) (i:=i) rfl (by omega),wrap64 (by omega)]
   simp only[ab,FP,hUS]
   rfl
 simp only[ab,blk,←hW,hw,←hV,hv,←hU]
end
end Go.Proofs.YtobbmodjdkcdcaaGreatDoor
set_option maxRecDepth 20000
namespace Go.Proofs.YtobbmodjdkcdcaaGreatDoor
open Go Go.Sim
variable [Fu]
def IV:List Int:=[1779033703,3144134277,1013904242,2773480762,1359893119,2600822924,528734635,1541459225]
def chunk (m:List Int) (i:Nat):List Int:=(m.drop (64*i)).take 64
def cmp (m:List Int):Nat→List Int|0=>IV|n+1=>blk glob0 (cmp m n) (chunk m n)
theorem tu (m:List Int):∀n,(cmp m n).length=8|0=>rfl|n+1=>by rw[cmp,Et (tu m n)]
theorem Ce {p q:List Int} {i:Nat} (h:64*(i+1)≤p.length):chunk (p++q) i=chunk p i:=by unfold chunk;rw[Hv (by omega),Hw (by simp;omega)]
theorem xx {p q:List Int}:∀{n:Nat},64*n≤p.length→cmp (p++q) n=cmp p n|0,_=>rfl|n+1,h=>by rw[cmp,cmp,xx (by omega),Ce h]
structure HR (h:aE) (q:List Int):Prop where
 n:h.n=q.length
 tl:h.tail.length=64
 tail:h.tail.take (q.length%64)=q.drop (64*(q.length / 64))
 words:h.words=cmp q (q.length / 64)
structure HR0 (h:aE) (q:List Int):Prop where
 n:h.n=q.length
 tl:h.tail.length=64
 tail:h.tail.take (q.length%64)=q.drop (64*(q.length / 64))
 words:64≤q.length→h.words=cmp q (q.length / 64)
theorem HR.zero {h:aE} {q:List Int} (r:HR h q):HR0 h q:=⟨r.n,r.tl,r.tail,λ_=>r.words⟩
theorem px {xs ys:List Int} {lo hi:Nat} (h1:lo≤hi) (h2:hi≤xs.length):over xs lo hi ys=xs.take lo++ys.take (hi - lo)++xs.drop (lo+min ys.length (hi - lo)):=by unfold over;rfl
theorem Df:∃h,ml=some h∧HR0 h []:=⟨_,rfl,⟨rfl,by simp,by simp,λh=>by simp at h⟩⟩
theorem oz {h:aE} {q a:List Int} (hr:HR0 h q) (hb:q.length+a.length<2^60):∃h',dx h a=some h'∧HR h' (q++a):=by unfold dx;(have hfirst:∃h1,(bif decide (h.n<64) then(lK).bind λy91=>some ({h with words:=y91}:aE) else some h:Option aE)=some h1∧HR h1 q:=by by_cases hlt:q.length<64;(have e:decide (h.n<64)=true:=by rw[hr.n];simp;omega);rw[e];refine⟨_,rfl,hr.n,hr.tl,hr.tail,?_⟩;(have:q.length / 64=0:=by omega);rw[this];rfl;(have e:decide (h.n<64)=false:=by rw[hr.n];simp;omega);rw[e];exact⟨h,rfl,hr.n,hr.tl,hr.tail,hr.words (by omega)⟩);obtain⟨h1,e1,r1⟩:=hfirst;rw[e1];simp only[ab];refine C8 (Bn (P:=λs=>∃p,HR s.2 p∧p++s.1=q++a) (Q:=λh'=>HR h' (q++a)) (λs=>s.1.length) ?_ (s:=(a,h1)) ⟨q,r1,rfl⟩);rintro⟨rest,k⟩ ⟨p,hk,he⟩;simp only at hk he⊢;(have hlen:p.length+rest.length=q.length+a.length:=by have:=congrArg List.length he;simpa using this);cases hrest:rest with|nil=>subst hrest;left;refine⟨k,by simp,?_⟩;rw[Hr] at he;rw[←he];exact hk|cons x xs=>right;rw[←hrest];(have hpos:0<rest.length:=by rw[hrest];simp);(have c0:decide ((rest.length:Int)>0)=true:=by simp;omega);rw[c0,hk.n];have em:Int.tmod (p.length:Int) 64=((p.length%64:Nat):Int):=rfl;have hr64:p.length%64<64:=I0 _ (by decide);simp only[FJ,em,FP];generalize hrr:p.length%64=r at hr64;(have g1:decide ((0:Int)≤(r:Int)∧(r:Int)≤64∧(64:Int)≤64)=true:=by simp;omega);have e64:Int.toNat 64=64:=rfl;(have g2:decide (r≤Int.toNat 64∧Int.toNat 64≤64)=true:=by simp;omega);rw[g1,g2];simp only[FJ,e64];generalize hcc:min rest.length (64 - r)=c;(have hc1:1≤c:=by omega);(have hc2:c≤rest.length:=by omega);(have hc3:r+c≤64:=by omega);(have hsub:sub rest (c:Int) (rest.length:Int)=some (rest.drop c):=by unfold sub;(have d1:decide (0≤(c:Int))=true:=by simp);(have d2:decide ((c:Int)≤(rest.length:Int))=true:=by simp;omega);rw[d1,d2];simp);rw[hsub,gW (x:=(c:Int)) (by omega),gW (x:=(p.length:Int)+(c:Int)) (by omega)];simp only[ab];have htl:=hk.tl;(have hov:over k.tail r 64 rest=k.tail.take r++rest.take (64 - r)++k.tail.drop (r+c):=by rw[px (by omega) (by omega),hcc]);(have hovl:(over k.tail r 64 rest).length=64:=by rw[hov];simp;omega);have htail:=hk.tail;rw[hrr] at htail;(have hq':(p++rest.take c)++rest.drop c=q++a:=by rw[F6,GJ,he]);(have hpl:(p++rest.take c).length=p.length+c:=by simp;omega);(have hdm:p.length=64*(p.length / 64)+r:=by rw[←hrr];exact(Nat.div_add_mod _ _).symm);(have e2:Int.tmod ((p.length:Int)+(c:Int)) 64=(((p.length+c)%64:Nat):Int):=by rw[←Int.natCast_add];rfl);rw[e2];by_cases hfull:r+c=64;(have hz:(p.length+c)%64=0:=by omega);(have hd:(p.length+c) / 64=p.length / 64+1:=by omega);rw[hz];simp only[Int.ofNat_zero,Int.natCast_zero,H9,FJ];(have hov2:over k.tail r 64 rest=chunk (p++rest.take c) (p.length / 64):=by rw[hov,htail];unfold chunk;have:k.tail.drop (r+c)=[]:=HC (by omega);(have hl3:(p.drop (64*(p.length / 64))++rest.take c).length=64:=by simp;omega);rw[this,Hr,show 64 - r=c by omega,Hv (by omega)];exact(FZ (by omega)).symm);rw[AO (by rw[hk.words,tu]) hovl];simp only[ab];refine⟨_,rfl,⟨p++rest.take c,⟨?_,hovl,?_,?_⟩,hq'⟩,?_⟩;simp only[hpl];omega;rw[hpl,hz,hd];simp only[HK];exact(HC (by rw[hpl];omega)).symm;rw[hpl,hd,cmp,xx (by omega),←hov2,hk.words];simp;omega;(have hz:(p.length+c)%64=r+c:=by omega);(have hd:(p.length+c) / 64=p.length / 64:=by omega);(have hne:((((p.length+c)%64:Nat):Int)==0)=false:=by rw[hz];simp;omega);rw[hne];simp only[FI];refine⟨_,rfl,⟨p++rest.take c,⟨?_,hovl,?_,?_⟩,hq'⟩,?_⟩;show(p.length:Int)+(c:Int)=(((p++rest.take c).length:Nat):Int);rw[hpl];simp;(have hcr:c=rest.length:=by omega);rw[hpl,hz,hd];show(over k.tail r 64 rest).take (r+c)=_;rw[hov,htail];(have ht2:rest.take (64 - r)=rest.take c:=by rw[FZ (by omega),FZ (by omega)]);(have hl2:(p.drop (64*(p.length / 64))++rest.take (64 - r)).length=r+c:=by simp;omega);rw[Hw (by omega),FZ (by omega),ht2,Hv (by omega)];rw[hpl,hd,xx (by omega)];exact hk.words;simp;omega
end Go.Proofs.YtobbmodjdkcdcaaGreatDoor
set_option maxRecDepth 20000
namespace Go.Proofs.YtobbmodjdkcdcaaGreatDoor
open Go Go.Sim
variable [Fu]
def lenL (n:Nat):Nat→List Int|0=>[]|i+1=>lenL n i++[IntKind.u8.wrap (shrI .u64 (IntKind.u64.wrap ((n:Int)*8)) (56 - 8*(i:Int)))]
theorem oK (n:Nat):∀i,(lenL n i).length=i|0=>rfl|i+1=>by rw[lenL,FM,oK n i];rfl
def zeros (n:Nat):Nat:=(119 - n%64)%64
def fill (n:Nat):List Int:=128::List.replicate (zeros n) 0
def pad (p:List Int):List Int:=p++(fill p.length++lenL p.length 8)
theorem ui (n:Nat):(fill n).length=1+zeros n:=by simp[fill];omega
theorem Bs (p:List Int):(pad p).length=p.length+9+zeros p.length:=by unfold pad;rw[FM,FM,ui,oK];omega
theorem Eu (p:List Int):(pad p).length%64=0:=by rw[Bs];unfold zeros;omega
def oAt (v:List Int):Nat→List Int|0=>List.replicate 32 0|i+1=>(oAt v i).set i (IntKind.u8.wrap (shrI .u32 (g v (i / 4)) (24 - 8*((i%4:Nat):Int))))
theorem tv (v:List Int):∀i,(oAt v i).length=32|0=>by simp[oAt]|i+1=>by rw[oAt,H0,tv v i]
def digest (p:List Int):List Int:=oAt (cmp (pad p) ((pad p).length / 64)) 32
theorem ny (p:List Int):(digest p).length=32:=tv _ _
theorem wx (v:List Int):∀i,aL (oAt v i)|0=>λb hb=>by simp[oAt] at hb;omega|i+1=>λb hb=>by rw[oAt] at hb;rcases Iw hb with h|rfl;exact wx v i b h;exact kZ _
theorem xy (p:List Int):aL (digest p):=wx _ _
theorem shl3 {x:Int}:shlI .u64 x 3=IntKind.u64.wrap (x*8):=rfl
theorem shr0 {x:Int}:shrI .u32 x 0=x:=by have:shrI .u32 x 0=x.fdiv 1:=rfl;rw[this];simp
theorem oO {h:aE} {p:List Int} (hr:HR0 h p) (hb:p.length<2^59):fe h=some (digest p):=by
 unfold fe
 have hn:=hr.n
 have ez:IntKind.wrap .u64 (1+Int.tmod (IntKind.wrap .u64 (119 - Int.tmod h.n 64)) 64)=((1+zeros p.length:Nat):Int):=by
   have e1:Int.tmod h.n 64=((p.length%64:Nat):Int):=by rw[hn];rfl
   rw[e1,gW (x:=119 - ((p.length%64:Nat):Int)) (by omega)]
   have e2:(119 - ((p.length%64:Nat):Int))=((119 - p.length%64:Nat):Int):=by omega
   have e3:Int.tmod ((119 - p.length%64:Nat):Int) 64=((zeros p.length:Nat):Int):=rfl
   rw[e2,e3,gW (by unfold zeros;omega)];simp
 rw[ez]
 have hz:zeros p.length<64:=I0 _ (by decide)
 have hmk:mkB ((1+zeros p.length:Nat):Int) 72=true:=by
   unfold mkB
   have:(room:Int)=17179869184:=rfl
   simp only[this,FT,FX];omega
 rw[hmk]
 simp only[FJ,FP]
 rw[ar (xs:=List.replicate (1+zeros p.length) 0) (z:=0) (i:=0) rfl (by rw[Ig];omega)]
 simp only[ab]
 have efill:List.set (List.replicate (1+zeros p.length) (0:Int)) (Int.toNat 0) 128=fill p.length:=by
   rw[Nat.add_comm];rfl
 rw[efill]
 have hfl:=ui p.length
 rw[aP (λi=>(fill p.length++lenL p.length i,56 - 8*(i:Int))) 0 8 (r:=fill p.length++lenL p.length 8) (by omega) ?_ (cY rfl) (by simp[lenL])]
 rotate_left
 · intro i _ hi
   have h1:decide (56 - 8*(i:Int)≥0)=true:=by simp;omega
   have h2:decide (0≤56 - 8*(i:Int))=true:=by simp;omega
   simp only[h1,h2,FJ]
   have hll:=oK p.length i
   rw[aQ (by rw[FM];simp[room];omega),wrap64 (by omega),shl3,hn]
   have e8:(56 - 8*(i:Int)) - 8=56 - 8*((i+1:Nat):Int):=by omega
   simp only[ab,lenL,F6,e8]
 simp only[ab]
 have hfull:(fill p.length++lenL p.length 8).length=9+zeros p.length:=by rw[FM,oK];omega
 obtain⟨h',e',r'⟩:=oz hr (a:=fill p.length++lenL p.length 8) (by omega)
 rw[e']
 simp only[ab]
 have hw:h'.words=cmp (pad p) ((pad p).length / 64):=r'.words
 rw[hw]
 generalize hv:cmp (pad p) ((pad p).length / 64)=v
 have hvl:v.length=8:=by rw[←hv];exact tu _ _
 obtain⟨O,hO⟩:∃O,O=oAt v:=⟨_,rfl⟩
 have hO0:O 0=List.replicate 32 0:=by rw[hO];rfl
 have hOS:∀i,O (i+1)=(O i).set i (IntKind.u8.wrap (shrI .u32 (g v (i / 4)) (24 - 8*((i%4:Nat):Int)))):=by rw[hO];intro i;rfl
 have hOl:∀i,(O i).length=32:=by rw[hO];exact tv v
 rw[aP (λi=>((i:Int),O (4*i))) 0 8 (r:=O 32) (by omega) ?_ (cY rfl) (by rw[Nat.mul_zero,hO0];rfl)]
 rotate_left
 · intro i _ hi
   have h1:decide ((i:Int)<8)=true:=by simp;omega
   simp only[h1,FJ]
   rw[wrap64 (x:=4*(i:Int)) (by omega),wrap64 (x:=4*(i:Int)+1) (by omega),wrap64 (x:=4*(i:Int)+2) (by omega),wrap64 (x:=4*(i:Int)+3) (by omega),wrap64 (by omega)]
   have t0:Int.toNat (4*(i:Int))=4*i:=by omega
   have t1:Int.toNat (4*(i:Int)+1)=4*i+1:=by omega
   have t2:Int.toNat (4*(i:Int)+2)=4*i+2:=by omega
   have t3:Int.toNat (4*(i:Int)+3)=4*i+3:=by omega
   rw[t0,t1,t2,t3,ar (xs:=v) (z:=(i:Int)) (i:=i) rfl (by omega)]
   have hl:=hOl (4*i)
   rw[ar (xs:=O (4*i)) (z:=4*(i:Int)) (i:=4*i) (by omega) (by omega)]
   simp only[ab]
   rw[ar (z:=4*(i:Int)+1) (i:=4*i+1) (by omega) (by simp;omega)]
   simp only[ab]
   rw[ar (z:=4*(i:Int)+2) (i:=4*i+2) (by omega) (by simp;omega)]
   simp only[ab]
   rw[ar (z:=4*(i:Int)+3) (i:=4*i+3) (by omega) (by simp;omega)]
   simp only[ab]
   have hnext:O (4*(i+1))=List.set (List.set (List.set (List.set (O (4*i)) (4*i) (IntKind.u8.wrap (shrI .u32 (v.getD i 0) 24))) (4*i+1) (IntKind.u8.wrap (shrI .u32 (v.getD i 0) 16))) (4*i+2) (IntKind.u8.wrap (shrI .u32 (v.getD i 0) 8))) (4*i+3) (IntKind.u8.wrap (v.getD i 0)):=by
    rw[show 4*(i+1)=4*i+1+1+1+1 by omega,hOS,hOS,hOS,hOS]
    have q0:4*i / 4=i:=by omega
    have q1:(4*i+1) / 4=i:=by omega
    have q2:(4*i+1+1) / 4=i:=by omega
    have q3:(4*i+1+1+1) / 4=i:=by omega
    have m0:4*i%4=0:=by omega
    have m1:(4*i+1)%4=1:=by omega
    have m2:(4*i+1+1)%4=2:=by omega
    have m3:(4*i+1+1+1)%4=3:=by omega
    rw[q0,q1,q2,q3,m0,m1,m2,m3]
    have z3:(24 - 8*((3:Nat):Int))=0:=rfl
    rw[z3,shr0];rfl
   rw[hnext];rfl
 simp only[ab]
 show some (O 32)=some (digest p)
 unfold digest;rw[hv,hO]
theorem Dg {p:List Int} (hb:p.length<2^59):kL p=some (digest p):=by unfold kL;obtain⟨h,e,r⟩:=Df;rw[e];simp only[ab];obtain⟨h',e',r'⟩:=oz r (a:=p) (by simp;omega);rw[e'];simp only[ab];rw[oO (p:=p) (by simpa using r'.zero) hb];rfl
theorem AP {p:List Int} (hb:p.length<2^31):fp p=some (pad p):=by
 unfold fp
 have hroom:room=17179869184:=rfl
 rw[wrap64 (by omega)]
 have hmk:mkB 0 ((p.length:Int)+72)=true:=by
   unfold mkB
   have:(room:Int)=17179869184:=rfl
   simp only[this,FT,FX];omega
 rw[hmk]
 simp only[FJ]
 rw[aQ (by simp[room];omega)]
 simp only[ab,Int.toNat_zero,H7,F8]
 rw[aQ (by simp[room];omega)]
 simp only[ab]
 have hz:zeros p.length<64:=I0 _ (by decide)
 rw[aP (λi=>p++(128::List.replicate i 0)) 0 (zeros p.length) (r:=p++fill p.length) (by omega) ?_ ?_ (by rfl)]
 rotate_left
 · intro i _ hi
   have e:(p++(128::List.replicate i (0:Int))).length=p.length+1+i:=by simp;omega
   have hne:((Int.tmod ((p++(128::List.replicate i (0:Int))).length:Int) 64) != 56)=true:=by
    rw[e]
    have:Int.tmod ((p.length+1+i:Nat):Int) 64=(((p.length+1+i)%64:Nat):Int):=rfl
    rw[this]
    have:(p.length+1+i)%64≠56:=by unfold zeros at hi;omega
    simp;omega
   simp only[hne,FJ]
   rw[aQ (by rw[e];simp[hroom];omega)]
   simp only[ab,F6,G5]
   rw[←List.replicate_succ']
 · have e:(p++(128::List.replicate (zeros p.length) (0:Int))).length=p.length+1+zeros p.length:=by simp;omega
   have hne:((Int.tmod ((p++(128::List.replicate (zeros p.length) (0:Int))).length:Int) 64) != 56)=false:=by
    rw[e]
    have:Int.tmod ((p.length+1+zeros p.length:Nat):Int) 64=(((p.length+1+zeros p.length)%64:Nat):Int):=rfl
    rw[this]
    have:(p.length+1+zeros p.length)%64=56:=by unfold zeros;omega
    rw[this];rfl
   simp only[hne,FI];rfl
 simp only[ab]
 have hfl:(p++fill p.length).length=p.length+1+zeros p.length:=by rw[FM,ui];omega
 rw[aP (λi=>((p++fill p.length)++lenL p.length i,(i:Int))) 0 8 (r:=(p++fill p.length)++lenL p.length 8) (by omega) ?_ (cY rfl) (by simp[lenL])]
 rotate_left
 · intro i _ hi
   have h1:decide ((i:Int)<8)=true:=by simp;omega
   have hll:=oK p.length i
   rw[wrap64 (x:=8*(i:Int)) (by omega),wrap64 (x:=56 - 8*(i:Int)) (by omega)]
   have h2:decide (0≤56 - 8*(i:Int))=true:=by simp;omega
   simp only[h1,h2,FJ]
   rw[aQ (by rw[FM];simp only[List.length_singleton];omega),wrap64 (by omega),gW (x:=(p.length:Int)) (by omega)]
   simp only[ab,lenL,F6]
   rfl
 simp only[ab,pad,F6]
theorem Cf:gn=some glob0:=rfl
theorem xz {p:List Int} (hb:p.length<2^31):dO p=some (digest p):=by
 unfold dO
 rw[Cf,AP hb]
 simp only[ab]
 have hg:glob0.length=64:=rfl
 have hpl:=Bs p
 have hpm:=Eu p
 have hz:zeros p.length<64:=I0 _ (by decide)
 obtain⟨C,hC⟩:∃C,C=cmp (pad p):=⟨_,rfl⟩
 have hC0:C 0=IV:=by rw[hC];rfl
 have hCS:∀n,C (n+1)=blk glob0 (C n) (chunk (pad p) n):=by rw[hC];intro n;rfl
 have hCl:∀n,(C n).length=8:=by rw[hC];exact tu _
 have hN:(pad p).length=64*((pad p).length / 64):=by omega
 rw[aP (λi=>(((64*i:Nat):Int),C i)) 0 ((pad p).length / 64) (r:=C ((pad p).length / 64)) (by omega) ?_ ?_ (by rw[hC0];rfl)]
 rotate_left
 · intro i _ hi
   have h1:decide (((64*i:Nat):Int)<((pad p).length:Int))=true:=by simp;omega
   simp only[h1,FJ]
   rw[Cd (hCl i) hg (by omega) (by omega),wrap64 (by omega)]
   simp only[ab]
   rw[hCS]
   have e64:((64*i:Nat):Int)+64=((64*(i+1):Nat):Int):=by omega
   rw[e64];rfl
 · refine cY ?_
   simp;omega
 simp only[ab]
 generalize hv:C ((pad p).length / 64)=v
 have hvl:v.length=8:=by rw[←hv];exact hCl _
 obtain⟨O,hO⟩:∃O,O=oAt v:=⟨_,rfl⟩
 have hO0:O 0=List.replicate 32 0:=by rw[hO];rfl
 have hOS:∀i,O (i+1)=(O i).set i (IntKind.u8.wrap (shrI .u32 (g v (i / 4)) (24 - 8*((i%4:Nat):Int)))):=by rw[hO];intro i;rfl
 have hOl:∀i,(O i).length=32:=by rw[hO];exact tv v
 rw[aP (λi=>((i:Int),O i)) 0 32 (r:=O 32) (by omega) ?_ (cY rfl) (by rw[hO0];rfl)]
 rotate_left
 · intro i _ hi
   have h1:decide ((i:Int)<32)=true:=by simp;omega
   have e1:Int.tdiv (i:Int) 4=((i / 4:Nat):Int):=rfl
   have e2:Int.tmod (i:Int) 4=((i%4:Nat):Int):=rfl
   simp only[h1,FJ,e1,e2]
   rw[wrap64 (x:=((i / 4:Nat):Int)) (by omega),wrap64 (x:=8*((i%4:Nat):Int)) (by omega),wrap64 (x:=24 - 8*((i%4:Nat):Int)) (by omega)]
   have h2:decide (0≤24 - 8*((i%4:Nat):Int))=true:=by simp;omega
   have hl:=hOl i
   rw[ar (xs:=v) (z:=((i / 4:Nat):Int)) (i:=i / 4) rfl (by omega),h2,ar (xs:=O i) (z:=(i:Int)) (i:=i) rfl (by omega),wrap64 (by omega)]
   simp only[ab,FJ,FP]
   rw[hOS];rfl
 simp only[ab]
 unfold digest;rw[hO,←hv,hC]
end Go.Proofs.YtobbmodjdkcdcaaGreatDoor
