import Derived.Test.YtlkjdchmeihhkaaGreatDoorLawBits
import Derived.Test.YtlkjdchmeihhkaaGreatDoorBf10
set_option autoImplicit true
set_option relaxedAutoImplicit true
set_option linter.all false
set_option maxRecDepth 20000
namespace Go.Proofs.YtlkjdchmeihhkaaGreatDoor
open Go Go.Sim
open Go.IntKind (wrap)
variable [Fu]
def PP (x n:Int):Int:=qH .u32 (ef .u32 x n) (eD .u32 x (32 - n))
theorem Q6 {x:Int} {a n:Int} (h1:eI .u64 (wrap .u64 a) 31=32 - n) (h2:wrap .u64 (32 - (32 - n))=n) (b:0≤n∧n≤32):cb x a=some (PP x n):=by unfold cb PP;rw[h1,h2];(have b:decide (0≤32 - n)=true:=by simp;omega);(have c:decide (0≤n)=true:=by simp;omega);rw[b,c,FV];rfl
theorem Q4 {x n:Int} (h:0≤n∧n≤32):cf x n=some (PP x n):=by unfold cf PP;(have a:decide (0≤n)=true:=by simp;omega);(have b:decide (0≤32 - n)=true:=by simp;omega);rw[wrap64 (by omega),a,b];rfl
def g (l:List Int) (i:Nat):Int:=l.getD i 0
def SF (b:List Int) (i:Nat):Int:=qH .u32 (qH .u32 (qH .u32 (eD .u32 (IntKind.u32.wrap (g b (4*i))) 24) (eD .u32 (IntKind.u32.wrap (g b (4*i+1))) 16)) (eD .u32 (IntKind.u32.wrap (g b (4*i+2))) 8)) (IntKind.u32.wrap (g b (4*i+3)))
def uW (b:List Int) (i:Nat):Nat→Int|0=>0|j+1=>qH .u32 (eD .u32 (uW b i j) 8) (IntKind.u32.wrap (g b (4*i+j)))
theorem Zw (b:List Int) (i:Nat):uW b i 4=SF b i:=by simp only[uW,SF,KK];exact Ww _ _ _ _
def Vb (w:List Int) (t:Nat):Int:=wrap .u32 ((wrap .u32 ((wrap .u32 ((bJ .u32 (bJ .u32 (PP (g w (t - 2)) 17) (PP (g w (t - 2)) 19)) (ef .u32 (g w (t - 2)) 10))+g w (t - 7)))+(bJ .u32 (bJ .u32 (PP (g w (t - 15)) 7) (PP (g w (t - 15)) 18)) (ef .u32 (g w (t - 15)) 3))))+g w (t - 16))
def TJ (b:List Int):Nat→List Int|0=>List.replicate 64 0|i+1=>(TJ b i).set i (if i<16 then SF b i else Vb (TJ b i) i)
def F5 (k w:List Int) (i:Nat) (v:List Int):List Int:=
 let one:=wrap .u32 ((wrap .u32 ((wrap .u32 ((wrap .u32 (g v 7+(bJ .u32 (bJ .u32 (PP (g v 4) 6) (PP (g v 4) 11)) (PP (g v 4) 25))))+(bJ .u32 (eI .u32 (g v 4) (g v 5)) (eI .u32 (J_ .u32 (g v 4)) (g v 6)))))+g k i))+g w i)
 let a:=wrap .u32 ((bJ .u32 (bJ .u32 (PP (g v 0) 2) (PP (g v 0) 13)) (PP (g v 0) 22))+(bJ .u32 (bJ .u32 (eI .u32 (g v 0) (g v 1)) (eI .u32 (g v 0) (g v 2))) (eI .u32 (g v 1) (g v 2))))
 [wrap .u32 (one+a),g v 0,g v 1,g v 2,wrap .u32 (g v 3+one),g v 4,g v 5,g v 6]
def WC (k w s:List Int):Nat→List Int|0=>s|i+1=>F5 k w i (WC k w s i)
def VL (s v:List Int):Nat→List Int|0=>s|i+1=>(VL s v i).set i (wrap .u32 (g (VL s v i) i+g v i))
def blk (k s b:List Int):List Int:=VL s (WC k (TJ b 64) s 64) 8
theorem Bc (b:List Int):∀i,(TJ b i).length=64|0=>by simp[TJ]|i+1=>by rw[TJ,Kw,Bc b i]
theorem D6 {k w s:List Int} (h:s.length=8):∀i,(WC k w s i).length=8
 |0=>h
 |i+1=>rfl
theorem wZ {s v:List Int}:∀i,(VL s v i).length=s.length
 |0=>rfl
 |i+1=>by rw[VL,Kw,wZ i]
theorem Hm {k s b:List Int} (h:s.length=8):(blk k s b).length=8:=by rw[blk,wZ,h]
theorem xR (b:List Int):∀i j,i≤j→g (TJ b i) j=0|0,j,_=>by simp only[TJ,g,JN,List.getElem?_replicate];split<;>rfl|i+1,j,h=>by have:=xR b i j (by omega);simp only[TJ,g,JN] at this⊢;rw[List.getElem?_set_ne (by omega)];exact this
section
variable {s b k m:List Int}
theorem Dq (hs:s.length=8) (hb:b.length=64):iq s b=some (blk v8 s b):=by
 have hg:v8.length=64:=rfl
 unfold iq
 obtain⟨W,hW⟩:∃W,W=TJ b:=⟨_,rfl⟩
 have hW0:W 0=List.replicate 64 0:=by rw[hW];rfl
 have hWS:∀i,W (i+1)=(W i).set i (if i<16 then SF b i else Vb (W i) i):=by rw[hW];intro i;rfl
 have hWl:∀i,(W i).length=64:=by rw[hW];exact Bc b
 have hWz:∀i,g (W i) i=0:=by rw[hW];exact λi=>xR b i i (IL _)
 rw[aY (λi=>((i:Int),W i)) 0 16 (r:=W 16) (by omega) ?_ (dS rfl) (by rw[hW0];rfl)]
 rotate_left
 · intro i _ hi
   have h1:decide ((i:Int)<16)=true:=by simp;omega
   simp only[h1,Im]
   rw[wrap64 (x:=4*(i:Int)) (by omega),wrap64 (x:=4*(i:Int)+1) (by omega),wrap64 (x:=4*(i:Int)+2) (by omega),wrap64 (x:=4*(i:Int)+3) (by omega),
    aK (z:=4*(i:Int)) (i:=4*i) (by omega) (by omega),aK (z:=4*(i:Int)+1) (i:=4*i+1) (by omega) (by omega),aK (z:=4*(i:Int)+2) (i:=4*i+2) (by omega) (by omega),aK (z:=4*(i:Int)+3) (i:=4*i+3) (by omega) (by omega),
    aK (xs:=W i) (z:=(i:Int)) (i:=i) rfl (by rw[hWl];omega),wrap64 (by omega)]
   simp only[aB,Iq,hWS,Jm hi]
   rfl
 simp only[aB]
 rw[aY (λi=>((i:Int),W i)) 16 64 (r:=W 64) (by omega) ?_ (dS rfl) (by rfl)]
 rotate_left
 · intro i h16 hi
   have h1:decide ((i:Int)<64)=true:=by simp;omega
   have hl:=hWl i
   simp only[h1,Im]
   rw[wrap64 (x:=(i:Int) - 15) (by omega),wrap64 (x:=(i:Int) - 2) (by omega),wrap64 (x:=(i:Int) - 7) (by omega),wrap64 (x:=(i:Int) - 16) (by omega),
    aK (z:=(i:Int) - 15) (i:=i - 15) (by omega) (by omega),aK (z:=(i:Int) - 2) (i:=i - 2) (by omega) (by omega),aK (z:=(i:Int) - 7) (i:=i - 7) (by omega) (by omega),aK (z:=(i:Int) - 16) (i:=i - 16) (by omega) (by omega),
    aK (xs:=W i) (z:=(i:Int)) (i:=i) rfl (by omega),wrap64 (by omega)]
   simp only[aB]
   rw[Q6 (n:=7) (by decide) (by decide) (by decide),Q6 (n:=18) (by decide) (by decide) (by decide),Q6 (n:=17) (by decide) (by decide) (by decide),Q6 (n:=19) (by decide) (by decide) (by decide)]
   simp only[aB,Iq,hWS,Jf (show¬i<16 by omega)]
   rfl
 simp only[aB]
 generalize hw:W 64=w
 have hwl:w.length=64:=by rw[←hw];exact hWl 64
 obtain⟨V,hV⟩:∃V,V=WC v8 w s:=⟨_,rfl⟩
 have hV0:V 0=s:=by rw[hV];rfl
 have hVS:∀i,V (i+1)=F5 v8 w i (V i):=by rw[hV];intro i;rfl
 have hVl:∀i,(V i).length=8:=by rw[hV];exact D6 hs
 rw[aY (λi=>((i:Int),V i)) 0 64 (r:=V 64) (by omega) ?_ (dS rfl) (by rw[hV0];rfl)]
 rotate_left
 · intro i _ hi
   have h1:decide ((i:Int)<64)=true:=by simp;omega
   have hl:=hVl i
   generalize hv:V i=v at hl
   simp only[h1,Im]
   rw[aK (xs:=v) (z:=0) (i:=0) rfl (by omega),aK (xs:=v) (z:=1) (i:=1) rfl (by omega),aK (xs:=v) (z:=2) (i:=2) rfl (by omega),aK (xs:=v) (z:=4) (i:=4) rfl (by omega),aK (xs:=v) (z:=5) (i:=5) rfl (by omega),aK (xs:=v) (z:=6) (i:=6) rfl (by omega),aK (xs:=v) (z:=7) (i:=7) rfl (by omega),aK (xs:=v) (z:=3) (i:=3) rfl (by omega),
    aK (xs:=v8) (z:=(i:Int)) (i:=i) rfl (by omega),aK (xs:=w) (z:=(i:Int)) (i:=i) rfl (by omega),wrap64 (by omega)]
   simp only[aB]
   rw[Q6 (n:=6) (by decide) (by decide) (by decide),Q6 (n:=11) (by decide) (by decide) (by decide),Q6 (n:=25) (by decide) (by decide) (by decide),Q6 (n:=2) (by decide) (by decide) (by decide),Q6 (n:=13) (by decide) (by decide) (by decide),Q6 (n:=22) (by decide) (by decide) (by decide)]
   simp only[aB,hVS,hv]
   rfl
 simp only[aB]
 have hvl:=hVl 64
 generalize hv:V 64=v at hvl
 obtain⟨U,hU⟩:∃U,U=VL s v:=⟨_,rfl⟩
 have hU0:U 0=s:=by rw[hU];rfl
 have hUS:∀i,U (i+1)=(U i).set i (wrap .u32 (g (U i) i+g v i)):=by rw[hU];intro i;rfl
 have hUl:∀i,(U i).length=s.length:=by rw[hU];exact wZ
 rw[aY (λi=>((i:Int),U i)) 0 8 (r:=U 8) (by omega) ?_ (dS rfl) (by rw[hU0];rfl)]
 rotate_left
 · intro i _ hi
   have h1:decide ((i:Int)<8)=true:=by simp;omega
   have hl:=hUl i
   simp only[h1,Im]
   rw[aK (xs:=U i) (z:=(i:Int)) (i:=i) rfl (by omega),aK (xs:=v) (z:=(i:Int)) (i:=i) rfl (by omega),wrap64 (by omega)]
   simp only[aB,Iq,hUS]
   rfl
 simp only[aB,blk,←hW,hw,←hV,hv,←hU]
theorem EQ (hs:s.length=8) (hk:k.length=64) {at_:Nat} (hm:at_+64≤m.length) (hb:m.length<2^62):gv s k m (at_:Int)=some (blk k s ((m.drop at_).take 64)):=by
 generalize hbb:(m.drop at_).take 64=b
 have hbl:b.length=64:=by rw[←hbb];simp;omega
 have hgb:∀j,j<64→m.getD (at_+j) 0=g b j:=λj hj=>by
   rw[←hbb];simp only[g,JN,JB,Jc,Jm hj]
 unfold gv
 obtain⟨W,hW⟩:∃W,W=TJ b:=⟨_,rfl⟩
 have hW0:W 0=List.replicate 64 0:=by rw[hW];rfl
 have hWS:∀i,W (i+1)=(W i).set i (if i<16 then SF b i else Vb (W i) i):=by rw[hW];intro i;rfl
 have hWl:∀i,(W i).length=64:=by rw[hW];exact Bc b
 have hWz:∀i,g (W i) i=0:=by rw[hW];exact λi=>xR b i i (IL _)
 rw[aY (λi=>((i:Int),W i)) 0 64 (r:=W 64) (by omega) ?_ (dS rfl) (by rw[hW0];rfl)]
 rotate_left
 · intro i _ hi
   have h1:decide ((i:Int)<64)=true:=by simp;omega
   have hl:=hWl i
   simp only[h1,Im]
   by_cases h16:i<16
   · have h2:decide ((i:Int)<16)=true:=by simp;omega
     simp only[h2,Im]
     generalize hw:W i=w at hl
     have hz:g w i=0:=by rw[←hw];exact hWz i
     rw[aY (λj=>((j:Int),w.set i (uW b i j))) 0 4 (r:=w.set i (uW b i 4)) (by omega) ?_ (dS rfl) ?_]
     rotate_left
     · intro j _ hj
       have h3:decide ((j:Int)<4)=true:=by simp;omega
       simp only[h3,Im]
       rw[wrap64 (x:=4*(i:Int)) (by omega),wrap64 (x:=(at_:Int)+4*(i:Int)) (by omega),wrap64 (x:=(at_:Int)+4*(i:Int)+(j:Int)) (by omega),
        aK (xs:=w.set i (uW b i j)) (z:=(i:Int)) (i:=i) rfl (by simp;omega),aK (xs:=m) (z:=(at_:Int)+4*(i:Int)+(j:Int)) (i:=at_+(4*i+j)) (by omega) (by omega),wrap64 (by omega),hgb _ (by omega)]
       have hu:(w.set i (uW b i j)).getD i 0=uW b i j:=by simp[show i<w.length by omega]
       simp only[aB,hu,Iq,List.set_set]
       rw[uW];rfl
     · have:w.set i (uW b i 0)=w:=by
        have h0:w[i]? =some 0:=by
          have:=hz;simp only[g,JN] at this
          rw[IW (show i<w.length by omega)] at this⊢
          simpa using this
        refine KG λq=>?_
        by_cases hq:i=q
        · subst hq;rw[List.getElem?_set_self (by omega),h0,uW]
        · rw[List.getElem?_set_ne hq]
       rw[this];rfl
     simp only[aB]
     rw[wrap64 (by omega)]
     have:uW b i 4=SF b i:=Zw b i
     simp only[hWS,Jm h16,hw,this]
     rfl
   · have h2:decide ((i:Int)<16)=false:=by simp;omega
     simp only[h2,Il,aB]
     rw[wrap64 (x:=(i:Int) - 15) (by omega),wrap64 (x:=(i:Int) - 2) (by omega),wrap64 (x:=(i:Int) - 7) (by omega),wrap64 (x:=(i:Int) - 16) (by omega),
       aK (z:=(i:Int) - 15) (i:=i - 15) (by omega) (by omega),aK (z:=(i:Int) - 2) (i:=i - 2) (by omega) (by omega),aK (z:=(i:Int) - 7) (i:=i - 7) (by omega) (by omega),aK (z:=(i:Int) - 16) (i:=i - 16) (by omega) (by omega),
       aK (xs:=W i) (z:=(i:Int)) (i:=i) rfl (by omega),wrap64 (by omega)]
     simp only[aB]
     rw[Q4 (n:=7) (by decide),Q4 (n:=18) (by decide),Q4 (n:=17) (by decide),Q4 (n:=19) (by decide)]
     simp only[aB,Iq,hWS,Jf h16]
     rfl
 simp only[aB]
 generalize hw:W 64=w
 have hwl:w.length=64:=by rw[←hw];exact hWl 64
 obtain⟨V,hV⟩:∃V,V=WC k w s:=⟨_,rfl⟩
 have hV0:V 0=s:=by rw[hV];rfl
 have hVS:∀i,V (i+1)=F5 k w i (V i):=by rw[hV];intro i;rfl
 have hVl:∀i,(V i).length=8:=by rw[hV];exact D6 hs
 rw[aY (λi=>((i:Int),V i)) 0 64 (r:=V 64) (by omega) ?_ (dS rfl) (by rw[hV0];rfl)]
 rotate_left
 · intro i _ hi
   have h1:decide ((i:Int)<64)=true:=by simp;omega
   have hl:=hVl i
   generalize hv:V i=v at hl
   simp only[h1,Im]
   rw[aK (xs:=v) (z:=0) (i:=0) rfl (by omega),aK (xs:=v) (z:=1) (i:=1) rfl (by omega),aK (xs:=v) (z:=2) (i:=2) rfl (by omega),aK (xs:=v) (z:=4) (i:=4) rfl (by omega),aK (xs:=v) (z:=5) (i:=5) rfl (by omega),aK (xs:=v) (z:=6) (i:=6) rfl (by omega),aK (xs:=v) (z:=7) (i:=7) rfl (by omega),aK (xs:=v) (z:=3) (i:=3) rfl (by omega),
     aK (xs:=k) (z:=(i:Int)) (i:=i) rfl (by omega),aK (xs:=w) (z:=(i:Int)) (i:=i) rfl (by omega),wrap64 (by omega)]
   simp only[aB]
   rw[Q4 (n:=6) (by decide),Q4 (n:=11) (by decide),Q4 (n:=25) (by decide),Q4 (n:=2) (by decide),Q4 (n:=13) (by decide),Q4 (n:=22) (by decide)]
   simp only[aB,hVS,hv]
   rfl
 simp only[aB]
 have hvl:=hVl 64
 generalize hv:V 64=v at hvl
 obtain⟨U,hU⟩:∃U,U=VL s v:=⟨_,rfl⟩
 have hU0:U 0=s:=by rw[hU];rfl
 have hUS:∀i,U (i+1)=(U i).set i (wrap .u32 (g (U i) i+g v i)):=by rw[hU];intro i;rfl
 have hUl:∀i,(U i).length=s.length:=by rw[hU];exact wZ
 rw[aY (λi=>((i:Int),U i)) 0 8 (r:=U 8) (by omega) ?_ (dS rfl) (by rw[hU0];rfl)]
 rotate_left
 · intro i _ hi
   have h1:decide ((i:Int)<8)=true:=by simp;omega
   have hl:=hUl i
   simp only[h1,Im]
   rw[aK (xs:=U i) (z:=(i:Int)) (i:=i) rfl (by omega),aK (xs:=v) (z:=(i:Int)) (i:=i) rfl (by omega),wrap64 (by omega)]
   simp only[aB,Iq,hUS]
   rfl
 simp only[aB,blk,←hW,hw,←hV,hv,←hU]
end
end Go.Proofs.YtlkjdchmeihhkaaGreatDoor
set_option maxRecDepth 20000
namespace Go.Proofs.YtlkjdchmeihhkaaGreatDoor
open Go Go.Sim
open Go.IntKind (wrap)
variable [Fu]
def IV:List Int:=[1779033703,3144134277,1013904242,2773480762,1359893119,2600822924,528734635,1541459225]
def QA (m:List Int) (i:Nat):List Int:=(m.drop (64*i)).take 64
def cmp (m:List Int):Nat→List Int|0=>IV|n+1=>blk v8 (cmp m n) (QA m n)
theorem w4 (m:List Int):∀n,(cmp m n).length=8|0=>rfl|n+1=>by rw[cmp,Hm (w4 m n)]
theorem ER {p q:List Int} {i:Nat} (h:64*(i+1)≤p.length):QA (p++q) i=QA p i:=by unfold QA;rw[Km (by omega),Kn (by simp;omega)]
theorem Bd {p q:List Int}:∀{n:Nat},64*n≤p.length→cmp (p++q) n=cmp p n|0,_=>rfl|n+1,h=>by rw[cmp,cmp,Bd (by omega),ER h]
structure HR (h:be) (q:List Int):Prop where
 n:h.n=q.length
 tl:h.tail.length=64
 tail:h.tail.take (q.length%64)=q.drop (64*(q.length / 64))
 words:h.words=cmp q (q.length / 64)
structure Xa (h:be) (q:List Int):Prop where
 n:h.n=q.length
 tl:h.tail.length=64
 tail:h.tail.take (q.length%64)=q.drop (64*(q.length / 64))
 words:64≤q.length→h.words=cmp q (q.length / 64)
theorem HR.zero {h:be} {q:List Int} (r:HR h q):Xa h q:=⟨r.n,r.tl,r.tail,λ_=>r.words⟩
theorem sN {xs ys:List Int} {a b:Nat} (h1:a≤b) (h2:b≤xs.length):over xs a b ys=xs.take a++ys.take (b - a)++xs.drop (a+min ys.length (b - a)):=by unfold over;rfl
theorem F6:∃h,oY=some h∧Xa h []:=⟨_,rfl,⟨rfl,by simp,by simp,λh=>by simp at h⟩⟩
theorem rT {h:be} {q a:List Int} (b:Xa h q) (c:q.length+a.length<2^60):∃c,eR h a=some c∧HR c (q++a):=by unfold eR;(have d:∃f,(bif decide (h.n<64) then(om).bind λe=>some ({h with words:=e}:be) else some h:Option be)=some f∧HR f q:=by by_cases e:q.length<64;(have e:decide (h.n<64)=true:=by rw[b.n];simp;omega);rw[e];refine⟨_,rfl,b.n,b.tl,b.tail,?_⟩;(have:q.length / 64=0:=by omega);rw[this];rfl;(have e:decide (h.n<64)=false:=by rw[b.n];simp;omega);rw[e];exact⟨h,rfl,b.n,b.tl,b.tail,b.words (by omega)⟩);obtain⟨f,b,e⟩:=d;rw[b];simp only[aB];refine FW (D2 (P:=λs=>∃p,HR s.2 p∧p++s.1=q++a) (Q:=λc=>HR c (q++a)) (λs=>s.1.length) ?_ (s:=(a,f)) ⟨q,e,rfl⟩);rintro⟨b,k⟩ ⟨p,d,e⟩;simp only at d e⊢;(have c:p.length+b.length=q.length+a.length:=by have:=congrArg List.length e;simpa using this);cases c:b with|nil=>subst c;left;refine⟨k,by simp,?_⟩;rw[JW] at e;rw[←e];exact d|cons x f=>right;rw[←c];(have f:0<b.length:=by rw[c];simp);(have c:decide ((b.length:Int)>0)=true:=by simp;omega);rw[c,d.n];have em:Int.tmod (p.length:Int) 64=((p.length%64:Nat):Int):=rfl;have c:p.length%64<64:=L2 _ (by decide);simp only[Im,em,Iq];generalize f:p.length%64=r at c;(have c:decide ((0:Int)≤(r:Int)∧(r:Int)≤64∧(64:Int)≤64)=true:=by simp;omega);have i:Int.toNat 64=64:=rfl;(have j:decide (r≤Int.toNat 64∧Int.toNat 64≤64)=true:=by simp;omega);rw[c,j];simp only[Im,i];generalize i:min b.length (64 - r)=c;(have j:1≤c:=by omega);(have j:c≤b.length:=by omega);(have j:r+c≤64:=by omega);(have j:sub b (c:Int) (b.length:Int)=some (b.drop c):=by unfold sub;(have d1:decide (0≤(c:Int))=true:=by simp);(have d2:decide ((c:Int)≤(b.length:Int))=true:=by simp;omega);rw[d1,d2];simp);rw[j,ko (x:=(c:Int)) (by omega),ko (x:=(p.length:Int)+(c:Int)) (by omega)];simp only[aB];have j:=d.tl;(have j:over k.tail r 64 b=k.tail.take r++b.take (64 - r)++k.tail.drop (r+c):=by rw[sN (by omega) (by omega),i]);(have i:(over k.tail r 64 b).length=64:=by rw[j];simp;omega);have l:=d.tail;rw[f] at l;(have m:(p++b.take c)++b.drop c=q++a:=by rw[IR,Jl,e]);(have e:(p++b.take c).length=p.length+c:=by simp;omega);(have n:p.length=64*(p.length / 64)+r:=by rw[←f];exact(L5 _ _).symm);(have f:Int.tmod ((p.length:Int)+(c:Int)) 64=(((p.length+c)%64:Nat):Int):=by rw[←Int.natCast_add];rfl);rw[f];by_cases f:r+c=64;(have f:(p.length+c)%64=0:=by omega);(have n:(p.length+c) / 64=p.length / 64+1:=by omega);rw[f];simp only[Int.ofNat_zero,Int.natCast_zero,KC,Im];(have o:over k.tail r 64 b=QA (p++b.take c) (p.length / 64):=by rw[j,l];unfold QA;have:k.tail.drop (r+c)=[]:=Kj (by omega);(have s:(p.drop (64*(p.length / 64))++b.take c).length=64:=by simp;omega);rw[this,JW,show 64 - r=c by omega,Km (by omega)];exact(ID (by omega)).symm);rw[Dq (by rw[d.words,w4]) i];simp only[aB];refine⟨_,rfl,⟨p++b.take c,⟨?_,i,?_,?_⟩,m⟩,?_⟩;simp only[e];omega;rw[e,f,n];simp only[Ku];exact(Kj (by rw[e];omega)).symm;rw[e,n,cmp,Bd (by omega),←o,d.words];simp;omega;(have f:(p.length+c)%64=r+c:=by omega);(have n:(p.length+c) / 64=p.length / 64:=by omega);(have o:((((p.length+c)%64:Nat):Int)==0)=false:=by rw[f];simp;omega);rw[o];simp only[Il];refine⟨_,rfl,⟨p++b.take c,⟨?_,i,?_,?_⟩,m⟩,?_⟩;show(p.length:Int)+(c:Int)=(((p++b.take c).length:Nat):Int);rw[e];simp;(have i:c=b.length:=by omega);rw[e,f,n];show(over k.tail r 64 b).take (r+c)=_;rw[j,l];(have f:b.take (64 - r)=b.take c:=by rw[ID (by omega),ID (by omega)]);(have i:(p.drop (64*(p.length / 64))++b.take (64 - r)).length=r+c:=by simp;omega);rw[Kn (by omega),ID (by omega),f,Km (by omega)];rw[e,n,Bd (by omega)];exact d.words;simp;omega
end Go.Proofs.YtlkjdchmeihhkaaGreatDoor
set_option maxRecDepth 20000
namespace Go.Proofs.YtlkjdchmeihhkaaGreatDoor
open Go Go.Sim
open Go.IntKind (wrap)
variable [Fu]
def PV (n:Nat):Nat→List Int|0=>[]|i+1=>PV n i++[IntKind.u8.wrap (ef .u64 (IntKind.u64.wrap ((n:Int)*8)) (56 - 8*(i:Int)))]
theorem rU (n:Nat):∀i,(PV n i).length=i|0=>rfl|i+1=>by rw[PV,Iu,rU n i];rfl
def m0 (n:Nat):Nat:=(119 - n%64)%64
def fill (n:Nat):List Int:=128::List.replicate (m0 n) 0
def Ry (p:List Int):List Int:=p++(fill p.length++PV p.length 8)
theorem xS (n:Nat):(fill n).length=1+m0 n:=by simp[fill];omega
theorem D7 (p:List Int):(Ry p).length=p.length+9+m0 p.length:=by unfold Ry;rw[Iu,Iu,xS,rU];omega
theorem Hn (p:List Int):(Ry p).length%64=0:=by rw[D7];unfold m0;omega
def TZ (v:List Int):Nat→List Int|0=>List.replicate 32 0|i+1=>(TZ v i).set i (IntKind.u8.wrap (ef .u32 (g v (i / 4)) (24 - 8*((i%4:Nat):Int))))
theorem w5 (v:List Int):∀i,(TZ v i).length=32|0=>by simp[TZ]|i+1=>by rw[TZ,Kw,w5 v i]
def rG (p:List Int):List Int:=TZ (cmp (Ry p) ((Ry p).length / 64)) 32
theorem qU (p:List Int):(rG p).length=32:=w5 _ _
theorem Aa (v:List Int):∀i,aV (TZ v i)|0=>λb a=>by simp[TZ] at a;omega|i+1=>λb a=>by rw[TZ] at a;rcases List.mem_or_eq_of_mem_set a with h|rfl;exact Aa v i b h;exact ml _
theorem Be (p:List Int):aV (rG p):=Aa _ _
theorem X0 {x:Int}:eD .u64 x 3=IntKind.u64.wrap (x*8):=rfl
theorem Xy {x:Int}:ef .u32 x 0=x:=by have:ef .u32 x 0=x.fdiv 1:=rfl;rw[this];simp
theorem rV {h:be} {p:List Int} (a:Xa h p) (b:p.length<2^59):gm h=some (rG p):=by
 unfold gm
 have b:=a.n
 have c:wrap .u64 (1+Int.tmod (wrap .u64 (119 - Int.tmod h.n 64)) 64)=((1+m0 p.length:Nat):Int):=by
   have d:Int.tmod h.n 64=((p.length%64:Nat):Int):=by rw[b];rfl
   rw[d,ko (x:=119 - ((p.length%64:Nat):Int)) (by omega)]
   have d:(119 - ((p.length%64:Nat):Int))=((119 - p.length%64:Nat):Int):=by omega
   have e:Int.tmod ((119 - p.length%64:Nat):Int) 64=((m0 p.length:Nat):Int):=rfl
   rw[d,e,ko (by unfold m0;omega)];simp
 rw[c]
 have c:m0 p.length<64:=L2 _ (by decide)
 have e:pJ ((1+m0 p.length:Nat):Int) 72=true:=by
   unfold pJ
   have:(dJ:Int)=17179869184:=rfl
   simp only[this,Ix,IB];omega
 rw[e]
 simp only[Im,Iq]
 rw[aK (xs:=List.replicate (1+m0 p.length) 0) (z:=0) (i:=0) rfl (by rw[Le];omega)]
 simp only[aB]
 have c:List.set (List.replicate (1+m0 p.length) (0:Int)) (Int.toNat 0) 128=fill p.length:=by
   rw[Nat.add_comm];rfl
 rw[c]
 have l:=xS p.length
 rw[aY (λi=>(fill p.length++PV p.length i,56 - 8*(i:Int))) 0 8 (r:=fill p.length++PV p.length 8) (by omega) ?_ (dS rfl) (by simp[PV])]
 rotate_left
 · intro i _ c
   have d:decide (56 - 8*(i:Int)≥0)=true:=by simp;omega
   have e:decide (0≤56 - 8*(i:Int))=true:=by simp;omega
   simp only[d,e,Im]
   have m:=rU p.length i
   rw[aW (by rw[Iu];simp[dJ];omega),wrap64 (by omega),X0,b]
   have b:(56 - 8*(i:Int)) - 8=56 - 8*((i+1:Nat):Int):=by omega
   simp only[aB,PV,IR,b]
 simp only[aB]
 have k:(fill p.length++PV p.length 8).length=9+m0 p.length:=by rw[Iu,rU];omega
 obtain⟨b,e,f⟩:=rT a (a:=fill p.length++PV p.length 8) (by omega)
 rw[e]
 simp only[aB]
 have a:b.words=cmp (Ry p) ((Ry p).length / 64):=f.words
 rw[a]
 generalize a:cmp (Ry p) ((Ry p).length / 64)=v
 have o:v.length=8:=by rw[←a];exact w4 _ _
 obtain⟨O,e⟩:∃O,O=TZ v:=⟨_,rfl⟩
 have f:O 0=List.replicate 32 0:=by rw[e];rfl
 have b:∀i,O (i+1)=(O i).set i (IntKind.u8.wrap (ef .u32 (g v (i / 4)) (24 - 8*((i%4:Nat):Int)))):=by rw[e];intro i;rfl
 have j:∀i,(O i).length=32:=by rw[e];exact w5 v
 rw[aY (λi=>((i:Int),O (4*i))) 0 8 (r:=O 32) (by omega) ?_ (dS rfl) (by rw[Nat.mul_zero,f];rfl)]
 rotate_left
 · intro i _ c
   have d:decide ((i:Int)<8)=true:=by simp;omega
   simp only[d,Im]
   rw[wrap64 (x:=4*(i:Int)) (by omega),wrap64 (x:=4*(i:Int)+1) (by omega),wrap64 (x:=4*(i:Int)+2) (by omega),wrap64 (x:=4*(i:Int)+3) (by omega),wrap64 (by omega)]
   have t0:Int.toNat (4*(i:Int))=4*i:=by omega
   have t1:Int.toNat (4*(i:Int)+1)=4*i+1:=by omega
   have t2:Int.toNat (4*(i:Int)+2)=4*i+2:=by omega
   have t3:Int.toNat (4*(i:Int)+3)=4*i+3:=by omega
   rw[t0,t1,t2,t3,aK (xs:=v) (z:=(i:Int)) (i:=i) rfl (by omega)]
   have c:=j (4*i)
   rw[aK (xs:=O (4*i)) (z:=4*(i:Int)) (i:=4*i) (by omega) (by omega)]
   simp only[aB]
   rw[aK (z:=4*(i:Int)+1) (i:=4*i+1) (by omega) (by simp;omega)]
   simp only[aB]
   rw[aK (z:=4*(i:Int)+2) (i:=4*i+2) (by omega) (by simp;omega)]
   simp only[aB]
   rw[aK (z:=4*(i:Int)+3) (i:=4*i+3) (by omega) (by simp;omega)]
   simp only[aB]
   have d:O (4*(i+1))=List.set (List.set (List.set (List.set (O (4*i)) (4*i) (IntKind.u8.wrap (ef .u32 (v.getD i 0) 24))) (4*i+1) (IntKind.u8.wrap (ef .u32 (v.getD i 0) 16))) (4*i+2) (IntKind.u8.wrap (ef .u32 (v.getD i 0) 8))) (4*i+3) (IntKind.u8.wrap (v.getD i 0)):=by
    rw[show 4*(i+1)=4*i+1+1+1+1 by omega,b,b,b,b]
    have b:4*i / 4=i:=by omega
    have c:(4*i+1) / 4=i:=by omega
    have f:(4*i+1+1) / 4=i:=by omega
    have j:(4*i+1+1+1) / 4=i:=by omega
    have k:4*i%4=0:=by omega
    have l:(4*i+1)%4=1:=by omega
    have m:(4*i+1+1)%4=2:=by omega
    have n:(4*i+1+1+1)%4=3:=by omega
    rw[b,c,f,j,k,l,m,n]
    have b:(24 - 8*((3:Nat):Int))=0:=rfl
    rw[b,Xy];rfl
   rw[d];rfl
 simp only[aB]
 show some (O 32)=some (rG p)
 unfold rG;rw[a,e]
theorem F7 {p:List Int} (a:p.length<2^59):nc p=some (rG p):=by unfold nc;obtain⟨h,e,r⟩:=F6;rw[e];simp only[aB];obtain⟨b,b,c⟩:=rT r (a:=p) (by simp;omega);rw[b];simp only[aB];rw[rV (p:=p) (by simpa using c.zero) a];rfl
theorem Dr {p:List Int} (a:p.length<2^31):gu p=some (Ry p):=by
 unfold gu
 have b:dJ=17179869184:=rfl
 rw[wrap64 (by omega)]
 have c:pJ 0 ((p.length:Int)+72)=true:=by
   unfold pJ
   have:(dJ:Int)=17179869184:=rfl
   simp only[this,Ix,IB];omega
 rw[c]
 simp only[Im]
 rw[aW (by simp[dJ];omega)]
 simp only[aB,Int.toNat_zero,Kv,IP]
 rw[aW (by simp[dJ];omega)]
 simp only[aB]
 have a:m0 p.length<64:=L2 _ (by decide)
 rw[aY (λi=>p++(128::List.replicate i 0)) 0 (m0 p.length) (r:=p++fill p.length) (by omega) ?_ ?_ (by rfl)]
 rotate_left
 · intro i _ c
   have e:(p++(128::List.replicate i (0:Int))).length=p.length+1+i:=by simp;omega
   have a:((Int.tmod ((p++(128::List.replicate i (0:Int))).length:Int) 64) != 56)=true:=by
    rw[e]
    have:Int.tmod ((p.length+1+i:Nat):Int) 64=(((p.length+1+i)%64:Nat):Int):=rfl
    rw[this]
    have:(p.length+1+i)%64≠56:=by unfold m0 at c;omega
    simp;omega
   simp only[a,Im]
   rw[aW (by rw[e];simp[b];omega)]
   simp only[aB,IR,JS]
   rw[←List.replicate_succ']
 · have e:(p++(128::List.replicate (m0 p.length) (0:Int))).length=p.length+1+m0 p.length:=by simp;omega
   have a:((Int.tmod ((p++(128::List.replicate (m0 p.length) (0:Int))).length:Int) 64) != 56)=false:=by
    rw[e]
    have:Int.tmod ((p.length+1+m0 p.length:Nat):Int) 64=(((p.length+1+m0 p.length)%64:Nat):Int):=rfl
    rw[this]
    have:(p.length+1+m0 p.length)%64=56:=by unfold m0;omega
    rw[this];rfl
   simp only[a,Il];rfl
 simp only[aB]
 have d:(p++fill p.length).length=p.length+1+m0 p.length:=by rw[Iu,xS];omega
 rw[aY (λi=>((p++fill p.length)++PV p.length i,(i:Int))) 0 8 (r:=(p++fill p.length)++PV p.length 8) (by omega) ?_ (dS rfl) (by simp[PV])]
 rotate_left
 · intro i _ c
   have a:decide ((i:Int)<8)=true:=by simp;omega
   have f:=rU p.length i
   rw[wrap64 (x:=8*(i:Int)) (by omega),wrap64 (x:=56 - 8*(i:Int)) (by omega)]
   have b:decide (0≤56 - 8*(i:Int))=true:=by simp;omega
   simp only[a,b,Im]
   rw[aW (by rw[Iu];simp only[List.length_singleton];omega),wrap64 (by omega),ko (x:=(p.length:Int)) (by omega)]
   simp only[aB,PV,IR]
   rfl
 simp only[aB,Ry,IR]
theorem ES:jt=some v8:=rfl
theorem Bf {p:List Int} (a:p.length<2^31):fb p=some (rG p):=by
 unfold fb
 rw[ES,Dr a]
 simp only[aB]
 have d:v8.length=64:=rfl
 have j:=D7 p
 have k:=Hn p
 have a:m0 p.length<64:=L2 _ (by decide)
 obtain⟨C,j⟩:∃C,C=cmp (Ry p):=⟨_,rfl⟩
 have b:C 0=IV:=by rw[j];rfl
 have c:∀n,C (n+1)=blk v8 (C n) (QA (Ry p) n):=by rw[j];intro n;rfl
 have a:∀n,(C n).length=8:=by rw[j];exact w4 _
 have e:(Ry p).length=64*((Ry p).length / 64):=by omega
 rw[aY (λi=>(((64*i:Nat):Int),C i)) 0 ((Ry p).length / 64) (r:=C ((Ry p).length / 64)) (by omega) ?_ ?_ (by rw[b];rfl)]
 rotate_left
 · intro i _ b
   have k:decide (((64*i:Nat):Int)<((Ry p).length:Int))=true:=by simp;omega
   simp only[k,Im]
   rw[EQ (a i) d (by omega) (by omega),wrap64 (by omega)]
   simp only[aB]
   rw[c]
   have d:((64*i:Nat):Int)+64=((64*(i+1):Nat):Int):=by omega
   rw[d];rfl
 · refine dS ?_
   simp;omega
 simp only[aB]
 generalize c:C ((Ry p).length / 64)=v
 have l:v.length=8:=by rw[←c];exact a _
 obtain⟨O,a⟩:∃O,O=TZ v:=⟨_,rfl⟩
 have e:O 0=List.replicate 32 0:=by rw[a];rfl
 have f:∀i,O (i+1)=(O i).set i (IntKind.u8.wrap (ef .u32 (g v (i / 4)) (24 - 8*((i%4:Nat):Int)))):=by rw[a];intro i;rfl
 have h:∀i,(O i).length=32:=by rw[a];exact w5 v
 rw[aY (λi=>((i:Int),O i)) 0 32 (r:=O 32) (by omega) ?_ (dS rfl) (by rw[e];rfl)]
 rotate_left
 · intro i _ b
   have k:decide ((i:Int)<32)=true:=by simp;omega
   have b:Int.tdiv (i:Int) 4=((i / 4:Nat):Int):=rfl
   have d:Int.tmod (i:Int) 4=((i%4:Nat):Int):=rfl
   simp only[k,Im,b,d]
   rw[wrap64 (x:=((i / 4:Nat):Int)) (by omega),wrap64 (x:=8*((i%4:Nat):Int)) (by omega),wrap64 (x:=24 - 8*((i%4:Nat):Int)) (by omega)]
   have b:decide (0≤24 - 8*((i%4:Nat):Int))=true:=by simp;omega
   have d:=h i
   rw[aK (xs:=v) (z:=((i / 4:Nat):Int)) (i:=i / 4) rfl (by omega),b,aK (xs:=O i) (z:=(i:Int)) (i:=i) rfl (by omega),wrap64 (by omega)]
   simp only[aB,Im,Iq]
   rw[f];rfl
 simp only[aB]
 unfold rG;rw[a,←c,j]
end Go.Proofs.YtlkjdchmeihhkaaGreatDoor
