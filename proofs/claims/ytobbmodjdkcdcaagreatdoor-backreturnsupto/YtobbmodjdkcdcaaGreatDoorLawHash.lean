import Derived.Test.YtobbmodjdkcdcaaGreatDoorLawBits
import Derived.Test.YtobbmodjdkcdcaaGreatDoorBr7
set_option linter.unusedVariables false
set_option linter.unusedSimpArgs false
set_option maxRecDepth 20000
namespace Go.Proofs.YtobbmodjdkcdcaaGreatDoor
open Go Go.Sim
set_option linter.unusedSectionVars false
variable [Fu]
def rotR (x n:Int):Int:=orI .u32 (shrI .u32 x n) (shlI .u32 x (32 - n))
theorem rotL {x:Int} {a n:Int} (h1:andI .u64 (IntKind.wrap .u64 a) 31=32 - n) (h2:IntKind.wrap .u64 (32 - (32 - n))=n) (h3:0≤n∧n≤32):bf x a=some (rotR x n):=by
 unfold bf rotR
 rw[h1,h2]
 have e1:decide (0≤32 - n)=true:=by simp;omega
 have e2:decide (0≤n)=true:=by simp;omega
 rw[e1,e2,yL];rfl
theorem rotT {x n:Int} (h:0≤n∧n≤32):bi x n=some (rotR x n):=by
 unfold bi rotR
 have e1:decide (0≤n)=true:=by simp;omega
 have e2:decide (0≤32 - n)=true:=by simp;omega
 rw[wrap64 (by omega),e1,e2];rfl
def g (l:List Int) (i:Nat):Int:=l.getD i 0
def word (b:List Int) (i:Nat):Int:=orI .u32 (orI .u32 (orI .u32 (shlI .u32 (IntKind.u32.wrap (g b (4*i))) 24) (shlI .u32 (IntKind.u32.wrap (g b (4*i+1))) 16)) (shlI .u32 (IntKind.u32.wrap (g b (4*i+2))) 8)) (IntKind.u32.wrap (g b (4*i+3)))
def uW (b:List Int) (i:Nat):Nat→Int
 |0=>0
 |j+1=>orI .u32 (shlI .u32 (uW b i j) 8) (IntKind.u32.wrap (g b (4*i+j)))
theorem uW4 (b:List Int) (i:Nat):uW b i 4=word b i:=by
 simp only[uW,word,Nat.add_zero]
 exact word4 _ _ _ _
def mixW (w:List Int) (t:Nat):Int:=
 IntKind.wrap .u32 ((IntKind.wrap .u32 ((IntKind.wrap .u32 ((xorI .u32 (xorI .u32 (rotR (g w (t - 2)) 17) (rotR (g w (t - 2)) 19)) (shrI .u32 (g w (t - 2)) 10))+g w (t - 7)))+(xorI .u32 (xorI .u32 (rotR (g w (t - 15)) 7) (rotR (g w (t - 15)) 18)) (shrI .u32 (g w (t - 15)) 3))))+g w (t - 16))
def wAt (b:List Int):Nat→List Int
 |0=>List.replicate 64 0
 |i+1=>(wAt b i).set i (if i<16 then word b i else mixW (wAt b i) i)
def yT (k w:List Int) (i:Nat) (v:List Int):List Int:=
 let one:=IntKind.wrap .u32 ((IntKind.wrap .u32 ((IntKind.wrap .u32 ((IntKind.wrap .u32 (g v 7+(xorI .u32 (xorI .u32 (rotR (g v 4) 6) (rotR (g v 4) 11)) (rotR (g v 4) 25))))+(xorI .u32 (andI .u32 (g v 4) (g v 5)) (andI .u32 (cplI .u32 (g v 4)) (g v 6)))))+g k i))+g w i)
 let two:=IntKind.wrap .u32 ((xorI .u32 (xorI .u32 (rotR (g v 0) 2) (rotR (g v 0) 13)) (rotR (g v 0) 22))+(xorI .u32 (xorI .u32 (andI .u32 (g v 0) (g v 1)) (andI .u32 (g v 0) (g v 2))) (andI .u32 (g v 1) (g v 2))))
 [IntKind.wrap .u32 (one+two),g v 0,g v 1,g v 2,IntKind.wrap .u32 (g v 3+one),g v 4,g v 5,g v 6]
def rAt (k w s:List Int):Nat→List Int
 |0=>s
 |i+1=>yT k w i (rAt k w s i)
def aAt (s v:List Int):Nat→List Int
 |0=>s
 |i+1=>(aAt s v i).set i (IntKind.wrap .u32 (g (aAt s v i) i+g v i))
def blk (k s b:List Int):List Int:=aAt s (rAt k (wAt b 64) s 64) 8
theorem tK (b:List Int):∀i,(wAt b i).length=64
 |0=>by simp[wAt]
 |i+1=>by rw[wAt,List.length_set,tK b i]
theorem wY {k w s:List Int} (h:s.length=8):∀i,(rAt k w s i).length=8
 |0=>h
 |i+1=>rfl
theorem qu {s v:List Int}:∀i,(aAt s v i).length=s.length
 |0=>rfl
 |i+1=>by rw[aAt,List.length_set,qu i]
theorem Ae {k s b:List Int} (h:s.length=8):(blk k s b).length=8:=by rw[blk,qu,h]
theorem q8 (b:List Int):∀i j,i≤j→g (wAt b i) j=0
 |0,j,_=>by simp only[wAt,g,List.getD_eq_getElem?_getD,List.getElem?_replicate];split<;>rfl
 |i+1,j,h=>by
  have:=q8 b i j (by omega)
  simp only[wAt,g,List.getD_eq_getElem?_getD] at this⊢
  rw[List.getElem?_set_ne (by omega)];exact this
section
variable {s b k m:List Int}
theorem wb (hs:s.length=8) (hb:b.length=64):eX s b=some (blk glob0 s b):=by
 have hg:glob0.length=64:=rfl
 unfold eX
 obtain⟨W,hW⟩:∃W,W=wAt b:=⟨_,rfl⟩
 have hW0:W 0=List.replicate 64 0:=by rw[hW];rfl
 have hWS:∀i,W (i+1)=(W i).set i (if i<16 then word b i else mixW (W i) i):=by rw[hW];intro i;rfl
 have hWl:∀i,(W i).length=64:=by rw[hW];exact tK b
 have hWz:∀i,g (W i) i=0:=by rw[hW];exact fun i=>q8 b i i (Nat.le_refl _)
 rw[aW (fun i=>((i:Int),W i)) 0 16 (r:=W 16) (by omega) ?_ (ef rfl) (by rw[hW0];rfl)]
 rotate_left
 · intro i _ hi
   have h1:decide ((i:Int)<16)=true:=by simp;omega
   simp only[h1,cond_true]
   rw[wrap64 (x:=4*(i:Int)) (by omega),wrap64 (x:=4*(i:Int)+1) (by omega),wrap64 (x:=4*(i:Int)+2) (by omega),wrap64 (x:=4*(i:Int)+3) (by omega),
    ar (z:=4*(i:Int)) (i:=4*i) (by omega) (by omega),ar (z:=4*(i:Int)+1) (i:=4*i+1) (by omega) (by omega),ar (z:=4*(i:Int)+2) (i:=4*i+2) (by omega) (by omega),ar (z:=4*(i:Int)+3) (i:=4*i+3) (by omega) (by omega),
    ar (xs:=W i) (z:=(i:Int)) (i:=i) rfl (by rw[hWl];omega),wrap64 (by omega)]
   simp only[af,Int.toNat_natCast,hWS,if_pos hi]
   rfl
 simp only[af]
 rw[aW (fun i=>((i:Int),W i)) 16 64 (r:=W 64) (by omega) ?_ (ef rfl) (by rfl)]
 rotate_left
 · intro i h16 hi
   have h1:decide ((i:Int)<64)=true:=by simp;omega
   have hl:=hWl i
   simp only[h1,cond_true]
   rw[wrap64 (x:=(i:Int) - 15) (by omega),wrap64 (x:=(i:Int) - 2) (by omega),wrap64 (x:=(i:Int) - 7) (by omega),wrap64 (x:=(i:Int) - 16) (by omega),
    ar (z:=(i:Int) - 15) (i:=i - 15) (by omega) (by omega),ar (z:=(i:Int) - 2) (i:=i - 2) (by omega) (by omega),ar (z:=(i:Int) - 7) (i:=i - 7) (by omega) (by omega),ar (z:=(i:Int) - 16) (i:=i - 16) (by omega) (by omega),
    ar (xs:=W i) (z:=(i:Int)) (i:=i) rfl (by omega),wrap64 (by omega)]
   simp only[af]
   rw[rotL (n:=7) (by decide) (by decide) (by decide),rotL (n:=18) (by decide) (by decide) (by decide),rotL (n:=17) (by decide) (by decide) (by decide),rotL (n:=19) (by decide) (by decide) (by decide)]
   simp only[af,Int.toNat_natCast,hWS,if_neg (show¬i<16 by omega)]
   rfl
 simp only[af]
 generalize hw:W 64=w
 have hwl:w.length=64:=by rw[←hw];exact hWl 64
 obtain⟨V,hV⟩:∃V,V=rAt glob0 w s:=⟨_,rfl⟩
 have hV0:V 0=s:=by rw[hV];rfl
 have hVS:∀i,V (i+1)=yT glob0 w i (V i):=by rw[hV];intro i;rfl
 have hVl:∀i,(V i).length=8:=by rw[hV];exact wY hs
 rw[aW (fun i=>((i:Int),V i)) 0 64 (r:=V 64) (by omega) ?_ (ef rfl) (by rw[hV0];rfl)]
 rotate_left
 · intro i _ hi
   have h1:decide ((i:Int)<64)=true:=by simp;omega
   have hl:=hVl i
   generalize hv:V i=v at hl
   simp only[h1,cond_true]
   rw[ar (xs:=v) (z:=0) (i:=0) rfl (by omega),ar (xs:=v) (z:=1) (i:=1) rfl (by omega),ar (xs:=v) (z:=2) (i:=2) rfl (by omega),ar (xs:=v) (z:=4) (i:=4) rfl (by omega),ar (xs:=v) (z:=5) (i:=5) rfl (by omega),ar (xs:=v) (z:=6) (i:=6) rfl (by omega),ar (xs:=v) (z:=7) (i:=7) rfl (by omega),ar (xs:=v) (z:=3) (i:=3) rfl (by omega),
    ar (xs:=glob0) (z:=(i:Int)) (i:=i) rfl (by omega),ar (xs:=w) (z:=(i:Int)) (i:=i) rfl (by omega),wrap64 (by omega)]
   simp only[af]
   rw[rotL (n:=6) (by decide) (by decide) (by decide),rotL (n:=11) (by decide) (by decide) (by decide),rotL (n:=25) (by decide) (by decide) (by decide),rotL (n:=2) (by decide) (by decide) (by decide),rotL (n:=13) (by decide) (by decide) (by decide),rotL (n:=22) (by decide) (by decide) (by decide)]
   simp only[af,hVS,hv]
   rfl
 simp only[af]
 have hvl:=hVl 64
 generalize hv:V 64=v at hvl
 obtain⟨U,hU⟩:∃U,U=aAt s v:=⟨_,rfl⟩
 have hU0:U 0=s:=by rw[hU];rfl
 have hUS:∀i,U (i+1)=(U i).set i (IntKind.wrap .u32 (g (U i) i+g v i)):=by rw[hU];intro i;rfl
 have hUl:∀i,(U i).length=s.length:=by rw[hU];exact qu
 rw[aW (fun i=>((i:Int),U i)) 0 8 (r:=U 8) (by omega) ?_ (ef rfl) (by rw[hU0];rfl)]
 rotate_left
 · intro i _ hi
   have h1:decide ((i:Int)<8)=true:=by simp;omega
   have hl:=hUl i
   simp only[h1,cond_true]
   rw[ar (xs:=U i) (z:=(i:Int)) (i:=i) rfl (by omega),ar (xs:=v) (z:=(i:Int)) (i:=i) rfl (by omega),wrap64 (by omega)]
   simp only[af,Int.toNat_natCast,hUS]
   rfl
 simp only[af,blk,←hW,hw,←hV,hv,←hU]
theorem xN (hs:s.length=8) (hk:k.length=64) {at_:Nat} (hm:at_+64≤m.length) (hb:m.length<2^62):ep s k m (at_:Int)=some (blk k s ((m.drop at_).take 64)):=by
 generalize hbb:(m.drop at_).take 64=b
 have hbl:b.length=64:=by rw[←hbb];simp;omega
 have hgb:∀j,j<64→m.getD (at_+j) 0=g b j:=fun j hj=>by
   rw[←hbb];simp only[g,List.getD_eq_getElem?_getD,List.getElem?_take,List.getElem?_drop,if_pos hj]
 unfold ep
 obtain⟨W,hW⟩:∃W,W=wAt b:=⟨_,rfl⟩
 have hW0:W 0=List.replicate 64 0:=by rw[hW];rfl
 have hWS:∀i,W (i+1)=(W i).set i (if i<16 then word b i else mixW (W i) i):=by rw[hW];intro i;rfl
 have hWl:∀i,(W i).length=64:=by rw[hW];exact tK b
 have hWz:∀i,g (W i) i=0:=by rw[hW];exact fun i=>q8 b i i (Nat.le_refl _)
 rw[aW (fun i=>((i:Int),W i)) 0 64 (r:=W 64) (by omega) ?_ (ef rfl) (by rw[hW0];rfl)]
 rotate_left
 · intro i _ hi
   have h1:decide ((i:Int)<64)=true:=by simp;omega
   have hl:=hWl i
   simp only[h1,cond_true]
   by_cases h16:i<16
   · have h2:decide ((i:Int)<16)=true:=by simp;omega
     simp only[h2,cond_true]
     generalize hw:W i=w at hl
     have hz:g w i=0:=by rw[←hw];exact hWz i
     rw[aW (fun j=>((j:Int),w.set i (uW b i j))) 0 4 (r:=w.set i (uW b i 4)) (by omega) ?_ (ef rfl) ?_]
     rotate_left
     · intro j _ hj
       have h3:decide ((j:Int)<4)=true:=by simp;omega
       simp only[h3,cond_true]
       rw[wrap64 (x:=4*(i:Int)) (by omega),wrap64 (x:=(at_:Int)+4*(i:Int)) (by omega),wrap64 (x:=(at_:Int)+4*(i:Int)+(j:Int)) (by omega),
        ar (xs:=w.set i (uW b i j)) (z:=(i:Int)) (i:=i) rfl (by simp;omega),ar (xs:=m) (z:=(at_:Int)+4*(i:Int)+(j:Int)) (i:=at_+(4*i+j)) (by omega) (by omega),wrap64 (by omega),hgb _ (by omega)]
       have hu:(w.set i (uW b i j)).getD i 0=uW b i j:=by simp[show i<w.length by omega]
       simp only[af,hu,Int.toNat_natCast,List.set_set]
       rw[uW];rfl
     · have:w.set i (uW b i 0)=w:=by
        have h0:w[i]? =some 0:=by
          have:=hz;simp only[g,List.getD_eq_getElem?_getD] at this
          rw[List.getElem?_eq_getElem (show i<w.length by omega)] at this⊢
          simpa using this
        refine List.ext_getElem? fun q=>?_
        by_cases hq:i=q
        · subst hq;rw[List.getElem?_set_self (by omega),h0,uW]
        · rw[List.getElem?_set_ne hq]
       rw[this];rfl
     simp only[af]
     rw[wrap64 (by omega)]
     have:uW b i 4=word b i:=uW4 b i
     simp only[hWS,if_pos h16,hw,this]
     rfl
   · have h2:decide ((i:Int)<16)=false:=by simp;omega
     simp only[h2,cond_false,af]
     rw[wrap64 (x:=(i:Int) - 15) (by omega),wrap64 (x:=(i:Int) - 2) (by omega),wrap64 (x:=(i:Int) - 7) (by omega),wrap64 (x:=(i:Int) - 16) (by omega),
       ar (z:=(i:Int) - 15) (i:=i - 15) (by omega) (by omega),ar (z:=(i:Int) - 2) (i:=i - 2) (by omega) (by omega),ar (z:=(i:Int) - 7) (i:=i - 7) (by omega) (by omega),ar (z:=(i:Int) - 16) (i:=i - 16) (by omega) (by omega),
       ar (xs:=W i) (z:=(i:Int)) (i:=i) rfl (by omega),wrap64 (by omega)]
     simp only[af]
     rw[rotT (n:=7) (by decide),rotT (n:=18) (by decide),rotT (n:=17) (by decide),rotT (n:=19) (by decide)]
     simp only[af,Int.toNat_natCast,hWS,if_neg h16]
     rfl
 simp only[af]
 generalize hw:W 64=w
 have hwl:w.length=64:=by rw[←hw];exact hWl 64
 obtain⟨V,hV⟩:∃V,V=rAt k w s:=⟨_,rfl⟩
 have hV0:V 0=s:=by rw[hV];rfl
 have hVS:∀i,V (i+1)=yT k w i (V i):=by rw[hV];intro i;rfl
 have hVl:∀i,(V i).length=8:=by rw[hV];exact wY hs
 rw[aW (fun i=>((i:Int),V i)) 0 64 (r:=V 64) (by omega) ?_ (ef rfl) (by rw[hV0];rfl)]
 rotate_left
 · intro i _ hi
   have h1:decide ((i:Int)<64)=true:=by simp;omega
   have hl:=hVl i
   generalize hv:V i=v at hl
   simp only[h1,cond_true]
   rw[ar (xs:=v) (z:=0) (i:=0) rfl (by omega),ar (xs:=v) (z:=1) (i:=1) rfl (by omega),ar (xs:=v) (z:=2) (i:=2) rfl (by omega),ar (xs:=v) (z:=4) (i:=4) rfl (by omega),ar (xs:=v) (z:=5) (i:=5) rfl (by omega),ar (xs:=v) (z:=6) (i:=6) rfl (by omega),ar (xs:=v) (z:=7) (i:=7) rfl (by omega),ar (xs:=v) (z:=3) (i:=3) rfl (by omega),
     ar (xs:=k) (z:=(i:Int)) (i:=i) rfl (by omega),ar (xs:=w) (z:=(i:Int)) (i:=i) rfl (by omega),wrap64 (by omega)]
   simp only[af]
   rw[rotT (n:=6) (by decide),rotT (n:=11) (by decide),rotT (n:=25) (by decide),rotT (n:=2) (by decide),rotT (n:=13) (by decide),rotT (n:=22) (by decide)]
   simp only[af,hVS,hv]
   rfl
 simp only[af]
 have hvl:=hVl 64
 generalize hv:V 64=v at hvl
 obtain⟨U,hU⟩:∃U,U=aAt s v:=⟨_,rfl⟩
 have hU0:U 0=s:=by rw[hU];rfl
 have hUS:∀i,U (i+1)=(U i).set i (IntKind.wrap .u32 (g (U i) i+g v i)):=by rw[hU];intro i;rfl
 have hUl:∀i,(U i).length=s.length:=by rw[hU];exact qu
 rw[aW (fun i=>((i:Int),U i)) 0 8 (r:=U 8) (by omega) ?_ (ef rfl) (by rw[hU0];rfl)]
 rotate_left
 · intro i _ hi
   have h1:decide ((i:Int)<8)=true:=by simp;omega
   have hl:=hUl i
   simp only[h1,cond_true]
   rw[ar (xs:=U i) (z:=(i:Int)) (i:=i) rfl (by omega),ar (xs:=v) (z:=(i:Int)) (i:=i) rfl (by omega),wrap64 (by omega)]
   simp only[af,Int.toNat_natCast,hUS]
   rfl
 simp only[af,blk,←hW,hw,←hV,hv,←hU]
end
end Go.Proofs.YtobbmodjdkcdcaaGreatDoor
