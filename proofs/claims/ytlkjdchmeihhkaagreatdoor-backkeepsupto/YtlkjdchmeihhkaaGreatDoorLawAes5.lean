import Derived.Test.YtlkjdchmeihhkaaGreatDoorLawAes4
set_option autoImplicit true
set_option relaxedAutoImplicit true
set_option linter.all false
set_option maxRecDepth 20000
set_option maxHeartbeats 1000000
namespace Go.Proofs.YtlkjdchmeihhkaaGreatDoor
open Go Go.Sim
open Go.IntKind (wrap)
variable [Fu]
def S5 (iv:List Int):Nat→List Int|0=>iv|k+1=>QW 16 (S5 iv k)
theorem Cr {iv:List Int} (h:iv.length=16):∀k,(S5 iv k).length=16|0=>h|k+1=>by unfold S5;rw[Cq];exact Cr h k
def Qp (key iv:List Int) (k:Nat):List Int:=mK (OR key) (S5 iv k) 10
def iU (key iv m:List Int):List Int:=(List.range m.length).map λi=>bD .u8 (m.getD i 0) ((Qp key iv (i / 16)).getD (i%16) 0)
theorem l8 (key iv m:List Int):(iU key iv m).length=m.length:=by simp[iU]
theorem tQ (key iv m:List Int):bW (iU key iv m):=ne λi=>mn _ _
theorem xi {n i k:Nat} {f g:Nat→Int} (a:n≤i) (a:n≤k):cB n f g i=cB n f g k:=by unfold cB;apply HE;intro j a;have a:=H8.1 a;have d1:decide (j<i)=true:=Gz (by omega);have d2:decide (j<k)=true:=Gz (by omega);rw[d1,d2]
theorem xj {key iv m:List Int} {enc:List Int→Option (List Int)} (a:iv.length=16) (b:m.length<2^30) (b:∀s,s.length=16→enc s=some (mK (OR key) s 10)):
   (Loop.run (S:=((List Int)×Int×(List Int))) (R:=(List Int)) (fun(c,d,e)=>
       bif decide (d<(c.length:Int)) then
        (((enc e).bind λf=>
        (((Loop.run (S:=((List Int)×Int)) (R:=(List Int)) (λ(h,i)=>
          bif decide (i<(min (wrap .i64 (d+16)) (h.length:Int))) then
           (idx h i).bind λj=>
           (idx f (wrap .i64 (i - d))).bind λf=>
           (idx h i).bind λk=>
           some (.next (List.set h (Int.toNat i) (bD .u8 j f),wrap .i64 (i+1)))
          else
           some (.done h)) (c,d)).bind λf=>
        some f
         :Option (List Int))).bind λf=>
        (iH e).bind λe=>
        some (f,e)
         :Option ((List Int)×(List Int)))).bind λe=>match e with
         |(e,f)=>
          some (.next (e,wrap .i64 (d+16),f))
       else
        some (.done c)) (m,0,iv))=some (iU key iv m):=by
 obtain⟨C,c⟩:∃C,C=S5 iv:=⟨_,rfl⟩
 obtain⟨f,d⟩:∃f:Nat→Int,f=λi=>bD .u8 (m.getD i 0) ((Qp key iv (i / 16)).getD (i%16) 0):=⟨_,rfl⟩
 have e:C 0=iv:=by rw[c];rfl
 have h:∀k,C (k+1)=QW 16 (C k):=by rw[c];intro k;rfl
 have j:∀k,(C k).length=16:=by rw[c];exact Cr a
 have a:∀k,Qp key iv k=mK (OR key) (C k) 10:=by rw[c];intro k;rfl
 have c:iU key iv m=(List.range m.length).map f:=by rw[d];rfl
 rw[c]
 have c:∀k,(mK (OR key) (C k) 10).length=16:=λk=>vd _ _ _
 rw[cb (λk=>(cB m.length f (λi=>m.getD i 0) (16*k),((16*k:Nat):Int),C k)) 0 ((m.length+15) / 16) (r:=(List.range m.length).map f) (by omega) ?_ ?_ ?_]
 · intro k _ l
   have l:decide (((16*k:Nat):Int)<((cB m.length f (λi=>m.getD i 0) (16*k)).length:Int))=true:=by rw[fu];exact Gz (by omega)
   simp only[l,Gy]
   rw[b _ (j k),Bz (j k)]
   simp only[aF]
   have b:=c k
   have b:∀i,16*k≤i→i<16*k+16→f i=bD .u8 (m.getD i 0) ((mK (OR key) (C k) 10).getD (i - 16*k) 0):=by
     intro i c j
     rw[d]
     simp only
     rw[a]
     have a:i / 16=k:=by omega
     have d:i%16=i - 16*k:=by omega
     rw[a,d]
   generalize mK (OR key) (C k) 10=E at*
   rw[wrap64 (x:=((16*k:Nat):Int)+16) (by omega)]
   rw[cb (λi=>(cB m.length f (λi=>m.getD i 0) i,(i:Int))) (16*k) (min (16*k+16) m.length) (r:=cB m.length f (λi=>m.getD i 0) (16*(k+1))) (by omega) ?_ ?_ (by rfl)]
   · simp only[aF]
     have:((16*k:Nat):Int)+16=((16*(k+1):Nat):Int):=by omega
     rw[this,h]
   · intro i c j
     have a:decide ((i:Int)<(min (((16*k:Nat):Int)+16) ((cB m.length f (λi=>m.getD i 0) i).length:Int)))=true:=by rw[fu];exact Gz (by omega)
     simp only[a,Gy]
     rw[kd rfl (by omega)]
     simp only[aF,JK,JX,Gx]
     rw[wrap64 (x:=(i:Int) - ((16*k:Nat):Int)) (by omega),bP (i:=i - 16*k) (by omega) (by omega)]
     simp only[aF]
     rw[wrap64 (by omega),GG,iu (f:=f) (by omega) (b i c (by omega)).symm];rfl
   · have a:decide (((min (16*k+16) m.length:Nat):Int)<(min (((16*k:Nat):Int)+16) ((cB m.length f (λi=>m.getD i 0) (min (16*k+16) m.length)).length:Int)))=false:=by rw[fu];exact GA (by omega)
     simp only[a,Gx]
     by_cases a:16*k+16≤m.length
     · rw[Hy a];rfl
     · rw[xi (i:=min (16*k+16) m.length) (k:=16*(k+1)) (by omega) (by omega)]
 · have l:decide (((16*((m.length+15) / 16):Nat):Int)<((cB m.length f (λi=>m.getD i 0) (16*((m.length+15) / 16))).length:Int))=false:=by rw[fu];exact GA (by omega)
   simp only[l,Gx]
   rw[xi (i:=16*((m.length+15) / 16)) (k:=m.length) (by omega) (GZ _),kz]
 · rw[Nat.mul_zero,nY,oU rfl,e];rfl
theorem qP {key iv m:List Int} (hk:key.length=16) (hb:bW key) (b:iv.length=16) (hm:m.length<2^30):iI key iv m=some (iU key iv m):=by unfold iI;have a:(dC:Int)=17179869184:=rfl;rw[C5 hk hb];simp only[aF];(have g:kN (m.length:Int) (m.length:Int)=true:=by unfold kN;rw[a];simp;omega);rw[g,Gy];(have eo:over (List.replicate (Int.toNat (m.length:Int)) (0:Int)) 0 (List.length (List.replicate (Int.toNat (m.length:Int)) (0:Int))) m=m:=by rw[GG,Iv,nX (by omega) (by simp)];simp);rw[eo];cases decide ((m.length:Int)>32) with|true=>simp only[Gy];rw[cb (λi=>((i:Int),cB 256 (λi:Nat=>box (i:Int)) (λ_=>0) i)) 0 256 (r:=uK) (by omega) ?_ ?_ (by rfl)];simp only[aF];have:=xj (key:=key) (iv:=iv) (m:=m) (enc:=λs=>cm ⟨(List.range 11).map λr=>(List.range 16).map λj=>(PQ key).getD (16*r+j) 0⟩ s uK) b hm (λs hs=>Fg (FQ key) hs);simp only at this;rw[this];rfl;intro i _ hi;have h1:decide ((i:Int)<256)=true:=Gz (by omega);simp only[h1,Gy];rw[vf (by omega),show dx (i:Int)=some (box (i:Int)) from sN (by omega)];simp only[aF];rw[kd rfl hi];simp only[aF];rw[wrap64 (by omega),GG,iu (f:=λi:Nat=>box (i:Int)) hi rfl];rfl;(have h1:decide (((256:Nat):Int)<256)=false:=by decide);simp only[h1,Gx];rw[kz];rfl|false=>simp only[Gx];have:=xj (key:=key) (iv:=iv) (m:=m) (enc:=λs=>cw ⟨(List.range 11).map λr=>(List.range 16).map λj=>(PQ key).getD (16*r+j) 0⟩ s) b hm (λs hs=>Ff (FQ key) hs);simp only at this;rw[this];rfl
end Go.Proofs.YtlkjdchmeihhkaaGreatDoor
