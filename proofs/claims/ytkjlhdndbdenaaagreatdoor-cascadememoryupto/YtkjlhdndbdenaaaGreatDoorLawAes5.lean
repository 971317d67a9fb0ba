import Derived.Test.YtkjlhdndbdenaaaGreatDoorLawAes4
set_option autoImplicit true
set_option relaxedAutoImplicit true
set_option linter.all false
set_option maxRecDepth 20000
set_option maxHeartbeats 1000000
namespace Go.Proofs.YtkjlhdndbdenaaaGreatDoor
open Go Go.Sim
open Go.IntKind (wrap)
variable [Fu]
def DR (iv:List Int):Nat→List Int|0=>iv|k+1=>vJ 16 (DR iv k)
theorem nL {iv:List Int} (h:iv.length=16):∀k,(DR iv k).length=16|0=>h|k+1=>by unfold DR;rw[qX];exact nL h k
def C8 (key iv:List Int) (k:Nat):List Int:=eK (tJ key) (DR iv k) 10
def jz (key iv m:List Int):List Int:=(List.range m.length).map λi=>bC .u8 (m.getD i 0) ((C8 key iv (i / 16)).getD (i%16) 0)
theorem ku (key iv m:List Int):(jz key iv m).length=m.length:=by simp[jz]
theorem gS {n i k:Nat} {f g:Nat→Int} (a:n≤i) (a:n≤k):co n f g i=co n f g k:=by unfold co;apply xm;intro j a;have a:=xy.1 a;have d1:decide (j<i)=true:=wg (by omega);have d2:decide (j<k)=true:=wg (by omega);rw[d1,d2]
theorem mN {key iv m:List Int} {enc:List Int→Option (List Int)} (a:iv.length=16) (b:m.length<2^30) (b:∀s,s.length=16→enc s=some (eK (tJ key) s 10)):
   (Loop.run (S:=((List Int)×Int×(List Int))) (R:=(List Int)) (fun(c,d,e)=>
       bif decide (d<(c.length:Int)) then
        (((enc e).bind λf=>
        (((Loop.run (S:=((List Int)×Int)) (R:=(List Int)) (λ(h,i)=>
          bif decide (i<(min (wrap .i64 (d+16)) (h.length:Int))) then
           (idx h i).bind λj=>
           (idx f (wrap .i64 (i - d))).bind λf=>
           (idx h i).bind λk=>
           some (.next (List.set h (Int.toNat i) (bC .u8 j f),wrap .i64 (i+1)))
          else
           some (.done h)) (c,d)).bind λf=>
        some f
         :Option (List Int))).bind λf=>
        (eU e).bind λe=>
        some (f,e)
         :Option ((List Int)×(List Int)))).bind λe=>match e with
         |(e,f)=>
          some (.next (e,wrap .i64 (d+16),f))
       else
        some (.done c)) (m,0,iv))=some (jz key iv m):=by
 obtain⟨C,c⟩:∃C,C=DR iv:=⟨_,rfl⟩
 obtain⟨f,d⟩:∃f:Nat→Int,f=λi=>bC .u8 (m.getD i 0) ((C8 key iv (i / 16)).getD (i%16) 0):=⟨_,rfl⟩
 have e:C 0=iv:=by rw[c];rfl
 have h:∀k,C (k+1)=vJ 16 (C k):=by rw[c];intro k;rfl
 have j:∀k,(C k).length=16:=by rw[c];exact nL a
 have a:∀k,C8 key iv k=eK (tJ key) (C k) 10:=by rw[c];intro k;rfl
 have c:jz key iv m=(List.range m.length).map f:=by rw[d];rfl
 rw[c]
 have c:∀k,(eK (tJ key) (C k) 10).length=16:=λk=>ja _ _ _
 rw[aQ (λk=>(co m.length f (λi=>m.getD i 0) (16*k),((16*k:Nat):Int),C k)) 0 ((m.length+15) / 16) (r:=(List.range m.length).map f) (by omega) ?_ ?_ ?_]
 · intro k _ l
   have l:decide (((16*k:Nat):Int)<((co m.length f (λi=>m.getD i 0) (16*k)).length:Int))=true:=by rw[dj];exact wg (by omega)
   simp only[l,wd]
   rw[b _ (j k),qk (j k)]
   simp only[aC]
   have b:=c k
   have b:∀i,16*k≤i→i<16*k+16→f i=bC .u8 (m.getD i 0) ((eK (tJ key) (C k) 10).getD (i - 16*k) 0):=by
     intro i c j
     rw[d]
     simp only
     rw[a]
     have a:i / 16=k:=by omega
     have d:i%16=i - 16*k:=by omega
     rw[a,d]
   generalize eK (tJ key) (C k) 10=E at*
   rw[bA (x:=((16*k:Nat):Int)+16) (by omega)]
   rw[aQ (λi=>(co m.length f (λi=>m.getD i 0) i,(i:Int))) (16*k) (min (16*k+16) m.length) (r:=co m.length f (λi=>m.getD i 0) (16*(k+1))) (by omega) ?_ ?_ (by rfl)]
   · simp only[aC]
     have:((16*k:Nat):Int)+16=((16*(k+1):Nat):Int):=by omega
     rw[this,h]
   · intro i c j
     have a:decide ((i:Int)<(min (((16*k:Nat):Int)+16) ((co m.length f (λi=>m.getD i 0) i).length:Int)))=true:=by rw[dj];exact wg (by omega)
     simp only[a,wd]
     rw[cN rfl (by omega)]
     simp only[aC,yU,yQ,wc]
     rw[bA (x:=(i:Int) - ((16*k:Nat):Int)) (by omega),aI (i:=i - 16*k) (by omega) (by omega)]
     simp only[aC]
     rw[bA (by omega),wl,ck (f:=f) (by omega) (b i c (by omega)).symm];rfl
   · have a:decide (((min (16*k+16) m.length:Nat):Int)<(min (((16*k:Nat):Int)+16) ((co m.length f (λi=>m.getD i 0) (min (16*k+16) m.length)).length:Int)))=false:=by rw[dj];exact wk (by omega)
     simp only[a,wc]
     by_cases a:16*k+16≤m.length
     · rw[wX a];rfl
     · rw[gS (i:=min (16*k+16) m.length) (k:=16*(k+1)) (by omega) (by omega)]
 · have l:decide (((16*((m.length+15) / 16):Nat):Int)<((co m.length f (λi=>m.getD i 0) (16*((m.length+15) / 16))).length:Int))=false:=by rw[dj];exact wk (by omega)
   simp only[l,wc]
   rw[gS (i:=16*((m.length+15) / 16)) (k:=m.length) (by omega) (wy _),ef]
 · rw[Nat.mul_zero,iS,iC rfl,e];rfl
theorem ql {key iv m:List Int} (hk:key.length=16) (hb:aT key) (b:iv.length=16) (hm:m.length<2^30):fI key iv m=some (jz key iv m):=by unfold fI;have a:(c7:Int)=17179869184:=rfl;rw[rN hk hb];simp only[aC];(have g:mA (m.length:Int) (m.length:Int)=true:=by unfold mA;rw[a];simp;omega);rw[g,wd];(have eo:over (List.replicate (Int.toNat (m.length:Int)) (0:Int)) 0 (List.length (List.replicate (Int.toNat (m.length:Int)) (0:Int))) m=m:=by rw[wl,xX,iQ (by omega) (by simp)];simp);rw[eo];cases decide ((m.length:Int)>32) with|true=>simp only[wd];rw[aQ (λi=>((i:Int),co 256 (λi:Nat=>box (i:Int)) (λ_=>0) i)) 0 256 (r:=pI) (by omega) ?_ ?_ (by rfl)];simp only[aC];have:=mN (key:=key) (iv:=iv) (m:=m) (enc:=λs=>aS ⟨(List.range 11).map λr=>(List.range 16).map λj=>(rJ key).getD (16*r+j) 0⟩ s pI) b hm (λs hs=>ut (ve key) hs);simp only at this;rw[this];rfl;intro i _ hi;have h1:decide ((i:Int)<256)=true:=wg (by omega);simp only[h1,wd];rw[oO (by omega),show bU (i:Int)=some (box (i:Int)) from ko (by omega)];simp only[aC];rw[cN rfl hi];simp only[aC];rw[bA (by omega),wl,ck (f:=λi:Nat=>box (i:Int)) hi rfl];rfl;(have h1:decide (((256:Nat):Int)<256)=false:=by decide);simp only[h1,wc];rw[ef];rfl|false=>simp only[wc];have:=mN (key:=key) (iv:=iv) (m:=m) (enc:=λs=>ba ⟨(List.range 11).map λr=>(List.range 16).map λj=>(rJ key).getD (16*r+j) 0⟩ s) b hm (λs hs=>ur (ve key) hs);simp only at this;rw[this];rfl
theorem sS {key iv m:List Int} (a:key.length=16) (b:aT key) (c:iv.length=16) (d:m.length<2^30):dZ key iv m=some (jz key iv m):=by
 unfold dZ
 have d:(c7:Int)=17179869184:=rfl
 have e:c7=17179869184:=rfl
 rw[sR a b]
 simp only[aC]
 have g:mA 0 (m.length:Int)=true:=by unfold mA;rw[d];simp;omega
 rw[g,wd]
 obtain⟨C,a⟩:∃C,C=DR iv:=⟨_,rfl⟩
 have d:C 0=iv:=by rw[a];rfl
 have h:∀k,C (k+1)=vJ 16 (C k):=by rw[a];intro k;rfl
 have j:∀k,(C k).length=16:=by rw[a];exact nL c
 obtain⟨E,c⟩:∃E,E=C8 key iv:=⟨_,rfl⟩
 have l:∀k,E k=eK (tJ key) (C k) 10:=by rw[a,c];intro k;rfl
 have a:∀k,(E k).length=16:=λk=>by rw[l];exact ja _ _ _
 obtain⟨f,k⟩:∃f:Nat→Int,f=λi=>bC .u8 (m.getD i 0) ((E (i / 16)).getD (i%16) 0):=⟨_,rfl⟩
 have n:jz key iv m=(List.range m.length).map f:=by rw[k,c];rfl
 rw[n]
 rw[aQ (λi=>((List.range i).map f,(i:Int),C ((i+15) / 16),bif decide (i=0) then List.replicate 16 (0:Int) else E ((i - 1) / 16))) 0 m.length (r:=(List.range m.length).map f) (by omega) ?_ (dp (by show decide ((m.length:Int)<(m.length:Int))=false;exact wk (by omega))) (by rw[←d];rfl)]
 · rfl
 · intro i _ c
   have d:decide ((i:Int)<(m.length:Int))=true:=wg (by omega)
   simp only[d,wd]
   have em:Int.tmod (i:Int) 16=((i%16:Nat):Int):=rfl
   have n:(bif (Int.tmod (i:Int) 16)==0 then
      (dg (rJ key) (C ((i+15) / 16))).bind λd=>
      (dh (C ((i+15) / 16))).bind λo=>
      some (o,d)
     else
      some (C ((i+15) / 16),bif decide (i=0) then List.replicate 16 (0:Int) else E ((i - 1) / 16))
      :Option ((List Int)×(List Int)))=some (C ((i+1+15) / 16),E (i / 16)):=by
    have d:((Int.tmod (i:Int) 16)==0)=(i%16==0):=jX (n:=i%16) (m:=0)
    rw[d,sN (vP b) (j _),sO (j _)]
    cases b:(i%16==0) with
    |true=>
     have d:=yb.1 b
     have j:(i+15) / 16=i / 16:=by omega
     have o:(i+1+15) / 16=i / 16+1:=by omega
     simp only[wd,aC]
     rw[j,o,h,l]
    |false=>
     have d:¬i%16=0:=by simpa using b
     have j:(i+15) / 16=(i+1+15) / 16:=by omega
     have o:(i - 1) / 16=i / 16:=by omega
     have d:decide (i=0)=false:=wk (by omega)
     simp only[wc]
     rw[j,o,d,wc]
   rw[n]
   simp only[aC]
   rw[aI (i:=i) rfl c]
   simp only[aC]
   rw[em,aI (i:=i%16) rfl (by rw[a];omega)]
   simp only[aC]
   rw[bb (by rw[e];simp;omega)]
   simp only[aC]
   have d:decide (i+1=0)=false:=wk (by omega)
   rw[bA (by omega),d,wc,yf,yX,xz]
   simp only[wS,x7]
   rw[show f i=bC .u8 (m.getD i 0) ((E (i / 16)).getD (i%16) 0) by rw[k]];rfl
end Go.Proofs.YtkjlhdndbdenaaaGreatDoor
