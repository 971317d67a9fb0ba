import Derived.Test.YtlkjdchmeihhkaaGreatDoorLawAes4
set_option autoImplicit true
set_option relaxedAutoImplicit true
set_option linter.all false
set_option maxRecDepth 20000
set_option maxHeartbeats 1000000
namespace Go.Proofs.YtlkjdchmeihhkaaGreatDoor
open Go Go.Sim
open Go.IntKind (wrap)
variable [Fu]
def VP (iv:List Int):Nat→List Int|0=>iv|k+1=>RB 16 (VP iv k)
theorem A5 {iv:List Int} (h:iv.length=16):∀k,(VP iv k).length=16|0=>h|k+1=>by unfold VP;rw[D0];exact A5 h k
def Uw (key iv:List Int) (k:Nat):List Int:=oJ (Q9 key) (VP iv k) 10
def nT (key iv m:List Int):List Int:=(List.range m.length).map λi=>bJ .u8 (m.getD i 0) ((Uw key iv (i / 16)).getD (i%16) 0)
theorem vN (key iv m:List Int):(nT key iv m).length=m.length:=by simp[nT]
theorem pR (key iv m:List Int):aV (nT key iv m):=qf λi=>pj _ _
theorem oK {n i k:Nat} {f g:Nat→Int} (a:n≤i) (a:n≤k):cD n f g i=cD n f g k:=by unfold cD;apply JH;intro j a;have a:=JY.1 a;have d1:decide (j<i)=true:=Io (by omega);have d2:decide (j<k)=true:=Io (by omega);rw[d1,d2]
theorem zO {key iv m:List Int} {enc:List Int→Option (List Int)} (a:iv.length=16) (b:m.length<2^30) (b:∀s,s.length=16→enc s=some (oJ (Q9 key) s 10)):
   (Loop.run (S:=((List Int)×Int×(List Int))) (R:=(List Int)) (fun(c,d,e)=>
       bif decide (d<(c.length:Int)) then
        (((enc e).bind λf=>
        (((Loop.run (S:=((List Int)×Int)) (R:=(List Int)) (λ(h,i)=>
          bif decide (i<(min (wrap .i64 (d+16)) (h.length:Int))) then
           (idx h i).bind λj=>
           (idx f (wrap .i64 (i - d))).bind λf=>
           (idx h i).bind λk=>
           some (.next (List.set h (Int.toNat i) (bJ .u8 j f),wrap .i64 (i+1)))
          else
           some (.done h)) (c,d)).bind λf=>
        some f
         :Option (List Int))).bind λf=>
        (jX e).bind λe=>
        some (f,e)
         :Option ((List Int)×(List Int)))).bind λe=>match e with
         |(e,f)=>
          some (.next (e,wrap .i64 (d+16),f))
       else
        some (.done c)) (m,0,iv))=some (nT key iv m):=by
 obtain⟨C,c⟩:∃C,C=VP iv:=⟨_,rfl⟩
 obtain⟨f,d⟩:∃f:Nat→Int,f=λi=>bJ .u8 (m.getD i 0) ((Uw key iv (i / 16)).getD (i%16) 0):=⟨_,rfl⟩
 have e:C 0=iv:=by rw[c];rfl
 have h:∀k,C (k+1)=RB 16 (C k):=by rw[c];intro k;rfl
 have j:∀k,(C k).length=16:=by rw[c];exact A5 a
 have a:∀k,Uw key iv k=oJ (Q9 key) (C k) 10:=by rw[c];intro k;rfl
 have c:nT key iv m=(List.range m.length).map f:=by rw[d];rfl
 rw[c]
 have c:∀k,(oJ (Q9 key) (C k) 10).length=16:=λk=>rK _ _ _
 rw[aY (λk=>(cD m.length f (λi=>m.getD i 0) (16*k),((16*k:Nat):Int),C k)) 0 ((m.length+15) / 16) (r:=(List.range m.length).map f) (by omega) ?_ ?_ ?_]
 · intro k _ l
   have l:decide (((16*k:Nat):Int)<((cD m.length f (λi=>m.getD i 0) (16*k)).length:Int))=true:=by rw[gj];exact Io (by omega)
   simp only[l,Im]
   rw[b _ (j k),Df (j k)]
   simp only[aB]
   have b:=c k
   have b:∀i,16*k≤i→i<16*k+16→f i=bJ .u8 (m.getD i 0) ((oJ (Q9 key) (C k) 10).getD (i - 16*k) 0):=by
     intro i c j
     rw[d]
     simp only
     rw[a]
     have a:i / 16=k:=by omega
     have d:i%16=i - 16*k:=by omega
     rw[a,d]
   generalize oJ (Q9 key) (C k) 10=E at*
   rw[wrap64 (x:=((16*k:Nat):Int)+16) (by omega)]
   rw[aY (λi=>(cD m.length f (λi=>m.getD i 0) i,(i:Int))) (16*k) (min (16*k+16) m.length) (r:=cD m.length f (λi=>m.getD i 0) (16*(k+1))) (by omega) ?_ ?_ (by rfl)]
   · simp only[aB]
     have:((16*k:Nat):Int)+16=((16*(k+1):Nat):Int):=by omega
     rw[this,h]
   · intro i c j
     have a:decide ((i:Int)<(min (((16*k:Nat):Int)+16) ((cD m.length f (λi=>m.getD i 0) i).length:Int)))=true:=by rw[gj];exact Io (by omega)
     simp only[a,Im]
     rw[eL rfl (by omega)]
     simp only[aB,LC,Ks,Il]
     rw[wrap64 (x:=(i:Int) - ((16*k:Nat):Int)) (by omega),aK (i:=i - 16*k) (by omega) (by omega)]
     simp only[aB]
     rw[wrap64 (by omega),Iq,dT (f:=f) (by omega) (b i c (by omega)).symm];rfl
   · have a:decide (((min (16*k+16) m.length:Nat):Int)<(min (((16*k:Nat):Int)+16) ((cD m.length f (λi=>m.getD i 0) (min (16*k+16) m.length)).length:Int)))=false:=by rw[gj];exact Ip (by omega)
     simp only[a,Il]
     by_cases a:16*k+16≤m.length
     · rw[Jq a];rfl
     · rw[oK (i:=min (16*k+16) m.length) (k:=16*(k+1)) (by omega) (by omega)]
 · have l:decide (((16*((m.length+15) / 16):Nat):Int)<((cD m.length f (λi=>m.getD i 0) (16*((m.length+15) / 16))).length:Int))=false:=by rw[gj];exact Ip (by omega)
   simp only[l,Il]
   rw[oK (i:=16*((m.length+15) / 16)) (k:=m.length) (by omega) (IL _),gP]
 · rw[Nat.mul_zero,qV,qe rfl,e];rfl
theorem xz {key iv m:List Int} (hk:key.length=16) (hb:aV key) (b:iv.length=16) (hm:m.length<2^30):ll key iv m=some (nT key iv m):=by unfold ll;have a:(dJ:Int)=17179869184:=rfl;rw[EE hk hb];simp only[aB];(have g:pJ (m.length:Int) (m.length:Int)=true:=by unfold pJ;rw[a];simp;omega);rw[g,Im];(have eo:over (List.replicate (Int.toNat (m.length:Int)) (0:Int)) 0 (List.length (List.replicate (Int.toNat (m.length:Int)) (0:Int))) m=m:=by rw[Iq,Le,sN (by omega) (by simp)];simp);rw[eo];cases decide ((m.length:Int)>32) with|true=>simp only[Im];rw[aY (λi=>((i:Int),cD 256 (λi:Nat=>box (i:Int)) (λ_=>0) i)) 0 256 (r:=PS) (by omega) ?_ ?_ (by rfl)];simp only[aB];have:=zO (key:=key) (iv:=iv) (m:=m) (enc:=λs=>bY ⟨(List.range 11).map λr=>(List.range 16).map λj=>(QD key).getD (16*r+j) 0⟩ s PS) b hm (λs hs=>Hf (HI key) hs);simp only at this;rw[this];rfl;intro i _ hi;have h1:decide ((i:Int)<256)=true:=Io (by omega);simp only[h1,Im];rw[xF (by omega),show dy (i:Int)=some (box (i:Int)) from vL (by omega)];simp only[aB];rw[eL rfl hi];simp only[aB];rw[wrap64 (by omega),Iq,dT (f:=λi:Nat=>box (i:Int)) hi rfl];rfl;(have h1:decide (((256:Nat):Int)<256)=false:=by decide);simp only[h1,Il];rw[gP];rfl|false=>simp only[Il];have:=zO (key:=key) (iv:=iv) (m:=m) (enc:=λs=>cq ⟨(List.range 11).map λr=>(List.range 16).map λj=>(QD key).getD (16*r+j) 0⟩ s) b hm (λs hs=>He (HI key) hs);simp only at this;rw[this];rfl
theorem BM {key iv m:List Int} (a:key.length=16) (b:aV key) (c:iv.length=16) (d:m.length<2^30):ge key iv m=some (nT key iv m):=by
 unfold ge
 have d:(dJ:Int)=17179869184:=rfl
 have e:dJ=17179869184:=rfl
 rw[FR a b]
 simp only[aB]
 have g:pJ 0 (m.length:Int)=true:=by unfold pJ;rw[d];simp;omega
 rw[g,Im]
 obtain⟨C,a⟩:∃C,C=VP iv:=⟨_,rfl⟩
 have d:C 0=iv:=by rw[a];rfl
 have h:∀k,C (k+1)=RB 16 (C k):=by rw[a];intro k;rfl
 have j:∀k,(C k).length=16:=by rw[a];exact A5 c
 obtain⟨E,c⟩:∃E,E=Uw key iv:=⟨_,rfl⟩
 have l:∀k,E k=oJ (Q9 key) (C k) 10:=by rw[a,c];intro k;rfl
 have a:∀k,(E k).length=16:=λk=>by rw[l];exact rK _ _ _
 obtain⟨f,k⟩:∃f:Nat→Int,f=λi=>bJ .u8 (m.getD i 0) ((E (i / 16)).getD (i%16) 0):=⟨_,rfl⟩
 have n:nT key iv m=(List.range m.length).map f:=by rw[k,c];rfl
 rw[n]
 rw[aY (λi=>((List.range i).map f,(i:Int),C ((i+15) / 16),bif decide (i=0) then List.replicate 16 (0:Int) else E ((i - 1) / 16))) 0 m.length (r:=(List.range m.length).map f) (by omega) ?_ (dS (by show decide ((m.length:Int)<(m.length:Int))=false;exact Ip (by omega))) (by rw[←d];rfl)]
 · rfl
 · intro i _ c
   have d:decide ((i:Int)<(m.length:Int))=true:=Io (by omega)
   simp only[d,Im]
   have em:Int.tmod (i:Int) 16=((i%16:Nat):Int):=rfl
   have n:(bif (Int.tmod (i:Int) 16)==0 then
      (gb (QD key) (C ((i+15) / 16))).bind λd=>
      (gd (C ((i+15) / 16))).bind λo=>
      some (o,d)
     else
      some (C ((i+15) / 16),bif decide (i=0) then List.replicate 16 (0:Int) else E ((i - 1) / 16))
      :Option ((List Int)×(List Int)))=some (C ((i+1+15) / 16),E (i / 16)):=by
    have d:((Int.tmod (i:Int) 16)==0)=(i%16==0):=uz (n:=i%16) (m:=0)
    rw[d,FO (H7 b) (j _),FP (j _)]
    cases b:(i%16==0) with
    |true=>
     have d:=Ke.1 b
     have j:(i+15) / 16=i / 16:=by omega
     have o:(i+1+15) / 16=i / 16+1:=by omega
     simp only[Im,aB]
     rw[j,o,h,l]
    |false=>
     have d:¬i%16=0:=by simpa using b
     have j:(i+15) / 16=(i+1+15) / 16:=by omega
     have o:(i - 1) / 16=i / 16:=by omega
     have d:decide (i=0)=false:=Ip (by omega)
     simp only[Il]
     rw[j,o,d,Il]
   rw[n]
   simp only[aB]
   rw[aK (i:=i) rfl c]
   simp only[aB]
   rw[em,aK (i:=i%16) rfl (by rw[a];omega)]
   simp only[aB]
   rw[aW (by rw[e];simp;omega)]
   simp only[aB]
   have d:decide (i+1=0)=false:=Ip (by omega)
   rw[wrap64 (by omega),d,Il,Ko,Ky,Jn]
   simp only[IU,JT]
   rw[show f i=bJ .u8 (m.getD i 0) ((E (i / 16)).getD (i%16) 0) by rw[k]];rfl
end Go.Proofs.YtlkjdchmeihhkaaGreatDoor
