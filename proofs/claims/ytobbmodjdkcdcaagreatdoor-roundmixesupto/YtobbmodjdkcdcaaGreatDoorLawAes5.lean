import Derived.Test.YtobbmodjdkcdcaaGreatDoorLawAes4
set_option linter.all false
set_option maxRecDepth 20000
set_option maxHeartbeats 1000000
namespace Go.Proofs.YtobbmodjdkcdcaaGreatDoor
open Go Go.Sim
open Go.IntKind (wrap)
variable [Fu]
def Xv (iv:List Int):Nat→List Int|0=>iv|k+1=>Tn 16 (Xv iv k)
theorem zL {iv:List Int} (h:iv.length=16):∀k,(Xv iv k).length=16|0=>h|k+1=>by unfold Xv;rw[C8];exact zL h k
def V_ (key iv:List Int) (k:Nat):List Int:=PL (SW key) (Xv iv k) 10
def mX (key iv m:List Int):List Int:=(List.range m.length).map λi=>g_ .u8 (m.getD i 0) ((V_ key iv (i / 16)).getD (i%16) 0)
theorem un (key iv m:List Int):(mX key iv m).length=m.length:=by simp[mX]
theorem om (key iv m:List Int):aT (mX key iv m):=pc λi=>nR _ _
theorem nv {n i k:Nat} {f g:Nat→Int} (hi:n≤i) (hk:n≤k):x_ n f g i=x_ n f g k:=by unfold x_;apply IJ;intro j hj;have hj:=IY.1 hj;have d1:decide (j<i)=true:=Ho (by omega);have d2:decide (j<k)=true:=Ho (by omega);rw[d1,d2]
theorem yo {key iv m:List Int} {enc:List Int→Option (List Int)} (hiv:iv.length=16) (hm:m.length<2^30) (he:∀s,s.length=16→enc s=some (PL (SW key) s 10)):
   (Loop.run (S:=((List Int)×Int×(List Int))) (R:=(List Int)) (fun(x1235,x1236,x1237)=>
       bif decide (x1236<(x1235.length:Int)) then
        (((enc x1237).bind λy1538=>
        (((Loop.run (S:=((List Int)×Int)) (R:=(List Int)) (λ(x1605,x1606)=>
          bif decide (x1606<(min (wrap .i64 (x1236+16)) (x1605.length:Int))) then
           (idx x1605 x1606).bind λx1621=>
           (idx y1538 (wrap .i64 (x1606 - x1236))).bind λx1623=>
           (idx x1605 x1606).bind λx1625=>
           some (.next (List.set x1605 (Int.toNat x1606) (g_ .u8 x1621 x1623),wrap .i64 (x1606+1)))
          else
           some (.done x1605)) (x1235,x1236)).bind λx1614=>
        some x1614
         :Option (List Int))).bind λx1582=>
        (jw x1237).bind λy1586=>
        some (x1582,y1586)
         :Option ((List Int)×(List Int)))).bind λr1535=>match r1535 with
         |(x1533,x1534)=>
          some (.next (x1533,wrap .i64 (x1236+16),x1534))
       else
        some (.done x1235)) (m,0,iv))=some (mX key iv m):=by
 obtain⟨C,hC⟩:∃C,C=Xv iv:=⟨_,rfl⟩
 obtain⟨f,hf⟩:∃f:Nat→Int,f=λi=>g_ .u8 (m.getD i 0) ((V_ key iv (i / 16)).getD (i%16) 0):=⟨_,rfl⟩
 have hC0:C 0=iv:=by rw[hC];rfl
 have hCS:∀k,C (k+1)=Tn 16 (C k):=by rw[hC];intro k;rfl
 have hCl:∀k,(C k).length=16:=by rw[hC];exact zL hiv
 have hst:∀k,V_ key iv k=PL (SW key) (C k) 10:=by rw[hC];intro k;rfl
 have hms:mX key iv m=(List.range m.length).map f:=by rw[hf];rfl
 rw[hms]
 have hl:∀k,(PL (SW key) (C k) 10).length=16:=λk=>qL _ _ _
 rw[aY (λk=>(x_ m.length f (λi=>m.getD i 0) (16*k),((16*k:Nat):Int),C k)) 0 ((m.length+15) / 16) (r:=(List.range m.length).map f) (by omega) ?_ ?_ ?_]
 · intro k _ hk
   have h1:decide (((16*k:Nat):Int)<((x_ m.length f (λi=>m.getD i 0) (16*k)).length:Int))=true:=by rw[fH];exact Ho (by omega)
   simp only[h1,Hn]
   rw[he _ (hCl k),Co (hCl k)]
   simp only[aB]
   have hE:=hl k
   have hfE:∀i,16*k≤i→i<16*k+16→f i=g_ .u8 (m.getD i 0) ((PL (SW key) (C k) 10).getD (i - 16*k) 0):=by
     intro i i1 i2
     rw[hf]
     simp only
     rw[hst]
     have q1:i / 16=k:=by omega
     have q2:i%16=i - 16*k:=by omega
     rw[q1,q2]
   generalize PL (SW key) (C k) 10=E at*
   rw[wrap64 (x:=((16*k:Nat):Int)+16) (by omega)]
   rw[aY (λi=>(x_ m.length f (λi=>m.getD i 0) i,(i:Int))) (16*k) (min (16*k+16) m.length) (r:=x_ m.length f (λi=>m.getD i 0) (16*(k+1))) (by omega) ?_ ?_ (by rfl)]
   · simp only[aB]
     have:((16*k:Nat):Int)+16=((16*(k+1):Nat):Int):=by omega
     rw[this,hCS]
   · intro i i1 i2
     have h2:decide ((i:Int)<(min (((16*k:Nat):Int)+16) ((x_ m.length f (λi=>m.getD i 0) i).length:Int)))=true:=by rw[fH];exact Ho (by omega)
     simp only[h2,Hn]
     rw[eg rfl (by omega)]
     simp only[aB,Ko,Ju,Hm]
     rw[wrap64 (x:=(i:Int) - ((16*k:Nat):Int)) (by omega),aJ (i:=i - 16*k) (by omega) (by omega)]
     simp only[aB]
     rw[wrap64 (by omega),Hq,dK (f:=f) (by omega) (hfE i i1 (by omega)).symm];rfl
   · have h2:decide (((min (16*k+16) m.length:Nat):Int)<(min (((16*k:Nat):Int)+16) ((x_ m.length f (λi=>m.getD i 0) (min (16*k+16) m.length)).length:Int)))=false:=by rw[fH];exact Hp (by omega)
     simp only[h2,Hm]
     by_cases hc:16*k+16≤m.length
     · rw[Ij hc];rfl
     · rw[nv (i:=min (16*k+16) m.length) (k:=16*(k+1)) (by omega) (by omega)]
 · have h1:decide (((16*((m.length+15) / 16):Nat):Int)<((x_ m.length f (λi=>m.getD i 0) (16*((m.length+15) / 16))).length:Int))=false:=by rw[fH];exact Hp (by omega)
   simp only[h1,Hm]
   rw[nv (i:=16*((m.length+15) / 16)) (k:=m.length) (by omega) (HK _),ge]
 · rw[Nat.mul_zero,qa,pa rfl,hC0];rfl
theorem wi {key iv m:List Int} (hk:key.length=16) (hb:aT key) (hiv:iv.length=16) (hm:m.length<2^30):kv key iv m=some (mX key iv m):=by unfold kv;have hroom:(F_:Int)=17179869184:=rfl;rw[DO hk hb];simp only[aB];(have g:P2 (m.length:Int) (m.length:Int)=true:=by unfold P2;rw[hroom];simp;omega);rw[g,Hn];(have eo:over (List.replicate (Int.toNat (m.length:Int)) (0:Int)) 0 (List.length (List.replicate (Int.toNat (m.length:Int)) (0:Int))) m=m:=by rw[Hq,J3,rL (by omega) (by simp)];simp);rw[eo];cases decide ((m.length:Int)>32) with|true=>simp only[Hn];rw[aY (λi=>((i:Int),x_ 256 (λi:Nat=>box (i:Int)) (λ_=>0) i)) 0 256 (r:=RC) (by omega) ?_ ?_ (by rfl)];simp only[aB];have:=yo (key:=key) (iv:=iv) (m:=m) (enc:=λs=>bS ⟨(List.range 11).map λr=>(List.range 16).map λj=>(Sy key).getD (16*r+j) 0⟩ s RC) hiv hm (λs hs=>F3 (GL key) hs);simp only at this;rw[this];rfl;intro i _ hi;have h1:decide ((i:Int)<256)=true:=Ho (by omega);simp only[h1,Hn];rw[wj (by omega),show di (i:Int)=some (box (i:Int)) from ul (by omega)];simp only[aB];rw[eg rfl hi];simp only[aB];rw[wrap64 (by omega),Hq,dK (f:=λi:Nat=>box (i:Int)) hi rfl];rfl;(have h1:decide (((256:Nat):Int)<256)=false:=by decide);simp only[h1,Hm];rw[ge];rfl|false=>simp only[Hm];have:=yo (key:=key) (iv:=iv) (m:=m) (enc:=λs=>cl ⟨(List.range 11).map λr=>(List.range 16).map λj=>(Sy key).getD (16*r+j) 0⟩ s) hiv hm (λs hs=>F2 (GL key) hs);simp only at this;rw[this];rfl
theorem AQ {key iv m:List Int} (hk:key.length=16) (hb:aT key) (hiv:iv.length=16) (hm:m.length<2^30):fO key iv m=some (mX key iv m):=by
 unfold fO
 have hroom:(F_:Int)=17179869184:=rfl
 have hroomN:F_=17179869184:=rfl
 rw[EK hk hb]
 simp only[aB]
 have g:P2 0 (m.length:Int)=true:=by unfold P2;rw[hroom];simp;omega
 rw[g,Hn]
 obtain⟨C,hC⟩:∃C,C=Xv iv:=⟨_,rfl⟩
 have hC0:C 0=iv:=by rw[hC];rfl
 have hCS:∀k,C (k+1)=Tn 16 (C k):=by rw[hC];intro k;rfl
 have hCl:∀k,(C k).length=16:=by rw[hC];exact zL hiv
 obtain⟨E,hE⟩:∃E,E=V_ key iv:=⟨_,rfl⟩
 have hst:∀k,E k=PL (SW key) (C k) 10:=by rw[hC,hE];intro k;rfl
 have hEl:∀k,(E k).length=16:=λk=>by rw[hst];exact qL _ _ _
 obtain⟨f,hf⟩:∃f:Nat→Int,f=λi=>g_ .u8 (m.getD i 0) ((E (i / 16)).getD (i%16) 0):=⟨_,rfl⟩
 have hms:mX key iv m=(List.range m.length).map f:=by rw[hf,hE];rfl
 rw[hms]
 rw[aY (λi=>((List.range i).map f,(i:Int),C ((i+15) / 16),bif decide (i=0) then List.replicate 16 (0:Int) else E ((i - 1) / 16))) 0 m.length (r:=(List.range m.length).map f) (by omega) ?_ (dF (by show decide ((m.length:Int)<(m.length:Int))=false;exact Hp (by omega))) (by rw[←hC0];rfl)]
 · rfl
 · intro i _ hi
   have h1:decide ((i:Int)<(m.length:Int))=true:=Ho (by omega)
   simp only[h1,Hn]
   have em:Int.tmod (i:Int) 16=((i%16:Nat):Int):=rfl
   have e1:(bif (Int.tmod (i:Int) 16)==0 then
      (fM (Sy key) (C ((i+15) / 16))).bind λy234=>
      (fN (C ((i+15) / 16))).bind λy236=>
      some (y236,y234)
     else
      some (C ((i+15) / 16),bif decide (i=0) then List.replicate 16 (0:Int) else E ((i - 1) / 16))
      :Option ((List Int)×(List Int)))=some (C ((i+1+15) / 16),E (i / 16)):=by
    have ec:((Int.tmod (i:Int) 16)==0)=(i%16==0):=sW (n:=i%16) (m:=0)
    rw[ec,EH (G6 hb) (hCl _),EI (hCl _)]
    cases hc:(i%16==0) with
    |true=>
     have hc':=Jg.1 hc
     have q1:(i+15) / 16=i / 16:=by omega
     have q2:(i+1+15) / 16=i / 16+1:=by omega
     simp only[Hn,aB]
     rw[q1,q2,hCS,hst]
    |false=>
     have hc':¬i%16=0:=by simpa using hc
     have q1:(i+15) / 16=(i+1+15) / 16:=by omega
     have q2:(i - 1) / 16=i / 16:=by omega
     have d:decide (i=0)=false:=Hp (by omega)
     simp only[Hm]
     rw[q1,q2,d,Hm]
   rw[e1]
   simp only[aB]
   rw[aJ (i:=i) rfl hi]
   simp only[aB]
   rw[em,aJ (i:=i%16) rfl (by rw[hEl];omega)]
   simp only[aB]
   rw[aW (by rw[hroomN];simp;omega)]
   simp only[aB]
   have d:decide (i+1=0)=false:=Hp (by omega)
   rw[wrap64 (by omega),d,Hm,Jp,Jw,Im]
   simp only[HX,IX]
   rw[show f i=g_ .u8 (m.getD i 0) ((E (i / 16)).getD (i%16) 0) by rw[hf]];rfl
end Go.Proofs.YtobbmodjdkcdcaaGreatDoor
