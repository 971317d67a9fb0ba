import Derived.Test.YtobbmodjdkcdcaaGreatDoorLawAes4
set_option linter.all false
set_option maxRecDepth 20000
set_option maxHeartbeats 1000000
namespace Go.Proofs.YtobbmodjdkcdcaaGreatDoor
open Go Go.Sim
variable [Fu]
def ctr (iv:List Int):Nat→List Int|0=>iv|k+1=>nxt 16 (ctr iv k)
theorem xn {iv:List Int} (h:iv.length=16):∀k,(ctr iv k).length=16|0=>h|k+1=>by unfold ctr;rw[Bl];exact xn h k
def strm (key iv:List Int) (k:Nat):List Int:=rdAt (keyR key) (ctr iv k) 10
def lR (key iv m:List Int):List Int:=(List.range m.length).map λi=>xorI .u8 (m.getD i 0) ((strm key iv (i / 16)).getD (i%16) 0)
theorem rN (key iv m:List Int):(lR key iv m).length=m.length:=by simp[lR]
theorem sC (key iv m:List Int):aL (lR key iv m):=mW λi=>lY _ _
theorem lO {n i k:Nat} {f g:Nat→Int} (hi:n≤i) (hk:n≤k):part1 n f g i=part1 n f g k:=by unfold part1;apply G2;intro j hj;have hj:=GY.1 hj;have d1:decide (j<i)=true:=FK (by omega);have d2:decide (j<k)=true:=FK (by omega);rw[d1,d2]
theorem wj {key iv m:List Int} {enc:List Int→Option (List Int)} (hiv:iv.length=16) (hm:m.length<2^30) (he:∀s,s.length=16→enc s=some (rdAt (keyR key) s 10)):
   (Loop.run (S:=((List Int)×Int×(List Int))) (R:=(List Int)) (fun(x1235,x1236,x1237)=>
       bif decide (x1236<(x1235.length:Int)) then
        (((enc x1237).bind λy1538=>
        (((Loop.run (S:=((List Int)×Int)) (R:=(List Int)) (λ(x1605,x1606)=>
          bif decide (x1606<(min (IntKind.wrap .i64 (x1236+16)) (x1605.length:Int))) then
           (idx x1605 x1606).bind λx1621=>
           (idx y1538 (IntKind.wrap .i64 (x1606 - x1236))).bind λx1623=>
           (idx x1605 x1606).bind λx1625=>
           some (.next (List.set x1605 (Int.toNat x1606) (xorI .u8 x1621 x1623),IntKind.wrap .i64 (x1606+1)))
          else
           some (.done x1605)) (x1235,x1236)).bind λx1614=>
        some x1614
         :Option (List Int))).bind λx1582=>
        (ig x1237).bind λy1586=>
        some (x1582,y1586)
         :Option ((List Int)×(List Int)))).bind λr1535=>match r1535 with
         |(x1533,x1534)=>
          some (.next (x1533,IntKind.wrap .i64 (x1236+16),x1534))
       else
        some (.done x1235)) (m,0,iv))=some (lR key iv m):=by
 obtain⟨C,hC⟩:∃C,C=ctr iv:=⟨_,rfl⟩
 obtain⟨f,hf⟩:∃f:Nat→Int,f=λi=>xorI .u8 (m.getD i 0) ((strm key iv (i / 16)).getD (i%16) 0):=⟨_,rfl⟩
 have hC0:C 0=iv:=by rw[hC];rfl
 have hCS:∀k,C (k+1)=nxt 16 (C k):=by rw[hC];intro k;rfl
 have hCl:∀k,(C k).length=16:=by rw[hC];exact xn hiv
 have hst:∀k,strm key iv k=rdAt (keyR key) (C k) 10:=by rw[hC];intro k;rfl
 have hms:lR key iv m=(List.range m.length).map f:=by rw[hf];rfl
 rw[hms]
 have hl:∀k,(rdAt (keyR key) (C k) 10).length=16:=λk=>oo _ _ _
 rw[aP (λk=>(part1 m.length f (λi=>m.getD i 0) (16*k),((16*k:Nat):Int),C k)) 0 ((m.length+15) / 16) (r:=(List.range m.length).map f) (by omega) ?_ ?_ ?_]
 · intro k _ hk
   have h1:decide (((16*k:Nat):Int)<((part1 m.length f (λi=>m.getD i 0) (16*k)).length:Int))=true:=by rw[eU];exact FK (by omega)
   simp only[h1,FJ]
   rw[he _ (hCl k),AF (hCl k)]
   simp only[ab]
   have hE:=hl k
   have hfE:∀i,16*k≤i→i<16*k+16→f i=xorI .u8 (m.getD i 0) ((rdAt (keyR key) (C k) 10).getD (i - 16*k) 0):=by
     intro i i1 i2
     rw[hf]
     simp only
     rw[hst]
     have q1:i / 16=k:=by omega
     have q2:i%16=i - 16*k:=by omega
     rw[q1,q2]
   generalize rdAt (keyR key) (C k) 10=E at*
   rw[wrap64 (x:=((16*k:Nat):Int)+16) (by omega)]
   rw[aP (λi=>(part1 m.length f (λi=>m.getD i 0) i,(i:Int))) (16*k) (min (16*k+16) m.length) (r:=part1 m.length f (λi=>m.getD i 0) (16*(k+1))) (by omega) ?_ ?_ (by rfl)]
   · simp only[ab]
     have:((16*k:Nat):Int)+16=((16*(k+1):Nat):Int):=by omega
     rw[this,hCS]
   · intro i i1 i2
     have h2:decide ((i:Int)<(min (((16*k:Nat):Int)+16) ((part1 m.length f (λi=>m.getD i 0) i).length:Int)))=true:=by rw[eU];exact FK (by omega)
     simp only[h2,FJ]
     rw[dp rfl (by omega)]
     simp only[ab,IB,HD,FI]
     rw[wrap64 (x:=(i:Int) - ((16*k:Nat):Int)) (by omega),ar (i:=i - 16*k) (by omega) (by omega)]
     simp only[ab]
     rw[wrap64 (by omega),FP,cV (f:=f) (by omega) (hfE i i1 (by omega)).symm];rfl
   · have h2:decide (((min (16*k+16) m.length:Nat):Int)<(min (((16*k:Nat):Int)+16) ((part1 m.length f (λi=>m.getD i 0) (min (16*k+16) m.length)).length:Int)))=false:=by rw[eU];exact FL (by omega)
     simp only[h2,FI]
     by_cases hc:16*k+16≤m.length
     · rw[GE hc];rfl
     · rw[lO (i:=min (16*k+16) m.length) (k:=16*(k+1)) (by omega) (by omega)]
 · have h1:decide (((16*((m.length+15) / 16):Nat):Int)<((part1 m.length f (λi=>m.getD i 0) (16*((m.length+15) / 16))).length:Int))=false:=by rw[eU];exact FL (by omega)
   simp only[h1,FI]
   rw[lO (i:=16*((m.length+15) / 16)) (k:=m.length) (by omega) (F9 _),fv]
 · rw[Nat.mul_zero,nK,mV rfl,hC0];rfl
theorem tZ {key iv m:List Int} (hk:key.length=16) (hb:aL key) (hiv:iv.length=16) (hm:m.length<2^30):jb key iv m=some (lR key iv m):=by unfold jb;have hroom:(room:Int)=17179869184:=rfl;rw[B5 hk hb];simp only[ab];(have g:mkB (m.length:Int) (m.length:Int)=true:=by unfold mkB;rw[hroom];simp;omega);rw[g,FJ];(have eo:over (List.replicate (Int.toNat (m.length:Int)) (0:Int)) 0 (List.length (List.replicate (Int.toNat (m.length:Int)) (0:Int))) m=m:=by rw[FP,Ig,px (by omega) (by simp)];simp);rw[eo];cases decide ((m.length:Int)>32) with|true=>simp only[FJ];rw[aP (λi=>((i:Int),part1 256 (λi:Nat=>box (i:Int)) (λ_=>0) i)) 0 256 (r:=table) (by omega) ?_ ?_ (by rfl)];simp only[ab];have:=wj (key:=key) (iv:=iv) (m:=m) (enc:=λs=>ba ⟨(List.range 11).map λr=>(List.range 16).map λj=>(keyF key).getD (16*r+j) 0⟩ s table) hiv hm (λs hs=>El (E2 key) hs);simp only at this;rw[this];rfl;intro i _ hi;have h1:decide ((i:Int)<256)=true:=FK (by omega);simp only[h1,FJ];rw[ua (by omega),show cK (i:Int)=some (box (i:Int)) from rK (by omega)];simp only[ab];rw[dp rfl hi];simp only[ab];rw[wrap64 (by omega),FP,cV (f:=λi:Nat=>box (i:Int)) hi rfl];rfl;(have h1:decide (((256:Nat):Int)<256)=false:=by decide);simp only[h1,FI];rw[fv];rfl|false=>simp only[FI];have:=wj (key:=key) (iv:=iv) (m:=m) (enc:=λs=>bu ⟨(List.range 11).map λr=>(List.range 16).map λj=>(keyF key).getD (16*r+j) 0⟩ s) hiv hm (λs hs=>Ek (E2 key) hs);simp only at this;rw[this];rfl
theorem C5 {key iv m:List Int} (hk:key.length=16) (hb:aL key) (hiv:iv.length=16) (hm:m.length<2^30):ge key iv m=some (lR key iv m):=by
 unfold ge
 have hroom:(room:Int)=17179869184:=rfl
 have hroomN:room=17179869184:=rfl
 rw[C4 hk hb]
 simp only[ab]
 have g:mkB 0 (m.length:Int)=true:=by unfold mkB;rw[hroom];simp;omega
 rw[g,FJ]
 obtain⟨C,hC⟩:∃C,C=ctr iv:=⟨_,rfl⟩
 have hC0:C 0=iv:=by rw[hC];rfl
 have hCS:∀k,C (k+1)=nxt 16 (C k):=by rw[hC];intro k;rfl
 have hCl:∀k,(C k).length=16:=by rw[hC];exact xn hiv
 obtain⟨E,hE⟩:∃E,E=strm key iv:=⟨_,rfl⟩
 have hst:∀k,E k=rdAt (keyR key) (C k) 10:=by rw[hC,hE];intro k;rfl
 have hEl:∀k,(E k).length=16:=λk=>by rw[hst];exact oo _ _ _
 obtain⟨f,hf⟩:∃f:Nat→Int,f=λi=>xorI .u8 (m.getD i 0) ((E (i / 16)).getD (i%16) 0):=⟨_,rfl⟩
 have hms:lR key iv m=(List.range m.length).map f:=by rw[hf,hE];rfl
 rw[hms]
 rw[aP (λi=>((List.range i).map f,(i:Int),C ((i+15) / 16),bif decide (i=0) then List.replicate 16 (0:Int) else E ((i - 1) / 16))) 0 m.length (r:=(List.range m.length).map f) (by omega) ?_ (cY (by show decide ((m.length:Int)<(m.length:Int))=false;exact FL (by omega))) (by rw[←hC0];rfl)]
 · rfl
 · intro i _ hi
   have h1:decide ((i:Int)<(m.length:Int))=true:=FK (by omega)
   simp only[h1,FJ]
   have em:Int.tmod (i:Int) 16=((i%16:Nat):Int):=rfl
   have e1:(bif (Int.tmod (i:Int) 16)==0 then
      (eX (keyF key) (C ((i+15) / 16))).bind λy234=>
      (eY (C ((i+15) / 16))).bind λy236=>
      some (y236,y234)
     else
      some (C ((i+15) / 16),bif decide (i=0) then List.replicate 16 (0:Int) else E ((i - 1) / 16))
      :Option ((List Int)×(List Int)))=some (C ((i+1+15) / 16),E (i / 16)):=by
    have ec:((Int.tmod (i:Int) 16)==0)=(i%16==0):=qM (n:=i%16) (m:=0)
    rw[ec,C1 (Fr hb) (hCl _),C2 (hCl _)]
    cases hc:(i%16==0) with
    |true=>
     have hc':=Hj.1 hc
     have q1:(i+15) / 16=i / 16:=by omega
     have q2:(i+1+15) / 16=i / 16+1:=by omega
     simp only[FJ,ab]
     rw[q1,q2,hCS,hst]
    |false=>
     have hc':¬i%16=0:=by simpa using hc
     have q1:(i+15) / 16=(i+1+15) / 16:=by omega
     have q2:(i - 1) / 16=i / 16:=by omega
     have d:decide (i=0)=false:=FL (by omega)
     simp only[FI]
     rw[q1,q2,d,FI]
   rw[e1]
   simp only[ab]
   rw[ar (i:=i) rfl hi]
   simp only[ab]
   rw[em,ar (i:=i%16) rfl (by rw[hEl];omega)]
   simp only[ab]
   rw[aQ (by rw[hroomN];simp;omega)]
   simp only[ab]
   have d:decide (i+1=0)=false:=FL (by omega)
   rw[wrap64 (by omega),d,FI,Hz,Hx,Gy]
   simp only[Ge,Hl]
   rw[show f i=xorI .u8 (m.getD i 0) ((E (i / 16)).getD (i%16) 0) by rw[hf]];rfl
end Go.Proofs.YtobbmodjdkcdcaaGreatDoor
