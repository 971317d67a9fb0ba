import Derived.Test.YtobbmodjdkcdcaaGreatDoorLawAes4
set_option linter.unusedVariables false
set_option linter.unusedSimpArgs false
set_option maxRecDepth 20000
set_option maxHeartbeats 1000000
namespace Go.Proofs.YtobbmodjdkcdcaaGreatDoor
open Go Go.Sim
set_option linter.unusedSectionVars false
variable [Fu]
def ctr (iv:List Int):Nat→List Int
 |0=>iv
 |k+1=>nxt 16 (ctr iv k)
theorem uh {iv:List Int} (h:iv.length=16):∀k,(ctr iv k).length=16
 |0=>h
 |k+1=>by unfold ctr;rw[ug];exact uh h k
def strm (key iv:List Int) (k:Nat):List Int:=rdAt (keyR key) (ctr iv k) 10
def fH (key iv m:List Int):List Int:=(List.range m.length).map fun i=>xorI .u8 (m.getD i 0) ((strm key iv (i / 16)).getD (i%16) 0)
theorem jI (key iv m:List Int):(fH key iv m).length=m.length:=by simp[fH]
theorem nj (key iv m:List Int):be (fH key iv m):=jG fun i=>je _ _
theorem qn {n i k:Nat} {f g:Nat→Int} (hi:n≤i) (hk:n≤k):part1 n f g i=part1 n f g k:=by
 unfold part1
 apply List.map_congr_left
 intro j hj
 have hj:=List.mem_range.1 hj
 have d1:decide (j<i)=true:=decide_eq_true (by omega)
 have d2:decide (j<k)=true:=decide_eq_true (by omega)
 rw[d1,d2]
theorem qo {key iv m:List Int} {enc:List Int→Option (List Int)} (hiv:iv.length=16) (hm:m.length<2^30) (he:∀s,s.length=16→enc s=some (rdAt (keyR key) s 10)):
   (Loop.run (S:=((List Int)×Int×(List Int))) (R:=(List Int)) (fun(x1235,x1236,x1237)=>
       bif decide (x1236<(x1235.length:Int)) then
        (((enc x1237).bind fun y1538=>
        (((Loop.run (S:=((List Int)×Int)) (R:=(List Int)) (fun(x1605,x1606)=>
          bif decide (x1606<(min (IntKind.wrap .i64 (x1236+16)) (x1605.length:Int))) then
           (idx x1605 x1606).bind fun x1621=>
           (idx y1538 (IntKind.wrap .i64 (x1606 - x1236))).bind fun x1623=>
           (idx x1605 x1606).bind fun x1625=>
           some (.next (List.set x1605 (Int.toNat x1606) (xorI .u8 x1621 x1623),IntKind.wrap .i64 (x1606+1)))
          else
           some (.done x1605)) (x1235,x1236)).bind fun x1614=>
        some x1614
         :Option (List Int))).bind fun x1582=>
        (eQ x1237).bind fun y1586=>
        some (x1582,y1586)
         :Option ((List Int)×(List Int)))).bind fun r1535=>match r1535 with
         |(x1533,x1534)=>
          some (.next (x1533,IntKind.wrap .i64 (x1236+16),x1534))
       else
        some (.done x1235)) (m,0,iv))=some (fH key iv m):=by
 obtain⟨C,hC⟩:∃C,C=ctr iv:=⟨_,rfl⟩
 obtain⟨f,hf⟩:∃f:Nat→Int,f=fun i=>xorI .u8 (m.getD i 0) ((strm key iv (i / 16)).getD (i%16) 0):=⟨_,rfl⟩
 have hC0:C 0=iv:=by rw[hC];rfl
 have hCS:∀k,C (k+1)=nxt 16 (C k):=by rw[hC];intro k;rfl
 have hCl:∀k,(C k).length=16:=by rw[hC];exact uh hiv
 have hst:∀k,strm key iv k=rdAt (keyR key) (C k) 10:=by rw[hC];intro k;rfl
 have hms:fH key iv m=(List.range m.length).map f:=by rw[hf];rfl
 rw[hms]
 have hl:∀k,(rdAt (keyR key) (C k) 10).length=16:=fun k=>ox _ _ _
 rw[bw (fun k=>(part1 m.length f (fun i=>m.getD i 0) (16*k),((16*k:Nat):Int),C k)) 0 ((m.length+15) / 16) (r:=(List.range m.length).map f) (by omega) ?_ ?_ ?_]
 · intro k _ hk
   have h1:decide (((16*k:Nat):Int)<((part1 m.length f (fun i=>m.getD i 0) (16*k)).length:Int))=true:=by rw[df];exact decide_eq_true (by omega)
   simp only[h1,cond_true]
   rw[he _ (hCl k),s9 (hCl k)]
   simp only[ae]
   have hE:=hl k
   have hfE:∀i,16*k≤i→i<16*k+16→f i=xorI .u8 (m.getD i 0) ((rdAt (keyR key) (C k) 10).getD (i - 16*k) 0):=by
     intro i i1 i2
     rw[hf]
     simp only
     rw[hst]
     have q1:i / 16=k:=by omega
     have q2:i%16=i - 16*k:=by omega
     rw[q1,q2]
   generalize rdAt (keyR key) (C k) 10=E at*
   rw[wrap64 (x:=((16*k:Nat):Int)+16) (by omega)]
   rw[bw (fun i=>(part1 m.length f (fun i=>m.getD i 0) i,(i:Int))) (16*k) (min (16*k+16) m.length) (r:=part1 m.length f (fun i=>m.getD i 0) (16*(k+1))) (by omega) ?_ ?_ (by rfl)]
   · simp only[ae]
     have:((16*k:Nat):Int)+16=((16*(k+1):Nat):Int):=by omega
     rw[this,hCS]
   · intro i i1 i2
     have h2:decide ((i:Int)<(min (((16*k:Nat):Int)+16) ((part1 m.length f (fun i=>m.getD i 0) i).length:Int)))=true:=by rw[df];exact decide_eq_true (by omega)
     simp only[h2,cond_true]
     rw[gb rfl (by omega)]
     simp only[ae,Nat.lt_irrefl,decide_false,cond_false]
     rw[wrap64 (x:=(i:Int) - ((16*k:Nat):Int)) (by omega),aW (i:=i - 16*k) (by omega) (by omega)]
     simp only[ae]
     rw[wrap64 (by omega),Int.toNat_natCast,eF (f:=f) (by omega) (hfE i i1 (by omega)).symm];rfl
   · have h2:decide (((min (16*k+16) m.length:Nat):Int)<(min (((16*k:Nat):Int)+16) ((part1 m.length f (fun i=>m.getD i 0) (min (16*k+16) m.length)).length:Int)))=false:=by rw[df];exact decide_eq_false (by omega)
     simp only[h2,cond_false]
     by_cases hc:16*k+16≤m.length
     · rw[Nat.min_eq_left hc];rfl
     · rw[qn (i:=min (16*k+16) m.length) (k:=16*(k+1)) (by omega) (by omega)]
 · have h1:decide (((16*((m.length+15) / 16):Nat):Int)<((part1 m.length f (fun i=>m.getD i 0) (16*((m.length+15) / 16))).length:Int))=false:=by rw[df];exact decide_eq_false (by omega)
   simp only[h1,cond_false]
   rw[qn (i:=16*((m.length+15) / 16)) (k:=m.length) (by omega) (Nat.le_refl _),gy]
 · rw[Nat.mul_zero,ka,kS rfl,hC0];rfl
theorem oz {key iv m:List Int} (hk:key.length=16) (hb:be key) (hiv:iv.length=16) (hm:m.length<2^30):eR key iv m=some (fH key iv m):=by
 unfold eR
 have hroom:(room:Int)=17179869184:=rfl
 rw[uV hk hb]
 simp only[ae]
 have g:mkB (m.length:Int) (m.length:Int)=true:=by unfold mkB;rw[hroom];simp;omega
 rw[g,cond_true]
 have eo:over (List.replicate (Int.toNat (m.length:Int)) (0:Int)) 0 (List.length (List.replicate (Int.toNat (m.length:Int)) (0:Int))) m=m:=by
  rw[Int.toNat_natCast,List.length_replicate,j9 (by omega) (by simp)]
  simp
 rw[eo]
 cases decide ((m.length:Int)>32) with
 |true=>
  simp only[cond_true]
  rw[bw (fun i=>((i:Int),part1 256 (fun i:Nat=>box (i:Int)) (fun _=>0) i)) 0 256 (r:=table) (by omega) ?_ ?_ (by rfl)]
  · simp only[ae]
    have:=qo (key:=key) (iv:=iv) (m:=m) (enc:=fun s=>aX ⟨(List.range 11).map fun r=>(List.range 16).map fun j=>(keyF key).getD (16*r+j) 0⟩ s table) hiv hm (fun s hs=>w5 (xv key) hs)
    simp only at this
    rw[this];rfl
  · intro i _ hi
    have h1:decide ((i:Int)<256)=true:=decide_eq_true (by omega)
    simp only[h1,cond_true]
    rw[oK (by omega),show bY (i:Int)=some (box (i:Int)) from mX (by omega)]
    simp only[ae]
    rw[gb rfl hi]
    simp only[ae]
    rw[wrap64 (by omega),Int.toNat_natCast,eF (f:=fun i:Nat=>box (i:Int)) hi rfl];rfl
  · have h1:decide (((256:Nat):Int)<256)=false:=by decide
    simp only[h1,cond_false]
    rw[gy];rfl
 |false=>
  simp only[cond_false]
  have:=qo (key:=key) (iv:=iv) (m:=m) (enc:=fun s=>bd ⟨(List.range 11).map fun r=>(List.range 16).map fun j=>(keyF key).getD (16*r+j) 0⟩ s) hiv hm (fun s hs=>w4 (xv key) hs)
  simp only at this
  rw[this];rfl
end Go.Proofs.YtobbmodjdkcdcaaGreatDoor
