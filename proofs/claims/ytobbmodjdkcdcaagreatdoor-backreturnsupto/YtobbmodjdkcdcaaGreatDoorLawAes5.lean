import Derived.Test.YtobbmodjdkcdcaaGreatDoorLawAes4
set_option linter.unusedVariables false
set_option linter.unusedSimpArgs false
set_option maxRecDepth 20000
set_option maxHeartbeats 1000000
namespace Go.Proofs.YtobbmodjdkcdcaaGreatDoor
open Go Go.Sim
set_option linter.unusedSectionVars false
variable [Fu]
def ctr (iv:List Int):Nat→List Int
 |0=>iv
 |k+1=>nxt 16 (ctr iv k)
theorem tu {iv:List Int} (h:iv.length=16):∀k,(ctr iv k).length=16
 |0=>h
 |k+1=>by unfold ctr;rw[wR];exact tu h k
def strm (key iv:List Int) (k:Nat):List Int:=rdAt (keyR key) (ctr iv k) 10
def gj (key iv m:List Int):List Int:=(List.range m.length).map fun i=>xorI .u8 (m.getD i 0) ((strm key iv (i / 16)).getD (i%16) 0)
theorem ly (key iv m:List Int):(gj key iv m).length=m.length:=by simp[gj]
theorem um (key iv m:List Int):aS (gj key iv m):=lv fun i=>l5 _ _
theorem jV {n i k:Nat} {f g:Nat→Int} (hi:n≤i) (hk:n≤k):part1 n f g i=part1 n f g k:=by
 unfold part1
 apply List.map_congr_left
 intro j hj
 have hj:=List.mem_range.1 hj
 have d1:decide (j<i)=true:=decide_eq_true (by omega)
 have d2:decide (j<k)=true:=decide_eq_true (by omega)
 rw[d1,d2]
theorem su {key iv m:List Int} {enc:List Int→Option (List Int)} (hiv:iv.length=16) (hm:m.length<2^30) (he:∀s,s.length=16→enc s=some (rdAt (keyR key) s 10)):
   (Loop.run (S:=((List Int)×Int×(List Int))) (R:=(List Int)) (fun(x1235,x1236,x1237)=>
       bif decide (x1236<(x1235.length:Int)) then
        (((enc x1237).bind fun y1538=>
        (((Loop.run (S:=((List Int)×Int)) (R:=(List Int)) (fun(x1605,x1606)=>
          bif decide (x1606<(min (IntKind.wrap .i64 (x1236+16)) (x1605.length:Int))) then
           (idx x1605 x1606).bind fun x1621=>
           (idx y1538 (IntKind.wrap .i64 (x1606 - x1236))).bind fun x1623=>
           (idx x1605 x1606).bind fun x1625=>
           some (.next (List.set x1605 (Int.toNat x1606) (xorI .u8 x1621 x1623),IntKind.wrap .i64 (x1606+1)))
          else
           some (.done x1605)) (x1235,x1236)).bind fun x1614=>
        some x1614
         :Option (List Int))).bind fun x1582=>
        (f8 x1237).bind fun y1586=>
        some (x1582,y1586)
         :Option ((List Int)×(List Int)))).bind fun r1535=>match r1535 with
         |(x1533,x1534)=>
          some (.next (x1533,IntKind.wrap .i64 (x1236+16),x1534))
       else
        some (.done x1235)) (m,0,iv))=some (gj key iv m):=by
 obtain⟨C,hC⟩:∃C,C=ctr iv:=⟨_,rfl⟩
 obtain⟨f,hf⟩:∃f:Nat→Int,f=fun i=>xorI .u8 (m.getD i 0) ((strm key iv (i / 16)).getD (i%16) 0):=⟨_,rfl⟩
 have hC0:C 0=iv:=by rw[hC];rfl
 have hCS:∀k,C (k+1)=nxt 16 (C k):=by rw[hC];intro k;rfl
 have hCl:∀k,(C k).length=16:=by rw[hC];exact tu hiv
 have hst:∀k,strm key iv k=rdAt (keyR key) (C k) 10:=by rw[hC];intro k;rfl
 have hms:gj key iv m=(List.range m.length).map f:=by rw[hf];rfl
 rw[hms]
 have hl:∀k,(rdAt (keyR key) (C k) 10).length=16:=fun k=>mM _ _ _
 rw[aW (fun k=>(part1 m.length f (fun i=>m.getD i 0) (16*k),((16*k:Nat):Int),C k)) 0 ((m.length+15) / 16) (r:=(List.range m.length).map f) (by omega) ?_ ?_ ?_]
 · intro k _ hk
   have h1:decide (((16*k:Nat):Int)<((part1 m.length f (fun i=>m.getD i 0) (16*k)).length:Int))=true:=by rw[dQ];exact decide_eq_true (by omega)
   simp only[h1,cond_true]
   rw[he _ (hCl k),vT (hCl k)]
   simp only[af]
   have hE:=hl k
   have hfE:∀i,16*k≤i→i<16*k+16→f i=xorI .u8 (m.getD i 0) ((rdAt (keyR key) (C k) 10).getD (i - 16*k) 0):=by
     intro i i1 i2
     rw[hf]
     simp only
     rw[hst]
     have q1:i / 16=k:=by omega
     have q2:i%16=i - 16*k:=by omega
     rw[q1,q2]
   generalize rdAt (keyR key) (C k) 10=E at*
   rw[wrap64 (x:=((16*k:Nat):Int)+16) (by omega)]
   rw[aW (fun i=>(part1 m.length f (fun i=>m.getD i 0) i,(i:Int))) (16*k) (min (16*k+16) m.length) (r:=part1 m.length f (fun i=>m.getD i 0) (16*(k+1))) (by omega) ?_ ?_ (by rfl)]
   · simp only[af]
     have:((16*k:Nat):Int)+16=((16*(k+1):Nat):Int):=by omega
     rw[this,hCS]
   · intro i i1 i2
     have h2:decide ((i:Int)<(min (((16*k:Nat):Int)+16) ((part1 m.length f (fun i=>m.getD i 0) i).length:Int)))=true:=by rw[dQ];exact decide_eq_true (by omega)
     simp only[h2,cond_true]
     rw[dk rfl (by omega)]
     simp only[af,Nat.lt_irrefl,decide_false,cond_false]
     rw[wrap64 (x:=(i:Int) - ((16*k:Nat):Int)) (by omega),ar (i:=i - 16*k) (by omega) (by omega)]
     simp only[af]
     rw[wrap64 (by omega),Int.toNat_natCast,cS (f:=f) (by omega) (hfE i i1 (by omega)).symm];rfl
   · have h2:decide (((min (16*k+16) m.length:Nat):Int)<(min (((16*k:Nat):Int)+16) ((part1 m.length f (fun i=>m.getD i 0) (min (16*k+16) m.length)).length:Int)))=false:=by rw[dQ];exact decide_eq_false (by omega)
     simp only[h2,cond_false]
     by_cases hc:16*k+16≤m.length
     · rw[Nat.min_eq_left hc];rfl
     · rw[jV (i:=min (16*k+16) m.length) (k:=16*(k+1)) (by omega) (by omega)]
 · have h1:decide (((16*((m.length+15) / 16):Nat):Int)<((part1 m.length f (fun i=>m.getD i 0) (16*((m.length+15) / 16))).length:Int))=false:=by rw[dQ];exact decide_eq_false (by omega)
   simp only[h1,cond_false]
   rw[jV (i:=16*((m.length+15) / 16)) (k:=m.length) (by omega) (Nat.le_refl _),fb]
 · rw[Nat.mul_zero,kQ,lu rfl,hC0];rfl
theorem vU {key iv m:List Int} (hk:key.length=16) (hb:aS key) (hiv:iv.length=16) (hm:m.length<2^30):gU key iv m=some (gj key iv m):=by
 unfold gU
 have hroom:(room:Int)=17179869184:=rfl
 rw[xr hk hb]
 simp only[af]
 have g:mkB (m.length:Int) (m.length:Int)=true:=by unfold mkB;rw[hroom];simp;omega
 rw[g,cond_true]
 have eo:over (List.replicate (Int.toNat (m.length:Int)) (0:Int)) 0 (List.length (List.replicate (Int.toNat (m.length:Int)) (0:Int))) m=m:=by
  rw[Int.toNat_natCast,List.length_replicate,kP (by omega) (by simp)]
  simp
 rw[eo]
 cases decide ((m.length:Int)>32) with
 |true=>
  simp only[cond_true]
  rw[aW (fun i=>((i:Int),part1 256 (fun i:Nat=>box (i:Int)) (fun _=>0) i)) 0 256 (r:=table) (by omega) ?_ ?_ (by rfl)]
  · simp only[af]
    have:=su (key:=key) (iv:=iv) (m:=m) (enc:=fun s=>bd ⟨(List.range 11).map fun r=>(List.range 16).map fun j=>(keyF key).getD (16*r+j) 0⟩ s table) hiv hm (fun s hs=>zZ (Ax key) hs)
    simp only at this
    rw[this];rfl
  · intro i _ hi
    have h1:decide ((i:Int)<256)=true:=decide_eq_true (by omega)
    simp only[h1,cond_true]
    rw[un (by omega),show cq (i:Int)=some (box (i:Int)) from pw (by omega)]
    simp only[af]
    rw[dk rfl hi]
    simp only[af]
    rw[wrap64 (by omega),Int.toNat_natCast,cS (f:=fun i:Nat=>box (i:Int)) hi rfl];rfl
  · have h1:decide (((256:Nat):Int)<256)=false:=by decide
    simp only[h1,cond_false]
    rw[fb];rfl
 |false=>
  simp only[cond_false]
  have:=su (key:=key) (iv:=iv) (m:=m) (enc:=fun s=>br ⟨(List.range 11).map fun r=>(List.range 16).map fun j=>(keyF key).getD (16*r+j) 0⟩ s) hiv hm (fun s hs=>zY (Ax key) hs)
  simp only at this
  rw[this];rfl
theorem yF {key iv m:List Int} (hk:key.length=16) (hb:aS key) (hiv:iv.length=16) (hm:m.length<2^30):fp key iv m=some (gj key iv m):=by
 unfold fp
 have hroom:(room:Int)=17179869184:=rfl
 have hroomN:room=17179869184:=rfl
 rw[yz hk hb]
 simp only[af]
 have g:mkB 0 (m.length:Int)=true:=by unfold mkB;rw[hroom];simp;omega
 rw[g,cond_true]
 obtain⟨C,hC⟩:∃C,C=ctr iv:=⟨_,rfl⟩
 have hC0:C 0=iv:=by rw[hC];rfl
 have hCS:∀k,C (k+1)=nxt 16 (C k):=by rw[hC];intro k;rfl
 have hCl:∀k,(C k).length=16:=by rw[hC];exact tu hiv
 obtain⟨E,hE⟩:∃E,E=strm key iv:=⟨_,rfl⟩
 have hst:∀k,E k=rdAt (keyR key) (C k) 10:=by rw[hC,hE];intro k;rfl
 have hEl:∀k,(E k).length=16:=fun k=>by rw[hst];exact mM _ _ _
 obtain⟨f,hf⟩:∃f:Nat→Int,f=fun i=>xorI .u8 (m.getD i 0) ((E (i / 16)).getD (i%16) 0):=⟨_,rfl⟩
 have hms:gj key iv m=(List.range m.length).map f:=by rw[hf,hE];rfl
 rw[hms]
 rw[aW (fun i=>((List.range i).map f,(i:Int),C ((i+15) / 16),bif decide (i=0) then List.replicate 16 (0:Int) else E ((i - 1) / 16))) 0 m.length (r:=(List.range m.length).map f) (by omega) ?_ (ef (by show decide ((m.length:Int)<(m.length:Int))=false;exact decide_eq_false (by omega))) (by rw[←hC0];rfl)]
 · rfl
 · intro i _ hi
   have h1:decide ((i:Int)<(m.length:Int))=true:=decide_eq_true (by omega)
   simp only[h1,cond_true]
   have em:Int.tmod (i:Int) 16=((i%16:Nat):Int):=rfl
   have e1:(bif (Int.tmod (i:Int) 16)==0 then
      (dX (keyF key) (C ((i+15) / 16))).bind fun y234=>
      (dY (C ((i+15) / 16))).bind fun y236=>
      some (y236,y234)
     else
      some (C ((i+15) / 16),bif decide (i=0) then List.replicate 16 (0:Int) else E ((i - 1) / 16))
      :Option ((List Int)×(List Int)))=some (C ((i+1+15) / 16),E (i / 16)):=by
    have ec:((Int.tmod (i:Int) 16)==0)=(i%16==0):=oQ (n:=i%16) (m:=0)
    rw[ec,yw (AX hb) (hCl _),yx (hCl _)]
    cases hc:(i%16==0) with
    |true=>
     have hc':=beq_iff_eq.1 hc
     have q1:(i+15) / 16=i / 16:=by omega
     have q2:(i+1+15) / 16=i / 16+1:=by omega
     simp only[cond_true,af]
     rw[q1,q2,hCS,hst]
    |false=>
     have hc':¬i%16=0:=by simpa using hc
     have q1:(i+15) / 16=(i+1+15) / 16:=by omega
     have q2:(i - 1) / 16=i / 16:=by omega
     have d:decide (i=0)=false:=decide_eq_false (by omega)
     simp only[cond_false]
     rw[q1,q2,d,cond_false]
   rw[e1]
   simp only[af]
   rw[ar (i:=i) rfl hi]
   simp only[af]
   rw[em,ar (i:=i%16) rfl (by rw[hEl];omega)]
   simp only[af]
   rw[bK (by rw[hroomN];simp;omega)]
   simp only[af]
   have d:decide (i+1=0)=false:=decide_eq_false (by omega)
   rw[wrap64 (by omega),d,cond_false,Nat.add_sub_cancel,List.range_succ,List.map_append]
   simp only[List.map_cons,List.map_nil]
   rw[show f i=xorI .u8 (m.getD i 0) ((E (i / 16)).getD (i%16) 0) by rw[hf]];rfl
end Go.Proofs.YtobbmodjdkcdcaaGreatDoor
