import Derived.Test.YtobbmodjdkcdcaaGreatDoorLawAes4
set_option linter.all false
set_option maxRecDepth 20000
set_option maxHeartbeats 1000000
namespace Go.Proofs.YtobbmodjdkcdcaaGreatDoor
open Go Go.Sim
variable [Fu]
def ctr (iv:List Int):Nat→List Int|0=>iv|k+1=>nxt 16 (ctr iv k)
theorem xU {iv:List Int} (h:iv.length=16):∀k,(ctr iv k).length=16|0=>h|k+1=>by unfold ctr;rw[BK];exact xU h k
def strm (key iv:List Int) (k:Nat):List Int:=rdAt (keyR key) (ctr iv k) 10
def lZ (key iv m:List Int):List Int:=(List.range m.length).map λi=>xorI .u8 (m.getD i 0) ((strm key iv (i / 16)).getD (i%16) 0)
theorem sj (key iv m:List Int):(lZ key iv m).length=m.length:=by simp[lZ]
theorem sR (key iv m:List Int):aH (lZ key iv m):=m9 λi=>mf _ _
theorem lX {n i k:Nat} {f g:Nat→Int} (hi:n≤i) (hk:n≤k):part1 n f g i=part1 n f g k:=by unfold part1;apply List.map_congr_left;intro j hj;have hj:=List.mem_range.1 hj;have d1:decide (j<i)=true:=decide_eq_true (by omega);have d2:decide (j<k)=true:=decide_eq_true (by omega);rw[d1,d2]
theorem wP {key iv m:List Int} {enc:List Int→Option (List Int)} (hiv:iv.length=16) (hm:m.length<2^30) (he:∀s,s.length=16→enc s=some (rdAt (keyR key) s 10)):
   (Loop.run (S:=((List Int)×Int×(List Int))) (R:=(List Int)) (fun(x1235,x1236,x1237)=>
       bif decide (x1236<(x1235.length:Int)) then
        (((enc x1237).bind λy1538=>
        (((Loop.run (S:=((List Int)×Int)) (R:=(List Int)) (λ(x1605,x1606)=>
          bif decide (x1606<(min (IntKind.wrap .i64 (x1236+16)) (x1605.length:Int))) then
           (idx x1605 x1606).bind λx1621=>
           (idx y1538 (IntKind.wrap .i64 (x1606 - x1236))).bind λx1623=>
           (idx x1605 x1606).bind λx1625=>
           some (.next (List.set x1605 (Int.toNat x1606) (xorI .u8 x1621 x1623),IntKind.wrap .i64 (x1606+1)))
          else
           some (.done x1605)) (x1235,x1236)).bind λx1614=>
        some x1614
         :Option (List Int))).bind λx1582=>
        (iq x1237).bind λy1586=>
        some (x1582,y1586)
         :Option ((List Int)×(List Int)))).bind λr1535=>match r1535 with
         |(x1533,x1534)=>
          some (.next (x1533,IntKind.wrap .i64 (x1236+16),x1534))
       else
        some (.done x1235)) (m,0,iv))=some (lZ key iv m):=by
 obtain⟨C,hC⟩:∃C,C=ctr iv:=⟨_,rfl⟩
 obtain⟨f,hf⟩:∃f:Nat→Int,f=λi=>xorI .u8 (m.getD i 0) ((strm key iv (i / 16)).getD (i%16) 0):=⟨_,rfl⟩
 have hC0:C 0=iv:=by rw[hC];rfl
 have hCS:∀k,C (k+1)=nxt 16 (C k):=by rw[hC];intro k;rfl
 have hCl:∀k,(C k).length=16:=by rw[hC];exact xU hiv
 have hst:∀k,strm key iv k=rdAt (keyR key) (C k) 10:=by rw[hC];intro k;rfl
 have hms:lZ key iv m=(List.range m.length).map f:=by rw[hf];rfl
 rw[hms]
 have hl:∀k,(rdAt (keyR key) (C k) 10).length=16:=λk=>oY _ _ _
 rw[aP (λk=>(part1 m.length f (λi=>m.getD i 0) (16*k),((16*k:Nat):Int),C k)) 0 ((m.length+15) / 16) (r:=(List.range m.length).map f) (by omega) ?_ ?_ ?_]
 · intro k _ hk
   have h1:decide (((16*k:Nat):Int)<((part1 m.length f (λi=>m.getD i 0) (16*k)).length:Int))=true:=by rw[eY];exact decide_eq_true (by omega)
   simp only[h1,cond_true]
   rw[he _ (hCl k),AZ (hCl k)]
   simp only[ab]
   have hE:=hl k
   have hfE:∀i,16*k≤i→i<16*k+16→f i=xorI .u8 (m.getD i 0) ((rdAt (keyR key) (C k) 10).getD (i - 16*k) 0):=by
     intro i i1 i2
     rw[hf]
     simp only
     rw[hst]
     have q1:i / 16=k:=by omega
     have q2:i%16=i - 16*k:=by omega
     rw[q1,q2]
   generalize rdAt (keyR key) (C k) 10=E at*
   rw[wrap64 (x:=((16*k:Nat):Int)+16) (by omega)]
   rw[aP (λi=>(part1 m.length f (λi=>m.getD i 0) i,(i:Int))) (16*k) (min (16*k+16) m.length) (r:=part1 m.length f (λi=>m.getD i 0) (16*(k+1))) (by omega) ?_ ?_ (by rfl)]
   · simp only[ab]
     have:((16*k:Nat):Int)+16=((16*(k+1):Nat):Int):=by omega
     rw[this,hCS]
   · intro i i1 i2
     have h2:decide ((i:Int)<(min (((16*k:Nat):Int)+16) ((part1 m.length f (λi=>m.getD i 0) i).length:Int)))=true:=by rw[eY];exact decide_eq_true (by omega)
     simp only[h2,cond_true]
     rw[dn rfl (by omega)]
     simp only[ab,Nat.lt_irrefl,decide_false,cond_false]
     rw[wrap64 (x:=(i:Int) - ((16*k:Nat):Int)) (by omega),ar (i:=i - 16*k) (by omega) (by omega)]
     simp only[ab]
     rw[wrap64 (by omega),Int.toNat_natCast,cV (f:=f) (by omega) (hfE i i1 (by omega)).symm];rfl
   · have h2:decide (((min (16*k+16) m.length:Nat):Int)<(min (((16*k:Nat):Int)+16) ((part1 m.length f (λi=>m.getD i 0) (min (16*k+16) m.length)).length:Int)))=false:=by rw[eY];exact decide_eq_false (by omega)
     simp only[h2,cond_false]
     by_cases hc:16*k+16≤m.length
     · rw[Nat.min_eq_left hc];rfl
     · rw[lX (i:=min (16*k+16) m.length) (k:=16*(k+1)) (by omega) (by omega)]
 · have h1:decide (((16*((m.length+15) / 16):Nat):Int)<((part1 m.length f (λi=>m.getD i 0) (16*((m.length+15) / 16))).length:Int))=false:=by rw[eY];exact decide_eq_false (by omega)
   simp only[h1,cond_false]
   rw[lX (i:=16*((m.length+15) / 16)) (k:=m.length) (by omega) (Nat.le_refl _),fy]
 · rw[Nat.mul_zero,nS,m8 rfl,hC0];rfl
theorem un {key iv m:List Int} (hk:key.length=16) (hb:aH key) (hiv:iv.length=16) (hm:m.length<2^30):jk key iv m=some (lZ key iv m):=by unfold jk;have hroom:(room:Int)=17179869184:=rfl;rw[Cu hk hb];simp only[ab];(have g:mkB (m.length:Int) (m.length:Int)=true:=by unfold mkB;rw[hroom];simp;omega);rw[g,cond_true];(have eo:over (List.replicate (Int.toNat (m.length:Int)) (0:Int)) 0 (List.length (List.replicate (Int.toNat (m.length:Int)) (0:Int))) m=m:=by rw[Int.toNat_natCast,List.length_replicate,qa (by omega) (by simp)];simp);rw[eo];cases decide ((m.length:Int)>32) with|true=>simp only[cond_true];rw[aP (λi=>((i:Int),part1 256 (λi:Nat=>box (i:Int)) (λ_=>0) i)) 0 256 (r:=table) (by omega) ?_ ?_ (by rfl)];simp only[ab];have:=wP (key:=key) (iv:=iv) (m:=m) (enc:=λs=>a8 ⟨(List.range 11).map λr=>(List.range 16).map λj=>(keyF key).getD (16*r+j) 0⟩ s table) hiv hm (λs hs=>EP (FA key) hs);simp only at this;rw[this];rfl;intro i _ hi;have h1:decide ((i:Int)<256)=true:=decide_eq_true (by omega);simp only[h1,cond_true];rw[uo (by omega),show cK (i:Int)=some (box (i:Int)) from sf (by omega)];simp only[ab];rw[dn rfl hi];simp only[ab];rw[wrap64 (by omega),Int.toNat_natCast,cV (f:=λi:Nat=>box (i:Int)) hi rfl];rfl;(have h1:decide (((256:Nat):Int)<256)=false:=by decide);simp only[h1,cond_false];rw[fy];rfl|false=>simp only[cond_false];have:=wP (key:=key) (iv:=iv) (m:=m) (enc:=λs=>br ⟨(List.range 11).map λr=>(List.range 16).map λj=>(keyF key).getD (16*r+j) 0⟩ s) hiv hm (λs hs=>EO (FA key) hs);simp only at this;rw[this];rfl
theorem Dy {key iv m:List Int} (hk:key.length=16) (hb:aH key) (hiv:iv.length=16) (hm:m.length<2^30):gi key iv m=some (lZ key iv m):=by
 unfold gi
 have hroom:(room:Int)=17179869184:=rfl
 have hroomN:room=17179869184:=rfl
 rw[Dx hk hb]
 simp only[ab]
 have g:mkB 0 (m.length:Int)=true:=by unfold mkB;rw[hroom];simp;omega
 rw[g,cond_true]
 obtain⟨C,hC⟩:∃C,C=ctr iv:=⟨_,rfl⟩
 have hC0:C 0=iv:=by rw[hC];rfl
 have hCS:∀k,C (k+1)=nxt 16 (C k):=by rw[hC];intro k;rfl
 have hCl:∀k,(C k).length=16:=by rw[hC];exact xU hiv
 obtain⟨E,hE⟩:∃E,E=strm key iv:=⟨_,rfl⟩
 have hst:∀k,E k=rdAt (keyR key) (C k) 10:=by rw[hC,hE];intro k;rfl
 have hEl:∀k,(E k).length=16:=λk=>by rw[hst];exact oY _ _ _
 obtain⟨f,hf⟩:∃f:Nat→Int,f=λi=>xorI .u8 (m.getD i 0) ((E (i / 16)).getD (i%16) 0):=⟨_,rfl⟩
 have hms:lZ key iv m=(List.range m.length).map f:=by rw[hf,hE];rfl
 rw[hms]
 rw[aP (λi=>((List.range i).map f,(i:Int),C ((i+15) / 16),bif decide (i=0) then List.replicate 16 (0:Int) else E ((i - 1) / 16))) 0 m.length (r:=(List.range m.length).map f) (by omega) ?_ (cX (by show decide ((m.length:Int)<(m.length:Int))=false;exact decide_eq_false (by omega))) (by rw[←hC0];rfl)]
 · rfl
 · intro i _ hi
   have h1:decide ((i:Int)<(m.length:Int))=true:=decide_eq_true (by omega)
   simp only[h1,cond_true]
   have em:Int.tmod (i:Int) 16=((i%16:Nat):Int):=rfl
   have e1:(bif (Int.tmod (i:Int) 16)==0 then
      (fb (keyF key) (C ((i+15) / 16))).bind λy234=>
      (fc (C ((i+15) / 16))).bind λy236=>
      some (y236,y234)
     else
      some (C ((i+15) / 16),bif decide (i=0) then List.replicate 16 (0:Int) else E ((i - 1) / 16))
      :Option ((List Int)×(List Int)))=some (C ((i+1+15) / 16),E (i / 16)):=by
    have ec:((Int.tmod (i:Int) 16)==0)=(i%16==0):=rh (n:=i%16) (m:=0)
    rw[ec,Du (FY hb) (hCl _),Dv (hCl _)]
    cases hc:(i%16==0) with
    |true=>
     have hc':=beq_iff_eq.1 hc
     have q1:(i+15) / 16=i / 16:=by omega
     have q2:(i+1+15) / 16=i / 16+1:=by omega
     simp only[cond_true,ab]
     rw[q1,q2,hCS,hst]
    |false=>
     have hc':¬i%16=0:=by simpa using hc
     have q1:(i+15) / 16=(i+1+15) / 16:=by omega
     have q2:(i - 1) / 16=i / 16:=by omega
     have d:decide (i=0)=false:=decide_eq_false (by omega)
     simp only[cond_false]
     rw[q1,q2,d,cond_false]
   rw[e1]
   simp only[ab]
   rw[ar (i:=i) rfl hi]
   simp only[ab]
   rw[em,ar (i:=i%16) rfl (by rw[hEl];omega)]
   simp only[ab]
   rw[aR (by rw[hroomN];simp;omega)]
   simp only[ab]
   have d:decide (i+1=0)=false:=decide_eq_false (by omega)
   rw[wrap64 (by omega),d,cond_false,Nat.add_sub_cancel,List.range_succ,List.map_append]
   simp only[List.map_cons,List.map_nil]
   rw[show f i=xorI .u8 (m.getD i 0) ((E (i / 16)).getD (i%16) 0) by rw[hf]];rfl
end Go.Proofs.YtobbmodjdkcdcaaGreatDoor
