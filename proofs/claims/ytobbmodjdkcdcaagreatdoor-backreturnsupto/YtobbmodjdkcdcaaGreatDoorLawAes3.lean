import Derived.Test.YtobbmodjdkcdcaaGreatDoorLawAes2
set_option linter.unusedVariables false
set_option linter.unusedSimpArgs false
set_option maxRecDepth 20000
namespace Go.Proofs.YtobbmodjdkcdcaaGreatDoor
open Go Go.Sim
set_option linter.unusedSectionVars false
variable [Fu]
def round1 (K:Nat→Nat→Int) (s:List Int) (i:Nat):List Int:=addL (bif decide (i<10) then mxL (shL s) else shL s) (K i)
def rdAt (K:Nat→Nat→Int) (s:List Int):Nat→List Int
 |0=>addL s (K 0)
 |i+1=>round1 K (rdAt K s i) (i+1)
theorem mM (K:Nat→Nat→Int) (s:List Int):∀i,(rdAt K s i).length=16
 |0=>ui _ _
 |i+1=>ui _ _
theorem nP (K:Nat→Nat→Int) (s:List Int):∀i,aS (rdAt K s i)
 |0=>qU _ _
 |i+1=>qU _ _
structure wP (sc:aN) (K:Nat→Nat→Int):Prop where
 n:sc.keys.length=11
 l:∀r,r<11→(sc.keys.getD r []).length=16
 v:∀r j,r<11→j<16→(sc.keys.getD r []).getD j 0=K r j
structure yv (k:List Int) (K:Nat→Nat→Int):Prop where
 n:k.length=176
 v:∀r j,r<11→j<16→k.getD (16*r+j) 0=K r j
theorem qW {s:List Int} {k k':Nat→Int} (h:∀j,j<16→k j=k' j):addL s k=addL s k':=by
 unfold addL
 apply List.map_congr_left
 intro j hj;rw[h j (List.mem_range.1 hj)]
section
variable {sc:aN} {K:Nat→Nat→Int}
theorem oK (hk:wP sc K) {t:List Int} (ht:t.length=16) {r:Nat} (hr:r<11):cL t (sc.keys.getD r [])=some (addL t (K r)):=by
 rw[xm ht (hk.l r hr)]
 congr 1;exact qW fun j hj=>hk.v r j hr hj
theorem zY (hk:wP sc K) {s:List Int} (hs:s.length=16):br sc s=some (rdAt K s 10):=by
 unfold br
 have hn:=hk.n
 rw[eQ (z:=0) (i:=0) [] rfl (by omega)]
 simp only[af]
 rw[oK hk hs (by omega)]
 simp only[af]
 rw[aW (fun i=>((i:Int),rdAt K s (i - 1))) 1 11 (r:=rdAt K s 10) (by omega) ?_ (ef rfl) (by rfl)]
 · rfl
 · intro i hi1 hi
   obtain⟨i,rfl⟩:∃k,i=k+1:=⟨i - 1,by omega⟩
   have h1:decide (((i+1:Nat):Int)≤10)=true:=by simp;omega
   simp only[h1,cond_true,Nat.add_sub_cancel]
   have hl:=mM K s i
   rw[yt hl (nP K s i)]
   simp only[af]
   rw[pW (uj _),qV]
   simp only[af]
   have e:(bif decide (((i+1:Nat):Int)<10) then(aZ (shL (rdAt K s i))).bind fun y190=>some y190 else some (shL (rdAt K s i)):Option (List Int))=some (bif decide (i+1<10) then mxL (shL (rdAt K s i)) else shL (rdAt K s i)):=by
    rw[oz (ne _) (so _)]
    have:decide (((i+1:Nat):Int)<10)=decide (i+1<10):=by rw[Bool.eq_iff_iff];simp only[decide_eq_true_eq];omega
    rw[this];cases decide (i+1<10)<;>rfl
   rw[e,eQ (z:=((i+1:Nat):Int)) (i:=i+1) [] rfl (by omega)]
   simp only[af]
   rw[oK hk (by cases decide (i+1<10);exact ne _;exact tq _) (by omega)]
   simp only[af]
   rw[wrap64 (by omega)];rfl
theorem zZ (hk:wP sc K) {s:List Int} (hs:s.length=16):bd sc s table=some (rdAt K s 10):=by
 unfold bd
 have hn:=hk.n
 rw[eQ (z:=0) (i:=0) [] rfl (by omega)]
 simp only[af]
 rw[oK hk hs (by omega)]
 simp only[af]
 rw[aW (fun i=>((i:Int),rdAt K s (i - 1))) 1 11 (r:=rdAt K s 10) (by omega) ?_ (ef rfl) (by rfl)]
 · rfl
 · intro i hi1 hi
   obtain⟨i,rfl⟩:∃k,i=k+1:=⟨i - 1,by omega⟩
   have h1:decide (((i+1:Nat):Int)≤10)=true:=by simp;omega
   simp only[h1,cond_true,Nat.add_sub_cancel]
   have hl:=mM K s i
   rw[yu hl (nP K s i)]
   simp only[af]
   rw[pW (uj _),qV]
   simp only[af]
   have e:(bif decide (((i+1:Nat):Int)<10) then(aZ (shL (rdAt K s i))).bind fun y190=>some y190 else some (shL (rdAt K s i)):Option (List Int))=some (bif decide (i+1<10) then mxL (shL (rdAt K s i)) else shL (rdAt K s i)):=by
    rw[oz (ne _) (so _)]
    have:decide (((i+1:Nat):Int)<10)=decide (i+1<10):=by rw[Bool.eq_iff_iff];simp only[decide_eq_true_eq];omega
    rw[this];cases decide (i+1<10)<;>rfl
   rw[e,eQ (z:=((i+1:Nat):Int)) (i:=i+1) [] rfl (by omega)]
   simp only[af]
   rw[oK hk (by cases decide (i+1<10);exact ne _;exact tq _) (by omega)]
   simp only[af]
   rw[wrap64 (by omega)];rfl
end
theorem wQ {k:List Int} {K:Nat→Nat→Int} (hk:yv k K) {t:List Int} (ht:t.length=16) {z:Int} {r:Nat} (hz:z=r) (hr:r<11):db t k z=some (addL t (K r)):=by
 subst hz
 rw[xn ht hk.n (by omega)]
 congr 1;exact qW fun j hj=>hk.v r j hr hj
theorem yw {k:List Int} {K:Nat→Nat→Int} (hk:yv k K) {s:List Int} (hs:s.length=16):dX k s=some (rdAt K s 10):=by
 unfold dX
 rw[wQ hk hs (z:=0) (r:=0) rfl (by omega)]
 simp only[af]
 rw[aW (fun i=>((i:Int),rdAt K s (i - 1))) 1 11 (r:=rdAt K s 10) (by omega) ?_ (ef rfl) (by rfl)]
 · rfl
 · intro i hi1 hi
   obtain⟨i,rfl⟩:∃k,i=k+1:=⟨i - 1,by omega⟩
   have h1:decide (((i+1:Nat):Int)≤10)=true:=by simp;omega
   simp only[h1,cond_true,Nat.add_sub_cancel]
   have hl:=mM K s i
   have hb:=nP K s i
   have hsh:shL (rdAt K s i)=(List.range 16).map fun j=>box ((rdAt K s i).getD ((j+4*(j%4))%16) 0):=rfl
   have hnx:rdAt K s (i+1)=round1 K (rdAt K s i) (i+1):=rfl
   rw[hnx]
   generalize rdAt K s i=t at*
   rw[aW (fun j=>((j:Int),part1 16 (fun j=>box (t.getD ((j+4*(j%4))%16) 0)) (fun _=>0) j)) 0 16 (r:=shL t) (by omega) ?_ ?_ (by rfl)]
   · simp only[af]
     have e:(bif decide (((i+1:Nat):Int)<10) then(dP (shL t)).bind fun y190=>some y190 else some (shL t):Option (List Int))=some (bif decide (i+1<10) then mxL (shL t) else shL t):=by
      rw[xq (ne _)]
      have:decide (((i+1:Nat):Int)<10)=decide (i+1<10):=by rw[Bool.eq_iff_iff];simp only[decide_eq_true_eq];omega
      rw[this];cases decide (i+1<10)<;>rfl
     rw[e]
     simp only[af]
     rw[wQ hk (by cases decide (i+1<10);exact ne _;exact tq _) (r:=i+1) rfl (by omega)]
     simp only[af]
     rw[wrap64 (by omega)];rfl
   · intro j _ hj
     have h2:decide ((j:Int)<16)=true:=by simp;omega
     simp only[h2,cond_true]
     have e1:Int.tmod (j:Int) 4=((j%4:Nat):Int):=rfl
     rw[e1,wrap64 (x:=4*((j%4:Nat):Int)) (by omega),wrap64 (x:=(j:Int)+4*((j%4:Nat):Int)) (by omega)]
     have e2:Int.tmod ((j:Int)+4*((j%4:Nat):Int)) 16=(((j+4*(j%4))%16:Nat):Int):=by
      have:(j:Int)+4*((j%4:Nat):Int)=((j+4*(j%4):Nat):Int):=by omega
      rw[this];rfl
     rw[e2,ar (i:=(j+4*(j%4))%16) rfl (by omega)]
     simp only[af]
     rw[wO (fP hb _)]
     simp only[af]
     rw[dk rfl hj]
     simp only[af]
     rw[wrap64 (by omega),Int.toNat_natCast,cS (f:=fun j=>box (t.getD ((j+4*(j%4))%16) 0)) hj rfl];rfl
   · have h2:decide (((16:Nat):Int)<16)=false:=by decide
     simp only[h2,cond_false]
     rw[fb];rfl
def nxt:Nat→List Int→List Int
 |0,s=>s
 |k+1,s=>bif IntKind.wrap .u8 (s.getD k 0+1) != 0 then List.set s k (IntKind.wrap .u8 (s.getD k 0+1)) else nxt k (List.set s k (IntKind.wrap .u8 (s.getD k 0+1)))
theorem wR:∀(k:Nat) (s:List Int),(nxt k s).length=s.length
 |0,s=>rfl
 |k+1,s=>by
  unfold nxt
  cases IntKind.wrap .u8 (s.getD k 0+1) != 0
  · rw[cond_false,wR k];simp
  · simp
theorem vT {s:List Int} (hs:s.length=16):f8 s=some (nxt 16 s):=by
 unfold f8
 have key:∀(k:Nat) (s:List Int),s.length=16→k≤16→Loop.run (S:=(Int×(List Int))) (R:=(List Int)) (fun(x60,x61)=>
   bif decide (x60≥0) then
    (idx x61 x60).bind fun x74=>
    (idx x61 x60).bind fun x76=>
    (idx (List.set x61 (Int.toNat x60) (IntKind.wrap .u8 (x74+1))) x60).bind fun x78=>
    bif x78 != 0 then
      some (.done (List.set x61 (Int.toNat x60) (IntKind.wrap .u8 (x74+1))))
    else
      some (.next (IntKind.wrap .i64 (x60 - 1),List.set x61 (Int.toNat x60) (IntKind.wrap .u8 (x74+1))))
   else
    some (.done x61)) ((k:Int) - 1,s)=some (nxt k s):=by
  intro k
  induction k with
  |zero=>intro s _ _;exact Loop.run_done rfl
  |succ k ih=>
   intro s hs hk
   have h1:decide (((k+1:Nat):Int) - 1≥0)=true:=decide_eq_true (by omega)
   have hz:((k+1:Nat):Int) - 1=(k:Int):=by omega
   rw[hz] at h1⊢
   have ih':=ih (List.set s k (IntKind.wrap .u8 (s.getD k 0+1))) (by simp[hs]) (by omega)
   cases hc:(IntKind.wrap .u8 (s.getD k 0+1) != 0) with
   |true=>
    refine Loop.run_done ?_
    simp only[h1,cond_true]
    rw[ar rfl (by omega)]
    simp only[af,Int.toNat_natCast]
    rw[ar (i:=k) rfl (by simp;omega)]
    have e:(List.set s k (IntKind.wrap .u8 (s.getD k 0+1))).getD k 0=IntKind.wrap .u8 (s.getD k 0+1):=by simp[hs,show k<16 by omega]
    rw[e]
    simp only[af,hc,cond_true]
    unfold nxt;rw[hc];rfl
   |false=>
    refine(Loop.run_next (s':=((k:Int) - 1,List.set s k (IntKind.wrap .u8 (s.getD k 0+1)))) ?_).trans ?_
    · simp only[h1,cond_true]
      rw[ar rfl (by omega)]
      simp only[af,Int.toNat_natCast]
      rw[ar (i:=k) rfl (by simp;omega)]
      have e:(List.set s k (IntKind.wrap .u8 (s.getD k 0+1))).getD k 0=IntKind.wrap .u8 (s.getD k 0+1):=by simp[hs,show k<16 by omega]
      rw[e]
      simp only[af,hc,cond_false]
      rw[wrap64 (by omega)]
    · rw[ih']
      conv=>rhs;unfold nxt
      rw[hc];rfl
 have:=key 16 s hs (by omega)
 have e:((16:Nat):Int) - 1=15:=rfl
 rw[e] at this
 rw[this];rfl
theorem yx {s:List Int} (hs:s.length=16):dY s=some (nxt 16 s):=by
 unfold dY
 have key : ∀ (k : Nat) (s : List Int), s.length = 16 → k ≤ 16 → ∃ r, Loop.run (S := (Int × (List Int))) (R := ((List Int) ⊕ (List Int))) (fun (x60, x61) =>
   bif decide (x60≥0) then
    (idx x61 x60).bind fun x74=>
    (idx x61 x60).bind fun x76=>
    (idx (List.set x61 (Int.toNat x60) (IntKind.wrap .u8 (x74+1))) x60).bind fun x78=>
    bif x78 != 0 then
      some (.done (.inr (List.set x61 (Int.toNat x60) (IntKind.wrap .u8 (x74+1)))))
    else
      some (.next (IntKind.wrap .i64 (x60 - 1),List.set x61 (Int.toNat x60) (IntKind.wrap .u8 (x74+1))))
   else
    some (.done (.inl x61))) ((k:Int) - 1,s)=some r∧(r= .inl (nxt k s)∨r= .inr (nxt k s)):=by
  intro k
  induction k with
  |zero=>intro s _ _;exact⟨_,Loop.run_done rfl,.inl rfl⟩
  |succ k ih=>
   intro s hs hk
   have h1:decide (((k+1:Nat):Int) - 1≥0)=true:=decide_eq_true (by omega)
   have hz:((k+1:Nat):Int) - 1=(k:Int):=by omega
   rw[hz] at h1⊢
   obtain⟨r,ih',hr⟩:=ih (List.set s k (IntKind.wrap .u8 (s.getD k 0+1))) (by simp[hs]) (by omega)
   cases hc:(IntKind.wrap .u8 (s.getD k 0+1) != 0) with
   |true=>
    refine⟨.inr (nxt (k+1) s),Loop.run_done ?_,.inr rfl⟩
    simp only[h1,cond_true]
    rw[ar rfl (by omega)]
    simp only[af,Int.toNat_natCast]
    rw[ar (i:=k) rfl (by simp;omega)]
    have e:(List.set s k (IntKind.wrap .u8 (s.getD k 0+1))).getD k 0=IntKind.wrap .u8 (s.getD k 0+1):=by simp[hs,show k<16 by omega]
    rw[e]
    simp only[af,hc,cond_true]
    unfold nxt;rw[hc];rfl
   |false=>
    refine⟨r,(Loop.run_next (s':=((k:Int) - 1,List.set s k (IntKind.wrap .u8 (s.getD k 0+1)))) ?_).trans ih',?_⟩
    · simp only[h1,cond_true]
      rw[ar rfl (by omega)]
      simp only[af,Int.toNat_natCast]
      rw[ar (i:=k) rfl (by simp;omega)]
      have e:(List.set s k (IntKind.wrap .u8 (s.getD k 0+1))).getD k 0=IntKind.wrap .u8 (s.getD k 0+1):=by simp[hs,show k<16 by omega]
      rw[e]
      simp only[af,hc,cond_false]
      rw[wrap64 (by omega)]
    · have:nxt (k+1) s=nxt k (List.set s k (IntKind.wrap .u8 (s.getD k 0+1))):=by
       conv=>lhs;unfold nxt
       rw[hc];rfl
      rw[this];exact hr
 obtain⟨r,h,hr⟩:=key 16 s hs (by omega)
 have e:((16:Nat):Int) - 1=15:=rfl
 rw[e] at h
 rw[h]
 rcases hr with rfl|rfl<;>rfl
end Go.Proofs.YtobbmodjdkcdcaaGreatDoor
