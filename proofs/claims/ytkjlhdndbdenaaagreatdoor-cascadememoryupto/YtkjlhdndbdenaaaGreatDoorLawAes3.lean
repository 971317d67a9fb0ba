import Derived.Test.YtkjlhdndbdenaaaGreatDoorLawAes2
set_option autoImplicit true
set_option relaxedAutoImplicit true
set_option linter.all false
set_option maxRecDepth 20000
namespace Go.Proofs.YtkjlhdndbdenaaaGreatDoor
open Go Go.Sim
open Go.IntKind (wrap)
variable [Fu]
def zL (K:Nat→Nat→Int) (s:List Int) (i:Nat):List Int:=pC (bif decide (i<10) then C3 (tG s) else tG s) (K i)
def eK (K:Nat→Nat→Int) (s:List Int):Nat→List Int|0=>pC s (K 0)|i+1=>zL K (eK K s i) (i+1)
theorem ja (K:Nat→Nat→Int) (s:List Int):∀i,(eK K s i).length=16|0=>ow _ _|i+1=>ow _ _
theorem jD (K:Nat→Nat→Int) (s:List Int):∀i,aT (eK K s i)|0=>lC _ _|i+1=>lC _ _
structure qV (sc:aN) (K:Nat→Nat→Int):Prop where
 n:sc.keys.length=11
 l:∀r,r<11→(sc.keys.getD r []).length=16
 v:∀r j,r<11→j<16→(sc.keys.getD r []).getD j 0=K r j
structure sM (k:List Int) (K:Nat→Nat→Int):Prop where
 n:k.length=176
 v:∀r j,r<11→j<16→k.getD (16*r+j) 0=K r j
theorem lE {s:List Int} {k k':Nat→Int} (h:∀j,j<16→k j=k' j):pC s k=pC s k':=by unfold pC;apply xm;intro j a;rw[h j (xy.1 a)]
section
variable {sc:aN} {K:Nat→Nat→Int}
theorem jU (a:qV b K) {t:List Int} (ht:t.length=16) {r:Nat} (c:r<11):bW t (b.keys.getD r [])=some (pC t (K r)):=by rw[ry ht (a.l r c)];congr 1;exact lE λj b=>a.v r j c b
theorem ur (c:qV a K) {s:List Int} (b:s.length=16):ba a s=some (eK K s 10):=by unfold ba;have a:=c.n;rw[fK (z:=0) (i:=0) [] rfl (by omega)];simp only[aC];rw[jU c b (by omega)];simp only[aC];rw[aQ (λi=>((i:Int),eK K s (i - 1))) 1 11 (r:=eK K s 10) (by omega) ?_ (dp rfl) (by rfl)];rfl;intro i b a;obtain⟨i,rfl⟩:∃k,i=k+1:=⟨i - 1,by omega⟩;(have a:decide (((i+1:Nat):Int)≤10)=true:=by simp;omega);simp only[a,wd,yf];have a:=ja K s i;rw[sK a (jD K s i)];simp only[aC];rw[kP (ox _),lD];simp only[aC];(have e:(bif decide (((i+1:Nat):Int)<10) then(aR (tG (eK K s i))).bind λa=>some a else some (tG (eK K s i)):Option (List Int))=some (bif decide (i+1<10) then C3 (tG (eK K s i)) else tG (eK K s i)):=by rw[jT (ju _) (mM _)];(have:decide (((i+1:Nat):Int)<10)=decide (i+1<10):=by rw[wY];simp only[wz];omega);rw[this];cases decide (i+1<10)<;>rfl);rw[e,fK (z:=((i+1:Nat):Int)) (i:=i+1) [] rfl (by omega)];simp only[aC];rw[jU c (by cases decide (i+1<10);exact ju _;exact nv _) (by omega)];simp only[aC];rw[bA (by omega)];rfl
theorem ut (c:qV a K) {s:List Int} (b:s.length=16):aS a s pI=some (eK K s 10):=by unfold aS;have a:=c.n;rw[fK (z:=0) (i:=0) [] rfl (by omega)];simp only[aC];rw[jU c b (by omega)];simp only[aC];rw[aQ (λi=>((i:Int),eK K s (i - 1))) 1 11 (r:=eK K s 10) (by omega) ?_ (dp rfl) (by rfl)];rfl;intro i b a;obtain⟨i,rfl⟩:∃k,i=k+1:=⟨i - 1,by omega⟩;(have a:decide (((i+1:Nat):Int)≤10)=true:=by simp;omega);simp only[a,wd,yf];have a:=ja K s i;rw[sL a (jD K s i)];simp only[aC];rw[kP (ox _),lD];simp only[aC];(have e:(bif decide (((i+1:Nat):Int)<10) then(aR (tG (eK K s i))).bind λa=>some a else some (tG (eK K s i)):Option (List Int))=some (bif decide (i+1<10) then C3 (tG (eK K s i)) else tG (eK K s i)):=by rw[jT (ju _) (mM _)];(have:decide (((i+1:Nat):Int)<10)=decide (i+1<10):=by rw[wY];simp only[wz];omega);rw[this];cases decide (i+1<10)<;>rfl);rw[e,fK (z:=((i+1:Nat):Int)) (i:=i+1) [] rfl (by omega)];simp only[aC];rw[jU c (by cases decide (i+1<10);exact ju _;exact nv _) (by omega)];simp only[aC];rw[bA (by omega)];rfl
end
theorem qW {k:List Int} {K:Nat→Nat→Int} (a:sM k K) {t:List Int} (ht:t.length=16) {z:Int} {r:Nat} (b:z=r) (c:r<11):cn t k z=some (pC t (K r)):=by subst b;rw[rz ht a.n (by omega)];congr 1;exact lE λj b=>a.v r j c b
theorem sN {k:List Int} {K:Nat→Nat→Int} (f:sM k K) {s:List Int} (a:s.length=16):dg k s=some (eK K s 10):=by unfold dg;rw[qW f a (z:=0) (r:=0) rfl (by omega)];simp only[aC];rw[aQ (λi=>((i:Int),eK K s (i - 1))) 1 11 (r:=eK K s 10) (by omega) ?_ (dp rfl) (by rfl)];rfl;intro i c a;obtain⟨i,rfl⟩:∃k,i=k+1:=⟨i - 1,by omega⟩;(have a:decide (((i+1:Nat):Int)≤10)=true:=by simp;omega);simp only[a,wd,yf];have a:=ja K s i;have c:=jD K s i;have d:tG (eK K s i)=(List.range 16).map λj=>box ((eK K s i).getD ((j+4*(j%4))%16) 0):=rfl;have b:eK K s (i+1)=zL K (eK K s i) (i+1):=rfl;rw[b];generalize eK K s i=t at*;rw[aQ (λj=>((j:Int),co 16 (λj=>box (t.getD ((j+4*(j%4))%16) 0)) (λ_=>0) j)) 0 16 (r:=tG t) (by omega) ?_ ?_ (by rfl)];simp only[aC];(have e:(bif decide (((i+1:Nat):Int)<10) then(cX (tG t)).bind λa=>some a else some (tG t):Option (List Int))=some (bif decide (i+1<10) then C3 (tG t) else tG t):=by rw[rM (ju _)];(have:decide (((i+1:Nat):Int)<10)=decide (i+1<10):=by rw[wY];simp only[wz];omega);rw[this];cases decide (i+1<10)<;>rfl);rw[e];simp only[aC];rw[qW f (by cases decide (i+1<10);exact ju _;exact nv _) (r:=i+1) rfl (by omega)];simp only[aC];rw[bA (by omega)];rfl;intro j _ a;(have b:decide ((j:Int)<16)=true:=by simp;omega);simp only[b,wd];have d:Int.tmod (j:Int) 4=((j%4:Nat):Int):=rfl;rw[d,bA (x:=4*((j%4:Nat):Int)) (by omega),bA (x:=(j:Int)+4*((j%4:Nat):Int)) (by omega)];(have d:Int.tmod ((j:Int)+4*((j%4:Nat):Int)) 16=(((j+4*(j%4))%16:Nat):Int):=by (have:(j:Int)+4*((j%4:Nat):Int)=((j+4*(j%4):Nat):Int):=by omega);rw[this];rfl);rw[d,aI (i:=(j+4*(j%4))%16) rfl (by omega)];simp only[aC];rw[qU (fe c _)];simp only[aC];rw[cN rfl a];simp only[aC];rw[bA (by omega),wl,ck (f:=λj=>box (t.getD ((j+4*(j%4))%16) 0)) a rfl];rfl;(have b:decide (((16:Nat):Int)<16)=false:=by decide);simp only[b,wc];rw[ef];rfl
def vJ:Nat→List Int→List Int|0,s=>s|k+1,s=>bif wrap .u8 (s.getD k 0+1) != 0 then List.set s k (wrap .u8 (s.getD k 0+1)) else vJ k (List.set s k (wrap .u8 (s.getD k 0+1)))
theorem qX:∀(k:Nat) (s:List Int),(vJ k s).length=s.length|0,s=>rfl|k+1,s=>by unfold vJ;cases wrap .u8 (s.getD k 0+1) != 0;rw[wc,qX k];simp;simp
theorem qk {s:List Int} (a:s.length=16):eU s=some (vJ 16 s):=by
 unfold eU
 have b:∀(k:Nat) (s:List Int),s.length=16→k≤16→Loop.run (S:=(Int×(List Int))) (R:=(List Int)) (λ(c,d)=>
   bif decide (c≥0) then
    (idx d c).bind λe=>
    (idx d c).bind λf=>
    (idx (List.set d (Int.toNat c) (wrap .u8 (e+1))) c).bind λf=>
    bif f != 0 then
      some (.done (List.set d (Int.toNat c) (wrap .u8 (e+1))))
    else
      some (.next (wrap .i64 (c - 1),List.set d (Int.toNat c) (wrap .u8 (e+1))))
   else
    some (.done d)) ((k:Int) - 1,s)=some (vJ k s):=by
  intro k
  induction k with
  |zero=>intro s _ _;exact zO rfl
  |succ k c=>
   intro s a d
   have d:decide (((k+1:Nat):Int) - 1≥0)=true:=wg (by omega)
   have e:((k+1:Nat):Int) - 1=(k:Int):=by omega
   rw[e] at d⊢
   have f:=c (List.set s k (wrap .u8 (s.getD k 0+1))) (by simp[a]) (by omega)
   cases c:(wrap .u8 (s.getD k 0+1) != 0) with
   |true=>
    refine zO ?_
    simp only[d,wd]
    rw[aI rfl (by omega)]
    simp only[aC,wl]
    rw[aI (i:=k) rfl (by simp;omega)]
    have e:(List.set s k (wrap .u8 (s.getD k 0+1))).getD k 0=wrap .u8 (s.getD k 0+1):=by simp[a,show k<16 by omega]
    rw[e]
    simp only[aC,c,wd]
    unfold vJ;rw[c];rfl
   |false=>
    refine(zV (s':=((k:Int) - 1,List.set s k (wrap .u8 (s.getD k 0+1)))) ?_).trans ?_
    · simp only[d,wd]
      rw[aI rfl (by omega)]
      simp only[aC,wl]
      rw[aI (i:=k) rfl (by simp;omega)]
      have e:(List.set s k (wrap .u8 (s.getD k 0+1))).getD k 0=wrap .u8 (s.getD k 0+1):=by simp[a,show k<16 by omega]
      rw[e]
      simp only[aC,c,wc]
      rw[bA (by omega)]
    · rw[f]
      conv=>rhs;unfold vJ
      rw[c];rfl
 have:=b 16 s a (by omega)
 have e:((16:Nat):Int) - 1=15:=rfl
 rw[e] at this
 rw[this];rfl
theorem sO {s:List Int} (a:s.length=16):dh s=some (vJ 16 s):=by
 unfold dh
 have b : ∀ (k : Nat) (s : List Int), s.length = 16 → k ≤ 16 → ∃ r, Loop.run (S := (Int × (List Int))) (R := ((List Int) ⊕ (List Int))) (λ(c, d) =>
   bif decide (c≥0) then
    (idx d c).bind λe=>
    (idx d c).bind λf=>
    (idx (List.set d (Int.toNat c) (wrap .u8 (e+1))) c).bind λf=>
    bif f != 0 then
      some (.done (.inr (List.set d (Int.toNat c) (wrap .u8 (e+1)))))
    else
      some (.next (wrap .i64 (c - 1),List.set d (Int.toNat c) (wrap .u8 (e+1))))
   else
    some (.done (.inl d))) ((k:Int) - 1,s)=some r∧(r= .inl (vJ k s)∨r= .inr (vJ k s)):=by
  intro k
  induction k with
  |zero=>intro s _ _;exact⟨_,zO rfl,.inl rfl⟩
  |succ k c=>
   intro s a d
   have d:decide (((k+1:Nat):Int) - 1≥0)=true:=wg (by omega)
   have e:((k+1:Nat):Int) - 1=(k:Int):=by omega
   rw[e] at d⊢
   obtain⟨r,f,i⟩:=c (List.set s k (wrap .u8 (s.getD k 0+1))) (by simp[a]) (by omega)
   cases c:(wrap .u8 (s.getD k 0+1) != 0) with
   |true=>
    refine⟨.inr (vJ (k+1) s),zO ?_,.inr rfl⟩
    simp only[d,wd]
    rw[aI rfl (by omega)]
    simp only[aC,wl]
    rw[aI (i:=k) rfl (by simp;omega)]
    have e:(List.set s k (wrap .u8 (s.getD k 0+1))).getD k 0=wrap .u8 (s.getD k 0+1):=by simp[a,show k<16 by omega]
    rw[e]
    simp only[aC,c,wd]
    unfold vJ;rw[c];rfl
   |false=>
    refine⟨r,(zV (s':=((k:Int) - 1,List.set s k (wrap .u8 (s.getD k 0+1)))) ?_).trans f,?_⟩
    · simp only[d,wd]
      rw[aI rfl (by omega)]
      simp only[aC,wl]
      rw[aI (i:=k) rfl (by simp;omega)]
      have e:(List.set s k (wrap .u8 (s.getD k 0+1))).getD k 0=wrap .u8 (s.getD k 0+1):=by simp[a,show k<16 by omega]
      rw[e]
      simp only[aC,c,wc]
      rw[bA (by omega)]
    · have:vJ (k+1) s=vJ k (List.set s k (wrap .u8 (s.getD k 0+1))):=by
       conv=>lhs;unfold vJ
       rw[c];rfl
      rw[this];exact i
 obtain⟨r,h,i⟩:=b 16 s a (by omega)
 have e:((16:Nat):Int) - 1=15:=rfl
 rw[e] at h
 rw[h]
 rcases i with rfl|rfl<;>rfl
end Go.Proofs.YtkjlhdndbdenaaaGreatDoor
