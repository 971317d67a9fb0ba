import Derived.Test.YtobbmodjdkcdcaaGreatDoorLawAes2
set_option linter.all false
set_option maxRecDepth 20000
namespace Go.Proofs.YtobbmodjdkcdcaaGreatDoor
open Go Go.Sim
variable [Fu]
def round1 (K:Nat→Nat→Int) (s:List Int) (i:Nat):List Int:=addL (bif decide (i<10) then mxL (shL s) else shL s) (K i)
def rdAt (K:Nat→Nat→Int) (s:List Int):Nat→List Int|0=>addL s (K 0)|i+1=>round1 K (rdAt K s i) (i+1)
theorem oY (K:Nat→Nat→Int) (s:List Int):∀i,(rdAt K s i).length=16|0=>za _ _|i+1=>za _ _
theorem qx (K:Nat→Nat→Int) (s:List Int):∀i,aH (rdAt K s i)|0=>uj _ _|i+1=>uj _ _
structure BI (sc:aS) (K:Nat→Nat→Int):Prop where
 n:sc.keys.length=11
 l:∀r,r<11→(sc.keys.getD r []).length=16
 v:∀r j,r<11→j<16→(sc.keys.getD r []).getD j 0=K r j
structure Dt (k:List Int) (K:Nat→Nat→Int):Prop where
 n:k.length=176
 v:∀r j,r<11→j<16→k.getD (16*r+j) 0=K r j
theorem ul {s:List Int} {k k':Nat→Int} (h:∀j,j<16→k j=k' j):addL s k=addL s k':=by unfold addL;apply List.map_congr_left;intro j hj;rw[h j (List.mem_range.1 hj)]
section
variable {sc:aS} {K:Nat→Nat→Int}
theorem q9 (hk:BI sc K) {t:List Int} (ht:t.length=16) {r:Nat} (hr:r<11):cS t (sc.keys.getD r [])=some (addL t (K r)):=by rw[Cp ht (hk.l r hr)];congr 1;exact ul λj hj=>hk.v r j hr hj
theorem EO (hk:BI sc K) {s:List Int} (hs:s.length=16):br sc s=some (rdAt K s 10):=by unfold br;have hn:=hk.n;rw[du (z:=0) (i:=0) [] rfl (by omega)];simp only[ab];rw[q9 hk hs (by omega)];simp only[ab];rw[aP (λi=>((i:Int),rdAt K s (i - 1))) 1 11 (r:=rdAt K s 10) (by omega) ?_ (cX rfl) (by rfl)];rfl;intro i hi1 hi;obtain⟨i,rfl⟩:∃k,i=k+1:=⟨i - 1,by omega⟩;(have h1:decide (((i+1:Nat):Int)≤10)=true:=by simp;omega);simp only[h1,cond_true,Nat.add_sub_cancel];have hl:=oY K s i;rw[Dr hl (qx K s i)];simp only[ab];rw[sQ (zb _),uk];simp only[ab];(have e:(bif decide (((i+1:Nat):Int)<10) then(aY (shL (rdAt K s i))).bind λy190=>some y190 else some (shL (rdAt K s i)):Option (List Int))=some (bif decide (i+1<10) then mxL (shL (rdAt K s i)) else shL (rdAt K s i)):=by rw[qZ (pX _) (wO _)];(have:decide (((i+1:Nat):Int)<10)=decide (i+1<10):=by rw[Bool.eq_iff_iff];simp only[decide_eq_true_eq];omega);rw[this];cases decide (i+1<10)<;>rfl);rw[e,du (z:=((i+1:Nat):Int)) (i:=i+1) [] rfl (by omega)];simp only[ab];rw[q9 hk (by cases decide (i+1<10);exact pX _;exact xS _) (by omega)];simp only[ab];rw[wrap64 (by omega)];rfl
theorem EP (hk:BI sc K) {s:List Int} (hs:s.length=16):a8 sc s table=some (rdAt K s 10):=by unfold a8;have hn:=hk.n;rw[du (z:=0) (i:=0) [] rfl (by omega)];simp only[ab];rw[q9 hk hs (by omega)];simp only[ab];rw[aP (λi=>((i:Int),rdAt K s (i - 1))) 1 11 (r:=rdAt K s 10) (by omega) ?_ (cX rfl) (by rfl)];rfl;intro i hi1 hi;obtain⟨i,rfl⟩:∃k,i=k+1:=⟨i - 1,by omega⟩;(have h1:decide (((i+1:Nat):Int)≤10)=true:=by simp;omega);simp only[h1,cond_true,Nat.add_sub_cancel];have hl:=oY K s i;rw[Ds hl (qx K s i)];simp only[ab];rw[sQ (zb _),uk];simp only[ab];(have e:(bif decide (((i+1:Nat):Int)<10) then(aY (shL (rdAt K s i))).bind λy190=>some y190 else some (shL (rdAt K s i)):Option (List Int))=some (bif decide (i+1<10) then mxL (shL (rdAt K s i)) else shL (rdAt K s i)):=by rw[qZ (pX _) (wO _)];(have:decide (((i+1:Nat):Int)<10)=decide (i+1<10):=by rw[Bool.eq_iff_iff];simp only[decide_eq_true_eq];omega);rw[this];cases decide (i+1<10)<;>rfl);rw[e,du (z:=((i+1:Nat):Int)) (i:=i+1) [] rfl (by omega)];simp only[ab];rw[q9 hk (by cases decide (i+1<10);exact pX _;exact xS _) (by omega)];simp only[ab];rw[wrap64 (by omega)];rfl
end
theorem BJ {k:List Int} {K:Nat→Nat→Int} (hk:Dt k K) {t:List Int} (ht:t.length=16) {z:Int} {r:Nat} (hz:z=r) (hr:r<11):dM t k z=some (addL t (K r)):=by subst hz;rw[Cq ht hk.n (by omega)];congr 1;exact ul λj hj=>hk.v r j hr hj
theorem Du {k:List Int} {K:Nat→Nat→Int} (hk:Dt k K) {s:List Int} (hs:s.length=16):fb k s=some (rdAt K s 10):=by unfold fb;rw[BJ hk hs (z:=0) (r:=0) rfl (by omega)];simp only[ab];rw[aP (λi=>((i:Int),rdAt K s (i - 1))) 1 11 (r:=rdAt K s 10) (by omega) ?_ (cX rfl) (by rfl)];rfl;intro i hi1 hi;obtain⟨i,rfl⟩:∃k,i=k+1:=⟨i - 1,by omega⟩;(have h1:decide (((i+1:Nat):Int)≤10)=true:=by simp;omega);simp only[h1,cond_true,Nat.add_sub_cancel];have hl:=oY K s i;have hb:=qx K s i;have hsh:shL (rdAt K s i)=(List.range 16).map λj=>box ((rdAt K s i).getD ((j+4*(j%4))%16) 0):=rfl;have hnx:rdAt K s (i+1)=round1 K (rdAt K s i) (i+1):=rfl;rw[hnx];generalize rdAt K s i=t at*;rw[aP (λj=>((j:Int),part1 16 (λj=>box (t.getD ((j+4*(j%4))%16) 0)) (λ_=>0) j)) 0 16 (r:=shL t) (by omega) ?_ ?_ (by rfl)];simp only[ab];(have e:(bif decide (((i+1:Nat):Int)<10) then(eP (shL t)).bind λy190=>some y190 else some (shL t):Option (List Int))=some (bif decide (i+1<10) then mxL (shL t) else shL t):=by rw[Ct (pX _)];(have:decide (((i+1:Nat):Int)<10)=decide (i+1<10):=by rw[Bool.eq_iff_iff];simp only[decide_eq_true_eq];omega);rw[this];cases decide (i+1<10)<;>rfl);rw[e];simp only[ab];rw[BJ hk (by cases decide (i+1<10);exact pX _;exact xS _) (r:=i+1) rfl (by omega)];simp only[ab];rw[wrap64 (by omega)];rfl;intro j _ hj;(have h2:decide ((j:Int)<16)=true:=by simp;omega);simp only[h2,cond_true];have e1:Int.tmod (j:Int) 4=((j%4:Nat):Int):=rfl;rw[e1,wrap64 (x:=4*((j%4:Nat):Int)) (by omega),wrap64 (x:=(j:Int)+4*((j%4:Nat):Int)) (by omega)];(have e2:Int.tmod ((j:Int)+4*((j%4:Nat):Int)) 16=(((j+4*(j%4))%16:Nat):Int):=by (have:(j:Int)+4*((j%4:Nat):Int)=((j+4*(j%4):Nat):Int):=by omega);rw[this];rfl);rw[e2,ar (i:=(j+4*(j%4))%16) rfl (by omega)];simp only[ab];rw[BH (fo hb _)];simp only[ab];rw[dn rfl hj];simp only[ab];rw[wrap64 (by omega),Int.toNat_natCast,cV (f:=λj=>box (t.getD ((j+4*(j%4))%16) 0)) hj rfl];rfl;(have h2:decide (((16:Nat):Int)<16)=false:=by decide);simp only[h2,cond_false];rw[fy];rfl
def nxt:Nat→List Int→List Int|0,s=>s|k+1,s=>bif IntKind.wrap .u8 (s.getD k 0+1) != 0 then List.set s k (IntKind.wrap .u8 (s.getD k 0+1)) else nxt k (List.set s k (IntKind.wrap .u8 (s.getD k 0+1)))
theorem BK:∀(k:Nat) (s:List Int),(nxt k s).length=s.length|0,s=>rfl|k+1,s=>by unfold nxt;cases IntKind.wrap .u8 (s.getD k 0+1) != 0;rw[cond_false,BK k];simp;simp
theorem AZ {s:List Int} (hs:s.length=16):iq s=some (nxt 16 s):=by
 unfold iq
 have key:∀(k:Nat) (s:List Int),s.length=16→k≤16→Loop.run (S:=(Int×(List Int))) (R:=(List Int)) (λ(x60,x61)=>
   bif decide (x60≥0) then
    (idx x61 x60).bind λx74=>
    (idx x61 x60).bind λx76=>
    (idx (List.set x61 (Int.toNat x60) (IntKind.wrap .u8 (x74+1))) x60).bind λx78=>
    bif x78 != 0 then
      some (.done (List.set x61 (Int.toNat x60) (IntKind.wrap .u8 (x74+1))))
    else
      some (.next (IntKind.wrap .i64 (x60 - 1),List.set x61 (Int.toNat x60) (IntKind.wrap .u8 (x74+1))))
   else
    some (.done x61)) ((k:Int) - 1,s)=some (nxt k s):=by
  intro k
  induction k with
  |zero=>intro s _ _;exact Loop.run_done rfl
  |succ k ih=>
   intro s hs hk
   have h1:decide (((k+1:Nat):Int) - 1≥0)=true:=decide_eq_true (by omega)
   have hz:((k+1:Nat):Int) - 1=(k:Int):=by omega
   rw[hz] at h1⊢
   have ih':=ih (List.set s k (IntKind.wrap .u8 (s.getD k 0+1))) (by simp[hs]) (by omega)
   cases hc:(IntKind.wrap .u8 (s.getD k 0+1) != 0) with
   |true=>
    refine Loop.run_done ?_
    simp only[h1,cond_true]
    rw[ar rfl (by omega)]
    simp only[ab,Int.toNat_natCast]
    rw[ar (i:=k) rfl (by simp;omega)]
    have e:(List.set s k (IntKind.wrap .u8 (s.getD k 0+1))).getD k 0=IntKind.wrap .u8 (s.getD k 0+1):=by simp[hs,show k<16 by omega]
    rw[e]
    simp only[ab,hc,cond_true]
    unfold nxt;rw[hc];rfl
   |false=>
    refine(Loop.run_next (s':=((k:Int) - 1,List.set s k (IntKind.wrap .u8 (s.getD k 0+1)))) ?_).trans ?_
    · simp only[h1,cond_true]
      rw[ar rfl (by omega)]
      simp only[ab,Int.toNat_natCast]
      rw[ar (i:=k) rfl (by simp;omega)]
      have e:(List.set s k (IntKind.wrap .u8 (s.getD k 0+1))).getD k 0=IntKind.wrap .u8 (s.getD k 0+1):=by simp[hs,show k<16 by omega]
      rw[e]
      simp only[ab,hc,cond_false]
      rw[wrap64 (by omega)]
    · rw[ih']
      conv=>rhs;unfold nxt
      rw[hc];rfl
 have:=key 16 s hs (by omega)
 have e:((16:Nat):Int) - 1=15:=rfl
 rw[e] at this
 rw[this];rfl
theorem Dv {s:List Int} (hs:s.length=16):fc s=some (nxt 16 s):=by
 unfold fc
 have key : ∀ (k : Nat) (s : List Int), s.length = 16 → k ≤ 16 → ∃ r, Loop.run (S := (Int × (List Int))) (R := ((List Int) ⊕ (List Int))) (λ(x60, x61) =>
   bif decide (x60≥0) then
    (idx x61 x60).bind λx74=>
    (idx x61 x60).bind λx76=>
    (idx (List.set x61 (Int.toNat x60) (IntKind.wrap .u8 (x74+1))) x60).bind λx78=>
    bif x78 != 0 then
      some (.done (.inr (List.set x61 (Int.toNat x60) (IntKind.wrap .u8 (x74+1)))))
    else
      some (.next (IntKind.wrap .i64 (x60 - 1),List.set x61 (Int.toNat x60) (IntKind.wrap .u8 (x74+1))))
   else
    some (.done (.inl x61))) ((k:Int) - 1,s)=some r∧(r= .inl (nxt k s)∨r= .inr (nxt k s)):=by
  intro k
  induction k with
  |zero=>intro s _ _;exact⟨_,Loop.run_done rfl,.inl rfl⟩
  |succ k ih=>
   intro s hs hk
   have h1:decide (((k+1:Nat):Int) - 1≥0)=true:=decide_eq_true (by omega)
   have hz:((k+1:Nat):Int) - 1=(k:Int):=by omega
   rw[hz] at h1⊢
   obtain⟨r,ih',hr⟩:=ih (List.set s k (IntKind.wrap .u8 (s.getD k 0+1))) (by simp[hs]) (by omega)
   cases hc:(IntKind.wrap .u8 (s.getD k 0+1) != 0) with
   |true=>
    refine⟨.inr (nxt (k+1) s),Loop.run_done ?_,.inr rfl⟩
    simp only[h1,cond_true]
    rw[ar rfl (by omega)]
    simp only[ab,Int.toNat_natCast]
    rw[ar (i:=k) rfl (by simp;omega)]
    have e:(List.set s k (IntKind.wrap .u8 (s.getD k 0+1))).getD k 0=IntKind.wrap .u8 (s.getD k 0+1):=by simp[hs,show k<16 by omega]
    rw[e]
    simp only[ab,hc,cond_true]
    unfold nxt;rw[hc];rfl
   |false=>
    refine⟨r,(Loop.run_next (s':=((k:Int) - 1,List.set s k (IntKind.wrap .u8 (s.getD k 0+1)))) ?_).trans ih',?_⟩
    · simp only[h1,cond_true]
      rw[ar rfl (by omega)]
      simp only[ab,Int.toNat_natCast]
      rw[ar (i:=k) rfl (by simp;omega)]
      have e:(List.set s k (IntKind.wrap .u8 (s.getD k 0+1))).getD k 0=IntKind.wrap .u8 (s.getD k 0+1):=by simp[hs,show k<16 by omega]
      rw[e]
      simp only[ab,hc,cond_false]
      rw[wrap64 (by omega)]
    · have:nxt (k+1) s=nxt k (List.set s k (IntKind.wrap .u8 (s.getD k 0+1))):=by
       conv=>lhs;unfold nxt
       rw[hc];rfl
      rw[this];exact hr
 obtain⟨r,h,hr⟩:=key 16 s hs (by omega)
 have e:((16:Nat):Int) - 1=15:=rfl
 rw[e] at h
 rw[h]
 rcases hr with rfl|rfl<;>rfl
end Go.Proofs.YtobbmodjdkcdcaaGreatDoor
