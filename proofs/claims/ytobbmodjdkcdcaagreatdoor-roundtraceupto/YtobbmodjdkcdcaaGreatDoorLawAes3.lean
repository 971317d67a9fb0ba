import Derived.Test.YtobbmodjdkcdcaaGreatDoorLawAes2
set_option linter.all false
set_option maxRecDepth 20000
namespace Go.Proofs.YtobbmodjdkcdcaaGreatDoor
open Go Go.Sim
variable [Fu]
def round1 (K:Nat→Nat→Int) (s:List Int) (i:Nat):List Int:=addL (bif decide (i<10) then mxL (shL s) else shL s) (K i)
def rdAt (K:Nat→Nat→Int) (s:List Int):Nat→List Int|0=>addL s (K 0)|i+1=>round1 K (rdAt K s i) (i+1)
theorem oo (K:Nat→Nat→Int) (s:List Int):∀i,(rdAt K s i).length=16|0=>yz _ _|i+1=>yz _ _
theorem qe (K:Nat→Nat→Int) (s:List Int):∀i,aL (rdAt K s i)|0=>tU _ _|i+1=>tU _ _
structure Bj (sc:aS) (K:Nat→Nat→Int):Prop where
 n:sc.keys.length=11
 l:∀r,r<11→(sc.keys.getD r []).length=16
 v:∀r j,r<11→j<16→(sc.keys.getD r []).getD j 0=K r j
structure C0 (k:List Int) (K:Nat→Nat→Int):Prop where
 n:k.length=176
 v:∀r j,r<11→j<16→k.getD (16*r+j) 0=K r j
theorem tX {s:List Int} {k k':Nat→Int} (h:∀j,j<16→k j=k' j):addL s k=addL s k':=by unfold addL;apply G2;intro j hj;rw[h j (GY.1 hj)]
section
variable {sc:aS} {K:Nat→Nat→Int}
theorem qF (hk:Bj sc K) {t:List Int} (ht:t.length=16) {r:Nat} (hr:r<11):cS t (sc.keys.getD r [])=some (addL t (K r)):=by rw[BY ht (hk.l r hr)];congr 1;exact tX λj hj=>hk.v r j hr hj
theorem Ek (hk:Bj sc K) {s:List Int} (hs:s.length=16):bu sc s=some (rdAt K s 10):=by unfold bu;have hn:=hk.n;rw[du (z:=0) (i:=0) [] rfl (by omega)];simp only[ab];rw[qF hk hs (by omega)];simp only[ab];rw[aP (λi=>((i:Int),rdAt K s (i - 1))) 1 11 (r:=rdAt K s 10) (by omega) ?_ (cY rfl) (by rfl)];rfl;intro i hi1 hi;obtain⟨i,rfl⟩:∃k,i=k+1:=⟨i - 1,by omega⟩;(have h1:decide (((i+1:Nat):Int)≤10)=true:=by simp;omega);simp only[h1,FJ,Hz];have hl:=oo K s i;rw[CY hl (qe K s i)];simp only[ab];rw[sB (yF _),tW];simp only[ab];(have e:(bif decide (((i+1:Nat):Int)<10) then(aZ (shL (rdAt K s i))).bind λy190=>some y190 else some (shL (rdAt K s i)):Option (List Int))=some (bif decide (i+1<10) then mxL (shL (rdAt K s i)) else shL (rdAt K s i)):=by rw[qz (pu _) (wi _)];(have:decide (((i+1:Nat):Int)<10)=decide (i+1<10):=by rw[Gk];simp only[FX];omega);rw[this];cases decide (i+1<10)<;>rfl);rw[e,du (z:=((i+1:Nat):Int)) (i:=i+1) [] rfl (by omega)];simp only[ab];rw[qF hk (by cases decide (i+1<10);exact pu _;exact xl _) (by omega)];simp only[ab];rw[wrap64 (by omega)];rfl
theorem El (hk:Bj sc K) {s:List Int} (hs:s.length=16):ba sc s table=some (rdAt K s 10):=by unfold ba;have hn:=hk.n;rw[du (z:=0) (i:=0) [] rfl (by omega)];simp only[ab];rw[qF hk hs (by omega)];simp only[ab];rw[aP (λi=>((i:Int),rdAt K s (i - 1))) 1 11 (r:=rdAt K s 10) (by omega) ?_ (cY rfl) (by rfl)];rfl;intro i hi1 hi;obtain⟨i,rfl⟩:∃k,i=k+1:=⟨i - 1,by omega⟩;(have h1:decide (((i+1:Nat):Int)≤10)=true:=by simp;omega);simp only[h1,FJ,Hz];have hl:=oo K s i;rw[CZ hl (qe K s i)];simp only[ab];rw[sB (yF _),tW];simp only[ab];(have e:(bif decide (((i+1:Nat):Int)<10) then(aZ (shL (rdAt K s i))).bind λy190=>some y190 else some (shL (rdAt K s i)):Option (List Int))=some (bif decide (i+1<10) then mxL (shL (rdAt K s i)) else shL (rdAt K s i)):=by rw[qz (pu _) (wi _)];(have:decide (((i+1:Nat):Int)<10)=decide (i+1<10):=by rw[Gk];simp only[FX];omega);rw[this];cases decide (i+1<10)<;>rfl);rw[e,du (z:=((i+1:Nat):Int)) (i:=i+1) [] rfl (by omega)];simp only[ab];rw[qF hk (by cases decide (i+1<10);exact pu _;exact xl _) (by omega)];simp only[ab];rw[wrap64 (by omega)];rfl
end
theorem Bk {k:List Int} {K:Nat→Nat→Int} (hk:C0 k K) {t:List Int} (ht:t.length=16) {z:Int} {r:Nat} (hz:z=r) (hr:r<11):dK t k z=some (addL t (K r)):=by subst hz;rw[BZ ht hk.n (by omega)];congr 1;exact tX λj hj=>hk.v r j hr hj
theorem C1 {k:List Int} {K:Nat→Nat→Int} (hk:C0 k K) {s:List Int} (hs:s.length=16):eX k s=some (rdAt K s 10):=by unfold eX;rw[Bk hk hs (z:=0) (r:=0) rfl (by omega)];simp only[ab];rw[aP (λi=>((i:Int),rdAt K s (i - 1))) 1 11 (r:=rdAt K s 10) (by omega) ?_ (cY rfl) (by rfl)];rfl;intro i hi1 hi;obtain⟨i,rfl⟩:∃k,i=k+1:=⟨i - 1,by omega⟩;(have h1:decide (((i+1:Nat):Int)≤10)=true:=by simp;omega);simp only[h1,FJ,Hz];have hl:=oo K s i;have hb:=qe K s i;have hsh:shL (rdAt K s i)=(List.range 16).map λj=>box ((rdAt K s i).getD ((j+4*(j%4))%16) 0):=rfl;have hnx:rdAt K s (i+1)=round1 K (rdAt K s i) (i+1):=rfl;rw[hnx];generalize rdAt K s i=t at*;rw[aP (λj=>((j:Int),part1 16 (λj=>box (t.getD ((j+4*(j%4))%16) 0)) (λ_=>0) j)) 0 16 (r:=shL t) (by omega) ?_ ?_ (by rfl)];simp only[ab];(have e:(bif decide (((i+1:Nat):Int)<10) then(eK (shL t)).bind λy190=>some y190 else some (shL t):Option (List Int))=some (bif decide (i+1<10) then mxL (shL t) else shL t):=by rw[B4 (pu _)];(have:decide (((i+1:Nat):Int)<10)=decide (i+1<10):=by rw[Gk];simp only[FX];omega);rw[this];cases decide (i+1<10)<;>rfl);rw[e];simp only[ab];rw[Bk hk (by cases decide (i+1<10);exact pu _;exact xl _) (r:=i+1) rfl (by omega)];simp only[ab];rw[wrap64 (by omega)];rfl;intro j _ hj;(have h2:decide ((j:Int)<16)=true:=by simp;omega);simp only[h2,FJ];have e1:Int.tmod (j:Int) 4=((j%4:Nat):Int):=rfl;rw[e1,wrap64 (x:=4*((j%4:Nat):Int)) (by omega),wrap64 (x:=(j:Int)+4*((j%4:Nat):Int)) (by omega)];(have e2:Int.tmod ((j:Int)+4*((j%4:Nat):Int)) 16=(((j+4*(j%4))%16:Nat):Int):=by (have:(j:Int)+4*((j%4:Nat):Int)=((j+4*(j%4):Nat):Int):=by omega);rw[this];rfl);rw[e2,ar (i:=(j+4*(j%4))%16) rfl (by omega)];simp only[ab];rw[Bi (fi hb _)];simp only[ab];rw[dp rfl hj];simp only[ab];rw[wrap64 (by omega),FP,cV (f:=λj=>box (t.getD ((j+4*(j%4))%16) 0)) hj rfl];rfl;(have h2:decide (((16:Nat):Int)<16)=false:=by decide);simp only[h2,FI];rw[fv];rfl
def nxt:Nat→List Int→List Int|0,s=>s|k+1,s=>bif IntKind.wrap .u8 (s.getD k 0+1) != 0 then List.set s k (IntKind.wrap .u8 (s.getD k 0+1)) else nxt k (List.set s k (IntKind.wrap .u8 (s.getD k 0+1)))
theorem Bl:∀(k:Nat) (s:List Int),(nxt k s).length=s.length|0,s=>rfl|k+1,s=>by unfold nxt;cases IntKind.wrap .u8 (s.getD k 0+1) != 0;rw[FI,Bl k];simp;simp
theorem AF {s:List Int} (hs:s.length=16):ig s=some (nxt 16 s):=by
 unfold ig
 have key:∀(k:Nat) (s:List Int),s.length=16→k≤16→Loop.run (S:=(Int×(List Int))) (R:=(List Int)) (λ(x60,x61)=>
   bif decide (x60≥0) then
    (idx x61 x60).bind λx74=>
    (idx x61 x60).bind λx76=>
    (idx (List.set x61 (Int.toNat x60) (IntKind.wrap .u8 (x74+1))) x60).bind λx78=>
    bif x78 != 0 then
      some (.done (List.set x61 (Int.toNat x60) (IntKind.wrap .u8 (x74+1))))
    else
      some (.next (IntKind.wrap .i64 (x60 - 1),List.set x61 (Int.toNat x60) (IntKind.wrap .u8 (x74+1))))
   else
    some (.done x61)) ((k:Int) - 1,s)=some (nxt k s):=by
  intro k
  induction k with
  |zero=>intro s _ _;exact Jv rfl
  |succ k ih=>
   intro s hs hk
   have h1:decide (((k+1:Nat):Int) - 1≥0)=true:=FK (by omega)
   have hz:((k+1:Nat):Int) - 1=(k:Int):=by omega
   rw[hz] at h1⊢
   have ih':=ih (List.set s k (IntKind.wrap .u8 (s.getD k 0+1))) (by simp[hs]) (by omega)
   cases hc:(IntKind.wrap .u8 (s.getD k 0+1) != 0) with
   |true=>
    refine Jv ?_
    simp only[h1,FJ]
    rw[ar rfl (by omega)]
    simp only[ab,FP]
    rw[ar (i:=k) rfl (by simp;omega)]
    have e:(List.set s k (IntKind.wrap .u8 (s.getD k 0+1))).getD k 0=IntKind.wrap .u8 (s.getD k 0+1):=by simp[hs,show k<16 by omega]
    rw[e]
    simp only[ab,hc,FJ]
    unfold nxt;rw[hc];rfl
   |false=>
    refine(JB (s':=((k:Int) - 1,List.set s k (IntKind.wrap .u8 (s.getD k 0+1)))) ?_).trans ?_
    · simp only[h1,FJ]
      rw[ar rfl (by omega)]
      simp only[ab,FP]
      rw[ar (i:=k) rfl (by simp;omega)]
      have e:(List.set s k (IntKind.wrap .u8 (s.getD k 0+1))).getD k 0=IntKind.wrap .u8 (s.getD k 0+1):=by simp[hs,show k<16 by omega]
      rw[e]
      simp only[ab,hc,FI]
      rw[wrap64 (by omega)]
    · rw[ih']
      conv=>rhs;unfold nxt
      rw[hc];rfl
 have:=key 16 s hs (by omega)
 have e:((16:Nat):Int) - 1=15:=rfl
 rw[e] at this
 rw[this];rfl
theorem C2 {s:List Int} (hs:s.length=16):eY s=some (nxt 16 s):=by
 unfold eY
 have key : ∀ (k : Nat) (s : List Int), s.length = 16 → k ≤ 16 → ∃ r, Loop.run (S := (Int × (List Int))) (R := ((List Int) ⊕ (List Int))) (λ(x60, x61) =>
   bif decide (x60≥0) then
    (idx x61 x60).bind λx74=>
    (idx x61 x60).bind λx76=>
    (idx (List.set x61 (Int.toNat x60) (IntKind.wrap .u8 (x74+1))) x60).bind λx78=>
    bif x78 != 0 then
      some (.done (.inr (List.set x61 (Int.toNat x60) (IntKind.wrap .u8 (x74+1)))))
    else
      some (.next (IntKind.wrap .i64 (x60 - 1),List.set x61 (Int.toNat x60) (IntKind.wrap .u8 (x74+1))))
   else
    some (.done (.inl x61))) ((k:Int) - 1,s)=some r∧(r= .inl (nxt k s)∨r= .inr (nxt k s)):=by
  intro k
  induction k with
  |zero=>intro s _ _;exact⟨_,Jv rfl,.inl rfl⟩
  |succ k ih=>
   intro s hs hk
   have h1:decide (((k+1:Nat):Int) - 1≥0)=true:=FK (by omega)
   have hz:((k+1:Nat):Int) - 1=(k:Int):=by omega
   rw[hz] at h1⊢
   obtain⟨r,ih',hr⟩:=ih (List.set s k (IntKind.wrap .u8 (s.getD k 0+1))) (by simp[hs]) (by omega)
   cases hc:(IntKind.wrap .u8 (s.getD k 0+1) != 0) with
   |true=>
    refine⟨.inr (nxt (k+1) s),Jv ?_,.inr rfl⟩
    simp only[h1,FJ]
    rw[ar rfl (by omega)]
    simp only[ab,FP]
    rw[ar (i:=k) rfl (by simp;omega)]
    have e:(List.set s k (IntKind.wrap .u8 (s.getD k 0+1))).getD k 0=IntKind.wrap .u8 (s.getD k 0+1):=by simp[hs,show k<16 by omega]
    rw[e]
    simp only[ab,hc,FJ]
    unfold nxt;rw[hc];rfl
   |false=>
    refine⟨r,(JB (s':=((k:Int) - 1,List.set s k (IntKind.wrap .u8 (s.getD k 0+1)))) ?_).trans ih',?_⟩
    · simp only[h1,FJ]
      rw[ar rfl (by omega)]
      simp only[ab,FP]
      rw[ar (i:=k) rfl (by simp;omega)]
      have e:(List.set s k (IntKind.wrap .u8 (s.getD k 0+1))).getD k 0=IntKind.wrap .u8 (s.getD k 0+1):=by simp[hs,show k<16 by omega]
      rw[e]
      simp only[ab,hc,FI]
      rw[wrap64 (by omega)]
    · have:nxt (k+1) s=nxt k (List.set s k (IntKind.wrap .u8 (s.getD k 0+1))):=by
       conv=>lhs;unfold nxt
       rw[hc];rfl
      rw[this];exact hr
 obtain⟨r,h,hr⟩:=key 16 s hs (by omega)
 have e:((16:Nat):Int) - 1=15:=rfl
 rw[e] at h
 rw[h]
 rcases hr with rfl|rfl<;>rfl
end Go.Proofs.YtobbmodjdkcdcaaGreatDoor
