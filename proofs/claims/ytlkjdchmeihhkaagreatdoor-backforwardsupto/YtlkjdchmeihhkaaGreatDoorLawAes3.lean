import Derived.Test.YtlkjdchmeihhkaaGreatDoorLawAes2
set_option autoImplicit true
set_option relaxedAutoImplicit true
set_option linter.all false
set_option maxRecDepth 20000
namespace Go.Proofs.YtlkjdchmeihhkaaGreatDoor
open Go Go.Sim
open Go.IntKind (wrap)
variable [Fu]
def Ts (K:Nat→Nat→Int) (s:List Int) (i:Nat):List Int:=PX (bif decide (i<10) then T4 (Q2 s) else Q2 s) (K i)
def oJ (K:Nat→Nat→Int) (s:List Int):Nat→List Int|0=>PX s (K 0)|i+1=>Ts K (oJ K s i) (i+1)
theorem rK (K:Nat→Nat→Int) (s:List Int):∀i,(oJ K s i).length=16|0=>BI _ _|i+1=>BI _ _
theorem tv (K:Nat→Nat→Int) (s:List Int):∀i,aV (oJ K s i)|0=>xv _ _|i+1=>xv _ _
structure DY (sc:bK) (K:Nat→Nat→Int):Prop where
 n:sc.keys.length=11
 l:∀r,r<11→(sc.keys.getD r []).length=16
 v:∀r j,r<11→j<16→(sc.keys.getD r []).getD j 0=K r j
structure FN (k:List Int) (K:Nat→Nat→Int):Prop where
 n:k.length=176
 v:∀r j,r<11→j<16→k.getD (16*r+j) 0=K r j
theorem xx {s:List Int} {k k':Nat→Int} (h:∀j,j<16→k j=k' j):PX s k=PX s k':=by unfold PX;apply JH;intro j a;rw[h j (JY.1 a)]
section
variable {sc:bK} {K:Nat→Nat→Int}
theorem uw (a:DY b K) {t:List Int} (ht:t.length=16) {r:Nat} (c:r<11):dP t (b.keys.getD r [])=some (PX t (K r)):=by rw[Ez ht (a.l r c)];congr 1;exact xx λj b=>a.v r j c b
theorem He (c:DY a K) {s:List Int} (b:s.length=16):cq a s=some (oJ K s 10):=by unfold cq;have a:=c.n;rw[dk (z:=0) (i:=0) [] rfl (by omega)];simp only[aB];rw[uw c b (by omega)];simp only[aB];rw[aY (λi=>((i:Int),oJ K s (i - 1))) 1 11 (r:=oJ K s 10) (by omega) ?_ (dS rfl) (by rfl)];rfl;intro i b a;obtain⟨i,rfl⟩:∃k,i=k+1:=⟨i - 1,by omega⟩;(have a:decide (((i+1:Nat):Int)≤10)=true:=by simp;omega);simp only[a,Im,Ko];have a:=rK K s i;rw[FL a (tv K s i)];simp only[aB];rw[wk (BJ _),xw];simp only[aB];(have e:(bif decide (((i+1:Nat):Int)<10) then(bV (Q2 (oJ K s i))).bind λa=>some a else some (Q2 (oJ K s i)):Option (List Int))=some (bif decide (i+1<10) then T4 (Q2 (oJ K s i)) else Q2 (oJ K s i)):=by rw[uv (sK _) (zM _)];(have:decide (((i+1:Nat):Int)<10)=decide (i+1<10):=by rw[Ja];simp only[IB];omega);rw[this];cases decide (i+1<10)<;>rfl);rw[e,dk (z:=((i+1:Nat):Int)) (i:=i+1) [] rfl (by omega)];simp only[aB];rw[uw c (by cases decide (i+1<10);exact sK _;exact A3 _) (by omega)];simp only[aB];rw[wrap64 (by omega)];rfl
theorem Hf (c:DY a K) {s:List Int} (b:s.length=16):bY a s PS=some (oJ K s 10):=by unfold bY;have a:=c.n;rw[dk (z:=0) (i:=0) [] rfl (by omega)];simp only[aB];rw[uw c b (by omega)];simp only[aB];rw[aY (λi=>((i:Int),oJ K s (i - 1))) 1 11 (r:=oJ K s 10) (by omega) ?_ (dS rfl) (by rfl)];rfl;intro i b a;obtain⟨i,rfl⟩:∃k,i=k+1:=⟨i - 1,by omega⟩;(have a:decide (((i+1:Nat):Int)≤10)=true:=by simp;omega);simp only[a,Im,Ko];have a:=rK K s i;rw[FM a (tv K s i)];simp only[aB];rw[wk (BJ _),xw];simp only[aB];(have e:(bif decide (((i+1:Nat):Int)<10) then(bV (Q2 (oJ K s i))).bind λa=>some a else some (Q2 (oJ K s i)):Option (List Int))=some (bif decide (i+1<10) then T4 (Q2 (oJ K s i)) else Q2 (oJ K s i)):=by rw[uv (sK _) (zM _)];(have:decide (((i+1:Nat):Int)<10)=decide (i+1<10):=by rw[Ja];simp only[IB];omega);rw[this];cases decide (i+1<10)<;>rfl);rw[e,dk (z:=((i+1:Nat):Int)) (i:=i+1) [] rfl (by omega)];simp only[aB];rw[uw c (by cases decide (i+1<10);exact sK _;exact A3 _) (by omega)];simp only[aB];rw[wrap64 (by omega)];rfl
end
theorem DZ {k:List Int} {K:Nat→Nat→Int} (a:FN k K) {t:List Int} (ht:t.length=16) {z:Int} {r:Nat} (b:z=r) (c:r<11):eW t k z=some (PX t (K r)):=by subst b;rw[EA ht a.n (by omega)];congr 1;exact xx λj b=>a.v r j c b
theorem FO {k:List Int} {K:Nat→Nat→Int} (f:FN k K) {s:List Int} (a:s.length=16):gb k s=some (oJ K s 10):=by unfold gb;rw[DZ f a (z:=0) (r:=0) rfl (by omega)];simp only[aB];rw[aY (λi=>((i:Int),oJ K s (i - 1))) 1 11 (r:=oJ K s 10) (by omega) ?_ (dS rfl) (by rfl)];rfl;intro i c a;obtain⟨i,rfl⟩:∃k,i=k+1:=⟨i - 1,by omega⟩;(have a:decide (((i+1:Nat):Int)≤10)=true:=by simp;omega);simp only[a,Im,Ko];have a:=rK K s i;have c:=tv K s i;have d:Q2 (oJ K s i)=(List.range 16).map λj=>box ((oJ K s i).getD ((j+4*(j%4))%16) 0):=rfl;have b:oJ K s (i+1)=Ts K (oJ K s i) (i+1):=rfl;rw[b];generalize oJ K s i=t at*;rw[aY (λj=>((j:Int),cD 16 (λj=>box (t.getD ((j+4*(j%4))%16) 0)) (λ_=>0) j)) 0 16 (r:=Q2 t) (by omega) ?_ ?_ (by rfl)];simp only[aB];(have e:(bif decide (((i+1:Nat):Int)<10) then(fF (Q2 t)).bind λa=>some a else some (Q2 t):Option (List Int))=some (bif decide (i+1<10) then T4 (Q2 t) else Q2 t):=by rw[ED (sK _)];(have:decide (((i+1:Nat):Int)<10)=decide (i+1<10):=by rw[Ja];simp only[IB];omega);rw[this];cases decide (i+1<10)<;>rfl);rw[e];simp only[aB];rw[DZ f (by cases decide (i+1<10);exact sK _;exact A3 _) (r:=i+1) rfl (by omega)];simp only[aB];rw[wrap64 (by omega)];rfl;intro j _ a;(have b:decide ((j:Int)<16)=true:=by simp;omega);simp only[b,Im];have d:Int.tmod (j:Int) 4=((j%4:Nat):Int):=rfl;rw[d,wrap64 (x:=4*((j%4:Nat):Int)) (by omega),wrap64 (x:=(j:Int)+4*((j%4:Nat):Int)) (by omega)];(have d:Int.tmod ((j:Int)+4*((j%4:Nat):Int)) 16=(((j+4*(j%4))%16:Nat):Int):=by (have:(j:Int)+4*((j%4:Nat):Int)=((j+4*(j%4):Nat):Int):=by omega);rw[this];rfl);rw[d,aK (i:=(j+4*(j%4))%16) rfl (by omega)];simp only[aB];rw[DX (gK c _)];simp only[aB];rw[eL rfl a];simp only[aB];rw[wrap64 (by omega),Iq,dT (f:=λj=>box (t.getD ((j+4*(j%4))%16) 0)) a rfl];rfl;(have b:decide (((16:Nat):Int)<16)=false:=by decide);simp only[b,Il];rw[gP];rfl
def RB:Nat→List Int→List Int|0,s=>s|k+1,s=>bif wrap .u8 (s.getD k 0+1) != 0 then List.set s k (wrap .u8 (s.getD k 0+1)) else RB k (List.set s k (wrap .u8 (s.getD k 0+1)))
theorem D0:∀(k:Nat) (s:List Int),(RB k s).length=s.length|0,s=>rfl|k+1,s=>by unfold RB;cases wrap .u8 (s.getD k 0+1) != 0;rw[Il,D0 k];simp;simp
theorem Df {s:List Int} (a:s.length=16):jX s=some (RB 16 s):=by
 unfold jX
 have b:∀(k:Nat) (s:List Int),s.length=16→k≤16→Loop.run (S:=(Int×(List Int))) (R:=(List Int)) (λ(c,d)=>
   bif decide (c≥0) then
    (idx d c).bind λe=>
    (idx d c).bind λf=>
    (idx (List.set d (Int.toNat c) (wrap .u8 (e+1))) c).bind λf=>
    bif f != 0 then
      some (.done (List.set d (Int.toNat c) (wrap .u8 (e+1))))
    else
      some (.next (wrap .i64 (c - 1),List.set d (Int.toNat c) (wrap .u8 (e+1))))
   else
    some (.done d)) ((k:Int) - 1,s)=some (RB k s):=by
  intro k
  induction k with
  |zero=>intro s _ _;exact Mp rfl
  |succ k c=>
   intro s a d
   have d:decide (((k+1:Nat):Int) - 1≥0)=true:=Io (by omega)
   have e:((k+1:Nat):Int) - 1=(k:Int):=by omega
   rw[e] at d⊢
   have f:=c (List.set s k (wrap .u8 (s.getD k 0+1))) (by simp[a]) (by omega)
   cases c:(wrap .u8 (s.getD k 0+1) != 0) with
   |true=>
    refine Mp ?_
    simp only[d,Im]
    rw[aK rfl (by omega)]
    simp only[aB,Iq]
    rw[aK (i:=k) rfl (by simp;omega)]
    have e:(List.set s k (wrap .u8 (s.getD k 0+1))).getD k 0=wrap .u8 (s.getD k 0+1):=by simp[a,show k<16 by omega]
    rw[e]
    simp only[aB,c,Im]
    unfold RB;rw[c];rfl
   |false=>
    refine(My (s':=((k:Int) - 1,List.set s k (wrap .u8 (s.getD k 0+1)))) ?_).trans ?_
    · simp only[d,Im]
      rw[aK rfl (by omega)]
      simp only[aB,Iq]
      rw[aK (i:=k) rfl (by simp;omega)]
      have e:(List.set s k (wrap .u8 (s.getD k 0+1))).getD k 0=wrap .u8 (s.getD k 0+1):=by simp[a,show k<16 by omega]
      rw[e]
      simp only[aB,c,Il]
      rw[wrap64 (by omega)]
    · rw[f]
      conv=>rhs;unfold RB
      rw[c];rfl
 have:=b 16 s a (by omega)
 have e:((16:Nat):Int) - 1=15:=rfl
 rw[e] at this
 rw[this];rfl
theorem FP {s:List Int} (a:s.length=16):gd s=some (RB 16 s):=by
 unfold gd
 have b : ∀ (k : Nat) (s : List Int), s.length = 16 → k ≤ 16 → ∃ r, Loop.run (S := (Int × (List Int))) (R := ((List Int) ⊕ (List Int))) (λ(c, d) =>
   bif decide (c≥0) then
    (idx d c).bind λe=>
    (idx d c).bind λf=>
    (idx (List.set d (Int.toNat c) (wrap .u8 (e+1))) c).bind λf=>
    bif f != 0 then
      some (.done (.inr (List.set d (Int.toNat c) (wrap .u8 (e+1)))))
    else
      some (.next (wrap .i64 (c - 1),List.set d (Int.toNat c) (wrap .u8 (e+1))))
   else
    some (.done (.inl d))) ((k:Int) - 1,s)=some r∧(r= .inl (RB k s)∨r= .inr (RB k s)):=by
  intro k
  induction k with
  |zero=>intro s _ _;exact⟨_,Mp rfl,.inl rfl⟩
  |succ k c=>
   intro s a d
   have d:decide (((k+1:Nat):Int) - 1≥0)=true:=Io (by omega)
   have e:((k+1:Nat):Int) - 1=(k:Int):=by omega
   rw[e] at d⊢
   obtain⟨r,f,i⟩:=c (List.set s k (wrap .u8 (s.getD k 0+1))) (by simp[a]) (by omega)
   cases c:(wrap .u8 (s.getD k 0+1) != 0) with
   |true=>
    refine⟨.inr (RB (k+1) s),Mp ?_,.inr rfl⟩
    simp only[d,Im]
    rw[aK rfl (by omega)]
    simp only[aB,Iq]
    rw[aK (i:=k) rfl (by simp;omega)]
    have e:(List.set s k (wrap .u8 (s.getD k 0+1))).getD k 0=wrap .u8 (s.getD k 0+1):=by simp[a,show k<16 by omega]
    rw[e]
    simp only[aB,c,Im]
    unfold RB;rw[c];rfl
   |false=>
    refine⟨r,(My (s':=((k:Int) - 1,List.set s k (wrap .u8 (s.getD k 0+1)))) ?_).trans f,?_⟩
    · simp only[d,Im]
      rw[aK rfl (by omega)]
      simp only[aB,Iq]
      rw[aK (i:=k) rfl (by simp;omega)]
      have e:(List.set s k (wrap .u8 (s.getD k 0+1))).getD k 0=wrap .u8 (s.getD k 0+1):=by simp[a,show k<16 by omega]
      rw[e]
      simp only[aB,c,Il]
      rw[wrap64 (by omega)]
    · have:RB (k+1) s=RB k (List.set s k (wrap .u8 (s.getD k 0+1))):=by
       conv=>lhs;unfold RB
       rw[c];rfl
      rw[this];exact i
 obtain⟨r,h,i⟩:=b 16 s a (by omega)
 have e:((16:Nat):Int) - 1=15:=rfl
 rw[e] at h
 rw[h]
 rcases i with rfl|rfl<;>rfl
end Go.Proofs.YtlkjdchmeihhkaaGreatDoor
