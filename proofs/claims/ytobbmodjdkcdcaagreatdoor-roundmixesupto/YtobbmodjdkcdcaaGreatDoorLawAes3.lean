import Derived.Test.YtobbmodjdkcdcaaGreatDoorLawAes2
set_option autoImplicit true
set_option relaxedAutoImplicit true
set_option linter.all false
set_option maxRecDepth 20000
namespace Go.Proofs.YtobbmodjdkcdcaaGreatDoor
open Go Go.Sim
open Go.IntKind (wrap)
variable [Fu]
def U7 (K:Nat→Nat→Int) (s:List Int) (i:Nat):List Int:=RF (bif decide (i<10) then VX (SI s) else SI s) (K i)
def PL (K:Nat→Nat→Int) (s:List Int):Nat→List Int|0=>RF s (K 0)|i+1=>U7 K (PL K s i) (i+1)
theorem qL (K:Nat→Nat→Int) (s:List Int):∀i,(PL K s i).length=16|0=>AM _ _|i+1=>AM _ _
theorem sw (K:Nat→Nat→Int) (s:List Int):∀i,aT (PL K s i)|0=>wd _ _|i+1=>wd _ _
structure C6 (sc:br) (K:Nat→Nat→Int):Prop where
 n:sc.keys.length=11
 l:∀r,r<11→(sc.keys.getD r []).length=16
 v:∀r j,r<11→j<16→(sc.keys.getD r []).getD j 0=K r j
structure EG (k:List Int) (K:Nat→Nat→Int):Prop where
 n:k.length=176
 v:∀r j,r<11→j<16→k.getD (16*r+j) 0=K r j
theorem wg {s:List Int} {k k':Nat→Int} (h:∀j,j<16→k j=k' j):RF s k=RF s k':=by unfold RF;apply IJ;intro j hj;rw[h j (IY.1 hj)]
section
variable {sc:br} {K:Nat→Nat→Int}
theorem sT (hk:C6 sc K) {t:List Int} (ht:t.length=16) {r:Nat} (hr:r<11):dx t (sc.keys.getD r [])=some (RF t (K r)):=by rw[DJ ht (hk.l r hr)];congr 1;exact wg λj hj=>hk.v r j hr hj
theorem F2 (hk:C6 sc K) {s:List Int} (hs:s.length=16):cl sc s=some (PL K s 10):=by unfold cl;have hn:=hk.n;rw[dn (z:=0) (i:=0) [] rfl (by omega)];simp only[aB];rw[sT hk hs (by omega)];simp only[aB];rw[aY (λi=>((i:Int),PL K s (i - 1))) 1 11 (r:=PL K s 10) (by omega) ?_ (dF rfl) (by rfl)];rfl;intro i b hi;obtain⟨i,rfl⟩:∃k,i=k+1:=⟨i - 1,by omega⟩;(have h1:decide (((i+1:Nat):Int)≤10)=true:=by simp;omega);simp only[h1,Hn,Jp];have hl:=qL K s i;rw[EE hl (sw K s i)];simp only[aB];rw[uU (AN _),we];simp only[aB];(have e:(bif decide (((i+1:Nat):Int)<10) then(bP (SI (PL K s i))).bind λa=>some a else some (SI (PL K s i)):Option (List Int))=some (bif decide (i+1<10) then VX (SI (PL K s i)) else SI (PL K s i)):=by rw[sS (rz _) (yn _)];(have:decide (((i+1:Nat):Int)<10)=decide (i+1<10):=by rw[H3];simp only[HB];omega);rw[this];cases decide (i+1<10)<;>rfl);rw[e,dn (z:=((i+1:Nat):Int)) (i:=i+1) [] rfl (by omega)];simp only[aB];rw[sT hk (by cases decide (i+1<10);exact rz _;exact zF _) (by omega)];simp only[aB];rw[wrap64 (by omega)];rfl
theorem F3 (hk:C6 sc K) {s:List Int} (hs:s.length=16):bS sc s RC=some (PL K s 10):=by unfold bS;have hn:=hk.n;rw[dn (z:=0) (i:=0) [] rfl (by omega)];simp only[aB];rw[sT hk hs (by omega)];simp only[aB];rw[aY (λi=>((i:Int),PL K s (i - 1))) 1 11 (r:=PL K s 10) (by omega) ?_ (dF rfl) (by rfl)];rfl;intro i b hi;obtain⟨i,rfl⟩:∃k,i=k+1:=⟨i - 1,by omega⟩;(have h1:decide (((i+1:Nat):Int)≤10)=true:=by simp;omega);simp only[h1,Hn,Jp];have hl:=qL K s i;rw[EF hl (sw K s i)];simp only[aB];rw[uU (AN _),we];simp only[aB];(have e:(bif decide (((i+1:Nat):Int)<10) then(bP (SI (PL K s i))).bind λa=>some a else some (SI (PL K s i)):Option (List Int))=some (bif decide (i+1<10) then VX (SI (PL K s i)) else SI (PL K s i)):=by rw[sS (rz _) (yn _)];(have:decide (((i+1:Nat):Int)<10)=decide (i+1<10):=by rw[H3];simp only[HB];omega);rw[this];cases decide (i+1<10)<;>rfl);rw[e,dn (z:=((i+1:Nat):Int)) (i:=i+1) [] rfl (by omega)];simp only[aB];rw[sT hk (by cases decide (i+1<10);exact rz _;exact zF _) (by omega)];simp only[aB];rw[wrap64 (by omega)];rfl
end
theorem C7 {k:List Int} {K:Nat→Nat→Int} (hk:EG k K) {t:List Int} (ht:t.length=16) {z:Int} {r:Nat} (hz:z=r) (hr:r<11):eL t k z=some (RF t (K r)):=by subst hz;rw[DK ht hk.n (by omega)];congr 1;exact wg λj hj=>hk.v r j hr hj
theorem EH {k:List Int} {K:Nat→Nat→Int} (hk:EG k K) {s:List Int} (hs:s.length=16):fM k s=some (PL K s 10):=by unfold fM;rw[C7 hk hs (z:=0) (r:=0) rfl (by omega)];simp only[aB];rw[aY (λi=>((i:Int),PL K s (i - 1))) 1 11 (r:=PL K s 10) (by omega) ?_ (dF rfl) (by rfl)];rfl;intro i c hi;obtain⟨i,rfl⟩:∃k,i=k+1:=⟨i - 1,by omega⟩;(have h1:decide (((i+1:Nat):Int)≤10)=true:=by simp;omega);simp only[h1,Hn,Jp];have hl:=qL K s i;have hb:=sw K s i;have d:SI (PL K s i)=(List.range 16).map λj=>box ((PL K s i).getD ((j+4*(j%4))%16) 0):=rfl;have b:PL K s (i+1)=U7 K (PL K s i) (i+1):=rfl;rw[b];generalize PL K s i=t at*;rw[aY (λj=>((j:Int),x_ 16 (λj=>box (t.getD ((j+4*(j%4))%16) 0)) (λ_=>0) j)) 0 16 (r:=SI t) (by omega) ?_ ?_ (by rfl)];simp only[aB];(have e:(bif decide (((i+1:Nat):Int)<10) then(ft (SI t)).bind λa=>some a else some (SI t):Option (List Int))=some (bif decide (i+1<10) then VX (SI t) else SI t):=by rw[DN (rz _)];(have:decide (((i+1:Nat):Int)<10)=decide (i+1<10):=by rw[H3];simp only[HB];omega);rw[this];cases decide (i+1<10)<;>rfl);rw[e];simp only[aB];rw[C7 hk (by cases decide (i+1<10);exact rz _;exact zF _) (r:=i+1) rfl (by omega)];simp only[aB];rw[wrap64 (by omega)];rfl;intro j _ hj;(have h2:decide ((j:Int)<16)=true:=by simp;omega);simp only[h2,Hn];have e1:Int.tmod (j:Int) 4=((j%4:Nat):Int):=rfl;rw[e1,wrap64 (x:=4*((j%4:Nat):Int)) (by omega),wrap64 (x:=(j:Int)+4*((j%4:Nat):Int)) (by omega)];(have e2:Int.tmod ((j:Int)+4*((j%4:Nat):Int)) 16=(((j+4*(j%4))%16:Nat):Int):=by (have:(j:Int)+4*((j%4:Nat):Int)=((j+4*(j%4):Nat):Int):=by omega);rw[this];rfl);rw[e2,aJ (i:=(j+4*(j%4))%16) rfl (by omega)];simp only[aB];rw[C5 (fW hb _)];simp only[aB];rw[eg rfl hj];simp only[aB];rw[wrap64 (by omega),Hq,dK (f:=λj=>box (t.getD ((j+4*(j%4))%16) 0)) hj rfl];rfl;(have h2:decide (((16:Nat):Int)<16)=false:=by decide);simp only[h2,Hm];rw[ge];rfl
def Tn:Nat→List Int→List Int|0,s=>s|k+1,s=>bif wrap .u8 (s.getD k 0+1) != 0 then List.set s k (wrap .u8 (s.getD k 0+1)) else Tn k (List.set s k (wrap .u8 (s.getD k 0+1)))
theorem C8:∀(k:Nat) (s:List Int),(Tn k s).length=s.length|0,s=>rfl|k+1,s=>by unfold Tn;cases wrap .u8 (s.getD k 0+1) != 0;rw[Hm,C8 k];simp;simp
theorem Co {s:List Int} (hs:s.length=16):jw s=some (Tn 16 s):=by
 unfold jw
 have key:∀(k:Nat) (s:List Int),s.length=16→k≤16→Loop.run (S:=(Int×(List Int))) (R:=(List Int)) (λ(x60,x61)=>
   bif decide (x60≥0) then
    (idx x61 x60).bind λx74=>
    (idx x61 x60).bind λx76=>
    (idx (List.set x61 (Int.toNat x60) (wrap .u8 (x74+1))) x60).bind λx78=>
    bif x78 != 0 then
      some (.done (List.set x61 (Int.toNat x60) (wrap .u8 (x74+1))))
    else
      some (.next (wrap .i64 (x60 - 1),List.set x61 (Int.toNat x60) (wrap .u8 (x74+1))))
   else
    some (.done x61)) ((k:Int) - 1,s)=some (Tn k s):=by
  intro k
  induction k with
  |zero=>intro s _ _;exact Lr rfl
  |succ k ih=>
   intro s hs hk
   have h1:decide (((k+1:Nat):Int) - 1≥0)=true:=Ho (by omega)
   have hz:((k+1:Nat):Int) - 1=(k:Int):=by omega
   rw[hz] at h1⊢
   have ih':=ih (List.set s k (wrap .u8 (s.getD k 0+1))) (by simp[hs]) (by omega)
   cases hc:(wrap .u8 (s.getD k 0+1) != 0) with
   |true=>
    refine Lr ?_
    simp only[h1,Hn]
    rw[aJ rfl (by omega)]
    simp only[aB,Hq]
    rw[aJ (i:=k) rfl (by simp;omega)]
    have e:(List.set s k (wrap .u8 (s.getD k 0+1))).getD k 0=wrap .u8 (s.getD k 0+1):=by simp[hs,show k<16 by omega]
    rw[e]
    simp only[aB,hc,Hn]
    unfold Tn;rw[hc];rfl
   |false=>
    refine(Ly (s':=((k:Int) - 1,List.set s k (wrap .u8 (s.getD k 0+1)))) ?_).trans ?_
    · simp only[h1,Hn]
      rw[aJ rfl (by omega)]
      simp only[aB,Hq]
      rw[aJ (i:=k) rfl (by simp;omega)]
      have e:(List.set s k (wrap .u8 (s.getD k 0+1))).getD k 0=wrap .u8 (s.getD k 0+1):=by simp[hs,show k<16 by omega]
      rw[e]
      simp only[aB,hc,Hm]
      rw[wrap64 (by omega)]
    · rw[ih']
      conv=>rhs;unfold Tn
      rw[hc];rfl
 have:=key 16 s hs (by omega)
 have e:((16:Nat):Int) - 1=15:=rfl
 rw[e] at this
 rw[this];rfl
theorem EI {s:List Int} (hs:s.length=16):fN s=some (Tn 16 s):=by
 unfold fN
 have key : ∀ (k : Nat) (s : List Int), s.length = 16 → k ≤ 16 → ∃ r, Loop.run (S := (Int × (List Int))) (R := ((List Int) ⊕ (List Int))) (λ(x60, x61) =>
   bif decide (x60≥0) then
    (idx x61 x60).bind λx74=>
    (idx x61 x60).bind λx76=>
    (idx (List.set x61 (Int.toNat x60) (wrap .u8 (x74+1))) x60).bind λx78=>
    bif x78 != 0 then
      some (.done (.inr (List.set x61 (Int.toNat x60) (wrap .u8 (x74+1)))))
    else
      some (.next (wrap .i64 (x60 - 1),List.set x61 (Int.toNat x60) (wrap .u8 (x74+1))))
   else
    some (.done (.inl x61))) ((k:Int) - 1,s)=some r∧(r= .inl (Tn k s)∨r= .inr (Tn k s)):=by
  intro k
  induction k with
  |zero=>intro s _ _;exact⟨_,Lr rfl,.inl rfl⟩
  |succ k ih=>
   intro s hs hk
   have h1:decide (((k+1:Nat):Int) - 1≥0)=true:=Ho (by omega)
   have hz:((k+1:Nat):Int) - 1=(k:Int):=by omega
   rw[hz] at h1⊢
   obtain⟨r,ih',hr⟩:=ih (List.set s k (wrap .u8 (s.getD k 0+1))) (by simp[hs]) (by omega)
   cases hc:(wrap .u8 (s.getD k 0+1) != 0) with
   |true=>
    refine⟨.inr (Tn (k+1) s),Lr ?_,.inr rfl⟩
    simp only[h1,Hn]
    rw[aJ rfl (by omega)]
    simp only[aB,Hq]
    rw[aJ (i:=k) rfl (by simp;omega)]
    have e:(List.set s k (wrap .u8 (s.getD k 0+1))).getD k 0=wrap .u8 (s.getD k 0+1):=by simp[hs,show k<16 by omega]
    rw[e]
    simp only[aB,hc,Hn]
    unfold Tn;rw[hc];rfl
   |false=>
    refine⟨r,(Ly (s':=((k:Int) - 1,List.set s k (wrap .u8 (s.getD k 0+1)))) ?_).trans ih',?_⟩
    · simp only[h1,Hn]
      rw[aJ rfl (by omega)]
      simp only[aB,Hq]
      rw[aJ (i:=k) rfl (by simp;omega)]
      have e:(List.set s k (wrap .u8 (s.getD k 0+1))).getD k 0=wrap .u8 (s.getD k 0+1):=by simp[hs,show k<16 by omega]
      rw[e]
      simp only[aB,hc,Hm]
      rw[wrap64 (by omega)]
    · have:Tn (k+1) s=Tn k (List.set s k (wrap .u8 (s.getD k 0+1))):=by
       conv=>lhs;unfold Tn
       rw[hc];rfl
      rw[this];exact hr
 obtain⟨r,h,hr⟩:=key 16 s hs (by omega)
 have e:((16:Nat):Int) - 1=15:=rfl
 rw[e] at h
 rw[h]
 rcases hr with rfl|rfl<;>rfl
end Go.Proofs.YtobbmodjdkcdcaaGreatDoor
