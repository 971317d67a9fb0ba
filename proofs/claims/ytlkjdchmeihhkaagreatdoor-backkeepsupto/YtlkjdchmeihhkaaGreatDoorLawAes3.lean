import Derived.Test.YtlkjdchmeihhkaaGreatDoorLawAes2
set_option autoImplicit true
set_option relaxedAutoImplicit true
set_option linter.all false
set_option maxRecDepth 20000
namespace Go.Proofs.YtlkjdchmeihhkaaGreatDoor
open Go Go.Sim
open Go.IntKind (wrap)
variable [Fu]
def R8 (K:Nat→Nat→Int) (s:List Int) (i:Nat):List Int:=x4 (bif decide (i<10) then Rz (Pj s) else Pj s) (K i)
def mK (K:Nat→Nat→Int) (s:List Int):Nat→List Int|0=>x4 s (K 0)|i+1=>R8 K (mK K s i) (i+1)
theorem vd (K:Nat→Nat→Int) (s:List Int):∀i,(mK K s i).length=16|0=>zX _ _|i+1=>zX _ _
theorem ve (K:Nat→Nat→Int) (s:List Int):∀i,bW (mK K s i)|0=>uZ _ _|i+1=>uZ _ _
structure Cp (sc:bT) (K:Nat→Nat→Int):Prop where
 n:sc.keys.length=11
 l:∀r,r<11→(sc.keys.getD r []).length=16
 v:∀r j,r<11→j<16→(sc.keys.getD r []).getD j 0=K r j
structure Gw (k:List Int) (K:Nat→Nat→Int):Prop where
 n:k.length=176
 v:∀r j,r<11→j<16→k.getD (16*r+j) 0=K r j
theorem By {s:List Int} {k k':Nat→Int} (h:∀j,j<16→k j=k' j):x4 s k=x4 s k':=by unfold x4;apply HE;intro j a;rw[h j (H8.1 a)]
section
variable {sc:bT} {K:Nat→Nat→Int}
theorem rO (a:Cp b K) {t:List Int} (ht:t.length=16) {r:Nat} (c:r<11):dT t (b.keys.getD r [])=some (x4 t (K r)):=by rw[C2 ht (a.l r c)];congr 1;exact By λj b=>a.v r j c b
theorem Ff (c:Cp a K) {s:List Int} (b:s.length=16):cw a s=some (mK K s 10):=by unfold cw;have a:=c.n;rw[dV (z:=0) (i:=0) [] rfl (by omega)];simp only[aF];rw[rO c b (by omega)];simp only[aF];rw[cb (λi=>((i:Int),mK K s (i - 1))) 1 11 (r:=mK K s 10) (by omega) ?_ (jt rfl) (by rfl)];rfl;intro i b a;obtain⟨i,rfl⟩:∃k,i=k+1:=⟨i - 1,by omega⟩;(have a:decide (((i+1:Nat):Int)≤10)=true:=by simp;omega);simp only[a,Gy,IY];have a:=vd K s i;rw[DX a (ve K s i)];simp only[aF];rw[tP (zY _),vc];simp only[aF];(have e:(bif decide (((i+1:Nat):Int)<10) then(cg (Pj (mK K s i))).bind λa=>some a else some (Pj (mK K s i)):Option (List Int))=some (bif decide (i+1<10) then Rz (Pj (mK K s i)) else Pj (mK K s i)):=by rw[rF (uz _) (xg _)];(have:decide (((i+1:Nat):Int)<10)=decide (i+1<10):=by rw[Hm];simp only[GM];omega);rw[this];cases decide (i+1<10)<;>rfl);rw[e,dV (z:=((i+1:Nat):Int)) (i:=i+1) [] rfl (by omega)];simp only[aF];rw[rO c (by cases decide (i+1<10);exact uz _;exact Co _) (by omega)];simp only[aF];rw[wrap64 (by omega)];rfl
theorem Fg (c:Cp a K) {s:List Int} (b:s.length=16):cm a s uK=some (mK K s 10):=by unfold cm;have a:=c.n;rw[dV (z:=0) (i:=0) [] rfl (by omega)];simp only[aF];rw[rO c b (by omega)];simp only[aF];rw[cb (λi=>((i:Int),mK K s (i - 1))) 1 11 (r:=mK K s 10) (by omega) ?_ (jt rfl) (by rfl)];rfl;intro i b a;obtain⟨i,rfl⟩:∃k,i=k+1:=⟨i - 1,by omega⟩;(have a:decide (((i+1:Nat):Int)≤10)=true:=by simp;omega);simp only[a,Gy,IY];have a:=vd K s i;rw[DY a (ve K s i)];simp only[aF];rw[tP (zY _),vc];simp only[aF];(have e:(bif decide (((i+1:Nat):Int)<10) then(cg (Pj (mK K s i))).bind λa=>some a else some (Pj (mK K s i)):Option (List Int))=some (bif decide (i+1<10) then Rz (Pj (mK K s i)) else Pj (mK K s i)):=by rw[rF (uz _) (xg _)];(have:decide (((i+1:Nat):Int)<10)=decide (i+1<10):=by rw[Hm];simp only[GM];omega);rw[this];cases decide (i+1<10)<;>rfl);rw[e,dV (z:=((i+1:Nat):Int)) (i:=i+1) [] rfl (by omega)];simp only[aF];rw[rO c (by cases decide (i+1<10);exact uz _;exact Co _) (by omega)];simp only[aF];rw[wrap64 (by omega)];rfl
end
def QW:Nat→List Int→List Int|0,s=>s|k+1,s=>bif wrap .u8 (s.getD k 0+1) != 0 then List.set s k (wrap .u8 (s.getD k 0+1)) else QW k (List.set s k (wrap .u8 (s.getD k 0+1)))
theorem Cq:∀(k:Nat) (s:List Int),(QW k s).length=s.length|0,s=>rfl|k+1,s=>by unfold QW;cases wrap .u8 (s.getD k 0+1) != 0;rw[Gx,Cq k];simp;simp
theorem Bz {s:List Int} (a:s.length=16):iH s=some (QW 16 s):=by
 unfold iH
 have b:∀(k:Nat) (s:List Int),s.length=16→k≤16→Loop.run (S:=(Int×(List Int))) (R:=(List Int)) (λ(c,d)=>
   bif decide (c≥0) then
    (idx d c).bind λe=>
    (idx d c).bind λf=>
    (idx (List.set d (Int.toNat c) (wrap .u8 (e+1))) c).bind λf=>
    bif f != 0 then
      some (.done (List.set d (Int.toNat c) (wrap .u8 (e+1))))
    else
      some (.next (wrap .i64 (c - 1),List.set d (Int.toNat c) (wrap .u8 (e+1))))
   else
    some (.done d)) ((k:Int) - 1,s)=some (QW k s):=by
  intro k
  induction k with
  |zero=>intro s _ _;exact Km rfl
  |succ k c=>
   intro s a d
   have d:decide (((k+1:Nat):Int) - 1≥0)=true:=Gz (by omega)
   have e:((k+1:Nat):Int) - 1=(k:Int):=by omega
   rw[e] at d⊢
   have f:=c (List.set s k (wrap .u8 (s.getD k 0+1))) (by simp[a]) (by omega)
   cases c:(wrap .u8 (s.getD k 0+1) != 0) with
   |true=>
    refine Km ?_
    simp only[d,Gy]
    rw[bP rfl (by omega)]
    simp only[aF,GG]
    rw[bP (i:=k) rfl (by simp;omega)]
    have e:(List.set s k (wrap .u8 (s.getD k 0+1))).getD k 0=wrap .u8 (s.getD k 0+1):=by simp[a,show k<16 by omega]
    rw[e]
    simp only[aF,c,Gy]
    unfold QW;rw[c];rfl
   |false=>
    refine(Kx (s':=((k:Int) - 1,List.set s k (wrap .u8 (s.getD k 0+1)))) ?_).trans ?_
    · simp only[d,Gy]
      rw[bP rfl (by omega)]
      simp only[aF,GG]
      rw[bP (i:=k) rfl (by simp;omega)]
      have e:(List.set s k (wrap .u8 (s.getD k 0+1))).getD k 0=wrap .u8 (s.getD k 0+1):=by simp[a,show k<16 by omega]
      rw[e]
      simp only[aF,c,Gx]
      rw[wrap64 (by omega)]
    · rw[f]
      conv=>rhs;unfold QW
      rw[c];rfl
 have:=b 16 s a (by omega)
 have e:((16:Nat):Int) - 1=15:=rfl
 rw[e] at this
 rw[this];rfl
end Go.Proofs.YtlkjdchmeihhkaaGreatDoor
