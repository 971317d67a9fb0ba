import Derived.Test.YtobbmodjdkcdcaaGreatDoorLawAes2
set_option linter.unusedVariables false
set_option linter.unusedSimpArgs false
set_option maxRecDepth 20000
namespace Go.Proofs.YtobbmodjdkcdcaaGreatDoor
open Go Go.Sim
set_option linter.unusedSectionVars false
variable [Fu]
def round1 (K:Nat→Nat→Int) (s:List Int) (i:Nat):List Int:=addL (bif decide (i<10) then mxL (shL s) else shL s) (K i)
def rdAt (K:Nat→Nat→Int) (s:List Int):Nat→List Int
 |0=>addL s (K 0)
 |i+1=>round1 K (rdAt K s i) (i+1)
theorem ox (K:Nat→Nat→Int) (s:List Int):∀i,(rdAt K s i).length=16
 |0=>rS _ _
 |i+1=>rS _ _
theorem oy (K:Nat→Nat→Int) (s:List Int):∀i,be (rdAt K s i)
 |0=>ou _ _
 |i+1=>ou _ _
structure uf (sc:aF) (K:Nat→Nat→Int):Prop where
 n:sc.keys.length=11
 l:∀r,r<11→(sc.keys.getD r []).length=16
 v:∀r j,r<11→j<16→(sc.keys.getD r []).getD j 0=K r j
structure yt (k:List Int) (K:Nat→Nat→Int):Prop where
 n:k.length=176
 v:∀r j,r<11→j<16→k.getD (16*r+j) 0=K r j
theorem s8 {s:List Int} {k k':Nat→Int} (h:∀j,j<16→k j=k' j):addL s k=addL s k':=by
 unfold addL
 apply List.map_congr_left
 intro j hj;rw[h j (List.mem_range.1 hj)]
section
variable {sc:aF} {K:Nat→Nat→Int}
theorem mq (hk:uf sc K) {t:List Int} (ht:t.length=16) {r:Nat} (hr:r<11):cj t (sc.keys.getD r [])=some (addL t (K r)):=by
 rw[uS ht (hk.l r hr)]
 congr 1;exact s8 fun j hj=>hk.v r j hr hj
theorem w4 (hk:uf sc K) {s:List Int} (hs:s.length=16):bd sc s=some (rdAt K s 10):=by
 unfold bd
 have hn:=hk.n
 rw[cY (z:=0) (i:=0) [] rfl (by omega)]
 simp only[ae]
 rw[mq hk hs (by omega)]
 simp only[ae]
 rw[bw (fun i=>((i:Int),rdAt K s (i - 1))) 1 11 (r:=rdAt K s 10) (by omega) ?_ (hN rfl) (by rfl)]
 · rfl
 · intro i hi1 hi
   obtain⟨i,rfl⟩:∃k,i=k+1:=⟨i - 1,by omega⟩
   have h1:decide (((i+1:Nat):Int)≤10)=true:=by simp;omega
   simp only[h1,cond_true,Nat.add_sub_cancel]
   have hl:=ox K s i
   rw[vS hl (oy K s i)]
   simp only[ae]
   rw[ni (rT _),ow]
   simp only[ae]
   have e:(bif decide (((i+1:Nat):Int)<10) then(aS (shL (rdAt K s i))).bind fun y190=>some y190 else some (shL (rdAt K s i)):Option (List Int))=some (bif decide (i+1<10) then mxL (shL (rdAt K s i)) else shL (rdAt K s i)):=by
    rw[mo (nV _) (ql _)]
    have:decide (((i+1:Nat):Int)<10)=decide (i+1<10):=by rw[Bool.eq_iff_iff];simp only[decide_eq_true_eq];omega
    rw[this];cases decide (i+1<10)<;>rfl
   rw[e,cY (z:=((i+1:Nat):Int)) (i:=i+1) [] rfl (by omega)]
   simp only[ae]
   rw[mq hk (by cases decide (i+1<10);exact nV _;exact ue _) (by omega)]
   simp only[ae]
   rw[wrap64 (by omega)];rfl
theorem w5 (hk:uf sc K) {s:List Int} (hs:s.length=16):aX sc s table=some (rdAt K s 10):=by
 unfold aX
 have hn:=hk.n
 rw[cY (z:=0) (i:=0) [] rfl (by omega)]
 simp only[ae]
 rw[mq hk hs (by omega)]
 simp only[ae]
 rw[bw (fun i=>((i:Int),rdAt K s (i - 1))) 1 11 (r:=rdAt K s 10) (by omega) ?_ (hN rfl) (by rfl)]
 · rfl
 · intro i hi1 hi
   obtain⟨i,rfl⟩:∃k,i=k+1:=⟨i - 1,by omega⟩
   have h1:decide (((i+1:Nat):Int)≤10)=true:=by simp;omega
   simp only[h1,cond_true,Nat.add_sub_cancel]
   have hl:=ox K s i
   rw[vT hl (oy K s i)]
   simp only[ae]
   rw[ni (rT _),ow]
   simp only[ae]
   have e:(bif decide (((i+1:Nat):Int)<10) then(aS (shL (rdAt K s i))).bind fun y190=>some y190 else some (shL (rdAt K s i)):Option (List Int))=some (bif decide (i+1<10) then mxL (shL (rdAt K s i)) else shL (rdAt K s i)):=by
    rw[mo (nV _) (ql _)]
    have:decide (((i+1:Nat):Int)<10)=decide (i+1<10):=by rw[Bool.eq_iff_iff];simp only[decide_eq_true_eq];omega
    rw[this];cases decide (i+1<10)<;>rfl
   rw[e,cY (z:=((i+1:Nat):Int)) (i:=i+1) [] rfl (by omega)]
   simp only[ae]
   rw[mq hk (by cases decide (i+1<10);exact nV _;exact ue _) (by omega)]
   simp only[ae]
   rw[wrap64 (by omega)];rfl
end
def nxt:Nat→List Int→List Int
 |0,s=>s
 |k+1,s=>bif IntKind.wrap .u8 (s.getD k 0+1) != 0 then List.set s k (IntKind.wrap .u8 (s.getD k 0+1)) else nxt k (List.set s k (IntKind.wrap .u8 (s.getD k 0+1)))
theorem ug:∀(k:Nat) (s:List Int),(nxt k s).length=s.length
 |0,s=>rfl
 |k+1,s=>by
  unfold nxt
  cases IntKind.wrap .u8 (s.getD k 0+1) != 0
  · rw[cond_false,ug k];simp
  · simp
theorem s9 {s:List Int} (hs:s.length=16):eQ s=some (nxt 16 s):=by
 unfold eQ
 have key:∀(k:Nat) (s:List Int),s.length=16→k≤16→Loop.run (S:=(Int×(List Int))) (R:=(List Int)) (fun(x60,x61)=>
   bif decide (x60≥0) then
    (idx x61 x60).bind fun x74=>
    (idx x61 x60).bind fun x76=>
    (idx (List.set x61 (Int.toNat x60) (IntKind.wrap .u8 (x74+1))) x60).bind fun x78=>
    bif x78 != 0 then
      some (.done (List.set x61 (Int.toNat x60) (IntKind.wrap .u8 (x74+1))))
    else
      some (.next (IntKind.wrap .i64 (x60 - 1),List.set x61 (Int.toNat x60) (IntKind.wrap .u8 (x74+1))))
   else
    some (.done x61)) ((k:Int) - 1,s)=some (nxt k s):=by
  intro k
  induction k with
  |zero=>intro s _ _;exact Loop.run_done rfl
  |succ k ih=>
   intro s hs hk
   have h1:decide (((k+1:Nat):Int) - 1≥0)=true:=decide_eq_true (by omega)
   have hz:((k+1:Nat):Int) - 1=(k:Int):=by omega
   rw[hz] at h1⊢
   have ih':=ih (List.set s k (IntKind.wrap .u8 (s.getD k 0+1))) (by simp[hs]) (by omega)
   cases hc:(IntKind.wrap .u8 (s.getD k 0+1) != 0) with
   |true=>
    refine Loop.run_done ?_
    simp only[h1,cond_true]
    rw[aW rfl (by omega)]
    simp only[ae,Int.toNat_natCast]
    rw[aW (i:=k) rfl (by simp;omega)]
    have e:(List.set s k (IntKind.wrap .u8 (s.getD k 0+1))).getD k 0=IntKind.wrap .u8 (s.getD k 0+1):=by simp[hs,show k<16 by omega]
    rw[e]
    simp only[ae,hc,cond_true]
    unfold nxt;rw[hc];rfl
   |false=>
    refine(Loop.run_next (s':=((k:Int) - 1,List.set s k (IntKind.wrap .u8 (s.getD k 0+1)))) ?_).trans ?_
    · simp only[h1,cond_true]
      rw[aW rfl (by omega)]
      simp only[ae,Int.toNat_natCast]
      rw[aW (i:=k) rfl (by simp;omega)]
      have e:(List.set s k (IntKind.wrap .u8 (s.getD k 0+1))).getD k 0=IntKind.wrap .u8 (s.getD k 0+1):=by simp[hs,show k<16 by omega]
      rw[e]
      simp only[ae,hc,cond_false]
      rw[wrap64 (by omega)]
    · rw[ih']
      conv=>rhs;unfold nxt
      rw[hc];rfl
 have:=key 16 s hs (by omega)
 have e:((16:Nat):Int) - 1=15:=rfl
 rw[e] at this
 rw[this];rfl
end Go.Proofs.YtobbmodjdkcdcaaGreatDoor
