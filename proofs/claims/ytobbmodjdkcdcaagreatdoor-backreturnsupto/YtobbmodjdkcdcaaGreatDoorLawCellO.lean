import Derived.Test.YtobbmodjdkcdcaaGreatDoorLawPeel
set_option linter.unusedVariables false
set_option linter.unusedSimpArgs false
set_option linter.unusedSectionVars false
set_option maxRecDepth 20000
set_option maxHeartbeats 1000000
namespace Go.Proofs.YtobbmodjdkcdcaaGreatDoor
open Go Go.Sim
variable [Fu]
def pY (x:List Int):List Int×Bool×Int:=
 bif x.length != 320 then([],false,50) else bif x.getD 0 0==0 then([],false,0) else bif x.getD 0 0==1 then
  (bif decide (x.getD 1 0>48) then([],false,53) else bif nz (x.drop (2+(x.getD 1 0).toNat)) then([],false,51) else((x.take (2+(x.getD 1 0).toNat)).drop 2,true,0))
 else([],false,52)
theorem xv {x:List Int} (hb:aS x):jt x=some (pY x):=by
 unfold jt pY
 have e0:((x.length:Int) != 320)=(x.length != 320):=l8 (n:=320)
 rw[e0]
 cases h:(x.length != 320) with
 |true=>rfl
 |false=>
  have hl:x.length=320:=by simpa using h
  have b1:=fP hb 1
  rw[cond_false,cond_false,ar (z:=0) (i:=0) rfl (by omega)]
  simp only[af]
  cases x.getD 0 0==0 with
  |true=>rfl
  |false=>
   cases x.getD 0 0==1 with
   |false=>rfl
   |true=>
    simp only[cond_false,cond_true]
    rw[ar (z:=1) (i:=1) rfl (by omega)]
    simp only[af]
    generalize x.getD 1 0=n at*
    rw[wrap64 (x:=n) (by omega)]
    cases hc:decide (n>48) with
    |true=>rfl
    |false=>
     have hc:=of_decide_eq_false hc
     rw[cond_false,cond_false,wrap64 (x:=2+n) (by omega),jn (l:=2+n) (i:=2+n.toNat) (j:=x.length) (by omega) rfl (by omega) (Nat.le_refl _)]
     simp only[af,List.take_length]
     rw[oZ (by simp;omega)]
     simp only[af,Bool.not_not]
     cases nz (x.drop (2+n.toNat)) with
     |true=>rfl
     |false=>
      rw[cond_false,cond_false,jn (l:=2) (i:=2) (j:=2+n.toNat) rfl (by omega) (by omega) (by omega)]
      simp only[af]
      rw[bK (by simp[room];omega)]
      rfl
theorem yN {x:List Int} (hb:aS x):fm x=some (pY x):=by
 unfold fm pY
 have e0:((x.length:Int) != 320)=(x.length != 320):=l8 (n:=320)
 rw[e0]
 cases h:(x.length != 320) with
 |true=>rfl
 |false=>
  have hl:x.length=320:=by simpa using h
  have b0:=fP hb 0
  have b1:=fP hb 1
  have i0:idx x 0=some (x.getD 0 0):=ar (z:=0) (i:=0) rfl (by omega)
  have i1:idx x 1=some (x.getD 1 0):=ar (z:=1) (i:=1) rfl (by omega)
  rw[i0,i1]
  simp only[af,cond_false]
  generalize x.getD 0 0=a at*
  generalize x.getD 1 0=n at*
  cases h1:decide (a>1) with
  |true=>
   have h1:=of_decide_eq_true h1
   have e1:(a==0)=false:=by simp;omega
   have e2:(a==1)=false:=by simp;omega
   rw[e1,e2];rfl
  |false=>
   have h1:=of_decide_eq_false h1
   simp only[cond_false]
   cases h2:a==0 with
   |true=>rfl
   |false=>
    have h2:a≠0:=by simpa using h2
    have e2:(a==1)=true:=by simp;omega
    rw[e2]
    simp only[cond_false,cond_true]
    cases hc:decide (n>48) with
    |true=>rfl
    |false=>
     have hc:=of_decide_eq_false hc
     simp only[cond_false]
     rw[wrap64 (x:=n) (by omega),wrap64 (x:=2+n) (by omega),qc (z:=2+n) (a:=2+n.toNat) (by omega) (by omega) (by omega)]
     simp only[af,Bool.not_not]
     cases nz (x.drop (2+n.toNat)) with
     |true=>rfl
     |false=>
      simp only[cond_false]
      rw[jn (l:=2) (i:=2) (j:=2+n.toNat) rfl (by omega) (by omega) (by omega)]
      simp only[af]
      rw[bK (by simp[room];omega)]
      rfl
end Go.Proofs.YtobbmodjdkcdcaaGreatDoor
