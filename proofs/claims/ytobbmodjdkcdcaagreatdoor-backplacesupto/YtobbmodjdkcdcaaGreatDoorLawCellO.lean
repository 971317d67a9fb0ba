import Derived.Test.YtobbmodjdkcdcaaGreatDoorLawPeel
set_option linter.unusedVariables false
set_option linter.unusedSimpArgs false
set_option linter.unusedSectionVars false
set_option maxRecDepth 20000
set_option maxHeartbeats 1000000
namespace Go.Proofs.YtobbmodjdkcdcaaGreatDoor
open Go Go.Sim
variable [Fu]
def nm (x:List Int):List Int×Bool×Int:=
 bif x.length != 320 then([],false,50) else bif x.getD 0 0==0 then([],false,0) else bif x.getD 0 0==1 then
  (bif decide (x.getD 1 0>48) then([],false,53) else bif nz (x.drop (2+(x.getD 1 0).toNat)) then([],false,51) else((x.take (2+(x.getD 1 0).toNat)).drop 2,true,0))
 else([],false,52)
theorem qp {x:List Int} (hb:be x):f9 x=some (nm x):=by
 unfold f9 nm
 have e0:((x.length:Int) != 320)=(x.length != 320):=nX (n:=320)
 rw[e0]
 cases h:(x.length != 320) with
 |true=>rfl
 |false=>
  have hl:x.length=320:=by simpa using h
  have b1:=dP hb 1
  rw[cond_false,cond_false,aW (z:=0) (i:=0) rfl (by omega)]
  simp only[ae]
  cases x.getD 0 0==0 with
  |true=>rfl
  |false=>
   cases x.getD 0 0==1 with
   |false=>rfl
   |true=>
    simp only[cond_false,cond_true]
    rw[aW (z:=1) (i:=1) rfl (by omega)]
    simp only[ae]
    generalize x.getD 1 0=n at*
    rw[wrap64 (x:=n) (by omega)]
    cases hc:decide (n>48) with
    |true=>rfl
    |false=>
     have hc:=of_decide_eq_false hc
     rw[cond_false,cond_false,wrap64 (x:=2+n) (by omega),gx (l:=2+n) (i:=2+n.toNat) (j:=x.length) (by omega) rfl (by omega) (Nat.le_refl _)]
     simp only[ae,List.take_length]
     rw[mx (by simp;omega)]
     simp only[ae,Bool.not_not]
     cases nz (x.drop (2+n.toNat)) with
     |true=>rfl
     |false=>
      rw[cond_false,cond_false,gx (l:=2) (i:=2) (j:=2+n.toNat) rfl (by omega) (by omega) (by omega)]
      simp only[ae]
      rw[dQ (by simp[room];omega)]
      rfl
end Go.Proofs.YtobbmodjdkcdcaaGreatDoor
