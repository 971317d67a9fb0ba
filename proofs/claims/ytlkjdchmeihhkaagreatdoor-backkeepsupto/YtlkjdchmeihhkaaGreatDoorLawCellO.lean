import Derived.Test.YtlkjdchmeihhkaaGreatDoorLawPeel
set_option autoImplicit true
set_option relaxedAutoImplicit true
set_option linter.all false
set_option maxRecDepth 20000
set_option maxHeartbeats 1000000
namespace Go.Proofs.YtlkjdchmeihhkaaGreatDoor
open Go Go.Sim
variable [Fu]
def xp (x:List Int):List Int×Bool×Int:=bif x.length != 320 then([],false,50) else bif x.getD 0 0==0 then([],false,0) else bif x.getD 0 0==1 then (bif decide (x.getD 1 0>48) then([],false,53) else bif nz (x.drop (2+(x.getD 1 0).toNat)) then([],false,51) else((x.take (2+(x.getD 1 0).toNat)).drop 2,true,0)) else([],false,52)
theorem C7 {x:List Int} (a:bW x):lH x=some (xp x):=by unfold lH xp;have b:((x.length:Int) != 320)=(x.length != 320):=uO (n:=320);rw[b];cases h:(x.length != 320) with|true=>rfl|false=>(have b:x.length=320:=by simpa using h);have b:=gt a 1;rw[Gx,Gx,bP (z:=0) (i:=0) rfl (by omega)];simp only[aF];cases x.getD 0 0==0 with|true=>rfl|false=>cases x.getD 0 0==1 with|false=>rfl|true=>simp only[Gx,Gy];rw[bP (z:=1) (i:=1) rfl (by omega)];simp only[aF];generalize x.getD 1 0=n at*;rw[wrap64 (x:=n) (by omega)];cases a:decide (n>48) with|true=>rfl|false=>have a:=G7 a;rw[Gx,Gx,wrap64 (x:=2+n) (by omega),ky (l:=2+n) (i:=2+n.toNat) (j:=x.length) (by omega) rfl (by omega) (GZ _)];simp only[aF,Hf];rw[rZ (by simp;omega)];simp only[aF,Bool.not_not];cases nz (x.drop (2+n.toNat)) with|true=>rfl|false=>rw[Gx,Gx,ky (l:=2) (i:=2) (j:=2+n.toNat) rfl (by omega) (by omega) (by omega)];simp only[aF];rw[cf (by simp[dC];omega)];rfl
end Go.Proofs.YtlkjdchmeihhkaaGreatDoor
