import Derived.Test.YtobbmodjdkcdcaaGreatDoorLawAlike
set_option linter.all false
set_option maxRecDepth 20000
set_option maxHeartbeats 1000000
namespace Go.Proofs.YtobbmodjdkcdcaaGreatDoor
open Go Go.Sim
variable [Fu]
theorem Dh {p:List Int} (h:vd p=true) {i:Nat} (hi:i<p.length):0≤p.getD i 0∧p.getD i 0<p.length:=by have:=eZ.1 h i (HH _) (by omega);unfold TX at this;simp only[Hx,HB] at this;exact this.1
end Go.Proofs.YtobbmodjdkcdcaaGreatDoor
