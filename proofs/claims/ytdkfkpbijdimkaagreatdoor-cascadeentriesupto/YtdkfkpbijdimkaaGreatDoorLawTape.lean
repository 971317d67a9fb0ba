import Derived.Test.YtdkfkpbijdimkaaGreatDoorLawBits
import Derived.Test.YtdkfkpbijdimkaaGreatDoorCe3
set_option linter.unusedVariables false
set_option linter.unusedSimpArgs false
set_option maxRecDepth 20000
namespace Go.Proofs.YtdkfkpbijdimkaaGreatDoor
open Go Go.Sim
set_option linter.unusedSectionVars false
variable [Fu]
theorem mW:(room:Int)=17179869184:=rfl
theorem cX:room=17179869184:=rfl
theorem j8 {x:List Int} (h:x.length<2^31):aW x=some x:=by
 unfold aW
 rw[cf (by rw[cX];simp;omega)];rfl
theorem mF {α:Type} {xs:List α} {l h:Int} {i j:Nat} (hl:l=i) (hh:h=j) (h1:i≤j) (h2:j≤xs.length):sub xs l h=some ((xs.take j).drop i):=by
 subst hl;subst hh;unfold sub
 have:(decide ((0:Int)≤i)&&decide ((i:Int)≤j)&&decide ((j:Int)≤(xs.length:Int)))=true:=by simp;omega
 rw[this,cond_true];simp
theorem j9 {α:Type} {xs:List α} {l:Int} {i:Nat} (hl:l=i) (h1:i≤xs.length):sub xs l (xs.length:Int)=some (xs.drop i):=by
 rw[mF hl rfl h1 (Nat.le_refl _),List.take_length]
theorem jb {α:Type} {xs:List α} {h:Int} {j:Nat} (hh:h=j) (h2:j≤xs.length):sub xs 0 h=some (xs.take j):=by
 rw[mF (l:=0) (i:=0) rfl hh (Nat.zero_le _) h2,List.drop_zero]
theorem ka {α:Type} (g:Nat→α) (i:Nat):(List.range i).map g++[g i]=(List.range (i+1)).map g:=by rw[List.range_succ,List.map_append];rfl
end Go.Proofs.YtdkfkpbijdimkaaGreatDoor
