import Derived.Test.YtobbmodjdkcdcaaGreatDoorLawScan
import Derived.Test.YtobbmodjdkcdcaaGreatDoorBr7
set_option linter.unusedVariables false
set_option linter.unusedSimpArgs false
set_option maxRecDepth 20000
namespace Go.Proofs.YtobbmodjdkcdcaaGreatDoor
open Go Go.Sim
set_option linter.unusedSectionVars false
variable [Fu]
theorem AZ:(room:Int)=17179869184:=rfl
theorem iE:room=17179869184:=rfl
theorem vc {x:List Int} (h:x.length<2^31):cj x=some x:=by
 unfold cj
 rw[bK (by rw[iE];simp;omega)];rfl
theorem Ay {α:Type} {xs:List α} {l h:Int} {i j:Nat} (hl:l=i) (hh:h=j) (h1:i≤j) (h2:j≤xs.length):sub xs l h=some ((xs.take j).drop i):=by
 subst hl;subst hh;unfold sub
 have:(decide ((0:Int)≤i)&&decide ((i:Int)≤j)&&decide ((j:Int)≤(xs.length:Int)))=true:=by simp;omega
 rw[this,cond_true];simp
theorem vd {α:Type} {xs:List α} {l:Int} {i:Nat} (hl:l=i) (h1:i≤xs.length):sub xs l (xs.length:Int)=some (xs.drop i):=by
 rw[Ay hl rfl h1 (Nat.le_refl _),List.take_length]
theorem sK {α:Type} {xs:List α} {h:Int} {j:Nat} (hh:h=j) (h2:j≤xs.length):sub xs 0 h=some (xs.take j):=by
 rw[Ay (l:=0) (i:=0) rfl hh (Nat.zero_le _) h2,List.drop_zero]
theorem ve {α:Type} (g:Nat→α) (i:Nat):(List.range i).map g++[g i]=(List.range (i+1)).map g:=by rw[List.range_succ,List.map_append];rfl
end Go.Proofs.YtobbmodjdkcdcaaGreatDoor
