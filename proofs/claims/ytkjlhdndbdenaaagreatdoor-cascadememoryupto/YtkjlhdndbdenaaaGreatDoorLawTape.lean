import Derived.Test.YtkjlhdndbdenaaaGreatDoorLawBits
import Derived.Test.YtkjlhdndbdenaaaGreatDoorCm5
set_option autoImplicit true
set_option relaxedAutoImplicit true
set_option linter.all false
set_option maxRecDepth 20000
namespace Go.Proofs.YtkjlhdndbdenaaaGreatDoor
open Go Go.Sim
variable [Fu]
theorem vW:(c7:Int)=17179869184:=rfl
theorem fm:c7=17179869184:=rfl
theorem pt {x:List Int} (h:x.length<2^31):bZ x=some x:=by unfold bZ;rw[bb (by rw[fm];simp;omega)];rfl
theorem vf {α:Type} {xs:List α} {l h:Int} {i j:Nat} (a:l=i) (b:h=j) (h1:i≤j) (h2:j≤xs.length):sub xs l h=some ((xs.take j).drop i):=by subst a;subst b;unfold sub;(have:(decide ((0:Int)≤i)&&decide ((i:Int)≤j)&&decide ((j:Int)≤(xs.length:Int)))=true:=by simp;omega);rw[this,wd];simp
theorem pu {α:Type} {xs:List α} {l:Int} {i:Nat} (a:l=i) (h1:i≤xs.length):sub xs l (xs.length:Int)=some (xs.drop i):=by rw[vf a rfl h1 (wy _),w5]
theorem mZ {α:Type} {xs:List α} {h:Int} {j:Nat} (a:h=j) (h2:j≤xs.length):sub xs 0 h=some (xs.take j):=by rw[vf (l:=0) (i:=0) rfl a (xf _) h2,xk]
theorem pv {α:Type} (g:Nat→α) (i:Nat):(List.range i).map g++[g i]=(List.range (i+1)).map g:=by rw[yX,xz];rfl
end Go.Proofs.YtkjlhdndbdenaaaGreatDoor
