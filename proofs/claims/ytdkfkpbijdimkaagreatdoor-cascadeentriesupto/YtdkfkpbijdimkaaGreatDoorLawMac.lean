import Derived.Test.YtdkfkpbijdimkaaGreatDoorLawHash3
set_option linter.unusedVariables false
set_option linter.unusedSimpArgs false
set_option maxRecDepth 20000
namespace Go.Proofs.YtdkfkpbijdimkaaGreatDoor
open Go Go.Sim
set_option linter.unusedSectionVars false
variable [Fu]
theorem fO {α:Type} {xs:List α} {l h:Int} {i j:Nat} (hl:l=i) (hh:h=j) (h1:i≤j) (h2:j≤xs.length):sub xs l h=some ((xs.take j).drop i):=by
 subst hl hh
 unfold sub
 have e:(decide (0≤(i:Int))&&decide ((i:Int)≤(j:Int))&&decide ((j:Int)≤(xs.length:Int)))=true:=by simp;omega
 rw[e];rfl
theorem jZ {α:Type} {xs:List α} {h:Int} {j:Nat} (hh:h=j) (h2:j≤xs.length):sub xs 0 h=some (xs.take j):=by
 rw[fO (l:=0) (i:=0) rfl hh (by omega) h2];rfl
theorem iq {a:List Int} (h:aI a) (i:Nat):0≤a.getD i 0∧a.getD i 0≤255:=by
 by_cases hi:i<a.length
 · have:=h _ (List.getElem_mem hi);simp[hi];exact this
 · simp[hi]
end Go.Proofs.YtdkfkpbijdimkaaGreatDoor
