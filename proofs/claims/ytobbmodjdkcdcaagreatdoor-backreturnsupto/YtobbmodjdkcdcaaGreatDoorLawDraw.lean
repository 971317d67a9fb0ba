import Derived.Test.YtobbmodjdkcdcaaGreatDoorLawTape
set_option linter.unusedVariables false
set_option linter.unusedSimpArgs false
set_option maxRecDepth 20000
namespace Go.Proofs.YtobbmodjdkcdcaaGreatDoor
open Go Go.Sim
set_option linter.unusedSectionVars false
variable [Fu]
theorem hQ {bs:List Int} (h:aS bs) (u:Nat):0≤bs.getD u 0∧bs.getD u 0≤255:=by
 by_cases c:u<bs.length
 · simp only[List.getD,List.getElem?_eq_getElem c,Option.getD_some];exact h _ (List.getElem_mem c)
 · simp only[List.getD,List.getElem?_eq_none (by omega:bs.length≤u),Option.getD_none];omega
end Go.Proofs.YtobbmodjdkcdcaaGreatDoor
