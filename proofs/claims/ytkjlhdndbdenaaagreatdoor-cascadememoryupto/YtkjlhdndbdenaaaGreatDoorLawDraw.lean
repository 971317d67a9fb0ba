import Derived.Test.YtkjlhdndbdenaaaGreatDoorLawTape
set_option linter.all false
set_option maxRecDepth 20000
namespace Go.Proofs.YtkjlhdndbdenaaaGreatDoor
open Go Go.Sim
variable [Fu]
theorem fj {bs:List Int} (h:aT bs) (u:Nat):0≤bs.getD u 0∧bs.getD u 0≤255:=by by_cases c:u<bs.length;simp only[List.getD,ya c,yP];exact h _ (xQ c);simp only[List.getD,yi (by omega:bs.length≤u),Option.getD_none];omega
end Go.Proofs.YtkjlhdndbdenaaaGreatDoor
