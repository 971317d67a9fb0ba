import Derived.Test.YtobbmodjdkcdcaaGreatDoorLawFrame
set_option linter.all false
set_option maxRecDepth 20000
set_option maxHeartbeats 1000000
namespace Go.Proofs.YtobbmodjdkcdcaaGreatDoor
open Go Go.Sim
open Go.IntKind (wrap)
variable [Fu]
abbrev FSt:=(List Int)×(List (List Int))×(List Int)×Int×Int×Int×aD×aN×Int×Int
noncomputable def kS:FSt→Option (Qp FSt ((List (List Int))×(List Int)×Int×Int×Int×aD×aN×Int×Int)):=λ(x324,x326,x328,x329,x330,x331,x332,x333,x334,x335)=>bif x334==0 then (db (⟨x328,x329,x330,x331,x332,x333,x334,x335⟩:be)).bind λy394=>bif decide ((wrap .i64 (y394 - (x328.length:Int)))>(x324.length:Int)) then (app x328 x324).bind λz396=>some (.done (x326,z396,wrap .i64 (x329+(x324.length:Int)),x330,x331,x332,x333,x334,x335)) else (sub x324 0 (wrap .i64 (y394 - (x328.length:Int)))).bind λx403=>(app x328 x403).bind λz405=>(sub x324 (wrap .i64 (y394 - (x328.length:Int))) (x324.length:Int)).bind λx409=>((bif x330==7 then (cW z405).bind λy430=>(app x326 [y430]).bind λz433=>some z433 else some x326 :Option (List (List Int)))).bind λx418=>(cM (⟨z405,wrap .i64 (x329+(wrap .i64 (y394 - (x328.length:Int)))),x330,x331,x332,x333,x334,x335⟩:be)).bind λy422=>bif y422.1 != 0 then some (.done (x418,y422.2.field,y422.2.at_,y422.2.stage,y422.2.left,y422.2.header,y422.2.sum,y422.1,wrap .i64 (y422.2.at_ - (y422.2.field.length:Int)))) else bif decide ((0:Int)≤0∧(0:Int)≤0∧(0:Int)≤(y422.2.field.length:Int)) then some (.next (x409,x418,List.take (Int.toNat 0) y422.2.field,y422.2.at_,y422.2.stage,y422.2.left,y422.2.header,y422.2.sum,y422.1,y422.2.place)) else none else some (.done (x326,x328,x329,x330,x331,x332,x333,x334,x335))
end Go.Proofs.YtobbmodjdkcdcaaGreatDoor
