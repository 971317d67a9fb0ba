import Derived.Test.YtobbmodjdkcdcaaGreatDoorLawFrame3
set_option linter.unusedVariables false
set_option linter.unusedSimpArgs false
set_option linter.unusedSectionVars false
set_option maxRecDepth 20000
set_option maxHeartbeats 1000000
namespace Go.Proofs.YtobbmodjdkcdcaaGreatDoor
open Go Go.Sim
variable [Fu]
abbrev FSt:=(List Int)×(List (List Int))×(List Int)×Int×Int×Int×ab×ak×Int×Int
noncomputable def il:FSt→Option (Ctl FSt ((List (List Int))×(List Int)×Int×Int×Int×ab×ak×Int×Int)):=fun(x324,x326,x328,x329,x330,x331,x332,x333,x334,x335)=>
 bif x334==0 then
  (cm (⟨x328,x329,x330,x331,x332,x333,x334,x335⟩:aD)).bind fun y394=>
  bif decide ((IntKind.wrap .i64 (y394 - (x328.length:Int)))>(x324.length:Int)) then
   (app x328 x324).bind fun z396=>
   some (.done (x326,z396,IntKind.wrap .i64 (x329+(x324.length:Int)),x330,x331,x332,x333,x334,x335))
  else
   (sub x324 0 (IntKind.wrap .i64 (y394 - (x328.length:Int)))).bind fun x403=>
   (app x328 x403).bind fun z405=>
   (sub x324 (IntKind.wrap .i64 (y394 - (x328.length:Int))) (x324.length:Int)).bind fun x409=>
   ((bif x330==7 then
    (cj z405).bind fun y430=>
    (app x326 [y430]).bind fun z433=>
    some z433
   else
    some x326
    :Option (List (List Int)))).bind fun x418=>
   (bV (⟨z405,IntKind.wrap .i64 (x329+(IntKind.wrap .i64 (y394 - (x328.length:Int)))),x330,x331,x332,x333,x334,x335⟩:aD)).bind fun y422=>
   bif y422.1 != 0 then
    some (.done (x418,y422.2.field,y422.2.at_,y422.2.stage,y422.2.left,y422.2.header,y422.2.sum,y422.1,IntKind.wrap .i64 (y422.2.at_ - (y422.2.field.length:Int))))
   else
    bif decide ((0:Int)≤0∧(0:Int)≤0∧(0:Int)≤(y422.2.field.length:Int)) then
    some (.next (x409,x418,List.take (Int.toNat 0) y422.2.field,y422.2.at_,y422.2.stage,y422.2.left,y422.2.header,y422.2.sum,y422.1,y422.2.place))
    else none
 else
  some (.done (x326,x328,x329,x330,x331,x332,x333,x334,x335))
end Go.Proofs.YtobbmodjdkcdcaaGreatDoor
