import Derived.Test.YtobbmodjdkcdcaaGreatDoorRo7
set_option linter.all false
set_option maxRecDepth 20000
namespace Go.Proofs.YtobbmodjdkcdcaaGreatDoor
open Go Go.Sim Go.ChangeShapes Go.WideShapes Go.ChangeAt Go.RowKit Go.Proofs.Tryz
variable [Fu]
namespace DRoundOnce
theorem closed:joinedFacts Tryz.pinned.checked.prog 7 Tryz.f7 (Rows.OpenSpec.upto Rows.roundOnceSpec).bare Rows.roundOnceUptoRow=true:=kr
end DRoundOnce
end Go.Proofs.YtobbmodjdkcdcaaGreatDoor
