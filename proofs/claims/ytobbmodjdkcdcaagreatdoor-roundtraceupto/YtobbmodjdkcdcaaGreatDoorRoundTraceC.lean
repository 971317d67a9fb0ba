import Derived.Test.YtobbmodjdkcdcaaGreatDoorRt8
set_option linter.all false
set_option maxRecDepth 20000
namespace Go.Proofs.YtobbmodjdkcdcaaGreatDoor
open Go Go.Sim Go.ChangeShapes Go.WideShapes Go.ChangeAt Go.RowKit Go.Proofs.Tryz
variable [Fu]
namespace DRoundTrace
theorem closed:joinedFacts Tryz.pinned.checked.prog 6 Tryz.f6 (Rows.OpenSpec.upto Rows.roundTraceSpec).bare Rows.roundTraceUptoRow=true:=kr
end DRoundTrace
end Go.Proofs.YtobbmodjdkcdcaaGreatDoor
