import Derived.Test.YtlkjdchmeihhkaaGreatDoorBf10
set_option linter.all false
set_option maxRecDepth 20000
namespace Go.Proofs.YtlkjdchmeihhkaaGreatDoor
open Go Go.Sim Go.ChangeShapes Go.WideShapes Go.ChangeAt Go.RowKit Go.Proofs.Tryz
variable [Fu]
namespace DBackForwards
theorem closed:joinedFacts Tryz.pinned.checked.prog 4 Tryz.f4 (Rows.OpenSpec.upto Rows.backForwardsSpec).bare Rows.backForwardsUptoRow=true:=kr
end DBackForwards
end Go.Proofs.YtlkjdchmeihhkaaGreatDoor
