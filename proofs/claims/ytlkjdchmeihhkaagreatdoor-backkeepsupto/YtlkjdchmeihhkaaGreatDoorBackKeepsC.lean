import Derived.Test.YtlkjdchmeihhkaaGreatDoorBk8
set_option linter.all false
set_option maxRecDepth 20000
namespace Go.Proofs.YtlkjdchmeihhkaaGreatDoor
open Go Go.Sim Go.ChangeShapes Go.WideShapes Go.ChangeAt Go.RowKit Go.Proofs.Tryz
variable [Fu]
namespace DBackKeeps
theorem closed:joinedFacts Tryz.pinned.checked.prog 5 Tryz.f5 (Rows.OpenSpec.upto Rows.backKeepsSpec).bare Rows.backKeepsUptoRow=true:=kr
end DBackKeeps
end Go.Proofs.YtlkjdchmeihhkaaGreatDoor
