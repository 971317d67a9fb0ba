import Derived.Test.YtkjlhdndbdenaaaGreatDoorCm5
set_option linter.all false
set_option maxRecDepth 20000
namespace Go.Proofs.YtkjlhdndbdenaaaGreatDoor
open Go Go.Sim Go.ChangeShapes Go.WideShapes Go.ChangeAt Go.RowKit Go.Proofs.Tryz
variable [Fu]
namespace DCascadeMemory
theorem closed:joinedFacts Tryz.pinned.checked.prog 3 Tryz.f3 (Rows.OpenSpec.upto Rows.cascadeMemorySpec).bare (kK Rows.cascadeMemoryUptoRow)=true:=kr
end DCascadeMemory
end Go.Proofs.YtkjlhdndbdenaaaGreatDoor
