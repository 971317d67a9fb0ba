import Derived.Test.YtobbmodjdkcdcaaGreatDoorBp6
set_option linter.unusedVariables false
set_option linter.unusedSimpArgs false
set_option maxRecDepth 20000
namespace Go.Proofs.YtobbmodjdkcdcaaGreatDoor
open Go Go.Sim Go.ChangeShapes Go.WideShapes Go.ChangeAt Go.RowKit
set_option linter.unusedSectionVars false
variable [Fu]
namespace DBackPlaces
theorem closed:joinedFacts Tryz.pinned.checked.prog 13 Tryz.f13 (Rows.OpenSpec.upto Rows.backPlacesSpec).bare Rows.backPlacesUptoRow=true:=by kernel_rfl
end DBackPlaces
end Go.Proofs.YtobbmodjdkcdcaaGreatDoor
