import Derived.Test.YtdkfkpbijdimkaaGreatServerLoadsD
import Derived.Test.YtdkfkpbijdimkaaGreatServerLoadsC
set_option linter.unusedVariables false
set_option linter.unusedSimpArgs false
set_option maxRecDepth 20000
namespace Go.Proofs.YtdkfkpbijdimkaaGreat
open Go Go.Sim Go.ChangeShapes Go.WideShapes Go.ChangeAt Go.RowKit
set_option linter.unusedSectionVars false
variable [Fu]
namespace DServerLoads
theorem over (law:Law):(unleave Rows.serverLoadsUptoRow).holds Tryz.pinned (Rows.OpenSpec.upto Rows.serverLoadsSpec):=
 OpenClaim.holds_of_cond 3 Tryz.f3 rfl rfl rfl rfl rfl rfl rfl ⟨rfl,rfl,rfl,rfl,rfl⟩ rfl rfl rfl rfl rfl (by kernel_rfl) Tryz.func3 closed
  (of_decide_eq_true (by kernel_rfl)) (by unfold Func.isWrapper;first|(rw[if_pos (by decide+kernel)];kernel_rfl)|(rw[if_neg (by decide+kernel)];exact⟨rfl,rfl⟩))
  (fun os started H enc _ F=>lifted law os started H enc F)
theorem said (law:Law):Rows.ServerLoadsUptoSaid:=fb rfl rfl rfl rfl (over law)
end DServerLoads
end Go.Proofs.YtdkfkpbijdimkaaGreat
