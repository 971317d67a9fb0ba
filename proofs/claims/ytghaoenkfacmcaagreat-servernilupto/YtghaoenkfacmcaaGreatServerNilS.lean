/- PRINTED BY gen2.py (of this repo): the row of ServerNil. -/
import Derived.Test.YtghaoenkfacmcaaGreatServerNilD
import Derived.Test.YtghaoenkfacmcaaGreatServerNilC
set_option linter.unusedVariables false
set_option linter.unusedSimpArgs false
set_option maxRecDepth 20000
namespace Go.Proofs.YtghaoenkfacmcaaGreat
open Go Go.Sim Go.ChangeShapes Go.WideShapes Go.ChangeAt Go.RowKit
namespace DServerNil
theorem over (law : Law) : (unleave Rows.serverNilUptoRow).holds Tryz.pinned (Rows.OpenSpec.upto Rows.serverNilSpec) :=
  OpenClaim.holds_of_cond 3 Tryz.f3 rfl rfl rfl rfl rfl rfl rfl ⟨rfl, rfl, rfl, rfl, rfl⟩ rfl rfl rfl rfl rfl (by kernel_rfl) Tryz.func3 closed
    (of_decide_eq_true (by kernel_rfl)) (by unfold Func.isWrapper; first | (rw [if_pos (by decide +kernel)]; kernel_rfl) | (rw [if_neg (by decide +kernel)]; exact ⟨rfl, rfl⟩))
    (fun os started H enc _ F => lifted law os started H enc F)
theorem said (law : Law) : Rows.ServerNilUptoSaid := holds_leaving rfl rfl rfl rfl (over law)
end DServerNil
end Go.Proofs.YtghaoenkfacmcaaGreat
