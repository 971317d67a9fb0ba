/- PRINTED BY gen2.py (of this repo): the row of WindowOpens. -/
import Derived.Test.YtgllljocmpbooaaWindowOpensD
import Derived.Test.YtgllljocmpbooaaWindowOpensC
set_option linter.unusedVariables false
set_option linter.unusedSimpArgs false
set_option maxRecDepth 20000
namespace Go.Proofs.Ytgllljocmpbooaa
open Go Go.Sim Go.ChangeShapes Go.WideShapes Go.ChangeAt Go.RowKit
namespace DWindowOpens
theorem over (law : Law) : Rows.windowOpensUptoRow.holds Try.pinned (Rows.OpenSpec.upto Rows.windowOpensSpec) :=
  OpenClaim.holds_of_cond 6 Try.f6 rfl rfl rfl rfl rfl rfl rfl ⟨rfl, rfl, rfl, rfl, rfl⟩ rfl rfl rfl rfl rfl (by kernel_rfl) Try.func6 closed
    (of_decide_eq_true (by kernel_rfl)) (by unfold Func.isWrapper; first | (rw [if_pos (by decide +kernel)]; kernel_rfl) | (rw [if_neg (by decide +kernel)]; exact ⟨rfl, rfl⟩))
    (fun os started H enc _ F => lifted law os started H enc F)
theorem said (law : Law) : Rows.WindowOpensUptoSaid := over law
end DWindowOpens
end Go.Proofs.Ytgllljocmpbooaa
