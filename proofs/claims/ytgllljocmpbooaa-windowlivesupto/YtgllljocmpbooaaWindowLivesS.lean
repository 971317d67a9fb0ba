/- PRINTED BY gen2.py (of this repo): the row of WindowLives. -/
import Derived.Test.YtgllljocmpbooaaWindowLivesD
import Derived.Test.YtgllljocmpbooaaWindowLivesC
set_option linter.unusedVariables false
set_option linter.unusedSimpArgs false
set_option maxRecDepth 20000
namespace Go.Proofs.Ytgllljocmpbooaa
open Go Go.Sim Go.ChangeShapes Go.WideShapes Go.ChangeAt Go.RowKit
namespace DWindowLives
theorem over (law : Law) : Rows.windowLivesUptoRow.holds Try.pinned (Rows.OpenSpec.upto Rows.windowLivesSpec) :=
  OpenClaim.holds_of_cond 8 Try.f8 rfl rfl rfl rfl rfl rfl rfl ⟨rfl, rfl, rfl, rfl, rfl⟩ rfl rfl rfl rfl rfl (by kernel_rfl) Try.func8 closed
    (of_decide_eq_true (by kernel_rfl)) (by unfold Func.isWrapper; first | (rw [if_pos (by decide +kernel)]; kernel_rfl) | (rw [if_neg (by decide +kernel)]; exact ⟨rfl, rfl⟩))
    (fun os started H enc _ F => lifted law os started H enc F)
theorem said (law : Law) : Rows.WindowLivesUptoSaid := over law
end DWindowLives
end Go.Proofs.Ytgllljocmpbooaa
