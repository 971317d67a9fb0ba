/- PRINTED BY gen2.py (of this repo): the row of WindowHolds. -/
import Derived.Test.YtgllljocmpbooaaWindowHoldsD
import Derived.Test.YtgllljocmpbooaaWindowHoldsC
set_option linter.unusedVariables false
set_option linter.unusedSimpArgs false
set_option maxRecDepth 20000
namespace Go.Proofs.Ytgllljocmpbooaa
open Go Go.Sim Go.ChangeShapes Go.WideShapes Go.ChangeAt Go.RowKit
namespace DWindowHolds
theorem over (law : Law) : Rows.windowHoldsUptoRow.holds Try.pinned (Rows.OpenSpec.upto Rows.windowHoldsSpec) :=
  OpenClaim.holds_of_cond 9 Try.f9 rfl rfl rfl rfl rfl rfl rfl ⟨rfl, rfl, rfl, rfl, rfl⟩ rfl rfl rfl rfl rfl (by kernel_rfl) Try.func9 closed
    (of_decide_eq_true (by kernel_rfl)) (by unfold Func.isWrapper; first | (rw [if_pos (by decide +kernel)]; kernel_rfl) | (rw [if_neg (by decide +kernel)]; exact ⟨rfl, rfl⟩))
    (fun os started H enc _ F => lifted law os started H enc F)
theorem said (law : Law) : Rows.WindowHoldsUptoSaid := over law
end DWindowHolds
end Go.Proofs.Ytgllljocmpbooaa
