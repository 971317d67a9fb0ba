/- PRINTED BY gen2.py (of this repo): the row of WindowPieces. -/
import Derived.Test.YtgllljocmpbooaaWindowPiecesD
import Derived.Test.YtgllljocmpbooaaWindowPiecesC
set_option linter.unusedVariables false
set_option linter.unusedSimpArgs false
set_option maxRecDepth 20000
namespace Go.Proofs.Ytgllljocmpbooaa
open Go Go.Sim Go.ChangeShapes Go.WideShapes Go.ChangeAt Go.RowKit
namespace DWindowPieces
theorem over (law : Law) : Rows.windowPiecesUptoRow.holds Try.pinned (Rows.OpenSpec.upto Rows.windowPiecesSpec) :=
  OpenClaim.holds_of_cond 10 Try.f10 rfl rfl rfl rfl rfl rfl rfl ⟨rfl, rfl, rfl, rfl, rfl⟩ rfl rfl rfl rfl rfl (by kernel_rfl) Try.func10 closed
    (of_decide_eq_true (by kernel_rfl)) (by unfold Func.isWrapper; first | (rw [if_pos (by decide +kernel)]; kernel_rfl) | (rw [if_neg (by decide +kernel)]; exact ⟨rfl, rfl⟩))
    (fun os started H enc _ F => lifted law os started H enc F)
theorem said (law : Law) : Rows.WindowPiecesUptoSaid := over law
end DWindowPieces
end Go.Proofs.Ytgllljocmpbooaa
