/- PRINTED BY gen2.py (of this repo): the row of RoundSifts. -/
import Derived.Test.YtgllljocmpbooaaDoorRoundSiftsD
import Derived.Test.YtgllljocmpbooaaDoorRoundSiftsC
import Derived.Test.YtgllljocmpbooaaDoorCards
import Derived.Test.YtgllljocmpbooaaDoorTie
set_option linter.unusedVariables false
set_option linter.unusedSimpArgs false
set_option maxRecDepth 20000
namespace Go.Proofs.YtgllljocmpbooaaDoor
open Go Go.Sim Go.ChangeShapes Go.WideShapes Go.ChangeAt Go.RowKit
namespace DRoundSifts
theorem over (law : Law) : Rows.roundSiftsUptoRow.holds Tryd.pinned (Rows.OpenSpec.upto Rows.roundSiftsSpec) :=
  OpenClaim.holds_of_cond 3 Tryd.f3 rfl rfl rfl rfl rfl rfl rfl ⟨rfl, rfl, rfl, rfl, rfl⟩ rfl rfl rfl rfl rfl (by kernel_rfl) Tryd.func3 closed
    (of_decide_eq_true (by kernel_rfl)) (by unfold Func.isWrapper; first | (rw [if_pos (by decide +kernel)]; kernel_rfl) | (rw [if_neg (by decide +kernel)]; exact ⟨rfl, rfl⟩))
    (fun os started H enc _ F => by rw [OpenClaim.pre_eq_preRow]; exact lifted law os started H enc F)
theorem said (law : Law) : Rows.RoundSiftsUptoSaid := over law
theorem plain (f : FuncId) (fn : Func) (hf : Tryd.pinned.checked.prog.funcNamed "churn/churnlaw21.RoundSifts" = some f) (hfn : Tryd.pinned.checked.prog.funcs[f]? = some fn) :
    false = Tryd.pinned.checked.prog.looks [] ∧ ∀ (j : Nat) t, fn.params[j]? = some t → Tryd.pinned.checked.prog.wantsStandIn t = false := by
  obtain rfl : f = 3 := Option.some.inj ((show Tryd.prog.funcNamed "churn/churnlaw21.RoundSifts" = some 3 by kernel_rfl).symm.trans hf) |>.symm
  obtain rfl : fn = Tryd.f3 := (Option.some.inj (Tryd.func3.symm.trans hfn)).symm
  refine ⟨by kernel_rfl, fun j t ht => ?_⟩
  rw [Tryd.params3] at ht
  have hm : t ∈ [34] := by simpa using Array.mem_of_getElem? ht
  have hall : ([34].all fun u => !Tryd.prog.wantsStandIn u) = true := by kernel_rfl
  exact (show Tryd.prog.wantsStandIn t = false by simpa using List.all_eq_true.1 hall t hm)
/-- The tied card. -/
theorem card (law : Law) : Rows.RoundSiftsUptoCardSaid :=
  Claim7.holds_tied_plain_at .later [] _ _ _ _ (said law) (fun _ h => by cases h) (by kernel_rfl) (fun _ h => by cases h) roundSiftsUpto_row_tie rfl ⟨rfl, rfl⟩ (by kernel_rfl) rfl plain (by kernel_rfl)
end DRoundSifts
end Go.Proofs.YtgllljocmpbooaaDoor
