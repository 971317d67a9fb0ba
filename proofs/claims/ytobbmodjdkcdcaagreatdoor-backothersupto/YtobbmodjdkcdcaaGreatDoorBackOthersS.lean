/- PRINTED BY gen2.py (of this repo): the row of BackOthers. -/
import Derived.Test.YtobbmodjdkcdcaaGreatDoorBackOthersD
import Derived.Test.YtobbmodjdkcdcaaGreatDoorBackOthersC
import Derived.Test.YtobbmodjdkcdcaaGreatDoorCards
import Derived.Test.YtobbmodjdkcdcaaGreatDoorTie
set_option linter.unusedVariables false
set_option linter.unusedSimpArgs false
set_option maxRecDepth 20000
namespace Go.Proofs.YtobbmodjdkcdcaaGreatDoor
open Go Go.Sim Go.ChangeShapes Go.WideShapes Go.ChangeAt Go.RowKit
namespace DBackOthers
theorem over (law : Law) : Rows.backOthersUptoRow.holds Tryz.pinned (Rows.OpenSpec.upto Rows.backOthersSpec) :=
  OpenClaim.holds_of_cond 14 Tryz.f14 rfl rfl rfl rfl rfl rfl rfl ⟨rfl, rfl, rfl, rfl, rfl⟩ rfl rfl rfl rfl rfl (by kernel_rfl) Tryz.func14 closed
    (of_decide_eq_true (by kernel_rfl)) (by unfold Func.isWrapper; first | (rw [if_pos (by decide +kernel)]; kernel_rfl) | (rw [if_neg (by decide +kernel)]; exact ⟨rfl, rfl⟩))
    (fun os started H enc _ F => by rw [OpenClaim.pre_eq_preRow]; exact lifted law os started H enc F)
theorem said (law : Law) : Rows.BackOthersUptoSaid := over law
theorem plain (f : FuncId) (fn : Func) (hf : Tryz.pinned.checked.prog.funcNamed "churn/churnlaw29.BackOthers" = some f) (hfn : Tryz.pinned.checked.prog.funcs[f]? = some fn) :
    false = Tryz.pinned.checked.prog.looks [] ∧ ∀ (j : Nat) t, fn.params[j]? = some t → Tryz.pinned.checked.prog.wantsStandIn t = false := by
  obtain rfl : f = 14 := Option.some.inj ((show Tryz.prog.funcNamed "churn/churnlaw29.BackOthers" = some 14 by kernel_rfl).symm.trans hf) |>.symm
  obtain rfl : fn = Tryz.f14 := (Option.some.inj (Tryz.func14.symm.trans hfn)).symm
  refine ⟨by kernel_rfl, fun j t ht => ?_⟩
  rw [Tryz.params14] at ht
  have hm : t ∈ [96, 110] := by simpa using Array.mem_of_getElem? ht
  have hall : ([96, 110].all fun u => !Tryz.prog.wantsStandIn u) = true := by kernel_rfl
  exact (show Tryz.prog.wantsStandIn t = false by simpa using List.all_eq_true.1 hall t hm)
/-- The tied card. -/
theorem card (law : Law) : Rows.BackOthersUptoCardSaid :=
  Claim7.holds_tied_plain_at .later [] _ _ _ _ (said law) (fun _ h => by cases h) (by kernel_rfl) (fun _ h => by cases h) backOthersUpto_row_tie rfl ⟨rfl, rfl⟩ (by kernel_rfl) rfl plain (by kernel_rfl)
end DBackOthers
end Go.Proofs.YtobbmodjdkcdcaaGreatDoor
