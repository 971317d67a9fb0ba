import Derived.Test.YtobbmodjdkcdcaaGreatDoorBackReturnsD
import Derived.Test.YtobbmodjdkcdcaaGreatDoorBackReturnsC
import Derived.Test.YtobbmodjdkcdcaaGreatDoorCards
import Derived.Test.YtobbmodjdkcdcaaGreatDoorTie
set_option linter.unusedVariables false
set_option linter.unusedSimpArgs false
set_option maxRecDepth 20000
namespace Go.Proofs.YtobbmodjdkcdcaaGreatDoor
open Go Go.Sim Go.ChangeShapes Go.WideShapes Go.ChangeAt Go.RowKit
set_option linter.unusedSectionVars false
variable [Fu]
namespace DBackReturns
theorem over (law:Law):Rows.backReturnsUptoRow.holds Tryz.pinned (Rows.OpenSpec.upto Rows.backReturnsSpec):=
 OpenClaim.holds_of_cond 11 Tryz.f11 rfl rfl rfl rfl rfl rfl rfl ⟨rfl,rfl,rfl,rfl,rfl⟩ rfl rfl rfl rfl rfl (by kernel_rfl) Tryz.func11 closed
  (of_decide_eq_true (by kernel_rfl)) (by unfold Func.isWrapper;first|(rw[if_pos (by decide+kernel)];kernel_rfl)|(rw[if_neg (by decide+kernel)];exact⟨rfl,rfl⟩))
  (fun os started H enc _ F=>by rw[OpenClaim.pre_eq_preRow];exact lifted law os started H enc F)
theorem said (law:Law):Rows.BackReturnsUptoSaid:=over law
theorem plain (f : FuncId) (fn : Func) (hf : Tryz.pinned.checked.prog.funcNamed "churn/churnlaw29.BackReturns" = some f) (hfn : Tryz.pinned.checked.prog.funcs[f]? = some fn) :
  false=Tryz.pinned.checked.prog.looks []∧∀(j:Nat) t,fn.params[j]? =some t→Tryz.pinned.checked.prog.wantsStandIn t=false:=by
 obtain rfl : f = 11 := Option.some.inj ((show Tryz.prog.funcNamed "churn/churnlaw29.BackReturns" = some 11 by kernel_rfl).symm.trans hf) |>.symm
 obtain rfl:fn=Tryz.f11:=(Option.some.inj (Tryz.func11.symm.trans hfn)).symm
 refine⟨by kernel_rfl,fun j t ht=>?_⟩
 rw[Tryz.params11] at ht
 have hm:t∈[96]:=by simpa using Array.mem_of_getElem? ht
 have hall:([96].all fun u=> !Tryz.prog.wantsStandIn u)=true:=by kernel_rfl
 exact(show Tryz.prog.wantsStandIn t=false by simpa using List.all_eq_true.1 hall t hm)
theorem card (law:Law):Rows.BackReturnsUptoCardSaid:=
 Claim7.holds_tied_plain_at .later [] _ _ _ _ (said law) (fun _ h=>by cases h) (by kernel_rfl) (fun _ h=>by cases h) backReturnsUpto_row_tie rfl ⟨rfl,rfl⟩ (by kernel_rfl) rfl plain (by kernel_rfl)
end DBackReturns
end Go.Proofs.YtobbmodjdkcdcaaGreatDoor
