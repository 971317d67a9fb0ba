import Derived.Test.YtobbmodjdkcdcaaGreatDoorRoundMixesD
import Derived.Test.YtobbmodjdkcdcaaGreatDoorRoundMixesC
import Derived.Test.YtobbmodjdkcdcaaGreatDoorCards
import Derived.Test.YtobbmodjdkcdcaaGreatDoorTie
set_option linter.all false
set_option maxRecDepth 20000
namespace Go.Proofs.YtobbmodjdkcdcaaGreatDoor
open Go Go.Sim Go.ChangeShapes Go.WideShapes Go.ChangeAt Go.RowKit Go.Proofs.Tryz
variable [Fu]
namespace DRoundMixes
theorem over (law:XV):Rows.roundMixesUptoRow.holds Tryz.pinned (Rows.OpenSpec.upto Rows.roundMixesSpec):=OpenClaim.holds_of_cond 3 Tryz.f3 rfl rfl rfl rfl rfl rfl rfl ⟨rfl,rfl,rfl,rfl,rfl⟩ rfl rfl rfl rfl rfl kr func3 closed (Hr kr) (by unfold Func.isWrapper;first|(rw[Il (by decide+kernel)];kernel_rfl)|(rw[Ic (by decide+kernel)];exact⟨rfl,rfl⟩)) (λos started H enc _ F=>by rw[OpenClaim.pre_eq_preRow];exact lifted law os started H enc F)
theorem Y4 (law:XV):Rows.RoundMixesUptoSaid:=over law
theorem plain (f : FuncId) (fn : Func) (hf : Tryz.pinned.checked.prog.funcNamed "churn/churnlaw21.RoundMixes" = some f) (hfn : Tryz.pinned.checked.prog.funcs[f]? = some fn) :
  false=Tryz.pinned.checked.prog.looks []∧∀(j:Nat) t,fn.params[j]? =some t→Tryz.pinned.checked.prog.wantsStandIn t=false:=by
 obtain rfl : f = 3 := Option.some.inj ((show prog.funcNamed "churn/churnlaw21.RoundMixes" = some 3 from kr).symm.trans hf) |>.symm
 obtain rfl:fn=Tryz.f3:=(Option.some.inj (func3.symm.trans hfn)).symm
 refine⟨kr,λj t ht=>?_⟩
 rw[Tryz.params3] at ht
 have hm:t∈[31]:=by simpa using Array.mem_of_getElem? ht
 have hall:([31].all λu=> !prog.wantsStandIn u)=true:=kr
 exact(show prog.wantsStandIn t=false by simpa using Iz.1 hall t hm)
theorem card (law:XV):Rows.RoundMixesUptoCardSaid:=Claim7.holds_tied_plain_at .later [] _ _ _ _ (Y4 law) (λ_ h=>by cases h) kr (λ_ h=>by cases h) roundMixesUpto_row_tie rfl ⟨rfl,rfl⟩ kr rfl plain kr
end DRoundMixes
end Go.Proofs.YtobbmodjdkcdcaaGreatDoor
