import Derived.Test.YtobbmodjdkcdcaaGreatDoorRoundOnceD
import Derived.Test.YtobbmodjdkcdcaaGreatDoorRoundOnceC
import Derived.Test.YtobbmodjdkcdcaaGreatDoorCards
import Derived.Test.YtobbmodjdkcdcaaGreatDoorTie
set_option linter.all false
set_option maxRecDepth 20000
namespace Go.Proofs.YtobbmodjdkcdcaaGreatDoor
open Go Go.Sim Go.ChangeShapes Go.WideShapes Go.ChangeAt Go.RowKit Go.Proofs.Tryz
variable [Fu]
namespace DRoundOnce
theorem over (law:Law):Rows.roundOnceUptoRow.holds Tryz.pinned (Rows.OpenSpec.upto Rows.roundOnceSpec):=OpenClaim.holds_of_cond 7 Tryz.f7 rfl rfl rfl rfl rfl rfl rfl ⟨rfl,rfl,rfl,rfl,rfl⟩ rfl rfl rfl rfl rfl kr func7 closed (of_decide_eq_true kr) (by unfold Func.isWrapper;first|(rw[if_pos (by decide+kernel)];kernel_rfl)|(rw[if_neg (by decide+kernel)];exact⟨rfl,rfl⟩)) (λos started H enc _ F=>by rw[OpenClaim.pre_eq_preRow];exact lifted law os started H enc F)
theorem said (law:Law):Rows.RoundOnceUptoSaid:=over law
theorem plain (f : FuncId) (fn : Func) (hf : Tryz.pinned.checked.prog.funcNamed "churn/churnlaw21.RoundOnce" = some f) (hfn : Tryz.pinned.checked.prog.funcs[f]? = some fn) :
  false=Tryz.pinned.checked.prog.looks []∧∀(j:Nat) t,fn.params[j]? =some t→Tryz.pinned.checked.prog.wantsStandIn t=false:=by
 obtain rfl : f = 7 := Option.some.inj ((show prog.funcNamed "churn/churnlaw21.RoundOnce" = some 7 from kr).symm.trans hf) |>.symm
 obtain rfl:fn=Tryz.f7:=(Option.some.inj (func7.symm.trans hfn)).symm
 refine⟨kr,λj t ht=>?_⟩
 rw[Tryz.params7] at ht
 have hm:t∈[31,2,22]:=by simpa using Array.mem_of_getElem? ht
 have hall:([31,2,22].all λu=> !prog.wantsStandIn u)=true:=kr
 exact(show prog.wantsStandIn t=false by simpa using List.all_eq_true.1 hall t hm)
theorem card (law:Law):Rows.RoundOnceUptoCardSaid:=Claim7.holds_tied_plain_at .later [] _ _ _ _ (said law) (λ_ h=>by cases h) kr (λ_ h=>by cases h) roundOnceUpto_row_tie rfl ⟨rfl,rfl⟩ kr rfl plain kr
end DRoundOnce
end Go.Proofs.YtobbmodjdkcdcaaGreatDoor
