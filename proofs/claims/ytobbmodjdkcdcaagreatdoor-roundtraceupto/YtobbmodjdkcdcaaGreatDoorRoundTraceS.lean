import Derived.Test.YtobbmodjdkcdcaaGreatDoorRoundTraceD
import Derived.Test.YtobbmodjdkcdcaaGreatDoorRoundTraceC
import Derived.Test.YtobbmodjdkcdcaaGreatDoorCards
import Derived.Test.YtobbmodjdkcdcaaGreatDoorTie
set_option linter.all false
set_option maxRecDepth 20000
namespace Go.Proofs.YtobbmodjdkcdcaaGreatDoor
open Go Go.Sim Go.ChangeShapes Go.WideShapes Go.ChangeAt Go.RowKit Go.Proofs.Tryz
variable [Fu]
namespace DRoundTrace
theorem over (law:Law):Rows.roundTraceUptoRow.holds Tryz.pinned (Rows.OpenSpec.upto Rows.roundTraceSpec):=OpenClaim.holds_of_cond 6 Tryz.f6 rfl rfl rfl rfl rfl rfl rfl ⟨rfl,rfl,rfl,rfl,rfl⟩ rfl rfl rfl rfl rfl kr func6 closed (FO kr) (by unfold Func.isWrapper;first|(rw[Gz (by decide+kernel)];kernel_rfl)|(rw[Gt (by decide+kernel)];exact⟨rfl,rfl⟩)) (λos started H enc _ F=>by rw[OpenClaim.pre_eq_preRow];exact lifted law os started H enc F)
theorem said (law:Law):Rows.RoundTraceUptoSaid:=over law
theorem plain (f : FuncId) (fn : Func) (hf : Tryz.pinned.checked.prog.funcNamed "churn/churnlaw21.RoundTrace" = some f) (hfn : Tryz.pinned.checked.prog.funcs[f]? = some fn) :
  false=Tryz.pinned.checked.prog.looks []∧∀(j:Nat) t,fn.params[j]? =some t→Tryz.pinned.checked.prog.wantsStandIn t=false:=by
 obtain rfl : f = 6 := Option.some.inj ((show prog.funcNamed "churn/churnlaw21.RoundTrace" = some 6 from kr).symm.trans hf) |>.symm
 obtain rfl:fn=Tryz.f6:=(Option.some.inj (func6.symm.trans hfn)).symm
 refine⟨kr,λj t ht=>?_⟩
 rw[Tryz.params6] at ht
 have hm:t∈[31,71,3]:=by simpa using Array.mem_of_getElem? ht
 have hall:([31,71,3].all λu=> !prog.wantsStandIn u)=true:=kr
 exact(show prog.wantsStandIn t=false by simpa using GM.1 hall t hm)
theorem card (law:Law):Rows.RoundTraceUptoCardSaid:=Claim7.holds_tied_plain_at .later [] _ _ _ _ (said law) (λ_ h=>by cases h) kr (λ_ h=>by cases h) roundTraceUpto_row_tie rfl ⟨rfl,rfl⟩ kr rfl plain kr
end DRoundTrace
end Go.Proofs.YtobbmodjdkcdcaaGreatDoor
