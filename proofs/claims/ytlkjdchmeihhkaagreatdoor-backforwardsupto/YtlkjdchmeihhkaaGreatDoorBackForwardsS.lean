import Derived.Test.YtlkjdchmeihhkaaGreatDoorBackForwardsD
import Derived.Test.YtlkjdchmeihhkaaGreatDoorBackForwardsC
import Derived.Test.YtlkjdchmeihhkaaGreatDoorCards
import Derived.Test.YtlkjdchmeihhkaaGreatDoorTie
set_option autoImplicit true
set_option relaxedAutoImplicit true
set_option linter.all false
set_option maxRecDepth 20000
namespace Go.Proofs.YtlkjdchmeihhkaaGreatDoor
open Go Go.Sim Go.ChangeShapes Go.WideShapes Go.ChangeAt Go.RowKit Go.Proofs.Tryz
variable [Fu]
namespace DBackForwards
theorem over (a:WS):Rows.backForwardsUptoRow.holds Tryz.pinned (Rows.OpenSpec.upto Rows.backForwardsSpec):=OpenClaim.holds_of_cond 4 Tryz.f4 rfl rfl rfl rfl rfl rfl rfl ⟨rfl,rfl,rfl,rfl,rfl⟩ rfl rfl rfl rfl rfl kr func4 closed (Ir kr) (by unfold Func.isWrapper;first|(rw[Jm (by decide+kernel)];kernel_rfl)|(rw[Jf (by decide+kernel)];exact⟨rfl,rfl⟩)) (λb c H d _ F=>by rw[OpenClaim.pre_eq_preRow];exact VM a b c H d F)
theorem YJ (a:WS):Rows.BackForwardsUptoSaid:=over a
theorem plain (f : FuncId) (a : Func) (b : Tryz.pinned.checked.prog.funcNamed "churn/churnlaw29.BackForwards" = some f) (c : Tryz.pinned.checked.prog.funcs[f]? = some a) :
  false=Tryz.pinned.checked.prog.looks []∧∀(j:Nat) t,a.params[j]? =some t→Tryz.pinned.checked.prog.wantsStandIn t=false:=by
 obtain rfl : f = 4 := Option.some.inj ((show prog.funcNamed "churn/churnlaw29.BackForwards" = some 4 from kr).symm.trans b) |>.symm
 obtain rfl:a=Tryz.f4:=(Option.some.inj (func4.symm.trans c)).symm
 refine⟨kr,λj t ht=>?_⟩
 rw[Tryz.params4] at ht
 have a:t∈[44]:=by simpa using Array.mem_of_getElem? ht
 have b:([44].all λu=> !prog.wantsStandIn u)=true:=kr
 exact(show prog.wantsStandIn t=false by simpa using JF.1 b t a)
theorem card (a:WS):Rows.BackForwardsUptoCardSaid:=Claim7.holds_tied_plain_at .later [] _ _ _ _ (YJ a) (λ_ h=>by cases h) kr (λ_ h=>by cases h) backForwardsUpto_row_tie rfl ⟨rfl,rfl⟩ kr rfl plain kr
end DBackForwards
end Go.Proofs.YtlkjdchmeihhkaaGreatDoor
