import Derived.Test.YtlkjdchmeihhkaaGreatDoorBackKeepsD
import Derived.Test.YtlkjdchmeihhkaaGreatDoorBackKeepsC
import Derived.Test.YtlkjdchmeihhkaaGreatDoorCards
import Derived.Test.YtlkjdchmeihhkaaGreatDoorTie
set_option autoImplicit true
set_option relaxedAutoImplicit true
set_option linter.all false
set_option maxRecDepth 20000
namespace Go.Proofs.YtlkjdchmeihhkaaGreatDoor
open Go Go.Sim Go.ChangeShapes Go.WideShapes Go.ChangeAt Go.RowKit Go.Proofs.Tryz
variable [Fu]
namespace DBackKeeps
theorem over (a:S_):Rows.backKeepsUptoRow.holds Tryz.pinned (Rows.OpenSpec.upto Rows.backKeepsSpec):=OpenClaim.holds_of_cond 5 Tryz.f5 rfl rfl rfl rfl rfl rfl rfl ⟨rfl,rfl,rfl,rfl,rfl⟩ rfl rfl rfl rfl rfl kr func5 closed (GF kr) (by unfold Func.isWrapper;first|(rw[Hv (by decide+kernel)];kernel_rfl)|(rw[Hu (by decide+kernel)];exact⟨rfl,rfl⟩)) (λb c H d _ F=>by rw[OpenClaim.pre_eq_preRow];exact RG a b c H d F)
theorem UW (a:S_):Rows.BackKeepsUptoSaid:=over a
theorem plain (f : FuncId) (a : Func) (b : Tryz.pinned.checked.prog.funcNamed "churn/churnlaw29.BackKeeps" = some f) (c : Tryz.pinned.checked.prog.funcs[f]? = some a) :
  false=Tryz.pinned.checked.prog.looks []∧∀(j:Nat) t,a.params[j]? =some t→Tryz.pinned.checked.prog.wantsStandIn t=false:=by
 obtain rfl : f = 5 := Option.some.inj ((show prog.funcNamed "churn/churnlaw29.BackKeeps" = some 5 from kr).symm.trans b) |>.symm
 obtain rfl:a=Tryz.f5:=(Option.some.inj (func5.symm.trans c)).symm
 refine⟨kr,λj t a=>?_⟩
 rw[Tryz.params5] at a
 have b:t∈[44,56]:=by simpa using Array.mem_of_getElem? a
 have a:([44,56].all λu=> !prog.wantsStandIn u)=true:=kr
 exact(show prog.wantsStandIn t=false by simpa using Hq.1 a t b)
theorem card (a:S_):Rows.BackKeepsUptoCardSaid:=Claim7.holds_tied_plain_at .later [] _ _ _ _ (UW a) (λ_ h=>by cases h) kr (λ_ h=>by cases h) backKeepsUpto_row_tie rfl ⟨rfl,rfl⟩ kr rfl plain kr
end DBackKeeps
end Go.Proofs.YtlkjdchmeihhkaaGreatDoor
