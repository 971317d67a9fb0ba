import Derived.Test.YtkjlhdndbdenaaaGreatDoorCascadeMemoryD
import Derived.Test.YtkjlhdndbdenaaaGreatDoorCascadeMemoryC
import Derived.Test.YtkjlhdndbdenaaaGreatDoorCards
import Derived.Test.YtkjlhdndbdenaaaGreatDoorTie
set_option autoImplicit true
set_option relaxedAutoImplicit true
set_option linter.all false
set_option maxRecDepth 20000
namespace Go.Proofs.YtkjlhdndbdenaaaGreatDoor
open Go Go.Sim Go.ChangeShapes Go.WideShapes Go.ChangeAt Go.RowKit Go.Proofs.Tryz
variable [Fu]
namespace DCascadeMemory
theorem over (a:Ez):(kK Rows.cascadeMemoryUptoRow).holds Tryz.pinned (Rows.OpenSpec.upto Rows.cascadeMemorySpec):=OpenClaim.holds_of_cond 3 Tryz.f3 rfl rfl rfl rfl rfl rfl rfl ⟨rfl,rfl,rfl,rfl,rfl⟩ rfl rfl rfl rfl rfl kr func3 closed (wj kr) (by unfold Func.isWrapper;first|(rw[xN (by decide+kernel)];kernel_rfl)|(rw[xv (by decide+kernel)];exact⟨rfl,rfl⟩)) (λb c H d _ F=>by rw[OpenClaim.pre_eq_preRow];exact DM a b c H d F)
theorem Fd (a:Ez):Rows.CascadeMemoryUptoSaid:=my rfl rfl rfl rfl (over a)
theorem plain (f : FuncId) (a : Func) (b : Tryz.pinned.checked.prog.funcNamed "churn/churnlaw25.CascadeMemory" = some f) (c : Tryz.pinned.checked.prog.funcs[f]? = some a) :
  false=Tryz.pinned.checked.prog.looks []∧∀(j:Nat) t,a.params[j]? =some t→Tryz.pinned.checked.prog.wantsStandIn t=false:=by
 obtain rfl : f = 3 := Option.some.inj ((show prog.funcNamed "churn/churnlaw25.CascadeMemory" = some 3 from kr).symm.trans b) |>.symm
 obtain rfl:a=Tryz.f3:=(Option.some.inj (func3.symm.trans c)).symm
 refine⟨kr,λj t a=>?_⟩
 rw[Tryz.params3] at a
 have b:t∈[26,22]:=by simpa using Array.mem_of_getElem? a
 have a:([26,22].all λu=> !prog.wantsStandIn u)=true:=kr
 exact(show prog.wantsStandIn t=false by simpa using w4.1 a t b)
theorem ue (a:Looks) {p:Pinned} {c:OpenClaim} (al:List (List PathCond)) (b:List LaidKind) (d:Bool) (e:Bool×String) (i h:Bool) (k:c.holds p s) (l:∀D∈al,(c.withDomain D).holds p s) (m:c.wfByText s=true) (n:∀D∈al,(c.withDomain D).wfByText s=true) (o:c.laidByTextAt a p b d) (q:c.start= .entering) (u:c.noBlocks=false∧c.again=false) (v:p.checked.prog.mainIs=some (e.1,e.2.toList)) (w:(!e.1&&e.2.isEmpty&& !i)=false) (x:∀f r,p.checked.prog.funcNamed c.func=some f→p.checked.prog.funcs[f]? =some r→i=p.checked.prog.looks []∧∀(j:Nat) t,r.params[j]? =some t→p.checked.prog.wantsStandIn t=false) (y:h=c.goesBy p.checked.prog): Claim7.holds p (.plain s) {stood:={row:=c,standIns:=[],harness:=e,looks:=i},kinds:=[],alts:=al,goes:=h,laidByText:=true,laidKinds:=b,laidTests:=d,laidLooks:=a}:=by (have z:∀r:OpenClaim,Claim7.isSixth {stood:={row:=r,standIns:=[],harness:=e,looks:=i},kinds:=[]}=false:=λr=>by simpa[Claim7.isSixth] using w);refine⟨Claim7.tied_new_at a b d (Claim7.new_of_sixth k e i q u v (z c) x) m,λD k=>?_,o,(λh=>by cases h),y⟩;exact Claim7.tied_new_at a b d (Claim7.new_of_sixth (l D k) e i q u v (z _) x) (n D k)
theorem card (a:Ez):Rows.CascadeMemoryUptoCardSaid:=ue .later [] _ _ _ _ _ (Fd a) (λ_ h=>by cases h) kr (λ_ h=>by cases h) cascadeMemoryUpto_row_tie rfl ⟨rfl,rfl⟩ kr rfl plain kr
end DCascadeMemory
end Go.Proofs.YtkjlhdndbdenaaaGreatDoor
