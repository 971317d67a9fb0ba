import Derived.Test.YtdkfkpbijdimkaaGreatDoorTalkHearsD
import Derived.Test.YtdkfkpbijdimkaaGreatDoorTalkHearsC
import Derived.Test.YtdkfkpbijdimkaaGreatDoorCards
import Derived.Test.YtdkfkpbijdimkaaGreatDoorTie
set_option linter.unusedVariables false
set_option linter.unusedSimpArgs false
set_option maxRecDepth 20000
namespace Go.Proofs.YtdkfkpbijdimkaaGreatDoor
open Go Go.Sim Go.ChangeShapes Go.WideShapes Go.ChangeAt Go.RowKit
set_option linter.unusedSectionVars false
variable [Fu]
namespace DTalkHears
theorem over (law:Law):(unleave Rows.talkHearsUptoRow).holds Tryz.pinned (Rows.OpenSpec.upto Rows.talkHearsSpec):=
 OpenClaim.holds_of_cond 6 Tryz.f6 rfl rfl rfl rfl rfl rfl rfl ⟨rfl,rfl,rfl,rfl,rfl⟩ rfl rfl rfl rfl rfl (by kernel_rfl) Tryz.func6 closed
  (of_decide_eq_true (by kernel_rfl)) (by unfold Func.isWrapper;first|(rw[if_pos (by decide+kernel)];kernel_rfl)|(rw[if_neg (by decide+kernel)];exact⟨rfl,rfl⟩))
  (fun os started H enc _ F=>by rw[OpenClaim.pre_eq_preRow];exact lifted law os started H enc F)
theorem said (law:Law):Rows.TalkHearsUptoSaid:=jb rfl rfl rfl rfl (over law)
theorem plain (f : FuncId) (fn : Func) (hf : Tryz.pinned.checked.prog.funcNamed "churn/churnlaw30.TalkHears" = some f) (hfn : Tryz.pinned.checked.prog.funcs[f]? = some fn) :
  false=Tryz.pinned.checked.prog.looks []∧∀(j:Nat) t,fn.params[j]? =some t→Tryz.pinned.checked.prog.wantsStandIn t=false:=by
 obtain rfl : f = 6 := Option.some.inj ((show Tryz.prog.funcNamed "churn/churnlaw30.TalkHears" = some 6 by kernel_rfl).symm.trans hf) |>.symm
 obtain rfl:fn=Tryz.f6:=(Option.some.inj (Tryz.func6.symm.trans hfn)).symm
 refine⟨by kernel_rfl,fun j t ht=>?_⟩
 rw[Tryz.params6] at ht
 have hm:t∈[46,24]:=by simpa using Array.mem_of_getElem? ht
 have hall:([46,24].all fun u=> !Tryz.prog.wantsStandIn u)=true:=by kernel_rfl
 exact(show Tryz.prog.wantsStandIn t=false by simpa using List.all_eq_true.1 hall t hm)
theorem nU (Lk:Looks) {p:Pinned} {s:OpenSpec} {c:OpenClaim} (al:List (List PathCond)) (kinds:List LaidKind) (tests:Bool) (har:Bool×String) (lk go:Bool)
  (hc:c.holds p s) (hal:∀D∈al,(c.withDomain D).holds p s) (hw:c.wfByText s=true) (hwal:∀D∈al,(c.withDomain D).wfByText s=true)
  (htie:c.laidByTextAt Lk p kinds tests)
  (hst:c.start= .entering) (hnb:c.noBlocks=false∧c.again=false) (hm:p.checked.prog.mainIs=some (har.1,har.2.toList)) (hn:(!har.1&&har.2.isEmpty&& !lk)=false)
  (hl:∀f fn,p.checked.prog.funcNamed c.func=some f→p.checked.prog.funcs[f]? =some fn→lk=p.checked.prog.looks []∧∀(j:Nat) t,fn.params[j]? =some t→p.checked.prog.wantsStandIn t=false)
  (hg:go=c.goesBy p.checked.prog):
  Claim7.holds p (.plain s) {stood:={row:=c,standIns:=[],harness:=har,looks:=lk},kinds:=[],alts:=al,goes:=go,laidByText:=true,laidKinds:=kinds,laidTests:=tests,laidLooks:=Lk}:=by
 have h6:∀r:OpenClaim,Claim7.isSixth {stood:={row:=r,standIns:=[],harness:=har,looks:=lk},kinds:=[]}=false:=fun r=>by simpa[Claim7.isSixth] using hn
 refine⟨Claim7.tied_new_at Lk kinds tests (Claim7.new_of_sixth hc har lk hst hnb hm (h6 c) hl) hw,fun D hD=>?_,htie,(fun h=>by cases h),hg⟩
 exact Claim7.tied_new_at Lk kinds tests (Claim7.new_of_sixth (hal D hD) har lk hst hnb hm (h6 _) hl) (hwal D hD)
theorem card (law:Law):Rows.TalkHearsUptoCardSaid:=
 nU .later [] _ _ _ _ _ (said law) (fun _ h=>by cases h) (by kernel_rfl) (fun _ h=>by cases h) talkHearsUpto_row_tie rfl ⟨rfl,rfl⟩ (by kernel_rfl) rfl plain (by kernel_rfl)
end DTalkHears
end Go.Proofs.YtdkfkpbijdimkaaGreatDoor
