import Derived.Test.YtdkfkpbijdimkaaGreatDoorLawSubmit
set_option linter.unusedVariables false
set_option linter.unusedSimpArgs false
set_option linter.unusedSectionVars false
set_option maxRecDepth 20000
set_option maxHeartbeats 1000000
namespace Go.Proofs.YtdkfkpbijdimkaaGreatDoor
open Go Go.Sim
variable [Fu]
theorem oi {α:Type} (f:α→Nat) (h:∀x,1≤f x) (xs:List α):xs.length≤(xs.map f).sum:=by
 induction xs with
 |nil=>simp
 |cons x xs ih=>have:=h x;simp;omega
theorem kl (aw:ci=some true) (c:aE) (gc:c9 c) (hb:bT c≤1048576):aS c=some true:=by
 obtain⟨gM,gE,gN,gP,_⟩:=gc
 unfold bT at hb
 have hl:c.Masters.length<2^30:=by
  have:=oi (bSl (bOne (α:=Int))) (fun x=>by unfold bSl;omega) c.Masters
  have h2:(bSl (bSl bOne)) c.Masters=(c.Masters.map (bSl bOne)).sum+1:=rfl
  omega
 have hn:∀x∈c.Nonces,x.length=16:=fun x hx=>(gN.1 x hx).2
 obtain⟨r,hr⟩:=lV (ms:=c.Masters) (nonces:=c.Nonces) (e:=c.Epoch) (p:=c.Payload) hn hl
 unfold aS
 rw[aw,lU hn,hr]
 simp only[aa,Bool.not_true,cond_false,beq_self_eq_true,Bool.and_self]
end Go.Proofs.YtdkfkpbijdimkaaGreatDoor
