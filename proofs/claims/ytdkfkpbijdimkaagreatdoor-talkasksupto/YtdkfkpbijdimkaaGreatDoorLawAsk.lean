import Derived.Test.YtdkfkpbijdimkaaGreatDoorLawSubmit
set_option linter.unusedVariables false
set_option linter.unusedSimpArgs false
set_option linter.unusedSectionVars false
set_option maxRecDepth 20000
set_option maxHeartbeats 1000000
namespace Go.Proofs.YtdkfkpbijdimkaaGreatDoor
open Go Go.Sim
variable [Fu]
theorem nm {α:Type} (f:α→Nat) (h:∀x,1≤f x) (xs:List α):xs.length≤(xs.map f).sum:=by
 induction xs with
 |nil=>simp
 |cons x xs ih=>have:=h x;simp;omega
def reqS (n m:List Int):List Int×Int:=bif decide ((m.length:Int)>40) then([],1) else(n++m,0)
theorem jn {n m:List Int} (hn:n.length=8):cM n m=some (reqS n m):=by
 unfold cM reqS
 have hroom:room=17179869184:=rfl
 cases hc:decide ((m.length:Int)>40) with
 |true=>rfl
 |false=>
  have hc:=of_decide_eq_false hc
  rw[cond_false,cond_false,aN (by rw[hroom];omega)]
  rfl
theorem jL {n m:List Int} (hn:n.length=8):bj n m=some (reqS n m):=by
 unfold bj reqS
 have hroom:room=17179869184:=rfl
 cases hc:decide ((m.length:Int)>40) with
 |true=>rfl
 |false=>
  have hc:=of_decide_eq_false hc
  rw[cond_false,cond_false,aN (by rw[hroom];simp;omega)]
  simp only[aa,List.nil_append]
  rw[aN (by rw[hroom];omega)]
  rfl
theorem lV (aw:bU=some true) (c:ay) (gc:cT c) (hb:bt c≤1048576):aZ c=some true:=by
 obtain⟨gM,gE,gN,gK,gP,_⟩:=gc
 unfold bt at hb
 have hl:c.Masters.length<2^30:=by
  have:=nm (bSl (bOne (α:=Int))) (fun x=>by unfold bSl;omega) c.Masters
  have h2:(bSl (bSl bOne)) c.Masters=(c.Masters.map (bSl bOne)).sum+1:=rfl
  omega
 have hn:∀x∈c.Nonces,x.length=16:=fun x hx=>(gN.1 x hx).2
 have h8:c.Name.length=8:=gK.2
 unfold aZ cQ ed
 rw[aw,jn h8,jL h8]
 simp only[aa,Bool.not_true,cond_false]
 cases (reqS c.Name c.Message).2 != 0 with
 |true=>simp only[cond_true,aa,beq_self_eq_true,Bool.and_self]
 |false=>
  obtain⟨r,hr⟩:=lB (ms:=c.Masters) (nonces:=c.Nonces) (e:=c.Epoch) (p:=(reqS c.Name c.Message).1) hn hl
  rw[lA hn,hr]
  simp only[cond_false,aa,beq_self_eq_true,Bool.and_self]
end Go.Proofs.YtdkfkpbijdimkaaGreatDoor
