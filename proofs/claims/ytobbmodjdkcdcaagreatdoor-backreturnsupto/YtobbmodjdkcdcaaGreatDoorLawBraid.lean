import Derived.Test.YtobbmodjdkcdcaaGreatDoorLawDraw
set_option linter.unusedVariables false
set_option linter.unusedSimpArgs false
set_option maxRecDepth 20000
namespace Go.Proofs.YtobbmodjdkcdcaaGreatDoor
open Go Go.Sim
set_option linter.unusedSectionVars false
variable [Fu]
def AQ (n c:Nat):List Int:=(List.range c).map fun j=>((n / c+(if j<n%c then 1 else 0):Nat):Int)
theorem xu {l:List Int} {i:Nat} (h:i<l.length):l.getD i 0∈l:=by simp only[List.getD,List.getElem?_eq_getElem h,Option.getD_some];exact List.getElem_mem h
def locate:List Int→Int→Nat×Int
 |[],d=>(0,d)
 |l::r,d=>bif decide (d≥l) then((locate r (d - l)).1+1,(locate r (d - l)).2) else(0,d)
theorem pX:∀{ls:List Int} {d:Int},(∀x∈ls,0≤x)→0≤d→d<ls.sum→(locate ls d).1<ls.length∧0≤(locate ls d).2∧(locate ls d).2<ls.getD (locate ls d).1 0
 |[],d,_,h0,h1=>by simp at h1;omega
 |l::r,d,hl,h0,h1=>by
  simp only[locate]
  by_cases c:d≥l
  · rw[decide_eq_true c,cond_true]
    have:=pX (ls:=r) (d:=d - l) (fun x hx=>hl x (by simp[hx])) (by omega) (by simp at h1;omega)
    simpa using this
  · rw[decide_eq_false c,cond_false]
    simpa using⟨h0,by omega⟩
def decr (left:List Int) (j:Nat):List Int:=left.set j (left.getD j 0 - 1)
structure wU (left:List Int) (m:Nat):Prop where
 rng:∀x∈left,0≤x∧x≤256
 sum:left.sum=m
theorem Aa {l:List Int} {j:Nat} {x:Int} (h:j<l.length):(l.set j x).sum=l.sum - l.getD j 0+x:=by
 induction l generalizing j with
 |nil=>simp at h
 |cons y l ih=>
  cases j with
  |zero=>simp;omega
  |succ j=>
   have:=ih (j:=j) (by simpa using h)
   simp only[List.set_cons_succ,List.sum_cons,this]
   simp[List.getD];omega
theorem wU.step {left:List Int} {m:Nat} {d:Int} (g:wU left (m+1)) (h0:0≤d) (h1:d<((m+1:Nat):Int)):wU (decr left (locate left d).1) m:=by
 have sp:=pX (fun x hx=>(g.rng x hx).1) h0 (by rw[g.sum];exact h1)
 have hm:=g.rng _ (xu sp.1)
 refine⟨fun x hx=>?_,?_⟩
 · rcases List.mem_or_eq_of_mem_set hx with h|h
   · exact g.rng x h
   · subst h;omega
 · unfold decr
   rw[Aa sp.1,g.sum];omega
end Go.Proofs.YtobbmodjdkcdcaaGreatDoor
