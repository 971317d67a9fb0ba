import Derived.Test.YtkjlhdndbdenaaaGreatDoorLawDraw
set_option autoImplicit true
set_option relaxedAutoImplicit true
set_option linter.all false
set_option maxRecDepth 20000
namespace Go.Proofs.YtkjlhdndbdenaaaGreatDoor
open Go Go.Sim
variable [Fu]
theorem rO {l:List Int} {i:Nat} (h:i<l.length):l.getD i 0∈l:=by simp only[List.getD,ya h,yP];exact xQ h
def nC:List Int→Int→Nat×Int|[],d=>(0,d)|l::r,d=>bif decide (d≥l) then((nC r (d - l)).1+1,(nC r (d - l)).2) else(0,d)
theorem kQ:∀{ls:List Int} {d:Int},(∀x∈ls,0≤x)→0≤d→d<ls.sum→(nC ls d).1<ls.length∧0≤(nC ls d).2∧(nC ls d).2<ls.getD (nC ls d).1 0|[],d,_,a,b=>by simp at b;omega|l::r,d,e,a,b=>by simp only[nC];by_cases c:d≥l;rw[wg c,wd];have:=kQ (ls:=r) (d:=d - l) (λx f=>e x (by simp[f])) (by omega) (by simp at b;omega);simpa using this;rw[wk c,wc];simpa using⟨a,by omega⟩
def D5 (left:List Int) (j:Nat):List Int:=left.set j (left.getD j 0 - 1)
structure qZ (left:List Int) (m:Nat):Prop where
 rng:∀x∈left,0≤x∧x≤256
 sum:left.sum=m
theorem uu {l:List Int} {j:Nat} {x:Int} (h:j<l.length):(l.set j x).sum=l.sum - l.getD j 0+x:=by induction l generalizing j with|nil=>simp at h|cons y l a=>cases j with|zero=>simp;omega|succ j=>have:=a (j:=j) (by simpa using h);simp only[yZ,List.sum_cons,this];simp[List.getD];omega
theorem CI {left:List Int} {m:Nat} {d:Int} (g:qZ left (m+1)) (h0:0≤d) (h1:d<((m+1:Nat):Int)):qZ (D5 left (nC left d).1) m:=by have a:=kQ (λx b=>(g.rng x b).1) h0 (by rw[g.sum];exact h1);have c:=g.rng _ (rO a.1);refine⟨λx b=>?_,?_⟩;rcases List.mem_or_eq_of_mem_set b with h|h;exact g.rng x h;subst h;omega;unfold D5;rw[uu a.1,g.sum];omega
end Go.Proofs.YtkjlhdndbdenaaaGreatDoor
