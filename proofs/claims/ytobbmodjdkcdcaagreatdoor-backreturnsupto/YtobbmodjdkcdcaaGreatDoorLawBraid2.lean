import Derived.Test.YtobbmodjdkcdcaaGreatDoorLawBraid
set_option linter.unusedVariables false
set_option linter.unusedSimpArgs false
set_option maxRecDepth 20000
namespace Go.Proofs.YtobbmodjdkcdcaaGreatDoor
open Go Go.Sim
set_option linter.unusedSectionVars false
variable [Fu]
def oR {α X:Type} (next:Nat→X→α→Option X):Nat→X→List α→Option X
 |_,x,[]=>some x
 |i,x,a::r=>match next i x a with
  |none=>none
  |some y=>oR next (i+1) y r
theorem uo {α X S R:Type} {step:S→Option (Ctl S R)} {s0:S} (st:Nat→X→S) (next:Nat→X→α→Option X) (l:List α) (I:Nat→List α→X→Prop) (fin:X→R) (bad:R)
  (h:∀i a r x,l.drop i=a::r→i<l.length→l[i]? =some a→I i (a::r) x→(next i x a=none→step (st i x)=some (.done bad))∧(∀y,next i x a=some y→step (st i x)=some (.next (st (i+1) y))∧I (i+1) r y))
  (hn:∀x,I l.length [] x→step (st l.length x)=some (.done (fin x))) (x0:X) (hI:I 0 l x0) (h0:s0=st 0 x0):
  Loop.run step s0=some (match oR next 0 x0 l with|some x=>fin x|none=>bad)∧(∀x,oR next 0 x0 l=some x→I l.length [] x):=by
 subst h0
 have key:∀(r:List α) (i:Nat) (x:X),l.drop i=r→i≤l.length→I i r x→Loop.run step (st i x)=some (match oR next i x r with|some x=>fin x|none=>bad)∧(∀y,oR next i x r=some y→I l.length [] y):=by
  intro r
  induction r with
  |nil=>
   intro i x hd hi hI
   have:i=l.length:=by
    have:=congrArg List.length hd
    simp at this;omega
   subst this
   refine⟨Loop.run_done (hn x hI),fun y hy=>?_⟩
   cases hy;exact hI
  |cons a r ih=>
   intro i x hd hi hI
   have hlt:i<l.length:=by
    have:=congrArg List.length hd
    simp at this;omega
   have hget:l[i]? =some a:=by
    have:=List.getElem?_drop (xs:=l) (i:=i) (j:=0)
    rw[hd] at this;simpa using this.symm
   have hd2:l.drop (i+1)=r:=by
    have:=List.drop_drop (i:=1) (j:=i) (l:=l)
    rw[hd] at this;rw[←this];rfl
   obtain⟨b,c⟩:=h i a r x hd hlt hget hI
   simp only[oR]
   cases hx:next i x a with
   |none=>exact⟨Loop.run_done (b hx),fun y hy=>by cases hy⟩
   |some y=>
    obtain⟨c1,c2⟩:=c y hx
    rw[Loop.run_next c1]
    exact ih (i+1) y hd2 hlt c2
 exact key l 0 x0 rfl (Nat.zero_le _) hI
structure PatI (ds:List Int) (c n:Nat) (i:Nat) (r:List Int) (x:List (Nat×Int)×List Int):Prop where
 good:wU x.2 r.length
 len:x.2.length=c
 pp:x.1.length=i
 idx:∀q∈x.1,q.1<c
 all:i+r.length=n
def cntP (pp:List (Nat×Int)) (j:Nat):Nat:=(pp.filter fun q=>q.1==j).length
end Go.Proofs.YtobbmodjdkcdcaaGreatDoor
