import Derived.Test.YtkjlhdndbdenaaaGreatDoorLawBraid
set_option autoImplicit true
set_option relaxedAutoImplicit true
set_option linter.all false
set_option maxRecDepth 20000
namespace Go.Proofs.YtkjlhdndbdenaaaGreatDoor
open Go Go.Sim
variable [Fu]
def jY {α X:Type} (next:Nat→X→α→Option X):Nat→X→List α→Option X
 |_,x,[]=>some x
 |i,x,a::r=>match next i x a with
  |none=>none
  |some y=>jY next (i+1) y r
theorem sV {α X S R:Type} {step:S→Option (j_ S R)} {s0:S} (b:Nat→X→S) (next:Nat→X→α→Option X) (l:List α) (I:Nat→List α→X→Prop) (c:X→R) (bad:R)
  (h:∀i a r x,l.drop i=a::r→i<l.length→l[i]? =some a→I i (a::r) x→(next i x a=none→step (b i x)=some (.done bad))∧(∀y,next i x a=some y→step (b i x)=some (.next (b (i+1) y))∧I (i+1) r y))
  (d:∀x,I l.length [] x→step (b l.length x)=some (.done (c x))) (e:X) (f:I 0 l e) (h0:s0=b 0 e):
  Loop.run step s0=some (match jY next 0 e l with|some x=>c x|none=>bad)∧(∀x,jY next 0 e l=some x→I l.length [] x):=by
 subst h0
 have j:∀(r:List α) (i:Nat) (x:X),l.drop i=r→i≤l.length→I i r x→Loop.run step (b i x)=some (match jY next i x r with|some x=>c x|none=>bad)∧(∀y,jY next i x r=some y→I l.length [] y):=by
  intro r
  induction r with
  |nil=>
   intro i x k b f
   have:i=l.length:=by
    have:=congrArg List.length k
    simp at this;omega
   subst this
   refine⟨zO (d x f),λy d=>?_⟩
   cases d;exact f
  |cons a r m=>
   intro i x k b f
   have n:i<l.length:=by
    have:=congrArg List.length k
    simp at this;omega
   have o:l[i]? =some a:=by
    have:=wT (xs:=l) (i:=i) (j:=0)
    rw[k] at this;simpa using this.symm
   have p:l.drop (i+1)=r:=by
    have:=wU (i:=1) (j:=i) (l:=l)
    rw[k] at this;rw[←this];rfl
   obtain⟨b,c⟩:=h i a r x k n o f
   simp only[jY]
   cases k:next i x a with
   |none=>exact⟨zO (b k),λy d=>by cases d⟩
   |some y=>
    obtain⟨b,d⟩:=c y k
    rw[zV b]
    exact m (i+1) y p n d
 exact j l 0 e rfl (xf _) f
structure Gt (ds:List Int) (c n:Nat) (i:Nat) (r:List Int) (x:List (Nat×Int)×List Int):Prop where
 good:qZ x.2 r.length
 len:x.2.length=c
 pp:x.1.length=i
 idx:∀q∈x.1,q.1<c
 all:i+r.length=n
end Go.Proofs.YtkjlhdndbdenaaaGreatDoor
