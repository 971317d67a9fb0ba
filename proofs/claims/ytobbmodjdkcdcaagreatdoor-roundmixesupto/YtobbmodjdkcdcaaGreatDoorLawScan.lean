import Derived.Test.YtobbmodjdkcdcaaGreatDoorLawBits
set_option linter.all false
namespace Go.Proofs.YtobbmodjdkcdcaaGreatDoor
open Go Go.Sim
variable [Fu]
def fw (f:Nat→Bool):Nat→Nat→Bool|0,_=>true|c+1,i=>f i&&fw f c (i+1)
theorem eZ {f:Nat→Bool}:∀{c i:Nat},fw f c i=true↔∀k,i≤k→k<i+c→f k=true|0,i=>by simp[fw];intro k h1 h2;omega|c+1,i=>by simp only[fw,Hx,eZ (c:=c) (i:=i+1)];constructor;rintro⟨h1,h2⟩ k h3 h4;by_cases e:k=i;subst e;exact h1;exact h2 k (by omega) (by omega);intro h;exact⟨h i (by omega) (by omega),λk h1 h2=>h k (by omega) (by omega)⟩
theorem tF {S R:Type} {step:S→Option (Qp S R)} (st:Nat→S) (good bad:R) (f:Nat→Bool) (n:Nat) (hd:∀i,i<n→(f i=true→step (st i)=some (.next (st (i+1))))∧(f i=false→step (st i)=some (.done bad))) (hn:step (st n)=some (.done good)) {s0:S} (h0:s0=st 0): Loop.run step s0=some (bif fw f n 0 then good else bad):=by subst h0;(have key:∀c i,n - i=c→i≤n→Loop.run step (st i)=some (bif fw f c i then good else bad):=by intro c;induction c with| zero => (intro i h1 h2; have : i = n := by omega);subst this;exact Lr hn|succ c ih=>intro i h1 h2;obtain⟨a,b⟩:=hd i (by omega);cases hf:f i with|true=>rw[Ly (a hf),ih (i+1) (by omega) (by omega)];simp only[fw,hf,ID]|false=>rw[Lr (b hf)];simp only[fw,hf,Kx,Hm]);exact key n 0 (by omega) (by omega)
end Go.Proofs.YtobbmodjdkcdcaaGreatDoor
