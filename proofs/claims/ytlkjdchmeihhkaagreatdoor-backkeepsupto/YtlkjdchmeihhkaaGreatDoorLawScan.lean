import Derived.Test.YtlkjdchmeihhkaaGreatDoorLawBits
set_option autoImplicit true
set_option relaxedAutoImplicit true
set_option linter.all false
namespace Go.Proofs.YtlkjdchmeihhkaaGreatDoor
open Go Go.Sim
variable [Fu]
def fh (f:Nat→Bool):Nat→Nat→Bool|0,_=>true|c+1,i=>f i&&fh f c (i+1)
theorem f9 {f:Nat→Bool}:∀{c i:Nat},fh f c i=true↔∀k,i≤k→k<i+c→f k=true|0,i=>by simp[fh];intro k a b;omega|c+1,i=>by simp only[fh,GH,f9 (c:=c) (i:=i+1)];constructor;rintro⟨a,b⟩ k d d;by_cases e:k=i;subst e;exact a;exact b k (by omega) (by omega);intro h;exact⟨h i (by omega) (by omega),λk a b=>h k (by omega) (by omega)⟩
theorem vV {S R:Type} {step:S→Option (md S R)} (st:Nat→S) (good bad:R) (f:Nat→Bool) (n:Nat) (hd:∀i,i<n→(f i=true→step (st i)=some (.next (st (i+1))))∧(f i=false→step (st i)=some (.done bad))) (a:step (st n)=some (.done good)) {s0:S} (h0:s0=st 0): Loop.run step s0=some (bif fh f n 0 then good else bad):=by subst h0;(have d:∀c i,n - i=c→i≤n→Loop.run step (st i)=some (bif fh f c i then good else bad):=by intro c;induction c with| zero => (intro i b e; have : i = n := by omega);subst this;exact Km a|succ c c=>intro i b e;obtain⟨a,b⟩:=hd i (by omega);cases e:f i with|true=>rw[Kx (a e),c (i+1) (by omega) (by omega)];simp only[fh,e,HK]|false=>rw[Km (b e)];simp only[fh,e,J1,Gx]);exact d n 0 (by omega) (by omega)
end Go.Proofs.YtlkjdchmeihhkaaGreatDoor
