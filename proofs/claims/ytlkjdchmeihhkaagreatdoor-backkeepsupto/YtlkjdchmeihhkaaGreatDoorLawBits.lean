import Derived.Test.YtlkjdchmeihhkaaGreatDoorSimC
set_option autoImplicit true
set_option relaxedAutoImplicit true
set_option linter.all false
namespace Go.Sim
open Go
variable [Fu]
theorem bP {xs:List Int} {z:Int} {i:Nat} (a:z=i) (h:i<xs.length):idx xs z=some (xs.getD i 0):=by subst a;rw[fB h];simp[h]
theorem dV {α:Type} {xs:List α} {z:Int} {i:Nat} (d:α) (a:z=i) (h:i<xs.length):idx xs z=some (xs.getD i d):=by subst a;rw[fB h];simp[h]
theorem aF {α β:Type} (a:α) (f:α→Option β):(some a).bind f=f a:=rfl
theorem tC {x:Int}:IntKind.u8.wrap x=x%256:=by simp[IntKind.wrap,IntKind.bits,IntKind.signed]
theorem vf {x:Int} (h:0≤x∧x≤255):IntKind.u8.wrap x=x:=by rw[tC];omega
theorem oW (x:Int):0≤IntKind.u8.wrap x∧IntKind.u8.wrap x≤255:=by rw[tC];omega
theorem jO {x:Int} (h:0≤x∧x<18446744073709551616):IntKind.u64.wrap x=x:=by (have:IntKind.u64.wrap x=x%18446744073709551616:=by simp[IntKind.wrap,IntKind.bits,IntKind.signed]);rw[this];omega
theorem BG {x:Int}:IntKind.u32.wrap x=x%4294967296:=by simp[IntKind.wrap,IntKind.bits,IntKind.signed]
theorem D1 (k:IntKind) (x y:Int):nL k x y=nL k y x:=by unfold nL;rw[BitVec.or_comm]
theorem D2 {n m:Nat}:Int.tmod (n:Int) (m:Int)=((n%m:Nat):Int):=rfl
theorem oY {n m:Nat}:Int.tdiv (n:Int) (m:Int)=((n / m:Nat):Int):=rfl
theorem D3 {α:Type} {o:Option α} {P:α→Prop} (h:∃a,o=some a∧P a):∃a,((o.bind λx=>some x).bind λx=>some x)=some a∧P a:=by obtain⟨a,e,p⟩:=h;exact⟨a,by rw[e];rfl,p⟩
theorem jt {α:Type} {c:Bool} {a b:α} (h:c=false):(bif c then a else b)=b:=by rw[h];rfl
theorem cb {S R:Type} {step:S→Option (md S R)} {s0:S} {r:R} (st:Nat→S) (a n:Nat) (b:a≤n) (h:∀i,a≤i→i<n→step (st i)=some (.next (st (i+1)))) (c:step (st n)=some (.done r)) (h0:s0=st a):Loop.run step s0=some r:=by subst h0;(have d:∀k i,n - i=k→a≤i→i≤n→Loop.run step (st i)=some r:=by intro k;induction k with| zero => (intro i e f j; have : i = n := by omega);subst this;exact Km c|succ k c=>intro i e f j;rw[Kx (h i f (by omega))];exact c (i+1) (by omega) (by omega) (by omega));exact d _ a rfl (GZ _) b
theorem Cs {S R:Type} {step:S→Option (md S R)} {P:S→Prop} {Q:R→Prop} (m:S→Nat) (h:∀s,P s→(∃r,step s=some (.done r)∧Q r)∨∃s',step s=some (.next s')∧P s'∧m s'<m s) {s:S} (hs:P s):∃r,Loop.run step s=some r∧Q r:=by suffices ∀n s,m s<n→P s→∃r,Loop.run step s=some r∧Q r from this _ s (Nat.lt_succ_self _) hs;intro n;induction n with|zero=>intro s h;omega|succ n ih=>intro s hm hp;rcases h s hp with⟨r,h1,h2⟩|⟨s',h1,h2,h3⟩;exact⟨r,Km h1,h2⟩;rw[Kx h1];exact ih s' (by omega) h2
end Go.Sim
