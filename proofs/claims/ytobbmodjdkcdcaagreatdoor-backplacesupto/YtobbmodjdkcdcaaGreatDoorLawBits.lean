import Derived.Test.YtobbmodjdkcdcaaGreatDoorSimC
set_option linter.unusedVariables false
set_option linter.unusedSimpArgs false
namespace Go.Sim
open Go
set_option linter.unusedSectionVars false
variable [Fu]
theorem aW {xs:List Int} {z:Int} {i:Nat} (hz:z=i) (h:i<xs.length):idx xs z=some (xs.getD i 0):=by
 subst hz;rw[rP h];simp[h]
theorem cY {α:Type} {xs:List α} {z:Int} {i:Nat} (d:α) (hz:z=i) (h:i<xs.length):idx xs z=some (xs.getD i d):=by
 subst hz;rw[rP h];simp[h]
theorem ae {α β:Type} (a:α) (f:α→Option β):(some a).bind f=f a:=rfl
theorem wrap8 {x:Int}:IntKind.u8.wrap x=x%256:=by simp[IntKind.wrap,IntKind.bits,IntKind.signed]
theorem oK {x:Int} (h:0≤x∧x≤255):IntKind.u8.wrap x=x:=by rw[wrap8];omega
theorem kT (x:Int):0≤IntKind.u8.wrap x∧IntKind.u8.wrap x≤255:=by rw[wrap8];omega
theorem fQ {x:Int} (h:0≤x∧x<18446744073709551616):IntKind.u64.wrap x=x:=by
 have:IntKind.u64.wrap x=x%18446744073709551616:=by simp[IntKind.wrap,IntKind.bits,IntKind.signed]
 rw[this];omega
theorem tc {x:Int}:IntKind.u32.wrap x=x%4294967296:=by simp[IntKind.wrap,IntKind.bits,IntKind.signed]
theorem vW (k:IntKind) (x y:Int):orI k x y=orI k y x:=by unfold orI;rw[BitVec.or_comm]
theorem vX {α:Type} {o:Option α} {P:α→Prop} (h:∃a,o=some a∧P a):∃a,((o.bind fun x=>some x).bind fun x=>some x)=some a∧P a:=by
 obtain⟨a,e,p⟩:=h;exact⟨a,by rw[e];rfl,p⟩
theorem hN {α:Type} {c:Bool} {a b:α} (h:c=false):(bif c then a else b)=b:=by rw[h];rfl
theorem bw {S R:Type} {step:S→Option (Ctl S R)} {s0:S} {r:R} (st:Nat→S) (a n:Nat) (han:a≤n) (h:∀i,a≤i→i<n→step (st i)=some (.next (st (i+1)))) (hn:step (st n)=some (.done r)) (h0:s0=st a):Loop.run step s0=some r:=by
 subst h0
 have key:∀k i,n - i=k→a≤i→i≤n→Loop.run step (st i)=some r:=by
  intro k
  induction k with
  | zero => intro i h1 h2 h3; have : i = n := by omega
            subst this;exact Loop.run_done hn
  |succ k ih=>intro i h1 h2 h3;rw[Loop.run_next (h i h2 (by omega))];exact ih (i+1) (by omega) (by omega) (by omega)
 exact key _ a rfl (Nat.le_refl _) han
theorem ui {S R:Type} {step:S→Option (Ctl S R)} {P:S→Prop} {Q:R→Prop} (m:S→Nat) (h:∀s,P s→(∃r,step s=some (.done r)∧Q r)∨∃s',step s=some (.next s')∧P s'∧m s'<m s) {s:S} (hs:P s):∃r,Loop.run step s=some r∧Q r:=by
 suffices ∀n s,m s<n→P s→∃r,Loop.run step s=some r∧Q r from this _ s (Nat.lt_succ_self _) hs
 intro n
 induction n with
 |zero=>intro s h;omega
 |succ n ih=>
  intro s hm hp
  rcases h s hp with⟨r,h1,h2⟩|⟨s',h1,h2,h3⟩
  · exact⟨r,Loop.run_done h1,h2⟩
  · rw[Loop.run_next h1];exact ih s' (by omega) h2
end Go.Sim
