import Derived.Test.YtobbmodjdkcdcaaGreatDoorSimC
set_option linter.all false
namespace Go.Sim
open Go
variable [Fu]
theorem aJ {xs:List Int} {z:Int} {i:Nat} (hz:z=i) (h:i<xs.length):idx xs z=some (xs.getD i 0):=by subst hz;rw[cq h];simp[h]
theorem dn {α:Type} {xs:List α} {z:Int} {i:Nat} (d:α) (hz:z=i) (h:i<xs.length):idx xs z=some (xs.getD i d):=by subst hz;rw[cq h];simp[h]
theorem aB {α β:Type} (a:α) (f:α→Option β):(some a).bind f=f a:=rfl
theorem Vg {x:Int}:IntKind.u8.wrap x=x%256:=by simp[IntKind.wrap,IntKind.bits,IntKind.signed]
theorem wj {x:Int} (h:0≤x∧x≤255):IntKind.u8.wrap x=x:=by rw[Vg];omega
theorem lB (x:Int):0≤IntKind.u8.wrap x∧IntKind.u8.wrap x≤255:=by rw[Vg];omega
theorem jG {x:Int} (h:0≤x∧x<18446744073709551616):IntKind.u64.wrap x=x:=by (have:IntKind.u64.wrap x=x%18446744073709551616:=by simp[IntKind.wrap,IntKind.bits,IntKind.signed]);rw[this];omega
theorem ms {x:Int}:IntKind.u32.wrap x=x%4294967296:=by simp[IntKind.wrap,IntKind.bits,IntKind.signed]
theorem EL (k:IntKind) (x y:Int):PV k x y=PV k y x:=by unfold PV;rw[BitVec.or_comm]
theorem wk {n m:Nat}:Int.tmod (n:Int) (m:Int)=((n%m:Nat):Int):=rfl
theorem im {n m:Nat}:Int.tdiv (n:Int) (m:Int)=((n / m:Nat):Int):=rfl
abbrev bv (x:Int):BitVec 32:=BitVec.ofInt 32 x
def Vm (b:BitVec 32):Int:=(b.toNat:Int)
theorem GR (b:BitVec 32):bv (Vm b)=b:=by simp[bv,Vm]
theorem yp (x:Int):IntKind.u32.wrap x=Vm (bv x):=by rw[ms];simp only[Vm,bv,IG];omega
theorem GS (b:BitVec 32):IntKind.u32.wrap (b.toNat:Int)=Vm b:=by rw[ms];have:=b.isLt;simp only[Vm];omega
theorem Y8 (x y:Int):PV .u32 x y=Vm (bv x|||bv y):=GS _
theorem VJ (x:Int) (n:Nat) (h:n<32):OX .u32 x n=Vm (bv x<<<n):=by (have e:min ((n:Int).toNat) (IntKind.u32.bits)=n:=by have:IntKind.u32.bits=32:=rfl;simp only[Hq,this];omega);unfold OX;rw[e,yp];congr 1;apply J2;rw[BitVec.toNat_shiftLeft,KN,IG,IG];(have h1:(x%4294967296:Int).toNat*2^n%4294967296=((x*2^n)%4294967296:Int).toNat:=by have h2:((x%4294967296).toNat:Int)=x%4294967296:=Int.toNat_of_nonneg (by omega);(have h3:(((x%4294967296).toNat*2^n%4294967296:Nat):Int)=(x*2^n)%4294967296:=by rw[Int.natCast_emod,Jh,h2,Int.natCast_pow];show(x%4294967296)*2^n%4294967296=x*2^n%4294967296;rw[Int.mul_emod,Int.emod_emod_of_dvd _ (Int.dvd_refl _),←Int.mul_emod]);rw[←h3,Hq]);simpa using h1.symm
theorem Yx (a b c d:Int):PV .u32 (OX .u32 (PV .u32 (OX .u32 (PV .u32 (OX .u32 (PV .u32 (OX .u32 0 8) (IntKind.u32.wrap a)) 8) (IntKind.u32.wrap b)) 8) (IntKind.u32.wrap c)) 8) (IntKind.u32.wrap d) =PV .u32 (PV .u32 (PV .u32 (OX .u32 (IntKind.u32.wrap a) 24) (OX .u32 (IntKind.u32.wrap b) 16)) (OX .u32 (IntKind.u32.wrap c) 8)) (IntKind.u32.wrap d):=by have s8:∀x:Int,OX .u32 x 8=Vm (bv x<<<8):=λx=>VJ x 8 (by decide);have s16:∀x:Int,OX .u32 x 16=Vm (bv x<<<16):=λx=>VJ x 16 (by decide);have s24:∀x:Int,OX .u32 x 24=Vm (bv x<<<24):=λx=>VJ x 24 (by decide);simp only[s8,s16,s24,Y8,yp,GR];congr 1;have z:bv 0=0#32:=rfl;rw[z];simp only[BitVec.zero_shiftLeft,BitVec.zero_or,BitVec.shiftLeft_or_distrib,←BitVec.shiftLeft_add]
theorem EM {α:Type} {o:Option α} {P:α→Prop} (h:∃a,o=some a∧P a):∃a,((o.bind λx=>some x).bind λx=>some x)=some a∧P a:=by obtain⟨a,e,p⟩:=h;exact⟨a,by rw[e];rfl,p⟩
theorem dF {α:Type} {c:Bool} {a b:α} (h:c=false):(bif c then a else b)=b:=by rw[h];rfl
theorem aY {S R:Type} {step:S→Option (Qp S R)} {s0:S} {r:R} (st:Nat→S) (a n:Nat) (han:a≤n) (h:∀i,a≤i→i<n→step (st i)=some (.next (st (i+1)))) (hn:step (st n)=some (.done r)) (h0:s0=st a):Loop.run step s0=some r:=by subst h0;(have key:∀k i,n - i=k→a≤i→i≤n→Loop.run step (st i)=some r:=by intro k;induction k with| zero => (intro i h1 h2 h3; have : i = n := by omega);subst this;exact Lr hn|succ k ih=>intro i h1 h2 h3;rw[Ly (h i h2 (by omega))];exact ih (i+1) (by omega) (by omega) (by omega));exact key _ a rfl (HK _) han
theorem Da {S R:Type} {step:S→Option (Qp S R)} {P:S→Prop} {Q:R→Prop} (m:S→Nat) (h:∀s,P s→(∃r,step s=some (.done r)∧Q r)∨∃s',step s=some (.next s')∧P s'∧m s'<m s) {s:S} (hs:P s):∃r,Loop.run step s=some r∧Q r:=by suffices ∀n s,m s<n→P s→∃r,Loop.run step s=some r∧Q r from this _ s (Nat.lt_succ_self _) hs;intro n;induction n with|zero=>intro s h;omega|succ n ih=>intro s hm hp;rcases h s hp with⟨r,h1,h2⟩|⟨s',h1,h2,h3⟩;exact⟨r,Lr h1,h2⟩;rw[Ly h1];exact ih s' (by omega) h2
end Go.Sim
