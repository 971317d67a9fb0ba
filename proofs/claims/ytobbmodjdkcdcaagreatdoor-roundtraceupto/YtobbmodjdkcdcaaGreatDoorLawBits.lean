import Derived.Test.YtobbmodjdkcdcaaGreatDoorSimC
set_option linter.all false
namespace Go.Sim
open Go
variable [Fu]
theorem ar {xs:List Int} {z:Int} {i:Nat} (hz:z=i) (h:i<xs.length):idx xs z=some (xs.getD i 0):=by subst hz;rw[cw h];simp[h]
theorem du {α:Type} {xs:List α} {z:Int} {i:Nat} (d:α) (hz:z=i) (h:i<xs.length):idx xs z=some (xs.getD i d):=by subst hz;rw[cw h];simp[h]
theorem ab {α β:Type} (a:α) (f:α→Option β):(some a).bind f=f a:=rfl
theorem wrap8 {x:Int}:IntKind.u8.wrap x=x%256:=by simp[IntKind.wrap,IntKind.bits,IntKind.signed]
theorem ua {x:Int} (h:0≤x∧x≤255):IntKind.u8.wrap x=x:=by rw[wrap8];omega
theorem kZ (x:Int):0≤IntKind.u8.wrap x∧IntKind.u8.wrap x≤255:=by rw[wrap8];omega
theorem gW {x:Int} (h:0≤x∧x<18446744073709551616):IntKind.u64.wrap x=x:=by (have:IntKind.u64.wrap x=x%18446744073709551616:=by simp[IntKind.wrap,IntKind.bits,IntKind.signed]);rw[this];omega
theorem kx {x:Int}:IntKind.u32.wrap x=x%4294967296:=by simp[IntKind.wrap,IntKind.bits,IntKind.signed]
theorem C6 (k:IntKind) (x y:Int):orI k x y=orI k y x:=by unfold orI;rw[BitVec.or_comm]
theorem C7 {n m:Nat}:Int.tmod (n:Int) (m:Int)=((n%m:Nat):Int):=rfl
theorem ot {n m:Nat}:Int.tdiv (n:Int) (m:Int)=((n / m:Nat):Int):=rfl
abbrev bv (x:Int):BitVec 32:=BitVec.ofInt 32 x
def toI (b:BitVec 32):Int:=(b.toNat:Int)
theorem E9 (b:BitVec 32):bv (toI b)=b:=by simp[bv,toI]
theorem wk (x:Int):IntKind.u32.wrap x=toI (bv x):=by rw[kx];simp only[toI,bv,GX];omega
theorem Fa (b:BitVec 32):IntKind.u32.wrap (b.toNat:Int)=toI b:=by rw[kx];have:=b.isLt;simp only[toI];omega
theorem or32 (x y:Int):orI .u32 x y=toI (bv x|||bv y):=Fa _
theorem shl32 (x:Int) (n:Nat) (h:n<32):shlI .u32 x n=toI (bv x<<<n):=by (have e:min ((n:Int).toNat) (IntKind.u32.bits)=n:=by have:IntKind.u32.bits=32:=rfl;simp only[FP,this];omega);unfold shlI;rw[e,wk];congr 1;apply Ii;rw[BitVec.toNat_shiftLeft,I6,GX,GX];(have h1:(x%4294967296:Int).toNat*2^n%4294967296=((x*2^n)%4294967296:Int).toNat:=by have h2:((x%4294967296).toNat:Int)=x%4294967296:=Int.toNat_of_nonneg (by omega);(have h3:(((x%4294967296).toNat*2^n%4294967296:Nat):Int)=(x*2^n)%4294967296:=by rw[Int.natCast_emod,H1,h2,Int.natCast_pow];show(x%4294967296)*2^n%4294967296=x*2^n%4294967296;rw[Int.mul_emod,Int.emod_emod_of_dvd _ (Int.dvd_refl _),←Int.mul_emod]);rw[←h3,FP]);simpa using h1.symm
theorem word4 (a b c d:Int):orI .u32 (shlI .u32 (orI .u32 (shlI .u32 (orI .u32 (shlI .u32 (orI .u32 (shlI .u32 0 8) (IntKind.u32.wrap a)) 8) (IntKind.u32.wrap b)) 8) (IntKind.u32.wrap c)) 8) (IntKind.u32.wrap d) =orI .u32 (orI .u32 (orI .u32 (shlI .u32 (IntKind.u32.wrap a) 24) (shlI .u32 (IntKind.u32.wrap b) 16)) (shlI .u32 (IntKind.u32.wrap c) 8)) (IntKind.u32.wrap d):=by have s8:∀x:Int,shlI .u32 x 8=toI (bv x<<<8):=λx=>shl32 x 8 (by decide);have s16:∀x:Int,shlI .u32 x 16=toI (bv x<<<16):=λx=>shl32 x 16 (by decide);have s24:∀x:Int,shlI .u32 x 24=toI (bv x<<<24):=λx=>shl32 x 24 (by decide);simp only[s8,s16,s24,or32,wk,E9];congr 1;have z:bv 0=0#32:=rfl;rw[z];simp only[BitVec.zero_shiftLeft,BitVec.zero_or,BitVec.shiftLeft_or_distrib,←BitVec.shiftLeft_add]
theorem C8 {α:Type} {o:Option α} {P:α→Prop} (h:∃a,o=some a∧P a):∃a,((o.bind λx=>some x).bind λx=>some x)=some a∧P a:=by obtain⟨a,e,p⟩:=h;exact⟨a,by rw[e];rfl,p⟩
theorem cY {α:Type} {c:Bool} {a b:α} (h:c=false):(bif c then a else b)=b:=by rw[h];rfl
theorem aP {S R:Type} {step:S→Option (Ctl S R)} {s0:S} {r:R} (st:Nat→S) (a n:Nat) (han:a≤n) (h:∀i,a≤i→i<n→step (st i)=some (.next (st (i+1)))) (hn:step (st n)=some (.done r)) (h0:s0=st a):Loop.run step s0=some r:=by subst h0;(have key:∀k i,n - i=k→a≤i→i≤n→Loop.run step (st i)=some r:=by intro k;induction k with| zero => (intro i h1 h2 h3; have : i = n := by omega);subst this;exact Jv hn|succ k ih=>intro i h1 h2 h3;rw[JB (h i h2 (by omega))];exact ih (i+1) (by omega) (by omega) (by omega));exact key _ a rfl (F9 _) han
theorem Bn {S R:Type} {step:S→Option (Ctl S R)} {P:S→Prop} {Q:R→Prop} (m:S→Nat) (h:∀s,P s→(∃r,step s=some (.done r)∧Q r)∨∃s',step s=some (.next s')∧P s'∧m s'<m s) {s:S} (hs:P s):∃r,Loop.run step s=some r∧Q r:=by suffices ∀n s,m s<n→P s→∃r,Loop.run step s=some r∧Q r from this _ s (Nat.lt_succ_self _) hs;intro n;induction n with|zero=>intro s h;omega|succ n ih=>intro s hm hp;rcases h s hp with⟨r,h1,h2⟩|⟨s',h1,h2,h3⟩;exact⟨r,Jv h1,h2⟩;rw[JB h1];exact ih s' (by omega) h2
end Go.Sim
