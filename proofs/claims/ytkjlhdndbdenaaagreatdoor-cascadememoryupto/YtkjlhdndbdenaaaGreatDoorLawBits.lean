import Derived.Test.YtkjlhdndbdenaaaGreatDoorSimC
set_option autoImplicit true
set_option relaxedAutoImplicit true
set_option linter.all false
namespace Go.Sim
open Go
variable [Fu]
theorem aI {xs:List Int} {z:Int} {i:Nat} (a:z=i) (h:i<xs.length):idx xs z=some (xs.getD i 0):=by subst a;rw[el h];simp[h]
theorem fK {α:Type} {xs:List α} {z:Int} {i:Nat} (d:α) (a:z=i) (h:i<xs.length):idx xs z=some (xs.getD i d):=by subst a;rw[el h];simp[h]
theorem aC {α β:Type} (a:α) (f:α→Option β):(some a).bind f=f a:=rfl
theorem wA {x:Int}:IntKind.u8.wrap x=x%256:=by simp[IntKind.wrap,IntKind.bits,IntKind.signed]
theorem oO {x:Int} (h:0≤x∧x≤255):IntKind.u8.wrap x=x:=by rw[wA];omega
theorem io (x:Int):0≤IntKind.u8.wrap x∧IntKind.u8.wrap x≤255:=by rw[wA];omega
theorem eX {x:Int} (h:0≤x∧x<18446744073709551616):IntKind.u64.wrap x=x:=by (have:IntKind.u64.wrap x=x%18446744073709551616:=by simp[IntKind.wrap,IntKind.bits,IntKind.signed]);rw[this];omega
theorem fW {x:Int}:IntKind.u32.wrap x=x%4294967296:=by simp[IntKind.wrap,IntKind.bits,IntKind.signed]
theorem sT (k:IntKind) (x y:Int):kC k x y=kC k y x:=by unfold kC;rw[BitVec.or_comm]
abbrev bv (x:Int):BitVec 32:=BitVec.ofInt 32 x
def CM (b:BitVec 32):Int:=(b.toNat:Int)
theorem vq (b:BitVec 32):bv (CM b)=b:=by simp[bv,CM]
theorem mO (x:Int):IntKind.u32.wrap x=CM (bv x):=by rw[fW];simp only[CM,bv,xM];omega
theorem vr (b:BitVec 32):IntKind.u32.wrap (b.toNat:Int)=CM b:=by rw[fW];have:=b.isLt;simp only[CM];omega
theorem Fs (x y:Int):kC .u32 x y=CM (bv x|||bv y):=vr _
theorem CV (x:Int) (n:Nat) (h:n<32):c5 .u32 x n=CM (bv x<<<n):=by (have e:min ((n:Int).toNat) (IntKind.u32.bits)=n:=by have:IntKind.u32.bits=32:=rfl;simp only[wl,this];omega);unfold c5;rw[e,mO];congr 1;apply BitVec.eq_of_toNat_eq;rw[BitVec.toNat_shiftLeft,Nat.shiftLeft_eq,xM,xM];(have a:(x%4294967296:Int).toNat*2^n%4294967296=((x*2^n)%4294967296:Int).toNat:=by have b:((x%4294967296).toNat:Int)=x%4294967296:=Int.toNat_of_nonneg (by omega);(have c:(((x%4294967296).toNat*2^n%4294967296:Nat):Int)=(x*2^n)%4294967296:=by rw[Int.natCast_emod,Int.natCast_mul,b,Int.natCast_pow];show(x%4294967296)*2^n%4294967296=x*2^n%4294967296;rw[Int.mul_emod,Int.emod_emod_of_dvd _ (Int.dvd_refl _),←Int.mul_emod]);rw[←c,wl]);simpa using a.symm
theorem Eh (a b c d:Int):kC .u32 (c5 .u32 (kC .u32 (c5 .u32 (kC .u32 (c5 .u32 (kC .u32 (c5 .u32 0 8) (IntKind.u32.wrap a)) 8) (IntKind.u32.wrap b)) 8) (IntKind.u32.wrap c)) 8) (IntKind.u32.wrap d) =kC .u32 (kC .u32 (kC .u32 (c5 .u32 (IntKind.u32.wrap a) 24) (c5 .u32 (IntKind.u32.wrap b) 16)) (c5 .u32 (IntKind.u32.wrap c) 8)) (IntKind.u32.wrap d):=by have s8:∀x:Int,c5 .u32 x 8=CM (bv x<<<8):=λx=>CV x 8 (by decide);have Fy:∀x:Int,c5 .u32 x 16=CM (bv x<<<16):=λx=>CV x 16 (by decide);have FT:∀x:Int,c5 .u32 x 24=CM (bv x<<<24):=λx=>CV x 24 (by decide);simp only[s8,Fy,FT,Fs,mO,vq];congr 1;have z:bv 0=0#32:=rfl;rw[z];simp only[BitVec.zero_shiftLeft,BitVec.zero_or,BitVec.shiftLeft_or_distrib,←BitVec.shiftLeft_add]
theorem sU {α:Type} {o:Option α} {P:α→Prop} (h:∃a,o=some a∧P a):∃a,((o.bind λx=>some x).bind λx=>some x)=some a∧P a:=by obtain⟨a,e,p⟩:=h;exact⟨a,by rw[e];rfl,p⟩
theorem dp {α:Type} {c:Bool} {a b:α} (h:c=false):(bif c then a else b)=b:=by rw[h];rfl
theorem aQ {S R:Type} {step:S→Option (j_ S R)} {s0:S} {r:R} (b:Nat→S) (a n:Nat) (c:a≤n) (h:∀i,a≤i→i<n→step (b i)=some (.next (b (i+1)))) (d:step (b n)=some (.done r)) (h0:s0=b a):Loop.run step s0=some r:=by subst h0;(have e:∀k i,n - i=k→a≤i→i≤n→Loop.run step (b i)=some r:=by intro k;induction k with| zero => (intro i b f j; have : i = n := by omega);subst this;exact zO d|succ k d=>intro i b f j;rw[zV (h i f (by omega))];exact d (i+1) (by omega) (by omega) (by omega));exact e _ a rfl (wy _) c
theorem gd {S R:Type} {step:S→Option (j_ S R)} {P:S→Prop} {Q:R→Prop} (m:S→Nat) (h:∀s,P s→(∃r,step s=some (.done r)∧Q r)∨∃s',step s=some (.next s')∧P s'∧m s'<m s) {s:S} (hs:P s):∃r,Loop.run step s=some r∧Q r:=by suffices ∀n s,m s<n→P s→∃r,Loop.run step s=some r∧Q r from this _ s (Nat.lt_succ_self _) hs;intro n;induction n with|zero=>intro s h;omega|succ n ih=>intro s hm hp;rcases h s hp with⟨r,h1,h2⟩|⟨s',h1,h2,h3⟩;exact⟨r,zO h1,h2⟩;rw[zV h1];exact ih s' (by omega) h2
end Go.Sim
