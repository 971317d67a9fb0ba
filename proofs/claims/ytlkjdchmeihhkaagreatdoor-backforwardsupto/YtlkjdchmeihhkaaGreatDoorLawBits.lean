import Derived.Test.YtlkjdchmeihhkaaGreatDoorSimC
set_option autoImplicit true
set_option relaxedAutoImplicit true
set_option linter.all false
namespace Go.Sim
open Go
variable [Fu]
theorem aK {xs:List Int} {z:Int} {i:Nat} (a:z=i) (h:i<xs.length):idx xs z=some (xs.getD i 0):=by subst a;rw[cu h];simp[h]
theorem dk {α:Type} {xs:List α} {z:Int} {i:Nat} (d:α) (a:z=i) (h:i<xs.length):idx xs z=some (xs.getD i d):=by subst a;rw[cu h];simp[h]
theorem aB {α β:Type} (a:α) (f:α→Option β):(some a).bind f=f a:=rfl
theorem S4 {x:Int}:IntKind.u8.wrap x=x%256:=by simp[IntKind.wrap,IntKind.bits,IntKind.signed]
theorem xF {x:Int} (h:0≤x∧x≤255):IntKind.u8.wrap x=x:=by rw[S4];omega
theorem ml (x:Int):0≤IntKind.u8.wrap x∧IntKind.u8.wrap x≤255:=by rw[S4];omega
theorem ko {x:Int} (h:0≤x∧x<18446744073709551616):IntKind.u64.wrap x=x:=by (have:IntKind.u64.wrap x=x%18446744073709551616:=by simp[IntKind.wrap,IntKind.bits,IntKind.signed]);rw[this];omega
theorem nf {x:Int}:IntKind.u32.wrap x=x%4294967296:=by simp[IntKind.wrap,IntKind.bits,IntKind.signed]
theorem FV (k:IntKind) (x y:Int):qH k x y=qH k y x:=by unfold qH;rw[BitVec.or_comm]
theorem xK {n m:Nat}:Int.tmod (n:Int) (m:Int)=((n%m:Nat):Int):=rfl
theorem jf {n m:Nat}:Int.tdiv (n:Int) (m:Int)=((n / m:Nat):Int):=rfl
abbrev bv (x:Int):BitVec 32:=BitVec.ofInt 32 x
def TQ (b:BitVec 32):Int:=(b.toNat:Int)
theorem HW (b:BitVec 32):bv (TQ b)=b:=by simp[bv,TQ]
theorem zP (x:Int):IntKind.u32.wrap x=TQ (bv x):=by rw[nf];simp only[TQ,bv,JM];omega
theorem HX (b:BitVec 32):IntKind.u32.wrap (b.toNat:Int)=TQ b:=by rw[nf];have:=b.isLt;simp only[TQ];omega
theorem YM (x y:Int):qH .u32 x y=TQ (bv x|||bv y):=HX _
theorem TP (x:Int) (n:Nat) (h:n<32):eD .u32 x n=TQ (bv x<<<n):=by (have e:min ((n:Int).toNat) (IntKind.u32.bits)=n:=by have:IntKind.u32.bits=32:=rfl;simp only[Iq,this];omega);unfold eD;rw[e,zP];congr 1;apply Lh;rw[BitVec.toNat_shiftLeft,LY,JM,JM];(have a:(x%4294967296:Int).toNat*2^n%4294967296=((x*2^n)%4294967296:Int).toNat:=by have b:((x%4294967296).toNat:Int)=x%4294967296:=Int.toNat_of_nonneg (by omega);(have c:(((x%4294967296).toNat*2^n%4294967296:Nat):Int)=(x*2^n)%4294967296:=by rw[Int.natCast_emod,Kh,b,Int.natCast_pow];show(x%4294967296)*2^n%4294967296=x*2^n%4294967296;rw[Int.mul_emod,Int.emod_emod_of_dvd _ (Int.dvd_refl _),←Int.mul_emod]);rw[←c,Iq]);simpa using a.symm
theorem Ww (a b c d:Int):qH .u32 (eD .u32 (qH .u32 (eD .u32 (qH .u32 (eD .u32 (qH .u32 (eD .u32 0 8) (IntKind.u32.wrap a)) 8) (IntKind.u32.wrap b)) 8) (IntKind.u32.wrap c)) 8) (IntKind.u32.wrap d) =qH .u32 (qH .u32 (qH .u32 (eD .u32 (IntKind.u32.wrap a) 24) (eD .u32 (IntKind.u32.wrap b) 16)) (eD .u32 (IntKind.u32.wrap c) 8)) (IntKind.u32.wrap d):=by have s8:∀x:Int,eD .u32 x 8=TQ (bv x<<<8):=λx=>TP x 8 (by decide);have Y_:∀x:Int,eD .u32 x 16=TQ (bv x<<<16):=λx=>TP x 16 (by decide);have Zt:∀x:Int,eD .u32 x 24=TQ (bv x<<<24):=λx=>TP x 24 (by decide);simp only[s8,Y_,Zt,YM,zP,HW];congr 1;have z:bv 0=0#32:=rfl;rw[z];simp only[BitVec.zero_shiftLeft,BitVec.zero_or,BitVec.shiftLeft_or_distrib,←BitVec.shiftLeft_add]
theorem FW {α:Type} {o:Option α} {P:α→Prop} (h:∃a,o=some a∧P a):∃a,((o.bind λx=>some x).bind λx=>some x)=some a∧P a:=by obtain⟨a,e,p⟩:=h;exact⟨a,by rw[e];rfl,p⟩
theorem dS {α:Type} {c:Bool} {a b:α} (h:c=false):(bif c then a else b)=b:=by rw[h];rfl
theorem aY {S R:Type} {step:S→Option (tj S R)} {s0:S} {r:R} (st:Nat→S) (a n:Nat) (b:a≤n) (h:∀i,a≤i→i<n→step (st i)=some (.next (st (i+1)))) (c:step (st n)=some (.done r)) (h0:s0=st a):Loop.run step s0=some r:=by subst h0;(have d:∀k i,n - i=k→a≤i→i≤n→Loop.run step (st i)=some r:=by intro k;induction k with| zero => (intro i e f j; have : i = n := by omega);subst this;exact Mp c|succ k c=>intro i e f j;rw[My (h i f (by omega))];exact c (i+1) (by omega) (by omega) (by omega));exact d _ a rfl (IL _) b
theorem D2 {S R:Type} {step:S→Option (tj S R)} {P:S→Prop} {Q:R→Prop} (m:S→Nat) (h:∀s,P s→(∃r,step s=some (.done r)∧Q r)∨∃s',step s=some (.next s')∧P s'∧m s'<m s) {s:S} (hs:P s):∃r,Loop.run step s=some r∧Q r:=by suffices ∀n s,m s<n→P s→∃r,Loop.run step s=some r∧Q r from this _ s (Nat.lt_succ_self _) hs;intro n;induction n with|zero=>intro s h;omega|succ n ih=>intro s hm hp;rcases h s hp with⟨r,h1,h2⟩|⟨s',h1,h2,h3⟩;exact⟨r,Mp h1,h2⟩;rw[My h1];exact ih s' (by omega) h2
end Go.Sim
