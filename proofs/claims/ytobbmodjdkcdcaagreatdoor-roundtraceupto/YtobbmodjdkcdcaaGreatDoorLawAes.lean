import Derived.Test.YtobbmodjdkcdcaaGreatDoorLawMac
set_option linter.all false
set_option maxRecDepth 20000
namespace Go.Proofs.YtobbmodjdkcdcaaGreatDoor
open Go Go.Sim
variable [Fu]
abbrev b8 (x:Int):BitVec 8:=BitVec.ofInt 8 x
abbrev n8 (b:BitVec 8):Int:=(b.toNat:Int)
theorem yy (b:BitVec 8):b8 (n8 b)=b:=by simp[b8,n8]
theorem CU (b:BitVec 8):0≤n8 b∧n8 b≤255:=by have:=b.isLt;simp only[n8];omega
def mstep (s:Int×Int×Int):Int×Int×Int:=(bif (andI .u8 s.1 128) != 0 then xorI .u8 (shlI .u8 s.1 1) 27 else shlI .u8 s.1 1,shrI .u8 s.2.1 1,bif (andI .u8 s.2.1 1)==1 then xorI .u8 s.2.2 s.1 else s.2.2)
def mAt (a b:Int):Nat→Int×Int×Int|0=>(a,b,0)|i+1=>mstep (mAt a b i)
def mul8 (a b:Int):Int:=(mAt a b 8).2.2
theorem rF (a b:Int):eO a b=some (mul8 a b):=by unfold eO;obtain⟨M,hM⟩:∃M,M=mAt a b:=⟨_,rfl⟩;(have h0:M 0=(a,b,0):=by rw[hM];rfl);(have hS:∀i,M (i+1)=mstep (M i):=by rw[hM];intro i;rfl);rw[aP (λi=>((M i).1,(M i).2.1,(M i).2.2,(i:Int))) 0 8 (r:=(M 8).2.2) (by omega) ?_ (cY rfl) (by rw[h0];rfl)];rw[hM];rfl;intro i _ hi;(have h1:decide ((i:Int)<8)=true:=by simp;omega);simp only[h1,FJ];rw[hS,wrap64 (by omega)];unfold mstep;cases ((andI .u8 (M i).2.1 1)==1)<;>cases ((andI .u8 (M i).1 128) != 0)<;>rfl
def mulN:Nat→Nat→Nat→Nat→Nat|0,_,_,c=>c|k+1,a,b,c=>mulN k ((a*2)%256^^^(a / 128)*27) (b / 2) (c^^^(b%2)*a)
theorem and1:∀b:Fin 256,andI .u8 ((b.val:Nat):Int) 1=((b.val%2:Nat):Int):=by decide+kernel
theorem dbl:∀b:Fin 256,(bif (andI .u8 ((b.val:Nat):Int) 128) != 0 then xorI .u8 (shlI .u8 ((b.val:Nat):Int) 1) 27 else shlI .u8 ((b.val:Nat):Int) 1)=(((b.val*2)%256^^^(b.val / 128)*27:Nat):Int):=by decide+kernel
theorem hlv:∀b:Fin 256,shrI .u8 ((b.val:Nat):Int) 1=((b.val / 2:Nat):Int):=by decide+kernel
theorem xorN {a b:Nat} (ha:a<256) (hb:b<256):xorI .u8 (a:Int) (b:Int)=((a^^^b:Nat):Int):=by rw[um];(have:BitVec.ofInt 8 (a:Int)^^^BitVec.ofInt 8 (b:Int)=BitVec.ofNat 8 (a^^^b):=by apply Ii;have h:a^^^b<256:=HA (n:=8) ha hb;simp only[BitVec.toNat_xor,GX,BitVec.toNat_ofNat];(have h1:((a:Int)%((2^8:Nat):Int)).toNat=a:=by omega);(have h2:((b:Int)%((2^8:Nat):Int)).toNat=b:=by omega);rw[h1,h2,Iv h]);rw[this];have h:a^^^b<256:=HA (n:=8) ha hb;simp only[BitVec.toNat_ofNat];omega
theorem CV {a b c:Nat} (ha:a<256) (hb:b<256) (hc:c<256):mstep ((a:Int),(b:Int),(c:Int))=((((a*2)%256^^^(a / 128)*27:Nat):Int),((b / 2:Nat):Int),((c^^^(b%2)*a:Nat):Int)):=by unfold mstep;simp only;rw[dbl ⟨a,ha⟩,hlv ⟨b,hb⟩,and1 ⟨b,hb⟩];refine Prod.ext rfl (Prod.ext rfl ?_);simp only;rcases Nat.mod_two_eq_zero_or_one b with h|h;rw[h];simp;rw[h];simp[xorN hc ha]
theorem E7 {a:Nat} (ha:a<256):(a*2)%256^^^(a / 128)*27<256:=HA (n:=8) (by omega) (by omega)
theorem nn {a b:Nat} (ha:a<256) (hb:b<256):mul8 a b=(mulN 8 a b 0:Nat)∧mulN 8 a b 0<256:=by (have key:∀k (s:Nat→Int×Int×Int),(∀i,s (i+1)=mstep (s i))→∀a b c:Nat,a<256→b<256→c<256→∀i,s i=((a:Int),(b:Int),(c:Int))→(s (i+k)).2.2=(mulN k a b c:Nat)∧mulN k a b c<256:=by intro k s hs;induction k with|zero=>intro a b c _ _ hc i h;rw[HQ,h];exact⟨rfl,hc⟩|succ k ih=>intro a b c ha hb hc i h;have h1:=hs i;rw[h,CV ha hb hc] at h1;have:=ih _ _ _ (E7 ha) (by omega) (HA (n:=8) hc (by rcases Nat.mod_two_eq_zero_or_one b with h|h<;>rw[h]<;>omega)) (i+1) h1;rw[show i+(k+1)=i+1+k by omega];exact this);exact key 8 (mAt a b) (λi=>rfl) a b 0 ha hb (by omega) 0 rfl
def invN:Nat→Nat→Nat→Nat|0,r,_=>r|k+1,r,q=>invN k (mulN 8 r (mulN 8 q q 0) 0) (mulN 8 q q 0)
def rotN (a n:Nat):Nat:=(a*2^n)%256|||a / 2^(8 - n)
def subN (a:Nat):Nat:=let v:=invN 7 1 a;v^^^rotN v 1^^^rotN v 2^^^rotN v 3^^^rotN v 4^^^99
theorem Eg:∀a:Fin 256,((subN a.val:Nat):Int)=ji.getD a.val 0:=by decide+kernel
theorem Bh:∀{k r q:Nat},r<256→q<256→invN k r q<256|0,_,_,h,_=>h|k+1,r,q,h1,h2=>by have h3:=(nn h2 h2).2;show invN k (mulN 8 r (mulN 8 q q 0) 0) (mulN 8 q q 0)<256;exact Bh (nn h1 h3).2 h3
theorem BV {a:Nat} (ha:a<256):lu a=some ((invN 7 1 a:Nat):Int):=by
 unfold lu
 have key:∀k r q i:Nat,r<256→q<256→i+k=7→Loop.run (S:=(Int×Int×Int)) (R:=Int) (λ(x48,x49,x50)=>
   bif decide (x50<7) then
     (eO x49 x49).bind λy61=>
     (eO x48 y61).bind λy63=>
     some (.next (y63,y61,IntKind.wrap .i64 (x50+1)))
   else
     some (.done x48)) ((r:Int),(q:Int),(i:Int))=some ((invN k r q:Nat):Int):=by
  intro k
  induction k with
  |zero=>
   intro r q i _ _ h
   refine Jv ?_
   have:decide ((i:Int)<7)=false:=by simp;omega
   simp only[this,FI];rfl
  |succ k ih=>
   intro r q i h1 h2 h
   have h3:=nn h2 h2
   have h4:=nn h1 h3.2
   rw[JB (s':=(((mulN 8 r (mulN 8 q q 0) 0:Nat):Int),((mulN 8 q q 0:Nat):Int),((i+1:Nat):Int)))]
   · exact ih _ _ _ h4.2 h3.2 (by omega)
   · have:decide ((i:Int)<7)=true:=by simp;omega
     simp only[this,FJ,rF,ab]
     rw[h3.1,h4.1,wrap64 (by omega)];rfl
 have:=key 7 1 a 0 (by omega) ha rfl
 have e:(((1:Nat):Int),(a:Int),((0:Nat):Int))=((1:Int),(a:Int),(0:Int)):=rfl
 rw[e] at this
 rw[this];rfl
theorem Eh:∀a:Fin 256,∀n:Fin 5,n.val≠0→orI .u8 (shlI .u8 ((a.val:Nat):Int) ((n.val:Nat):Int)) (shrI .u8 ((a.val:Nat):Int) (8 - ((n.val:Nat):Int)))=((rotN a.val n.val:Nat):Int)∧rotN a.val n.val<256:=by decide+kernel
theorem lH {a n:Nat} (ha:a<256) (hn:1≤n∧n<5):eP a n=some ((rotN a n:Nat):Int)∧rotN a n<256:=by have:=Eh ⟨a,ha⟩ ⟨n,hn.2⟩ (by simp only;omega);refine⟨?_,this.2⟩;unfold eP;(have e1:decide (0≤(n:Int))=true:=by simp);(have e2:decide (0≤8 - (n:Int))=true:=by simp;omega);rw[wrap64 (by omega),e1,e2,this.1];rfl
theorem rK {z:Int} (hz:0≤z∧z≤255):cK z=some (ji.getD z.toNat 0):=by obtain⟨a,rfl⟩:∃a:Nat,z=a:=⟨z.toNat,by omega⟩;(have ha:a<256:=by omega);unfold cK;rw[BV ha];have hv:=Bh (k:=7) (r:=1) (by omega) ha;have t:((subN a:Nat):Int)=ji.getD a 0:=Eg ⟨a,ha⟩;unfold subN at t;rw[FP];generalize invN 7 1 a=v at*;obtain⟨t1,l1⟩:=lH (n:=1) hv (by omega);obtain⟨t2,l2⟩:=lH (n:=2) hv (by omega);obtain⟨t3,l3⟩:=lH (n:=3) hv (by omega);obtain⟨t4,l4⟩:=lH (n:=4) hv (by omega);have c1:((1:Nat):Int)=1:=rfl;have c2:((2:Nat):Int)=2:=rfl;have c3:((3:Nat):Int)=3:=rfl;have c4:((4:Nat):Int)=4:=rfl;rw[c1] at t1;rw[c2] at t2;rw[c3] at t3;rw[c4] at t4;simp only[ab,t1,t2,t3,t4];have m1:=HA (n:=8) hv l1;have m2:=HA (n:=8) m1 l2;have m3:=HA (n:=8) m2 l3;have m4:=HA (n:=8) m3 l4;have h99:(99:Int)=((99:Nat):Int):=rfl;rw[xorN hv l1,xorN m1 l2,xorN m2 l3,xorN m3 l4,h99,xorN m4 (by omega),t]
def tw (x:Int):Int:=bif decide (x≥128) then xorI .u8 (shlI .u8 x 1) 27 else shlI .u8 x 1
theorem wh (x:Int):eF x=some (tw x):=by unfold eF tw;cases decide (x≥128)<;>rfl
def twB (b:BitVec 8):BitVec 8:=(b<<<1)^^^(bif b.msb then 27#8 else 0#8)
theorem xk:∀a:Fin 256,tw ((a.val:Nat):Int)=n8 (twB (b8 ((a.val:Nat):Int)))∧mulN 8 1 a.val 0=a.val∧(mulN 8 2 a.val 0:Int)=tw ((a.val:Nat):Int)∧(mulN 8 3 a.val 0:Int)=xorI .u8 (tw ((a.val:Nat):Int)) ((a.val:Nat):Int):=by decide+kernel
theorem tw_B {x:Int} (hx:0≤x∧x≤255):tw x=n8 (twB (b8 x)):=by obtain⟨a,rfl⟩:∃a:Nat,x=a:=⟨x.toNat,by omega⟩;exact(xk ⟨a,by omega⟩).1
theorem mul1 {x:Int} (hx:0≤x∧x≤255):mul8 1 x=x:=by obtain⟨a,rfl⟩:∃a:Nat,x=a:=⟨x.toNat,by omega⟩;have:=nn (a:=1) (b:=a) (by omega) (by omega);rw[show(1:Int)=((1:Nat):Int) from rfl,this.1,(xk ⟨a,by omega⟩).2.1]
theorem mul2 {x:Int} (hx:0≤x∧x≤255):mul8 2 x=tw x:=by obtain⟨a,rfl⟩:∃a:Nat,x=a:=⟨x.toNat,by omega⟩;have:=nn (a:=2) (b:=a) (by omega) (by omega);rw[show(2:Int)=((2:Nat):Int) from rfl,this.1];exact(xk ⟨a,by omega⟩).2.2.1
theorem mul3 {x:Int} (hx:0≤x∧x≤255):mul8 3 x=xorI .u8 (tw x) x:=by obtain⟨a,rfl⟩:∃a:Nat,x=a:=⟨x.toNat,by omega⟩;have:=nn (a:=3) (b:=a) (by omega) (by omega);rw[show(3:Int)=((3:Nat):Int) from rfl,this.1];exact(xk ⟨a,by omega⟩).2.2.2
theorem tS (a b c:BitVec 8):a^^^(b^^^c)=b^^^(a^^^c):=by rw[←HF,If a b,HF]
theorem tT (a b:BitVec 8):a^^^(a^^^b)=b:=by rw[←HF,BitVec.xor_self,IG]
theorem Ei (a b:BitVec 8):twB (a^^^b)=twB a^^^twB b:=by unfold twB;rw[BitVec.msb_xor,BitVec.shiftLeft_xor_distrib];cases a.msb<;>cases b.msb<;>simp[HF,If,tS,tT]
theorem xor8 (x y:Int):xorI .u8 x y=n8 (b8 x^^^b8 y):=um x y
theorem CW {x:Int} (hx:0≤x∧x≤255):0≤tw x∧tw x≤255:=by rw[tw_B hx];exact CU _
theorem BW:aL ji:=by (have:∀b∈ji,0≤b∧b≤255:=by decide+kernel);exact this
theorem BX (i:Nat):0≤ji.getD i 0∧ji.getD i 0≤255:=fi BW i
end Go.Proofs.YtobbmodjdkcdcaaGreatDoor
