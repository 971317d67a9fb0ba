import Derived.Test.YtlkjdchmeihhkaaGreatDoorLawMac
set_option autoImplicit true
set_option relaxedAutoImplicit true
set_option linter.all false
set_option maxRecDepth 20000
namespace Go.Proofs.YtlkjdchmeihhkaaGreatDoor
open Go Go.Sim
variable [Fu]
abbrev b8 (x:Int):BitVec 8:=BitVec.ofInt 8 x
abbrev n8 (b:BitVec 8):Int:=(b.toNat:Int)
theorem BH (b:BitVec 8):b8 (n8 b)=b:=by simp[b8,n8]
theorem FH (b:BitVec 8):0≤n8 b∧n8 b≤255:=by have:=b.isLt;simp only[n8];omega
def Rb (s:Int×Int×Int):Int×Int×Int:=(bif (eI .u8 s.1 128) != 0 then bJ .u8 (eD .u8 s.1 1) 27 else eD .u8 s.1 1,ef .u8 s.2.1 1,bif (eI .u8 s.2.1 1)==1 then bJ .u8 s.2.2 s.1 else s.2.2)
def Xo (a b:Int):Nat→Int×Int×Int|0=>(a,b,0)|i+1=>Rb (Xo a b i)
def uC (a b:Int):Int:=(Xo a b 8).2.2
theorem vK (a b:Int):fQ a b=some (uC a b):=by unfold fQ;obtain⟨M,c⟩:∃M,M=Xo a b:=⟨_,rfl⟩;(have d:M 0=(a,b,0):=by rw[c];rfl);(have e:∀i,M (i+1)=Rb (M i):=by rw[c];intro i;rfl);rw[aY (λi=>((M i).1,(M i).2.1,(M i).2.2,(i:Int))) 0 8 (r:=(M 8).2.2) (by omega) ?_ (dS rfl) (by rw[d];rfl)];rw[c];rfl;intro i _ c;(have c:decide ((i:Int)<8)=true:=by simp;omega);simp only[c,Im];rw[e,wrap64 (by omega)];unfold Rb;cases ((eI .u8 (M i).2.1 1)==1)<;>cases ((eI .u8 (M i).1 128) != 0)<;>rfl
def x9:Nat→Nat→Nat→Nat→Nat|0,_,_,c=>c|k+1,a,b,c=>x9 k ((a*2)%256^^^(a / 128)*27) (b / 2) (c^^^(b%2)*a)
theorem YB:∀b:Fin 256,eI .u8 ((b.val:Nat):Int) 1=((b.val%2:Nat):Int):=by decide+kernel
theorem dbl:∀b:Fin 256,(bif (eI .u8 ((b.val:Nat):Int) 128) != 0 then bJ .u8 (eD .u8 ((b.val:Nat):Int) 1) 27 else eD .u8 ((b.val:Nat):Int) 1)=(((b.val*2)%256^^^(b.val / 128)*27:Nat):Int):=by decide+kernel
theorem ZH:∀b:Fin 256,ef .u8 ((b.val:Nat):Int) 1=((b.val / 2:Nat):Int):=by decide+kernel
theorem SN {a b:Nat} (c:a<256) (d:b<256):bJ .u8 (a:Int) (b:Int)=((a^^^b:Nat):Int):=by rw[xW];(have:BitVec.ofInt 8 (a:Int)^^^BitVec.ofInt 8 (b:Int)=BitVec.ofNat 8 (a^^^b):=by apply Lh;have h:a^^^b<256:=Kq (n:=8) c d;simp only[BitVec.toNat_xor,JM,BitVec.toNat_ofNat];(have e:((a:Int)%((2^8:Nat):Int)).toNat=a:=by omega);(have f:((b:Int)%((2^8:Nat):Int)).toNat=b:=by omega);rw[e,f,Lv h]);rw[this];have h:a^^^b<256:=Kq (n:=8) c d;simp only[BitVec.toNat_ofNat];omega
theorem FI {a b c:Nat} (d:a<256) (e:b<256) (f:c<256):Rb ((a:Int),(b:Int),(c:Int))=((((a*2)%256^^^(a / 128)*27:Nat):Int),((b / 2:Nat):Int),((c^^^(b%2)*a:Nat):Int)):=by unfold Rb;simp only;rw[dbl ⟨a,d⟩,ZH ⟨b,e⟩,YB ⟨b,e⟩];refine Prod.ext rfl (Prod.ext rfl ?_);simp only;rcases Nat.mod_two_eq_zero_or_one b with h|h;rw[h];simp;rw[h];simp[SN f d]
theorem HU {a:Nat} (b:a<256):(a*2)%256^^^(a / 128)*27<256:=Kq (n:=8) (by omega) (by omega)
theorem qP {a b:Nat} (d:a<256) (e:b<256):uC a b=(x9 8 a b 0:Nat)∧x9 8 a b 0<256:=by (have f:∀k (s:Nat→Int×Int×Int),(∀i,s (i+1)=Rb (s i))→∀a b c:Nat,a<256→b<256→c<256→∀i,s i=((a:Int),(b:Int),(c:Int))→(s (i+k)).2.2=(x9 k a b c:Nat)∧x9 k a b c<256:=by intro k s j;induction k with|zero=>intro a b c _ _ l i h;rw[KK,h];exact⟨rfl,l⟩|succ k m=>intro a b c d e l i h;have c:=j i;rw[h,FI d e l] at c;have:=m _ _ _ (HU d) (by omega) (Kq (n:=8) l (by rcases Nat.mod_two_eq_zero_or_one b with h|h<;>rw[h]<;>omega)) (i+1) c;rw[show i+(k+1)=i+1+k by omega];exact this);exact f 8 (Xo a b) (λi=>rfl) a b 0 d e (by omega) 0 rfl
def Sj:Nat→Nat→Nat→Nat|0,r,_=>r|k+1,r,q=>Sj k (x9 8 r (x9 8 q q 0) 0) (x9 8 q q 0)
def RQ (a n:Nat):Nat:=(a*2^n)%256|||a / 2^(8 - n)
def Vs (a:Nat):Nat:=let v:=Sj 7 1 a;v^^^RQ v 1^^^RQ v 2^^^RQ v 3^^^RQ v 4^^^99
theorem Ha:∀a:Fin 256,((Vs a.val:Nat):Int)=lE.getD a.val 0:=by decide+kernel
theorem DW:∀{k r q:Nat},r<256→q<256→Sj k r q<256|0,_,_,h,_=>h|k+1,r,q,a,b=>by have c:=(qP b b).2;show Sj k (x9 8 r (x9 8 q q 0) 0) (x9 8 q q 0)<256;exact DW (qP a c).2 c
theorem Ew {a:Nat} (b:a<256):nQ a=some ((Sj 7 1 a:Nat):Int):=by
 unfold nQ
 have c:∀k r q i:Nat,r<256→q<256→i+k=7→Loop.run (S:=(Int×Int×Int)) (R:=Int) (λ(d,e,f)=>
   bif decide (f<7) then
     (fQ e e).bind λe=>
     (fQ d e).bind λh=>
     some (.next (h,e,IntKind.wrap .i64 (f+1)))
   else
     some (.done d)) ((r:Int),(q:Int),(i:Int))=some ((Sj k r q:Nat):Int):=by
  intro k
  induction k with
  |zero=>
   intro r q i _ _ h
   refine Mp ?_
   have:decide ((i:Int)<7)=false:=by simp;omega
   simp only[this,Il];rfl
  |succ k d=>
   intro r q i e f h
   have h:=qP f f
   have f:=qP e h.2
   rw[My (s':=(((x9 8 r (x9 8 q q 0) 0:Nat):Int),((x9 8 q q 0:Nat):Int),((i+1:Nat):Int)))]
   · exact d _ _ _ f.2 h.2 (by omega)
   · have:decide ((i:Int)<7)=true:=by simp;omega
     simp only[this,Im,vK,aB]
     rw[h.1,f.1,wrap64 (by omega)];rfl
 have:=c 7 1 a 0 (by omega) b rfl
 have e:(((1:Nat):Int),(a:Int),((0:Nat):Int))=((1:Int),(a:Int),(0:Int)):=rfl
 rw[e] at this
 rw[this];rfl
theorem Hb:∀a:Fin 256,∀n:Fin 5,n.val≠0→qH .u8 (eD .u8 ((a.val:Nat):Int) ((n.val:Nat):Int)) (ef .u8 ((a.val:Nat):Int) (8 - ((n.val:Nat):Int)))=((RQ a.val n.val:Nat):Int)∧RQ a.val n.val<256:=by decide+kernel
theorem ow {a n:Nat} (b:a<256) (c:1≤n∧n<5):fR a n=some ((RQ a n:Nat):Int)∧RQ a n<256:=by have:=Hb ⟨a,b⟩ ⟨n,c.2⟩ (by simp only;omega);refine⟨?_,this.2⟩;unfold fR;(have b:decide (0≤(n:Int))=true:=by simp);(have c:decide (0≤8 - (n:Int))=true:=by simp;omega);rw[wrap64 (by omega),b,c,this.1];rfl
theorem vL {z:Int} (hz:0≤z∧z≤255):dy z=some (lE.getD z.toNat 0):=by obtain⟨a,rfl⟩:∃a:Nat,z=a:=⟨z.toNat,by omega⟩;(have ha:a<256:=by omega);unfold dy;rw[Ew ha];have hv:=DW (k:=7) (r:=1) (by omega) ha;have t:((Vs a:Nat):Int)=lE.getD a 0:=Ha ⟨a,ha⟩;unfold Vs at t;rw[Iq];generalize Sj 7 1 a=v at*;obtain⟨t1,l1⟩:=ow (n:=1) hv (by omega);obtain⟨t2,l2⟩:=ow (n:=2) hv (by omega);obtain⟨t3,l3⟩:=ow (n:=3) hv (by omega);obtain⟨t4,l4⟩:=ow (n:=4) hv (by omega);have c1:((1:Nat):Int)=1:=rfl;have c2:((2:Nat):Int)=2:=rfl;have c3:((3:Nat):Int)=3:=rfl;have c4:((4:Nat):Int)=4:=rfl;rw[c1] at t1;rw[c2] at t2;rw[c3] at t3;rw[c4] at t4;simp only[aB,t1,t2,t3,t4];have m1:=Kq (n:=8) hv l1;have m2:=Kq (n:=8) m1 l2;have m3:=Kq (n:=8) m2 l3;have m4:=Kq (n:=8) m3 l4;have b:(99:Int)=((99:Nat):Int):=rfl;rw[SN hv l1,SN m1 l2,SN m2 l3,SN m3 l4,b,SN m4 (by omega),t]
def tw (x:Int):Int:=bif decide (x≥128) then bJ .u8 (eD .u8 x 1) 27 else eD .u8 x 1
theorem zL (x:Int):fE x=some (tw x):=by unfold fE tw;cases decide (x≥128)<;>rfl
def UF (b:BitVec 8):BitVec 8:=(b<<<1)^^^(bif b.msb then 27#8 else 0#8)
theorem A0:∀a:Fin 256,tw ((a.val:Nat):Int)=n8 (UF (b8 ((a.val:Nat):Int)))∧x9 8 1 a.val 0=a.val∧(x9 8 2 a.val 0:Int)=tw ((a.val:Nat):Int)∧(x9 8 3 a.val 0:Int)=bJ .u8 (tw ((a.val:Nat):Int)) ((a.val:Nat):Int):=by decide+kernel
theorem QS {x:Int} (hx:0≤x∧x≤255):tw x=n8 (UF (b8 x)):=by obtain⟨a,rfl⟩:∃a:Nat,x=a:=⟨x.toNat,by omega⟩;exact(A0 ⟨a,by omega⟩).1
theorem RX {x:Int} (hx:0≤x∧x≤255):uC 1 x=x:=by obtain⟨a,rfl⟩:∃a:Nat,x=a:=⟨x.toNat,by omega⟩;have:=qP (a:=1) (b:=a) (by omega) (by omega);rw[show(1:Int)=((1:Nat):Int) from rfl,this.1,(A0 ⟨a,by omega⟩).2.1]
theorem S6 {x:Int} (hx:0≤x∧x≤255):uC 2 x=tw x:=by obtain⟨a,rfl⟩:∃a:Nat,x=a:=⟨x.toNat,by omega⟩;have:=qP (a:=2) (b:=a) (by omega) (by omega);rw[show(2:Int)=((2:Nat):Int) from rfl,this.1];exact(A0 ⟨a,by omega⟩).2.2.1
theorem Us {x:Int} (hx:0≤x∧x≤255):uC 3 x=bJ .u8 (tw x) x:=by obtain⟨a,rfl⟩:∃a:Nat,x=a:=⟨x.toNat,by omega⟩;have:=qP (a:=3) (b:=a) (by omega) (by omega);rw[show(3:Int)=((3:Nat):Int) from rfl,this.1];exact(A0 ⟨a,by omega⟩).2.2.2
theorem xr (a b c:BitVec 8):a^^^(b^^^c)=b^^^(a^^^c):=by rw[←Kz,Lc a b,Kz]
theorem xu (a b:BitVec 8):a^^^(a^^^b)=b:=by rw[←Kz,BitVec.xor_self,LF]
theorem Hc (a b:BitVec 8):UF (a^^^b)=UF a^^^UF b:=by unfold UF;rw[BitVec.msb_xor,BitVec.shiftLeft_xor_distrib];cases a.msb<;>cases b.msb<;>simp[Kz,Lc,xr,xu]
theorem Tm (x y:Int):bJ .u8 x y=n8 (b8 x^^^b8 y):=xW x y
theorem FJ {x:Int} (a:0≤x∧x≤255):0≤tw x∧tw x≤255:=by rw[QS a];exact FH _
theorem Ex:aV lE:=by (have:∀b∈lE,0≤b∧b≤255:=by decide+kernel);exact this
theorem Ey (i:Nat):0≤lE.getD i 0∧lE.getD i 0≤255:=gK Ex i
end Go.Proofs.YtlkjdchmeihhkaaGreatDoor
