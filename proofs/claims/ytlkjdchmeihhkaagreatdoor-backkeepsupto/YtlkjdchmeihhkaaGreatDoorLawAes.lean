import Derived.Test.YtlkjdchmeihhkaaGreatDoorLawMac
set_option autoImplicit true
set_option relaxedAutoImplicit true
set_option linter.all false
set_option maxRecDepth 20000
namespace Go.Proofs.YtlkjdchmeihhkaaGreatDoor
open Go Go.Sim
variable [Fu]
abbrev b8 (x:Int):BitVec 8:=BitVec.ofInt 8 x
abbrev n8 (b:BitVec 8):Int:=(b.toNat:Int)
theorem zW (b:BitVec 8):b8 (n8 b)=b:=by simp[b8,n8]
theorem DT (b:BitVec 8):0≤n8 b∧n8 b≤255:=by have:=b.isLt;simp only[n8];omega
def D_ (s:Int×Int×Int):Int×Int×Int:=(bif (eH .u8 s.1 128) != 0 then bD .u8 (en .u8 s.1 1) 27 else en .u8 s.1 1,co .u8 s.2.1 1,bif (eH .u8 s.2.1 1)==1 then bD .u8 s.2.2 s.1 else s.2.2)
def T3 (a b:Int):Nat→Int×Int×Int|0=>(a,b,0)|i+1=>D_ (T3 a b i)
def mJ (a b:Int):Int:=(T3 a b 8).2.2
theorem sM (a b:Int):fC a b=some (mJ a b):=by unfold fC;obtain⟨M,c⟩:∃M,M=T3 a b:=⟨_,rfl⟩;(have d:M 0=(a,b,0):=by rw[c];rfl);(have e:∀i,M (i+1)=D_ (M i):=by rw[c];intro i;rfl);rw[cb (λi=>((M i).1,(M i).2.1,(M i).2.2,(i:Int))) 0 8 (r:=(M 8).2.2) (by omega) ?_ (jt rfl) (by rw[d];rfl)];rw[c];rfl;intro i _ c;(have c:decide ((i:Int)<8)=true:=by simp;omega);simp only[c,Gy];rw[e,wrap64 (by omega)];unfold D_;cases ((eH .u8 (M i).2.1 1)==1)<;>cases ((eH .u8 (M i).1 128) != 0)<;>rfl
def q4:Nat→Nat→Nat→Nat→Nat|0,_,_,c=>c|k+1,a,b,c=>q4 k ((a*2)%256^^^(a / 128)*27) (b / 2) (c^^^(b%2)*a)
theorem Up:∀b:Fin 256,eH .u8 ((b.val:Nat):Int) 1=((b.val%2:Nat):Int):=by decide+kernel
theorem V6:∀b:Fin 256,(bif (eH .u8 ((b.val:Nat):Int) 128) != 0 then bD .u8 (en .u8 ((b.val:Nat):Int) 1) 27 else en .u8 ((b.val:Nat):Int) 1)=(((b.val*2)%256^^^(b.val / 128)*27:Nat):Int):=by decide+kernel
theorem Wp:∀b:Fin 256,co .u8 ((b.val:Nat):Int) 1=((b.val / 2:Nat):Int):=by decide+kernel
theorem PF {a b:Nat} (c:a<256) (d:b<256):bD .u8 (a:Int) (b:Int)=((a^^^b:Nat):Int):=by rw[vu];(have:BitVec.ofInt 8 (a:Int)^^^BitVec.ofInt 8 (b:Int)=BitVec.ofNat 8 (a^^^b):=by apply I8;have h:a^^^b<256:=Ip (n:=8) c d;simp only[BitVec.toNat_xor,H9,BitVec.toNat_ofNat];(have e:((a:Int)%((2^8:Nat):Int)).toNat=a:=by omega);(have f:((b:Int)%((2^8:Nat):Int)).toNat=b:=by omega);rw[e,f,Jj h]);rw[this];have h:a^^^b<256:=Ip (n:=8) c d;simp only[BitVec.toNat_ofNat];omega
theorem DU {a b c:Nat} (d:a<256) (e:b<256) (f:c<256):D_ ((a:Int),(b:Int),(c:Int))=((((a*2)%256^^^(a / 128)*27:Nat):Int),((b / 2:Nat):Int),((c^^^(b%2)*a:Nat):Int)):=by unfold D_;simp only;rw[V6 ⟨a,d⟩,Wp ⟨b,e⟩,Up ⟨b,e⟩];refine Prod.ext rfl (Prod.ext rfl ?_);simp only;rcases Nat.mod_two_eq_zero_or_one b with h|h;rw[h];simp;rw[h];simp[PF f d]
theorem Ga {a:Nat} (b:a<256):(a*2)%256^^^(a / 128)*27<256:=Ip (n:=8) (by omega) (by omega)
theorem nS {a b:Nat} (d:a<256) (e:b<256):mJ a b=(q4 8 a b 0:Nat)∧q4 8 a b 0<256:=by (have f:∀k (s:Nat→Int×Int×Int),(∀i,s (i+1)=D_ (s i))→∀a b c:Nat,a<256→b<256→c<256→∀i,s i=((a:Int),(b:Int),(c:Int))→(s (i+k)).2.2=(q4 k a b c:Nat)∧q4 k a b c<256:=by intro k s j;induction k with|zero=>intro a b c _ _ l i h;rw[IP,h];exact⟨rfl,l⟩|succ k m=>intro a b c d e l i h;have c:=j i;rw[h,DU d e l] at c;have:=m _ _ _ (Ga d) (by omega) (Ip (n:=8) l (by rcases Nat.mod_two_eq_zero_or_one b with h|h<;>rw[h]<;>omega)) (i+1) c;rw[show i+(k+1)=i+1+k by omega];exact this);exact f 8 (T3 a b) (λi=>rfl) a b 0 d e (by omega) 0 rfl
def Pe:Nat→Nat→Nat→Nat|0,r,_=>r|k+1,r,q=>Pe k (q4 8 r (q4 8 q q 0) 0) (q4 8 q q 0)
def OS (a n:Nat):Nat:=(a*2^n)%256|||a / 2^(8 - n)
def Q2 (a:Nat):Nat:=let v:=Pe 7 1 a;v^^^OS v 1^^^OS v 2^^^OS v 3^^^OS v 4^^^99
def OC:List Int:=(List.range 256).map λa=>((Q2 a:Nat):Int)
theorem Fc:∀a:Fin 256,((Q2 a.val:Nat):Int)=OC.getD a.val 0:=by decide+kernel
theorem Cn:∀{k r q:Nat},r<256→q<256→Pe k r q<256|0,_,_,h,_=>h|k+1,r,q,a,b=>by have c:=(nS b b).2;show Pe k (q4 8 r (q4 8 q q 0) 0) (q4 8 q q 0)<256;exact Cn (nS a c).2 c
theorem CZ {a:Nat} (b:a<256):lE a=some ((Pe 7 1 a:Nat):Int):=by
 unfold lE
 have c:∀k r q i:Nat,r<256→q<256→i+k=7→Loop.run (S:=(Int×Int×Int)) (R:=Int) (λ(d,e,f)=>
   bif decide (f<7) then
     (fC e e).bind λe=>
     (fC d e).bind λh=>
     some (.next (h,e,IntKind.wrap .i64 (f+1)))
   else
     some (.done d)) ((r:Int),(q:Int),(i:Int))=some ((Pe k r q:Nat):Int):=by
  intro k
  induction k with
  |zero=>
   intro r q i _ _ h
   refine Km ?_
   have:decide ((i:Int)<7)=false:=by simp;omega
   simp only[this,Gx];rfl
  |succ k d=>
   intro r q i e f h
   have h:=nS f f
   have f:=nS e h.2
   rw[Kx (s':=(((q4 8 r (q4 8 q q 0) 0:Nat):Int),((q4 8 q q 0:Nat):Int),((i+1:Nat):Int)))]
   · exact d _ _ _ f.2 h.2 (by omega)
   · have:decide ((i:Int)<7)=true:=by simp;omega
     simp only[this,Gy,sM,aF]
     rw[h.1,f.1,wrap64 (by omega)];rfl
 have:=c 7 1 a 0 (by omega) b rfl
 have e:(((1:Nat):Int),(a:Int),((0:Nat):Int))=((1:Int),(a:Int),(0:Int)):=rfl
 rw[e] at this
 rw[this];rfl
theorem Fd:∀a:Fin 256,∀n:Fin 5,n.val≠0→nL .u8 (en .u8 ((a.val:Nat):Int) ((n.val:Nat):Int)) (co .u8 ((a.val:Nat):Int) (8 - ((n.val:Nat):Int)))=((OS a.val n.val:Nat):Int)∧OS a.val n.val<256:=by decide+kernel
theorem l6 {a n:Nat} (b:a<256) (c:1≤n∧n<5):fD a n=some ((OS a n:Nat):Int)∧OS a n<256:=by have:=Fd ⟨a,b⟩ ⟨n,c.2⟩ (by simp only;omega);refine⟨?_,this.2⟩;unfold fD;(have b:decide (0≤(n:Int))=true:=by simp);(have c:decide (0≤8 - (n:Int))=true:=by simp;omega);rw[wrap64 (by omega),b,c,this.1];rfl
theorem sN {z:Int} (hz:0≤z∧z≤255):dx z=some (OC.getD z.toNat 0):=by obtain⟨a,rfl⟩:∃a:Nat,z=a:=⟨z.toNat,by omega⟩;(have ha:a<256:=by omega);unfold dx;rw[CZ ha];have hv:=Cn (k:=7) (r:=1) (by omega) ha;have t:((Q2 a:Nat):Int)=OC.getD a 0:=Fc ⟨a,ha⟩;unfold Q2 at t;rw[GG];generalize Pe 7 1 a=v at*;obtain⟨t1,l1⟩:=l6 (n:=1) hv (by omega);obtain⟨t2,l2⟩:=l6 (n:=2) hv (by omega);obtain⟨t3,l3⟩:=l6 (n:=3) hv (by omega);obtain⟨t4,l4⟩:=l6 (n:=4) hv (by omega);have c1:((1:Nat):Int)=1:=rfl;have c2:((2:Nat):Int)=2:=rfl;have c3:((3:Nat):Int)=3:=rfl;have c4:((4:Nat):Int)=4:=rfl;rw[c1] at t1;rw[c2] at t2;rw[c3] at t3;rw[c4] at t4;simp only[aF,t1,t2,t3,t4];have m1:=Ip (n:=8) hv l1;have m2:=Ip (n:=8) m1 l2;have m3:=Ip (n:=8) m2 l3;have m4:=Ip (n:=8) m3 l4;have b:(99:Int)=((99:Nat):Int):=rfl;rw[PF hv l1,PF m1 l2,PF m2 l3,PF m3 l4,b,PF m4 (by omega),t]
def tw (x:Int):Int:=bif decide (x≥128) then bD .u8 (en .u8 x 1) 27 else en .u8 x 1
def Rf (b:BitVec 8):BitVec 8:=(b<<<1)^^^(bif b.msb then 27#8 else 0#8)
theorem yR:∀a:Fin 256,tw ((a.val:Nat):Int)=n8 (Rf (b8 ((a.val:Nat):Int)))∧q4 8 1 a.val 0=a.val∧(q4 8 2 a.val 0:Int)=tw ((a.val:Nat):Int)∧(q4 8 3 a.val 0:Int)=bD .u8 (tw ((a.val:Nat):Int)) ((a.val:Nat):Int):=by decide+kernel
theorem zH {x:Int} (hx:0≤x∧x≤255):tw x=n8 (Rf (b8 x)):=by obtain⟨a,rfl⟩:∃a:Nat,x=a:=⟨x.toNat,by omega⟩;exact(yR ⟨a,by omega⟩).1
theorem OX {x:Int} (hx:0≤x∧x≤255):mJ 1 x=x:=by obtain⟨a,rfl⟩:∃a:Nat,x=a:=⟨x.toNat,by omega⟩;have:=nS (a:=1) (b:=a) (by omega) (by omega);rw[show(1:Int)=((1:Nat):Int) from rfl,this.1,(yR ⟨a,by omega⟩).2.1]
theorem Qh {x:Int} (hx:0≤x∧x≤255):mJ 2 x=tw x:=by obtain⟨a,rfl⟩:∃a:Nat,x=a:=⟨x.toNat,by omega⟩;have:=nS (a:=2) (b:=a) (by omega) (by omega);rw[show(2:Int)=((2:Nat):Int) from rfl,this.1];exact(yR ⟨a,by omega⟩).2.2.1
theorem Q3 {x:Int} (hx:0≤x∧x≤255):mJ 3 x=bD .u8 (tw x) x:=by obtain⟨a,rfl⟩:∃a:Nat,x=a:=⟨x.toNat,by omega⟩;have:=nS (a:=3) (b:=a) (by omega) (by omega);rw[show(3:Int)=((3:Nat):Int) from rfl,this.1];exact(yR ⟨a,by omega⟩).2.2.2
theorem uX (a b c:BitVec 8):a^^^(b^^^c)=b^^^(a^^^c):=by rw[←Iq,I7 a b,Iq]
theorem uY (a b:BitVec 8):a^^^(a^^^b)=b:=by rw[←Iq,BitVec.xor_self,Jv]
theorem Fe (a b:BitVec 8):Rf (a^^^b)=Rf a^^^Rf b:=by unfold Rf;rw[BitVec.msb_xor,BitVec.shiftLeft_xor_distrib];cases a.msb<;>cases b.msb<;>simp[Iq,I7,uX,uY]
theorem PV (x y:Int):bD .u8 x y=n8 (b8 x^^^b8 y):=vu x y
theorem DV {x:Int} (a:0≤x∧x≤255):0≤tw x∧tw x≤255:=by rw[zH a];exact DT _
theorem C0:bW OC:=by (have:∀b∈OC,0≤b∧b≤255:=by decide+kernel);exact this
theorem C1 (i:Nat):0≤OC.getD i 0∧OC.getD i 0≤255:=gt C0 i
end Go.Proofs.YtlkjdchmeihhkaaGreatDoor
