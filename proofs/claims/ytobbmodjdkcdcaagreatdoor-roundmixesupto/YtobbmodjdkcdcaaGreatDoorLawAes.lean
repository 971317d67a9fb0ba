import Derived.Test.YtobbmodjdkcdcaaGreatDoorLawMac
set_option autoImplicit true
set_option relaxedAutoImplicit true
set_option linter.all false
set_option maxRecDepth 20000
namespace Go.Proofs.YtobbmodjdkcdcaaGreatDoor
open Go Go.Sim
variable [Fu]
abbrev b8 (x:Int):BitVec 8:=BitVec.ofInt 8 x
abbrev n8 (b:BitVec 8):Int:=(b.toNat:Int)
theorem AL (b:BitVec 8):b8 (n8 b)=b:=by simp[b8,n8]
theorem EA (b:BitVec 8):0≤n8 b∧n8 b≤255:=by have:=b.isLt;simp only[n8];omega
def S3 (s:Int×Int×Int):Int×Int×Int:=(bif (OZ .u8 s.1 128) != 0 then g_ .u8 (OX .u8 s.1 1) 27 else OX .u8 s.1 1,K_ .u8 s.2.1 1,bif (OZ .u8 s.2.1 1)==1 then g_ .u8 s.2.2 s.1 else s.2.2)
def YJ (a b:Int):Nat→Int×Int×Int|0=>(a,b,0)|i+1=>S3 (YJ a b i)
def Qr (a b:Int):Int:=(YJ a b 8).2.2
theorem uk (a b:Int):fA a b=some (Qr a b):=by unfold fA;obtain⟨M,hM⟩:∃M,M=YJ a b:=⟨_,rfl⟩;(have h0:M 0=(a,b,0):=by rw[hM];rfl);(have hS:∀i,M (i+1)=S3 (M i):=by rw[hM];intro i;rfl);rw[aY (λi=>((M i).1,(M i).2.1,(M i).2.2,(i:Int))) 0 8 (r:=(M 8).2.2) (by omega) ?_ (dF rfl) (by rw[h0];rfl)];rw[hM];rfl;intro i _ hi;(have h1:decide ((i:Int)<8)=true:=by simp;omega);simp only[h1,Hn];rw[hS,wrap64 (by omega)];unfold S3;cases ((OZ .u8 (M i).2.1 1)==1)<;>cases ((OZ .u8 (M i).1 128) != 0)<;>rfl
def Q4:Nat→Nat→Nat→Nat→Nat|0,_,_,c=>c|k+1,a,b,c=>Q4 k ((a*2)%256^^^(a / 128)*27) (b / 2) (c^^^(b%2)*a)
theorem YS:∀b:Fin 256,OZ .u8 ((b.val:Nat):Int) 1=((b.val%2:Nat):Int):=by decide+kernel
theorem dbl:∀b:Fin 256,(bif (OZ .u8 ((b.val:Nat):Int) 128) != 0 then g_ .u8 (OX .u8 ((b.val:Nat):Int) 1) 27 else OX .u8 ((b.val:Nat):Int) 1)=(((b.val*2)%256^^^(b.val / 128)*27:Nat):Int):=by decide+kernel
theorem hlv:∀b:Fin 256,K_ .u8 ((b.val:Nat):Int) 1=((b.val / 2:Nat):Int):=by decide+kernel
theorem UA {a b:Nat} (ha:a<256) (hb:b<256):g_ .u8 (a:Int) (b:Int)=((a^^^b:Nat):Int):=by rw[wz];(have:BitVec.ofInt 8 (a:Int)^^^BitVec.ofInt 8 (b:Int)=BitVec.ofNat 8 (a^^^b):=by apply J2;have h:a^^^b<256:=Jo (n:=8) ha hb;simp only[BitVec.toNat_xor,IG,BitVec.toNat_ofNat];(have h1:((a:Int)%((2^8:Nat):Int)).toNat=a:=by omega);(have h2:((b:Int)%((2^8:Nat):Int)).toNat=b:=by omega);rw[h1,h2,Ke h]);rw[this];have h:a^^^b<256:=Jo (n:=8) ha hb;simp only[BitVec.toNat_ofNat];omega
theorem EB {a b c:Nat} (ha:a<256) (hb:b<256) (hc:c<256):S3 ((a:Int),(b:Int),(c:Int))=((((a*2)%256^^^(a / 128)*27:Nat):Int),((b / 2:Nat):Int),((c^^^(b%2)*a:Nat):Int)):=by unfold S3;simp only;rw[dbl ⟨a,ha⟩,hlv ⟨b,hb⟩,YS ⟨b,hb⟩];refine Prod.ext rfl (Prod.ext rfl ?_);simp only;rcases Nat.mod_two_eq_zero_or_one b with h|h;rw[h];simp;rw[h];simp[UA hc ha]
theorem GP {a:Nat} (ha:a<256):(a*2)%256^^^(a / 128)*27<256:=Jo (n:=8) (by omega) (by omega)
theorem pU {a b:Nat} (ha:a<256) (hb:b<256):Qr a b=(Q4 8 a b 0:Nat)∧Q4 8 a b 0<256:=by (have key:∀k (s:Nat→Int×Int×Int),(∀i,s (i+1)=S3 (s i))→∀a b c:Nat,a<256→b<256→c<256→∀i,s i=((a:Int),(b:Int),(c:Int))→(s (i+k)).2.2=(Q4 k a b c:Nat)∧Q4 k a b c<256:=by intro k s hs;induction k with|zero=>intro a b c _ _ hc i h;rw[JJ,h];exact⟨rfl,hc⟩|succ k ih=>intro a b c ha hb hc i h;have h1:=hs i;rw[h,EB ha hb hc] at h1;have:=ih _ _ _ (GP ha) (by omega) (Jo (n:=8) hc (by rcases Nat.mod_two_eq_zero_or_one b with h|h<;>rw[h]<;>omega)) (i+1) h1;rw[show i+(k+1)=i+1+k by omega];exact this);exact key 8 (YJ a b) (λi=>rfl) a b 0 ha hb (by omega) 0 rfl
def T7:Nat→Nat→Nat→Nat|0,r,_=>r|k+1,r,q=>T7 k (Q4 8 r (Q4 8 q q 0) 0) (Q4 8 q q 0)
def Tp (a n:Nat):Nat:=(a*2^n)%256|||a / 2^(8 - n)
def WY (a:Nat):Nat:=let v:=T7 7 1 a;v^^^Tp v 1^^^Tp v 2^^^Tp v 3^^^Tp v 4^^^99
theorem FX:∀a:Fin 256,((WY a.val:Nat):Int)=kO.getD a.val 0:=by decide+kernel
theorem C4:∀{k r q:Nat},r<256→q<256→T7 k r q<256|0,_,_,h,_=>h|k+1,r,q,h1,h2=>by have h3:=(pU h2 h2).2;show T7 k (Q4 8 r (Q4 8 q q 0) 0) (Q4 8 q q 0)<256;exact C4 (pU h1 h3).2 h3
theorem DG {a:Nat} (ha:a<256):nb a=some ((T7 7 1 a:Nat):Int):=by
 unfold nb
 have key:∀k r q i:Nat,r<256→q<256→i+k=7→Loop.run (S:=(Int×Int×Int)) (R:=Int) (λ(x48,x49,x50)=>
   bif decide (x50<7) then
     (fA x49 x49).bind λy61=>
     (fA x48 y61).bind λy63=>
     some (.next (y63,y61,IntKind.wrap .i64 (x50+1)))
   else
     some (.done x48)) ((r:Int),(q:Int),(i:Int))=some ((T7 k r q:Nat):Int):=by
  intro k
  induction k with
  |zero=>
   intro r q i _ _ h
   refine Lr ?_
   have:decide ((i:Int)<7)=false:=by simp;omega
   simp only[this,Hm];rfl
  |succ k ih=>
   intro r q i h1 h2 h
   have h3:=pU h2 h2
   have h4:=pU h1 h3.2
   rw[Ly (s':=(((Q4 8 r (Q4 8 q q 0) 0:Nat):Int),((Q4 8 q q 0:Nat):Int),((i+1:Nat):Int)))]
   · exact ih _ _ _ h4.2 h3.2 (by omega)
   · have:decide ((i:Int)<7)=true:=by simp;omega
     simp only[this,Hn,uk,aB]
     rw[h3.1,h4.1,wrap64 (by omega)];rfl
 have:=key 7 1 a 0 (by omega) ha rfl
 have e:(((1:Nat):Int),(a:Int),((0:Nat):Int))=((1:Int),(a:Int),(0:Int)):=rfl
 rw[e] at this
 rw[this];rfl
theorem FY:∀a:Fin 256,∀n:Fin 5,n.val≠0→PV .u8 (OX .u8 ((a.val:Nat):Int) ((n.val:Nat):Int)) (K_ .u8 ((a.val:Nat):Int) (8 - ((n.val:Nat):Int)))=((Tp a.val n.val:Nat):Int)∧Tp a.val n.val<256:=by decide+kernel
theorem nj {a n:Nat} (ha:a<256) (hn:1≤n∧n<5):fB a n=some ((Tp a n:Nat):Int)∧Tp a n<256:=by have:=FY ⟨a,ha⟩ ⟨n,hn.2⟩ (by simp only;omega);refine⟨?_,this.2⟩;unfold fB;(have e1:decide (0≤(n:Int))=true:=by simp);(have e2:decide (0≤8 - (n:Int))=true:=by simp;omega);rw[wrap64 (by omega),e1,e2,this.1];rfl
theorem ul {z:Int} (hz:0≤z∧z≤255):di z=some (kO.getD z.toNat 0):=by obtain⟨a,rfl⟩:∃a:Nat,z=a:=⟨z.toNat,by omega⟩;(have ha:a<256:=by omega);unfold di;rw[DG ha];have hv:=C4 (k:=7) (r:=1) (by omega) ha;have t:((WY a:Nat):Int)=kO.getD a 0:=FX ⟨a,ha⟩;unfold WY at t;rw[Hq];generalize T7 7 1 a=v at*;obtain⟨t1,l1⟩:=nj (n:=1) hv (by omega);obtain⟨t2,l2⟩:=nj (n:=2) hv (by omega);obtain⟨t3,l3⟩:=nj (n:=3) hv (by omega);obtain⟨t4,l4⟩:=nj (n:=4) hv (by omega);have c1:((1:Nat):Int)=1:=rfl;have c2:((2:Nat):Int)=2:=rfl;have c3:((3:Nat):Int)=3:=rfl;have c4:((4:Nat):Int)=4:=rfl;rw[c1] at t1;rw[c2] at t2;rw[c3] at t3;rw[c4] at t4;simp only[aB,t1,t2,t3,t4];have m1:=Jo (n:=8) hv l1;have m2:=Jo (n:=8) m1 l2;have m3:=Jo (n:=8) m2 l3;have m4:=Jo (n:=8) m3 l4;have b:(99:Int)=((99:Nat):Int):=rfl;rw[UA hv l1,UA m1 l2,UA m2 l3,UA m3 l4,b,UA m4 (by omega),t]
def tw (x:Int):Int:=bif decide (x≥128) then g_ .u8 (OX .u8 x 1) 27 else OX .u8 x 1
theorem ym (x:Int):fq x=some (tw x):=by unfold fq tw;cases decide (x≥128)<;>rfl
def WE (b:BitVec 8):BitVec 8:=(b<<<1)^^^(bif b.msb then 27#8 else 0#8)
theorem zz:∀a:Fin 256,tw ((a.val:Nat):Int)=n8 (WE (b8 ((a.val:Nat):Int)))∧Q4 8 1 a.val 0=a.val∧(Q4 8 2 a.val 0:Int)=tw ((a.val:Nat):Int)∧(Q4 8 3 a.val 0:Int)=g_ .u8 (tw ((a.val:Nat):Int)) ((a.val:Nat):Int):=by decide+kernel
theorem SJ {x:Int} (hx:0≤x∧x≤255):tw x=n8 (WE (b8 x)):=by obtain⟨a,rfl⟩:∃a:Nat,x=a:=⟨x.toNat,by omega⟩;exact(zz ⟨a,by omega⟩).1
theorem TI {x:Int} (hx:0≤x∧x≤255):Qr 1 x=x:=by obtain⟨a,rfl⟩:∃a:Nat,x=a:=⟨x.toNat,by omega⟩;have:=pU (a:=1) (b:=a) (by omega) (by omega);rw[show(1:Int)=((1:Nat):Int) from rfl,this.1,(zz ⟨a,by omega⟩).2.1]
theorem Vn {x:Int} (hx:0≤x∧x≤255):Qr 2 x=tw x:=by obtain⟨a,rfl⟩:∃a:Nat,x=a:=⟨x.toNat,by omega⟩;have:=pU (a:=2) (b:=a) (by omega) (by omega);rw[show(2:Int)=((2:Nat):Int) from rfl,this.1];exact(zz ⟨a,by omega⟩).2.2.1
theorem V0 {x:Int} (hx:0≤x∧x≤255):Qr 3 x=g_ .u8 (tw x) x:=by obtain⟨a,rfl⟩:∃a:Nat,x=a:=⟨x.toNat,by omega⟩;have:=pU (a:=3) (b:=a) (by omega) (by omega);rw[show(3:Int)=((3:Nat):Int) from rfl,this.1];exact(zz ⟨a,by omega⟩).2.2.2
theorem wb (a b c:BitVec 8):a^^^(b^^^c)=b^^^(a^^^c):=by rw[←JB,JZ a b,JB]
theorem wc (a b:BitVec 8):a^^^(a^^^b)=b:=by rw[←JB,BitVec.xor_self,Kr]
theorem FZ (a b:BitVec 8):WE (a^^^b)=WE a^^^WE b:=by unfold WE;rw[BitVec.msb_xor,BitVec.shiftLeft_xor_distrib];cases a.msb<;>cases b.msb<;>simp[JB,JZ,wb,wc]
theorem UQ (x y:Int):g_ .u8 x y=n8 (b8 x^^^b8 y):=wz x y
theorem EC {x:Int} (hx:0≤x∧x≤255):0≤tw x∧tw x≤255:=by rw[SJ hx];exact EA _
theorem DH:aT kO:=by (have:∀b∈kO,0≤b∧b≤255:=by decide+kernel);exact this
theorem DI (i:Nat):0≤kO.getD i 0∧kO.getD i 0≤255:=fW DH i
end Go.Proofs.YtobbmodjdkcdcaaGreatDoor
