import Derived.Test.YtkjlhdndbdenaaaGreatDoorLawMac
set_option autoImplicit true
set_option relaxedAutoImplicit true
set_option linter.all false
set_option maxRecDepth 20000
namespace Go.Proofs.YtkjlhdndbdenaaaGreatDoor
open Go Go.Sim
variable [Fu]
abbrev b8 (x:Int):BitVec 8:=BitVec.ofInt 8 x
abbrev n8 (b:BitVec 8):Int:=(b.toNat:Int)
theorem ou (b:BitVec 8):b8 (n8 b)=b:=by simp[b8,n8]
theorem sG (b:BitVec 8):0≤n8 b∧n8 b≤255:=by have:=b.isLt;simp only[n8];omega
def uD (s:Int×Int×Int):Int×Int×Int:=(bif (cJ .u8 s.1 128) != 0 then bC .u8 (c5 .u8 s.1 1) 27 else c5 .u8 s.1 1,cv .u8 s.2.1 1,bif (cJ .u8 s.2.1 1)==1 then bC .u8 s.2.2 s.1 else s.2.2)
def EH (a b:Int):Nat→Int×Int×Int|0=>(a,b,0)|i+1=>uD (EH a b i)
def hQ (a b:Int):Int:=(EH a b 8).2.2
theorem kn (a b:Int):da a b=some (hQ a b):=by unfold da;obtain⟨M,c⟩:∃M,M=EH a b:=⟨_,rfl⟩;(have d:M 0=(a,b,0):=by rw[c];rfl);(have e:∀i,M (i+1)=uD (M i):=by rw[c];intro i;rfl);rw[aQ (λi=>((M i).1,(M i).2.1,(M i).2.2,(i:Int))) 0 8 (r:=(M 8).2.2) (by omega) ?_ (dp rfl) (by rw[d];rfl)];rw[c];rfl;intro i _ c;(have c:decide ((i:Int)<8)=true:=by simp;omega);simp only[c,wd];rw[e,bA (by omega)];unfold uD;cases ((cJ .u8 (M i).2.1 1)==1)<;>cases ((cJ .u8 (M i).1 128) != 0)<;>rfl
def nA:Nat→Nat→Nat→Nat→Nat|0,_,_,c=>c|k+1,a,b,c=>nA k ((a*2)%256^^^(a / 128)*27) (b / 2) (c^^^(b%2)*a)
theorem E9:∀b:Fin 256,cJ .u8 ((b.val:Nat):Int) 1=((b.val%2:Nat):Int):=by decide+kernel
theorem Gq:∀b:Fin 256,(bif (cJ .u8 ((b.val:Nat):Int) 128) != 0 then bC .u8 (c5 .u8 ((b.val:Nat):Int) 1) 27 else c5 .u8 ((b.val:Nat):Int) 1)=(((b.val*2)%256^^^(b.val / 128)*27:Nat):Int):=by decide+kernel
theorem F7:∀b:Fin 256,cv .u8 ((b.val:Nat):Int) 1=((b.val / 2:Nat):Int):=by decide+kernel
theorem yB {a b:Nat} (c:a<256) (d:b<256):bC .u8 (a:Int) (b:Int)=((a^^^b:Nat):Int):=by rw[pi];(have:BitVec.ofInt 8 (a:Int)^^^BitVec.ofInt 8 (b:Int)=BitVec.ofNat 8 (a^^^b):=by apply BitVec.eq_of_toNat_eq;have h:a^^^b<256:=xF (n:=8) c d;simp only[BitVec.toNat_xor,xM,BitVec.toNat_ofNat];(have e:((a:Int)%((2^8:Nat):Int)).toNat=a:=by omega);(have f:((b:Int)%((2^8:Nat):Int)).toNat=b:=by omega);rw[e,f,Nat.mod_eq_of_lt h]);rw[this];have h:a^^^b<256:=xF (n:=8) c d;simp only[BitVec.toNat_ofNat];omega
theorem sH {a b c:Nat} (d:a<256) (e:b<256) (f:c<256):uD ((a:Int),(b:Int),(c:Int))=((((a*2)%256^^^(a / 128)*27:Nat):Int),((b / 2:Nat):Int),((c^^^(b%2)*a:Nat):Int)):=by unfold uD;simp only;rw[Gq ⟨a,d⟩,F7 ⟨b,e⟩,E9 ⟨b,e⟩];refine Prod.ext rfl (Prod.ext rfl ?_);simp only;rcases Nat.mod_two_eq_zero_or_one b with h|h;rw[h];simp;rw[h];simp[yB f d]
theorem vl {a:Nat} (b:a<256):(a*2)%256^^^(a / 128)*27<256:=xF (n:=8) (by omega) (by omega)
theorem iP {a b:Nat} (d:a<256) (e:b<256):hQ a b=(nA 8 a b 0:Nat)∧nA 8 a b 0<256:=by (have f:∀k (s:Nat→Int×Int×Int),(∀i,s (i+1)=uD (s i))→∀a b c:Nat,a<256→b<256→c<256→∀i,s i=((a:Int),(b:Int),(c:Int))→(s (i+k)).2.2=(nA k a b c:Nat)∧nA k a b c<256:=by intro k s j;induction k with|zero=>intro a b c _ _ l i h;rw[ym,h];exact⟨rfl,l⟩|succ k m=>intro a b c d e l i h;have c:=j i;rw[h,sH d e l] at c;have:=m _ _ _ (vl d) (by omega) (xF (n:=8) l (by rcases Nat.mod_two_eq_zero_or_one b with h|h<;>rw[h]<;>omega)) (i+1) c;rw[show i+(k+1)=i+1+k by omega];exact this);exact f 8 (EH a b) (λi=>rfl) a b 0 d e (by omega) 0 rfl
def xC:Nat→Nat→Nat→Nat|0,r,_=>r|k+1,r,q=>xC k (nA 8 r (nA 8 q q 0) 0) (nA 8 q q 0)
def wG (a n:Nat):Nat:=(a*2^n)%256|||a / 2^(8 - n)
def DC (a:Nat):Nat:=let v:=xC 7 1 a;v^^^wG v 1^^^wG v 2^^^wG v 3^^^wG v 4^^^99
theorem ul:∀a:Fin 256,((DC a.val:Nat):Int)=fo.getD a.val 0:=by decide+kernel
theorem qT:∀{k r q:Nat},r<256→q<256→xC k r q<256|0,_,_,h,_=>h|k+1,r,q,a,b=>by have c:=(iP b b).2;show xC k (nA 8 r (nA 8 q q 0) 0) (nA 8 q q 0)<256;exact qT (iP a c).2 c
theorem ru {a:Nat} (b:a<256):ge a=some ((xC 7 1 a:Nat):Int):=by
 unfold ge
 have c:∀k r q i:Nat,r<256→q<256→i+k=7→Loop.run (S:=(Int×Int×Int)) (R:=Int) (λ(d,e,f)=>
   bif decide (f<7) then
     (da e e).bind λe=>
     (da d e).bind λh=>
     some (.next (h,e,IntKind.wrap .i64 (f+1)))
   else
     some (.done d)) ((r:Int),(q:Int),(i:Int))=some ((xC k r q:Nat):Int):=by
  intro k
  induction k with
  |zero=>
   intro r q i _ _ h
   refine zO ?_
   have:decide ((i:Int)<7)=false:=by simp;omega
   simp only[this,wc];rfl
  |succ k d=>
   intro r q i e f h
   have h:=iP f f
   have f:=iP e h.2
   rw[zV (s':=(((nA 8 r (nA 8 q q 0) 0:Nat):Int),((nA 8 q q 0:Nat):Int),((i+1:Nat):Int)))]
   · exact d _ _ _ f.2 h.2 (by omega)
   · have:decide ((i:Int)<7)=true:=by simp;omega
     simp only[this,wd,kn,aC]
     rw[h.1,f.1,bA (by omega)];rfl
 have:=c 7 1 a 0 (by omega) b rfl
 have e:(((1:Nat):Int),(a:Int),((0:Nat):Int))=((1:Int),(a:Int),(0:Int)):=rfl
 rw[e] at this
 rw[this];rfl
theorem um:∀a:Fin 256,∀n:Fin 5,n.val≠0→kC .u8 (c5 .u8 ((a.val:Nat):Int) ((n.val:Nat):Int)) (cv .u8 ((a.val:Nat):Int) (8 - ((n.val:Nat):Int)))=((wG a.val n.val:Nat):Int)∧wG a.val n.val<256:=by decide+kernel
theorem gQ {a n:Nat} (b:a<256) (c:1≤n∧n<5):db a n=some ((wG a n:Nat):Int)∧wG a n<256:=by have:=um ⟨a,b⟩ ⟨n,c.2⟩ (by simp only;omega);refine⟨?_,this.2⟩;unfold db;(have b:decide (0≤(n:Int))=true:=by simp);(have c:decide (0≤8 - (n:Int))=true:=by simp;omega);rw[bA (by omega),b,c,this.1];rfl
theorem ko {z:Int} (hz:0≤z∧z≤255):bU z=some (fo.getD z.toNat 0):=by obtain⟨a,rfl⟩:∃a:Nat,z=a:=⟨z.toNat,by omega⟩;(have ha:a<256:=by omega);unfold bU;rw[ru ha];have hv:=qT (k:=7) (r:=1) (by omega) ha;have t:((DC a:Nat):Int)=fo.getD a 0:=ul ⟨a,ha⟩;unfold DC at t;rw[wl];generalize xC 7 1 a=v at*;obtain⟨t1,l1⟩:=gQ (n:=1) hv (by omega);obtain⟨t2,l2⟩:=gQ (n:=2) hv (by omega);obtain⟨t3,l3⟩:=gQ (n:=3) hv (by omega);obtain⟨t4,l4⟩:=gQ (n:=4) hv (by omega);have c1:((1:Nat):Int)=1:=rfl;have c2:((2:Nat):Int)=2:=rfl;have c3:((3:Nat):Int)=3:=rfl;have c4:((4:Nat):Int)=4:=rfl;rw[c1] at t1;rw[c2] at t2;rw[c3] at t3;rw[c4] at t4;simp only[aC,t1,t2,t3,t4];have m1:=xF (n:=8) hv l1;have m2:=xF (n:=8) m1 l2;have m3:=xF (n:=8) m2 l3;have m4:=xF (n:=8) m3 l4;have b:(99:Int)=((99:Nat):Int):=rfl;rw[yB hv l1,yB m1 l2,yB m2 l3,yB m3 l4,b,yB m4 (by omega),t]
def tw (x:Int):Int:=bif decide (x≥128) then bC .u8 (c5 .u8 x 1) 27 else c5 .u8 x 1
theorem mF (x:Int):cW x=some (tw x):=by unfold cW tw;cases decide (x≥128)<;>rfl
def Di (b:BitVec 8):BitVec 8:=(b<<<1)^^^(bif b.msb then 27#8 else 0#8)
theorem nu:∀a:Fin 256,tw ((a.val:Nat):Int)=n8 (Di (b8 ((a.val:Nat):Int)))∧nA 8 1 a.val 0=a.val∧(nA 8 2 a.val 0:Int)=tw ((a.val:Nat):Int)∧(nA 8 3 a.val 0:Int)=bC .u8 (tw ((a.val:Nat):Int)) ((a.val:Nat):Int):=by decide+kernel
theorem tN {x:Int} (hx:0≤x∧x≤255):tw x=n8 (Di (b8 x)):=by obtain⟨a,rfl⟩:∃a:Nat,x=a:=⟨x.toNat,by omega⟩;exact(nu ⟨a,by omega⟩).1
theorem v8 {x:Int} (hx:0≤x∧x≤255):hQ 1 x=x:=by obtain⟨a,rfl⟩:∃a:Nat,x=a:=⟨x.toNat,by omega⟩;have:=iP (a:=1) (b:=a) (by omega) (by omega);rw[show(1:Int)=((1:Nat):Int) from rfl,this.1,(nu ⟨a,by omega⟩).2.1]
theorem CL {x:Int} (hx:0≤x∧x≤255):hQ 2 x=tw x:=by obtain⟨a,rfl⟩:∃a:Nat,x=a:=⟨x.toNat,by omega⟩;have:=iP (a:=2) (b:=a) (by omega) (by omega);rw[show(2:Int)=((2:Nat):Int) from rfl,this.1];exact(nu ⟨a,by omega⟩).2.2.1
theorem De {x:Int} (hx:0≤x∧x≤255):hQ 3 x=bC .u8 (tw x) x:=by obtain⟨a,rfl⟩:∃a:Nat,x=a:=⟨x.toNat,by omega⟩;have:=iP (a:=3) (b:=a) (by omega) (by omega);rw[show(3:Int)=((3:Nat):Int) from rfl,this.1];exact(nu ⟨a,by omega⟩).2.2.2
theorem lA (a b c:BitVec 8):a^^^(b^^^c)=b^^^(a^^^c):=by rw[←xY,yt a b,xY]
theorem lB (a b:BitVec 8):a^^^(a^^^b)=b:=by rw[←xY,BitVec.xor_self,yW]
theorem un (a b:BitVec 8):Di (a^^^b)=Di a^^^Di b:=by unfold Di;rw[BitVec.msb_xor,BitVec.shiftLeft_xor_distrib];cases a.msb<;>cases b.msb<;>simp[xY,yt,lA,lB]
theorem CQ (x y:Int):bC .u8 x y=n8 (b8 x^^^b8 y):=pi x y
theorem sI {x:Int} (a:0≤x∧x≤255):0≤tw x∧tw x≤255:=by rw[tN a];exact sG _
theorem rv:aT fo:=by (have:∀b∈fo,0≤b∧b≤255:=by decide+kernel);exact this
theorem rx (i:Nat):0≤fo.getD i 0∧fo.getD i 0≤255:=fe rv i
end Go.Proofs.YtkjlhdndbdenaaaGreatDoor
