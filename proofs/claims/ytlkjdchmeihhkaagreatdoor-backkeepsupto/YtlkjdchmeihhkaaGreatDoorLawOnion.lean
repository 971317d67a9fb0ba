import Derived.Test.YtlkjdchmeihhkaaGreatDoorLawAes5
set_option autoImplicit true
set_option relaxedAutoImplicit true
set_option linter.all false
set_option maxRecDepth 20000
set_option maxHeartbeats 1000000
namespace Go.Proofs.YtlkjdchmeihhkaaGreatDoor
open Go Go.Sim
variable [Fu]
theorem Au {R:Type} {step:Int→Option (md Int R)} {p:Nat→Bool} {good bad:R} {s0:Int} (b:Bool) (a n:Nat) (c:a≤n) (d:b=true↔∃i,a≤i∧i<n∧p i=true)
  (h:∀i:Nat,a≤i→i<n→step (i:Int)=some (bif p i then .done bad else .next ((i+1:Nat):Int))) (e:step (n:Int)=some (.done good)) (h0:s0=(a:Int)):
  Loop.run step s0=some (bif b then bad else good):=by
 subst h0
 have f:∀k a,n - a=k→a≤n→(∀i:Nat,a≤i→i<n→step (i:Int)=some (bif p i then .done bad else .next ((i+1:Nat):Int)))→
   ((∃i,a≤i∧i<n∧p i=true)→Loop.run step (a:Int)=some bad)∧((¬∃i,a≤i∧i<n∧p i=true)→Loop.run step (a:Int)=some good):=by
  intro k
  induction k with
  |zero=>
   intro a j l m
   have:a=n:=by omega
   subst this
   exact⟨λ⟨i,o,q,_⟩=>by omega,λ_=>Km e⟩
  |succ k e=>
   intro a j l m
   have j:=m a (GZ _) (by omega)
   obtain⟨k,l⟩:=e (a+1) (by omega) (by omega) (λi o q=>m i (by omega) q)
   cases m:p a with
   |true=>
    rw[m,Gy] at j
    exact⟨λ_=>Km j,λe=>absurd ⟨a,GZ _,by omega,m⟩ e⟩
   |false=>
    rw[m,Gx] at j
    rw[Kx j]
    refine⟨λ⟨i,o,q,j⟩=>k ⟨i,?_,q,j⟩,λe=>l λ⟨i,o,q,j⟩=>e ⟨i,by omega,q,j⟩⟩
    have:i≠a:=λe=>by rw[e,m] at j;cases j
    omega
 obtain⟨e,j⟩:=f _ a rfl c h
 cases b with
 |true=>exact e (d.1 rfl)
 |false=>exact j λc=>by have:=d.2 c;cases this
def nz (l:List Int):Bool:=l.any (· != 0)
theorem Ee {l:List Int} {a:Nat}:nz (l.drop a)=true↔∃i,a≤i∧i<l.length∧(l.getD i 0 != 0)=true:=by unfold nz;rw[List.any_eq_true];constructor;rintro⟨x,b,h⟩;obtain⟨j,c,e⟩:=Ii b;simp only[Hj] at c;refine⟨a+j,by omega,by omega,?_⟩;rw[List.getElem_drop] at e;(have:l.getD (a+j) 0=x:=by rw[←e];simp[show a+j<l.length by omega]);rw[this];exact h;rintro⟨i,b,b,c⟩;(have e:l.getD i 0=l[i]:=by simp[b]);rw[e] at c;refine⟨l[i],?_,c⟩;rw[List.mem_iff_getElem];exact⟨i - a,by simp;omega,by simp[show a+(i - a)=i by omega]⟩
theorem rZ {x:List Int} (h:x.length<2^30):ik x=some (!nz x):=by unfold ik;rw[Au (p:=λi=>x.getD i 0 != 0) (good:= .inl ()) (bad:= .inr false) (nz x) 0 x.length (by omega) (by have:=Ee (l:=x) (a:=0);rw[H7] at this;exact this) ?_ (jt (GA (by omega))) (by rfl)];cases nz x<;>rfl;intro i _ a;have b:decide ((i:Int)<(x.length:Int))=true:=Gz (by omega);rw[b,Gy,bP rfl a];simp only[aF];rw[wrap64 (by omega)];cases x.getD i 0 != 0<;>rfl
def tE (c:List Int) (n:Nat):List Int×Int:=bif c.length != 320 then([],50) else bif nz (c.drop n) then([],51) else(c.take n,0)
theorem uO {c:List Int} {n:Nat}:((c.length:Int) != (n:Int))=(c.length != n):=by rw[Hm];simp only[bne_iff_ne];omega
theorem Av {c:List Int} {z:Int} {n:Nat} (a:z=n) (b:n≤320):lh c z=some (tE c n):=by unfold lh tE;have d:((c.length:Int) != 320)=(c.length != 320):=uO (n:=320);rw[d];cases h:(c.length != 320) with|true=>rfl|false=>(have d:c.length=320:=by simpa using h);simp only[Gx];(have d:(decide (z<0)||decide (z>320))=false:=by rw[GL];exact⟨GA (by omega),GA (by omega)⟩);rw[d,Gx,ky (j:=320) a (by omega) b (by omega)];simp only[aF];have b:c.take 320=c:=GN (by omega);rw[b,rZ (by simp;omega)];simp only[aF,Bool.not_not];cases nz (c.drop n) with|true=>rfl|false=>simp only[Gx];rw[pj a (by omega)];simp only[aF];rw[cf (by simp[dC];omega)];rfl
def pG (x:List Int):List Int:=x++List.replicate (320 - x.length) 0
def vw (x:List Int):List Int:=[1,IntKind.wrap .u8 (x.length:Int)]++x++List.replicate (318 - x.length) 0
theorem Dn {x a:List Int} {off:Nat} (b:a.length=off) (b:off+x.length≤320):over (over (List.replicate 320 (0:Int)) 0 320 a) off 320 x=a++x++List.replicate (320 - off - x.length) 0:=by (have b:over (List.replicate 320 (0:Int)) 0 320 a=a++List.replicate (320 - off) 0:=by rw[nX (by omega) (by simp)];have:a.take (320 - 0)=a:=GN (by omega);rw[this,Ia,GS,Jq];congr 2;omega);rw[b,nX (by omega) (by simp;omega)];(have t1:(a++List.replicate (320 - off) (0:Int)).take off=a:=by rw[Im (by omega),GN (by omega)]);have t2:x.take (320 - off)=x:=GN (by omega);(have t3:(a++List.replicate (320 - off) (0:Int)).drop (off+min x.length (320 - off))=List.replicate (320 - off - x.length) 0:=by (have:off+min x.length (320 - off)=a.length+x.length:=by omega);rw[this,List.drop_append,Jq];simp);rw[t1,t2,t3]
theorem sW {x a:List Int} {z:Int} {off:Nat} (b:z=off) (c:a.length=off) (d:off+x.length≤320):ja x z a=some (a++x++List.replicate (320 - off - x.length) 0):=by subst b;unfold ja;(have b:kN 320 320=true:=by decide);have e:List.replicate (Int.toNat 320) (0:Int)=List.replicate 320 0:=rfl;rw[b,Gy,e,Iv];(have b:(over (List.replicate 320 (0:Int)) 0 320 a).length=320:=by rw[nr (by omega) (by simp)];simp);rw[b];have a:decide ((0:Int)≤(off:Int)∧(off:Int)≤((320:Nat):Int)∧(((320:Nat):Int):Int)≤((320:Nat):Int))=true:=Gz (by omega);have b:decide ((Int.toNat (off:Int))≤(Int.toNat ((320:Nat):Int))∧(Int.toNat ((320:Nat):Int))≤320)=true:=Gz (by omega);(first|rw[a,b]|skip);simp only[Gy,GG];rw[Dn c d];try rfl
theorem vx {x:List Int} (h:x.length≤320):jX x=some (pG x,0):=by unfold jX;have e:decide ((x.length:Int)>320)=false:=GA (by omega);rw[e,Gx,sW (z:=0) (off:=0) rfl rfl (by omega)];rfl
theorem BX {x:List Int} (h:x.length≤48):kn x=some (vw x,0):=by unfold kn;have e:decide ((x.length:Int)>48)=false:=GA (by omega);rw[e,Gx,sW (z:=2) (off:=2) rfl rfl (by omega)];rfl
def cc (l:Int):Nat:=bif decide (l<1)||decide (l>8) then 0 else(48+34*l).toNat
theorem nk (l:Int):cc l≤320:=by unfold cc;cases h:decide (l<1)||decide (l>8) with|true=>simp|false=>rw[GL] at h;simp at h;simp only[Gx];omega
theorem xy {l:Int} (h:cc l≠0):1≤l∧l≤8∧(cc l:Int)=48+34*l:=by unfold cc at h⊢;cases a:decide (l<1)||decide (l>8) with|true=>rw[a] at h;simp at h|false=>rw[GL] at a;simp at a;simp only[Gx];omega
theorem mr (l:Int):eZ l=some (cc l:Int):=by unfold eZ cc;cases h:decide (l<1)||decide (l>8) with|true=>rfl|false=>rw[GL] at h;simp at h;simp only[Gx];rw[wrap64 (x:=34*l) (by omega),wrap64 (by omega)];congr 1;omega
def CH:List Int:=[99,104,117,114,110]
def jH (key nonce:List Int):ci:=⟨(uC key nonce CH 80).take 16,((uC key nonce CH 80).take 48).drop 16,(uC key nonce CH 80).drop 48⟩
theorem sa (a b c:List Int) (n:Nat):(uC a b c n).length=n:=Fs _ _ _
theorem BY (a b c:List Int) (n:Nat):bW (uC a b c n):=Dj _ _ _
theorem xz (key nonce:List Int):(jH key nonce).Box.length=16∧(jH key nonce).Mac.length=32∧(jH key nonce).Replay.length=32:=by have:=sa key nonce CH 80;simp[jH,this]
theorem xF (key nonce:List Int):bW (jH key nonce).Box:=λb h=>by simp only[jH] at h;exact BY key nonce CH 80 b (HF h)
theorem sd {key nonce:List Int} (a:key.length=32) (b:nonce.length=16):im key nonce=some (jH key nonce,0):=by unfold im;(have b:((key.length:Int) != 32)=false:=by rw[a];rfl);(have a:decide (0<[99,104,117,114,110].length)=true:=by decide);rw[b,a,Gx,Gy,qU (z:=80) (n:=80) rfl (by omega) (by omega) (by omega) (by simp)];simp only[aF];have a:=sa key nonce CH 80;have a:uC key nonce [99,104,117,114,110] 80=uC key nonce CH 80:=rfl;have b:jH key nonce=⟨(uC key nonce CH 80).take 16,((uC key nonce CH 80).take 48).drop 16,(uC key nonce CH 80).drop 48⟩:=rfl;rw[a,b];generalize uC key nonce CH 80=P at*;simp only[GQ,Gx];rw[pj (h:=16) (j:=16) rfl (by omega)];simp only[aF];rw[ky (l:=16) (h:=48) (i:=16) (j:=48) rfl rfl (by omega) (by omega)];simp only[aF];rw[ky (l:=48) (i:=48) (j:=80) rfl (by omega) (by omega) (by omega)];simp only[aF];have a:decide (16≤(P.take 16).length)=true:=Gz (by simp;omega);have b:decide (32≤((P.take 48).drop 16).length)=true:=Gz (by simp;omega);have c:decide (32≤((P.take 80).drop 48).length)=true:=Gz (by simp;omega);rw[a,b,c,Gy,Gy,Gy];have t1:(P.take 16).take 16=P.take 16:=GN (by simp;omega);have t2:((P.take 48).drop 16).take 32=(P.take 48).drop 16:=GN (by simp;omega);have t3:P.take 80=P:=GN (by omega);have t4:(P.drop 48).take 32=P.drop 48:=GN (by simp;omega);rw[t1,t2,t3,t4]
def vy (key a:List Int):List Int:=(Ot key a).take 16
theorem sX (key a:List Int):(vy key a).length=16:=by simp[vy,mm]
theorem pq (key a:List Int):bW (vy key a):=λb h=>vt key a b (HF h)
def wI (ks:ci) (l:Int) (nonce box:List Int):List Int:=vy ks.Mac ([IntKind.wrap .u8 l]++nonce++box)
theorem sf {ks:ci} {l:Int} {nonce box:List Int} (b:ks.Mac.length<2^30) (a:nonce.length=16) (a:box.length<2^29):io ks l nonce box=some (wI ks l nonce box):=by unfold io;have a:dC=17179869184:=rfl;rw[cf (by rw[a];simp;omega)];simp only[aF];rw[cf (by rw[a];simp;omega)];simp only[aF];rw[uF b (by simp;omega)];simp only[aF];rw[pj (h:=16) (j:=16) rfl (by rw[mm];omega)];rfl
end Go.Proofs.YtlkjdchmeihhkaaGreatDoor
