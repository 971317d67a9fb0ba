import Derived.Test.YtobbmodjdkcdcaaGreatDoorLawAes5
set_option linter.all false
set_option maxRecDepth 20000
set_option maxHeartbeats 1000000
namespace Go.Proofs.YtobbmodjdkcdcaaGreatDoor
open Go Go.Sim
variable [Fu]
theorem m6 {R:Type} {step:Int→Option (Ctl Int R)} {p:Nat→Bool} {good bad:R} {s0:Int} (b:Bool) (a n:Nat) (han:a≤n) (hb:b=true↔∃i,a≤i∧i<n∧p i=true)
  (h:∀i:Nat,a≤i→i<n→step (i:Int)=some (bif p i then .done bad else .next ((i+1:Nat):Int))) (hn:step (n:Int)=some (.done good)) (h0:s0=(a:Int)):
  Loop.run step s0=some (bif b then bad else good):=by
 subst h0
 have key:∀k a,n - a=k→a≤n→(∀i:Nat,a≤i→i<n→step (i:Int)=some (bif p i then .done bad else .next ((i+1:Nat):Int)))→
   ((∃i,a≤i∧i<n∧p i=true)→Loop.run step (a:Int)=some bad)∧((¬∃i,a≤i∧i<n∧p i=true)→Loop.run step (a:Int)=some good):=by
  intro k
  induction k with
  |zero=>
   intro a h1 h2 h3
   have:a=n:=by omega
   subst this
   exact⟨λ⟨i,h4,h5,_⟩=>by omega,λ_=>Jv hn⟩
  |succ k ih=>
   intro a h1 h2 h3
   have hs:=h3 a (F9 _) (by omega)
   obtain⟨i1,i2⟩:=ih (a+1) (by omega) (by omega) (λi h4 h5=>h3 i (by omega) h5)
   cases hp:p a with
   |true=>
    rw[hp,FJ] at hs
    exact⟨λ_=>Jv hs,λhno=>absurd ⟨a,F9 _,by omega,hp⟩ hno⟩
   |false=>
    rw[hp,FI] at hs
    rw[JB hs]
    refine⟨λ⟨i,h4,h5,h6⟩=>i1 ⟨i,?_,h5,h6⟩,λhno=>i2 λ⟨i,h4,h5,h6⟩=>hno ⟨i,by omega,h5,h6⟩⟩
    have:i≠a:=λe=>by rw[e,hp] at h6;cases h6
    omega
 obtain⟨k1,k2⟩:=key _ a rfl han h
 cases b with
 |true=>exact k1 (hb.1 rfl)
 |false=>exact k2 λhe=>by have:=hb.2 he;cases this
def nz (l:List Int):Bool:=l.any (· != 0)
theorem xN {l:List Int} {a:Nat}:nz (l.drop a)=true↔∃i,a≤i∧i<l.length∧(l.getD i 0 != 0)=true:=by unfold nz;rw[HT];constructor;rintro⟨x,hx,h⟩;obtain⟨j,hj,e⟩:=Ht hx;simp only[Gh] at hj;refine⟨a+j,by omega,by omega,?_⟩;rw[List.getElem_drop] at e;(have:l.getD (a+j) 0=x:=by rw[←e];simp[show a+j<l.length by omega]);rw[this];exact h;rintro⟨i,h1,h2,h3⟩;(have e:l.getD i 0=l[i]:=by simp[h2]);rw[e] at h3;refine⟨l[i],?_,h3⟩;rw[List.mem_iff_getElem];exact⟨i - a,by simp;omega,by simp[show a+(i - a)=i by omega]⟩
theorem xO {x:List Int} (h:x.length<2^30):iK x=some (!nz x):=by unfold iK;rw[m6 (p:=λi=>x.getD i 0 != 0) (good:= .inl ()) (bad:= .inr false) (nz x) 0 x.length (by omega) (by have:=xN (l:=x) (a:=0);rw[G9] at this;exact this) ?_ (cY (FL (by omega))) (by rfl)];cases nz x<;>rfl;intro i _ hi;have h1:decide ((i:Int)<(x.length:Int))=true:=FK (by omega);rw[h1,FJ,ar rfl hi];simp only[ab];rw[wrap64 (by omega)];cases x.getD i 0 != 0<;>rfl
theorem zl {x:List Int} {z:Int} {a:Nat} (hz:z=a) (ha:a≤x.length) (h:x.length<2^30):eR x z=some (!nz (x.drop a)):=by unfold eR;rw[m6 (p:=λi=>x.getD i 0 != 0) (good:= .inl ()) (bad:= .inr false) (nz (x.drop a)) a x.length ha xN ?_ (cY (FL (by omega))) hz];cases nz (x.drop a)<;>rfl;intro i _ hi;have h1:decide ((i:Int)<(x.length:Int))=true:=FK (by omega);rw[h1,FJ,ar rfl hi];simp only[ab];rw[wrap64 (by omega)];cases x.getD i 0 != 0<;>rfl
def cutS (c:List Int) (n:Nat):List Int×Int:=bif c.length != 320 then([],50) else bif nz (c.drop n) then([],51) else(c.take n,0)
theorem py {c:List Int} {n:Nat}:((c.length:Int) != (n:Int))=(c.length != n):=by rw[Gk];simp only[bne_iff_ne];omega
theorem Dk {c:List Int} {z:Int} {n:Nat} (hz:z=n) (hn:n≤320):mm c z=some (cutS c n):=by unfold mm cutS;have e0:((c.length:Int) != 320)=(c.length != 320):=py (n:=320);rw[e0];cases h:(c.length != 320) with|true=>rfl|false=>(have hl:c.length=320:=by simpa using h);simp only[FI];(have e1:(decide (z<0)||decide (z>320))=false:=by rw[FU];exact⟨FL (by omega),FL (by omega)⟩);rw[e1,FI,iX (j:=320) hz (by omega) hn (by omega)];simp only[ab];have e2:c.take 320=c:=FZ (by omega);rw[e2,xO (by simp;omega)];simp only[ab,Bool.not_not];cases nz (c.drop n) with|true=>rfl|false=>simp only[FI];rw[jl hz (by omega)];simp only[ab];rw[aQ (by simp[room];omega)];rfl
theorem Ex {c:List Int} {z:Int} {n:Nat} (hz:z=n) (hn:n≤320):gL c z=some (cutS c n):=by unfold gL cutS;have e0:((c.length:Int) != 320)=(c.length != 320):=py (n:=320);rw[e0];cases h:(c.length != 320) with|true=>rfl|false=>(have hl:c.length=320:=by simpa using h);simp only[FI];(have e1:(decide (z<0)||decide (z>320))=false:=by rw[FU];exact⟨FL (by omega),FL (by omega)⟩);rw[e1,FI,zl hz (by omega) (by omega)];simp only[ab,Bool.not_not];cases nz (c.drop n) with|true=>rfl|false=>simp only[FI];rw[jl hz (by omega)];simp only[ab];rw[aQ (by simp[room];omega)];rfl
def padS (x:List Int):List Int:=x++List.replicate (320 - x.length) 0
def ut (x:List Int):List Int:=[1,IntKind.wrap .u8 (x.length:Int)]++x++List.replicate (318 - x.length) 0
theorem Cn {x front:List Int} {off:Nat} (hf:front.length=off) (hx:off+x.length≤320):over (over (List.replicate 320 (0:Int)) 0 320 front) off 320 x=front++x++List.replicate (320 - off - x.length) 0:=by (have e1:over (List.replicate 320 (0:Int)) 0 320 front=front++List.replicate (320 - off) 0:=by rw[px (by omega) (by simp)];have:front.take (320 - 0)=front:=FZ (by omega);rw[this,HK,F8,Jc];congr 2;omega);rw[e1,px (by omega) (by simp;omega)];(have t1:(front++List.replicate (320 - off) (0:Int)).take off=front:=by rw[Hw (by omega),FZ (by omega)]);have t2:x.take (320 - off)=x:=FZ (by omega);(have t3:(front++List.replicate (320 - off) (0:Int)).drop (off+min x.length (320 - off))=List.replicate (320 - off - x.length) 0:=by (have:off+min x.length (320 - off)=front.length+x.length:=by omega);rw[this,List.drop_append,Jc];simp);rw[t1,t2,t3]
theorem rT {x front:List Int} {z:Int} {off:Nat} (hz:z=off) (hf:front.length=off) (hx:off+x.length≤320):iQ x z front=some (front++x++List.replicate (320 - off - x.length) 0):=by subst hz;unfold iQ;(have g0:mkB 320 320=true:=by decide);have e0:List.replicate (Int.toNat 320) (0:Int)=List.replicate 320 0:=rfl;rw[g0,FJ,e0,Ig];(have ho:(over (List.replicate 320 (0:Int)) 0 320 front).length=320:=by rw[ng (by omega) (by simp)];simp);rw[ho];have g1:decide ((0:Int)≤(off:Int)∧(off:Int)≤((320:Nat):Int)∧(((320:Nat):Int):Int)≤((320:Nat):Int))=true:=FK (by omega);have g2:decide ((Int.toNat (off:Int))≤(Int.toNat ((320:Nat):Int))∧(Int.toNat ((320:Nat):Int))≤320)=true:=FK (by omega);(first|rw[g1,g2]|skip);simp only[FJ,FP];rw[Cn hf hx];try rfl
theorem zm {x:List Int} (h:x.length≤320):kM x=some (padS x,0):=by unfold kM;have e:decide ((x.length:Int)>320)=false:=FL (by omega);rw[e,FI,rT (z:=0) (off:=0) rfl rfl (by omega)];rfl
theorem AY {x:List Int} (h:x.length≤48):kc x=some (ut x,0):=by unfold kc;have e:decide ((x.length:Int)>48)=false:=FL (by omega);rw[e,FI,rT (z:=2) (off:=2) rfl rfl (by omega)];rfl
theorem zn {x:List Int} (h:x.length≤320):eZ x=some (padS x):=by unfold eZ;have hroom:room=17179869184:=rfl;rw[aQ (by rw[hroom];simp;omega)];simp only[ab,F8];rw[aP (λi=>x++List.replicate i (0:Int)) 0 (320 - x.length) (r:=padS x) (by omega) ?_ (cY (FL (by simp;omega))) (by simp)];rfl;intro i _ hi;have h1:decide (((x++List.replicate i (0:Int)).length:Int)<320)=true:=FK (by simp;omega);rw[h1,FJ,aQ (by rw[hroom];simp;omega)];simp only[ab];rw[F6,←List.replicate_succ']
theorem Ey {x:List Int} (h:x.length≤320):gN x=some (padS x,0):=by unfold gN;have e:decide ((x.length:Int)>320)=false:=FL (by omega);rw[e,FI,zn h];rfl
theorem Co {x:List Int} (h:x.length≤48):fO x=some (ut x,0):=by unfold fO;have e:decide ((x.length:Int)>48)=false:=FL (by omega);rw[e,FI,aQ (by simp[room];omega)];simp only[ab];rw[zn (by simp;omega)];(have:padS ([1,IntKind.wrap .u8 (x.length:Int)]++x)=ut x:=by unfold padS ut;congr 2;simp;try omega);rw[this];rfl
def bo (l:Int):Nat:=bif decide (l<1)||decide (l>8) then 0 else(48+34*l).toNat
theorem uu (l:Int):bo l≤320:=by unfold bo;cases h:decide (l<1)||decide (l>8) with|true=>simp|false=>rw[FU] at h;simp at h;simp only[FI];omega
theorem wK {l:Int} (h:bo l≠0):1≤l∧l≤8∧(bo l:Int)=48+34*l:=by unfold bo at h⊢;cases hc:decide (l<1)||decide (l>8) with|true=>rw[hc] at h;simp at h|false=>rw[FU] at hc;simp at hc;simp only[FI];omega
theorem qj (l:Int):fZ l=some (bo l:Int):=by unfold fZ bo;cases h:decide (l<1)||decide (l>8) with|true=>rfl|false=>rw[FU] at h;simp at h;simp only[FI];rw[wrap64 (x:=34*l) (by omega),wrap64 (by omega)];congr 1;omega
theorem Dl (l:Int):dU l=some (bo l:Int):=by unfold dU bo;cases h:decide (l<1)||decide (l>8) with|true=>rfl|false=>rw[FU] at h;simp at h;simp only[FI];rw[wrap64 (x:=l - 1) (by omega),wrap64 (x:=34*(l - 1)) (by omega),wrap64 (by omega)];congr 1;omega
def CH:List Int:=[99,104,117,114,110]
def ll (key nonce:List Int):az:=⟨(derS key nonce CH 80).take 16,((derS key nonce CH 80).take 48).drop 16,(derS key nonce CH 80).drop 48⟩
theorem qU (a b c:List Int) (n:Nat):(derS a b c n).length=n:=Ew _ _ _
theorem AZ (a b c:List Int) (n:Nat):aL (derS a b c n):=Cj _ _ _
theorem wL (key nonce:List Int):(ll key nonce).Box.length=16∧(ll key nonce).Mac.length=32∧(ll key nonce).Replay.length=32:=by have:=qU key nonce CH 80;simp[ll,this]
theorem wM (key nonce:List Int):aL (ll key nonce).Box:=λb h=>by simp only[ll] at h;exact AZ key nonce CH 80 b (Gv h)
theorem xP {key nonce:List Int} (hk:key.length=32) (hn:nonce.length=16):iL key nonce=some (ll key nonce,0):=by unfold iL;(have e0:((key.length:Int) != 32)=false:=by rw[hk];rfl);(have e1:decide (0<[99,104,117,114,110].length)=true:=by decide);rw[e0,e1,FI,FJ,un (z:=80) (n:=80) rfl (by omega) (by omega) (by omega) (by simp)];simp only[ab];have hl:=qU key nonce CH 80;have hd:derS key nonce [99,104,117,114,110] 80=derS key nonce CH 80:=rfl;have hK:ll key nonce=⟨(derS key nonce CH 80).take 16,((derS key nonce CH 80).take 48).drop 16,(derS key nonce CH 80).drop 48⟩:=rfl;rw[hd,hK];generalize derS key nonce CH 80=P at*;simp only[F4,FI];rw[jl (h:=16) (j:=16) rfl (by omega)];simp only[ab];rw[iX (l:=16) (h:=48) (i:=16) (j:=48) rfl rfl (by omega) (by omega)];simp only[ab];rw[iX (l:=48) (i:=48) (j:=80) rfl (by omega) (by omega) (by omega)];simp only[ab];have g1:decide (16≤(P.take 16).length)=true:=FK (by simp;omega);have g2:decide (32≤((P.take 48).drop 16).length)=true:=FK (by simp;omega);have g3:decide (32≤((P.take 80).drop 48).length)=true:=FK (by simp;omega);rw[g1,g2,g3,FJ,FJ,FJ];have t1:(P.take 16).take 16=P.take 16:=FZ (by simp;omega);have t2:((P.take 48).drop 16).take 32=(P.take 48).drop 16:=FZ (by simp;omega);have t3:P.take 80=P:=FZ (by omega);have t4:(P.drop 48).take 32=P.drop 48:=FZ (by simp;omega);rw[t1,t2,t3,t4]
theorem s4 {key nonce:List Int} (hk:key.length=32) (hn:nonce.length=16):fu key nonce=some (ll key nonce,0):=by unfold fu;(have e0:((key.length:Int) != 32)=false:=by rw[hk];rfl);(have e1:decide (0<[99,104,117,114,110].length)=true:=by decide);rw[e0,e1,FI,FJ,uo (z:=80) (n:=80) rfl (by omega) (by omega) (by omega) (by simp)];simp only[ab];have hl:=qU key nonce CH 80;have hd:derS key nonce [99,104,117,114,110] 80=derS key nonce CH 80:=rfl;have hK:ll key nonce=⟨(derS key nonce CH 80).take 16,((derS key nonce CH 80).take 48).drop 16,(derS key nonce CH 80).drop 48⟩:=rfl;rw[hd,hK];generalize derS key nonce CH 80=P at*;rw[aP (λi=>((i:Int),(⟨part1 16 (λj=>P.getD j 0) (λ_=>0) i,part1 32 (λj=>P.getD (16+j) 0) (λ_=>0) (i - 16),part1 32 (λj=>P.getD (48+j) 0) (λ_=>0) (i - 48)⟩:az))) 0 80 (r:=⟨P.take 16,(P.take 48).drop 16,P.drop 48⟩) (by omega) ?_ ?_ (by rfl)];rfl;intro i _ hi;have h1:decide ((i:Int)<80)=true:=FK (by omega);simp only[h1,FJ];by_cases c1:i<16;have d1:decide ((i:Int)<16)=true:=FK (by omega);simp only[d1,FJ];rw[ar (xs:=P) rfl (by omega)];simp only[ab];rw[dp rfl (by omega)];simp only[ab,FP];(have z1:i+1 - 16=i - 16:=by omega);(have z2:i+1 - 48=i - 48:=by omega);rw[wrap64 (by omega),cV (f:=λj=>P.getD j 0) (by omega) rfl,z1,z2];rfl;have d1:decide ((i:Int)<16)=false:=FL (by omega);simp only[d1,FI];have cap1:part1 16 (λj=>P.getD j 0) (λ_=>0) i=part1 16 (λj=>P.getD j 0) (λ_=>0) (i+1):=lO (by omega) (by omega);by_cases c2:i<48;have d2:decide ((i:Int)<48)=true:=FK (by omega);simp only[d2,FJ];rw[ar (xs:=P) rfl (by omega)];simp only[ab];rw[wrap64 (x:=(i:Int) - 16) (by omega),dp (k:=i - 16) (by omega) (by omega)];simp only[ab];(have z0:Int.toNat ((i:Int) - 16)=i - 16:=by omega);(have z1:i - 16+1=i+1 - 16:=by omega);(have z2:i+1 - 48=i - 48:=by omega);(have z3:P.getD i 0=P.getD (16+(i - 16)) 0:=by rw[show 16+(i - 16)=i by omega]);rw[wrap64 (by omega),z0,cV (f:=λj=>P.getD (16+j) 0) (by omega) z3,z1,z2,cap1];rfl;have d2:decide ((i:Int)<48)=false:=FL (by omega);simp only[d2,FI];have cap2:part1 32 (λj=>P.getD (16+j) 0) (λ_=>0) (i - 16)=part1 32 (λj=>P.getD (16+j) 0) (λ_=>0) (i+1 - 16):=lO (by omega) (by omega);rw[ar (xs:=P) rfl (by omega)];simp only[ab];rw[wrap64 (x:=(i:Int) - 48) (by omega),dp (k:=i - 48) (by omega) (by omega)];simp only[ab];(have z0:Int.toNat ((i:Int) - 48)=i - 48:=by omega);(have z1:i - 48+1=i+1 - 48:=by omega);(have z3:P.getD i 0=P.getD (48+(i - 48)) 0:=by rw[show 48+(i - 48)=i by omega]);rw[wrap64 (by omega),z0,cV (f:=λj=>P.getD (48+j) 0) (by omega) z3,z1,cap1,cap2];rfl;(have h1:decide (((80:Nat):Int)<80)=false:=by decide);simp only[h1,FI];rw[lO (n:=16) (i:=80) (k:=16) (by omega) (by omega),lO (n:=32) (i:=80 - 16) (k:=32) (by omega) (by omega),show 80 - 48=32 from rfl,fv,fv,fv];(have r1:(List.range 16).map (λj=>P.getD j 0)=P.take 16:=by apply iB;simp;omega;intro j hj;simp at hj;simp[hj,GN]);(have r2:(List.range 32).map (λj=>P.getD (16+j) 0)=(P.take 48).drop 16:=by apply iB;simp;omega;intro j hj;simp at hj;simp[hj,GN,Gq,show 16+j<48 by omega]);(have r3:(List.range 32).map (λj=>P.getD (48+j) 0)=P.drop 48:=by apply iB;simp;omega;intro j hj;simp at hj;simp[hj,Gq]);rw[r1,r2,r3]
def qV (key msg:List Int):List Int:=(tagS key msg).take 16
theorem Cp (key msg:List Int):(qV key msg).length=16:=by simp[qV,jm]
theorem sL (key msg:List Int):aL (qV key msg):=λb h=>uk key msg b (Gv h)
theorem zo {key msg:List Int} (hk:key.length<2^30) (hm:msg.length<2^30):eW key msg=some (qV key msg):=by unfold eW;rw[xF hk hm];simp only[ab];have hl:=jm key msg;have hh:qV key msg=(tagS key msg).take 16:=rfl;rw[hh];generalize tagS key msg=P at*;rw[aP (λi=>((i:Int),part1 16 (λj=>P.getD j 0) (λ_=>0) i)) 0 16 (r:=P.take 16) (by omega) ?_ ?_ (by rfl)];rfl;intro i _ hi;have h1:decide ((i:Int)<16)=true:=FK (by omega);simp only[h1,FJ];rw[ar (xs:=P) rfl (by omega)];simp only[ab];rw[dp rfl (by omega)];simp only[ab,FP];rw[wrap64 (by omega),cV (f:=λj=>P.getD j 0) (by omega) rfl];rfl;(have h1:decide (((16:Nat):Int)<16)=false:=by decide);simp only[h1,FI];rw[fv];(have r1:(List.range 16).map (λj=>P.getD j 0)=P.take 16:=by apply iB;simp;omega;intro j hj;simp at hj;simp[hj,GN]);rw[r1]
def tagO (ks:az) (l:Int) (nonce box:List Int):List Int:=qV ks.Mac ([IntKind.wrap .u8 l]++nonce++box)
theorem xQ {ks:az} {l:Int} {nonce box:List Int} (hk:ks.Mac.length<2^30) (hn:nonce.length=16) (hb:box.length<2^29):iM ks l nonce box=some (tagO ks l nonce box):=by unfold iM;have hroom:room=17179869184:=rfl;rw[aQ (by rw[hroom];simp;omega)];simp only[ab];rw[aQ (by rw[hroom];simp;omega)];simp only[ab];rw[tx hk (by simp;omega)];simp only[ab];rw[jl (h:=16) (j:=16) rfl (by rw[jm];omega)];rfl
theorem Ez {ks:az} {l:Int} {nonce box:List Int} (hk:ks.Mac.length<2^30) (hn:nonce.length=16) (hb:box.length<2^29):gM ks l nonce box=some (tagO ks l nonce box):=by unfold gM;have hroom:room=17179869184:=rfl;rw[aQ (by rw[hroom];simp;omega)];simp only[ab];rw[aQ (by rw[hroom];simp;omega)];simp only[ab];rw[zo hk (by simp;omega)];rfl
end Go.Proofs.YtobbmodjdkcdcaaGreatDoor
