import Derived.Test.YtlkjdchmeihhkaaGreatDoorLawAes5
set_option autoImplicit true
set_option relaxedAutoImplicit true
set_option linter.all false
set_option maxRecDepth 20000
set_option maxHeartbeats 1000000
namespace Go.Proofs.YtlkjdchmeihhkaaGreatDoor
open Go Go.Sim
variable [Fu]
theorem qk {R:Type} {step:Int→Option (tj Int R)} {p:Nat→Bool} {good bad:R} {s0:Int} (b:Bool) (a n:Nat) (c:a≤n) (d:b=true↔∃i,a≤i∧i<n∧p i=true)
  (h:∀i:Nat,a≤i→i<n→step (i:Int)=some (bif p i then .done bad else .next ((i+1:Nat):Int))) (e:step (n:Int)=some (.done good)) (h0:s0=(a:Int)):
  Loop.run step s0=some (bif b then bad else good):=by
 subst h0
 have f:∀k a,n - a=k→a≤n→(∀i:Nat,a≤i→i<n→step (i:Int)=some (bif p i then .done bad else .next ((i+1:Nat):Int)))→
   ((∃i,a≤i∧i<n∧p i=true)→Loop.run step (a:Int)=some bad)∧((¬∃i,a≤i∧i<n∧p i=true)→Loop.run step (a:Int)=some good):=by
  intro k
  induction k with
  |zero=>
   intro a j l m
   have:a=n:=by omega
   subst this
   exact⟨λ⟨i,o,q,_⟩=>by omega,λ_=>Mp e⟩
  |succ k e=>
   intro a j l m
   have j:=m a (IL _) (by omega)
   obtain⟨k,l⟩:=e (a+1) (by omega) (by omega) (λi o q=>m i (by omega) q)
   cases m:p a with
   |true=>
    rw[m,Im] at j
    exact⟨λ_=>Mp j,λe=>absurd ⟨a,IL _,by omega,m⟩ e⟩
   |false=>
    rw[m,Il] at j
    rw[My j]
    refine⟨λ⟨i,o,q,j⟩=>k ⟨i,?_,q,j⟩,λe=>l λ⟨i,o,q,j⟩=>e ⟨i,by omega,q,j⟩⟩
    have:i≠a:=λe=>by rw[e,m] at j;cases j
    omega
 obtain⟨e,j⟩:=f _ a rfl c h
 cases b with
 |true=>exact e (d.1 rfl)
 |false=>exact j λc=>by have:=d.2 c;cases this
def nz (l:List Int):Bool:=l.any (· != 0)
theorem Bi {l:List Int} {a:Nat}:nz (l.drop a)=true↔∃i,a≤i∧i<l.length∧(l.getD i 0 != 0)=true:=by unfold nz;rw[List.any_eq_true];constructor;rintro⟨x,b,h⟩;obtain⟨j,c,e⟩:=JC b;simp only[IZ] at c;refine⟨a+j,by omega,by omega,?_⟩;rw[List.getElem_drop] at e;(have:l.getD (a+j) 0=x:=by rw[←e];simp[show a+j<l.length by omega]);rw[this];exact h;rintro⟨i,b,b,c⟩;(have e:l.getD i 0=l[i]:=by simp[b]);rw[e] at c;refine⟨l[i],?_,c⟩;rw[List.mem_iff_getElem];exact⟨i - a,by simp;omega,by simp[show a+(i - a)=i by omega]⟩
theorem Bj {x:List Int} (h:x.length<2^30):kL x=some (!nz x):=by unfold kL;rw[qk (p:=λi=>x.getD i 0 != 0) (good:= .inl ()) (bad:= .inr false) (nz x) 0 x.length (by omega) (by have:=Bi (l:=x) (a:=0);rw[JX] at this;exact this) ?_ (dS (Ip (by omega))) (by rfl)];cases nz x<;>rfl;intro i _ a;have b:decide ((i:Int)<(x.length:Int))=true:=Io (by omega);rw[b,Im,aK rfl a];simp only[aB];rw[wrap64 (by omega)];cases x.getD i 0 != 0<;>rfl
theorem Ci {x:List Int} {z:Int} {a:Nat} (b:z=a) (c:a≤x.length) (h:x.length<2^30):fS x z=some (!nz (x.drop a)):=by unfold fS;rw[qk (p:=λi=>x.getD i 0 != 0) (good:= .inl ()) (bad:= .inr false) (nz (x.drop a)) a x.length c Bi ?_ (dS (Ip (by omega))) b];cases nz (x.drop a)<;>rfl;intro i _ b;have c:decide ((i:Int)<(x.length:Int))=true:=Io (by omega);rw[c,Im,aK rfl b];simp only[aB];rw[wrap64 (by omega)];cases x.getD i 0 != 0<;>rfl
def zJ (c:List Int) (n:Nat):List Int×Int:=bif c.length != 320 then([],50) else bif nz (c.drop n) then([],51) else(c.take n,0)
theorem sO {c:List Int} {n:Nat}:((c.length:Int) != (n:Int))=(c.length != n):=by rw[Ja];simp only[bne_iff_ne];omega
theorem Gc {c:List Int} {z:Int} {n:Nat} (a:z=n) (b:n≤320):oZ c z=some (zJ c n):=by unfold oZ zJ;have d:((c.length:Int) != 320)=(c.length != 320):=sO (n:=320);rw[d];cases h:(c.length != 320) with|true=>rfl|false=>(have d:c.length=320:=by simpa using h);simp only[Il];(have d:(decide (z<0)||decide (z>320))=false:=by rw[Iy];exact⟨Ip (by omega),Ip (by omega)⟩);rw[d,Il,lx (j:=320) a (by omega) b (by omega)];simp only[aB];have b:c.take 320=c:=ID (by omega);rw[b,Bj (by simp;omega)];simp only[aB,Bool.not_not];cases nz (c.drop n) with|true=>rfl|false=>simp only[Il];rw[lQ a (by omega)];simp only[aB];rw[aW (by simp[dJ];omega)];rfl
theorem Hq {c:List Int} {z:Int} {n:Nat} (a:z=n) (b:n≤320):jF c z=some (zJ c n):=by unfold jF zJ;have b:((c.length:Int) != 320)=(c.length != 320):=sO (n:=320);rw[b];cases h:(c.length != 320) with|true=>rfl|false=>(have b:c.length=320:=by simpa using h);simp only[Il];(have b:(decide (z<0)||decide (z>320))=false:=by rw[Iy];exact⟨Ip (by omega),Ip (by omega)⟩);rw[b,Il,Ci a (by omega) (by omega)];simp only[aB,Bool.not_not];cases nz (c.drop n) with|true=>rfl|false=>simp only[Il];rw[lQ a (by omega)];simp only[aB];rw[aW (by simp[dJ];omega)];rfl
def Fn (x:List Int):List Int:=x++List.replicate (320 - x.length) 0
def yb (x:List Int):List Int:=[1,IntKind.wrap .u8 (x.length:Int)]++x++List.replicate (318 - x.length) 0
theorem E3 {x a:List Int} {off:Nat} (b:a.length=off) (b:off+x.length≤320):over (over (List.replicate 320 (0:Int)) 0 320 a) off 320 x=a++x++List.replicate (320 - off - x.length) 0:=by (have b:over (List.replicate 320 (0:Int)) 0 320 a=a++List.replicate (320 - off) 0:=by rw[sN (by omega) (by simp)];have:a.take (320 - 0)=a:=ID (by omega);rw[this,Ku,IP,L8];congr 2;omega);rw[b,sN (by omega) (by simp;omega)];(have t1:(a++List.replicate (320 - off) (0:Int)).take off=a:=by rw[Kn (by omega),ID (by omega)]);have t2:x.take (320 - off)=x:=ID (by omega);(have t3:(a++List.replicate (320 - off) (0:Int)).drop (off+min x.length (320 - off))=List.replicate (320 - off - x.length) 0:=by (have:off+min x.length (320 - off)=a.length+x.length:=by omega);rw[this,List.drop_append,L8];simp);rw[t1,t2,t3]
theorem vS {x a:List Int} {z:Int} {off:Nat} (b:z=off) (c:a.length=off) (d:off+x.length≤320):kR x z a=some (a++x++List.replicate (320 - off - x.length) 0):=by subst b;unfold kR;(have b:pJ 320 320=true:=by decide);have e:List.replicate (Int.toNat 320) (0:Int)=List.replicate 320 0:=rfl;rw[b,Im,e,Le];(have b:(over (List.replicate 320 (0:Int)) 0 320 a).length=320:=by rw[qw (by omega) (by simp)];simp);rw[b];have a:decide ((0:Int)≤(off:Int)∧(off:Int)≤((320:Nat):Int)∧(((320:Nat):Int):Int)≤((320:Nat):Int))=true:=Io (by omega);have b:decide ((Int.toNat (off:Int))≤(Int.toNat ((320:Nat):Int))∧(Int.toNat ((320:Nat):Int))≤320)=true:=Io (by omega);(first|rw[a,b]|skip);simp only[Im,Iq];rw[E3 c d];try rfl
theorem Cj {x:List Int} (h:x.length≤320):nd x=some (Fn x,0):=by unfold nd;have e:decide ((x.length:Int)>320)=false:=Ip (by omega);rw[e,Il,vS (z:=0) (off:=0) rfl rfl (by omega)];rfl
theorem DB {x:List Int} (h:x.length≤48):mK x=some (yb x,0):=by unfold mK;have e:decide ((x.length:Int)>48)=false:=Ip (by omega);rw[e,Il,vS (z:=2) (off:=2) rfl rfl (by omega)];rfl
theorem yc {x:List Int} (h:x.length≤320):fh x=some (Fn x):=by unfold fh;have a:dJ=17179869184:=rfl;rw[aW (by rw[a];simp;omega)];simp only[aB,IP];rw[aY (λi=>x++List.replicate i (0:Int)) 0 (320 - x.length) (r:=Fn x) (by omega) ?_ (dS (Ip (by simp;omega))) (by simp)];rfl;intro i _ b;have b:decide (((x++List.replicate i (0:Int)).length:Int)<320)=true:=Io (by simp;omega);rw[b,Im,aW (by rw[a];simp;omega)];simp only[aB];rw[IR,←List.replicate_succ']
theorem Ea {x:List Int} (h:x.length≤320):fG x=some (Fn x,0):=by unfold fG;have e:decide ((x.length:Int)>320)=false:=Ip (by omega);rw[e,Il,yc h];rfl
theorem E4 {x:List Int} (h:x.length≤48):iC x=some (yb x,0):=by unfold iC;have e:decide ((x.length:Int)>48)=false:=Ip (by omega);rw[e,Il,aW (by simp[dJ];omega)];simp only[aB];rw[yc (by simp;omega)];(have:Fn ([1,IntKind.wrap .u8 (x.length:Int)]++x)=yb x:=by unfold Fn yb;congr 2;simp;try omega);rw[this];rfl
def bW (l:Int):Nat:=bif decide (l<1)||decide (l>8) then 0 else(48+34*l).toNat
theorem uT (l:Int):bW l≤320:=by unfold bW;cases h:decide (l<1)||decide (l>8) with|true=>simp|false=>rw[Iy] at h;simp at h;simp only[Il];omega
theorem Ah {l:Int} (h:bW l≠0):1≤l∧l≤8∧(bW l:Int)=48+34*l:=by unfold bW at h⊢;cases a:decide (l<1)||decide (l>8) with|true=>rw[a] at h;simp at h|false=>rw[Iy] at a;simp at a;simp only[Il];omega
theorem tQ (l:Int):iV l=some (bW l:Int):=by unfold iV bW;cases h:decide (l<1)||decide (l>8) with|true=>rfl|false=>rw[Iy] at h;simp at h;simp only[Il];rw[wrap64 (x:=34*l) (by omega),wrap64 (by omega)];congr 1;omega
theorem Ck (l:Int):dR l=some (bW l:Int):=by unfold dR bW;cases h:decide (l<1)||decide (l>8) with|true=>rfl|false=>rw[Iy] at h;simp at h;simp only[Il];rw[wrap64 (x:=l - 1) (by omega),wrap64 (x:=34*(l - 1)) (by omega),wrap64 (by omega)];congr 1;omega
def CH:List Int:=[99,104,117,114,110]
def m6 (key a:List Int):aU:=⟨(v6 key a CH 80).take 16,((v6 key a CH 80).take 48).drop 16,(v6 key a CH 80).drop 48⟩
theorem uU (a b c:List Int) (n:Nat):(v6 a b c n).length=n:=Hp _ _ _
theorem DC (a b c:List Int) (n:Nat):aV (v6 a b c n):=EX _ _ _
theorem Ai (key a:List Int):(m6 key a).Box.length=16∧(m6 key a).Mac.length=32∧(m6 key a).Replay.length=32:=by have:=uU key a CH 80;simp[m6,this]
theorem Aj (key a:List Int):aV (m6 key a).Box:=λb h=>by simp only[m6] at h;exact DC key a CH 80 b (Jo h)
theorem Bk {key a:List Int} (b:key.length=32) (c:a.length=16):kM key a=some (m6 key a,0):=by unfold kM;(have c:((key.length:Int) != 32)=false:=by rw[b];rfl);(have b:decide (0<[99,104,117,114,110].length)=true:=by decide);rw[c,b,Il,Im,xX (z:=80) (n:=80) rfl (by omega) (by omega) (by omega) (by simp)];simp only[aB];have b:=uU key a CH 80;have b:v6 key a [99,104,117,114,110] 80=v6 key a CH 80:=rfl;have c:m6 key a=⟨(v6 key a CH 80).take 16,((v6 key a CH 80).take 48).drop 16,(v6 key a CH 80).drop 48⟩:=rfl;rw[b,c];generalize v6 key a CH 80=P at*;simp only[IH,Il];rw[lQ (h:=16) (j:=16) rfl (by omega)];simp only[aB];rw[lx (l:=16) (h:=48) (i:=16) (j:=48) rfl rfl (by omega) (by omega)];simp only[aB];rw[lx (l:=48) (i:=48) (j:=80) rfl (by omega) (by omega) (by omega)];simp only[aB];have b:decide (16≤(P.take 16).length)=true:=Io (by simp;omega);have c:decide (32≤((P.take 48).drop 16).length)=true:=Io (by simp;omega);have d:decide (32≤((P.take 80).drop 48).length)=true:=Io (by simp;omega);rw[b,c,d,Im,Im,Im];have t1:(P.take 16).take 16=P.take 16:=ID (by simp;omega);have t2:((P.take 48).drop 16).take 32=(P.take 48).drop 16:=ID (by simp;omega);have t3:P.take 80=P:=ID (by omega);have t4:(P.drop 48).take 32=P.drop 48:=ID (by simp;omega);rw[t1,t2,t3,t4]
theorem wV {key a:List Int} (b:key.length=32) (c:a.length=16):gx key a=some (m6 key a,0):=by unfold gx;(have c:((key.length:Int) != 32)=false:=by rw[b];rfl);(have b:decide (0<[99,104,117,114,110].length)=true:=by decide);rw[c,b,Il,Im,xY (z:=80) (n:=80) rfl (by omega) (by omega) (by omega) (by simp)];simp only[aB];have b:=uU key a CH 80;have b:v6 key a [99,104,117,114,110] 80=v6 key a CH 80:=rfl;have c:m6 key a=⟨(v6 key a CH 80).take 16,((v6 key a CH 80).take 48).drop 16,(v6 key a CH 80).drop 48⟩:=rfl;rw[b,c];generalize v6 key a CH 80=P at*;rw[aY (λi=>((i:Int),(⟨cD 16 (λj=>P.getD j 0) (λ_=>0) i,cD 32 (λj=>P.getD (16+j) 0) (λ_=>0) (i - 16),cD 32 (λj=>P.getD (48+j) 0) (λ_=>0) (i - 48)⟩:aU))) 0 80 (r:=⟨P.take 16,(P.take 48).drop 16,P.drop 48⟩) (by omega) ?_ ?_ (by rfl)];rfl;intro i _ b;have c:decide ((i:Int)<80)=true:=Io (by omega);simp only[c,Im];by_cases c1:i<16;have d1:decide ((i:Int)<16)=true:=Io (by omega);simp only[d1,Im];rw[aK (xs:=P) rfl (by omega)];simp only[aB];rw[eL rfl (by omega)];simp only[aB,Iq];(have d:i+1 - 16=i - 16:=by omega);(have e:i+1 - 48=i - 48:=by omega);rw[wrap64 (by omega),dT (f:=λj=>P.getD j 0) (by omega) rfl,d,e];rfl;have d1:decide ((i:Int)<16)=false:=Ip (by omega);simp only[d1,Il];have b:cD 16 (λj=>P.getD j 0) (λ_=>0) i=cD 16 (λj=>P.getD j 0) (λ_=>0) (i+1):=oK (by omega) (by omega);by_cases c2:i<48;have d2:decide ((i:Int)<48)=true:=Io (by omega);simp only[d2,Im];rw[aK (xs:=P) rfl (by omega)];simp only[aB];rw[wrap64 (x:=(i:Int) - 16) (by omega),eL (k:=i - 16) (by omega) (by omega)];simp only[aB];(have f:Int.toNat ((i:Int) - 16)=i - 16:=by omega);(have d:i - 16+1=i+1 - 16:=by omega);(have e:i+1 - 48=i - 48:=by omega);(have h:P.getD i 0=P.getD (16+(i - 16)) 0:=by rw[show 16+(i - 16)=i by omega]);rw[wrap64 (by omega),f,dT (f:=λj=>P.getD (16+j) 0) (by omega) h,d,e,b];rfl;have d2:decide ((i:Int)<48)=false:=Ip (by omega);simp only[d2,Il];have e:cD 32 (λj=>P.getD (16+j) 0) (λ_=>0) (i - 16)=cD 32 (λj=>P.getD (16+j) 0) (λ_=>0) (i+1 - 16):=oK (by omega) (by omega);rw[aK (xs:=P) rfl (by omega)];simp only[aB];rw[wrap64 (x:=(i:Int) - 48) (by omega),eL (k:=i - 48) (by omega) (by omega)];simp only[aB];(have f:Int.toNat ((i:Int) - 48)=i - 48:=by omega);(have d:i - 48+1=i+1 - 48:=by omega);(have h:P.getD i 0=P.getD (48+(i - 48)) 0:=by rw[show 48+(i - 48)=i by omega]);rw[wrap64 (by omega),f,dT (f:=λj=>P.getD (48+j) 0) (by omega) h,d,b,e];rfl;(have c:decide (((80:Nat):Int)<80)=false:=by decide);simp only[c,Il];rw[oK (n:=16) (i:=80) (k:=16) (by omega) (by omega),oK (n:=32) (i:=80 - 16) (k:=32) (by omega) (by omega),show 80 - 48=32 from rfl,gP,gP,gP];(have b:(List.range 16).map (λj=>P.getD j 0)=P.take 16:=by apply kW;simp;omega;intro j c;simp at c;simp[c,JB]);(have d:(List.range 32).map (λj=>P.getD (16+j) 0)=(P.take 48).drop 16:=by apply kW;simp;omega;intro j c;simp at c;simp[c,JB,Jc,show 16+j<48 by omega]);(have e:(List.range 32).map (λj=>P.getD (48+j) 0)=P.drop 48:=by apply kW;simp;omega;intro j c;simp at c;simp[c,Jc]);rw[b,d,e]
def uV (key a:List Int):List Int:=(Qe key a).take 16
theorem E5 (key a:List Int):(uV key a).length=16:=by simp[uV,lR]
theorem wt (key a:List Int):aV (uV key a):=λb h=>xU key a b (Jo h)
theorem Cm {key a:List Int} (b:key.length<2^30) (c:a.length<2^30):ga key a=some (uV key a):=by unfold ga;rw[Bg b c];simp only[aB];have b:=lR key a;have b:uV key a=(Qe key a).take 16:=rfl;rw[b];generalize Qe key a=P at*;rw[aY (λi=>((i:Int),cD 16 (λj=>P.getD j 0) (λ_=>0) i)) 0 16 (r:=P.take 16) (by omega) ?_ ?_ (by rfl)];rfl;intro i _ b;have b:decide ((i:Int)<16)=true:=Io (by omega);simp only[b,Im];rw[aK (xs:=P) rfl (by omega)];simp only[aB];rw[eL rfl (by omega)];simp only[aB,Iq];rw[wrap64 (by omega),dT (f:=λj=>P.getD j 0) (by omega) rfl];rfl;(have b:decide (((16:Nat):Int)<16)=false:=by decide);simp only[b,Il];rw[gP];(have b:(List.range 16).map (λj=>P.getD j 0)=P.take 16:=by apply kW;simp;omega;intro j c;simp at c;simp[c,JB]);rw[b]
def Rh (ks:aU) (l:Int) (a box:List Int):List Int:=uV ks.Mac ([IntKind.wrap .u8 l]++a++box)
theorem Bl {ks:aU} {l:Int} {a box:List Int} (c:ks.Mac.length<2^30) (b:a.length=16) (b:box.length<2^29):kN ks l a box=some (Rh ks l a box):=by unfold kN;have b:dJ=17179869184:=rfl;rw[aW (by rw[b];simp;omega)];simp only[aB];rw[aW (by rw[b];simp;omega)];simp only[aB];rw[w6 c (by simp;omega)];simp only[aB];rw[lQ (h:=16) (j:=16) rfl (by rw[lR];omega)];rfl
theorem Hr {ks:aU} {l:Int} {a box:List Int} (c:ks.Mac.length<2^30) (b:a.length=16) (b:box.length<2^29):jG ks l a box=some (Rh ks l a box):=by unfold jG;have b:dJ=17179869184:=rfl;rw[aW (by rw[b];simp;omega)];simp only[aB];rw[aW (by rw[b];simp;omega)];simp only[aB];rw[Cm c (by simp;omega)];rfl
end Go.Proofs.YtlkjdchmeihhkaaGreatDoor
