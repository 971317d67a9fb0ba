import Derived.Test.YtobbmodjdkcdcaaGreatDoorLawAes5
set_option autoImplicit true
set_option relaxedAutoImplicit true
set_option linter.all false
set_option maxRecDepth 20000
set_option maxHeartbeats 1000000
namespace Go.Proofs.YtobbmodjdkcdcaaGreatDoor
open Go Go.Sim
variable [Fu]
theorem pj {R:Type} {step:Int→Option (Qp Int R)} {p:Nat→Bool} {good bad:R} {s0:Int} (b:Bool) (a n:Nat) (han:a≤n) (hb:b=true↔∃i,a≤i∧i<n∧p i=true)
  (h:∀i:Nat,a≤i→i<n→step (i:Int)=some (bif p i then .done bad else .next ((i+1:Nat):Int))) (hn:step (n:Int)=some (.done good)) (h0:s0=(a:Int)):
  Loop.run step s0=some (bif b then bad else good):=by
 subst h0
 have key:∀k a,n - a=k→a≤n→(∀i:Nat,a≤i→i<n→step (i:Int)=some (bif p i then .done bad else .next ((i+1:Nat):Int)))→
   ((∃i,a≤i∧i<n∧p i=true)→Loop.run step (a:Int)=some bad)∧((¬∃i,a≤i∧i<n∧p i=true)→Loop.run step (a:Int)=some good):=by
  intro k
  induction k with
  |zero=>
   intro a h1 h2 h3
   have:a=n:=by omega
   subst this
   exact⟨λ⟨i,h4,h5,_⟩=>by omega,λ_=>Lr hn⟩
  |succ k ih=>
   intro a h1 h2 h3
   have hs:=h3 a (HK _) (by omega)
   obtain⟨i1,i2⟩:=ih (a+1) (by omega) (by omega) (λi h4 h5=>h3 i (by omega) h5)
   cases hp:p a with
   |true=>
    rw[hp,Hn] at hs
    exact⟨λ_=>Lr hs,λhno=>absurd ⟨a,HK _,by omega,hp⟩ hno⟩
   |false=>
    rw[hp,Hm] at hs
    rw[Ly hs]
    refine⟨λ⟨i,h4,h5,h6⟩=>i1 ⟨i,?_,h5,h6⟩,λhno=>i2 λ⟨i,h4,h5,h6⟩=>hno ⟨i,by omega,h5,h6⟩⟩
    have:i≠a:=λe=>by rw[e,hp] at h6;cases h6
    omega
 obtain⟨k1,k2⟩:=key _ a rfl han h
 cases b with
 |true=>exact k1 (hb.1 rfl)
 |false=>exact k2 λhe=>by have:=hb.2 he;cases this
def nz (l:List Int):Bool:=l.any (· != 0)
theorem zZ {l:List Int} {a:Nat}:nz (l.drop a)=true↔∃i,a≤i∧i<l.length∧(l.getD i 0 != 0)=true:=by unfold nz;rw[List.any_eq_true];constructor;rintro⟨x,hx,h⟩;obtain⟨j,hj,e⟩:=Ix hx;simp only[HW] at hj;refine⟨a+j,by omega,by omega,?_⟩;rw[List.getElem_drop] at e;(have:l.getD (a+j) 0=x:=by rw[←e];simp[show a+j<l.length by omega]);rw[this];exact h;rintro⟨i,h1,h2,h3⟩;(have e:l.getD i 0=l[i]:=by simp[h2]);rw[e] at h3;refine⟨l[i],?_,h3⟩;rw[List.mem_iff_getElem];exact⟨i - a,by simp;omega,by simp[show a+(i - a)=i by omega]⟩
theorem Aa {x:List Int} (h:x.length<2^30):jX x=some (!nz x):=by unfold jX;rw[pj (p:=λi=>x.getD i 0 != 0) (good:= .inl ()) (bad:= .inr false) (nz x) 0 x.length (by omega) (by have:=zZ (l:=x) (a:=0);rw[IP] at this;exact this) ?_ (dF (Hp (by omega))) (by rfl)];cases nz x<;>rfl;intro i _ hi;have h1:decide ((i:Int)<(x.length:Int))=true:=Ho (by omega);rw[h1,Hn,aJ rfl hi];simp only[aB];rw[wrap64 (by omega)];cases x.getD i 0 != 0<;>rfl
theorem Bm {x:List Int} {z:Int} {a:Nat} (hz:z=a) (ha:a≤x.length) (h:x.length<2^30):fC x z=some (!nz (x.drop a)):=by unfold fC;rw[pj (p:=λi=>x.getD i 0 != 0) (good:= .inl ()) (bad:= .inr false) (nz (x.drop a)) a x.length ha zZ ?_ (dF (Hp (by omega))) hz];cases nz (x.drop a)<;>rfl;intro i _ hi;have h1:decide ((i:Int)<(x.length:Int))=true:=Ho (by omega);rw[h1,Hn,aJ rfl hi];simp only[aB];rw[wrap64 (by omega)];cases x.getD i 0 != 0<;>rfl
def Rd (c:List Int) (n:Nat):List Int×Int:=bif c.length != 320 then([],50) else bif nz (c.drop n) then([],51) else(c.take n,0)
theorem rN {c:List Int} {n:Nat}:((c.length:Int) != (n:Int))=(c.length != n):=by rw[H3];simp only[bne_iff_ne];omega
theorem E3 {c:List Int} {z:Int} {n:Nat} (hz:z=n) (hn:n≤320):oe c z=some (Rd c n):=by unfold oe Rd;have e0:((c.length:Int) != 320)=(c.length != 320):=rN (n:=320);rw[e0];cases h:(c.length != 320) with|true=>rfl|false=>(have hl:c.length=320:=by simpa using h);simp only[Hm];(have e1:(decide (z<0)||decide (z>320))=false:=by rw[Hz];exact⟨Hp (by omega),Hp (by omega)⟩);rw[e1,Hm,ki (j:=320) hz (by omega) hn (by omega)];simp only[aB];have e2:c.take 320=c:=HD (by omega);rw[e2,Aa (by simp;omega)];simp only[aB,Bool.not_not];cases nz (c.drop n) with|true=>rfl|false=>simp only[Hm];rw[kQ hz (by omega)];simp only[aB];rw[aW (by simp[F_];omega)];rfl
theorem Ge {c:List Int} {z:Int} {n:Nat} (hz:z=n) (hn:n≤320):jj c z=some (Rd c n):=by unfold jj Rd;have e0:((c.length:Int) != 320)=(c.length != 320):=rN (n:=320);rw[e0];cases h:(c.length != 320) with|true=>rfl|false=>(have hl:c.length=320:=by simpa using h);simp only[Hm];(have e1:(decide (z<0)||decide (z>320))=false:=by rw[Hz];exact⟨Hp (by omega),Hp (by omega)⟩);rw[e1,Hm,Bm hz (by omega) (by omega)];simp only[aB,Bool.not_not];cases nz (c.drop n) with|true=>rfl|false=>simp only[Hm];rw[kQ hz (by omega)];simp only[aB];rw[aW (by simp[F_];omega)];rfl
def Rp (x:List Int):List Int:=x++List.replicate (320 - x.length) 0
def wO (x:List Int):List Int:=[1,IntKind.wrap .u8 (x.length:Int)]++x++List.replicate (318 - x.length) 0
theorem D8 {x a:List Int} {off:Nat} (hf:a.length=off) (hx:off+x.length≤320):over (over (List.replicate 320 (0:Int)) 0 320 a) off 320 x=a++x++List.replicate (320 - off - x.length) 0:=by (have e1:over (List.replicate 320 (0:Int)) 0 320 a=a++List.replicate (320 - off) 0:=by rw[rL (by omega) (by simp)];have:a.take (320 - 0)=a:=HD (by omega);rw[this,JE,HM,KX];congr 2;omega);rw[e1,rL (by omega) (by simp;omega)];(have t1:(a++List.replicate (320 - off) (0:Int)).take off=a:=by rw[Jl (by omega),HD (by omega)]);have t2:x.take (320 - off)=x:=HD (by omega);(have t3:(a++List.replicate (320 - off) (0:Int)).drop (off+min x.length (320 - off))=List.replicate (320 - off - x.length) 0:=by (have:off+min x.length (320 - off)=a.length+x.length:=by omega);rw[this,List.drop_append,KX];simp);rw[t1,t2,t3]
theorem uw {x front:List Int} {z:Int} {off:Nat} (hz:z=off) (hf:front.length=off) (hx:off+x.length≤320):ka x z front=some (front++x++List.replicate (320 - off - x.length) 0):=by subst hz;unfold ka;(have g0:P2 320 320=true:=by decide);have e0:List.replicate (Int.toNat 320) (0:Int)=List.replicate 320 0:=rfl;rw[g0,Hn,e0,J3];(have ho:(over (List.replicate 320 (0:Int)) 0 320 front).length=320:=by rw[pN (by omega) (by simp)];simp);rw[ho];have g1:decide ((0:Int)≤(off:Int)∧(off:Int)≤((320:Nat):Int)∧(((320:Nat):Int):Int)≤((320:Nat):Int))=true:=Ho (by omega);have g2:decide ((Int.toNat (off:Int))≤(Int.toNat ((320:Nat):Int))∧(Int.toNat ((320:Nat):Int))≤320)=true:=Ho (by omega);(first|rw[g1,g2]|skip);simp only[Hn,Hq];rw[D8 hf hx];try rfl
theorem Bn {x:List Int} (h:x.length≤320):mM x=some (Rp x,0):=by unfold mM;have e:decide ((x.length:Int)>320)=false:=Hp (by omega);rw[e,Hm,uw (z:=0) (off:=0) rfl rfl (by omega)];rfl
theorem CJ {x:List Int} (h:x.length≤48):l5 x=some (wO x,0):=by unfold l5;have e:decide ((x.length:Int)>48)=false:=Hp (by omega);rw[e,Hm,uw (z:=2) (off:=2) rfl rfl (by omega)];rfl
theorem wP {x:List Int} (h:x.length≤320):eS x=some (Rp x):=by unfold eS;have a:F_=17179869184:=rfl;rw[aW (by rw[a];simp;omega)];simp only[aB,HM];rw[aY (λi=>x++List.replicate i (0:Int)) 0 (320 - x.length) (r:=Rp x) (by omega) ?_ (dF (Hp (by simp;omega))) (by simp)];rfl;intro i _ hi;have h1:decide (((x++List.replicate i (0:Int)).length:Int)<320)=true:=Ho (by simp;omega);rw[h1,Hn,aW (by rw[a];simp;omega)];simp only[aB];rw[HS,←List.replicate_succ']
theorem Dg {x:List Int} (h:x.length≤320):fu x=some (Rp x,0):=by unfold fu;have e:decide ((x.length:Int)>320)=false:=Hp (by omega);rw[e,Hm,wP h];rfl
theorem D9 {x:List Int} (h:x.length≤48):gO x=some (wO x,0):=by unfold gO;have e:decide ((x.length:Int)>48)=false:=Hp (by omega);rw[e,Hm,aW (by simp[F_];omega)];simp only[aB];rw[wP (by simp;omega)];(have:Rp ([1,IntKind.wrap .u8 (x.length:Int)]++x)=wO x:=by unfold Rp wO;congr 2;simp;try omega);rw[this];rfl
def bQ (l:Int):Nat:=bif decide (l<1)||decide (l>8) then 0 else(48+34*l).toNat
theorem tt (l:Int):bQ l≤320:=by unfold bQ;cases h:decide (l<1)||decide (l>8) with|true=>simp|false=>rw[Hz] at h;simp at h;simp only[Hm];omega
theorem yP {l:Int} (h:bQ l≠0):1≤l∧l≤8∧(bQ l:Int)=48+34*l:=by unfold bQ at h⊢;cases hc:decide (l<1)||decide (l>8) with|true=>rw[hc] at h;simp at h|false=>rw[Hz] at hc;simp at hc;simp only[Hm];omega
theorem sD (l:Int):iw l=some (bQ l:Int):=by unfold iw bQ;cases h:decide (l<1)||decide (l>8) with|true=>rfl|false=>rw[Hz] at h;simp at h;simp only[Hm];rw[wrap64 (x:=34*l) (by omega),wrap64 (by omega)];congr 1;omega
theorem Bo (l:Int):dz l=some (bQ l:Int):=by unfold dz bQ;cases h:decide (l<1)||decide (l>8) with|true=>rfl|false=>rw[Hz] at h;simp at h;simp only[Hm];rw[wrap64 (x:=l - 1) (by omega),wrap64 (x:=34*(l - 1)) (by omega),wrap64 (by omega)];congr 1;omega
def CH:List Int:=[99,104,117,114,110]
def mn (key a:List Int):aQ:=⟨(QC key a CH 80).take 16,((QC key a CH 80).take 48).drop 16,(QC key a CH 80).drop 48⟩
theorem tu (a b c:List Int) (n:Nat):(QC a b c n).length=n:=Gd _ _ _
theorem CK (a b c:List Int) (n:Nat):aT (QC a b c n):=D4 _ _ _
theorem yQ (key a:List Int):(mn key a).Box.length=16∧(mn key a).Mac.length=32∧(mn key a).Replay.length=32:=by have:=tu key a CH 80;simp[mn,this]
theorem yR (key a:List Int):aT (mn key a).Box:=λb h=>by simp only[mn] at h;exact CK key a CH 80 b (Ih h)
theorem Ab {key a:List Int} (hk:key.length=32) (hn:a.length=16):jY key a=some (mn key a,0):=by unfold jY;(have e0:((key.length:Int) != 32)=false:=by rw[hk];rfl);(have e1:decide (0<[99,104,117,114,110].length)=true:=by decide);rw[e0,e1,Hm,Hn,wF (z:=80) (n:=80) rfl (by omega) (by omega) (by omega) (by simp)];simp only[aB];have hl:=tu key a CH 80;have hd:QC key a [99,104,117,114,110] 80=QC key a CH 80:=rfl;have hK:mn key a=⟨(QC key a CH 80).take 16,((QC key a CH 80).take 48).drop 16,(QC key a CH 80).drop 48⟩:=rfl;rw[hd,hK];generalize QC key a CH 80=P at*;simp only[HJ,Hm];rw[kQ (h:=16) (j:=16) rfl (by omega)];simp only[aB];rw[ki (l:=16) (h:=48) (i:=16) (j:=48) rfl rfl (by omega) (by omega)];simp only[aB];rw[ki (l:=48) (i:=48) (j:=80) rfl (by omega) (by omega) (by omega)];simp only[aB];have g1:decide (16≤(P.take 16).length)=true:=Ho (by simp;omega);have g2:decide (32≤((P.take 48).drop 16).length)=true:=Ho (by simp;omega);have g3:decide (32≤((P.take 80).drop 48).length)=true:=Ho (by simp;omega);rw[g1,g2,g3,Hn,Hn,Hn];have t1:(P.take 16).take 16=P.take 16:=HD (by simp;omega);have t2:((P.take 48).drop 16).take 32=(P.take 48).drop 16:=HD (by simp;omega);have t3:P.take 80=P:=HD (by omega);have t4:(P.drop 48).take 32=P.drop 48:=HD (by simp;omega);rw[t1,t2,t3,t4]
theorem vw {key a:List Int} (hk:key.length=32) (hn:a.length=16):f9 key a=some (mn key a,0):=by unfold f9;(have e0:((key.length:Int) != 32)=false:=by rw[hk];rfl);(have e1:decide (0<[99,104,117,114,110].length)=true:=by decide);rw[e0,e1,Hm,Hn,wK (z:=80) (n:=80) rfl (by omega) (by omega) (by omega) (by simp)];simp only[aB];have hl:=tu key a CH 80;have hd:QC key a [99,104,117,114,110] 80=QC key a CH 80:=rfl;have hK:mn key a=⟨(QC key a CH 80).take 16,((QC key a CH 80).take 48).drop 16,(QC key a CH 80).drop 48⟩:=rfl;rw[hd,hK];generalize QC key a CH 80=P at*;rw[aY (λi=>((i:Int),(⟨x_ 16 (λj=>P.getD j 0) (λ_=>0) i,x_ 32 (λj=>P.getD (16+j) 0) (λ_=>0) (i - 16),x_ 32 (λj=>P.getD (48+j) 0) (λ_=>0) (i - 48)⟩:aQ))) 0 80 (r:=⟨P.take 16,(P.take 48).drop 16,P.drop 48⟩) (by omega) ?_ ?_ (by rfl)];rfl;intro i _ hi;have h1:decide ((i:Int)<80)=true:=Ho (by omega);simp only[h1,Hn];by_cases c1:i<16;have d1:decide ((i:Int)<16)=true:=Ho (by omega);simp only[d1,Hn];rw[aJ (xs:=P) rfl (by omega)];simp only[aB];rw[eg rfl (by omega)];simp only[aB,Hq];(have z1:i+1 - 16=i - 16:=by omega);(have z2:i+1 - 48=i - 48:=by omega);rw[wrap64 (by omega),dK (f:=λj=>P.getD j 0) (by omega) rfl,z1,z2];rfl;have d1:decide ((i:Int)<16)=false:=Hp (by omega);simp only[d1,Hm];have b:x_ 16 (λj=>P.getD j 0) (λ_=>0) i=x_ 16 (λj=>P.getD j 0) (λ_=>0) (i+1):=nv (by omega) (by omega);by_cases c2:i<48;have d2:decide ((i:Int)<48)=true:=Ho (by omega);simp only[d2,Hn];rw[aJ (xs:=P) rfl (by omega)];simp only[aB];rw[wrap64 (x:=(i:Int) - 16) (by omega),eg (k:=i - 16) (by omega) (by omega)];simp only[aB];(have z0:Int.toNat ((i:Int) - 16)=i - 16:=by omega);(have z1:i - 16+1=i+1 - 16:=by omega);(have z2:i+1 - 48=i - 48:=by omega);(have z3:P.getD i 0=P.getD (16+(i - 16)) 0:=by rw[show 16+(i - 16)=i by omega]);rw[wrap64 (by omega),z0,dK (f:=λj=>P.getD (16+j) 0) (by omega) z3,z1,z2,b];rfl;have d2:decide ((i:Int)<48)=false:=Hp (by omega);simp only[d2,Hm];have cap2:x_ 32 (λj=>P.getD (16+j) 0) (λ_=>0) (i - 16)=x_ 32 (λj=>P.getD (16+j) 0) (λ_=>0) (i+1 - 16):=nv (by omega) (by omega);rw[aJ (xs:=P) rfl (by omega)];simp only[aB];rw[wrap64 (x:=(i:Int) - 48) (by omega),eg (k:=i - 48) (by omega) (by omega)];simp only[aB];(have z0:Int.toNat ((i:Int) - 48)=i - 48:=by omega);(have z1:i - 48+1=i+1 - 48:=by omega);(have z3:P.getD i 0=P.getD (48+(i - 48)) 0:=by rw[show 48+(i - 48)=i by omega]);rw[wrap64 (by omega),z0,dK (f:=λj=>P.getD (48+j) 0) (by omega) z3,z1,b,cap2];rfl;(have h1:decide (((80:Nat):Int)<80)=false:=by decide);simp only[h1,Hm];rw[nv (n:=16) (i:=80) (k:=16) (by omega) (by omega),nv (n:=32) (i:=80 - 16) (k:=32) (by omega) (by omega),show 80 - 48=32 from rfl,ge,ge,ge];(have r1:(List.range 16).map (λj=>P.getD j 0)=P.take 16:=by apply jM;simp;omega;intro j hj;simp at hj;simp[hj,Iw]);(have r2:(List.range 32).map (λj=>P.getD (16+j) 0)=(P.take 48).drop 16:=by apply jM;simp;omega;intro j hj;simp at hj;simp[hj,Iw,H5,show 16+j<48 by omega]);(have r3:(List.range 32).map (λj=>P.getD (48+j) 0)=P.drop 48:=by apply jM;simp;omega;intro j hj;simp at hj;simp[hj,H5]);rw[r1,r2,r3]
def tv (key a:List Int):List Int:=(RX key a).take 16
theorem Ea (key a:List Int):(tv key a).length=16:=by simp[tv,kR]
theorem vc (key a:List Int):aT (tv key a):=λb h=>wx key a b (Ih h)
theorem Bp {key a:List Int} (hk:key.length<2^30) (hm:a.length<2^30):fL key a=some (tv key a):=by unfold fL;rw[zX hk hm];simp only[aB];have hl:=kR key a;have hh:tv key a=(RX key a).take 16:=rfl;rw[hh];generalize RX key a=P at*;rw[aY (λi=>((i:Int),x_ 16 (λj=>P.getD j 0) (λ_=>0) i)) 0 16 (r:=P.take 16) (by omega) ?_ ?_ (by rfl)];rfl;intro i _ hi;have h1:decide ((i:Int)<16)=true:=Ho (by omega);simp only[h1,Hn];rw[aJ (xs:=P) rfl (by omega)];simp only[aB];rw[eg rfl (by omega)];simp only[aB,Hq];rw[wrap64 (by omega),dK (f:=λj=>P.getD j 0) (by omega) rfl];rfl;(have h1:decide (((16:Nat):Int)<16)=false:=by decide);simp only[h1,Hm];rw[ge];(have r1:(List.range 16).map (λj=>P.getD j 0)=P.take 16:=by apply jM;simp;omega;intro j hj;simp at hj;simp[hj,Iw]);rw[r1]
def S8 (ks:aQ) (l:Int) (a box:List Int):List Int:=tv ks.Mac ([IntKind.wrap .u8 l]++a++box)
theorem Ac {ks:aQ} {l:Int} {a box:List Int} (hk:ks.Mac.length<2^30) (hn:a.length=16) (hb:box.length<2^29):jZ ks l a box=some (S8 ks l a box):=by unfold jZ;have b:F_=17179869184:=rfl;rw[aW (by rw[b];simp;omega)];simp only[aB];rw[aW (by rw[b];simp;omega)];simp only[aB];rw[vO hk (by simp;omega)];simp only[aB];rw[kQ (h:=16) (j:=16) rfl (by rw[kR];omega)];rfl
theorem Gf {ks:aQ} {l:Int} {a box:List Int} (hk:ks.Mac.length<2^30) (hn:a.length=16) (hb:box.length<2^29):jk ks l a box=some (S8 ks l a box):=by unfold jk;have b:F_=17179869184:=rfl;rw[aW (by rw[b];simp;omega)];simp only[aB];rw[aW (by rw[b];simp;omega)];simp only[aB];rw[Bp hk (by simp;omega)];rfl
end Go.Proofs.YtobbmodjdkcdcaaGreatDoor
