import Derived.Test.YtobbmodjdkcdcaaGreatDoorLawHash
set_option linter.all false
set_option maxRecDepth 20000
namespace Go.Proofs.YtobbmodjdkcdcaaGreatDoor
open Go Go.Sim
variable [Fu]
theorem iX {α:Type} {xs:List α} {l h:Int} {i j:Nat} (hl:l=i) (hh:h=j) (h1:i≤j) (h2:j≤xs.length):sub xs l h=some ((xs.take j).drop i):=by subst hl hh;unfold sub;(have e:(decide (0≤(i:Int))&&decide ((i:Int)≤(j:Int))&&decide ((j:Int)≤(xs.length:Int)))=true:=by simp;omega);rw[e];rfl
theorem jl {α:Type} {xs:List α} {h:Int} {j:Nat} (hh:h=j) (h2:j≤xs.length):sub xs 0 h=some (xs.take j):=by rw[iX (l:=0) (i:=0) rfl hh (by omega) h2];rfl
def part1 {α:Type} (n:Nat) (f g:Nat→α) (i:Nat):List α:=(List.range n).map λj=>bif decide (j<i) then f j else g j
theorem eU {α:Type} {n:Nat} {f g:Nat→α} {i:Nat}:(part1 n f g i).length=n:=by simp[part1]
theorem cV {α:Type} {n:Nat} {f g:Nat→α} {i:Nat} (h:i<n) {v:α} (hv:v=f i):List.set (part1 n f g i) i v=part1 n f g (i+1):=by subst hv;apply G3;simp[part1];intro k h1 h2;simp only[part1,HS,HU,HE];by_cases hk:i=k;subst hk;simp;rw[Gt hk];by_cases h3:k<i;simp[h3,show k<i+1 by omega];simp[h3,show¬k<i+1 by omega]
theorem nK {α:Type} {n:Nat} {f g:Nat→α}:part1 n f g 0=(List.range n).map g:=by simp[part1]
theorem fv {α:Type} {n:Nat} {f g:Nat→α}:part1 n f g n=(List.range n).map f:=by unfold part1;apply G2;intro j hj;simp[GY.1 hj]
theorem dp {n:Nat} {f g:Nat→Int} {i k:Nat} {z:Int} (hz:z=k) (h:k<n):idx (part1 n f g i) z=some (bif decide (k<i) then f k else g k):=by rw[ar hz (by rw[eU];exact h)];simp[part1,h]
def keyB (key:List Int):List Int:=bif decide ((key.length:Int)>64) then digest key else key
theorem Dh (key:List Int):(keyB key).length≤64:=by unfold keyB;cases h:decide ((key.length:Int)>64) with|true=>simp only[FJ];rw[ny];omega|false=>simp only[FI];simp at h;omega
def oc (key:List Int) (m:Int):List Int:=(List.range 64).map λj=>xorI .u8 ((keyB key).getD j 0) m
theorem m5 (key:List Int) (m:Int):(oc key m).length=64:=by simp[oc]
theorem Di {k:List Int} (h:k.length≤64):over (List.replicate 64 (0:Int)) (Int.toNat 0) (Int.toNat 64) k=(List.range 64).map λj=>k.getD j 0:=by have t0:Int.toNat 0=0:=rfl;have t64:Int.toNat 64=64:=rfl;rw[t0,t64,px (by omega) (by simp)];have:k.take 64=k:=FZ h;simp only[HK,F8,Is,this,Jc,Gf];apply G3;simp;omega;intro i h1 h2;rw[List.getElem_append];by_cases hi:i<k.length;simp[hi];simp[hi]
theorem uj {key:List Int} {m:Int} (hb:key.length<2^59):∃h,i9 key m=some h∧HR0 h (oc key m):=by
 unfold i9
 have e1:(bif decide ((key.length:Int)>64) then(kL key).bind λy83=>some y83 else some key:Option (List Int))=some (keyB key):=by
   unfold keyB
   cases h:decide ((key.length:Int)>64) with
   |true=>simp only[FJ];rw[Dg hb];rfl
   |false=>rfl
 rw[e1]
 simp only[ab]
 rw[Di (Dh key)]
 have e2:decide ((Int.toNat 0)≤(Int.toNat 64)∧(Int.toNat 64)≤64)=true:=by decide
 rw[e2,FJ]
 rw[aP (λi=>((i:Int),part1 64 (λj=>xorI .u8 ((keyB key).getD j 0) m) (λj=>(keyB key).getD j 0) i)) 0 64 (r:=oc key m) (by omega) ?_ ?_ (by rw[nK];rfl)]
 rotate_left
 · intro i _ hi
   have h1:decide ((i:Int)<64)=true:=by simp;omega
   simp only[h1,FJ]
   rw[dp rfl hi]
   simp only[ab,IB,HD,FI]
   rw[wrap64 (by omega),FP,cV hi rfl];rfl
 · rw[fv];rfl
 simp only[ab]
 obtain⟨h,e,r⟩:=Df
 rw[e]
 simp only[ab]
 obtain⟨h',e',r'⟩:=oz r (a:=oc key m) (by rw[m5];simp)
 rw[e']
 exact⟨h',rfl,by simpa using r'.zero⟩
def tagS (key msg:List Int):List Int:=digest (oc key 92++digest (oc key 54++msg))
theorem jm (key msg:List Int):(tagS key msg).length=32:=ny _
theorem uk (key msg:List Int):aL (tagS key msg):=xy _
theorem tx {key msg:List Int} (hk:key.length<2^30) (hm:msg.length<2^30):jS key msg=some (tagS key msg):=by unfold jS;obtain⟨h,e,r⟩:=uj (key:=key) (m:=54) (by omega);obtain⟨g,e2,r2⟩:=uj (key:=key) (m:=92) (by omega);have l1:=m5 key 54;have l2:=m5 key 92;rw[e,e2];simp only[ab];obtain⟨h',e',r'⟩:=oz r (a:=msg) (by omega);rw[e'];simp only[ab];rw[oO r'.zero (by rw[FM];omega)];simp only[ab];have l3:=ny (oc key 54++msg);obtain⟨g',e3,r3⟩:=oz r2 (a:=digest (oc key 54++msg)) (by omega);rw[e3];simp only[ab];rw[oO r3.zero (by rw[FM];omega)];rfl
theorem ul {key:List Int} {m:Int} (hb:key.length<2^31):di key m=some (oc key m):=by unfold di;(have e1:(bif decide ((key.length:Int)>64) then(dO key).bind λy83=>some y83 else some key:Option (List Int))=some (keyB key):=by unfold keyB;cases h:decide ((key.length:Int)>64) with|true=>simp only[FJ];rw[xz hb];rfl|false=>rfl);rw[e1];simp only[ab];rw[aP (λi=>((List.range i).map (λj=>xorI .u8 ((keyB key).getD j 0) m),(i:Int))) 0 64 (r:=oc key m) (by omega) ?_ (cY rfl) (by rfl)];rfl;intro i _ hi;(have h1:decide ((i:Int)<64)=true:=by simp;omega);simp only[h1,FJ];(have e2:(bif decide ((i:Int)<((keyB key).length:Int)) then(idx (keyB key) (i:Int)).bind λx150=>some x150 else some 0:Option Int)=some ((keyB key).getD i 0):=by by_cases h:i<(keyB key).length;rw[ar rfl h];(have:(i:Int)<((keyB key).length:Int):=by omega);simp[this];(have:¬(i:Int)<((keyB key).length:Int):=by omega);simp only[this,HD,FI];simp[h]);rw[e2];simp only[ab];rw[aQ (by simp[room];omega)];simp only[ab];rw[wrap64 (by omega),Hx,Gy];rfl
theorem xF {key msg:List Int} (hk:key.length<2^30) (hm:msg.length<2^30):ey key msg=some (tagS key msg):=by unfold ey;have hroom:room=17179869184:=rfl;have l1:=m5 key 54;have l2:=m5 key 92;have l3:=ny (oc key 54++msg);rw[ul (by omega),ul (by omega)];simp only[ab];rw[aQ (by omega)];simp only[ab];rw[xz (by rw[FM];omega)];simp only[ab];rw[aQ (by omega)];simp only[ab];rw[xz (by rw[FM];omega)];rfl
theorem Dj {x y:Int} (hx:0≤x∧x≤255) (hy:0≤y∧y≤255):orI .u8 x y=0↔x=0∧y=0:=by have key:∀a b:BitVec 8,(a|||b=0#8)↔a=0#8∧b=0#8:=λa b=>BitVec.or_eq_zero_iff;(have e:orI .u8 x y=((BitVec.ofInt 8 x|||BitVec.ofInt 8 y).toNat:Int):=by have h:orI .u8 x y=IntKind.u8.wrap ((BitVec.ofInt 8 x|||BitVec.ofInt 8 y).toNat:Int):=rfl;rw[h];exact ua (by have:=(BitVec.ofInt 8 x|||BitVec.ofInt 8 y).isLt;omega));(have z:∀a:BitVec 8,(a.toNat:Int)=0↔a=0#8:=λa=>by constructor;intro h;apply Ii;simpa using h;rintro rfl;rfl);(have w:∀a:Int,0≤a∧a≤255→(BitVec.ofInt 8 a=0#8↔a=0):=λa ha=>by constructor;intro h;have:=congrArg BitVec.toNat h;simp only[GX] at this;simp at this;omega;rintro rfl;rfl);rw[e,z,key,w x hx,w y hy]
theorem Cg (x y:Int):0≤orI .u8 x y∧orI .u8 x y≤255:=kZ _
theorem lY (x y:Int):0≤xorI .u8 x y∧xorI .u8 x y≤255:=kZ _
theorem um (x y:Int):xorI .u8 x y=((BitVec.ofInt 8 x^^^BitVec.ofInt 8 y).toNat:Int):=by have h:xorI .u8 x y=IntKind.u8.wrap ((BitVec.ofInt 8 x^^^BitVec.ofInt 8 y).toNat:Int):=rfl;rw[h];exact ua (by have:=(BitVec.ofInt 8 x^^^BitVec.ofInt 8 y).isLt;omega)
theorem Ev {x y:Int} (hx:0≤x∧x≤255) (hy:0≤y∧y≤255) (h:BitVec.ofInt 8 x=BitVec.ofInt 8 y):x=y:=by have:=congrArg BitVec.toNat h;simp only[GX] at this;simp at this;omega
theorem Ch {x y:Int} (hx:0≤x∧x≤255) (hy:0≤y∧y≤255):xorI .u8 x y=0↔x=y:=by rw[um];constructor;intro h;apply Ev hx hy;(have h2:BitVec.ofInt 8 x^^^BitVec.ofInt 8 y=0#8:=by apply Ii;simpa using h);have key:∀a b:BitVec 8,a^^^b=0#8→a=b:=λa b h=>BitVec.xor_eq_zero_iff.1 h;exact key _ _ h2;rintro rfl;simp
def offL (a b:List Int):Nat→Int|0=>0|i+1=>orI .u8 (offL a b i) (xorI .u8 (a.getD i 0) (b.getD i 0))
theorem AQ (a b:List Int):∀i,0≤offL a b i∧offL a b i≤255|0=>by simp[offL]|i+1=>Cg _ _
theorem fi {a:List Int} (h:aL a) (i:Nat):0≤a.getD i 0∧a.getD i 0≤255:=by by_cases hi:i<a.length;have:=h _ (F7 hi);simp[hi];exact this;simp[hi]
theorem wy {a b:List Int} (ha:aL a) (hb:aL b):∀i,offL a b i=0↔∀j,j<i→a.getD j 0=b.getD j 0|0=>by simp[offL]|i+1=>by unfold offL;rw[Dj (AQ a b i) (lY _ _),wy ha hb i,Ch (fi ha i) (fi hb i)];constructor;rintro⟨h1,h2⟩ j hj;by_cases e:j=i;subst e;exact h2;exact h1 j (by omega);intro h;exact⟨λj hj=>h j (by omega),h i (by omega)⟩
theorem iB {a b:List Int} (hl:a.length=b.length) (h:∀j,j<a.length→a.getD j 0=b.getD j 0):a=b:=by apply G3 hl;intro i h1 h2;have:=h i h1;simpa[h1,h2] using this
theorem Ci {a b:List Int} (ha:aL a) (hb:aL b) (hl:a.length<2^30):ln a b=some (a==b):=by
 unfold ln
 by_cases h:a.length=b.length
 · have e:((a.length:Int) != (b.length:Int))=false:=by rw[h];simp
   rw[e,FI]
   rw[aP (λi=>(offL a b i,(i:Int))) 0 a.length (r:=offL a b a.length) (by omega) ?_ (cY (by show decide _=false;simp)) (by rfl)]
   rotate_left
   · intro i _ hi
     have h1:decide ((i:Int)<(a.length:Int))=true:=by simp;omega
     simp only[h1,FJ]
     rw[ar rfl hi,ar rfl (by omega)]
     simp only[ab]
     rw[wrap64 (by omega)];rfl
   simp only[ab]
   congr 1
   have:=wy ha hb a.length
   by_cases e2:a=b
   · subst e2
     rw[this.2 λ_ _=>rfl];simp
   · have:¬offL a b a.length=0:=λh0=>e2 (iB h (this.1 h0))
     rw[IF this,IF e2]
 · have e:((a.length:Int) != (b.length:Int))=true:=by simp;omega
   rw[e,FJ]
   have:a≠b:=λe=>h (by rw[e])
   rw[IF this]
def exT (key info:List Int):Nat→List Int|0=>[]|i+1=>tagS key (exT key info i++info++[IntKind.wrap .u8 ((i+1:Nat):Int)])
theorem Bt (key info:List Int):∀i,(exT key info i).length≤32|0=>by simp[exT]|i+1=>by unfold exT;rw[jm];omega
def exO (key info:List Int):Nat→List Int|0=>[]|i+1=>exO key info i++exT key info (i+1)
theorem tz (key info:List Int):∀i,(exO key info i).length=32*i|0=>rfl|i+1=>by unfold exO exT;rw[FM,tz,jm];omega
theorem wz (key info:List Int):∀i,aL (exO key info i)|0=>λb h=>by cases h|i+1=>λb h=>by unfold exO at h;rcases Gd.1 h with h|h;exact wz key info i b h;unfold exT at h;exact uk _ _ b h
def exS (key info:List Int) (n:Nat):List Int:=(exO key info ((n+31) / 32)).take n
theorem Ew (key info:List Int) (n:Nat):(exS key info n).length=n:=by unfold exS;rw[Ga,tz];omega
theorem Cj (key info:List Int) (n:Nat):aL (exS key info n):=λb h=>wz _ _ _ b (Gv h)
theorem AR {key info:List Int} {n:Nat} (hn:n≤8160) (hk:key.length<2^30) (hi:info.length<2^29):ka key info n=some (exS key info n,0):=by
 unfold ka
 have hroom:room=17179869184:=rfl
 have hroomI:(room:Int)=17179869184:=rfl
 have e1:decide ((n:Int)<0)=false:=FL (by omega)
 have e2:decide ((n:Int)>8160)=false:=by simp;omega
 have e3:mkB 0 (IntKind.wrap .i64 ((n:Int)+32))=true:=by
   rw[wrap64 (by omega)];unfold mkB;simp[hroomI];omega
 rw[e1,e2,e3]
 simp only[FJ,FI]
 obtain⟨T,hT⟩:∃T,T=exT key info:=⟨_,rfl⟩
 obtain⟨O,hO⟩:∃O,O=exO key info:=⟨_,rfl⟩
 have hT0:T 0=[]:=by rw[hT];rfl
 have hO0:O 0=[]:=by rw[hO];rfl
 have hTS:∀i,T (i+1)=tagS key (T i++info++[IntKind.wrap .u8 ((i+1:Nat):Int)]):=by rw[hT];intro i;rfl
 have hOS:∀i,O (i+1)=O i++T (i+1):=by rw[hT,hO];intro i;rfl
 have hTl:∀i,(T i).length≤32:=by rw[hT];exact Bt key info
 have hOl:∀i,(O i).length=32*i:=by rw[hO];exact tz key info
 rw[aP (λi=>(O i,T i,((i+1:Nat):Int))) 0 ((n+31) / 32) (r:=O ((n+31) / 32)) (by omega) ?_ (cY (by rw[hOl];simp;omega)) (by rw[hT0,hO0];rfl)]
 rotate_left
 · intro i _ hi2
   have h1:decide (((O i).length:Int)<(n:Int))=true:=by rw[hOl];simp;omega
   have hl:=hTl i
   have ho:=hOl i
   have h2:mkB 0 (IntKind.wrap .i64 ((IntKind.wrap .i64 (((T i).length:Int)+(info.length:Int)))+1))=true:=by
    rw[wrap64 (x:=((T i).length:Int)+(info.length:Int)) (by omega),wrap64 (by omega)];unfold mkB;simp[hroomI];omega
   simp only[h1,h2,FJ]
   have e0:List.replicate (Int.toNat 0) (0:Int)=[]:=rfl
   rw[e0,aQ (by rw[hroom];simp;omega)]
   simp only[ab,F8]
   rw[aQ (by omega)]
   simp only[ab]
   rw[aQ (by rw[hroom];simp;omega)]
   simp only[ab]
   rw[tx hk (by simp;omega)]
   simp only[ab]
   rw[←hTS,aQ (by rw[hTS,jm];omega)]
   simp only[ab]
   rw[wrap64 (by omega),←hOS];rfl
 simp only[ab]
 rw[jl rfl (by rw[hOl];omega)]
 simp only[ab]
 rw[hO];rfl
theorem AS {key info:List Int} {n:Nat} (hn:n≤8160) (hk:key.length<2^30) (hi:info.length<2^29):ft key info n=some (exS key info n,0):=by
 unfold ft
 have hroom:room=17179869184:=rfl
 have e1:decide ((n:Int)<0)=false:=FL (by omega)
 have e2:decide ((n:Int)>8160)=false:=by simp;omega
 rw[e1,e2]
 simp only[FI]
 obtain⟨T,hT⟩:∃T,T=exT key info:=⟨_,rfl⟩
 obtain⟨O,hO⟩:∃O,O=exO key info:=⟨_,rfl⟩
 have hT0:T 0=[]:=by rw[hT];rfl
 have hO0:O 0=[]:=by rw[hO];rfl
 have hTS:∀i,T (i+1)=tagS key (T i++info++[IntKind.wrap .u8 ((i+1:Nat):Int)]):=by rw[hT];intro i;rfl
 have hOS:∀i,O (i+1)=O i++T (i+1):=by rw[hT,hO];intro i;rfl
 have hTl:∀i,(T i).length≤32:=by rw[hT];exact Bt key info
 have hOl:∀i,(O i).length=32*i:=by rw[hO];exact tz key info
 rw[aP (λi=>(O i,T i,((i+1:Nat):Int))) 0 ((n+31) / 32) (r:=O ((n+31) / 32)) (by omega) ?_ (cY (by rw[hOl];simp;omega)) (by rw[hT0,hO0];rfl)]
 rotate_left
 · intro i _ hi2
   have h1:decide (((O i).length:Int)<(n:Int))=true:=by rw[hOl];simp;omega
   have hl:=hTl i
   have ho:=hOl i
   simp only[h1,FJ]
   rw[aQ (by rw[hroom];simp;omega)]
   simp only[ab,F8]
   rw[aQ (by omega)]
   simp only[ab]
   rw[aQ (by rw[hroom];simp;omega)]
   simp only[ab]
   rw[xF hk (by simp;omega)]
   simp only[ab]
   rw[←hTS,aQ (by rw[hTS,jm];omega)]
   simp only[ab]
   rw[wrap64 (by omega),←hOS];rfl
 simp only[ab]
 rw[jl rfl (by rw[hOl];omega)]
 simp only[ab]
 have e3:decide ((n:Int)≤(n:Int)∧(n:Int)≤((O ((n+31) / 32)).length:Int))=true:=by rw[hOl];simp;omega
 rw[e3,hO];rfl
def derS (secret salt info:List Int) (n:Nat):List Int:=exS (tagS salt secret) info n
theorem un {secret salt info:List Int} {z:Int} {n:Nat} (hz:z=n) (hn:n≤8160) (h1:secret.length<2^30) (h2:salt.length<2^30) (h3:info.length<2^29):ja secret salt info z=some (derS secret salt info n,0):=by subst hz;unfold ja kT;rw[tx h2 h1];simp only[ab];rw[AR hn (by rw[jm];omega) h3];rfl
theorem uo {secret salt info:List Int} {z:Int} {n:Nat} (hz:z=n) (hn:n≤8160) (h1:secret.length<2^30) (h2:salt.length<2^30) (h3:info.length<2^29):dY secret salt info z=some (derS secret salt info n,0):=by subst hz;unfold dY gb;rw[xF h2 h1];simp only[ab];rw[AS hn (by rw[jm];omega) h3];rfl
end Go.Proofs.YtobbmodjdkcdcaaGreatDoor
