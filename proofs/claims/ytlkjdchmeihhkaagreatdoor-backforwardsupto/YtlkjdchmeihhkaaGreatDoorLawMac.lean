import Derived.Test.YtlkjdchmeihhkaaGreatDoorLawHash
set_option autoImplicit true
set_option relaxedAutoImplicit true
set_option linter.all false
set_option maxRecDepth 20000
namespace Go.Proofs.YtlkjdchmeihhkaaGreatDoor
open Go Go.Sim
open Go.IntKind (wrap)
variable [Fu]
theorem lx {α:Type} {xs:List α} {l h:Int} {i j:Nat} (a:l=i) (b:h=j) (h1:i≤j) (h2:j≤xs.length):sub xs l h=some ((xs.take j).drop i):=by subst a b;unfold sub;(have e:(decide (0≤(i:Int))&&decide ((i:Int)≤(j:Int))&&decide ((j:Int)≤(xs.length:Int)))=true:=by simp;omega);rw[e];rfl
theorem lQ {α:Type} {xs:List α} {h:Int} {j:Nat} (a:h=j) (h2:j≤xs.length):sub xs 0 h=some (xs.take j):=by rw[lx (l:=0) (i:=0) rfl a (by omega) h2];rfl
def cD {α:Type} (n:Nat) (f g:Nat→α) (i:Nat):List α:=(List.range n).map λj=>bif decide (j<i) then f j else g j
theorem gj {α:Type} {n:Nat} {f g:Nat→α} {i:Nat}:(cD n f g i).length=n:=by simp[cD]
theorem dT {α:Type} {n:Nat} {f g:Nat→α} {i:Nat} (h:i<n) {v:α} (a:v=f i):List.set (cD n f g i) i v=cD n f g (i+1):=by subst a;apply Jt;simp[cD];intro k a a;simp only[cD,KA,Kk,J2];by_cases a:i=k;subst a;simp;rw[Jf a];by_cases a:k<i;simp[a,show k<i+1 by omega];simp[a,show¬k<i+1 by omega]
theorem qV {α:Type} {n:Nat} {f g:Nat→α}:cD n f g 0=(List.range n).map g:=by simp[cD]
theorem gP {α:Type} {n:Nat} {f g:Nat→α}:cD n f g n=(List.range n).map f:=by unfold cD;apply JH;intro j a;simp[JY.1 a]
theorem eL {n:Nat} {f g:Nat→Int} {i k:Nat} {z:Int} (a:z=k) (h:k<n):idx (cD n f g i) z=some (bif decide (k<i) then f k else g k):=by rw[aK a (by rw[gj];exact h)];simp[cD,h]
def zE (key:List Int):List Int:=bif decide ((key.length:Int)>64) then rG key else key
theorem F8 (key:List Int):(zE key).length≤64:=by unfold zE;cases h:decide ((key.length:Int)>64) with|true=>simp only[Im];rw[qU];omega|false=>simp only[Il];simp at h;omega
def ru (key:List Int) (m:Int):List Int:=(List.range 64).map λj=>bJ .u8 ((zE key).getD j 0) m
theorem qj (key:List Int) (m:Int):(ru key m).length=64:=by simp[ru]
theorem F9 {k:List Int} (h:k.length≤64):over (List.replicate 64 (0:Int)) (Int.toNat 0) (Int.toNat 64) k=(List.range 64).map λj=>k.getD j 0:=by have t0:Int.toNat 0=0:=rfl;have t64:Int.toNat 64=64:=rfl;rw[t0,t64,sN (by omega) (by simp)];have:k.take 64=k:=ID h;simp only[Ku,IP,Lt,this,L8,IX];apply Jt;simp;omega;intro i a a;rw[List.getElem_append];by_cases a:i<k.length;simp[a];simp[a]
theorem xT {key:List Int} {m:Int} (a:key.length<2^59):∃h,lj key m=some h∧Xa h (ru key m):=by
 unfold lj
 have c:(bif decide ((key.length:Int)>64) then(nc key).bind λb=>some b else some key:Option (List Int))=some (zE key):=by
   unfold zE
   cases h:decide ((key.length:Int)>64) with
   |true=>simp only[Im];rw[F7 a];rfl
   |false=>rfl
 rw[c]
 simp only[aB]
 rw[F9 (F8 key)]
 have a:decide ((Int.toNat 0)≤(Int.toNat 64)∧(Int.toNat 64)≤64)=true:=by decide
 rw[a,Im]
 rw[aY (λi=>((i:Int),cD 64 (λj=>bJ .u8 ((zE key).getD j 0) m) (λj=>(zE key).getD j 0) i)) 0 64 (r:=ru key m) (by omega) ?_ ?_ (by rw[qV];rfl)]
 rotate_left
 · intro i _ a
   have b:decide ((i:Int)<64)=true:=by simp;omega
   simp only[b,Im]
   rw[eL rfl a]
   simp only[aB,LC,Ks,Il]
   rw[wrap64 (by omega),Iq,dT a rfl];rfl
 · rw[gP];rfl
 simp only[aB]
 obtain⟨h,e,r⟩:=F6
 rw[e]
 simp only[aB]
 obtain⟨a,b,c⟩:=rT r (a:=ru key m) (by rw[qj];simp)
 rw[b]
 exact⟨a,rfl,by simpa using c.zero⟩
def Qe (key a:List Int):List Int:=rG (ru key 92++rG (ru key 54++a))
theorem lR (key a:List Int):(Qe key a).length=32:=qU _
theorem xU (key a:List Int):aV (Qe key a):=Be _
theorem w6 {key b:List Int} (a:key.length<2^30) (a:b.length<2^30):mi key b=some (Qe key b):=by unfold mi;obtain⟨h,e,r⟩:=xT (key:=key) (m:=54) (by omega);obtain⟨g,a,c⟩:=xT (key:=key) (m:=92) (by omega);have d:=qj key 54;have d:=qj key 92;rw[e,a];simp only[aB];obtain⟨a,a,d⟩:=rT r (a:=b) (by omega);rw[a];simp only[aB];rw[rV d.zero (by rw[Iu];omega)];simp only[aB];have a:=qU (ru key 54++b);obtain⟨a,a,d⟩:=rT c (a:=rG (ru key 54++b)) (by omega);rw[a];simp only[aB];rw[rV d.zero (by rw[Iu];omega)];rfl
theorem xV {key:List Int} {m:Int} (a:key.length<2^31):el key m=some (ru key m):=by unfold el;(have c:(bif decide ((key.length:Int)>64) then(fb key).bind λb=>some b else some key:Option (List Int))=some (zE key):=by unfold zE;cases h:decide ((key.length:Int)>64) with|true=>simp only[Im];rw[Bf a];rfl|false=>rfl);rw[c];simp only[aB];rw[aY (λi=>((List.range i).map (λj=>bJ .u8 ((zE key).getD j 0) m),(i:Int))) 0 64 (r:=ru key m) (by omega) ?_ (dS rfl) (by rfl)];rfl;intro i _ a;(have a:decide ((i:Int)<64)=true:=by simp;omega);simp only[a,Im];(have b:(bif decide ((i:Int)<((zE key).length:Int)) then(idx (zE key) (i:Int)).bind λa=>some a else some 0:Option Int)=some ((zE key).getD i 0):=by by_cases h:i<(zE key).length;rw[aK rfl h];(have:(i:Int)<((zE key).length:Int):=by omega);simp[this];(have:¬(i:Int)<((zE key).length:Int):=by omega);simp only[this,Ks,Il];simp[h]);rw[b];simp only[aB];rw[aW (by simp[dJ];omega)];simp only[aB];rw[wrap64 (by omega),Ky,Jn];rfl
theorem Bg {key a:List Int} (b:key.length<2^30) (b:a.length<2^30):fD key a=some (Qe key a):=by unfold fD;have b:dJ=17179869184:=rfl;have b:=qj key 54;have b:=qj key 92;have b:=qU (ru key 54++a);rw[xV (by omega),xV (by omega)];simp only[aB];rw[aW (by omega)];simp only[aB];rw[Bf (by rw[Iu];omega)];simp only[aB];rw[aW (by omega)];simp only[aB];rw[Bf (by rw[Iu];omega)];rfl
theorem Ga {x y:Int} (c:0≤x∧x≤255) (d:0≤y∧y≤255):qH .u8 x y=0↔x=0∧y=0:=by have f:∀a b:BitVec 8,(a|||b=0#8)↔a=0#8∧b=0#8:=λa b=>BitVec.or_eq_zero_iff;(have e:qH .u8 x y=((BitVec.ofInt 8 x|||BitVec.ofInt 8 y).toNat:Int):=by have h:qH .u8 x y=IntKind.u8.wrap ((BitVec.ofInt 8 x|||BitVec.ofInt 8 y).toNat:Int):=rfl;rw[h];exact xF (by have:=(BitVec.ofInt 8 x|||BitVec.ofInt 8 y).isLt;omega));(have z:∀a:BitVec 8,(a.toNat:Int)=0↔a=0#8:=λa=>by constructor;intro h;apply Lh;simpa using h;rintro rfl;rfl);(have w:∀a:Int,0≤a∧a≤255→(BitVec.ofInt 8 a=0#8↔a=0):=λa a=>by constructor;intro h;have:=congrArg BitVec.toNat h;simp only[JM] at this;simp at this;omega;rintro rfl;rfl);rw[e,z,f,w x c,w y d]
theorem EU (x y:Int):0≤qH .u8 x y∧qH .u8 x y≤255:=ml _
theorem pj (x y:Int):0≤bJ .u8 x y∧bJ .u8 x y≤255:=ml _
theorem xW (x y:Int):bJ .u8 x y=((BitVec.ofInt 8 x^^^BitVec.ofInt 8 y).toNat:Int):=by have h:bJ .u8 x y=IntKind.u8.wrap ((BitVec.ofInt 8 x^^^BitVec.ofInt 8 y).toNat:Int):=rfl;rw[h];exact xF (by have:=(BitVec.ofInt 8 x^^^BitVec.ofInt 8 y).isLt;omega)
theorem Ho {x y:Int} (a:0≤x∧x≤255) (a:0≤y∧y≤255) (h:BitVec.ofInt 8 x=BitVec.ofInt 8 y):x=y:=by have:=congrArg BitVec.toNat h;simp only[JM] at this;simp at this;omega
theorem EV {x y:Int} (a:0≤x∧x≤255) (b:0≤y∧y≤255):bJ .u8 x y=0↔x=y:=by rw[xW];constructor;intro h;apply Ho a b;(have c:BitVec.ofInt 8 x^^^BitVec.ofInt 8 y=0#8:=by apply Lh;simpa using h);have d:∀a b:BitVec 8,a^^^b=0#8→a=b:=λa b h=>BitVec.xor_eq_zero_iff.1 h;exact d _ _ c;rintro rfl;simp
def QW (a b:List Int):Nat→Int|0=>0|i+1=>qH .u8 (QW a b i) (bJ .u8 (a.getD i 0) (b.getD i 0))
theorem Ds (a b:List Int):∀i,0≤QW a b i∧QW a b i≤255|0=>by simp[QW]|i+1=>EU _ _
theorem gK {a:List Int} (h:aV a) (i:Nat):0≤a.getD i 0∧a.getD i 0≤255:=by by_cases b:i<a.length;have:=h _ (IF b);simp[b];exact this;simp[b]
theorem Ab {a b:List Int} (c:aV a) (d:aV b):∀i,QW a b i=0↔∀j,j<i→a.getD j 0=b.getD j 0|0=>by simp[QW]|i+1=>by unfold QW;rw[Ga (Ds a b i) (pj _ _),Ab c d i,EV (gK c i) (gK d i)];constructor;rintro⟨c,d⟩ j f;by_cases e:j=i;subst e;exact d;exact c j (by omega);intro h;exact⟨λj f=>h j (by omega),h i (by omega)⟩
theorem kW {a b:List Int} (c:a.length=b.length) (h:∀j,j<a.length→a.getD j 0=b.getD j 0):a=b:=by apply Jt c;intro i c d;have:=h i c;simpa[c,d] using this
theorem EW {a b:List Int} (c:aV a) (d:aV b) (e:a.length<2^30):nP a b=some (a==b):=by
 unfold nP
 by_cases h:a.length=b.length
 · have e:((a.length:Int) != (b.length:Int))=false:=by rw[h];simp
   rw[e,Il]
   rw[aY (λi=>(QW a b i,(i:Int))) 0 a.length (r:=QW a b a.length) (by omega) ?_ (dS (by show decide _=false;simp)) (by rfl)]
   rotate_left
   · intro i _ f
     have j:decide ((i:Int)<(a.length:Int))=true:=by simp;omega
     simp only[j,Im]
     rw[aK rfl f,aK rfl (by omega)]
     simp only[aB]
     rw[wrap64 (by omega)];rfl
   simp only[aB]
   congr 1
   have:=Ab c d a.length
   by_cases c:a=b
   · subst c
     rw[this.2 λ_ _=>rfl];simp
   · have:¬QW a b a.length=0:=λd=>c (kW h (this.1 d))
     rw[LG this,LG c]
 · have e:((a.length:Int) != (b.length:Int))=true:=by simp;omega
   rw[e,Im]
   have:a≠b:=λe=>h (by rw[e])
   rw[LG this]
def T8 (key a:List Int):Nat→List Int|0=>[]|i+1=>Qe key (T8 key a i++a++[wrap .u8 ((i+1:Nat):Int)])
theorem D8 (key a:List Int):∀i,(T8 key a i).length≤32|0=>by simp[T8]|i+1=>by unfold T8;rw[lR];omega
def UG (key a:List Int):Nat→List Int|0=>[]|i+1=>UG key a i++T8 key a (i+1)
theorem w7 (key a:List Int):∀i,(UG key a i).length=32*i|0=>rfl|i+1=>by unfold UG T8;rw[Iu,w7,lR];omega
theorem Ac (key a:List Int):∀i,aV (UG key a i)|0=>λb h=>by cases h|i+1=>λb h=>by unfold UG at h;rcases IK.1 h with h|h;exact Ac key a i b h;unfold T8 at h;exact xU _ _ b h
def VV (key a:List Int) (n:Nat):List Int:=(UG key a ((n+31) / 32)).take n
theorem Hp (key a:List Int) (n:Nat):(VV key a n).length=n:=by unfold VV;rw[IM,w7];omega
theorem EX (key a:List Int) (n:Nat):aV (VV key a n):=λb h=>Ac _ _ _ b (Jo h)
theorem Dt {key a:List Int} {n:Nat} (b:n≤8160) (b:key.length<2^30) (c:a.length<2^29):mF key a n=some (VV key a n,0):=by
 unfold mF
 have c:dJ=17179869184:=rfl
 have d:(dJ:Int)=17179869184:=rfl
 have e:decide ((n:Int)<0)=false:=Ip (by omega)
 have f:decide ((n:Int)>8160)=false:=by simp;omega
 have h:pJ 0 (wrap .i64 ((n:Int)+32))=true:=by
   rw[wrap64 (by omega)];unfold pJ;simp[d];omega
 rw[e,f,h]
 simp only[Im,Il]
 obtain⟨T,e⟩:∃T,T=T8 key a:=⟨_,rfl⟩
 obtain⟨O,f⟩:∃O,O=UG key a:=⟨_,rfl⟩
 have h:T 0=[]:=by rw[e];rfl
 have j:O 0=[]:=by rw[f];rfl
 have k:∀i,T (i+1)=Qe key (T i++a++[wrap .u8 ((i+1:Nat):Int)]):=by rw[e];intro i;rfl
 have l:∀i,O (i+1)=O i++T (i+1):=by rw[e,f];intro i;rfl
 have m:∀i,(T i).length≤32:=by rw[e];exact D8 key a
 have e:∀i,(O i).length=32*i:=by rw[f];exact w7 key a
 rw[aY (λi=>(O i,T i,((i+1:Nat):Int))) 0 ((n+31) / 32) (r:=O ((n+31) / 32)) (by omega) ?_ (dS (by rw[e];simp;omega)) (by rw[h,j];rfl)]
 rotate_left
 · intro i _ h
   have h:decide (((O i).length:Int)<(n:Int))=true:=by rw[e];simp;omega
   have j:=m i
   have j:=e i
   have j:pJ 0 (wrap .i64 ((wrap .i64 (((T i).length:Int)+(a.length:Int)))+1))=true:=by
    rw[wrap64 (x:=((T i).length:Int)+(a.length:Int)) (by omega),wrap64 (by omega)];unfold pJ;simp[d];omega
   simp only[h,j,Im]
   have a:List.replicate (Int.toNat 0) (0:Int)=[]:=rfl
   rw[a,aW (by rw[c];simp;omega)]
   simp only[aB,IP]
   rw[aW (by omega)]
   simp only[aB]
   rw[aW (by rw[c];simp;omega)]
   simp only[aB]
   rw[w6 b (by simp;omega)]
   simp only[aB]
   rw[←k,aW (by rw[k,lR];omega)]
   simp only[aB]
   rw[wrap64 (by omega),←l];rfl
 simp only[aB]
 rw[lQ rfl (by rw[e];omega)]
 simp only[aB]
 rw[f];rfl
theorem Du {key a:List Int} {n:Nat} (b:n≤8160) (l:key.length<2^30) (b:a.length<2^29):gw key a n=some (VV key a n,0):=by
 unfold gw
 have c:dJ=17179869184:=rfl
 have b:decide ((n:Int)<0)=false:=Ip (by omega)
 have d:decide ((n:Int)>8160)=false:=by simp;omega
 rw[b,d]
 simp only[Il]
 obtain⟨T,b⟩:∃T,T=T8 key a:=⟨_,rfl⟩
 obtain⟨O,m⟩:∃O,O=UG key a:=⟨_,rfl⟩
 have e:T 0=[]:=by rw[b];rfl
 have f:O 0=[]:=by rw[m];rfl
 have d:∀i,T (i+1)=Qe key (T i++a++[wrap .u8 ((i+1:Nat):Int)]):=by rw[b];intro i;rfl
 have h:∀i,O (i+1)=O i++T (i+1):=by rw[b,m];intro i;rfl
 have j:∀i,(T i).length≤32:=by rw[b];exact D8 key a
 have b:∀i,(O i).length=32*i:=by rw[m];exact w7 key a
 rw[aY (λi=>(O i,T i,((i+1:Nat):Int))) 0 ((n+31) / 32) (r:=O ((n+31) / 32)) (by omega) ?_ (dS (by rw[b];simp;omega)) (by rw[e,f];rfl)]
 rotate_left
 · intro i _ k
   have e:decide (((O i).length:Int)<(n:Int))=true:=by rw[b];simp;omega
   have f:=j i
   have f:=b i
   simp only[e,Im]
   rw[aW (by rw[c];simp;omega)]
   simp only[aB,IP]
   rw[aW (by omega)]
   simp only[aB]
   rw[aW (by rw[c];simp;omega)]
   simp only[aB]
   rw[Bg l (by simp;omega)]
   simp only[aB]
   rw[←d,aW (by rw[d,lR];omega)]
   simp only[aB]
   rw[wrap64 (by omega),←h];rfl
 simp only[aB]
 rw[lQ rfl (by rw[b];omega)]
 simp only[aB]
 have c:decide ((n:Int)≤(n:Int)∧(n:Int)≤((O ((n+31) / 32)).length:Int))=true:=by rw[b];simp;omega
 rw[c,m];rfl
def v6 (a b c:List Int) (n:Nat):List Int:=VV (Qe b a) c n
theorem xX {a b c:List Int} {z:Int} {n:Nat} (d:z=n) (e:n≤8160) (h1:a.length<2^30) (h2:b.length<2^30) (f:c.length<2^29):lk a b c z=some (v6 a b c n,0):=by subst d;unfold lk nu;rw[w6 h2 h1];simp only[aB];rw[Dt e (by rw[lR];omega) f];rfl
theorem xY {a b c:List Int} {z:Int} {n:Nat} (d:z=n) (e:n≤8160) (h1:a.length<2^30) (h2:b.length<2^30) (f:c.length<2^29):fq a b c z=some (v6 a b c n,0):=by subst d;unfold fq i8;rw[Bg h2 h1];simp only[aB];rw[Du e (by rw[lR];omega) f];rfl
end Go.Proofs.YtlkjdchmeihhkaaGreatDoor
