import Derived.Test.YtlkjdchmeihhkaaGreatDoorLawHash
set_option autoImplicit true
set_option relaxedAutoImplicit true
set_option linter.all false
set_option maxRecDepth 20000
namespace Go.Proofs.YtlkjdchmeihhkaaGreatDoor
open Go Go.Sim
open Go.IntKind (wrap)
variable [Fu]
theorem ky {α:Type} {xs:List α} {l h:Int} {i j:Nat} (a:l=i) (b:h=j) (h1:i≤j) (h2:j≤xs.length):sub xs l h=some ((xs.take j).drop i):=by subst a b;unfold sub;(have e:(decide (0≤(i:Int))&&decide ((i:Int)≤(j:Int))&&decide ((j:Int)≤(xs.length:Int)))=true:=by simp;omega);rw[e];rfl
theorem pj {α:Type} {xs:List α} {h:Int} {j:Nat} (a:h=j) (h2:j≤xs.length):sub xs 0 h=some (xs.take j):=by rw[ky (l:=0) (i:=0) rfl a (by omega) h2];rfl
def cB {α:Type} (n:Nat) (f g:Nat→α) (i:Nat):List α:=(List.range n).map λj=>bif decide (j<i) then f j else g j
theorem fu {α:Type} {n:Nat} {f g:Nat→α} {i:Nat}:(cB n f g i).length=n:=by simp[cB]
theorem iu {α:Type} {n:Nat} {f g:Nat→α} {i:Nat} (h:i<n) {v:α} (a:v=f i):List.set (cB n f g i) i v=cB n f g (i+1):=by subst a;apply He;simp[cB];intro k a a;simp only[cB,Ie,H0,HQ];by_cases a:i=k;subst a;simp;rw[Hu a];by_cases a:k<i;simp[a,show k<i+1 by omega];simp[a,show¬k<i+1 by omega]
theorem nY {α:Type} {n:Nat} {f g:Nat→α}:cB n f g 0=(List.range n).map g:=by simp[cB]
theorem kz {α:Type} {n:Nat} {f g:Nat→α}:cB n f g n=(List.range n).map f:=by unfold cB;apply HE;intro j a;simp[H8.1 a]
theorem kd {n:Nat} {f g:Nat→Int} {i k:Nat} {z:Int} (a:z=k) (h:k<n):idx (cB n f g i) z=some (bif decide (k<i) then f k else g k):=by rw[bP a (by rw[fu];exact h)];simp[cB,h]
def O2 (key:List Int):List Int:=bif decide ((key.length:Int)>64) then nN key else key
theorem Ea (key:List Int):(O2 key).length≤64:=by unfold O2;cases h:decide ((key.length:Int)>64) with|true=>simp only[Gy];rw[qT];omega|false=>simp only[Gx];simp at h;omega
def rV (key:List Int) (m:Int):List Int:=(List.range 64).map λj=>bD .u8 ((O2 key).getD j 0) m
theorem sU (key:List Int) (m:Int):(rV key m).length=64:=by simp[rV]
theorem Eb {k:List Int} (h:k.length≤64):over (List.replicate 64 (0:Int)) (Int.toNat 0) (Int.toNat 64) k=(List.range 64).map λj=>k.getD j 0:=by have t0:Int.toNat 0=0:=rfl;have t64:Int.toNat 64=64:=rfl;rw[t0,t64,nX (by omega) (by simp)];have:k.take 64=k:=GN h;simp only[Ia,GS,Jl,this,Jq,G5];apply He;simp;omega;intro i a a;rw[List.getElem_append];by_cases a:i<k.length;simp[a];simp[a]
theorem vr {key:List Int} {m:Int} (a:key.length<2^59):∃h,ji key m=some h∧SE h (rV key m):=by
 unfold ji
 have c:(bif decide ((key.length:Int)>64) then(lb key).bind λb=>some b else some key:Option (List Int))=some (O2 key):=by
   unfold O2
   cases h:decide ((key.length:Int)>64) with
   |true=>simp only[Gy];rw[D9 a];rfl
   |false=>rfl
 rw[c]
 simp only[aF]
 rw[Eb (Ea key)]
 have a:decide ((Int.toNat 0)≤(Int.toNat 64)∧(Int.toNat 64)≤64)=true:=by decide
 rw[a,Gy]
 rw[cb (λi=>((i:Int),cB 64 (λj=>bD .u8 ((O2 key).getD j 0) m) (λj=>(O2 key).getD j 0) i)) 0 64 (r:=rV key m) (by omega) ?_ ?_ (by rw[nY];rfl)]
 rotate_left
 · intro i _ a
   have b:decide ((i:Int)<64)=true:=by simp;omega
   simp only[b,Gy]
   rw[kd rfl a]
   simp only[aF,JK,JX,Gx]
   rw[wrap64 (by omega),GG,iu a rfl];rfl
 · rw[kz];rfl
 simp only[aF]
 obtain⟨h,e,r⟩:=D7
 rw[e]
 simp only[aF]
 obtain⟨a,b,c⟩:=pg r (a:=rV key m) (by rw[sU];simp)
 rw[b]
 exact⟨a,rfl,by simpa using c.zero⟩
def Ot (key a:List Int):List Int:=nN (rV key 92++nN (rV key 54++a))
theorem mm (key a:List Int):(Ot key a).length=32:=qT _
theorem vt (key a:List Int):bW (Ot key a):=ze _
theorem uF {key b:List Int} (a:key.length<2^30) (a:b.length<2^30):ka key b=some (Ot key b):=by unfold ka;obtain⟨h,e,r⟩:=vr (key:=key) (m:=54) (by omega);obtain⟨g,a,c⟩:=vr (key:=key) (m:=92) (by omega);have d:=sU key 54;have d:=sU key 92;rw[e,a];simp only[aF];obtain⟨a,a,d⟩:=pg r (a:=b) (by omega);rw[a];simp only[aF];rw[pi d.zero (by rw[GD];omega)];simp only[aF];have a:=qT (rV key 54++b);obtain⟨a,a,d⟩:=pg c (a:=nN (rV key 54++b)) (by omega);rw[a];simp only[aF];rw[pi d.zero (by rw[GD];omega)];rfl
theorem Ec {x y:Int} (c:0≤x∧x≤255) (d:0≤y∧y≤255):nL .u8 x y=0↔x=0∧y=0:=by have f:∀a b:BitVec 8,(a|||b=0#8)↔a=0#8∧b=0#8:=λa b=>BitVec.or_eq_zero_iff;(have e:nL .u8 x y=((BitVec.ofInt 8 x|||BitVec.ofInt 8 y).toNat:Int):=by have h:nL .u8 x y=IntKind.u8.wrap ((BitVec.ofInt 8 x|||BitVec.ofInt 8 y).toNat:Int):=rfl;rw[h];exact vf (by have:=(BitVec.ofInt 8 x|||BitVec.ofInt 8 y).isLt;omega));(have z:∀a:BitVec 8,(a.toNat:Int)=0↔a=0#8:=λa=>by constructor;intro h;apply I8;simpa using h;rintro rfl;rfl);(have w:∀a:Int,0≤a∧a≤255→(BitVec.ofInt 8 a=0#8↔a=0):=λa a=>by constructor;intro h;have:=congrArg BitVec.toNat h;simp only[H9] at this;simp at this;omega;rintro rfl;rfl);rw[e,z,f,w x c,w y d]
theorem Dg (x y:Int):0≤nL .u8 x y∧nL .u8 x y≤255:=oW _
theorem mn (x y:Int):0≤bD .u8 x y∧bD .u8 x y≤255:=oW _
theorem vu (x y:Int):bD .u8 x y=((BitVec.ofInt 8 x^^^BitVec.ofInt 8 y).toNat:Int):=by have h:bD .u8 x y=IntKind.u8.wrap ((BitVec.ofInt 8 x^^^BitVec.ofInt 8 y).toNat:Int):=rfl;rw[h];exact vf (by have:=(BitVec.ofInt 8 x^^^BitVec.ofInt 8 y).isLt;omega)
theorem Fq {x y:Int} (a:0≤x∧x≤255) (a:0≤y∧y≤255) (h:BitVec.ofInt 8 x=BitVec.ofInt 8 y):x=y:=by have:=congrArg BitVec.toNat h;simp only[H9] at this;simp at this;omega
theorem Dh {x y:Int} (a:0≤x∧x≤255) (b:0≤y∧y≤255):bD .u8 x y=0↔x=y:=by rw[vu];constructor;intro h;apply Fq a b;(have c:BitVec.ofInt 8 x^^^BitVec.ofInt 8 y=0#8:=by apply I8;simpa using h);have d:∀a b:BitVec 8,a^^^b=0#8→a=b:=λa b h=>BitVec.xor_eq_zero_iff.1 h;exact d _ _ c;rintro rfl;simp
def z6 (a b:List Int):Nat→Int|0=>0|i+1=>nL .u8 (z6 a b i) (bD .u8 (a.getD i 0) (b.getD i 0))
theorem BQ (a b:List Int):∀i,0≤z6 a b i∧z6 a b i≤255|0=>by simp[z6]|i+1=>Dg _ _
theorem gt {a:List Int} (h:bW a) (i:Nat):0≤a.getD i 0∧a.getD i 0≤255:=by by_cases b:i<a.length;have:=h _ (GV b);simp[b];exact this;simp[b]
theorem xw {a b:List Int} (c:bW a) (d:bW b):∀i,z6 a b i=0↔∀j,j<i→a.getD j 0=b.getD j 0|0=>by simp[z6]|i+1=>by unfold z6;rw[Ec (BQ a b i) (mn _ _),xw c d i,Dh (gt c i) (gt d i)];constructor;rintro⟨c,d⟩ j f;by_cases e:j=i;subst e;exact d;exact c j (by omega);intro h;exact⟨λj f=>h j (by omega),h i (by omega)⟩
theorem pm {a b:List Int} (c:a.length=b.length) (h:∀j,j<a.length→a.getD j 0=b.getD j 0):a=b:=by apply He c;intro i c d;have:=h i c;simpa[c,d] using this
theorem Di {a b:List Int} (c:bW a) (d:bW b) (e:a.length<2^30):lD a b=some (a==b):=by
 unfold lD
 by_cases h:a.length=b.length
 · have e:((a.length:Int) != (b.length:Int))=false:=by rw[h];simp
   rw[e,Gx]
   rw[cb (λi=>(z6 a b i,(i:Int))) 0 a.length (r:=z6 a b a.length) (by omega) ?_ (jt (by show decide _=false;simp)) (by rfl)]
   rotate_left
   · intro i _ f
     have j:decide ((i:Int)<(a.length:Int))=true:=by simp;omega
     simp only[j,Gy]
     rw[bP rfl f,bP rfl (by omega)]
     simp only[aF]
     rw[wrap64 (by omega)];rfl
   simp only[aF]
   congr 1
   have:=xw c d a.length
   by_cases c:a=b
   · subst c
     rw[this.2 λ_ _=>rfl];simp
   · have:¬z6 a b a.length=0:=λd=>c (pm h (this.1 d))
     rw[Ju this,Ju c]
 · have e:((a.length:Int) != (b.length:Int))=true:=by simp;omega
   rw[e,Gy]
   have:a≠b:=λe=>h (by rw[e])
   rw[Ju this]
def Rg (key a:List Int):Nat→List Int|0=>[]|i+1=>Ot key (Rg key a i++a++[wrap .u8 ((i+1:Nat):Int)])
theorem Fr (key a:List Int):∀i,(Rg key a i).length≤32|0=>by simp[Rg]|i+1=>by unfold Rg;rw[mm];omega
def RI (key a:List Int):Nat→List Int|0=>[]|i+1=>RI key a i++Rg key a (i+1)
theorem zg (key a:List Int):∀i,(RI key a i).length=32*i|0=>rfl|i+1=>by unfold RI Rg;rw[GD,zg,mm];omega
theorem xx (key a:List Int):∀i,bW (RI key a i)|0=>λb h=>by cases h|i+1=>λb h=>by unfold RI at h;rcases G3.1 h with h|h;exact xx key a i b h;unfold Rg at h;exact vt _ _ b h
def SF (key a:List Int) (n:Nat):List Int:=(RI key a ((n+31) / 32)).take n
theorem Fs (key a:List Int) (n:Nat):(SF key a n).length=n:=by unfold SF;rw[G4,zg];omega
theorem Dj (key a:List Int) (n:Nat):bW (SF key a n):=λb h=>xx _ _ _ b (HF h)
theorem BR {key a:List Int} {n:Nat} (b:n≤8160) (b:key.length<2^30) (c:a.length<2^29):km key a n=some (SF key a n,0):=by
 unfold km
 have c:dC=17179869184:=rfl
 have d:(dC:Int)=17179869184:=rfl
 have e:decide ((n:Int)<0)=false:=GA (by omega)
 have f:decide ((n:Int)>8160)=false:=by simp;omega
 have h:kN 0 (wrap .i64 ((n:Int)+32))=true:=by
   rw[wrap64 (by omega)];unfold kN;simp[d];omega
 rw[e,f,h]
 simp only[Gy,Gx]
 obtain⟨T,e⟩:∃T,T=Rg key a:=⟨_,rfl⟩
 obtain⟨O,f⟩:∃O,O=RI key a:=⟨_,rfl⟩
 have h:T 0=[]:=by rw[e];rfl
 have j:O 0=[]:=by rw[f];rfl
 have k:∀i,T (i+1)=Ot key (T i++a++[wrap .u8 ((i+1:Nat):Int)]):=by rw[e];intro i;rfl
 have l:∀i,O (i+1)=O i++T (i+1):=by rw[e,f];intro i;rfl
 have m:∀i,(T i).length≤32:=by rw[e];exact Fr key a
 have e:∀i,(O i).length=32*i:=by rw[f];exact zg key a
 rw[cb (λi=>(O i,T i,((i+1:Nat):Int))) 0 ((n+31) / 32) (r:=O ((n+31) / 32)) (by omega) ?_ (jt (by rw[e];simp;omega)) (by rw[h,j];rfl)]
 rotate_left
 · intro i _ h
   have h:decide (((O i).length:Int)<(n:Int))=true:=by rw[e];simp;omega
   have j:=m i
   have j:=e i
   have j:kN 0 (wrap .i64 ((wrap .i64 (((T i).length:Int)+(a.length:Int)))+1))=true:=by
    rw[wrap64 (x:=((T i).length:Int)+(a.length:Int)) (by omega),wrap64 (by omega)];unfold kN;simp[d];omega
   simp only[h,j,Gy]
   have a:List.replicate (Int.toNat 0) (0:Int)=[]:=rfl
   rw[a,cf (by rw[c];simp;omega)]
   simp only[aF,GS]
   rw[cf (by omega)]
   simp only[aF]
   rw[cf (by rw[c];simp;omega)]
   simp only[aF]
   rw[uF b (by simp;omega)]
   simp only[aF]
   rw[←k,cf (by rw[k,mm];omega)]
   simp only[aF]
   rw[wrap64 (by omega),←l];rfl
 simp only[aF]
 rw[pj rfl (by rw[e];omega)]
 simp only[aF]
 rw[f];rfl
def uC (a b c:List Int) (n:Nat):List Int:=SF (Ot b a) c n
theorem qU {a b c:List Int} {z:Int} {n:Nat} (d:z=n) (e:n≤8160) (h1:a.length<2^30) (h2:b.length<2^30) (f:c.length<2^29):iG a b c z=some (uC a b c n,0):=by subst d;unfold iG lw;rw[uF h2 h1];simp only[aF];rw[BR e (by rw[mm];omega) f];rfl
end Go.Proofs.YtlkjdchmeihhkaaGreatDoor
