import Derived.Test.YtkjlhdndbdenaaaGreatDoorLawHash
set_option autoImplicit true
set_option relaxedAutoImplicit true
set_option linter.all false
set_option maxRecDepth 20000
namespace Go.Proofs.YtkjlhdndbdenaaaGreatDoor
open Go Go.Sim
open Go.IntKind (wrap)
variable [Fu]
theorem fM {α:Type} {xs:List α} {l h:Int} {i j:Nat} (a:l=i) (b:h=j) (h1:i≤j) (h2:j≤xs.length):sub xs l h=some ((xs.take j).drop i):=by subst a b;unfold sub;(have e:(decide (0≤(i:Int))&&decide ((i:Int)≤(j:Int))&&decide ((j:Int)≤(xs.length:Int)))=true:=by simp;omega);rw[e];rfl
theorem iF {α:Type} {xs:List α} {h:Int} {j:Nat} (a:h=j) (h2:j≤xs.length):sub xs 0 h=some (xs.take j):=by rw[fM (l:=0) (i:=0) rfl a (by omega) h2];rfl
def co {α:Type} (n:Nat) (f g:Nat→α) (i:Nat):List α:=(List.range n).map λj=>bif decide (j<i) then f j else g j
theorem dj {α:Type} {n:Nat} {f g:Nat→α} {i:Nat}:(co n f g i).length=n:=by simp[co]
theorem ck {α:Type} {n:Nat} {f g:Nat→α} {i:Nat} (h:i<n) {v:α} (a:v=f i):List.set (co n f g i) i v=co n f g (i+1):=by subst a;apply yd;simp[co];intro k a a;simp only[co,zd,List.getElem_map,List.getElem_range];by_cases a:i=k;subst a;simp;rw[xv a];by_cases a:k<i;simp[a,show k<i+1 by omega];simp[a,show¬k<i+1 by omega]
theorem iS {α:Type} {n:Nat} {f g:Nat→α}:co n f g 0=(List.range n).map g:=by simp[co]
theorem ef {α:Type} {n:Nat} {f g:Nat→α}:co n f g n=(List.range n).map f:=by unfold co;apply xm;intro j a;simp[xy.1 a]
theorem cN {n:Nat} {f g:Nat→Int} {i k:Nat} {z:Int} (a:z=k) (h:k<n):idx (co n f g i) z=some (bif decide (k<i) then f k else g k):=by rw[aI a (by rw[dj];exact h)];simp[co,h]
def nJ (key:List Int):List Int:=bif decide ((key.length:Int)>64) then gJ key else key
theorem td (key:List Int):(nJ key).length≤64:=by unfold nJ;cases h:decide ((key.length:Int)>64) with|true=>simp only[wd];rw[iR];omega|false=>simp only[wc];simp at h;omega
def iZ (key:List Int) (m:Int):List Int:=(List.range 64).map λj=>bC .u8 ((nJ key).getD j 0) m
theorem iG (key:List Int) (m:Int):(iZ key m).length=64:=by simp[iZ]
theorem tf {k:List Int} (h:k.length≤64):over (List.replicate 64 (0:Int)) (Int.toNat 0) (Int.toNat 64) k=(List.range 64).map λj=>k.getD j 0:=by have t0:Int.toNat 0=0:=rfl;have t64:Int.toNat 64=64:=rfl;rw[t0,t64,iQ (by omega) (by simp)];have:k.take 64=k:=wn h;simp only[yh,wQ,Nat.sub_zero,this,yS,wL];apply yd;simp;omega;intro i a a;rw[List.getElem_append];by_cases a:i<k.length;simp[a];simp[a]
theorem lO {key:List Int} {m:Int} (a:key.length<2^59):∃h,fh key m=some h∧Ef h (iZ key m):=by
 unfold fh
 have c:(bif decide ((key.length:Int)>64) then(fS key).bind λb=>some b else some key:Option (List Int))=some (nJ key):=by
   unfold nJ
   cases h:decide ((key.length:Int)>64) with
   |true=>simp only[wd];rw[tc a];rfl
   |false=>rfl
 rw[c]
 simp only[aC]
 rw[tf (td key)]
 have a:decide ((Int.toNat 0)≤(Int.toNat 64)∧(Int.toNat 64)≤64)=true:=by decide
 rw[a,wd]
 rw[aQ (λi=>((i:Int),co 64 (λj=>bC .u8 ((nJ key).getD j 0) m) (λj=>(nJ key).getD j 0) i)) 0 64 (r:=iZ key m) (by omega) ?_ ?_ (by rw[iS];rfl)]
 rotate_left
 · intro i _ a
   have b:decide ((i:Int)<64)=true:=by simp;omega
   simp only[b,wd]
   rw[cN rfl a]
   simp only[aC,yU,yQ,wc]
   rw[bA (by omega),wl,ck a rfl];rfl
 · rw[ef];rfl
 simp only[aC]
 obtain⟨h,e,r⟩:=ta
 rw[e]
 simp only[aC]
 obtain⟨a,b,c⟩:=jd r (a:=iZ key m) (by rw[iG];simp)
 rw[b]
 exact⟨a,rfl,by simpa using c.zero⟩
def tC (key a:List Int):List Int:=gJ (iZ key 92++gJ (iZ key 54++a))
theorem fN (key a:List Int):(tC key a).length=32:=iR _
theorem qu (key a:List Int):aT (tC key a):=nT _
theorem nV {key b:List Int} (a:key.length<2^30) (a:b.length<2^30):fT key b=some (tC key b):=by unfold fT;obtain⟨h,e,r⟩:=lO (key:=key) (m:=54) (by omega);obtain⟨g,a,c⟩:=lO (key:=key) (m:=92) (by omega);have d:=iG key 54;have d:=iG key 92;rw[e,a];simp only[aC];obtain⟨a,a,d⟩:=jd r (a:=b) (by omega);rw[a];simp only[aC];rw[jf d.zero (by rw[wi];omega)];simp only[aC];have a:=iR (iZ key 54++b);obtain⟨a,a,d⟩:=jd c (a:=gJ (iZ key 54++b)) (by omega);rw[a];simp only[aC];rw[jf d.zero (by rw[wi];omega)];rfl
theorem lQ {key:List Int} {m:Int} (a:key.length<2^31):cg key m=some (iZ key m):=by unfold cg;(have c:(bif decide ((key.length:Int)>64) then(cu key).bind λb=>some b else some key:Option (List Int))=some (nJ key):=by unfold nJ;cases h:decide ((key.length:Int)>64) with|true=>simp only[wd];rw[nU a];rfl|false=>rfl);rw[c];simp only[aC];rw[aQ (λi=>((List.range i).map (λj=>bC .u8 ((nJ key).getD j 0) m),(i:Int))) 0 64 (r:=iZ key m) (by omega) ?_ (dp rfl) (by rfl)];rfl;intro i _ a;(have a:decide ((i:Int)<64)=true:=by simp;omega);simp only[a,wd];(have b:(bif decide ((i:Int)<((nJ key).length:Int)) then(idx (nJ key) (i:Int)).bind λa=>some a else some 0:Option Int)=some ((nJ key).getD i 0):=by by_cases h:i<(nJ key).length;rw[aI rfl h];(have:(i:Int)<((nJ key).length:Int):=by omega);simp[this];(have:¬(i:Int)<((nJ key).length:Int):=by omega);simp only[this,yQ,wc];simp[h]);rw[b];simp only[aC];rw[bb (by simp[c7];omega)];simp only[aC];rw[bA (by omega),yX,xz];rfl
theorem nW {key a:List Int} (b:key.length<2^30) (b:a.length<2^30):cV key a=some (tC key a):=by unfold cV;have b:c7=17179869184:=rfl;have b:=iG key 54;have b:=iG key 92;have b:=iR (iZ key 54++a);rw[lQ (by omega),lQ (by omega)];simp only[aC];rw[bb (by omega)];simp only[aC];rw[nU (by rw[wi];omega)];simp only[aC];rw[bb (by omega)];simp only[aC];rw[nU (by rw[wi];omega)];rfl
theorem jF (x y:Int):0≤bC .u8 x y∧bC .u8 x y≤255:=io _
theorem pi (x y:Int):bC .u8 x y=((BitVec.ofInt 8 x^^^BitVec.ofInt 8 y).toNat:Int):=by have h:bC .u8 x y=IntKind.u8.wrap ((BitVec.ofInt 8 x^^^BitVec.ofInt 8 y).toNat:Int):=rfl;rw[h];exact oO (by have:=(BitVec.ofInt 8 x^^^BitVec.ofInt 8 y).isLt;omega)
theorem fe {a:List Int} (h:aT a) (i:Nat):0≤a.getD i 0∧a.getD i 0≤255:=by by_cases b:i<a.length;have:=h _ (xQ b);simp[b];exact this;simp[b]
theorem gn {a b:List Int} (c:a.length=b.length) (h:∀j,j<a.length→a.getD j 0=b.getD j 0):a=b:=by apply yd c;intro i c d;have:=h i c;simpa[c,d] using this
def Dc (key a:List Int):Nat→List Int|0=>[]|i+1=>tC key (Dc key a i++a++[wrap .u8 ((i+1:Nat):Int)])
theorem rb (key a:List Int):∀i,(Dc key a i).length≤32|0=>by simp[Dc]|i+1=>by unfold Dc;rw[fN];omega
def Dj (key a:List Int):Nat→List Int|0=>[]|i+1=>Dj key a i++Dc key a (i+1)
theorem lu (key a:List Int):∀i,(Dj key a i).length=32*i|0=>rfl|i+1=>by unfold Dj Dc;rw[wi,lu,fN];omega
theorem mV (key a:List Int):∀i,aT (Dj key a i)|0=>λb h=>by cases h|i+1=>λb h=>by unfold Dj at h;rcases w6.1 h with h|h;exact mV key a i b h;unfold Dc at h;exact qu _ _ b h
def DT (key a:List Int) (n:Nat):List Int:=(Dj key a ((n+31) / 32)).take n
theorem uF (key a:List Int) (n:Nat):(DT key a n).length=n:=by unfold DT;rw[wx,lu];omega
theorem sa (key a:List Int) (n:Nat):aT (DT key a n):=λb h=>mV _ _ _ b (xq h)
theorem qv {key a:List Int} {n:Nat} (b:n≤8160) (b:key.length<2^30) (c:a.length<2^29):fH key a n=some (DT key a n,0):=by
 unfold fH
 have c:c7=17179869184:=rfl
 have d:(c7:Int)=17179869184:=rfl
 have e:decide ((n:Int)<0)=false:=wk (by omega)
 have f:decide ((n:Int)>8160)=false:=by simp;omega
 have h:mA 0 (wrap .i64 ((n:Int)+32))=true:=by
   rw[bA (by omega)];unfold mA;simp[d];omega
 rw[e,f,h]
 simp only[wd,wc]
 obtain⟨T,e⟩:∃T,T=Dc key a:=⟨_,rfl⟩
 obtain⟨O,f⟩:∃O,O=Dj key a:=⟨_,rfl⟩
 have h:T 0=[]:=by rw[e];rfl
 have j:O 0=[]:=by rw[f];rfl
 have k:∀i,T (i+1)=tC key (T i++a++[wrap .u8 ((i+1:Nat):Int)]):=by rw[e];intro i;rfl
 have l:∀i,O (i+1)=O i++T (i+1):=by rw[e,f];intro i;rfl
 have m:∀i,(T i).length≤32:=by rw[e];exact rb key a
 have e:∀i,(O i).length=32*i:=by rw[f];exact lu key a
 rw[aQ (λi=>(O i,T i,((i+1:Nat):Int))) 0 ((n+31) / 32) (r:=O ((n+31) / 32)) (by omega) ?_ (dp (by rw[e];simp;omega)) (by rw[h,j];rfl)]
 rotate_left
 · intro i _ h
   have h:decide (((O i).length:Int)<(n:Int))=true:=by rw[e];simp;omega
   have j:=m i
   have j:=e i
   have j:mA 0 (wrap .i64 ((wrap .i64 (((T i).length:Int)+(a.length:Int)))+1))=true:=by
    rw[bA (x:=((T i).length:Int)+(a.length:Int)) (by omega),bA (by omega)];unfold mA;simp[d];omega
   simp only[h,j,wd]
   have a:List.replicate (Int.toNat 0) (0:Int)=[]:=rfl
   rw[a,bb (by rw[c];simp;omega)]
   simp only[aC,wQ]
   rw[bb (by omega)]
   simp only[aC]
   rw[bb (by rw[c];simp;omega)]
   simp only[aC]
   rw[nV b (by simp;omega)]
   simp only[aC]
   rw[←k,bb (by rw[k,fN];omega)]
   simp only[aC]
   rw[bA (by omega),←l];rfl
 simp only[aC]
 rw[iF rfl (by rw[e];omega)]
 simp only[aC]
 rw[f];rfl
theorem qw {key a:List Int} {n:Nat} (b:n≤8160) (l:key.length<2^30) (b:a.length<2^29):dv key a n=some (DT key a n,0):=by
 unfold dv
 have c:c7=17179869184:=rfl
 have b:decide ((n:Int)<0)=false:=wk (by omega)
 have d:decide ((n:Int)>8160)=false:=by simp;omega
 rw[b,d]
 simp only[wc]
 obtain⟨T,b⟩:∃T,T=Dc key a:=⟨_,rfl⟩
 obtain⟨O,m⟩:∃O,O=Dj key a:=⟨_,rfl⟩
 have e:T 0=[]:=by rw[b];rfl
 have f:O 0=[]:=by rw[m];rfl
 have d:∀i,T (i+1)=tC key (T i++a++[wrap .u8 ((i+1:Nat):Int)]):=by rw[b];intro i;rfl
 have h:∀i,O (i+1)=O i++T (i+1):=by rw[b,m];intro i;rfl
 have j:∀i,(T i).length≤32:=by rw[b];exact rb key a
 have b:∀i,(O i).length=32*i:=by rw[m];exact lu key a
 rw[aQ (λi=>(O i,T i,((i+1:Nat):Int))) 0 ((n+31) / 32) (r:=O ((n+31) / 32)) (by omega) ?_ (dp (by rw[b];simp;omega)) (by rw[e,f];rfl)]
 rotate_left
 · intro i _ k
   have e:decide (((O i).length:Int)<(n:Int))=true:=by rw[b];simp;omega
   have f:=j i
   have f:=b i
   simp only[e,wd]
   rw[bb (by rw[c];simp;omega)]
   simp only[aC,wQ]
   rw[bb (by omega)]
   simp only[aC]
   rw[bb (by rw[c];simp;omega)]
   simp only[aC]
   rw[nW l (by simp;omega)]
   simp only[aC]
   rw[←d,bb (by rw[d,fN];omega)]
   simp only[aC]
   rw[bA (by omega),←h];rfl
 simp only[aC]
 rw[iF rfl (by rw[b];omega)]
 simp only[aC]
 have c:decide ((n:Int)≤(n:Int)∧(n:Int)≤((O ((n+31) / 32)).length:Int))=true:=by rw[b];simp;omega
 rw[c,m];rfl
def kD (a b c:List Int) (n:Nat):List Int:=DT (tC b a) c n
theorem lR {a b c:List Int} {z:Int} {n:Nat} (d:z=n) (e:n≤8160) (h1:a.length<2^30) (h2:b.length<2^30) (f:c.length<2^29):fi a b c z=some (kD a b c n,0):=by subst d;unfold fi ga;rw[nV h2 h1];simp only[aC];rw[qv e (by rw[fN];omega) f];rfl
theorem lS {a b c:List Int} {z:Int} {n:Nat} (d:z=n) (e:n≤8160) (h1:a.length<2^30) (h2:b.length<2^30) (f:c.length<2^29):cM a b c z=some (kD a b c n,0):=by subst d;unfold cM dX;rw[nW h2 h1];simp only[aC];rw[qw e (by rw[fN];omega) f];rfl
end Go.Proofs.YtkjlhdndbdenaaaGreatDoor
