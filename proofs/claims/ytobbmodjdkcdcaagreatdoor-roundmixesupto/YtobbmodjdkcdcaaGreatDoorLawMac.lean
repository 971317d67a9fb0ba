import Derived.Test.YtobbmodjdkcdcaaGreatDoorLawHash
set_option autoImplicit true
set_option relaxedAutoImplicit true
set_option linter.all false
set_option maxRecDepth 20000
namespace Go.Proofs.YtobbmodjdkcdcaaGreatDoor
open Go Go.Sim
open Go.IntKind (wrap)
variable [Fu]
theorem ki {α:Type} {xs:List α} {l h:Int} {i j:Nat} (hl:l=i) (hh:h=j) (h1:i≤j) (h2:j≤xs.length):sub xs l h=some ((xs.take j).drop i):=by subst hl hh;unfold sub;(have e:(decide (0≤(i:Int))&&decide ((i:Int)≤(j:Int))&&decide ((j:Int)≤(xs.length:Int)))=true:=by simp;omega);rw[e];rfl
theorem kQ {α:Type} {xs:List α} {h:Int} {j:Nat} (hh:h=j) (h2:j≤xs.length):sub xs 0 h=some (xs.take j):=by rw[ki (l:=0) (i:=0) rfl hh (by omega) h2];rfl
def x_ {α:Type} (n:Nat) (f g:Nat→α) (i:Nat):List α:=(List.range n).map λj=>bif decide (j<i) then f j else g j
theorem fH {α:Type} {n:Nat} {f g:Nat→α} {i:Nat}:(x_ n f g i).length=n:=by simp[x_]
theorem dK {α:Type} {n:Nat} {f g:Nat→α} {i:Nat} (h:i<n) {v:α} (hv:v=f i):List.set (x_ n f g i) i v=x_ n f g (i+1):=by subst hv;apply IA;simp[x_];intro k h1 h2;simp only[x_,JK,JA,Jn];by_cases hk:i=k;subst hk;simp;rw[Ic hk];by_cases h3:k<i;simp[h3,show k<i+1 by omega];simp[h3,show¬k<i+1 by omega]
theorem qa {α:Type} {n:Nat} {f g:Nat→α}:x_ n f g 0=(List.range n).map g:=by simp[x_]
theorem ge {α:Type} {n:Nat} {f g:Nat→α}:x_ n f g n=(List.range n).map f:=by unfold x_;apply IJ;intro j hj;simp[IY.1 hj]
theorem eg {n:Nat} {f g:Nat→Int} {i k:Nat} {z:Int} (hz:z=k) (h:k<n):idx (x_ n f g i) z=some (bif decide (k<i) then f k else g k):=by rw[aJ hz (by rw[fH];exact h)];simp[x_,h]
def Rc (key:List Int):List Int:=bif decide ((key.length:Int)>64) then Qf key else key
theorem EY (key:List Int):(Rc key).length≤64:=by unfold Rc;cases h:decide ((key.length:Int)>64) with|true=>simp only[Hn];rw[pZ];omega|false=>simp only[Hm];simp at h;omega
def qu (key:List Int) (m:Int):List Int:=(List.range 64).map λj=>g_ .u8 ((Rc key).getD j 0) m
theorem pg (key:List Int) (m:Int):(qu key m).length=64:=by simp[qu]
theorem EZ {k:List Int} (h:k.length≤64):over (List.replicate 64 (0:Int)) (Int.toNat 0) (Int.toNat 64) k=(List.range 64).map λj=>k.getD j 0:=by have t0:Int.toNat 0=0:=rfl;have a:Int.toNat 64=64:=rfl;rw[t0,a,rL (by omega) (by simp)];have:k.take 64=k:=HD h;simp only[JE,HM,Kf,this,KX,HV];apply IA;simp;omega;intro i h1 h2;rw[List.getElem_append];by_cases hi:i<k.length;simp[hi];simp[hi]
theorem ww {key:List Int} {m:Int} (hb:key.length<2^59):∃h,kp key m=some h∧YD h (qu key m):=by
 unfold kp
 have e1:(bif decide ((key.length:Int)>64) then(mL key).bind λb=>some b else some key:Option (List Int))=some (Rc key):=by
   unfold Rc
   cases h:decide ((key.length:Int)>64) with
   |true=>simp only[Hn];rw[EX hb];rfl
   |false=>rfl
 rw[e1]
 simp only[aB]
 rw[EZ (EY key)]
 have e2:decide ((Int.toNat 0)≤(Int.toNat 64)∧(Int.toNat 64)≤64)=true:=by decide
 rw[e2,Hn]
 rw[aY (λi=>((i:Int),x_ 64 (λj=>g_ .u8 ((Rc key).getD j 0) m) (λj=>(Rc key).getD j 0) i)) 0 64 (r:=qu key m) (by omega) ?_ ?_ (by rw[qa];rfl)]
 rotate_left
 · intro i _ hi
   have h1:decide ((i:Int)<64)=true:=by simp;omega
   simp only[h1,Hn]
   rw[eg rfl hi]
   simp only[aB,Ko,Ju,Hm]
   rw[wrap64 (by omega),Hq,dK hi rfl];rfl
 · rw[ge];rfl
 simp only[aB]
 obtain⟨h,e,r⟩:=EW
 rw[e]
 simp only[aB]
 obtain⟨h',e',r'⟩:=qT r (a:=qu key m) (by rw[pg];simp)
 rw[e']
 exact⟨h',rfl,by simpa using r'.zero⟩
def RX (key a:List Int):List Int:=Qf (qu key 92++Qf (qu key 54++a))
theorem kR (key a:List Int):(RX key a).length=32:=pZ _
theorem wx (key a:List Int):aT (RX key a):=zV _
theorem vO {key b:List Int} (hk:key.length<2^30) (hm:b.length<2^30):lJ key b=some (RX key b):=by unfold lJ;obtain⟨h,e,r⟩:=ww (key:=key) (m:=54) (by omega);obtain⟨g,e2,r2⟩:=ww (key:=key) (m:=92) (by omega);have l1:=pg key 54;have l2:=pg key 92;rw[e,e2];simp only[aB];obtain⟨h',e',r'⟩:=qT r (a:=b) (by omega);rw[e'];simp only[aB];rw[qV r'.zero (by rw[Hu];omega)];simp only[aB];have l3:=pZ (qu key 54++b);obtain⟨g',e3,r3⟩:=qT r2 (a:=Qf (qu key 54++b)) (by omega);rw[e3];simp only[aB];rw[qV r3.zero (by rw[Hu];omega)];rfl
theorem wy {key:List Int} {m:Int} (hb:key.length<2^31):dV key m=some (qu key m):=by unfold dV;(have e1:(bif decide ((key.length:Int)>64) then(eN key).bind λb=>some b else some key:Option (List Int))=some (Rc key):=by unfold Rc;cases h:decide ((key.length:Int)>64) with|true=>simp only[Hn];rw[zW hb];rfl|false=>rfl);rw[e1];simp only[aB];rw[aY (λi=>((List.range i).map (λj=>g_ .u8 ((Rc key).getD j 0) m),(i:Int))) 0 64 (r:=qu key m) (by omega) ?_ (dF rfl) (by rfl)];rfl;intro i _ hi;(have h1:decide ((i:Int)<64)=true:=by simp;omega);simp only[h1,Hn];(have e2:(bif decide ((i:Int)<((Rc key).length:Int)) then(idx (Rc key) (i:Int)).bind λa=>some a else some 0:Option Int)=some ((Rc key).getD i 0):=by by_cases h:i<(Rc key).length;rw[aJ rfl h];(have:(i:Int)<((Rc key).length:Int):=by omega);simp[this];(have:¬(i:Int)<((Rc key).length:Int):=by omega);simp only[this,Ju,Hm];simp[h]);rw[e2];simp only[aB];rw[aW (by simp[F_];omega)];simp only[aB];rw[wrap64 (by omega),Jw,Im];rfl
theorem zX {key a:List Int} (hk:key.length<2^30) (hm:a.length<2^30):fp key a=some (RX key a):=by unfold fp;have b:F_=17179869184:=rfl;have l1:=pg key 54;have l2:=pg key 92;have l3:=pZ (qu key 54++a);rw[wy (by omega),wy (by omega)];simp only[aB];rw[aW (by omega)];simp only[aB];rw[zW (by rw[Hu];omega)];simp only[aB];rw[aW (by omega)];simp only[aB];rw[zW (by rw[Hu];omega)];rfl
theorem E2 {x y:Int} (hx:0≤x∧x≤255) (hy:0≤y∧y≤255):PV .u8 x y=0↔x=0∧y=0:=by have key:∀a b:BitVec 8,(a|||b=0#8)↔a=0#8∧b=0#8:=λa b=>BitVec.or_eq_zero_iff;(have e:PV .u8 x y=((BitVec.ofInt 8 x|||BitVec.ofInt 8 y).toNat:Int):=by have h:PV .u8 x y=IntKind.u8.wrap ((BitVec.ofInt 8 x|||BitVec.ofInt 8 y).toNat:Int):=rfl;rw[h];exact wj (by have:=(BitVec.ofInt 8 x|||BitVec.ofInt 8 y).isLt;omega));(have z:∀a:BitVec 8,(a.toNat:Int)=0↔a=0#8:=λa=>by constructor;intro h;apply J2;simpa using h;rintro rfl;rfl);(have w:∀a:Int,0≤a∧a≤255→(BitVec.ofInt 8 a=0#8↔a=0):=λa ha=>by constructor;intro h;have:=congrArg BitVec.toNat h;simp only[IG] at this;simp at this;omega;rintro rfl;rfl);rw[e,z,key,w x hx,w y hy]
theorem D1 (x y:Int):0≤PV .u8 x y∧PV .u8 x y≤255:=lB _
theorem nR (x y:Int):0≤g_ .u8 x y∧g_ .u8 x y≤255:=lB _
theorem wz (x y:Int):g_ .u8 x y=((BitVec.ofInt 8 x^^^BitVec.ofInt 8 y).toNat:Int):=by have h:g_ .u8 x y=IntKind.u8.wrap ((BitVec.ofInt 8 x^^^BitVec.ofInt 8 y).toNat:Int):=rfl;rw[h];exact wj (by have:=(BitVec.ofInt 8 x^^^BitVec.ofInt 8 y).isLt;omega)
theorem Gc {x y:Int} (hx:0≤x∧x≤255) (hy:0≤y∧y≤255) (h:BitVec.ofInt 8 x=BitVec.ofInt 8 y):x=y:=by have:=congrArg BitVec.toNat h;simp only[IG] at this;simp at this;omega
theorem D2 {x y:Int} (hx:0≤x∧x≤255) (hy:0≤y∧y≤255):g_ .u8 x y=0↔x=y:=by rw[wz];constructor;intro h;apply Gc hx hy;(have h2:BitVec.ofInt 8 x^^^BitVec.ofInt 8 y=0#8:=by apply J2;simpa using h);have key:∀a b:BitVec 8,a^^^b=0#8→a=b:=λa b h=>BitVec.xor_eq_zero_iff.1 h;exact key _ _ h2;rintro rfl;simp
def SS (a b:List Int):Nat→Int|0=>0|i+1=>PV .u8 (SS a b i) (g_ .u8 (a.getD i 0) (b.getD i 0))
theorem CA (a b:List Int):∀i,0≤SS a b i∧SS a b i≤255|0=>by simp[SS]|i+1=>D1 _ _
theorem fW {a:List Int} (h:aT a) (i:Nat):0≤a.getD i 0∧a.getD i 0≤255:=by by_cases hi:i<a.length;have:=h _ (HG hi);simp[hi];exact this;simp[hi]
theorem yF {a b:List Int} (ha:aT a) (hb:aT b):∀i,SS a b i=0↔∀j,j<i→a.getD j 0=b.getD j 0|0=>by simp[SS]|i+1=>by unfold SS;rw[E2 (CA a b i) (nR _ _),yF ha hb i,D2 (fW ha i) (fW hb i)];constructor;rintro⟨h1,h2⟩ j hj;by_cases e:j=i;subst e;exact h2;exact h1 j (by omega);intro h;exact⟨λj hj=>h j (by omega),h i (by omega)⟩
theorem jM {a b:List Int} (hl:a.length=b.length) (h:∀j,j<a.length→a.getD j 0=b.getD j 0):a=b:=by apply IA hl;intro i h1 h2;have:=h i h1;simpa[h1,h2] using this
theorem D3 {a b:List Int} (ha:aT a) (hb:aT b) (hl:a.length<2^30):na a b=some (a==b):=by
 unfold na
 by_cases h:a.length=b.length
 · have e:((a.length:Int) != (b.length:Int))=false:=by rw[h];simp
   rw[e,Hm]
   rw[aY (λi=>(SS a b i,(i:Int))) 0 a.length (r:=SS a b a.length) (by omega) ?_ (dF (by show decide _=false;simp)) (by rfl)]
   rotate_left
   · intro i _ hi
     have h1:decide ((i:Int)<(a.length:Int))=true:=by simp;omega
     simp only[h1,Hn]
     rw[aJ rfl hi,aJ rfl (by omega)]
     simp only[aB]
     rw[wrap64 (by omega)];rfl
   simp only[aB]
   congr 1
   have:=yF ha hb a.length
   by_cases e2:a=b
   · subst e2
     rw[this.2 λ_ _=>rfl];simp
   · have:¬SS a b a.length=0:=λh0=>e2 (jM h (this.1 h0))
     rw[Kt this,Kt e2]
 · have e:((a.length:Int) != (b.length:Int))=true:=by simp;omega
   rw[e,Hn]
   have:a≠b:=λe=>h (by rw[e])
   rw[Kt this]
def Wf (key a:List Int):Nat→List Int|0=>[]|i+1=>RX key (Wf key a i++a++[wrap .u8 ((i+1:Nat):Int)])
theorem Df (key a:List Int):∀i,(Wf key a i).length≤32|0=>by simp[Wf]|i+1=>by unfold Wf;rw[kR];omega
def WD (key a:List Int):Nat→List Int|0=>[]|i+1=>WD key a i++Wf key a (i+1)
theorem vP (key a:List Int):∀i,(WD key a i).length=32*i|0=>rfl|i+1=>by unfold WD Wf;rw[Hu,vP,kR];omega
theorem yK (key a:List Int):∀i,aT (WD key a i)|0=>λb h=>by cases h|i+1=>λb h=>by unfold WD at h;rcases HO.1 h with h|h;exact yK key a i b h;unfold Wf at h;exact wx _ _ b h
def XE (key a:List Int) (n:Nat):List Int:=(WD key a ((n+31) / 32)).take n
theorem Gd (key a:List Int) (n:Nat):(XE key a n).length=n:=by unfold XE;rw[HN,vP];omega
theorem D4 (key a:List Int) (n:Nat):aT (XE key a n):=λb h=>yK _ _ _ b (Ih h)
theorem CB {key info:List Int} {n:Nat} (hn:n≤8160) (hk:key.length<2^30) (hi:info.length<2^29):lZ key info n=some (XE key info n,0):=by
 unfold lZ
 have hroom:F_=17179869184:=rfl
 have hroomI:(F_:Int)=17179869184:=rfl
 have e1:decide ((n:Int)<0)=false:=Hp (by omega)
 have e2:decide ((n:Int)>8160)=false:=by simp;omega
 have e3:P2 0 (wrap .i64 ((n:Int)+32))=true:=by
   rw[wrap64 (by omega)];unfold P2;simp[hroomI];omega
 rw[e1,e2,e3]
 simp only[Hn,Hm]
 obtain⟨T,hT⟩:∃T,T=Wf key info:=⟨_,rfl⟩
 obtain⟨O,hO⟩:∃O,O=WD key info:=⟨_,rfl⟩
 have hT0:T 0=[]:=by rw[hT];rfl
 have hO0:O 0=[]:=by rw[hO];rfl
 have hTS:∀i,T (i+1)=RX key (T i++info++[wrap .u8 ((i+1:Nat):Int)]):=by rw[hT];intro i;rfl
 have hOS:∀i,O (i+1)=O i++T (i+1):=by rw[hT,hO];intro i;rfl
 have hTl:∀i,(T i).length≤32:=by rw[hT];exact Df key info
 have hOl:∀i,(O i).length=32*i:=by rw[hO];exact vP key info
 rw[aY (λi=>(O i,T i,((i+1:Nat):Int))) 0 ((n+31) / 32) (r:=O ((n+31) / 32)) (by omega) ?_ (dF (by rw[hOl];simp;omega)) (by rw[hT0,hO0];rfl)]
 rotate_left
 · intro i _ hi2
   have h1:decide (((O i).length:Int)<(n:Int))=true:=by rw[hOl];simp;omega
   have hl:=hTl i
   have ho:=hOl i
   have h2:P2 0 (wrap .i64 ((wrap .i64 (((T i).length:Int)+(info.length:Int)))+1))=true:=by
    rw[wrap64 (x:=((T i).length:Int)+(info.length:Int)) (by omega),wrap64 (by omega)];unfold P2;simp[hroomI];omega
   simp only[h1,h2,Hn]
   have e0:List.replicate (Int.toNat 0) (0:Int)=[]:=rfl
   rw[e0,aW (by rw[hroom];simp;omega)]
   simp only[aB,HM]
   rw[aW (by omega)]
   simp only[aB]
   rw[aW (by rw[hroom];simp;omega)]
   simp only[aB]
   rw[vO hk (by simp;omega)]
   simp only[aB]
   rw[←hTS,aW (by rw[hTS,kR];omega)]
   simp only[aB]
   rw[wrap64 (by omega),←hOS];rfl
 simp only[aB]
 rw[kQ rfl (by rw[hOl];omega)]
 simp only[aB]
 rw[hO];rfl
theorem CC {key a:List Int} {n:Nat} (hn:n≤8160) (hk:key.length<2^30) (hi:a.length<2^29):f8 key a n=some (XE key a n,0):=by
 unfold f8
 have c:F_=17179869184:=rfl
 have e1:decide ((n:Int)<0)=false:=Hp (by omega)
 have e2:decide ((n:Int)>8160)=false:=by simp;omega
 rw[e1,e2]
 simp only[Hm]
 obtain⟨T,hT⟩:∃T,T=Wf key a:=⟨_,rfl⟩
 obtain⟨O,hO⟩:∃O,O=WD key a:=⟨_,rfl⟩
 have e:T 0=[]:=by rw[hT];rfl
 have f:O 0=[]:=by rw[hO];rfl
 have d:∀i,T (i+1)=RX key (T i++a++[wrap .u8 ((i+1:Nat):Int)]):=by rw[hT];intro i;rfl
 have h:∀i,O (i+1)=O i++T (i+1):=by rw[hT,hO];intro i;rfl
 have j:∀i,(T i).length≤32:=by rw[hT];exact Df key a
 have b:∀i,(O i).length=32*i:=by rw[hO];exact vP key a
 rw[aY (λi=>(O i,T i,((i+1:Nat):Int))) 0 ((n+31) / 32) (r:=O ((n+31) / 32)) (by omega) ?_ (dF (by rw[b];simp;omega)) (by rw[e,f];rfl)]
 rotate_left
 · intro i _ k
   have h1:decide (((O i).length:Int)<(n:Int))=true:=by rw[b];simp;omega
   have hl:=j i
   have ho:=b i
   simp only[h1,Hn]
   rw[aW (by rw[c];simp;omega)]
   simp only[aB,HM]
   rw[aW (by omega)]
   simp only[aB]
   rw[aW (by rw[c];simp;omega)]
   simp only[aB]
   rw[zX hk (by simp;omega)]
   simp only[aB]
   rw[←d,aW (by rw[d,kR];omega)]
   simp only[aB]
   rw[wrap64 (by omega),←h];rfl
 simp only[aB]
 rw[kQ rfl (by rw[b];omega)]
 simp only[aB]
 have e3:decide ((n:Int)≤(n:Int)∧(n:Int)≤((O ((n+31) / 32)).length:Int))=true:=by rw[b];simp;omega
 rw[e3,hO];rfl
def QC (a b c:List Int) (n:Nat):List Int:=XE (RX b a) c n
theorem wF {a b c:List Int} {z:Int} {n:Nat} (hz:z=n) (hn:n≤8160) (h1:a.length<2^30) (h2:b.length<2^30) (h3:c.length<2^29):ku a b c z=some (QC a b c n,0):=by subst hz;unfold ku mS;rw[vO h2 h1];simp only[aB];rw[CB hn (by rw[kR];omega) h3];rfl
theorem wK {a b c:List Int} {z:Int} {n:Nat} (hz:z=n) (hn:n≤8160) (h1:a.length<2^30) (h2:b.length<2^30) (h3:c.length<2^29):eX a b c z=some (QC a b c n,0):=by subst hz;unfold eX iF;rw[zX h2 h1];simp only[aB];rw[CC hn (by rw[kR];omega) h3];rfl
end Go.Proofs.YtobbmodjdkcdcaaGreatDoor
