import Derived.Test.YtobbmodjdkcdcaaGreatDoorLawPerm
set_option autoImplicit true
set_option relaxedAutoImplicit true
set_option linter.all false
set_option maxRecDepth 20000
namespace Go.Proofs.YtobbmodjdkcdcaaGreatDoor
open Go Go.Sim
open Go.IntKind (wrap)
variable [Fu]
theorem sX {α:Type} {ds:List α} {z d:α} {i m:Nat} (hi:ds.length=i):List.set (ds++List.replicate (m+1) z) i d=(ds++[d])++List.replicate m z:=by rw[←hi,J4 _ _ (HK _),JQ,Iy,Kv,HS];rfl
def i8 (n c:Nat):List Int:=(List.range c).map λj=>((n / c+(if j<n%c then 1 else 0):Nat):Int)
def jq (n c:Int):List Int×Int:=bif (((decide (n<0))||(decide (n>256)))||(decide (c<1)))||(decide (c>64)) then([],2) else(i8 n.toNat c.toNat,0)
theorem jK (n c:Nat):(i8 n c).length=c:=by simp[i8]
theorem AS (n c:Int):kY n c=some (jq n c):=by unfold kY jq;cases hc:(((decide (n<0))||(decide (n>256)))||(decide (c<1)))||(decide (c>64)) with|true=>rfl|false=>simp only[Hz,Hy] at hc;obtain⟨k,rfl⟩:∃k:Nat,n=k:=⟨n.toNat,by omega⟩;obtain⟨m,rfl⟩:∃m:Nat,c=m:=⟨c.toNat,by omega⟩;have d:decide ((m:Int)≠0)=true:=Ho (by omega);have a:k / m≤k:=J1 _ _;have b:k%m≤k:=Nat.mod_le _ _;simp only[Hq,im,wk,i8];obtain⟨dv,e⟩:∃dv,dv=k / m:=⟨_,rfl⟩;obtain⟨md,f⟩:∃md,md=k%m:=⟨_,rfl⟩;simp only[←e,←f] at a b⊢;have hw:wrap .i64 (dv:Int)=(dv:Int):=wrap64 (by omega);rw[Hm,oZ (by omega),Hn];simp only[d,Hn,Hm,J3,hw];rw[aY (s0:=(List.replicate m (0:Int),0)) (r:=(List.range m).map λj=>((dv+(if j<md then 1 else 0):Nat):Int)) (λi=>((List.range i).map (λj=>((dv+(if j<md then 1 else 0):Nat):Int))++List.replicate (m - i) (0:Int),(i:Int))) 0 m (HH _) ?_ ?_ rfl];rfl;intro i _ hi;have hd:decide ((i:Int)<(m:Int))=true:=Ho (by omega);obtain⟨q,hq⟩:∃q,m - i=q+1:=⟨m - i - 1,by omega⟩;(have h:m - (i+1)=q:=by omega);simp only[hd,Hn];rw[aJ (i:=i) rfl (by simp;omega)];simp only[aB];rw[hq,h,Hq,sX (by simp),wrap64 (x:=(i:Int)+1) (by omega)];by_cases c1:i<md;have e1:decide ((i:Int)<((md:Nat):Int))=true:=Ho (by omega);rw[e1,Hn];(have hg:((List.range i).map (λj=>((dv+(if j<md then 1 else 0):Nat):Int))++[((dv:Nat):Int)]++List.replicate q (0:Int)).getD i 0=((dv:Nat):Int):=by simp[List.getD,IC]);rw[aJ (i:=i) rfl (by simp),hg];simp only[aB];rw[wrap64 (by omega),HS,J4 _ _ (by simp)];simp only[Ji,J5,JQ,List.singleton_append,Kv];rw[←de (λj=>((dv+(if j<md then 1 else 0):Nat):Int)) i,Il c1,HS];rfl;have e1:decide ((i:Int)<((md:Nat):Int))=false:=Hp (by omega);rw[e1,Hm];simp only[aB];rw[←de (λj=>((dv+(if j<md then 1 else 0):Nat):Int)) i,Ic c1];rfl;have hd:decide ((m:Int)<(m:Int))=false:=Hp (by omega);simp only[hd,Hm,JQ,Jv,IS]
theorem jL {n c:Nat} (hn:n≤256):∀x∈i8 n c,0≤x∧x≤256:=by intro x hx;obtain⟨j,hj,rfl⟩:=H7.1 hx;(have d:0<c:=by rcases Kw c with h4|h4;subst h4;simp at hj;exact h4);have h1:=KS n c;have h2:n / c≤c*(n / c):=KA _ d;generalize n / c=a at*;generalize n%c=b at*;generalize c*a=p at*;refine⟨Int.natCast_nonneg _,?_⟩;split<;>omega
theorem pV (a b:Nat):∀c,b≤c→((List.range c).map λj=>a+(if j<b then 1 else 0)).sum=c*a+b| 0, h => by (have : b = 0 := by omega);subst this;simp|c+1,h=>by rw[Jw,Im,List.sum_append];simp only[HX,IX,Kq,List.sum_nil,JJ];by_cases hb:b≤c;rw[pV a b c hb,Ic (by omega),Ib];omega;(have d:b=c+1:=by omega);subst d;(have e:((List.range c).map λj=>a+(if j<c+1 then 1 else 0))=(List.range c).map λj=>a+(if j<c then 1 else 0):=by apply IJ;intro j hj;have:=IY.1 hj;rw[Il (by omega),Il this]);rw[e,pV a c c (HK _),Il (by omega),Ib];omega
theorem AU:∀l:List Nat,(l.map λx:Nat=>(x:Int)).sum=((l.sum:Nat):Int)|[]=>rfl|x::l=>by simp only[HX,Kq,AU l];omega
theorem wl {n c:Nat} (hc:0<c):(i8 n c).sum=n:=by (have e:i8 n c=((List.range c).map λj=>n / c+(if j<n%c then 1 else 0)).map λx:Nat=>(x:Int):=by simp[i8]);rw[e,AU,pV _ _ c (Nat.le_of_lt (KL _ hc))];have:=KS n c;omega
def iY (n:Nat):List Int:=(List.range n).map λi:Nat=>(n:Int) - (i:Int)
theorem oo (n:Nat):(iY n).length=n:=by simp[iY]
theorem zM {n:Nat} (h:n≤256):kd (n:Int)=some (iY n):=by unfold kd;by_cases h0:n=0;subst h0;rfl;(have hc:((decide ((n:Int)<1))||(decide ((n:Int)>256)))=false:=by simp;omega);rw[hc,Hm,tM (by omega),Hn];rw[aY (s0:=(List.replicate (Int.toNat 0) (0:Int),(n:Int))) (r:=iY n) (λi=>((List.range i).map λk:Nat=>(n:Int) - (k:Int),(n:Int) - (i:Int))) 0 n (HH _) ?_ ?_ ?_];rfl;intro i _ hi;have hd:decide ((n:Int) - (i:Int)≥1)=true:=Ho (by omega);simp only[hd,Hn];rw[aW (by rw[cR];simp;omega),de (λk:Nat=>(n:Int) - (k:Int)),wrap64 (by omega)];simp only[aB];congr 3;omega;have hd:decide ((n:Int) - (n:Int)≥1)=false:=Hp (by omega);simp only[hd,Hm,iY];simp
theorem qM {n:Nat} (h:n≤256):Sl (iY n)=true:=by unfold Sl;rw[eZ];intro k _ hk;rw[oo] at hk;simp[iY,List.getD,H9 (show k<n by omega),R8];omega
theorem uo {n:Nat} (h:n≤256):Sl (m8 (n:Int))=true:=by unfold Sl;rw[eZ];intro k _ hk;rw[pm] at hk;(have a:k<n - 1:=by simpa using hk);simp[m8,List.getD,H9 (show k<n - 1 by omega),R8];omega
theorem mt {l:List Int} {i:Nat} (h:i<l.length):l.getD i 0∈l:=by simp only[List.getD,H4 h,If];exact HG h
theorem iP {l:List Int} {i:Nat} (h:i<l.length):(l.take (i+1)).sum=(l.take i).sum+l.getD i 0:=by rw[HA h,List.sum_append];simp[List.getD,h]
theorem io {l:List Int} (hl:∀x∈l,0≤x∧x≤256):∀i,0≤(l.take i).sum∧(l.take i).sum≤256*i|0=>by simp|i+1=>by have ih:=io hl i;by_cases h:i<l.length;rw[iP h];have:=hl _ (mt h);omega;rw[HD (by omega)];rw[HD (by omega)] at ih;omega
theorem AV {l:List Int} (h1:1≤l.length) (h2:l.length≤64) (hl:∀x∈l,0≤x∧x≤256):lf l=some (l.sum,decide (l.sum≤256)):=by unfold lf;(have hc:((decide ((l.length:Int)<1))||(decide ((l.length:Int)>64)))=false:=by simp;omega);rw[hc,Hm];rw[aY (s0:=(0,0)) (r:=Sum.inl l.sum) (λi=>((l.take i).sum,(i:Int))) 0 l.length (HH _) ?_ ?_ rfl];rfl;intro i _ hi;have hd:decide ((i:Int)<(l.length:Int))=true:=Ho (by omega);have hr:=hl _ (mt hi);have hs:=io hl i;simp only[hd,Hn];rw[aJ rfl hi];(have hb:((decide (l.getD i 0<0))||(decide (l.getD i 0>256)))=false:=by simp only[Hz,Hy];omega);simp only[aB,hb,Hm];rw[iP hi,wrap64 (by omega),wrap64 (x:=(i:Int)+1) (by omega)];rfl;have hd:decide ((l.length:Int)<(l.length:Int))=false:=Hp (by omega);simp only[hd,Hm,HY]
def O3:List Int→Int→Nat×Int|[],d=>(0,d)|l::r,d=>bif decide (d≥l) then((O3 r (d - l)).1+1,(O3 r (d - l)).2) else(0,d)
theorem qN:∀{ls:List Int} {d:Int},(∀x∈ls,0≤x)→0≤d→d<ls.sum→(O3 ls d).1<ls.length∧0≤(O3 ls d).2∧(O3 ls d).2<ls.getD (O3 ls d).1 0|[],d,_,h0,h1=>by simp at h1;omega|l::r,d,hl,h0,h1=>by simp only[O3];by_cases c:d≥l;rw[Ho c,Hn];have:=qN (ls:=r) (d:=d - l) (λx hx=>hl x (by simp[hx])) (by omega) (by simp at h1;omega);simpa using this;rw[Hp c,Hm];simpa using⟨h0,by omega⟩
theorem ur:∀{ls:List Int} {d:Int},(∀x∈ls,0≤x)→0≤d→d<ls.sum→(O3 ls d).2≤d|[],d,_,h0,h1=>by simp at h1;omega|l::r,d,hl,h0,h1=>by simp only[O3];by_cases c:d≥l;rw[Ho c,Hn];have:=ur (ls:=r) (d:=d - l) (λx hx=>hl x (by simp[hx])) (by omega) (by simp at h1;omega);have:=hl l (by simp);show(O3 r (d - l)).2≤d;omega;rw[Hp c,Hm];exact Int.le_refl _
theorem sx {left:List Int} (hl:∀x∈left,0≤x∧x≤256) (hn:left.length≤64):∀(r pre:List Int) (d:Int),left=pre++r→0≤d→d<r.sum→d≤65536→ Loop.run (S:=(Int×Int)) (R:=(Int×Int)) (λx=>(idx left x.2).bind λx1678=>bif decide (x.1≥x1678) then (idx left x.2).bind λx1680=>some (.next (wrap .i64 (x.1 - x1680),wrap .i64 (x.2+1))) else some (.done (x.1,x.2))) (d,(pre.length:Int))=some ((O3 r d).2,((pre.length+(O3 r d).1:Nat):Int))|[],pre,d,e,h0,h1,h2=>by simp at h1;omega|l::r,pre,d,e,h0,h1,h2=>by (have hlen:pre.length<left.length:=by rw[e];simp);(have hg:left.getD pre.length 0=l:=by rw[e];simp[List.getD]);have hx:=hl l (by rw[e];simp);(have hidx:idx left (pre.length:Int)=some l:=by rw[aJ rfl hlen,hg]);simp only[O3];by_cases c:d≥l;rw[Ho c,Hn];have ih:=sx hl hn r (pre++[l]) (d - l) (by rw[e];simp) (by omega) (by simp at h1;omega) (by omega);rw[Ly (s':=(d - l,((pre++[l]).length:Int)))];rw[ih];simp;omega;simp only[hidx,aB,Ho c,Hn];rw[wrap64 (by omega),wrap64 (by omega)];simp;rw[Hp c,Hm];refine Lr ?_;simp only[hidx,aB,Hp c,Hm];rfl
def RV (left:List Int) (j:Nat):List Int:=left.set j (left.getD j 0 - 1)
def P5:List Int→List Int→List (Nat×Int)|_,[]=>[]|left,d::r=>O3 left d::P5 (RV left (O3 left d).1) r
theorem rF:∀(left ds:List Int),(P5 left ds).length=ds.length|_,[]=>rfl|left,d::r=>by simp[P5,rF _ r]
structure qt (left:List Int) (m:Nat):Prop where
 rng:∀x∈left,0≤x∧x≤256
 sum:left.sum=m
theorem F4 {l:List Int} {j:Nat} {x:Int} (h:j<l.length):(l.set j x).sum=l.sum - l.getD j 0+x:=by induction l generalizing j with|nil=>simp at h|cons y l ih=>cases j with|zero=>simp;omega|succ j=>have:=ih (j:=j) (by simpa using h);simp only[List.set_cons_succ,Kq,this];simp[List.getD];omega
theorem ND {left:List Int} {m:Nat} {d:Int} (g:qt left (m+1)) (h0:0≤d) (h1:d<((m+1:Nat):Int)):qt (RV left (O3 left d).1) m:=by have sp:=qN (λx hx=>(g.rng x hx).1) h0 (by rw[g.sum];exact h1);have hm:=g.rng _ (mt sp.1);refine⟨λx hx=>?_,?_⟩;rcases List.mem_or_eq_of_mem_set hx with h|h;exact g.rng x h;subst h;omega;unfold RV;rw[F4 sp.1,g.sum];omega
def cp (c:Nat) (ps:List (Nat×Int)):List (List Int):=(List.range c).map λj=>(ps.filter λq=>q.1==j).map (·.2)
def Ux (c:Nat) (ps:List (Nat×Int)):List Int×List Int×Int:=(ps.map λq=>(q.1:Int),(cp c ps).flatten,0)
theorem lC (c:Nat) (ps:List (Nat×Int)):(cp c ps).length=c:=by simp[cp]
theorem ot {c:Nat} {ps:List (Nat×Int)} {j:Nat} (h:j<c):(cp c ps).getD j []=(ps.filter λq=>q.1==j).map (·.2):=by simp[cp,List.getD,H9 h]
theorem sY {c:Nat} {ps:List (Nat×Int)} {q:Nat×Int} (h:q.1<c):(cp c ps).set q.1 (((ps.filter λz=>z.1==q.1).map (·.2))++[q.2])=cp c (ps++[q]):=by apply IA;simp[cp];intro j h1 h2;rw[JK];(have hj:j<c:=by simpa[cp] using h2);simp only[cp,JA,Jn,JN,Im];split;rename_i e;subst e;simp;rename_i e;(have:(q.1==j)=false:=by simpa using e);simp[this]
end Go.Proofs.YtobbmodjdkcdcaaGreatDoor
set_option maxRecDepth 20000
namespace Go.Proofs.YtobbmodjdkcdcaaGreatDoor
open Go Go.Sim
open Go.IntKind (wrap)
variable [Fu]
def iU {α X:Type} (next:Nat→X→α→Option X):Nat→X→List α→Option X
 |_,x,[]=>some x
 |i,x,a::r=>match next i x a with
  |none=>none
  |some y=>iU next (i+1) y r
theorem mY {α X S R:Type} {step:S→Option (Qp S R)} {s0:S} (st:Nat→X→S) (next:Nat→X→α→Option X) (l:List α) (I:Nat→List α→X→Prop) (fin:X→R) (bad:R)
  (h:∀i a r x,l.drop i=a::r→i<l.length→l[i]? =some a→I i (a::r) x→(next i x a=none→step (st i x)=some (.done bad))∧(∀y,next i x a=some y→step (st i x)=some (.next (st (i+1) y))∧I (i+1) r y))
  (hn:∀x,I l.length [] x→step (st l.length x)=some (.done (fin x))) (x0:X) (hI:I 0 l x0) (h0:s0=st 0 x0):
  Loop.run step s0=some (match iU next 0 x0 l with|some x=>fin x|none=>bad)∧(∀x,iU next 0 x0 l=some x→I l.length [] x):=by
 subst h0
 have key:∀(r:List α) (i:Nat) (x:X),l.drop i=r→i≤l.length→I i r x→Loop.run step (st i x)=some (match iU next i x r with|some x=>fin x|none=>bad)∧(∀y,iU next i x r=some y→I l.length [] y):=by
  intro r
  induction r with
  |nil=>
   intro i x hd hi hI
   have:i=l.length:=by
    have:=congrArg List.length hd
    simp at this;omega
   subst this
   refine⟨Lr (hn x hI),λy hy=>?_⟩
   cases hy;exact hI
  |cons a r ih=>
   intro i x hd hi hI
   have hlt:i<l.length:=by
    have:=congrArg List.length hd
    simp at this;omega
   have hget:l[i]? =some a:=by
    have:=H5 (xs:=l) (i:=i) (j:=0)
    rw[hd] at this;simpa using this.symm
   have hd2:l.drop (i+1)=r:=by
    have:=Ik (i:=1) (j:=i) (l:=l)
    rw[hd] at this;rw[←this];rfl
   obtain⟨b,c⟩:=h i a r x hd hlt hget hI
   simp only[iU]
   cases hx:next i x a with
   |none=>exact⟨Lr (b hx),λy hy=>by cases hy⟩
   |some y=>
    obtain⟨c1,c2⟩:=c y hx
    rw[Ly c1]
    exact ih (i+1) y hd2 hlt c2
 exact key l 0 x0 rfl (HH _) hI
def V8 (_:Nat) (x:List (Nat×Int)×List Int) (d:Int):Option (List (Nat×Int)×List Int):=some (x.1++[O3 x.2 d],RV x.2 (O3 x.2 d).1)
theorem qO:∀(ds:List Int) (i:Nat) (pp:List (Nat×Int)) (left:List Int),∃z,iU V8 i (pp,left) ds=some (pp++P5 left ds,z)|[],i,pp,left=>⟨left,by simp[iU,P5]⟩|d::r,i,pp,left=>by obtain⟨z,hz⟩:=qO r (i+1) (pp++[O3 left d]) (RV left (O3 left d).1);exact⟨z,by simp only[iU,V8,P5];rw[hz];simp⟩
theorem qP {left:List Int} {m:Nat} {d:Int} (g:qt left (m+1)) (h0:0≤d) (h1:d<((m+1:Nat):Int)):(O3 left d).1<left.length∧0≤(O3 left d).2∧(O3 left d).2<left.getD (O3 left d).1 0:=qN (λx hx=>(g.rng x hx).1) h0 (by rw[g.sum];exact h1)
structure Yw (ds:List Int) (c n:Nat) (i:Nat) (r:List Int) (x:List (Nat×Int)×List Int):Prop where
 good:qt x.2 r.length
 len:x.2.length=c
 pp:x.1.length=i
 idx:∀q∈x.1,q.1<c
 all:i+r.length=n
def vF (n:Nat) (ds:List Int):Prop:=ds.length=n∧∀i,i<n→0≤ds.getD i 0∧ds.getD i 0<(n:Int) - (i:Int)
theorem yf {sizes ds:List Int} {n:Nat} (hc1:1≤sizes.length) (hc2:sizes.length≤64) (g:qt sizes n) (hn:n≤256) (hd:vF n ds): jD sizes ds=some (Ux sizes.length (P5 sizes ds)):=by obtain⟨hdl,hdr⟩:=hd;unfold jD;rw[AV hc1 hc2 g.rng];simp only[aB];(have e1:((!decide (sizes.sum≤256))||((ds.length:Int) != sizes.sum))=false:=by rw[g.sum];simp;omega);rw[e1,Hm,aW (by rw[cR];simp;omega)];simp only[aB,HM];rw[oZ (by omega),Hn,g.sum,Hq];generalize hc:sizes.length=c at*;obtain⟨z,hz⟩:=qO ds 0 [] sizes;rw[(mY (λ(i:Nat) (x:List (Nat×Int)×List Int)=>(x.1.map λq=>(q.1:Int),x.2,cp c x.1,(i:Int))) V8 ds (Yw ds c n) (λx=>Sum.inl (x.1.map λq=>(q.1:Int),cp c x.1)) (Sum.inr (([],[],2):List Int×List Int×Int)) ?_ ?_ ([],sizes) ⟨by rw[hdl];exact g,hc,rfl,λq hq=>(by cases hq),by simp[hdl]⟩ ?_).1];rw[hz];simp only[HM,aB];generalize hps:P5 sizes ds=ps at*;(have hpl:ps.length=n:=by rw[←hps,rF,hdl]);(have hrows:∀k,((cp c ps).take k).flatten.length≤256*k:=by intro k;induction k with|zero=>simp| succ k ih =>by_cases hk:k<(cp c ps).length;rw[HA hk,Kn,Hu];(have:((cp c ps)[k]).length≤256:=by simp only[cp,JA,Jn,Ji];exact Iq (Ii _ _) (by omega));simp only[JG,List.flatten_nil,IS];omega;rw[HD (by omega)];rw[HD (by omega)] at ih;omega);rw[aY (s0:=([],0)) (r:=(cp c ps).flatten) (λi=>(((cp c ps).take i).flatten,(i:Int))) 0 (cp c ps).length (HH _) ?_ ?_ ?_];rfl;intro i _ hi;have hd:decide ((i:Int)<((cp c ps).length:Int))=true:=Ho (by omega);have h1:=hrows i;(have h2:((cp c ps).getD i []).length≤256:=by have:(cp c ps).getD i []=(ps.filter λq=>q.1==i).map (·.2):=ot (by rw[lC] at hi;exact hi);rw[this,Ji];exact Iq (Ii _ _) (by omega));(have hi2:i<c:=by rw[lC] at hi;exact hi);simp only[hd,Hn];rw[dn (i:=i) [] rfl hi];simp only[aB];rw[aW (by rw[cR];omega),wrap64 (by omega)];simp only[aB];rw[HA hi,Kn];simp[List.getD,hi];have hd:decide (((cp c ps).length:Int)<((cp c ps).length:Int))=false:=Hp (by omega);simp only[hd,Hm,HY];simp;intro i d r x hdr2 hi hget I;refine⟨λh=>(by cases h),λy hy=>?_⟩;obtain⟨pp,left⟩:=x;cases hy;obtain⟨I1,I2,I3,I4,I5⟩:=I;simp only at I1 I2 I3 I4 I5;simp only[HL] at I1 I5;(have hdi:ds.getD i 0=d:=by simp[List.getD,hget]);have hr:=hdr i (by omega);rw[hdi] at hr;(have hd1:d<((r.length+1:Nat):Int):=by omega);have L:=qP I1 hr.1 hd1;have Lx:=ur (λx hx=>(I1.rng x hx).1) hr.1 (by rw[I1.sum];exact hd1);have hlt:decide ((i:Int)<(ds.length:Int))=true:=Ho (by omega);have hw:wrap .i64 ((n:Int) - (i:Int))=(n:Int) - (i:Int):=wrap64 (by omega);(have hg1:((decide (d<0))||(decide (d≥(n:Int) - (i:Int))))=false:=by simp only[Hz,Hy];omega);have hloc:=sx I1.rng (by omega) left [] d rfl hr.1 (by rw[I1.sum];exact hd1) (by omega);simp only[H1,HV] at hloc;rw[show(((0:Nat):Int))=0 from rfl] at hloc;have hm:=I1.rng _ (mt L.1);generalize hq:O3 left d=q at*;obtain⟨j,e⟩:=q;simp only at L Lx hm hloc;(have hfl:((pp.filter λz=>z.1==j).map (·.2)).length≤pp.length:=by rw[Ji];exact Ii _ _);refine⟨?_,?_⟩;simp only[hlt,Hn];rw[aJ rfl (by omega),hdi];simp only[aB,hw,hg1,Hm];rw[hloc];simp only[aB];rw[aJ (xs:=left) (i:=j) rfl (by omega)];simp only[aB];rw[aW (by rw[cR];simp;omega)];simp only[aB];rw[dn (xs:=cp c pp) (i:=j) [] rfl (by rw[lC];omega),ot (by omega)];simp only[aB];rw[aW (by rw[cR];simp only[HL,H1];omega)];simp only[aB,Hq];have hv:=sY (c:=c) (ps:=pp) (q:=(j,e)) (by simp only;omega);simp only at hv;rw[hv,wrap64 (x:=left.getD j 0 - 1) (by omega),wrap64 (x:=(i:Int)+1) (by omega)];simp[RV];have gs:=ND I1 hr.1 hd1;rw[hq] at gs;refine⟨gs,by simp[RV,I2],by simp[I3],λq hq2=>?_,by omega⟩;rcases HO.1 hq2 with h|h;exact I4 q h;have:=Iv.1 h;subst this;simp only;omega;intro x I;have hlt:decide ((ds.length:Int)<(ds.length:Int))=false:=Hp (by omega);simp only[hlt,Hm];simp only[IX,cp,List.filter_nil];rw[Prod.mk.injEq,Prod.mk.injEq,Prod.mk.injEq];refine⟨rfl,rfl,?_,rfl⟩;apply IA;simp;intro k h1 h2;simp
def P3 (pp:List (Nat×Int)) (j:Nat):Nat:=(pp.filter λq=>q.1==j).length
theorem yq (pp:List (Nat×Int)) (q:Nat×Int) (j:Nat):P3 (pp++[q]) j=P3 pp j+(if q.1=j then 1 else 0):=by simp only[P3,JN,Hu];by_cases h:q.1=j;simp[h];(have:(q.1==j)=false:=by simpa using h);simp[this,h]
theorem EN {left:List Int} {j k:Nat} (hj:j<left.length):(RV left j).getD k 0=left.getD k 0 - (if j=k then 1 else 0):=by simp only[RV,List.getD,KE,hj,Ks];split;rename_i h;subst h;simp[hj];simp
theorem AW {sizes:List Int} {c:Nat}:∀(ds left:List Int) (pp:List (Nat×Int)),left.length=c→(∀j,left.getD j 0=sizes.getD j 0 - (P3 pp j:Int))→qt left ds.length→vF ds.length ds→
  ∀pre q r,P5 left ds=pre++q::r→q.1<c∧(P3 (pp++pre) q.1:Int)<sizes.getD q.1 0
 |[],left,pp,_,_,_,_,pre,q,r,h=>by cases pre<;>simp[P5] at h
 |d::ds,left,pp,hl,hs,g,hd,pre,q,r,h=>by
  have hr:=hd.2 0 (by simp)
  simp only[KU,HL] at hr
  have L:=qP (m:=ds.length) g hr.1 (by omega)
  simp only[P5] at h
  cases pre with
  |nil=>
   simp only[HM,List.cons.injEq] at h
   obtain⟨rfl,_⟩:=h
   rw[IS]
   have:=hs (O3 left d).1
   exact⟨by omega,by omega⟩
  |cons p pre=>
   simp only[IM,List.cons.injEq] at h
   obtain⟨h1,h2⟩:=h
   have:=AW (sizes:=sizes) (c:=c) ds (RV left (O3 left d).1) (pp++[O3 left d]) (by rw[RV,Jy];exact hl) (λj=>by
    rw[EN L.1,yq,hs j]
    have:∀(b:Prop) [Decidable b] (x:Int) (y:Nat),x - (y:Int) - (if b then 1 else 0)=x - ((y+(if b then 1 else 0):Nat):Int):=λb _ x y=>by split<;>omega
    exact this _ _ _) (ND g hr.1 (by omega)) ⟨rfl,λi hi=>by
    have:=hd.2 (i+1) (by simp;omega)
    simp only[List.getD_cons_succ,HL] at this
    omega⟩ pre q r h2
   rw[←h1,List.append_cons]
   simpa using this
end Go.Proofs.YtobbmodjdkcdcaaGreatDoor
