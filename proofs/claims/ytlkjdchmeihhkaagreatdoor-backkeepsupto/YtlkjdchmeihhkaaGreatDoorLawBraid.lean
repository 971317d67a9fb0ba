import Derived.Test.YtlkjdchmeihhkaaGreatDoorLawPerm
set_option autoImplicit true
set_option relaxedAutoImplicit true
set_option linter.all false
set_option maxRecDepth 20000
namespace Go.Proofs.YtlkjdchmeihhkaaGreatDoor
open Go Go.Sim
open Go.IntKind (wrap)
variable [Fu]
theorem Ab {α:Type} {ds:List α} {z d:α} {i m:Nat} (a:ds.length=i):List.set (ds++List.replicate (m+1) z) i d=(ds++[d])++List.replicate m z:=by rw[←a,II _ _ (GZ _),IZ,H1,IX,GW];rfl
def jd (n c:Nat):List Int:=(List.range c).map λj=>((n / c+(if j<n%c then 1 else 0):Nat):Int)
def nc (n c:Int):List Int×Int:=bif (((decide (n<0))||(decide (n>256)))||(decide (c<1)))||(decide (c>64)) then([],2) else(jd n.toNat c.toNat,0)
theorem nT (n c:Nat):(jd n c).length=c:=by simp[jd]
theorem Ac (n c:Int):jB n c=some (nc n c):=by unfold jB nc;cases a:(((decide (n<0))||(decide (n>256)))||(decide (c<1)))||(decide (c>64)) with|true=>rfl|false=>simp only[GL,GJ] at a;obtain⟨k,rfl⟩:∃k:Nat,n=k:=⟨n.toNat,by omega⟩;obtain⟨m,rfl⟩:∃m:Nat,c=m:=⟨c.toNat,by omega⟩;have d:decide ((m:Int)≠0)=true:=Gz (by omega);have a:k / m≤k:=Nat.div_le_self _ _;have b:k%m≤k:=Nat.mod_le _ _;simp only[GG,oY,D2,jd];obtain⟨l,e⟩:∃l,l=k / m:=⟨_,rfl⟩;obtain⟨o,f⟩:∃o,o=k%m:=⟨_,rfl⟩;simp only[←e,←f] at a b⊢;have a:wrap .i64 (l:Int)=(l:Int):=wrap64 (by omega);rw[Gx,pv (by omega),Gy];simp only[d,Gy,Gx,Iv,a];rw[cb (s0:=(List.replicate m (0:Int),0)) (r:=(List.range m).map λj=>((l+(if j<o then 1 else 0):Nat):Int)) (λi=>((List.range i).map (λj=>((l+(if j<o then 1 else 0):Nat):Int))++List.replicate (m - i) (0:Int),(i:Int))) 0 m (GX _) ?_ ?_ rfl];rfl;intro i _ a;have a:decide ((i:Int)<(m:Int))=true:=Gz (by omega);obtain⟨q,b⟩:∃q,m - i=q+1:=⟨m - i - 1,by omega⟩;(have h:m - (i+1)=q:=by omega);simp only[a,Gy];rw[bP (i:=i) rfl (by simp;omega)];simp only[aF];rw[b,h,GG,Ab (by simp),wrap64 (x:=(i:Int)+1) (by omega)];by_cases c1:i<o;have b:decide ((i:Int)<((o:Nat):Int))=true:=Gz (by omega);rw[b,Gy];(have d:((List.range i).map (λj=>((l+(if j<o then 1 else 0):Nat):Int))++[((l:Nat):Int)]++List.replicate q (0:Int)).getD i 0=((l:Nat):Int):=by simp[List.getD,HO]);rw[bP (i:=i) rfl (by simp),d];simp only[aF];rw[wrap64 (by omega),GW,II _ _ (by simp)];simp only[Hr,Jc,IZ,List.singleton_append,IX];rw[←fU (λj=>((l+(if j<o then 1 else 0):Nat):Int)) i,Hv c1,GW];rfl;have b:decide ((i:Int)<((o:Nat):Int))=false:=GA (by omega);rw[b,Gx];simp only[aF];rw[←fU (λj=>((l+(if j<o then 1 else 0):Nat):Int)) i,Hu c1];rfl;have a:decide ((m:Int)<(m:Int))=false:=GA (by omega);simp only[a,Gx,IZ,JV,HY]
theorem nU {n c:Nat} (d:n≤256):∀x∈jd n c,0≤x∧x≤256:=by intro x d;obtain⟨j,e,rfl⟩:=Hk.1 d;(have d:0<c:=by rcases Jw c with f|f;subst f;simp at e;exact f);have e:=Nat.div_add_mod n c;have e:n / c≤c*(n / c):=Nat.le_mul_of_pos_left _ d;generalize n / c=a at*;generalize n%c=b at*;generalize c*a=p at*;refine⟨Int.natCast_nonneg _,?_⟩;split<;>omega
theorem nV (a b:Nat):∀c,b≤c→((List.range c).map λj=>a+(if j<b then 1 else 0)).sum=c*a+b| 0, h => by (have : b = 0 := by omega);subst this;simp|c+1,h=>by rw[JR,HT,List.sum_append];simp only[G6,If,Jt,List.sum_nil,IP];by_cases d:b≤c;rw[nV a b c d,Hu (by omega),Hl];omega;(have d:b=c+1:=by omega);subst d;(have e:((List.range c).map λj=>a+(if j<c+1 then 1 else 0))=(List.range c).map λj=>a+(if j<c then 1 else 0):=by apply HE;intro j d;have:=H8.1 d;rw[Hv (by omega),Hv this]);rw[e,nV a c c (GZ _),Hv (by omega),Hl];omega
theorem Ad:∀l:List Nat,(l.map λx:Nat=>(x:Int)).sum=((l.sum:Nat):Int)|[]=>rfl|x::l=>by simp only[G6,Jt,Ad l];omega
theorem BH {n c:Nat} (a:0<c):(jd n c).sum=n:=by (have e:jd n c=((List.range c).map λj=>n / c+(if j<n%c then 1 else 0)).map λx:Nat=>(x:Int):=by simp[jd]);rw[e,Ad,nV _ _ c (Nat.le_of_lt (Nat.mod_lt _ a))];have:=Nat.div_add_mod n c;omega
def jP (n:Nat):List Int:=(List.range n).map λi:Nat=>(n:Int) - (i:Int)
theorem oZ (n:Nat):(jP n).length=n:=by simp[jP]
theorem yV {n:Nat} (h:n≤256):jc (n:Int)=some (jP n):=by unfold jc;by_cases a:n=0;subst a;rfl;(have a:((decide ((n:Int)<1))||(decide ((n:Int)>256)))=false:=by simp;omega);rw[a,Gx,zr (by omega),Gy];rw[cb (s0:=(List.replicate (Int.toNat 0) (0:Int),(n:Int))) (r:=jP n) (λi=>((List.range i).map λk:Nat=>(n:Int) - (k:Int),(n:Int) - (i:Int))) 0 n (GX _) ?_ ?_ ?_];rfl;intro i _ a;have a:decide ((n:Int) - (i:Int)≥1)=true:=Gz (by omega);simp only[a,Gy];rw[cf (by rw[fL];simp;omega),fU (λk:Nat=>(n:Int) - (k:Int)),wrap64 (by omega)];simp only[aF];congr 3;omega;have a:decide ((n:Int) - (n:Int)≥1)=false:=GA (by omega);simp only[a,Gx,jP];simp
theorem tS {n:Nat} (h:n≤256):Og (jP n)=true:=by unfold Og;rw[f9];intro k _ a;rw[oZ] at a;simp[jP,List.getD,Hz (show k<n by omega),O0];omega
theorem xm {n:Nat} (h:n≤256):Og (oy (n:Int))=true:=by unfold Og;rw[f9];intro k _ b;rw[s9] at b;(have a:k<n - 1:=by simpa using b);simp[oy,List.getD,Hz (show k<n - 1 by omega),O0];omega
theorem qc {l:List Int} {i:Nat} (h:i<l.length):l.getD i 0∈l:=by simp only[List.getD,Ho h,Hi];exact GV h
theorem nd {l:List Int} {i:Nat} (h:i<l.length):(l.take (i+1)).sum=(l.take i).sum+l.getD i 0:=by rw[GU h,List.sum_append];simp[List.getD,h]
theorem mX {l:List Int} (a:∀x∈l,0≤x∧x≤256):∀i,0≤(l.take i).sum∧(l.take i).sum≤256*i|0=>by simp|i+1=>by have b:=mX a i;by_cases h:i<l.length;rw[nd h];have:=a _ (qc h);omega;rw[GN (by omega)];rw[GN (by omega)] at b;omega
theorem Ae {l:List Int} (h1:1≤l.length) (h2:l.length≤64) (a:∀x∈l,0≤x∧x≤256):jD l=some (l.sum,decide (l.sum≤256)):=by unfold jD;(have b:((decide ((l.length:Int)<1))||(decide ((l.length:Int)>64)))=false:=by simp;omega);rw[b,Gx];rw[cb (s0:=(0,0)) (r:=Sum.inl l.sum) (λi=>((l.take i).sum,(i:Int))) 0 l.length (GX _) ?_ ?_ rfl];rfl;intro i _ b;have c:decide ((i:Int)<(l.length:Int))=true:=Gz (by omega);have d:=a _ (qc b);have d:=mX a i;simp only[c,Gy];rw[bP rfl b];(have a:((decide (l.getD i 0<0))||(decide (l.getD i 0>256)))=false:=by simp only[GL,GJ];omega);simp only[aF,a,Gx];rw[nd b,wrap64 (by omega),wrap64 (x:=(i:Int)+1) (by omega)];rfl;have c:decide ((l.length:Int)<(l.length:Int))=false:=GA (by omega);simp only[c,Gx,Hf]
def c6:List Int→Int→Nat×Int|[],d=>(0,d)|l::r,d=>bif decide (d≥l) then((c6 r (d - l)).1+1,(c6 r (d - l)).2) else(0,d)
theorem pa:∀{ls:List Int} {d:Int},(∀x∈ls,0≤x)→0≤d→d<ls.sum→(c6 ls d).1<ls.length∧0≤(c6 ls d).2∧(c6 ls d).2<ls.getD (c6 ls d).1 0|[],d,_,a,b=>by simp at b;omega|l::r,d,e,a,b=>by simp only[c6];by_cases c:d≥l;rw[Gz c,Gy];have:=pa (ls:=r) (d:=d - l) (λx f=>e x (by simp[f])) (by omega) (by simp at b;omega);simpa using this;rw[GA c,Gx];simpa using⟨a,by omega⟩
theorem xn:∀{ls:List Int} {d:Int},(∀x∈ls,0≤x)→0≤d→d<ls.sum→(c6 ls d).2≤d|[],d,_,a,b=>by simp at b;omega|l::r,d,e,a,b=>by simp only[c6];by_cases c:d≥l;rw[Gz c,Gy];have:=xn (ls:=r) (d:=d - l) (λx a=>e x (by simp[a])) (by omega) (by simp at b;omega);have:=e l (by simp);show(c6 r (d - l)).2≤d;omega;rw[GA c,Gx];exact J2 _
theorem vg {left:List Int} (a:∀x∈left,0≤x∧x≤256) (b:left.length≤64):∀(r f:List Int) (d:Int),left=f++r→0≤d→d<r.sum→d≤65536→ Loop.run (S:=(Int×Int)) (R:=(Int×Int)) (λx=>(idx left x.2).bind λc=>bif decide (x.1≥c) then (idx left x.2).bind λc=>some (.next (wrap .i64 (x.1 - c),wrap .i64 (x.2+1))) else some (.done (x.1,x.2))) (d,(f.length:Int))=some ((c6 r d).2,((f.length+(c6 r d).1:Nat):Int))|[],f,d,e,c,h,i=>by simp at h;omega|l::r,f,d,e,c,h,i=>by (have c:f.length<left.length:=by rw[e];simp);(have i:left.getD f.length 0=l:=by rw[e];simp[List.getD]);have j:=a l (by rw[e];simp);(have j:idx left (f.length:Int)=some l:=by rw[bP rfl c,i]);simp only[c6];by_cases c:d≥l;rw[Gz c,Gy];have i:=vg a b r (f++[l]) (d - l) (by rw[e];simp) (by omega) (by simp at h;omega) (by omega);rw[Kx (s':=(d - l,((f++[l]).length:Int)))];rw[i];simp;omega;simp only[j,aF,Gz c,Gy];rw[wrap64 (by omega),wrap64 (by omega)];simp;rw[GA c,Gx];refine Km ?_;simp only[j,aF,GA c,Gx];rfl
def yD (left:List Int) (j:Nat):List Int:=left.set j (left.getD j 0 - 1)
def pM:List Int→List Int→List (Nat×Int)|_,[]=>[]|left,d::r=>c6 left d::pM (yD left (c6 left d).1) r
theorem sR:∀(left ds:List Int),(pM left ds).length=ds.length|_,[]=>rfl|left,d::r=>by simp[pM,sR _ r]
structure qt (left:List Int) (m:Nat):Prop where
 rng:∀x∈left,0≤x∧x≤256
 sum:left.sum=m
theorem Fk {l:List Int} {j:Nat} {x:Int} (h:j<l.length):(l.set j x).sum=l.sum - l.getD j 0+x:=by induction l generalizing j with|nil=>simp at h|cons y l a=>cases j with|zero=>simp;omega|succ j=>have:=a (j:=j) (by simpa using h);simp only[List.set_cons_succ,Jt,this];simp[List.getD];omega
theorem Nu {left:List Int} {m:Nat} {d:Int} (g:qt left (m+1)) (h0:0≤d) (h1:d<((m+1:Nat):Int)):qt (yD left (c6 left d).1) m:=by have a:=pa (λx b=>(g.rng x b).1) h0 (by rw[g.sum];exact h1);have c:=g.rng _ (qc a.1);refine⟨λx b=>?_,?_⟩;rcases List.mem_or_eq_of_mem_set b with h|h;exact g.rng x h;subst h;omega;unfold yD;rw[Fk a.1,g.sum];omega
def eu (c:Nat) (ps:List (Nat×Int)):List (List Int):=(List.range c).map λj=>(ps.filter λq=>q.1==j).map (·.2)
def Q1 (c:Nat) (ps:List (Nat×Int)):List Int×List Int×Int:=(ps.map λq=>(q.1:Int),(eu c ps).flatten,0)
theorem pc (c:Nat) (ps:List (Nat×Int)):(eu c ps).length=c:=by simp[eu]
theorem tT {c:Nat} {ps:List (Nat×Int)} {j:Nat} (h:j<c):(eu c ps).getD j []=(ps.filter λq=>q.1==j).map (·.2):=by simp[eu,List.getD,Hz h]
theorem yW {c:Nat} {ps:List (Nat×Int)} {q:Nat×Int} (h:q.1<c):(eu c ps).set q.1 (((ps.filter λz=>z.1==q.1).map (·.2))++[q.2])=eu c (ps++[q]):=by apply He;simp[eu];intro j a a;rw[Ie];(have b:j<c:=by simpa[eu] using a);simp only[eu,H0,HQ,List.filter_append,HT];split;rename_i e;subst e;simp;rename_i e;(have:(q.1==j)=false:=by simpa using e);simp[this]
end Go.Proofs.YtlkjdchmeihhkaaGreatDoor
set_option maxRecDepth 20000
namespace Go.Proofs.YtlkjdchmeihhkaaGreatDoor
open Go Go.Sim
open Go.IntKind (wrap)
variable [Fu]
def jG {α X:Type} (next:Nat→X→α→Option X):Nat→X→List α→Option X
 |_,x,[]=>some x
 |i,x,a::r=>match next i x a with
  |none=>none
  |some y=>jG next (i+1) y r
theorem rQ {α X S R:Type} {step:S→Option (md S R)} {s0:S} (st:Nat→X→S) (next:Nat→X→α→Option X) (l:List α) (I:Nat→List α→X→Prop) (b:X→R) (bad:R)
  (h:∀i a r x,l.drop i=a::r→i<l.length→l[i]? =some a→I i (a::r) x→(next i x a=none→step (st i x)=some (.done bad))∧(∀y,next i x a=some y→step (st i x)=some (.next (st (i+1) y))∧I (i+1) r y))
  (c:∀x,I l.length [] x→step (st l.length x)=some (.done (b x))) (d:X) (e:I 0 l d) (h0:s0=st 0 d):
  Loop.run step s0=some (match jG next 0 d l with|some x=>b x|none=>bad)∧(∀x,jG next 0 d l=some x→I l.length [] x):=by
 subst h0
 have f:∀(r:List α) (i:Nat) (x:X),l.drop i=r→i≤l.length→I i r x→Loop.run step (st i x)=some (match jG next i x r with|some x=>b x|none=>bad)∧(∀y,jG next i x r=some y→I l.length [] y):=by
  intro r
  induction r with
  |nil=>
   intro i x j b e
   have:i=l.length:=by
    have:=congrArg List.length j
    simp at this;omega
   subst this
   refine⟨Km (c x e),λy k=>?_⟩
   cases k;exact e
  |cons a r m=>
   intro i x j b e
   have n:i<l.length:=by
    have:=congrArg List.length j
    simp at this;omega
   have o:l[i]? =some a:=by
    have:=HC (xs:=l) (i:=i) (j:=0)
    rw[j] at this;simpa using this.symm
   have p:l.drop (i+1)=r:=by
    have:=HN (i:=1) (j:=i) (l:=l)
    rw[j] at this;rw[←this];rfl
   obtain⟨b,c⟩:=h i a r x j n o e
   simp only[jG]
   cases j:next i x a with
   |none=>exact⟨Km (b j),λy k=>by cases k⟩
   |some y=>
    obtain⟨c1,c2⟩:=c y j
    rw[Kx c1]
    exact m (i+1) y p n c2
 exact f l 0 d rfl (GX _) e
def Sh (_:Nat) (x:List (Nat×Int)×List Int) (d:Int):Option (List (Nat×Int)×List Int):=some (x.1++[c6 x.2 d],yD x.2 (c6 x.2 d).1)
theorem tU:∀(ds:List Int) (i:Nat) (a:List (Nat×Int)) (left:List Int),∃z,jG Sh i (a,left) ds=some (a++pM left ds,z)|[],i,a,left=>⟨left,by simp[jG,pM]⟩|d::r,i,a,left=>by obtain⟨z,b⟩:=tU r (i+1) (a++[c6 left d]) (yD left (c6 left d).1);exact⟨z,by simp only[jG,Sh,pM];rw[b];simp⟩
theorem tW {left:List Int} {m:Nat} {d:Int} (g:qt left (m+1)) (h0:0≤d) (h1:d<((m+1:Nat):Int)):(c6 left d).1<left.length∧0≤(c6 left d).2∧(c6 left d).2<left.getD (c6 left d).1 0:=pa (λx a=>(g.rng x a).1) h0 (by rw[g.sum];exact h1)
structure Ve (ds:List Int) (c n:Nat) (i:Nat) (r:List Int) (x:List (Nat×Int)×List Int):Prop where
 good:qt x.2 r.length
 len:x.2.length=c
 pp:x.1.length=i
 idx:∀q∈x.1,q.1<c
 all:i+r.length=n
def yX (n:Nat) (ds:List Int):Prop:=ds.length=n∧∀i,i<n→0≤ds.getD i 0∧ds.getD i 0<(n:Int) - (i:Int)
theorem w9 {sizes ds:List Int} {n:Nat} (hc1:1≤sizes.length) (hc2:sizes.length≤64) (g:qt sizes n) (hn:n≤256) (hd:yX n ds): iQ sizes ds=some (Q1 sizes.length (pM sizes ds)):=by obtain⟨hdl,hdr⟩:=hd;unfold iQ;rw[Ae hc1 hc2 g.rng];simp only[aF];(have e1:((!decide (sizes.sum≤256))||((ds.length:Int) != sizes.sum))=false:=by rw[g.sum];simp;omega);rw[e1,Gx,cf (by rw[fL];simp;omega)];simp only[aF,GS];rw[pv (by omega),Gy,g.sum,GG];generalize hc:sizes.length=c at*;obtain⟨z,hz⟩:=tU ds 0 [] sizes;rw[(rQ (λ(i:Nat) (x:List (Nat×Int)×List Int)=>(x.1.map λq=>(q.1:Int),x.2,eu c x.1,(i:Int))) Sh ds (Ve ds c n) (λx=>Sum.inl (x.1.map λq=>(q.1:Int),eu c x.1)) (Sum.inr (([],[],2):List Int×List Int×Int)) ?_ ?_ ([],sizes) ⟨by rw[hdl];exact g,hc,rfl,λq hq=>(by cases hq),by simp[hdl]⟩ ?_).1];rw[hz];simp only[GS,aF];generalize hps:pM sizes ds=ps at*;(have hpl:ps.length=n:=by rw[←hps,sR,hdl]);(have hrows:∀k,((eu c ps).take k).flatten.length≤256*k:=by intro k;induction k with|zero=>simp| succ k ih =>by_cases hk:k<(eu c ps).length;rw[GU hk,List.flatten_append,GD];(have:((eu c ps)[k]).length≤256:=by simp only[eu,H0,HQ,Hr];exact Ic (H2 _ _) (by omega));simp only[I9,List.flatten_nil,HY];omega;rw[GN (by omega)];rw[GN (by omega)] at ih;omega);rw[cb (s0:=([],0)) (r:=(eu c ps).flatten) (λi=>(((eu c ps).take i).flatten,(i:Int))) 0 (eu c ps).length (GX _) ?_ ?_ ?_];rfl;intro i _ hi;have hd:decide ((i:Int)<((eu c ps).length:Int))=true:=Gz (by omega);have h1:=hrows i;(have h2:((eu c ps).getD i []).length≤256:=by have:(eu c ps).getD i []=(ps.filter λq=>q.1==i).map (·.2):=tT (by rw[pc] at hi;exact hi);rw[this,Hr];exact Ic (H2 _ _) (by omega));(have hi2:i<c:=by rw[pc] at hi;exact hi);simp only[hd,Gy];rw[dV (i:=i) [] rfl hi];simp only[aF];rw[cf (by rw[fL];omega),wrap64 (by omega)];simp only[aF];rw[GU hi,List.flatten_append];simp[List.getD,hi];have hd:decide (((eu c ps).length:Int)<((eu c ps).length:Int))=false:=GA (by omega);simp only[hd,Gx,Hf];simp;intro i d r x hdr2 hi hget I;refine⟨λh=>(by cases h),λy hy=>?_⟩;obtain⟨pp,left⟩:=x;cases hy;obtain⟨I1,I2,I3,I4,I5⟩:=I;simp only at I1 I2 I3 I4 I5;simp only[GT] at I1 I5;(have hdi:ds.getD i 0=d:=by simp[List.getD,hget]);have hr:=hdr i (by omega);rw[hdi] at hr;(have hd1:d<((r.length+1:Nat):Int):=by omega);have L:=tW I1 hr.1 hd1;have Lx:=xn (λx hx=>(I1.rng x hx).1) hr.1 (by rw[I1.sum];exact hd1);have hlt:decide ((i:Int)<(ds.length:Int))=true:=Gz (by omega);have hw:wrap .i64 ((n:Int) - (i:Int))=(n:Int) - (i:Int):=wrap64 (by omega);(have hg1:((decide (d<0))||(decide (d≥(n:Int) - (i:Int))))=false:=by simp only[GL,GJ];omega);have hloc:=vg I1.rng (by omega) left [] d rfl hr.1 (by rw[I1.sum];exact hd1) (by omega);simp only[Ha,G5] at hloc;rw[show(((0:Nat):Int))=0 from rfl] at hloc;have hm:=I1.rng _ (qc L.1);generalize hq:c6 left d=q at*;obtain⟨j,e⟩:=q;simp only at L Lx hm hloc;(have hfl:((pp.filter λz=>z.1==j).map (·.2)).length≤pp.length:=by rw[Hr];exact H2 _ _);refine⟨?_,?_⟩;simp only[hlt,Gy];rw[bP rfl (by omega),hdi];simp only[aF,hw,hg1,Gx];rw[hloc];simp only[aF];rw[bP (xs:=left) (i:=j) rfl (by omega)];simp only[aF];rw[cf (by rw[fL];simp;omega)];simp only[aF];rw[dV (xs:=eu c pp) (i:=j) [] rfl (by rw[pc];omega),tT (by omega)];simp only[aF];rw[cf (by rw[fL];simp only[GT,Ha];omega)];simp only[aF,GG];have hv:=yW (c:=c) (ps:=pp) (q:=(j,e)) (by simp only;omega);simp only at hv;rw[hv,wrap64 (x:=left.getD j 0 - 1) (by omega),wrap64 (x:=(i:Int)+1) (by omega)];simp[yD];have gs:=Nu I1 hr.1 hd1;rw[hq] at gs;refine⟨gs,by simp[yD,I2],by simp[I3],λq hq2=>?_,by omega⟩;rcases G3.1 hq2 with h|h;exact I4 q h;have:=Hp.1 h;subst this;simp only;omega;intro x I;have hlt:decide ((ds.length:Int)<(ds.length:Int))=false:=GA (by omega);simp only[hlt,Gx];simp only[If,eu,List.filter_nil];rw[Prod.mk.injEq,Prod.mk.injEq,Prod.mk.injEq];refine⟨rfl,rfl,?_,rfl⟩;apply He;simp;intro k h1 h2;simp
def q7 (a:List (Nat×Int)) (j:Nat):Nat:=(a.filter λq=>q.1==j).length
theorem xo (a:List (Nat×Int)) (q:Nat×Int) (j:Nat):q7 (a++[q]) j=q7 a j+(if q.1=j then 1 else 0):=by simp only[q7,List.filter_append,GD];by_cases h:q.1=j;simp[h];(have:(q.1==j)=false:=by simpa using h);simp[this,h]
theorem D4 {left:List Int} {j k:Nat} (a:j<left.length):(yD left j).getD k 0=left.getD k 0 - (if j=k then 1 else 0):=by simp only[yD,List.getD,List.getElem?_set,a,JJ];split;rename_i h;subst h;simp[a];simp
theorem Af {sizes:List Int} {c:Nat}:∀(ds left:List Int) (a:List (Nat×Int)),left.length=c→(∀j,left.getD j 0=sizes.getD j 0 - (q7 a j:Int))→qt left ds.length→yX ds.length ds→
  ∀e q r,pM left ds=e++q::r→q.1<c∧(q7 (a++e) q.1:Int)<sizes.getD q.1 0
 |[],left,a,_,_,_,_,e,q,r,h=>by cases e<;>simp[pM] at h
 |d::ds,left,a,b,f,g,k,e,q,r,h=>by
  have i:=k.2 0 (by simp)
  simp only[JU,GT] at i
  have L:=tW (m:=ds.length) g i.1 (by omega)
  simp only[pM] at h
  cases e with
  |nil=>
   simp only[GS,List.cons.injEq] at h
   obtain⟨rfl,_⟩:=h
   rw[HY]
   have:=f (c6 left d).1
   exact⟨by omega,by omega⟩
  |cons p e=>
   simp only[HU,List.cons.injEq] at h
   obtain⟨l,m⟩:=h
   have:=Af (sizes:=sizes) (c:=c) ds (yD left (c6 left d).1) (a++[c6 left d]) (by rw[yD,IA];exact b) (λj=>by
    rw[D4 L.1,xo,f j]
    have:∀(b:Prop) [Decidable b] (x:Int) (y:Nat),x - (y:Int) - (if b then 1 else 0)=x - ((y+(if b then 1 else 0):Nat):Int):=λb _ x y=>by split<;>omega
    exact this _ _ _) (Nu g i.1 (by omega)) ⟨rfl,λi a=>by
    have:=k.2 (i+1) (by simp;omega)
    simp only[List.getD_cons_succ,GT] at this
    omega⟩ e q r m
   rw[←l,List.append_cons]
   simpa using this
end Go.Proofs.YtlkjdchmeihhkaaGreatDoor
