import Derived.Test.YtlkjdchmeihhkaaGreatDoorLawPerm
set_option autoImplicit true
set_option relaxedAutoImplicit true
set_option linter.all false
set_option maxRecDepth 20000
namespace Go.Proofs.YtlkjdchmeihhkaaGreatDoor
open Go Go.Sim
open Go.IntKind (wrap)
variable [Fu]
theorem uF {α:Type} {ds:List α} {z d:α} {i m:Nat} (a:ds.length=i):List.set (ds++List.replicate (m+1) z) i d=(ds++[d])++List.replicate m z:=by rw[←a,Lg _ _ (IL _),KS,JD,LJ,IR];rfl
def jL (n c:Nat):List Int:=(List.range c).map λj=>((n / c+(if j<n%c then 1 else 0):Nat):Int)
def j8 (n c:Int):List Int×Int:=bif (((decide (n<0))||(decide (n>256)))||(decide (c<1)))||(decide (c>64)) then([],2) else(jL n.toNat c.toNat,0)
theorem kU (n c:Nat):(jL n c).length=c:=by simp[jL]
theorem BP (n c:Int):lJ n c=some (j8 n c):=by unfold lJ j8;cases a:(((decide (n<0))||(decide (n>256)))||(decide (c<1)))||(decide (c>64)) with|true=>rfl|false=>simp only[Iy,Iw] at a;obtain⟨k,rfl⟩:∃k:Nat,n=k:=⟨n.toNat,by omega⟩;obtain⟨m,rfl⟩:∃m:Nat,c=m:=⟨c.toNat,by omega⟩;have d:decide ((m:Int)≠0)=true:=Io (by omega);have a:k / m≤k:=Ld _ _;have b:k%m≤k:=Nat.mod_le _ _;simp only[Iq,jf,xK,jL];obtain⟨l,e⟩:∃l,l=k / m:=⟨_,rfl⟩;obtain⟨o,f⟩:∃o,o=k%m:=⟨_,rfl⟩;simp only[←e,←f] at a b⊢;have a:wrap .i64 (l:Int)=(l:Int):=wrap64 (by omega);rw[Il,pv (by omega),Im];simp only[d,Im,Il,Le,a];rw[aY (s0:=(List.replicate m (0:Int),0)) (r:=(List.range m).map λj=>((l+(if j<o then 1 else 0):Nat):Int)) (λi=>((List.range i).map (λj=>((l+(if j<o then 1 else 0):Nat):Int))++List.replicate (m - i) (0:Int),(i:Int))) 0 m (IG _) ?_ ?_ rfl];rfl;intro i _ a;have a:decide ((i:Int)<(m:Int))=true:=Io (by omega);obtain⟨q,b⟩:∃q,m - i=q+1:=⟨m - i - 1,by omega⟩;(have h:m - (i+1)=q:=by omega);simp only[a,Im];rw[aK (i:=i) rfl (by simp;omega)];simp only[aB];rw[b,h,Iq,uF (by simp),wrap64 (x:=(i:Int)+1) (by omega)];by_cases c1:i<o;have b:decide ((i:Int)<((o:Nat):Int))=true:=Io (by omega);rw[b,Im];(have d:((List.range i).map (λj=>((l+(if j<o then 1 else 0):Nat):Int))++[((l:Nat):Int)]++List.replicate q (0:Int)).getD i 0=((l:Nat):Int):=by simp[List.getD,JI]);rw[aK (i:=i) rfl (by simp),d];simp only[aB];rw[wrap64 (by omega),IR,Lg _ _ (by simp)];simp only[I8,KH,KS,List.singleton_append,LJ];rw[←cZ (λj=>((l+(if j<o then 1 else 0):Nat):Int)) i,Jm c1,IR];rfl;have b:decide ((i:Int)<((o:Nat):Int))=false:=Ip (by omega);rw[b,Il];simp only[aB];rw[←cZ (λj=>((l+(if j<o then 1 else 0):Nat):Int)) i,Jf c1];rfl;have a:decide ((m:Int)<(m:Int))=false:=Ip (by omega);simp only[a,Il,KS,Kv,JW]
theorem kV {n c:Nat} (d:n≤256):∀x∈jL n c,0≤x∧x≤256:=by intro x d;obtain⟨j,e,rfl⟩:=Jd.1 d;(have d:0<c:=by rcases LK c with f|f;subst f;simp at e;exact f);have e:=L5 n c;have e:n / c≤c*(n / c):=LN _ d;generalize n / c=a at*;generalize n%c=b at*;generalize c*a=p at*;refine⟨Int.natCast_nonneg _,?_⟩;split<;>omega
theorem qQ (a b:Nat):∀c,b≤c→((List.range c).map λj=>a+(if j<b then 1 else 0)).sum=c*a+b| 0, h => by (have : b = 0 := by omega);subst this;simp|c+1,h=>by rw[Ky,Jn,List.sum_append];simp only[IU,JT,LD,List.sum_nil,KK];by_cases d:b≤c;rw[qQ a b c d,Jf (by omega),Jk];omega;(have d:b=c+1:=by omega);subst d;(have e:((List.range c).map λj=>a+(if j<c+1 then 1 else 0))=(List.range c).map λj=>a+(if j<c then 1 else 0):=by apply JH;intro j d;have:=JY.1 d;rw[Jm (by omega),Jm this]);rw[e,qQ a c c (IL _),Jm (by omega),Jk];omega
theorem BQ:∀l:List Nat,(l.map λx:Nat=>(x:Int)).sum=((l.sum:Nat):Int)|[]=>rfl|x::l=>by simp only[IU,LD,BQ l];omega
theorem xL {n c:Nat} (a:0<c):(jL n c).sum=n:=by (have e:jL n c=((List.range c).map λj=>n / c+(if j<n%c then 1 else 0)).map λx:Nat=>(x:Int):=by simp[jL]);rw[e,BQ,qQ _ _ c (Nat.le_of_lt (L2 _ a))];have:=L5 n c;omega
def ju (n:Nat):List Int:=(List.range n).map λi:Nat=>(n:Int) - (i:Int)
theorem pS (n:Nat):(ju n).length=n:=by simp[ju]
theorem A7 {n:Nat} (h:n≤256):kT (n:Int)=some (ju n):=by unfold kT;by_cases a:n=0;subst a;rfl;(have a:((decide ((n:Int)<1))||(decide ((n:Int)>256)))=false:=by simp;omega);rw[a,Il,vg (by omega),Im];rw[aY (s0:=(List.replicate (Int.toNat 0) (0:Int),(n:Int))) (r:=ju n) (λi=>((List.range i).map λk:Nat=>(n:Int) - (k:Int),(n:Int) - (i:Int))) 0 n (IG _) ?_ ?_ ?_];rfl;intro i _ a;have a:decide ((n:Int) - (i:Int)≥1)=true:=Io (by omega);simp only[a,Im];rw[aW (by rw[cQ];simp;omega),cZ (λk:Nat=>(n:Int) - (k:Int)),wrap64 (by omega)];simp only[aB];congr 3;omega;have a:decide ((n:Int) - (n:Int)≥1)=false:=Ip (by omega);simp only[a,Il,ju];simp
theorem rL {n:Nat} (h:n≤256):Qw (ju n)=true:=by unfold Qw;rw[fv];intro k _ a;rw[pS] at a;simp[ju,List.getD,Jg (show k<n by omega),Qh];omega
theorem vO {n:Nat} (h:n≤256):Qw (nZ (n:Int))=true:=by unfold Qw;rw[fv];intro k _ b;rw[ql] at b;(have a:k<n - 1:=by simpa using b);simp[nZ,List.getD,Jg (show k<n - 1 by omega),Qh];omega
theorem ng {l:List Int} {i:Nat} (h:i<l.length):l.getD i 0∈l:=by simp only[List.getD,IW h,Jb];exact IF h
theorem jn {l:List Int} {i:Nat} (h:i<l.length):(l.take (i+1)).sum=(l.take i).sum+l.getD i 0:=by rw[IA h,List.sum_append];simp[List.getD,h]
theorem jg {l:List Int} (a:∀x∈l,0≤x∧x≤256):∀i,0≤(l.take i).sum∧(l.take i).sum≤256*i|0=>by simp|i+1=>by have b:=jg a i;by_cases h:i<l.length;rw[jn h];have:=a _ (ng h);omega;rw[ID (by omega)];rw[ID (by omega)] at b;omega
theorem BR {l:List Int} (h1:1≤l.length) (h2:l.length≤64) (a:∀x∈l,0≤x∧x≤256):lL l=some (l.sum,decide (l.sum≤256)):=by unfold lL;(have b:((decide ((l.length:Int)<1))||(decide ((l.length:Int)>64)))=false:=by simp;omega);rw[b,Il];rw[aY (s0:=(0,0)) (r:=Sum.inl l.sum) (λi=>((l.take i).sum,(i:Int))) 0 l.length (IG _) ?_ ?_ rfl];rfl;intro i _ b;have c:decide ((i:Int)<(l.length:Int))=true:=Io (by omega);have d:=a _ (ng b);have d:=jg a i;simp only[c,Im];rw[aK rfl b];(have a:((decide (l.getD i 0<0))||(decide (l.getD i 0>256)))=false:=by simp only[Iy,Iw];omega);simp only[aB,a,Il];rw[jn b,wrap64 (by omega),wrap64 (x:=(i:Int)+1) (by omega)];rfl;have c:decide ((l.length:Int)<(l.length:Int))=false:=Ip (by omega);simp only[c,Il,IY]
def f_:List Int→Int→Nat×Int|[],d=>(0,d)|l::r,d=>bif decide (d≥l) then((f_ r (d - l)).1+1,(f_ r (d - l)).2) else(0,d)
theorem rM:∀{ls:List Int} {d:Int},(∀x∈ls,0≤x)→0≤d→d<ls.sum→(f_ ls d).1<ls.length∧0≤(f_ ls d).2∧(f_ ls d).2<ls.getD (f_ ls d).1 0|[],d,_,a,b=>by simp at b;omega|l::r,d,e,a,b=>by simp only[f_];by_cases c:d≥l;rw[Io c,Im];have:=rM (ls:=r) (d:=d - l) (λx f=>e x (by simp[f])) (by omega) (by simp at b;omega);simpa using this;rw[Ip c,Il];simpa using⟨a,by omega⟩
theorem vP:∀{ls:List Int} {d:Int},(∀x∈ls,0≤x)→0≤d→d<ls.sum→(f_ ls d).2≤d|[],d,_,a,b=>by simp at b;omega|l::r,d,e,a,b=>by simp only[f_];by_cases c:d≥l;rw[Io c,Im];have:=vP (ls:=r) (d:=d - l) (λx a=>e x (by simp[a])) (by omega) (by simp at b;omega);have:=e l (by simp);show(f_ r (d - l)).2≤d;omega;rw[Ip c,Il];exact Int.le_refl _
theorem tx {left:List Int} (a:∀x∈left,0≤x∧x≤256) (b:left.length≤64):∀(r f:List Int) (d:Int),left=f++r→0≤d→d<r.sum→d≤65536→ Loop.run (S:=(Int×Int)) (R:=(Int×Int)) (λx=>(idx left x.2).bind λc=>bif decide (x.1≥c) then (idx left x.2).bind λc=>some (.next (wrap .i64 (x.1 - c),wrap .i64 (x.2+1))) else some (.done (x.1,x.2))) (d,(f.length:Int))=some ((f_ r d).2,((f.length+(f_ r d).1:Nat):Int))|[],f,d,e,c,h,i=>by simp at h;omega|l::r,f,d,e,c,h,i=>by (have c:f.length<left.length:=by rw[e];simp);(have i:left.getD f.length 0=l:=by rw[e];simp[List.getD]);have j:=a l (by rw[e];simp);(have j:idx left (f.length:Int)=some l:=by rw[aK rfl c,i]);simp only[f_];by_cases c:d≥l;rw[Io c,Im];have i:=tx a b r (f++[l]) (d - l) (by rw[e];simp) (by omega) (by simp at h;omega) (by omega);rw[My (s':=(d - l,((f++[l]).length:Int)))];rw[i];simp;omega;simp only[j,aB,Io c,Im];rw[wrap64 (by omega),wrap64 (by omega)];simp;rw[Ip c,Il];refine Mp ?_;simp only[j,aB,Ip c,Il];rfl
def Qb (left:List Int) (j:Nat):List Int:=left.set j (left.getD j 0 - 1)
def q0:List Int→List Int→List (Nat×Int)|_,[]=>[]|left,d::r=>f_ left d::q0 (Qb left (f_ left d).1) r
theorem sL:∀(left ds:List Int),(q0 left ds).length=ds.length|_,[]=>rfl|left,d::r=>by simp[q0,sL _ r]
structure rr (left:List Int) (m:Nat):Prop where
 rng:∀x∈left,0≤x∧x≤256
 sum:left.sum=m
theorem Hg {l:List Int} {j:Nat} {x:Int} (h:j<l.length):(l.set j x).sum=l.sum - l.getD j 0+x:=by induction l generalizing j with|nil=>simp at h|cons y l a=>cases j with|zero=>simp;omega|succ j=>have:=a (j:=j) (by simpa using h);simp only[List.set_cons_succ,LD,this];simp[List.getD];omega
theorem OF {left:List Int} {m:Nat} {d:Int} (g:rr left (m+1)) (h0:0≤d) (h1:d<((m+1:Nat):Int)):rr (Qb left (f_ left d).1) m:=by have a:=rM (λx b=>(g.rng x b).1) h0 (by rw[g.sum];exact h1);have c:=g.rng _ (ng a.1);refine⟨λx b=>?_,?_⟩;rcases List.mem_or_eq_of_mem_set b with h|h;exact g.rng x h;subst h;omega;unfold Qb;rw[Hg a.1,g.sum];omega
def cF (c:Nat) (ps:List (Nat×Int)):List (List Int):=(List.range c).map λj=>(ps.filter λq=>q.1==j).map (·.2)
def SH (c:Nat) (ps:List (Nat×Int)):List Int×List Int×Int:=(ps.map λq=>(q.1:Int),(cF c ps).flatten,0)
theorem mm (c:Nat) (ps:List (Nat×Int)):(cF c ps).length=c:=by simp[cF]
theorem pU {c:Nat} {ps:List (Nat×Int)} {j:Nat} (h:j<c):(cF c ps).getD j []=(ps.filter λq=>q.1==j).map (·.2):=by simp[cF,List.getD,Jg h]
theorem uJ {c:Nat} {ps:List (Nat×Int)} {q:Nat×Int} (h:q.1<c):(cF c ps).set q.1 (((ps.filter λz=>z.1==q.1).map (·.2))++[q.2])=cF c (ps++[q]):=by apply Jt;simp[cF];intro j a a;rw[KA];(have b:j<c:=by simpa[cF] using a);simp only[cF,Kk,J2,KP,Jn];split;rename_i e;subst e;simp;rename_i e;(have:(q.1==j)=false:=by simpa using e);simp[this]
end Go.Proofs.YtlkjdchmeihhkaaGreatDoor
set_option maxRecDepth 20000
namespace Go.Proofs.YtlkjdchmeihhkaaGreatDoor
open Go Go.Sim
open Go.IntKind (wrap)
variable [Fu]
def jr {α X:Type} (next:Nat→X→α→Option X):Nat→X→List α→Option X
 |_,x,[]=>some x
 |i,x,a::r=>match next i x a with
  |none=>none
  |some y=>jr next (i+1) y r
theorem nU {α X S R:Type} {step:S→Option (tj S R)} {s0:S} (st:Nat→X→S) (next:Nat→X→α→Option X) (l:List α) (I:Nat→List α→X→Prop) (b:X→R) (bad:R)
  (h:∀i a r x,l.drop i=a::r→i<l.length→l[i]? =some a→I i (a::r) x→(next i x a=none→step (st i x)=some (.done bad))∧(∀y,next i x a=some y→step (st i x)=some (.next (st (i+1) y))∧I (i+1) r y))
  (c:∀x,I l.length [] x→step (st l.length x)=some (.done (b x))) (d:X) (e:I 0 l d) (h0:s0=st 0 d):
  Loop.run step s0=some (match jr next 0 d l with|some x=>b x|none=>bad)∧(∀x,jr next 0 d l=some x→I l.length [] x):=by
 subst h0
 have f:∀(r:List α) (i:Nat) (x:X),l.drop i=r→i≤l.length→I i r x→Loop.run step (st i x)=some (match jr next i x r with|some x=>b x|none=>bad)∧(∀y,jr next i x r=some y→I l.length [] y):=by
  intro r
  induction r with
  |nil=>
   intro i x j b e
   have:i=l.length:=by
    have:=congrArg List.length j
    simp at this;omega
   subst this
   refine⟨Mp (c x e),λy k=>?_⟩
   cases k;exact e
  |cons a r m=>
   intro i x j b e
   have n:i<l.length:=by
    have:=congrArg List.length j
    simp at this;omega
   have o:l[i]? =some a:=by
    have:=Jc (xs:=l) (i:=i) (j:=0)
    rw[j] at this;simpa using this.symm
   have p:l.drop (i+1)=r:=by
    have:=Js (i:=1) (j:=i) (l:=l)
    rw[j] at this;rw[←this];rfl
   obtain⟨b,c⟩:=h i a r x j n o e
   simp only[jr]
   cases j:next i x a with
   |none=>exact⟨Mp (b j),λy k=>by cases k⟩
   |some y=>
    obtain⟨c1,c2⟩:=c y j
    rw[My c1]
    exact m (i+1) y p n c2
 exact f l 0 d rfl (IG _) e
def Ue (_:Nat) (x:List (Nat×Int)×List Int) (d:Int):Option (List (Nat×Int)×List Int):=some (x.1++[f_ x.2 d],Qb x.2 (f_ x.2 d).1)
theorem rN:∀(ds:List Int) (i:Nat) (a:List (Nat×Int)) (left:List Int),∃z,jr Ue i (a,left) ds=some (a++q0 left ds,z)|[],i,a,left=>⟨left,by simp[jr,q0]⟩|d::r,i,a,left=>by obtain⟨z,b⟩:=rN r (i+1) (a++[f_ left d]) (Qb left (f_ left d).1);exact⟨z,by simp only[jr,Ue,q0];rw[b];simp⟩
theorem rO {left:List Int} {m:Nat} {d:Int} (g:rr left (m+1)) (h0:0≤d) (h1:d<((m+1:Nat):Int)):(f_ left d).1<left.length∧0≤(f_ left d).2∧(f_ left d).2<left.getD (f_ left d).1 0:=rM (λx a=>(g.rng x a).1) h0 (by rw[g.sum];exact h1)
structure WE (ds:List Int) (c n:Nat) (i:Nat) (r:List Int) (x:List (Nat×Int)×List Int):Prop where
 good:rr x.2 r.length
 len:x.2.length=c
 pp:x.1.length=i
 idx:∀q∈x.1,q.1<c
 all:i+r.length=n
def wX (n:Nat) (ds:List Int):Prop:=ds.length=n∧∀i,i<n→0≤ds.getD i 0∧ds.getD i 0<(n:Int) - (i:Int)
theorem zu {sizes ds:List Int} {n:Nat} (hc1:1≤sizes.length) (hc2:sizes.length≤64) (g:rr sizes n) (hn:n≤256) (hd:wX n ds): kg sizes ds=some (SH sizes.length (q0 sizes ds)):=by obtain⟨hdl,hdr⟩:=hd;unfold kg;rw[BR hc1 hc2 g.rng];simp only[aB];(have e1:((!decide (sizes.sum≤256))||((ds.length:Int) != sizes.sum))=false:=by rw[g.sum];simp;omega);rw[e1,Il,aW (by rw[cQ];simp;omega)];simp only[aB,IP];rw[pv (by omega),Im,g.sum,Iq];generalize hc:sizes.length=c at*;obtain⟨z,hz⟩:=rN ds 0 [] sizes;rw[(nU (λ(i:Nat) (x:List (Nat×Int)×List Int)=>(x.1.map λq=>(q.1:Int),x.2,cF c x.1,(i:Int))) Ue ds (WE ds c n) (λx=>Sum.inl (x.1.map λq=>(q.1:Int),cF c x.1)) (Sum.inr (([],[],2):List Int×List Int×Int)) ?_ ?_ ([],sizes) ⟨by rw[hdl];exact g,hc,rfl,λq hq=>(by cases hq),by simp[hdl]⟩ ?_).1];rw[hz];simp only[IP,aB];generalize hps:q0 sizes ds=ps at*;(have hpl:ps.length=n:=by rw[←hps,sL,hdl]);(have hrows:∀k,((cF c ps).take k).flatten.length≤256*k:=by intro k;induction k with|zero=>simp| succ k ih =>by_cases hk:k<(cF c ps).length;rw[IA hk,Lw,Iu];(have:((cF c ps)[k]).length≤256:=by simp only[cF,Kk,J2,I8];exact Jv (Jr _ _) (by omega));simp only[KI,List.flatten_nil,JW];omega;rw[ID (by omega)];rw[ID (by omega)] at ih;omega);rw[aY (s0:=([],0)) (r:=(cF c ps).flatten) (λi=>(((cF c ps).take i).flatten,(i:Int))) 0 (cF c ps).length (IG _) ?_ ?_ ?_];rfl;intro i _ hi;have hd:decide ((i:Int)<((cF c ps).length:Int))=true:=Io (by omega);have h1:=hrows i;(have h2:((cF c ps).getD i []).length≤256:=by have:(cF c ps).getD i []=(ps.filter λq=>q.1==i).map (·.2):=pU (by rw[mm] at hi;exact hi);rw[this,I8];exact Jv (Jr _ _) (by omega));(have hi2:i<c:=by rw[mm] at hi;exact hi);simp only[hd,Im];rw[dk (i:=i) [] rfl hi];simp only[aB];rw[aW (by rw[cQ];omega),wrap64 (by omega)];simp only[aB];rw[IA hi,Lw];simp[List.getD,hi];have hd:decide (((cF c ps).length:Int)<((cF c ps).length:Int))=false:=Ip (by omega);simp only[hd,Il,IY];simp;intro i d r x hdr2 hi hget I;refine⟨λh=>(by cases h),λy hy=>?_⟩;obtain⟨pp,left⟩:=x;cases hy;obtain⟨I1,I2,I3,I4,I5⟩:=I;simp only at I1 I2 I3 I4 I5;simp only[IN] at I1 I5;(have hdi:ds.getD i 0=d:=by simp[List.getD,hget]);have hr:=hdr i (by omega);rw[hdi] at hr;(have hd1:d<((r.length+1:Nat):Int):=by omega);have L:=rO I1 hr.1 hd1;have Lx:=vP (λx hx=>(I1.rng x hx).1) hr.1 (by rw[I1.sum];exact hd1);have hlt:decide ((i:Int)<(ds.length:Int))=true:=Io (by omega);have hw:wrap .i64 ((n:Int) - (i:Int))=(n:Int) - (i:Int):=wrap64 (by omega);(have hg1:((decide (d<0))||(decide (d≥(n:Int) - (i:Int))))=false:=by simp only[Iy,Iw];omega);have hloc:=tx I1.rng (by omega) left [] d rfl hr.1 (by rw[I1.sum];exact hd1) (by omega);simp only[I7,IX] at hloc;rw[show(((0:Nat):Int))=0 from rfl] at hloc;have hm:=I1.rng _ (ng L.1);generalize hq:f_ left d=q at*;obtain⟨j,e⟩:=q;simp only at L Lx hm hloc;(have hfl:((pp.filter λz=>z.1==j).map (·.2)).length≤pp.length:=by rw[I8];exact Jr _ _);refine⟨?_,?_⟩;simp only[hlt,Im];rw[aK rfl (by omega),hdi];simp only[aB,hw,hg1,Il];rw[hloc];simp only[aB];rw[aK (xs:=left) (i:=j) rfl (by omega)];simp only[aB];rw[aW (by rw[cQ];simp;omega)];simp only[aB];rw[dk (xs:=cF c pp) (i:=j) [] rfl (by rw[mm];omega),pU (by omega)];simp only[aB];rw[aW (by rw[cQ];simp only[IN,I7];omega)];simp only[aB,Iq];have hv:=uJ (c:=c) (ps:=pp) (q:=(j,e)) (by simp only;omega);simp only at hv;rw[hv,wrap64 (x:=left.getD j 0 - 1) (by omega),wrap64 (x:=(i:Int)+1) (by omega)];simp[Qb];have gs:=OF I1 hr.1 hd1;rw[hq] at gs;refine⟨gs,by simp[Qb,I2],by simp[I3],λq hq2=>?_,by omega⟩;rcases IK.1 hq2 with h|h;exact I4 q h;have:=Ji.1 h;subst this;simp only;omega;intro x I;have hlt:decide ((ds.length:Int)<(ds.length:Int))=false:=Ip (by omega);simp only[hlt,Il];simp only[JT,cF,List.filter_nil];rw[Prod.mk.injEq,Prod.mk.injEq,Prod.mk.injEq];refine⟨rfl,rfl,?_,rfl⟩;apply Jt;simp;intro k h1 h2;simp
def qJ (a:List (Nat×Int)) (j:Nat):Nat:=(a.filter λq=>q.1==j).length
theorem zQ (a:List (Nat×Int)) (q:Nat×Int) (j:Nat):qJ (a++[q]) j=qJ a j+(if q.1=j then 1 else 0):=by simp only[qJ,KP,Iu];by_cases h:q.1=j;simp[h];(have:(q.1==j)=false:=by simpa using h);simp[this,h]
theorem FX {left:List Int} {j k:Nat} (a:j<left.length):(Qb left j).getD k 0=left.getD k 0 - (if j=k then 1 else 0):=by simp only[Qb,List.getD,LM,a,LH];split;rename_i h;subst h;simp[a];simp
theorem BS {sizes:List Int} {c:Nat}:∀(ds left:List Int) (a:List (Nat×Int)),left.length=c→(∀j,left.getD j 0=sizes.getD j 0 - (qJ a j:Int))→rr left ds.length→wX ds.length ds→
  ∀e q r,q0 left ds=e++q::r→q.1<c∧(qJ (a++e) q.1:Int)<sizes.getD q.1 0
 |[],left,a,_,_,_,_,e,q,r,h=>by cases e<;>simp[q0] at h
 |d::ds,left,a,b,f,g,k,e,q,r,h=>by
  have i:=k.2 0 (by simp)
  simp only[L6,IN] at i
  have L:=rO (m:=ds.length) g i.1 (by omega)
  simp only[q0] at h
  cases e with
  |nil=>
   simp only[IP,List.cons.injEq] at h
   obtain⟨rfl,_⟩:=h
   rw[JW]
   have:=f (f_ left d).1
   exact⟨by omega,by omega⟩
  |cons p e=>
   simp only[JS,List.cons.injEq] at h
   obtain⟨l,m⟩:=h
   have:=BS (sizes:=sizes) (c:=c) ds (Qb left (f_ left d).1) (a++[f_ left d]) (by rw[Qb,Kw];exact b) (λj=>by
    rw[FX L.1,zQ,f j]
    have:∀(b:Prop) [Decidable b] (x:Int) (y:Nat),x - (y:Int) - (if b then 1 else 0)=x - ((y+(if b then 1 else 0):Nat):Int):=λb _ x y=>by split<;>omega
    exact this _ _ _) (OF g i.1 (by omega)) ⟨rfl,λi a=>by
    have:=k.2 (i+1) (by simp;omega)
    simp only[List.getD_cons_succ,IN] at this
    omega⟩ e q r m
   rw[←l,List.append_cons]
   simpa using this
end Go.Proofs.YtlkjdchmeihhkaaGreatDoor
