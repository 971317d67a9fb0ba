import Derived.Test.YtobbmodjdkcdcaaGreatDoorLawPerm
set_option linter.all false
set_option maxRecDepth 20000
namespace Go.Proofs.YtobbmodjdkcdcaaGreatDoor
open Go Go.Sim
variable [Fu]
theorem yN {α:Type} {ds:List α} {z d:α} {i m:Nat} (hi:ds.length=i):List.set (ds++List.replicate (m+1) z) i d=(ds++[d])++List.replicate m z:=by rw[←hi,Ih _ _ (F9 _),Iu,GU,IK,F6];rfl
def iA (n c:Nat):List Int:=(List.range c).map λj=>((n / c+(if j<n%c then 1 else 0):Nat):Int)
def mQ (n c:Int):List Int×Int:=bif (((decide (n<0))||(decide (n>256)))||(decide (c<1)))||(decide (c>64)) then([],2) else(iA n.toNat c.toNat,0)
theorem np (n c:Nat):(iA n c).length=c:=by simp[iA]
theorem yO (n c:Int):jr n c=some (mQ n c):=by unfold jr mQ;cases hc:(((decide (n<0))||(decide (n>256)))||(decide (c<1)))||(decide (c>64)) with|true=>rfl|false=>simp only[FU,FW] at hc;obtain⟨k,rfl⟩:∃k:Nat,n=k:=⟨n.toNat,by omega⟩;obtain⟨m,rfl⟩:∃m:Nat,c=m:=⟨c.toNat,by omega⟩;have hne:decide ((m:Int)≠0)=true:=FK (by omega);have hdiv:k / m≤k:=Nat.div_le_self _ _;have hmod:k%m≤k:=Nat.mod_le _ _;simp only[FP,ot,C7,iA];obtain⟨dv,hdv⟩:∃dv,dv=k / m:=⟨_,rfl⟩;obtain⟨md,hmd⟩:∃md,md=k%m:=⟨_,rfl⟩;simp only[←hdv,←hmd] at hdiv hmod⊢;have hw:IntKind.wrap .i64 (dv:Int)=(dv:Int):=wrap64 (by omega);rw[FI,oU (by omega),FJ];simp only[hne,FJ,FI,Ig,hw];rw[aP (s0:=(List.replicate m (0:Int),0)) (r:=(List.range m).map λj=>((dv+(if j<md then 1 else 0):Nat):Int)) (λi=>((List.range i).map (λj=>((dv+(if j<md then 1 else 0):Nat):Int))++List.replicate (m - i) (0:Int),(i:Int))) 0 m (Gi _) ?_ ?_ rfl];rfl;intro i _ hi;have hd:decide ((i:Int)<(m:Int))=true:=FK (by omega);obtain⟨q,hq⟩:∃q,m - i=q+1:=⟨m - i - 1,by omega⟩;(have hq2:m - (i+1)=q:=by omega);simp only[hd,FJ];rw[ar (i:=i) rfl (by simp;omega)];simp only[ab];rw[hq,hq2,FP,yN (by simp),wrap64 (x:=(i:Int)+1) (by omega)];by_cases c1:i<md;have e1:decide ((i:Int)<((md:Nat):Int))=true:=FK (by omega);rw[e1,FJ];(have hg:((List.range i).map (λj=>((dv+(if j<md then 1 else 0):Nat):Int))++[((dv:Nat):Int)]++List.replicate q (0:Int)).getD i 0=((dv:Nat):Int):=by simp[List.getD,G6]);rw[ar (i:=i) rfl (by simp),hg];simp only[ab];rw[wrap64 (by omega),F6,Ih _ _ (by simp)];simp only[HN,IP,Iu,List.singleton_append,IK];rw[←fj (λj=>((dv+(if j<md then 1 else 0):Nat):Int)) i,Gz c1,F6];rfl;have e1:decide ((i:Int)<((md:Nat):Int))=false:=FL (by omega);rw[e1,FI];simp only[ab];rw[←fj (λj=>((dv+(if j<md then 1 else 0):Nat):Int)) i,Gt c1];rfl;have hd:decide ((m:Int)<(m:Int))=false:=FL (by omega);simp only[hd,FI,Iu,H7,Hr]
theorem nr {n c:Nat} (hn:n≤256):∀x∈iA n c,0≤x∧x≤256:=by intro x hx;obtain⟨j,hj,rfl⟩:=Gu.1 hx;(have hcp:0<c:=by rcases IH c with h4|h4;subst h4;simp at hj;exact h4);have h1:=Nat.div_add_mod n c;have h2:n / c≤c*(n / c):=Nat.le_mul_of_pos_left _ hcp;generalize n / c=a at*;generalize n%c=b at*;generalize c*a=p at*;refine⟨Int.natCast_nonneg _,?_⟩;split<;>omega
theorem nu (a b:Nat):∀c,b≤c→((List.range c).map λj=>a+(if j<b then 1 else 0)).sum=c*a+b| 0, h => by (have : b = 0 := by omega);subst this;simp|c+1,h=>by rw[Hx,Gy,List.sum_append];simp only[Ge,Hl,ID,List.sum_nil,HQ];by_cases hb:b≤c;rw[nu a b c hb,Gt (by omega),Gx];omega;(have hbc:b=c+1:=by omega);subst hbc;(have e:((List.range c).map λj=>a+(if j<c+1 then 1 else 0))=(List.range c).map λj=>a+(if j<c then 1 else 0):=by apply G2;intro j hj;have:=GY.1 hj;rw[Gz (by omega),Gz this]);rw[e,nu a c c (F9 _),Gz (by omega),Gx];omega
theorem yP:∀l:List Nat,(l.map λx:Nat=>(x:Int)).sum=((l.sum:Nat):Int)|[]=>rfl|x::l=>by simp only[Ge,ID,yP l];omega
theorem AH {n c:Nat} (hc:0<c):(iA n c).sum=n:=by (have e:iA n c=((List.range c).map λj=>n / c+(if j<n%c then 1 else 0)).map λx:Nat=>(x:Int):=by simp[iA]);rw[e,yP,nu _ _ c (Nat.le_of_lt (I0 _ hc))];have:=Nat.div_add_mod n c;omega
def jw (n:Nat):List Int:=(List.range n).map λi:Nat=>(n:Int) - (i:Int)
theorem ou (n:Nat):(jw n).length=n:=by simp[jw]
theorem xo {n:Nat} (h:n≤256):iS (n:Int)=some (jw n):=by unfold iS;by_cases h0:n=0;subst h0;rfl;(have hc:((decide ((n:Int)<1))||(decide ((n:Int)>256)))=false:=by simp;omega);rw[hc,FI,xX (by omega),FJ];rw[aP (s0:=(List.replicate (Int.toNat 0) (0:Int),(n:Int))) (r:=jw n) (λi=>((List.range i).map λk:Nat=>(n:Int) - (k:Int),(n:Int) - (i:Int))) 0 n (Gi _) ?_ ?_ ?_];rfl;intro i _ hi;have hd:decide ((n:Int) - (i:Int)≥1)=true:=FK (by omega);simp only[hd,FJ];rw[aQ (by rw[dq];simp;omega),fj (λk:Nat=>(n:Int) - (k:Int)),wrap64 (by omega)];simp only[ab];congr 3;omega;have hd:decide ((n:Int) - (n:Int)≥1)=false:=FL (by omega);simp only[hd,FI,jw];simp
theorem sD {n:Nat} (h:n≤256):okBs (jw n)=true:=by unfold okBs;rw[gP];intro k _ hk;rw[ou] at hk;simp[jw,List.getD,GO (show k<n by omega),isB];omega
theorem wl {n:Nat} (h:n≤256):okBs (od (n:Int))=true:=by unfold okBs;rw[gP];intro k _ hk;rw[rU] at hk;(have hk2:k<n - 1:=by simpa using hk);simp[od,List.getD,GO (show k<n - 1 by omega),isB];omega
theorem pv {l:List Int} {i:Nat} (h:i<l.length):l.getD i 0∈l:=by simp only[List.getD,GP h,GR];exact F7 h
theorem mR {l:List Int} {i:Nat} (h:i<l.length):(l.take (i+1)).sum=(l.take i).sum+l.getD i 0:=by rw[F1 h,List.sum_append];simp[List.getD,h]
theorem mt {l:List Int} (hl:∀x∈l,0≤x∧x≤256):∀i,0≤(l.take i).sum∧(l.take i).sum≤256*i|0=>by simp|i+1=>by have ih:=mt hl i;by_cases h:i<l.length;rw[mR h];have:=hl _ (pv h);omega;rw[FZ (by omega)];rw[FZ (by omega)] at ih;omega
theorem yQ {l:List Int} (h1:1≤l.length) (h2:l.length≤64) (hl:∀x∈l,0≤x∧x≤256):jt l=some (l.sum,decide (l.sum≤256)):=by unfold jt;(have hc:((decide ((l.length:Int)<1))||(decide ((l.length:Int)>64)))=false:=by simp;omega);rw[hc,FI];rw[aP (s0:=(0,0)) (r:=Sum.inl l.sum) (λi=>((l.take i).sum,(i:Int))) 0 l.length (Gi _) ?_ ?_ rfl];rfl;intro i _ hi;have hd:decide ((i:Int)<(l.length:Int))=true:=FK (by omega);have hr:=hl _ (pv hi);have hs:=mt hl i;simp only[hd,FJ];rw[ar rfl hi];(have hb:((decide (l.getD i 0<0))||(decide (l.getD i 0>256)))=false:=by simp only[FU,FW];omega);simp only[ab,hb,FI];rw[mR hi,wrap64 (by omega),wrap64 (x:=(i:Int)+1) (by omega)];rfl;have hd:decide ((l.length:Int)<(l.length:Int))=false:=FL (by omega);simp only[hd,FI,Gm]
def locate:List Int→Int→Nat×Int|[],d=>(0,d)|l::r,d=>bif decide (d≥l) then((locate r (d - l)).1+1,(locate r (d - l)).2) else(0,d)
theorem ow:∀{ls:List Int} {d:Int},(∀x∈ls,0≤x)→0≤d→d<ls.sum→(locate ls d).1<ls.length∧0≤(locate ls d).2∧(locate ls d).2<ls.getD (locate ls d).1 0|[],d,_,h0,h1=>by simp at h1;omega|l::r,d,hl,h0,h1=>by simp only[locate];by_cases c:d≥l;rw[FK c,FJ];have:=ow (ls:=r) (d:=d - l) (λx hx=>hl x (by simp[hx])) (by omega) (by simp at h1;omega);simpa using this;rw[FL c,FI];simpa using⟨h0,by omega⟩
theorem wm:∀{ls:List Int} {d:Int},(∀x∈ls,0≤x)→0≤d→d<ls.sum→(locate ls d).2≤d|[],d,_,h0,h1=>by simp at h1;omega|l::r,d,hl,h0,h1=>by simp only[locate];by_cases c:d≥l;rw[FK c,FJ];have:=wm (ls:=r) (d:=d - l) (λx hx=>hl x (by simp[hx])) (by omega) (by simp at h1;omega);have:=hl l (by simp);show(locate r (d - l)).2≤d;omega;rw[FL c,FI];exact Int.le_refl _
theorem ub {left:List Int} (hl:∀x∈left,0≤x∧x≤256) (hn:left.length≤64):∀(r pre:List Int) (d:Int),left=pre++r→0≤d→d<r.sum→d≤65536→ Loop.run (S:=(Int×Int)) (R:=(Int×Int)) (λx=>(idx left x.2).bind λx1678=>bif decide (x.1≥x1678) then (idx left x.2).bind λx1680=>some (.next (IntKind.wrap .i64 (x.1 - x1680),IntKind.wrap .i64 (x.2+1))) else some (.done (x.1,x.2))) (d,(pre.length:Int))=some ((locate r d).2,((pre.length+(locate r d).1:Nat):Int))|[],pre,d,e,h0,h1,h2=>by simp at h1;omega|l::r,pre,d,e,h0,h1,h2=>by (have hlen:pre.length<left.length:=by rw[e];simp);(have hg:left.getD pre.length 0=l:=by rw[e];simp[List.getD]);have hx:=hl l (by rw[e];simp);(have hidx:idx left (pre.length:Int)=some l:=by rw[ar rfl hlen,hg]);simp only[locate];by_cases c:d≥l;rw[FK c,FJ];have ih:=ub hl hn r (pre++[l]) (d - l) (by rw[e];simp) (by omega) (by simp at h1;omega) (by omega);rw[JB (s':=(d - l,((pre++[l]).length:Int)))];rw[ih];simp;omega;simp only[hidx,ab,FK c,FJ];rw[wrap64 (by omega),wrap64 (by omega)];simp;rw[FL c,FI];refine Jv ?_;simp only[hidx,ab,FL c,FI];rfl
def decr (left:List Int) (j:Nat):List Int:=left.set j (left.getD j 0 - 1)
def picks:List Int→List Int→List (Nat×Int)|_,[]=>[]|left,d::r=>locate left d::picks (decr left (locate left d).1) r
theorem rO:∀(left ds:List Int),(picks left ds).length=ds.length|_,[]=>rfl|left,d::r=>by simp[picks,rO _ r]
structure pV (left:List Int) (m:Nat):Prop where
 rng:∀x∈left,0≤x∧x≤256
 sum:left.sum=m
theorem Em {l:List Int} {j:Nat} {x:Int} (h:j<l.length):(l.set j x).sum=l.sum - l.getD j 0+x:=by induction l generalizing j with|nil=>simp at h|cons y l ih=>cases j with|zero=>simp;omega|succ j=>have:=ih (j:=j) (by simpa using h);simp only[List.set_cons_succ,ID,this];simp[List.getD];omega
theorem Ml {left:List Int} {m:Nat} {d:Int} (g:pV left (m+1)) (h0:0≤d) (h1:d<((m+1:Nat):Int)):pV (decr left (locate left d).1) m:=by have sp:=ow (λx hx=>(g.rng x hx).1) h0 (by rw[g.sum];exact h1);have hm:=g.rng _ (pv sp.1);refine⟨λx hx=>?_,?_⟩;rcases Iw hx with h|h;exact g.rng x h;subst h;omega;unfold decr;rw[Em sp.1,g.sum];omega
def dk (c:Nat) (ps:List (Nat×Int)):List (List Int):=(List.range c).map λj=>(ps.filter λq=>q.1==j).map (·.2)
def patR (c:Nat) (ps:List (Nat×Int)):List Int×List Int×Int:=(ps.map λq=>(q.1:Int),(dk c ps).flatten,0)
theorem ox (c:Nat) (ps:List (Nat×Int)):(dk c ps).length=c:=by simp[dk]
theorem sE {c:Nat} {ps:List (Nat×Int)} {j:Nat} (h:j<c):(dk c ps).getD j []=(ps.filter λq=>q.1==j).map (·.2):=by simp[dk,List.getD,GO h]
theorem xp {c:Nat} {ps:List (Nat×Int)} {q:Nat×Int} (h:q.1<c):(dk c ps).set q.1 (((ps.filter λz=>z.1==q.1).map (·.2))++[q.2])=dk c (ps++[q]):=by apply G3;simp[dk];intro j h1 h2;rw[HS];(have hj:j<c:=by simpa[dk] using h2);simp only[dk,HU,HE,IJ,Gy];split;rename_i e;subst e;simp;rename_i e;(have:(q.1==j)=false:=by simpa using e);simp[this]
end Go.Proofs.YtobbmodjdkcdcaaGreatDoor
set_option maxRecDepth 20000
namespace Go.Proofs.YtobbmodjdkcdcaaGreatDoor
open Go Go.Sim
variable [Fu]
def jj {α X:Type} (next:Nat→X→α→Option X):Nat→X→List α→Option X
 |_,x,[]=>some x
 |i,x,a::r=>match next i x a with
  |none=>none
  |some y=>jj next (i+1) y r
theorem oy {α X S R:Type} {step:S→Option (Ctl S R)} {s0:S} (st:Nat→X→S) (next:Nat→X→α→Option X) (l:List α) (I:Nat→List α→X→Prop) (fin:X→R) (bad:R)
  (h:∀i a r x,l.drop i=a::r→i<l.length→l[i]? =some a→I i (a::r) x→(next i x a=none→step (st i x)=some (.done bad))∧(∀y,next i x a=some y→step (st i x)=some (.next (st (i+1) y))∧I (i+1) r y))
  (hn:∀x,I l.length [] x→step (st l.length x)=some (.done (fin x))) (x0:X) (hI:I 0 l x0) (h0:s0=st 0 x0):
  Loop.run step s0=some (match jj next 0 x0 l with|some x=>fin x|none=>bad)∧(∀x,jj next 0 x0 l=some x→I l.length [] x):=by
 subst h0
 have key:∀(r:List α) (i:Nat) (x:X),l.drop i=r→i≤l.length→I i r x→Loop.run step (st i x)=some (match jj next i x r with|some x=>fin x|none=>bad)∧(∀y,jj next i x r=some y→I l.length [] y):=by
  intro r
  induction r with
  |nil=>
   intro i x hd hi hI
   have:i=l.length:=by
    have:=congrArg List.length hd
    simp at this;omega
   subst this
   refine⟨Jv (hn x hI),λy hy=>?_⟩
   cases hy;exact hI
  |cons a r ih=>
   intro i x hd hi hI
   have hlt:i<l.length:=by
    have:=congrArg List.length hd
    simp at this;omega
   have hget:l[i]? =some a:=by
    have:=Gq (xs:=l) (i:=i) (j:=0)
    rw[hd] at this;simpa using this.symm
   have hd2:l.drop (i+1)=r:=by
    have:=GI (i:=1) (j:=i) (l:=l)
    rw[hd] at this;rw[←this];rfl
   obtain⟨b,c⟩:=h i a r x hd hlt hget hI
   simp only[jj]
   cases hx:next i x a with
   |none=>exact⟨Jv (b hx),λy hy=>by cases hy⟩
   |some y=>
    obtain⟨c1,c2⟩:=c y hx
    rw[JB c1]
    exact ih (i+1) y hd2 hlt c2
 exact key l 0 x0 rfl (Gi _) hI
def patN (_:Nat) (x:List (Nat×Int)×List Int) (d:Int):Option (List (Nat×Int)×List Int):=some (x.1++[locate x.2 d],decr x.2 (locate x.2 d).1)
theorem sF:∀(ds:List Int) (i:Nat) (pp:List (Nat×Int)) (left:List Int),∃z,jj patN i (pp,left) ds=some (pp++picks left ds,z)|[],i,pp,left=>⟨left,by simp[jj,picks]⟩|d::r,i,pp,left=>by obtain⟨z,hz⟩:=sF r (i+1) (pp++[locate left d]) (decr left (locate left d).1);exact⟨z,by simp only[jj,patN,picks];rw[hz];simp⟩
theorem sG {left:List Int} {m:Nat} {d:Int} (g:pV left (m+1)) (h0:0≤d) (h1:d<((m+1:Nat):Int)):(locate left d).1<left.length∧0≤(locate left d).2∧(locate left d).2<left.getD (locate left d).1 0:=ow (λx hx=>(g.rng x hx).1) h0 (by rw[g.sum];exact h1)
structure PatI (ds:List Int) (c n:Nat) (i:Nat) (r:List Int) (x:List (Nat×Int)×List Int):Prop where
 good:pV x.2 r.length
 len:x.2.length=c
 pp:x.1.length=i
 idx:∀q∈x.1,q.1<c
 all:i+r.length=n
def xq (n:Nat) (ds:List Int):Prop:=ds.length=n∧∀i,i<n→0≤ds.getD i 0∧ds.getD i 0<(n:Int) - (i:Int)
theorem wd {sizes ds:List Int} {n:Nat} (hc1:1≤sizes.length) (hc2:sizes.length≤64) (g:pV sizes n) (hn:n≤256) (hd:xq n ds): iq sizes ds=some (patR sizes.length (picks sizes ds)):=by obtain⟨hdl,hdr⟩:=hd;unfold iq;rw[yQ hc1 hc2 g.rng];simp only[ab];(have e1:((!decide (sizes.sum≤256))||((ds.length:Int) != sizes.sum))=false:=by rw[g.sum];simp;omega);rw[e1,FI,aQ (by rw[dq];simp;omega)];simp only[ab,F8];rw[oU (by omega),FJ,g.sum,FP];generalize hc:sizes.length=c at*;obtain⟨z,hz⟩:=sF ds 0 [] sizes;rw[(oy (λ(i:Nat) (x:List (Nat×Int)×List Int)=>(x.1.map λq=>(q.1:Int),x.2,dk c x.1,(i:Int))) patN ds (PatI ds c n) (λx=>Sum.inl (x.1.map λq=>(q.1:Int),dk c x.1)) (Sum.inr (([],[],2):List Int×List Int×Int)) ?_ ?_ ([],sizes) ⟨by rw[hdl];exact g,hc,rfl,λq hq=>(by cases hq),by simp[hdl]⟩ ?_).1];rw[hz];simp only[F8,ab];generalize hps:picks sizes ds=ps at*;(have hpl:ps.length=n:=by rw[←hps,rO,hdl]);(have hrows:∀k,((dk c ps).take k).flatten.length≤256*k:=by intro k;induction k with|zero=>simp| succ k ih =>by_cases hk:k<(dk c ps).length;rw[F1 hk,List.flatten_append,FM];(have:((dk c ps)[k]).length≤256:=by simp only[dk,HU,HE,HN];exact G7 (Hc _ _) (by omega));simp only[H3,List.flatten_nil,Hr];omega;rw[FZ (by omega)];rw[FZ (by omega)] at ih;omega);rw[aP (s0:=([],0)) (r:=(dk c ps).flatten) (λi=>(((dk c ps).take i).flatten,(i:Int))) 0 (dk c ps).length (Gi _) ?_ ?_ ?_];rfl;intro i _ hi;have hd:decide ((i:Int)<((dk c ps).length:Int))=true:=FK (by omega);have h1:=hrows i;(have h2:((dk c ps).getD i []).length≤256:=by have:(dk c ps).getD i []=(ps.filter λq=>q.1==i).map (·.2):=sE (by rw[ox] at hi;exact hi);rw[this,HN];exact G7 (Hc _ _) (by omega));(have hi2:i<c:=by rw[ox] at hi;exact hi);simp only[hd,FJ];rw[du (i:=i) [] rfl hi];simp only[ab];rw[aQ (by rw[dq];omega),wrap64 (by omega)];simp only[ab];rw[F1 hi,List.flatten_append];simp[List.getD,hi];have hd:decide (((dk c ps).length:Int)<((dk c ps).length:Int))=false:=FL (by omega);simp only[hd,FI,Gm];simp;intro i d r x hdr2 hi hget I;refine⟨λh=>(by cases h),λy hy=>?_⟩;obtain⟨pp,left⟩:=x;cases hy;obtain⟨I1,I2,I3,I4,I5⟩:=I;simp only at I1 I2 I3 I4 I5;simp only[F2] at I1 I5;(have hdi:ds.getD i 0=d:=by simp[List.getD,hget]);have hr:=hdr i (by omega);rw[hdi] at hr;(have hd1:d<((r.length+1:Nat):Int):=by omega);have L:=sG I1 hr.1 hd1;have Lx:=wm (λx hx=>(I1.rng x hx).1) hr.1 (by rw[I1.sum];exact hd1);have hlt:decide ((i:Int)<(ds.length:Int))=true:=FK (by omega);have hw:IntKind.wrap .i64 ((n:Int) - (i:Int))=(n:Int) - (i:Int):=wrap64 (by omega);(have hg1:((decide (d<0))||(decide (d≥(n:Int) - (i:Int))))=false:=by simp only[FU,FW];omega);have hloc:=ub I1.rng (by omega) left [] d rfl hr.1 (by rw[I1.sum];exact hd1) (by omega);simp only[Gg,Gf] at hloc;rw[show(((0:Nat):Int))=0 from rfl] at hloc;have hm:=I1.rng _ (pv L.1);generalize hq:locate left d=q at*;obtain⟨j,e⟩:=q;simp only at L Lx hm hloc;(have hfl:((pp.filter λz=>z.1==j).map (·.2)).length≤pp.length:=by rw[HN];exact Hc _ _);refine⟨?_,?_⟩;simp only[hlt,FJ];rw[ar rfl (by omega),hdi];simp only[ab,hw,hg1,FI];rw[hloc];simp only[ab];rw[ar (xs:=left) (i:=j) rfl (by omega)];simp only[ab];rw[aQ (by rw[dq];simp;omega)];simp only[ab];rw[du (xs:=dk c pp) (i:=j) [] rfl (by rw[ox];omega),sE (by omega)];simp only[ab];rw[aQ (by rw[dq];simp only[F2,Gg];omega)];simp only[ab,FP];have hv:=xp (c:=c) (ps:=pp) (q:=(j,e)) (by simp only;omega);simp only at hv;rw[hv,wrap64 (x:=left.getD j 0 - 1) (by omega),wrap64 (x:=(i:Int)+1) (by omega)];simp[decr];have gs:=Ml I1 hr.1 hd1;rw[hq] at gs;refine⟨gs,by simp[decr,I2],by simp[I3],λq hq2=>?_,by omega⟩;rcases Gd.1 hq2 with h|h;exact I4 q h;have:=GA.1 h;subst this;simp only;omega;intro x I;have hlt:decide ((ds.length:Int)<(ds.length:Int))=false:=FL (by omega);simp only[hlt,FI];simp only[Hl,dk,List.filter_nil];rw[Prod.mk.injEq,Prod.mk.injEq,Prod.mk.injEq];refine⟨rfl,rfl,?_,rfl⟩;apply G3;simp;intro k h1 h2;simp
def cntP (pp:List (Nat×Int)) (j:Nat):Nat:=(pp.filter λq=>q.1==j).length
theorem wn (pp:List (Nat×Int)) (q:Nat×Int) (j:Nat):cntP (pp++[q]) j=cntP pp j+(if q.1=j then 1 else 0):=by simp only[cntP,IJ,FM];by_cases h:q.1=j;simp[h];(have:(q.1==j)=false:=by simpa using h);simp[this,h]
theorem C9 {left:List Int} {j k:Nat} (hj:j<left.length):(decr left j).getD k 0=left.getD k 0 - (if j=k then 1 else 0):=by simp only[decr,List.getD,List.getElem?_set,hj,IE];split;rename_i h;subst h;simp[hj];simp
theorem yR {sizes:List Int} {c:Nat}:∀(ds left:List Int) (pp:List (Nat×Int)),left.length=c→(∀j,left.getD j 0=sizes.getD j 0 - (cntP pp j:Int))→pV left ds.length→xq ds.length ds→
  ∀pre q r,picks left ds=pre++q::r→q.1<c∧(cntP (pp++pre) q.1:Int)<sizes.getD q.1 0
 |[],left,pp,_,_,_,_,pre,q,r,h=>by cases pre<;>simp[picks] at h
 |d::ds,left,pp,hl,hs,g,hd,pre,q,r,h=>by
  have hr:=hd.2 0 (by simp)
  simp only[List.getD_cons_zero,F2] at hr
  have L:=sG (m:=ds.length) g hr.1 (by omega)
  simp only[picks] at h
  cases pre with
  |nil=>
   simp only[F8,List.cons.injEq] at h
   obtain⟨rfl,_⟩:=h
   rw[Hr]
   have:=hs (locate left d).1
   exact⟨by omega,by omega⟩
  |cons p pre=>
   simp only[G5,List.cons.injEq] at h
   obtain⟨h1,h2⟩:=h
   have:=yR (sizes:=sizes) (c:=c) ds (decr left (locate left d).1) (pp++[locate left d]) (by rw[decr,H0];exact hl) (λj=>by
    rw[C9 L.1,wn,hs j]
    have:∀(b:Prop) [Decidable b] (x:Int) (y:Nat),x - (y:Int) - (if b then 1 else 0)=x - ((y+(if b then 1 else 0):Nat):Int):=λb _ x y=>by split<;>omega
    exact this _ _ _) (Ml g hr.1 (by omega)) ⟨rfl,λi hi=>by
    have:=hd.2 (i+1) (by simp;omega)
    simp only[List.getD_cons_succ,F2] at this
    omega⟩ pre q r h2
   rw[←h1,List.append_cons]
   simpa using this
end Go.Proofs.YtobbmodjdkcdcaaGreatDoor
