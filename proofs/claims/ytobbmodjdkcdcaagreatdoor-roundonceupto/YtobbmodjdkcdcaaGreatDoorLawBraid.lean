import Derived.Test.YtobbmodjdkcdcaaGreatDoorLawPerm
set_option linter.all false
set_option maxRecDepth 20000
namespace Go.Proofs.YtobbmodjdkcdcaaGreatDoor
open Go Go.Sim
variable [Fu]
theorem zh {α:Type} {ds:List α} {z d:α} {i m:Nat} (hi:ds.length=i):List.set (ds++List.replicate (m+1) z) i d=(ds++[d])++List.replicate m z:=by rw[←hi,List.set_append_right _ _ (Nat.le_refl _),Nat.sub_self,List.replicate_succ,List.set_cons_zero,List.append_assoc];rfl
def iH (n c:Nat):List Int:=(List.range c).map λj=>((n / c+(if j<n%c then 1 else 0):Nat):Int)
def kN (n c:Int):List Int×Int:=bif (((decide (n<0))||(decide (n>256)))||(decide (c<1)))||(decide (c>64)) then([],2) else(iH n.toNat c.toNat,0)
theorem kO (n c:Nat):(iH n c).length=c:=by simp[iH]
theorem zi (n c:Int):jA n c=some (kN n c):=by unfold jA kN;cases hc:(((decide (n<0))||(decide (n>256)))||(decide (c<1)))||(decide (c>64)) with|true=>rfl|false=>simp only[Bool.or_eq_false_iff,decide_eq_false_iff_not] at hc;obtain⟨k,rfl⟩:∃k:Nat,n=k:=⟨n.toNat,by omega⟩;obtain⟨m,rfl⟩:∃m:Nat,c=m:=⟨c.toNat,by omega⟩;have hne:decide ((m:Int)≠0)=true:=decide_eq_true (by omega);have hdiv:k / m≤k:=Nat.div_le_self _ _;have hmod:k%m≤k:=Nat.mod_le _ _;simp only[Int.toNat_natCast,oZ,DA,iH];obtain⟨dv,hdv⟩:∃dv,dv=k / m:=⟨_,rfl⟩;obtain⟨md,hmd⟩:∃md,md=k%m:=⟨_,rfl⟩;simp only[←hdv,←hmd] at hdiv hmod⊢;have hw:IntKind.wrap .i64 (dv:Int)=(dv:Int):=wrap64 (by omega);rw[cond_false,qM (by omega),cond_true];simp only[hne,cond_true,cond_false,List.length_replicate,hw];rw[aP (s0:=(List.replicate m (0:Int),0)) (r:=(List.range m).map λj=>((dv+(if j<md then 1 else 0):Nat):Int)) (λi=>((List.range i).map (λj=>((dv+(if j<md then 1 else 0):Nat):Int))++List.replicate (m - i) (0:Int),(i:Int))) 0 m (Nat.zero_le _) ?_ ?_ rfl];rfl;intro i _ hi;have hd:decide ((i:Int)<(m:Int))=true:=decide_eq_true (by omega);obtain⟨q,hq⟩:∃q,m - i=q+1:=⟨m - i - 1,by omega⟩;(have hq2:m - (i+1)=q:=by omega);simp only[hd,cond_true];rw[ar (i:=i) rfl (by simp;omega)];simp only[ab];rw[hq,hq2,Int.toNat_natCast,zh (by simp),wrap64 (x:=(i:Int)+1) (by omega)];by_cases c1:i<md;have e1:decide ((i:Int)<((md:Nat):Int))=true:=decide_eq_true (by omega);rw[e1,cond_true];(have hg:((List.range i).map (λj=>((dv+(if j<md then 1 else 0):Nat):Int))++[((dv:Nat):Int)]++List.replicate q (0:Int)).getD i 0=((dv:Nat):Int):=by simp[List.getD,List.getElem?_append]);rw[ar (i:=i) rfl (by simp),hg];simp only[ab];rw[wrap64 (by omega),List.append_assoc,List.set_append_right _ _ (by simp)];simp only[List.length_map,List.length_range,Nat.sub_self,List.singleton_append,List.set_cons_zero];rw[←fp (λj=>((dv+(if j<md then 1 else 0):Nat):Int)) i,if_pos c1,List.append_assoc];rfl;have e1:decide ((i:Int)<((md:Nat):Int))=false:=decide_eq_false (by omega);rw[e1,cond_false];simp only[ab];rw[←fp (λj=>((dv+(if j<md then 1 else 0):Nat):Int)) i,if_neg c1];rfl;have hd:decide ((m:Int)<(m:Int))=false:=decide_eq_false (by omega);simp only[hd,cond_false,Nat.sub_self,List.replicate_zero,List.append_nil]
theorem kP {n c:Nat} (hn:n≤256):∀x∈iH n c,0≤x∧x≤256:=by intro x hx;obtain⟨j,hj,rfl⟩:=List.mem_map.1 hx;(have hcp:0<c:=by rcases Nat.eq_zero_or_pos c with h4|h4;subst h4;simp at hj;exact h4);have h1:=Nat.div_add_mod n c;have h2:n / c≤c*(n / c):=Nat.le_mul_of_pos_left _ hcp;generalize n / c=a at*;generalize n%c=b at*;generalize c*a=p at*;refine⟨Int.natCast_nonneg _,?_⟩;split<;>omega
theorem nP (a b:Nat):∀c,b≤c→((List.range c).map λj=>a+(if j<b then 1 else 0)).sum=c*a+b| 0, h => by (have : b = 0 := by omega);subst this;simp|c+1,h=>by rw[List.range_succ,List.map_append,List.sum_append];simp only[List.map_cons,List.map_nil,List.sum_cons,List.sum_nil,Nat.add_zero];by_cases hb:b≤c;rw[nP a b c hb,if_neg (by omega),Nat.succ_mul];omega;(have hbc:b=c+1:=by omega);subst hbc;(have e:((List.range c).map λj=>a+(if j<c+1 then 1 else 0))=(List.range c).map λj=>a+(if j<c then 1 else 0):=by apply List.map_congr_left;intro j hj;have:=List.mem_range.1 hj;rw[if_pos (by omega),if_pos this]);rw[e,nP a c c (Nat.le_refl _),if_pos (by omega),Nat.succ_mul];omega
theorem zj:∀l:List Nat,(l.map λx:Nat=>(x:Int)).sum=((l.sum:Nat):Int)|[]=>rfl|x::l=>by simp only[List.map_cons,List.sum_cons,zj l];omega
theorem ur {n c:Nat} (hc:0<c):(iH n c).sum=n:=by (have e:iH n c=((List.range c).map λj=>n / c+(if j<n%c then 1 else 0)).map λx:Nat=>(x:Int):=by simp[iH]);rw[e,zj,nP _ _ c (Nat.le_of_lt (Nat.mod_lt _ hc))];have:=Nat.div_add_mod n c;omega
def jd (n:Nat):List Int:=(List.range n).map λi:Nat=>(n:Int) - (i:Int)
theorem pa (n:Nat):(jd n).length=n:=by simp[jd]
theorem xV {n:Nat} (h:n≤256):i8 (n:Int)=some (jd n):=by unfold i8;by_cases h0:n=0;subst h0;rfl;(have hc:((decide ((n:Int)<1))||(decide ((n:Int)>256)))=false:=by simp;omega);rw[hc,cond_false,yt (by omega),cond_true];rw[aP (s0:=(List.replicate (Int.toNat 0) (0:Int),(n:Int))) (r:=jd n) (λi=>((List.range i).map λk:Nat=>(n:Int) - (k:Int),(n:Int) - (i:Int))) 0 n (Nat.zero_le _) ?_ ?_ ?_];rfl;intro i _ hi;have hd:decide ((n:Int) - (i:Int)≥1)=true:=decide_eq_true (by omega);simp only[hd,cond_true];rw[aR (by rw[dk];simp;omega),fp (λk:Nat=>(n:Int) - (k:Int)),wrap64 (by omega)];simp only[ab];congr 3;omega;have hd:decide ((n:Int) - (n:Int)≥1)=false:=decide_eq_false (by omega);simp only[hd,cond_false,jd];simp
theorem sS {n:Nat} (h:n≤256):okBs (jd n)=true:=by unfold okBs;rw[eR];intro k _ hk;rw[pa] at hk;simp[jd,List.getD,List.getElem?_range (show k<n by omega),isB];omega
theorem wR {n:Nat} (h:n≤256):okBs (oP (n:Int))=true:=by unfold okBs;rw[eR];intro k _ hk;rw[sy] at hk;(have hk2:k<n - 1:=by simpa using hk);simp[oP,List.getD,List.getElem?_range (show k<n - 1 by omega),isB];omega
theorem pY {l:List Int} {i:Nat} (h:i<l.length):l.getD i 0∈l:=by simp only[List.getD,List.getElem?_eq_getElem h,Option.getD_some];exact List.getElem_mem h
theorem kZ {l:List Int} {i:Nat} (h:i<l.length):(l.take (i+1)).sum=(l.take i).sum+l.getD i 0:=by rw[List.take_succ_eq_append_getElem h,List.sum_append];simp[List.getD,h]
theorem lv {l:List Int} (hl:∀x∈l,0≤x∧x≤256):∀i,0≤(l.take i).sum∧(l.take i).sum≤256*i|0=>by simp|i+1=>by have ih:=lv hl i;by_cases h:i<l.length;rw[kZ h];have:=hl _ (pY h);omega;rw[List.take_of_length_le (by omega)];rw[List.take_of_length_le (by omega)] at ih;omega
theorem zk {l:List Int} (h1:1≤l.length) (h2:l.length≤64) (hl:∀x∈l,0≤x∧x≤256):jC l=some (l.sum,decide (l.sum≤256)):=by unfold jC;(have hc:((decide ((l.length:Int)<1))||(decide ((l.length:Int)>64)))=false:=by simp;omega);rw[hc,cond_false];rw[aP (s0:=(0,0)) (r:=Sum.inl l.sum) (λi=>((l.take i).sum,(i:Int))) 0 l.length (Nat.zero_le _) ?_ ?_ rfl];rfl;intro i _ hi;have hd:decide ((i:Int)<(l.length:Int))=true:=decide_eq_true (by omega);have hr:=hl _ (pY hi);have hs:=lv hl i;simp only[hd,cond_true];rw[ar rfl hi];(have hb:((decide (l.getD i 0<0))||(decide (l.getD i 0>256)))=false:=by simp only[Bool.or_eq_false_iff,decide_eq_false_iff_not];omega);simp only[ab,hb,cond_false];rw[kZ hi,wrap64 (by omega),wrap64 (x:=(i:Int)+1) (by omega)];rfl;have hd:decide ((l.length:Int)<(l.length:Int))=false:=decide_eq_false (by omega);simp only[hd,cond_false,List.take_length]
def locate:List Int→Int→Nat×Int|[],d=>(0,d)|l::r,d=>bif decide (d≥l) then((locate r (d - l)).1+1,(locate r (d - l)).2) else(0,d)
theorem pc:∀{ls:List Int} {d:Int},(∀x∈ls,0≤x)→0≤d→d<ls.sum→(locate ls d).1<ls.length∧0≤(locate ls d).2∧(locate ls d).2<ls.getD (locate ls d).1 0|[],d,_,h0,h1=>by simp at h1;omega|l::r,d,hl,h0,h1=>by simp only[locate];by_cases c:d≥l;rw[decide_eq_true c,cond_true];have:=pc (ls:=r) (d:=d - l) (λx hx=>hl x (by simp[hx])) (by omega) (by simp at h1;omega);simpa using this;rw[decide_eq_false c,cond_false];simpa using⟨h0,by omega⟩
theorem wS:∀{ls:List Int} {d:Int},(∀x∈ls,0≤x)→0≤d→d<ls.sum→(locate ls d).2≤d|[],d,_,h0,h1=>by simp at h1;omega|l::r,d,hl,h0,h1=>by simp only[locate];by_cases c:d≥l;rw[decide_eq_true c,cond_true];have:=wS (ls:=r) (d:=d - l) (λx hx=>hl x (by simp[hx])) (by omega) (by simp at h1;omega);have:=hl l (by simp);show(locate r (d - l)).2≤d;omega;rw[decide_eq_false c,cond_false];exact Int.le_refl _
theorem ut {left:List Int} (hl:∀x∈left,0≤x∧x≤256) (hn:left.length≤64):∀(r pre:List Int) (d:Int),left=pre++r→0≤d→d<r.sum→d≤65536→ Loop.run (S:=(Int×Int)) (R:=(Int×Int)) (λx=>(idx left x.2).bind λx1678=>bif decide (x.1≥x1678) then (idx left x.2).bind λx1680=>some (.next (IntKind.wrap .i64 (x.1 - x1680),IntKind.wrap .i64 (x.2+1))) else some (.done (x.1,x.2))) (d,(pre.length:Int))=some ((locate r d).2,((pre.length+(locate r d).1:Nat):Int))|[],pre,d,e,h0,h1,h2=>by simp at h1;omega|l::r,pre,d,e,h0,h1,h2=>by (have hlen:pre.length<left.length:=by rw[e];simp);(have hg:left.getD pre.length 0=l:=by rw[e];simp[List.getD]);have hx:=hl l (by rw[e];simp);(have hidx:idx left (pre.length:Int)=some l:=by rw[ar rfl hlen,hg]);simp only[locate];by_cases c:d≥l;rw[decide_eq_true c,cond_true];have ih:=ut hl hn r (pre++[l]) (d - l) (by rw[e];simp) (by omega) (by simp at h1;omega) (by omega);rw[Loop.run_next (s':=(d - l,((pre++[l]).length:Int)))];rw[ih];simp;omega;simp only[hidx,ab,decide_eq_true c,cond_true];rw[wrap64 (by omega),wrap64 (by omega)];simp;rw[decide_eq_false c,cond_false];refine Loop.run_done ?_;simp only[hidx,ab,decide_eq_false c,cond_false];rfl
def decr (left:List Int) (j:Nat):List Int:=left.set j (left.getD j 0 - 1)
def picks:List Int→List Int→List (Nat×Int)|_,[]=>[]|left,d::r=>locate left d::picks (decr left (locate left d).1) r
theorem so:∀(left ds:List Int),(picks left ds).length=ds.length|_,[]=>rfl|left,d::r=>by simp[picks,so _ r]
structure qn (left:List Int) (m:Nat):Prop where
 rng:∀x∈left,0≤x∧x≤256
 sum:left.sum=m
theorem EQ {l:List Int} {j:Nat} {x:Int} (h:j<l.length):(l.set j x).sum=l.sum - l.getD j 0+x:=by induction l generalizing j with|nil=>simp at h|cons y l ih=>cases j with|zero=>simp;omega|succ j=>have:=ih (j:=j) (by simpa using h);simp only[List.set_cons_succ,List.sum_cons,this];simp[List.getD];omega
theorem qn.step {left:List Int} {m:Nat} {d:Int} (g:qn left (m+1)) (h0:0≤d) (h1:d<((m+1:Nat):Int)):qn (decr left (locate left d).1) m:=by have sp:=pc (λx hx=>(g.rng x hx).1) h0 (by rw[g.sum];exact h1);have hm:=g.rng _ (pY sp.1);refine⟨λx hx=>?_,?_⟩;rcases List.mem_or_eq_of_mem_set hx with h|h;exact g.rng x h;subst h;omega;unfold decr;rw[EQ sp.1,g.sum];omega
def dj (c:Nat) (ps:List (Nat×Int)):List (List Int):=(List.range c).map λj=>(ps.filter λq=>q.1==j).map (·.2)
def patR (c:Nat) (ps:List (Nat×Int)):List Int×List Int×Int:=(ps.map λq=>(q.1:Int),(dj c ps).flatten,0)
theorem pe (c:Nat) (ps:List (Nat×Int)):(dj c ps).length=c:=by simp[dj]
theorem sT {c:Nat} {ps:List (Nat×Int)} {j:Nat} (h:j<c):(dj c ps).getD j []=(ps.filter λq=>q.1==j).map (·.2):=by simp[dj,List.getD,List.getElem?_range h]
theorem xW {c:Nat} {ps:List (Nat×Int)} {q:Nat×Int} (h:q.1<c):(dj c ps).set q.1 (((ps.filter λz=>z.1==q.1).map (·.2))++[q.2])=dj c (ps++[q]):=by apply List.ext_getElem;simp[dj];intro j h1 h2;rw[List.getElem_set];(have hj:j<c:=by simpa[dj] using h2);simp only[dj,List.getElem_map,List.getElem_range,List.filter_append,List.map_append];split;rename_i e;subst e;simp;rename_i e;(have:(q.1==j)=false:=by simpa using e);simp[this]
end Go.Proofs.YtobbmodjdkcdcaaGreatDoor
set_option maxRecDepth 20000
namespace Go.Proofs.YtobbmodjdkcdcaaGreatDoor
open Go Go.Sim
variable [Fu]
def iI {α X:Type} (next:Nat→X→α→Option X):Nat→X→List α→Option X
 |_,x,[]=>some x
 |i,x,a::r=>match next i x a with
  |none=>none
  |some y=>iI next (i+1) y r
theorem pf {α X S R:Type} {step:S→Option (Ctl S R)} {s0:S} (st:Nat→X→S) (next:Nat→X→α→Option X) (l:List α) (I:Nat→List α→X→Prop) (fin:X→R) (bad:R)
  (h:∀i a r x,l.drop i=a::r→i<l.length→l[i]? =some a→I i (a::r) x→(next i x a=none→step (st i x)=some (.done bad))∧(∀y,next i x a=some y→step (st i x)=some (.next (st (i+1) y))∧I (i+1) r y))
  (hn:∀x,I l.length [] x→step (st l.length x)=some (.done (fin x))) (x0:X) (hI:I 0 l x0) (h0:s0=st 0 x0):
  Loop.run step s0=some (match iI next 0 x0 l with|some x=>fin x|none=>bad)∧(∀x,iI next 0 x0 l=some x→I l.length [] x):=by
 subst h0
 have key:∀(r:List α) (i:Nat) (x:X),l.drop i=r→i≤l.length→I i r x→Loop.run step (st i x)=some (match iI next i x r with|some x=>fin x|none=>bad)∧(∀y,iI next i x r=some y→I l.length [] y):=by
  intro r
  induction r with
  |nil=>
   intro i x hd hi hI
   have:i=l.length:=by
    have:=congrArg List.length hd
    simp at this;omega
   subst this
   refine⟨Loop.run_done (hn x hI),λy hy=>?_⟩
   cases hy;exact hI
  |cons a r ih=>
   intro i x hd hi hI
   have hlt:i<l.length:=by
    have:=congrArg List.length hd
    simp at this;omega
   have hget:l[i]? =some a:=by
    have:=List.getElem?_drop (xs:=l) (i:=i) (j:=0)
    rw[hd] at this;simpa using this.symm
   have hd2:l.drop (i+1)=r:=by
    have:=List.drop_drop (i:=1) (j:=i) (l:=l)
    rw[hd] at this;rw[←this];rfl
   obtain⟨b,c⟩:=h i a r x hd hlt hget hI
   simp only[iI]
   cases hx:next i x a with
   |none=>exact⟨Loop.run_done (b hx),λy hy=>by cases hy⟩
   |some y=>
    obtain⟨c1,c2⟩:=c y hx
    rw[Loop.run_next c1]
    exact ih (i+1) y hd2 hlt c2
 exact key l 0 x0 rfl (Nat.zero_le _) hI
def patN (_:Nat) (x:List (Nat×Int)×List Int) (d:Int):Option (List (Nat×Int)×List Int):=some (x.1++[locate x.2 d],decr x.2 (locate x.2 d).1)
theorem sU:∀(ds:List Int) (i:Nat) (pp:List (Nat×Int)) (left:List Int),∃z,iI patN i (pp,left) ds=some (pp++picks left ds,z)|[],i,pp,left=>⟨left,by simp[iI,picks]⟩|d::r,i,pp,left=>by obtain⟨z,hz⟩:=sU r (i+1) (pp++[locate left d]) (decr left (locate left d).1);exact⟨z,by simp only[iI,patN,picks];rw[hz];simp⟩
theorem sV {left:List Int} {m:Nat} {d:Int} (g:qn left (m+1)) (h0:0≤d) (h1:d<((m+1:Nat):Int)):(locate left d).1<left.length∧0≤(locate left d).2∧(locate left d).2<left.getD (locate left d).1 0:=pc (λx hx=>(g.rng x hx).1) h0 (by rw[g.sum];exact h1)
structure PatI (ds:List Int) (c n:Nat) (i:Nat) (r:List Int) (x:List (Nat×Int)×List Int):Prop where
 good:qn x.2 r.length
 len:x.2.length=c
 pp:x.1.length=i
 idx:∀q∈x.1,q.1<c
 all:i+r.length=n
def xX (n:Nat) (ds:List Int):Prop:=ds.length=n∧∀i,i<n→0≤ds.getD i 0∧ds.getD i 0<(n:Int) - (i:Int)
theorem wK {sizes ds:List Int} {n:Nat} (hc1:1≤sizes.length) (hc2:sizes.length≤64) (g:qn sizes n) (hn:n≤256) (hd:xX n ds): iD sizes ds=some (patR sizes.length (picks sizes ds)):=by obtain⟨hdl,hdr⟩:=hd;unfold iD;rw[zk hc1 hc2 g.rng];simp only[ab];(have e1:((!decide (sizes.sum≤256))||((ds.length:Int) != sizes.sum))=false:=by rw[g.sum];simp;omega);rw[e1,cond_false,aR (by rw[dk];simp;omega)];simp only[ab,List.nil_append];rw[qM (by omega),cond_true,g.sum,Int.toNat_natCast];generalize hc:sizes.length=c at*;obtain⟨z,hz⟩:=sU ds 0 [] sizes;rw[(pf (λ(i:Nat) (x:List (Nat×Int)×List Int)=>(x.1.map λq=>(q.1:Int),x.2,dj c x.1,(i:Int))) patN ds (PatI ds c n) (λx=>Sum.inl (x.1.map λq=>(q.1:Int),dj c x.1)) (Sum.inr (([],[],2):List Int×List Int×Int)) ?_ ?_ ([],sizes) ⟨by rw[hdl];exact g,hc,rfl,λq hq=>(by cases hq),by simp[hdl]⟩ ?_).1];rw[hz];simp only[List.nil_append,ab];generalize hps:picks sizes ds=ps at*;(have hpl:ps.length=n:=by rw[←hps,so,hdl]);(have hrows:∀k,((dj c ps).take k).flatten.length≤256*k:=by intro k;induction k with|zero=>simp| succ k ih =>by_cases hk:k<(dj c ps).length;rw[List.take_succ_eq_append_getElem hk,List.flatten_append,List.length_append];(have:((dj c ps)[k]).length≤256:=by simp only[dj,List.getElem_map,List.getElem_range,List.length_map];exact Nat.le_trans (List.length_filter_le _ _) (by omega));simp only[List.flatten_cons,List.flatten_nil,List.append_nil];omega;rw[List.take_of_length_le (by omega)];rw[List.take_of_length_le (by omega)] at ih;omega);rw[aP (s0:=([],0)) (r:=(dj c ps).flatten) (λi=>(((dj c ps).take i).flatten,(i:Int))) 0 (dj c ps).length (Nat.zero_le _) ?_ ?_ ?_];rfl;intro i _ hi;have hd:decide ((i:Int)<((dj c ps).length:Int))=true:=decide_eq_true (by omega);have h1:=hrows i;(have h2:((dj c ps).getD i []).length≤256:=by have:(dj c ps).getD i []=(ps.filter λq=>q.1==i).map (·.2):=sT (by rw[pe] at hi;exact hi);rw[this,List.length_map];exact Nat.le_trans (List.length_filter_le _ _) (by omega));(have hi2:i<c:=by rw[pe] at hi;exact hi);simp only[hd,cond_true];rw[du (i:=i) [] rfl hi];simp only[ab];rw[aR (by rw[dk];omega),wrap64 (by omega)];simp only[ab];rw[List.take_succ_eq_append_getElem hi,List.flatten_append];simp[List.getD,hi];have hd:decide (((dj c ps).length:Int)<((dj c ps).length:Int))=false:=decide_eq_false (by omega);simp only[hd,cond_false,List.take_length];simp;intro i d r x hdr2 hi hget I;refine⟨λh=>(by cases h),λy hy=>?_⟩;obtain⟨pp,left⟩:=x;cases hy;obtain⟨I1,I2,I3,I4,I5⟩:=I;simp only at I1 I2 I3 I4 I5;simp only[List.length_cons] at I1 I5;(have hdi:ds.getD i 0=d:=by simp[List.getD,hget]);have hr:=hdr i (by omega);rw[hdi] at hr;(have hd1:d<((r.length+1:Nat):Int):=by omega);have L:=sV I1 hr.1 hd1;have Lx:=wS (λx hx=>(I1.rng x hx).1) hr.1 (by rw[I1.sum];exact hd1);have hlt:decide ((i:Int)<(ds.length:Int))=true:=decide_eq_true (by omega);have hw:IntKind.wrap .i64 ((n:Int) - (i:Int))=(n:Int) - (i:Int):=wrap64 (by omega);(have hg1:((decide (d<0))||(decide (d≥(n:Int) - (i:Int))))=false:=by simp only[Bool.or_eq_false_iff,decide_eq_false_iff_not];omega);have hloc:=ut I1.rng (by omega) left [] d rfl hr.1 (by rw[I1.sum];exact hd1) (by omega);simp only[List.length_nil,Nat.zero_add] at hloc;rw[show(((0:Nat):Int))=0 from rfl] at hloc;have hm:=I1.rng _ (pY L.1);generalize hq:locate left d=q at*;obtain⟨j,e⟩:=q;simp only at L Lx hm hloc;(have hfl:((pp.filter λz=>z.1==j).map (·.2)).length≤pp.length:=by rw[List.length_map];exact List.length_filter_le _ _);refine⟨?_,?_⟩;simp only[hlt,cond_true];rw[ar rfl (by omega),hdi];simp only[ab,hw,hg1,cond_false];rw[hloc];simp only[ab];rw[ar (xs:=left) (i:=j) rfl (by omega)];simp only[ab];rw[aR (by rw[dk];simp;omega)];simp only[ab];rw[du (xs:=dj c pp) (i:=j) [] rfl (by rw[pe];omega),sT (by omega)];simp only[ab];rw[aR (by rw[dk];simp only[List.length_cons,List.length_nil];omega)];simp only[ab,Int.toNat_natCast];have hv:=xW (c:=c) (ps:=pp) (q:=(j,e)) (by simp only;omega);simp only at hv;rw[hv,wrap64 (x:=left.getD j 0 - 1) (by omega),wrap64 (x:=(i:Int)+1) (by omega)];simp[decr];have gs:=qn.step I1 hr.1 hd1;rw[hq] at gs;refine⟨gs,by simp[decr,I2],by simp[I3],λq hq2=>?_,by omega⟩;rcases List.mem_append.1 hq2 with h|h;exact I4 q h;have:=List.mem_singleton.1 h;subst this;simp only;omega;intro x I;have hlt:decide ((ds.length:Int)<(ds.length:Int))=false:=decide_eq_false (by omega);simp only[hlt,cond_false];simp only[List.map_nil,dj,List.filter_nil];rw[Prod.mk.injEq,Prod.mk.injEq,Prod.mk.injEq];refine⟨rfl,rfl,?_,rfl⟩;apply List.ext_getElem;simp;intro k h1 h2;simp
def cntP (pp:List (Nat×Int)) (j:Nat):Nat:=(pp.filter λq=>q.1==j).length
theorem wT (pp:List (Nat×Int)) (q:Nat×Int) (j:Nat):cntP (pp++[q]) j=cntP pp j+(if q.1=j then 1 else 0):=by simp only[cntP,List.filter_append,List.length_append];by_cases h:q.1=j;simp[h];(have:(q.1==j)=false:=by simpa using h);simp[this,h]
theorem DC {left:List Int} {j k:Nat} (hj:j<left.length):(decr left j).getD k 0=left.getD k 0 - (if j=k then 1 else 0):=by simp only[decr,List.getD,List.getElem?_set,hj,if_true];split;rename_i h;subst h;simp[hj];simp
theorem zl {sizes:List Int} {c:Nat}:∀(ds left:List Int) (pp:List (Nat×Int)),left.length=c→(∀j,left.getD j 0=sizes.getD j 0 - (cntP pp j:Int))→qn left ds.length→xX ds.length ds→
  ∀pre q r,picks left ds=pre++q::r→q.1<c∧(cntP (pp++pre) q.1:Int)<sizes.getD q.1 0
 |[],left,pp,_,_,_,_,pre,q,r,h=>by cases pre<;>simp[picks] at h
 |d::ds,left,pp,hl,hs,g,hd,pre,q,r,h=>by
  have hr:=hd.2 0 (by simp)
  simp only[List.getD_cons_zero,List.length_cons] at hr
  have L:=sV (m:=ds.length) g hr.1 (by omega)
  simp only[picks] at h
  cases pre with
  |nil=>
   simp only[List.nil_append,List.cons.injEq] at h
   obtain⟨rfl,_⟩:=h
   rw[List.append_nil]
   have:=hs (locate left d).1
   exact⟨by omega,by omega⟩
  |cons p pre=>
   simp only[List.cons_append,List.cons.injEq] at h
   obtain⟨h1,h2⟩:=h
   have:=zl (sizes:=sizes) (c:=c) ds (decr left (locate left d).1) (pp++[locate left d]) (by rw[decr,List.length_set];exact hl) (λj=>by
    rw[DC L.1,wT,hs j]
    have:∀(b:Prop) [Decidable b] (x:Int) (y:Nat),x - (y:Int) - (if b then 1 else 0)=x - ((y+(if b then 1 else 0):Nat):Int):=λb _ x y=>by split<;>omega
    exact this _ _ _) (qn.step g hr.1 (by omega)) ⟨rfl,λi hi=>by
    have:=hd.2 (i+1) (by simp;omega)
    simp only[List.getD_cons_succ,List.length_cons] at this
    omega⟩ pre q r h2
   rw[←h1,List.append_cons]
   simpa using this
end Go.Proofs.YtobbmodjdkcdcaaGreatDoor
