import Derived.Test.YtobbmodjdkcdcaaGreatDoorRm9
import Derived.Test.YtobbmodjdkcdcaaGreatDoorSimC
import Derived.Test.YtobbmodjdkcdcaaGreatDoorLawSrt
set_option autoImplicit true
set_option relaxedAutoImplicit true
set_option linter.all false
namespace Go.Proofs.YtobbmodjdkcdcaaGreatDoor
open Go Go.Sim
open Go.IntKind (wrap)
variable [Fu]
def cY (w:aA):List (List Int):=w.Epochs.flatMap (·.Tags)
def lenOf (w:aA):Nat:=(cY w).length
structure dY (w:aA):Prop where
 newest:PA .i64 w.Newest
 num:∀e∈w.Epochs,PA .i64 e.Number
 tag:∀t∈cY w,t.length=16∧aT t
 len:lenOf w≤1048576
 eps:w.Epochs.length≤1048576
def part (w:aA) (i:Nat):List (List Int):=(w.Epochs.take i).flatMap (·.Tags)
theorem lF {w:aA} {i:Nat} (h:i<w.Epochs.length):part w (i+1)=part w i++w.Epochs[i].Tags:=by unfold part;rw[HA h,List.flatMap_append];simp
theorem tO (w:aA):part w w.Epochs.length=cY w:=by simp[part,cY]
theorem my (w:aA) (i:Nat):cY w=part w i++(w.Epochs.drop i).flatMap (·.Tags):=by unfold part cY;rw[←List.flatMap_append,Ie]
theorem vT (w:aA) (i:Nat):(part w i).length≤lenOf w:=by unfold lenOf;rw[my w i,Hu];omega
theorem tP {w:aA} {i:Nat} (h:i<w.Epochs.length):w.Epochs[i].Tags.length≤lenOf w:=by have:=vT w (i+1);rw[lF h,Hu] at this;omega
theorem GV {w:aA} {i:Nat} (h:i<w.Epochs.length) {t:List Int} (ht:t∈w.Epochs[i].Tags):t∈cY w:=Kj.2 ⟨_,HG h,ht⟩
theorem gm {x:Int} (h:PA .i64 x): -9223372036854775808≤x∧x≤9223372036854775807:=h
section
variable {w:aA}
theorem w6 (hw:dY w):jv w=some (lenOf w:Int):=by have hl:=hw.len;have he:=hw.eps;unfold jv;rw[LS (st:=λi=>(((part w i).length:Int),(i:Int))) (res:=λ_=>(lenOf w:Int)) (n:=w.Epochs.length)];rfl;intro i hi;left;(have h1:(i:Int)<(w.Epochs.length:Int):=by omega);have h2:=vT w (i+1);rw[lF hi,Hu] at h2;refine⟨?_,rfl⟩;simp only[h1,Iu,Hn,cq hi,Hs];rw[wrap64 (by omega),wrap64 (by omega),lF hi,Hu];simp;simp[tO,lenOf];simp[part]
theorem yZ (hw:dY w):gp w=some (lenOf w:Int):=by have hl:=hw.len;have he:=hw.eps;unfold gp;rw[LS (st:=λi=>(((part w i).length:Int),(i:Int))) (res:=λ_=>(lenOf w:Int)) (n:=w.Epochs.length)];rfl;intro i hi;left;(have h1:(i:Int)<(w.Epochs.length:Int):=by omega);have h2:=vT w (i+1);rw[lF hi,Hu] at h2;refine⟨?_,rfl⟩;simp only[h1,Iu,Hn,cq hi,Hs];rw[wrap64 (by omega),wrap64 (by omega),lF hi,Hu];simp;simp[tO,lenOf];simp[part]
theorem za (hw:dY w):gr w=some (cY w):=by have hl:=hw.len;have he:=hw.eps;unfold gr;rw[LS (st:=λi=>(part w i,(i:Int))) (res:=λ_=>cY w) (n:=w.Epochs.length)];rfl;intro i hi;left;(have h1:(i:Int)<(w.Epochs.length:Int):=by omega);have h2:=vT w (i+1);rw[lF hi,Hu] at h2;refine⟨?_,rfl⟩;simp only[h1,Iu,Hn,cq hi,Hs];rw[aW (by unfold F_;omega),Hs,wrap64 (by omega),lF hi];simp;simp[tO];simp[part]
def lR (w:aA):List (List Int):=(cY w).foldl PO []
theorem BM {ts:List (List Int)} (hl:ts.length≤1048576) {v:Int} {m:List (List Int×Int)}:
   Loop.run (S:=(Int×(List ((List Int)×Int)))) (R:=(List ((List Int)×Int))) (λ(x483,x484)=>
    bif decide (x483<(ts.length:Int)) then
     (idx ts x483).bind λx494=>
     some (.next (wrap .i64 (x483+1),O4 x494 v x484))
    else
     some (.done x484)) (0,m)=some (ts.foldl (λm t=>O4 t v m) m):=by
 rw[LS (st:=λi=>((i:Int),(ts.take i).foldl (λm t=>O4 t v m) m)) (res:=λ_=>ts.foldl (λm t=>O4 t v m) m) (n:=ts.length)]
 · intro i hi
   left
   have h1:(i:Int)<(ts.length:Int):=by omega
   refine⟨?_,rfl⟩
   simp only[h1,Iu,Hn,cq hi,Hs]
   rw[wrap64 (by omega),HA hi,I9]
   simp
 · simp
 · simp
theorem zb (v:Int):∀(ts:List (List Int)) (m:List (List Int×Int)),(ts.foldl (λm t=>O4 t v m) m).map (·.1)=ts.foldl PO (m.map (·.1))|[],m=>rfl|t::ts,m=>by rw[IE,zb v ts,uS];rfl
def sj (w:aA):Nat→List (List Int×Int)|0=>[]|i+1=>match w.Epochs[i]? with|some e=>e.Tags.foldl (λm t=>O4 t (i:Int) m) (sj w i)|none=>sj w i
theorem w7:∀i,i≤w.Epochs.length→(sj w i).map (·.1)=(part w i).foldl PO []|0,_=>by simp[sj,part]|i+1,h=>by have hi:i<w.Epochs.length:=h;(have:w.Epochs[i]? =some w.Epochs[i]:=by simp[hi]);rw[sj,this,lF hi,I9,←w7 i (by omega),←zb]
theorem tQ (hw:dY w):∃m,jc w=some m∧m.map (·.1)=lR w:=by
 have hl:=hw.len
 have he:=hw.eps
 refine⟨sj w w.Epochs.length,?_,by rw[w7 _ (HK _),tO];rfl⟩
 unfold jc
 rw[LS (st:=λi=>((i:Int),sj w i)) (res:=λ_=>sj w w.Epochs.length) (n:=w.Epochs.length)]
 · rfl
 · intro i hi
   left
   have h1:(i:Int)<(w.Epochs.length:Int):=by omega
   have h2:=tP hi
   refine⟨?_,rfl⟩
   simp only[h1,Iu,Hn,cq hi,Hs]
   rw[BM (by omega)]
   simp only[Hs]
   rw[wrap64 (by omega)]
   have h3:w.Epochs[i]? =some w.Epochs[i]:=by simp[hi]
   simp only[sj,h3]
   simp
 · simp
 · simp[sj]
end
theorem tS {a b:List Int} (ha:a.length=16) (hb:b.length=16):cX a b=some (P9 a b):=by unfold cX;(have key:∀i,i<16→(a.drop i=a.getD i 0::a.drop (i+1))∧(b.drop i=b.getD i 0::b.drop (i+1)):=by intro i hi;constructor;rw[IU (by omega)];simp[show i<a.length by omega];rw[IU (by omega)];simp[show i<b.length by omega]);rw [LS (st := λi => (i : Int)) (res := λi => if a.drop i = b.drop i then (Sum.inl () : Unit ⊕ Bool) else .inr (P9 (a.drop i) (b.drop i))) (n := 16)];simp only[IP];by_cases h:a=b;subst h;simp[iT];simp[h];intro i hi;obtain⟨k1,k2⟩:=key i hi;(have h1:(i:Int)<16:=by omega);have ia:=cq (xs:=a) (i:=i) (by omega);have ib:=cq (xs:=b) (i:=i) (by omega);(have ea:a.getD i 0=a[i]:=by simp[show i<a.length by omega]);(have eb:b.getD i 0=b[i]:=by simp[show i<b.length by omega]);by_cases c:a[i]=b[i];left;constructor;simp only[h1,Iu,Hn,ia,ib,Hs,c,HJ,Hm];rw[wrap64 (by omega)];simp;rw[k1,k2,ea,eb,c];generalize a.drop (i+1)=p;generalize b.drop (i+1)=q;generalize b[i]=z;simp[P9];right;(have d:(a[i] != b[i])=true:=by simpa using c);simp only[h1,Iu,Hn,ia,ib,Hs,d];rw[k1,k2,ea,eb];generalize a.drop (i+1)=p;generalize b.drop (i+1)=q;generalize a[i]=y at c⊢;generalize b[i]=z at c⊢;simp[P9,c];simp[Jt (show a.length≤16 by omega),Jt (show b.length≤16 by omega)];rfl
theorem Fi {a b:List Int}:jV a b=some (Sr a b):=by simp[jV,ln]
def UM:List (List Int)→Nat→Bool|ts,0=>true|ts,i+1=>UM ts i&& !(P9 (ts.getD (i+1) []) (ts.getD i []))
theorem BN {ts:List (List Int)} (ht:∀t∈ts,t.length=16∧aT t) (hl:ts.length≤1048576):cP ts=some (UM ts (ts.length - 1)):=by unfold cP;rcases Kw ts.length with h0|h0;have:ts=[]:=HQ h0;subst this;rw [Lr (r := (.inl () : Unit ⊕ Bool))];rfl;simp[wrap64];rw[wrap64 (by omega)];rw [LS (st := λj => (ts.length : Int) - 1 - j) (res := λj => if UM ts (ts.length - 1 - j) = true then (Sum.inl () : Unit ⊕ Bool) else .inr false) (n := ts.length - 1)];simp only[Kf];cases UM ts (ts.length - 1)<;>simp;intro j hj;(have e1:(ts.length:Int) - 1 - j=((ts.length - 1 - j:Nat):Int):=by omega);(have e2:(ts.length:Int) - 1 - ((j+1:Nat):Int)=((ts.length - 1 - (j+1):Nat):Int):=by omega);(have e3:ts.length - 1 - j=(ts.length - 1 - (j+1))+1:=by omega);generalize hk:ts.length - 1 - (j+1)=k at e2 e3;(have b:k+1<ts.length:=by omega);(have h1:(((k+1:Nat):Int)>0):=by omega);have t1:=ht ts[k+1] (HG b);have t2:=ht ts[k] (HG (by omega));have hc:=AJ t1.2 t2.2 (by rw[t1.1,t2.1]);(have g1:ts.getD (k+1) []=ts[k+1]:=by simp[b]);(have g2:ts.getD k []=ts[k]:=by simp[show k<ts.length by omega]);simp only[e1,e2,e3,h1,Iu,Hn,cq b,Hs,UM,g1,g2];rw[wrap64 (by omega),show(((k+1:Nat):Int) - 1)=(k:Int) by omega,cq (show k<ts.length by omega)];simp only[Hs,Fi];by_cases a:P9 ts[k+1] ts[k]=true;right;simp[hc.2 a,a];left;(have c:P9 ts[k+1] ts[k]=false:=by simpa using a);have d:¬Sr ts[k+1] ts[k]<0:=λh=>a (hc.1 h);simp[d,c];(have e1:(ts.length:Int) - 1 - ((ts.length - 1:Nat):Int)=0:=by omega);simp[e1,UM];simp
end Go.Proofs.YtobbmodjdkcdcaaGreatDoor
namespace Go.Proofs.YtobbmodjdkcdcaaGreatDoor
open Go Go.Sim
open Go.IntKind (wrap)
variable [Fu]
def R1:List (List Int)→List (List Int)→List (List Int)
 |[],qs=>qs
 |a::ps,[]=>a::ps
 |a::ps,b::qs=>if P9 b a=true then b::R1 (a::ps) qs else if a=b then a::R1 ps qs else a::R1 ps (b::qs)
 termination_by ps qs=>ps.length+qs.length
theorem Dn (ps:List (List Int)):R1 ps []=ps:=by cases ps<;>simp[R1]
abbrev Pw (l:List (List Int)):Prop:=l.Pairwise λx y=>P9 x y=true
def Tags (l:List (List Int)):Prop:=∀t∈l,t.length=16∧aT t
theorem qf:∀{ps qs:List (List Int)} {t:List Int},t∈R1 ps qs↔t∈ps∨t∈qs
 |[],qs,t=>by simp[R1]
 |a::ps,[],t=>by simp[R1]
 |a::ps,b::qs,t=>by
  unfold R1
  split
  · have:=qf (ps:=a::ps) (qs:=qs) (t:=t)
    simp only[H2,this]
    constructor
    · rintro(h|(h|h)|h)<;>simp[h]
    · rintro((h|h)|h|h)<;>simp[h]
  · split
    · rename_i h1 h2
      subst h2
      have:=qf (ps:=ps) (qs:=qs) (t:=t)
      simp only[H2,this]
      constructor
      · rintro(h|h|h)<;>simp[h]
      · rintro((h|h)|h|h)<;>simp[h]
    · have:=qf (ps:=ps) (qs:=b::qs) (t:=t)
      simp only[H2,this]
      constructor
      · rintro(h|h|h|h)<;>simp[h]
      · rintro((h|h)|h|h)<;>simp[h]
 termination_by ps qs=>ps.length+qs.length
theorem rQ:∀{ps qs:List (List Int)},Tags ps→Tags qs→Pw ps→Pw qs→Pw (R1 ps qs)
 |[],qs,_,_,_,h=>by simpa[R1] using h
 |a::ps,[],_,_,h,_=>by simpa[R1] using h
 |a::ps,b::qs,ta,tb,ha,hb=>by
  have c:=IQ.1 ha
  have d:=IQ.1 hb
  have e:Tags ps:=λt ht=>ta t (by simp[ht])
  have f:Tags qs:=λt ht=>tb t (by simp[ht])
  have la:=(ta a (by simp)).1
  have lb:=(tb b (by simp)).1
  unfold R1
  split
  · rename_i h1
    refine IQ.2 ⟨λx hx=>?_,rQ ta f ha d.2⟩
    rcases qf.1 hx with hx|hx
    · rcases H2.1 hx with rfl|hx
      · exact h1
      · exact kK h1 (c.1 x hx)
    · exact d.1 x hx
  · rename_i h1
    split
    · rename_i h2
      subst h2
      refine IQ.2 ⟨λx hx=>?_,rQ e f c.2 d.2⟩
      rcases qf.1 hx with hx|hx
      · exact c.1 x hx
      · exact d.1 x hx
    · rename_i h2
      have h3:P9 a b=true:=(pR (by rw[la,lb]) h2).resolve_right h1
      refine IQ.2 ⟨λx hx=>?_,rQ e tb c.2 hb⟩
      rcases qf.1 hx with hx|hx
      · exact c.1 x hx
      · rcases H2.1 hx with rfl|hx
        · exact h3
        · exact kK h3 (d.1 x hx)
 termination_by ps qs=>ps.length+qs.length
theorem vU:∀{ps qs:List (List Int)},(R1 ps qs).length≤ps.length+qs.length
 |[],qs=>by simp[R1]
 |a::ps,[]=>by simp[R1]
 |a::ps,b::qs=>by
  unfold R1
  split
  · have:=vU (ps:=a::ps) (qs:=qs);simp only[HL] at this⊢;omega
  · split
    · have:=vU (ps:=ps) (qs:=qs);simp only[HL] at this⊢;omega
    · have:=vU (ps:=ps) (qs:=b::qs);simp only[HL] at this⊢;omega
 termination_by ps qs=>ps.length+qs.length
theorem lS {α:Type} {xs:List α} {i:Nat} (h:i<xs.length):xs.drop i=xs[i]::xs.drop (i+1):=IU h
theorem Ej {ps qs:List (List Int)} {step:List (List Int)×Int×Int→Option (Qp (List (List Int)×Int×Int) (List (List Int)))} (l:ps.length+qs.length≤1048576) (h1:∀(acc:List (List Int)) (i j:Nat) (hi:i<ps.length) (hj:j<qs.length),acc.length≤1048576→step (acc,(i:Int),(j:Int))=some (.next (if P9 qs[j] ps[i]=true then(acc++[qs[j]],(i:Int),((j+1:Nat):Int)) else if ps[i]=qs[j] then(acc++[ps[i]],((i+1:Nat):Int),((j+1:Nat):Int)) else(acc++[ps[i]],((i+1:Nat):Int),(j:Int))))) (h2:∀(acc:List (List Int)) (i:Nat) (hi:i<ps.length),acc.length≤1048576→step (acc,(i:Int),(qs.length:Int))=some (.next (acc++[ps[i]],((i+1:Nat):Int),(qs.length:Int)))) (h3:∀(acc:List (List Int)) (j:Nat) (hj:j<qs.length),acc.length≤1048576→step (acc,(ps.length:Int),(j:Int))=some (.next (acc++[qs[j]],(ps.length:Int),((j+1:Nat):Int)))) (h4:∀acc:List (List Int),step (acc,(ps.length:Int),(qs.length:Int))=some (.done acc)):Loop.run step ([],0,0)=some (R1 ps qs):=by (have key:∀(k i j:Nat) (acc:List (List Int)),(ps.length - i)+(qs.length - j)=k→i≤ps.length→j≤qs.length→acc.length+k≤1048576→Loop.run step (acc,(i:Int),(j:Int))=some (acc++R1 (ps.drop i) (qs.drop j)):=by intro k;induction k using Nat.strongRecOn with|_ k b=>intro i j acc hk hi hj m;by_cases c:i<ps.length;by_cases a:j<qs.length;have hs:=h1 acc i j c a (by omega);rw[lS c,lS a];by_cases d:P9 qs[j] ps[i]=true;rw[Il d] at hs;rw[Ly hs,b (k - 1) (by omega) i (j+1) (acc++[qs[j]]) (by omega) hi (by omega) (by simp;omega),R1,Il d,lS c];simp;rw[Ic d] at hs;by_cases e:ps[i]=qs[j];rw[Il e] at hs;rw[Ly hs,b (k - 2) (by omega) (i+1) (j+1) (acc++[ps[i]]) (by omega) (by omega) (by omega) (by simp;omega),R1,Ic d,Il e];simp;rw[Ic e] at hs;rw[Ly hs,b (k - 1) (by omega) (i+1) j (acc++[ps[i]]) (by omega) (by omega) hj (by simp;omega),R1,Ic d,Ic e,lS a];simp;(have f:j=qs.length:=by omega);subst f;rw[Ly (h2 acc i c (by omega)),b (k - 1) (by omega) (i+1) qs.length (acc++[ps[i]]) (by omega) (by omega) hj (by simp;omega)];rw[KM,Dn,Dn,lS c];simp;(have h:i=ps.length:=by omega);subst h;by_cases a:j<qs.length;rw[Ly (h3 acc j a (by omega)),b (k - 1) (by omega) ps.length (j+1) (acc++[qs[j]]) (by omega) hi (by omega) (by simp;omega)];rw[KM,lS a];simp[R1];(have f:j=qs.length:=by omega);subst f;rw[Lr (h4 acc),KM,KM];simp[R1]);exact key _ 0 0 [] rfl (by omega) (by omega) (by simp;omega)
theorem rR:∀(fuel:Nat) (xs:List (List Int)),Tags xs→xs.length≤1048576→xs.length≤2^fuel→ ∃ys,bV (fuel+1) xs=some ys∧Pw ys∧(∀t,t∈ys↔t∈xs)∧ys.length≤xs.length:=by intro fuel;induction fuel with|zero=>(intro xs ht hl hf;(have h1:((xs.length:Int)<2):=by omega);refine⟨xs,?_,?_,λt=>Iff.rfl,HK _⟩;rw[bV.eq_2];simp only[h1,Iu,Hn];(have:P2 0 1=true:=by decide);rw[this,Hn];simp[aW (show([]:List (List Int)).length+xs.length≤F_ by simp[F_];omega)];match xs,hf with|[],_=>simp|[x],_=>simp|_::_::_,h=>simp at h)|succ fuel ih=>intro xs ht hl hf;by_cases h2:xs.length<2;(have h1:((xs.length:Int)<2):=by omega);refine⟨xs,?_,?_,λt=>Iff.rfl,HK _⟩;rw[bV.eq_2];simp only[h1,Iu,Hn];(have:P2 0 1=true:=by decide);rw[this,Hn];simp[aW (show([]:List (List Int)).length+xs.length≤F_ by simp[F_];omega)];(match xs,h2 with|[],_=>simp|[x],_=>simp|_::_::_,h=>simp at h;omega);(have h1:¬((xs.length:Int)<2):=by omega);(have hp:2^(fuel+1)=2*2^fuel:=by rw[Nat.pow_succ];omega);(have hm:IntKind.i64.wrap (Int.tdiv (xs.length:Int) 2)=((xs.length / 2:Nat):Int):=by rw[Int.tdiv_eq_ediv_of_nonneg (by omega),wrap64 (by omega)];omega);(have s1:sub xs 0 ((xs.length / 2:Nat):Int)=some (xs.take (xs.length / 2)):=by unfold sub;(have:(decide ((0:Int)≤0)&&decide ((0:Int)≤((xs.length / 2:Nat):Int))&&decide (((xs.length / 2:Nat):Int)≤(xs.length:Int)))=true:=by simp;omega);rw[this,Hn];rfl);(have s2:sub xs ((xs.length / 2:Nat):Int) (xs.length:Int)=some (xs.drop (xs.length / 2)):=by unfold sub;(have:(decide ((0:Int)≤((xs.length / 2:Nat):Int))&&decide (((xs.length / 2:Nat):Int)≤(xs.length:Int))&&decide ((xs.length:Int)≤(xs.length:Int)))=true:=by simp;omega);rw[this,Hn,Hq,Hq,HY]);obtain⟨ps,a1,a2,a3,a4⟩:=ih (xs.take (xs.length / 2)) (λt h=>ht t (Ih h)) (by simp;omega) (by simp;omega);obtain⟨qs,b1,b2,b3,b4⟩:=ih (xs.drop (xs.length / 2)) (λt h=>ht t (JD h)) (by simp;omega) (by simp;omega);simp only[HN,HW] at a4 b4;have ta:Tags ps:=λt h=>ht t (Ih ((a3 t).1 h));have tb:Tags qs:=λt h=>ht t (JD ((b3 t).1 h));(have hmk:P2 0 (xs.length:Int)=true:=by have hr:(F_:Int)=17179869184:=rfl;simp only[P2,Hx,HB];omega);refine⟨R1 ps qs,?_,rQ ta tb a2 b2,λt=>?_,?_⟩;rw[bV.eq_2];simp only[h1,Ju,Hm,hm,s1,Hs,a1,s2,b1,hmk,Hn];rw[Ig.2 ⟨R1 ps qs,?_,rfl⟩];rw[Ig.2 ⟨R1 ps qs,?_,rfl⟩];simp only[Int.toNat_zero,Jv];refine Ej (ps:=ps) (qs:=qs) (by omega) ?_ ?_ ?_ ?_;intro acc i j hia hjb hacc;have ia:=cq hia;have ib:=cq hjb;(have h1:((i:Int)<(ps.length:Int)):=by omega);(have h2:((j:Int)<(qs.length:Int)):=by omega);(have h3:((j:Int)==(qs.length:Int))=false:=by simp;omega);have tai:=ta ps[i] (HG hia);have tbj:=tb qs[j] (HG hjb);(have w1:IntKind.i64.wrap ((i:Int)+1)=((i+1:Nat):Int):=by rw[wrap64 (by omega)];rfl);(have w2:IntKind.i64.wrap ((j:Int)+1)=((j+1:Nat):Int):=by rw[wrap64 (by omega)];rfl);have r1:app acc [ps[i]]=some (acc++[ps[i]]):=aW (by simp[F_];omega);have r2:app acc [qs[j]]=some (acc++[qs[j]]):=aW (by simp[F_];omega);by_cases hlt:P9 qs[j] ps[i]=true;simp only[h1,h2,h3,Iu,Kh,Hn,Hm,ib,ia,Hs,tS tbj.1 tai.1,hlt,HU,r2,w2,Ks];(have hlt':P9 qs[j] ps[i]=false:=by simpa using hlt);by_cases heq:ps[i]=qs[j];(have heq':(ps[i]==qs[j])=true:=by simpa using heq);simp only[h1,h2,h3,Iu,Kh,Hn,Hm,ib,ia,Hs,tS tbj.1 tai.1,hlt',IT,heq',r1,w1,w2,Il heq,Jf,Kp];(have heq':(ps[i]==qs[j])=false:=by simpa using heq);simp only[h1,h2,h3,Iu,Kh,Hn,Hm,ib,ia,Hs,tS tbj.1 tai.1,hlt',IT,heq',r1,w1,Ic heq,Jf,Kp];intro acc i hia hacc;have ia:=cq hia;(have h1:((i:Int)<(ps.length:Int)):=by omega);(have h2:¬((qs.length:Int)<(qs.length:Int)):=by omega);(have w1:IntKind.i64.wrap ((i:Int)+1)=((i+1:Nat):Int):=by rw[wrap64 (by omega)];rfl);have r1:app acc [ps[i]]=some (acc++[ps[i]]):=aW (by simp[F_];omega);simp only[h1,h2,Jz,Iu,Ju,Bool.true_or,Hn,Hm,ia,Hs,r1,w1];intro acc j hjb hacc;have ib:=cq hjb;(have h1:¬((ps.length:Int)<(ps.length:Int)):=by omega);(have h2:((j:Int)<(qs.length:Int)):=by omega);(have h3:((j:Int)==(qs.length:Int))=false:=by simp;omega);(have w2:IntKind.i64.wrap ((j:Int)+1)=((j+1:Nat):Int):=by rw[wrap64 (by omega)];rfl);have r2:app acc [qs[j]]=some (acc++[qs[j]]):=aW (by simp[F_];omega);simp only[h1,h2,h3,Iu,Ju,Kh,Hn,Hm,ib,Hs,r2,w2];intro acc;(have h1:¬((ps.length:Int)<(ps.length:Int)):=by omega);(have h2:¬((qs.length:Int)<(qs.length:Int)):=by omega);simp only[h1,h2,Ju,JR,Hm];rw[qf,a3,b3];(have:t∈xs↔t∈xs.take (xs.length / 2)++xs.drop (xs.length / 2):=by rw[Ie]);rw[this,HO];have:=vU (ps:=ps) (qs:=qs);omega
end Go.Proofs.YtobbmodjdkcdcaaGreatDoor
namespace Go.Proofs.YtobbmodjdkcdcaaGreatDoor
open Go Go.Sim
open Go.IntKind (wrap)
variable [Fu]
def kT (p:Nat→Bool):Nat→Nat→Bool|0,_=>true|k+1,i=>p i&&kT p k (i+1)
theorem kj {p:Nat→Bool}:∀{k i:Nat},kT p k i=true↔∀j,i≤j→j<i+k→p j=true|0,i=>by simp[kT];intro j h1 h2;omega|k+1,i=>by rw[kT,Hx,kj];constructor;rintro⟨h1,h2⟩ j a b;by_cases h:j=i;subst h;exact h1;exact h2 j (by omega) (by omega);intro h;exact⟨h i (by omega) (by omega),λj h1 h2=>h j (by omega) (by omega)⟩
theorem w8 {S R:Type} {step:S→Option (Qp S R)} (st:Nat→S) (n:Nat) (p:Nat→Bool) (good bad:R) (h:∀i,i<n→step (st i)=some (bif p i then .next (st (i+1)) else .done bad)) (he:step (st n)=some (.done good)) {s0:S} (h0:s0=st 0): Loop.run step s0=some (bif kT p n 0 then good else bad):=by have:=LS (step:=step) (st:=st) (res:=λi=>bif kT p (n - i) i then good else bad) (n:=n) ?_ ?_ h0;rw[this,Kf];intro i hi;(have e:n - i=(n - (i+1))+1:=by omega);rw[h i hi];(cases hp:p i with|true=>left;refine⟨rfl,?_⟩;rw[e];simp[kT,hp]|false=>right;rw[e];simp[kT,hp]);rw[he,JQ];rfl
def Ua (w:aA) (i:Nat):Int:=(w.Epochs.getD i ⟨0,[]⟩).Number
def TU (w:aA) (i:Nat):List (List Int):=(w.Epochs.getD i ⟨0,[]⟩).Tags
def TG (w:aA) (s:Int) (i:Nat):Bool:=!(decide (Ua w i<0))&&(decide (Ua w i≤w.Newest)&&decide (w.Newest - Ua w i<s))&& !(decide (0<i)&&decide (Ua w i≤Ua w (i - 1)))&& !((TU w i).isEmpty)&&UM (TU w i) ((TU w i).length - 1)
def w9 (ts:List (List Int)):Bool:=kT (λj=>P9 (ts.getD j []) (ts.getD (j+1) [])) (ts.length - 1) 0
def Xp (w:aA) (s:Int) (i:Nat):Bool:=!(decide (Ua w i<0))&&(decide (Ua w i≤w.Newest)&&decide (w.Newest - Ua w i<s))&& !(decide (0<i)&&decide (Ua w i≤Ua w (i - 1)))&& !((TU w i).isEmpty)&&w9 (TU w i)
def c1 (s r:Int):Bool:= !((((decide (s<1))||(decide (s>8)))||(decide (r<0)))||(decide (r>4096)))
def c2 (w:aA) (r:Int):Bool:= !((decide (w.Newest<0))||(decide (w.Newest>4611686018427387904)))&& !(decide ((lenOf w:Int)>r))
def c3 (w:aA):Bool:=((lR w).length:Int)==(lenOf w:Int)
section
variable {w:aA}
theorem ox (hw:dY w) {i:Nat} (h:i<w.Epochs.length):Tags w.Epochs[i].Tags:=λt ht=>hw.tag t (GV h ht)
theorem nm (hw:dY w) {s r:Int}:gx w s r=some (bif c1 s r&&c2 w r&&c3 w&&kT (TG w s) w.Epochs.length 0 then 0 else 2):=by have hl:=hw.len;have he:=hw.eps;obtain⟨m,hm,hk⟩:=tQ hw;(have e:m.length=(lR w).length:=by rw[←hk];simp);unfold gx c1;cases h1:((((decide (s<1))||(decide (s>8)))||(decide (r<0)))||(decide (r>4096))) with|true=>simp|false=>simp only[Hm,w6 hw,Hs,hm,e,IT,ID];unfold c2;cases h2:((decide (w.Newest<0))||(decide (w.Newest>4611686018427387904))) with|true=>simp|false=>simp only[Hm,Hs,IT,ID];cases h3:decide ((lenOf w:Int)>r) with|true=>simp|false=>simp only[Hm,Hs,IT,ID];unfold c3;cases h4:(((lR w).length:Int)==(lenOf w:Int)) with|false=>simp only[bne,h4,IT,Hn,Kx,Hm]|true=>simp only[bne,h4,HU,Hm,ID];simp only[Hz,Hy] at h1 h2 h3;rw [w8 (st := λi => (i : Int)) (n := w.Epochs.length) (p := TG w s) (good := (.inl () : Unit ⊕ Int)) (bad := .inr 2)];cases kT (TG w s) w.Epochs.length 0<;>rfl;intro i hi;(have f:(i:Int)<(w.Epochs.length:Int):=by omega);have t1:=BN (ox hw hi) (Iq (tP hi) hl);(have g1:w.Epochs.getD i ⟨0,[]⟩=w.Epochs[i]:=by simp[hi]);have n1:=gm (hw.num _ (HG hi));(have w1:IntKind.i64.wrap ((i:Int)+1)=((i+1:Nat):Int):=by rw[wrap64 (by omega)];rfl);(have em:((w.Epochs[i].Tags.length:Int)==0)=w.Epochs[i].Tags.isEmpty:=by cases w.Epochs[i].Tags<;>simp;omega);simp only[f,Iu,Hn,cq hi,Hs,t1,w1,TG,Ua,TU,g1,em];(have a:(bif decide ((i:Int)>0) then(idx w.Epochs (wrap .i64 ((i:Int) - 1))).bind λc=>some (decide (w.Epochs[i].Number≤c.Number)) else some false)=some (decide (0<i)&&decide (w.Epochs[i].Number≤(w.Epochs.getD (i - 1) ⟨0,[]⟩).Number)):=by by_cases h0:0<i;(have e1:(i:Int) - 1=((i - 1:Nat):Int):=by omega);(have h5:((i:Int)>0):=by omega);(have b:i - 1<w.Epochs.length:=by omega);rw[wrap64 (by omega),e1,cq b];simp[h5,h0,b];(have h5:¬((i:Int)>0):=by omega);simp[h5,h0]);rw[a];(cases d:decide (w.Epochs[i].Number<0) with|true=>simp|false=>have h:=HF d;simp only[Hm,iS,Hs];rw[wrap64 (by omega)];generalize (decide (w.Epochs[i].Number≤w.Newest)&&decide (w.Newest - w.Epochs[i].Number<s))=b1;generalize (decide (0<i)&&decide (w.Epochs[i].Number≤(w.Epochs.getD (i - 1) ⟨0,[]⟩).Number))=b2;generalize w.Epochs[i].Tags.isEmpty=b3;generalize UM w.Epochs[i].Tags (w.Epochs[i].Tags.length - 1)=b4;cases b1<;>cases b2<;>cases b3<;>cases b4<;>rfl);simp;rfl
theorem vh {ys:List (List Int)} (hr:Pw ys) (hm:∀t,t∈ys↔t∈cY w):ys.length=(lR w).length:=by (have h1:ys.Nodup:=hr.imp λ{a b} h e=>by subst e;rw[iT] at h;cases h);have h2:(lR w).Nodup:=rx Ld;exact((Kc h1 h2).2 λt=>by rw[hm,lR,uR];simp).length_eq
theorem CS {ts:List (List Int)} (ht:Tags ts) (hl:ts.length≤1048576) (h0:ts≠[]):
   Loop.run (S := Int) (R := (Unit ⊕ Int)) (λx916 =>
    bif decide (x916<(ts.length:Int)) then
     (idx ts (wrap .i64 (x916 - 1))).bind λx928=>
     (idx ts x916).bind λx930=>
     (cX x928 x930).bind λy932=>
     bif !y932 then
      some (.done (.inr 2))
     else
      some (.next (wrap .i64 (x916+1)))
    else
     some (.done (.inl ()))) 1=some (bif w9 ts then .inl () else .inr 2):=by
 have hpos:0<ts.length:=KY.2 h0
 rw [w8 (st := λi => ((i + 1 : Nat) : Int)) (n := ts.length - 1) (p := λj => P9 (ts.getD j []) (ts.getD (j + 1) [])) (good := (.inl () : Unit ⊕ Int)) (bad := .inr 2)]
 · rfl
 · intro i hi
   have hi1:i+1<ts.length:=by omega
   have hi0:i<ts.length:=by omega
   have hlt:((i+1:Nat):Int)<(ts.length:Int):=by omega
   have e1:wrap .i64 (((i+1:Nat):Int) - 1)=(i:Int):=by rw[wrap64 (by omega)];omega
   have e2:wrap .i64 (((i+1:Nat):Int)+1)=((i+1+1:Nat):Int):=by rw[wrap64 (by omega)];omega
   have t1:=(ht ts[i] (HG hi0)).1
   have t2:=(ht ts[i+1] (HG hi1)).1
   have g1:ts.getD i []=ts[i]:=by simp[hi0]
   have g2:ts.getD (i+1) []=ts[i+1]:=by simp[hi1]
   simp only[hlt,Iu,Hn,e1,e2,cq hi0,cq hi1,Hs,tS t1 t2,g1,g2]
   cases P9 ts[i] ts[i+1]<;>rfl
 · have:¬(((ts.length - 1+1:Nat):Int)<(ts.length:Int)):=by omega
   simp only[this,Ju,Hm]
 · rfl
theorem BO (hw:dY w) {s r:Int}:eF w s r=some (bif c1 s r&&c2 w r&&c3 w&&kT (Xp w s) w.Epochs.length 0 then 0 else 2):=by have hl:=hw.len;have he:=hw.eps;have htags:Tags (cY w):=hw.tag;obtain⟨ys,y1,y2,y3,y4⟩:=rR 63 (cY w) htags hl (Iq hl (by decide));have hyl:=vh y2 y3;unfold eF c1 c2;cases h1:((((decide (s<1))||(decide (s>8)))||(decide (r<0)))||(decide (r>4096))) with|true=>simp|false=>cases h2:((decide (w.Newest<0))||(decide (w.Newest>4611686018427387904))) with|true=>simp only[Bool.or_assoc,Jr] at h2⊢;simp[h2]|false=>simp only[Hz] at h2;simp only[h2.1,h2.2,JR,Hm,yZ hw,Hs,IT,ID];cases h3:decide ((lenOf w:Int)>r) with|true=>simp|false=>simp only[Hm,Hs,IT,ID];simp only[Hz,Hy] at h1 h2 h3;rw [w8 (st := λi => (i : Int)) (n := w.Epochs.length) (p := Xp w s) (good := (.inl () : Unit ⊕ Int)) (bad := .inr 2)];(cases kT (Xp w s) w.Epochs.length 0 with|false=>simp|true=>simp only[Hn,Hs,za hw,y1,hyl,yZ hw,c3,bne,Bool.and_true];cases ((lR w).length:Int)==(lenOf w:Int)<;>rfl);intro i hi;(have hlt:(i:Int)<(w.Epochs.length:Int):=by omega);(have g1:w.Epochs.getD i ⟨0,[]⟩=w.Epochs[i]:=by simp[hi]);have n1:=gm (hw.num _ (HG hi));(have w1:IntKind.i64.wrap ((i:Int)+1)=((i+1:Nat):Int):=by rw[wrap64 (by omega)];rfl);(have em:((w.Epochs[i].Tags.length:Int)==0)=w.Epochs[i].Tags.isEmpty:=by cases w.Epochs[i].Tags<;>simp;omega);(have hprev:(bif decide ((i:Int)>0) then(idx w.Epochs (wrap .i64 ((i:Int) - 1))).bind λx894=>some (decide (x894.Number≥w.Epochs[i].Number)) else some false)=some (decide (0<i)&&decide (w.Epochs[i].Number≤(w.Epochs.getD (i - 1) ⟨0,[]⟩).Number)):=by by_cases h0:0<i;(have e1:(i:Int) - 1=((i - 1:Nat):Int):=by omega);(have h5:((i:Int)>0):=by omega);(have hi1:i - 1<w.Epochs.length:=by omega);rw[wrap64 (by omega),e1,cq hi1];simp[h5,h0,hi1];(have h5:¬((i:Int)>0):=by omega);simp[h5,h0]);simp only[hlt,Iu,Hn,cq hi,Hs,w1,Xp,Ua,TU,g1,em,hprev];rw[wrap64 (by omega)];(have k1:decide (w.Epochs[i].Number>w.Newest)= !(decide (w.Epochs[i].Number≤w.Newest)):=by by_cases h:w.Epochs[i].Number≤w.Newest;simp[h];simp[h];omega);(have k2:decide (w.Epochs[i].Number≤w.Newest - s)= !(decide (w.Newest - w.Epochs[i].Number<s)):=by by_cases h:w.Newest - w.Epochs[i].Number<s;simp[h];omega;simp[h];omega);rw[k1,k2];(cases hem:w.Epochs[i].Tags.isEmpty with|true=>simp only[Kh,Hn,Hs,HU,Le,Kx,Hm]|false=>(have hne:w.Epochs[i].Tags≠[]:=λh=>by rw[h] at hem;cases hem);rw[CS (ox hw hi) (Iq (tP hi) hl) hne];generalize decide (w.Epochs[i].Number<0)=b0;generalize decide (w.Epochs[i].Number≤w.Newest)=b1;generalize decide (w.Newest - w.Epochs[i].Number<s)=b2;generalize (decide (0<i)&&decide (w.Epochs[i].Number≤(w.Epochs.getD (i - 1) ⟨0,[]⟩).Number))=b3;generalize w9 w.Epochs[i].Tags=b4;cases b0<;>cases b1<;>cases b2<;>cases b3<;>cases b4<;>rfl);simp;rfl
theorem Do {ts:List (List Int)}:∀{k:Nat},UM ts k=true↔∀i,i<k→P9 (ts.getD (i+1) []) (ts.getD i [])=false|0=>by simp[UM]|k+1=>by rw[UM,Hx,Do,IF];constructor;rintro⟨h1,h2⟩ i hi;by_cases h:i=k;subst h;exact h2;exact h1 i (by omega);intro h;exact⟨λi hi=>h i (by omega),h k (by omega)⟩
theorem vV {ts:List (List Int)} (ht:Tags ts) (hn:ts.Nodup):UM ts (ts.length - 1)=w9 ts:=by (have key:∀i,i+1<ts.length→(P9 (ts.getD (i+1) []) (ts.getD i [])=false↔P9 (ts.getD i []) (ts.getD (i+1) [])=true):=by intro i hi;(have g1:ts.getD i []=ts[i]:=by simp[show i<ts.length by omega]);(have g2:ts.getD (i+1) []=ts[i+1]:=by simp[hi]);rw[g1,g2];(have a:ts[i]≠ts[i+1]:=λe=>by have:=(List.getElem_inj (h₀:=show i<ts.length by omega) (h₁:=hi) hn).1 e;omega);have l1:=(ht ts[i] (HG _)).1;have l2:=(ht ts[i+1] (HG _)).1;constructor;intro h;exact(pR (by rw[l1,l2]) a).resolve_right (by rw[h];simp);intro h;cases h2:P9 ts[i+1] ts[i] with|false=>rfl|true=>have:=kK h h2;rw[iT] at this;cases this);rw[H3,Do,w9,kj];constructor;intro h j _ hj;exact(key j (by omega)).1 (h j (by omega));intro h i hi;exact(key i (by omega)).2 (h i (by omega) (by omega))
theorem vi (hw:dY w) {s r:Int}:gx w s r=eF w s r:=by rw[nm hw,BO hw];cases h3:c3 w with|false=>simp|true=>(have a:(cY w).Nodup:=by (have h4:(lR w).length=lenOf w:=by have:=h3;simp only[c3,Jg] at this;omega);exact(ya (l:=cY w) (ks:=[]) (by simpa[lR,lenOf] using h4)).1);(have b:∀i,i<w.Epochs.length→TG w s i=Xp w s i:=by intro i hi;(have g1:w.Epochs.getD i ⟨0,[]⟩=w.Epochs[i]:=by simp[hi]);(have hn:(TU w i).Nodup:=by (have h5:(w.Epochs[i].Tags).Sublist (cY w):=by rw[my w i,lS hi,Ia];exact(I8 _ _).trans (IL _ _));simp only[TU,g1];exact a.sublist h5);(have ht:Tags (TU w i):=by simp only[TU,g1];exact ox hw hi);rw[TG,Xp,vV ht hn]);(have:kT (TG w s) w.Epochs.length 0=kT (Xp w s) w.Epochs.length 0:=by rw[H3,kj,kj];exact⟨λh j h1 h2=>(b j (by omega))▸h j h1 h2,λh j h1 h2=>(b j (by omega))▸h j h1 h2⟩);rw[this]
end
end Go.Proofs.YtobbmodjdkcdcaaGreatDoor
namespace Go.Proofs.YtobbmodjdkcdcaaGreatDoor
open Go Go.Sim
open Go.IntKind (wrap)
variable [Fu]
theorem Gi {x:Int} (h1:x< -9223372036854775808) (h2: -9223372036854785808≤x):IntKind.i64.wrap x=x+18446744073709551616:=by simp[wrap,IntKind.bits,IntKind.signed];omega
theorem Gj {x:Int} (h1:9223372036854775807<x) (h2:x≤9223372036854785807):IntKind.i64.wrap x=x - 18446744073709551616:=by simp[wrap,IntKind.bits,IntKind.signed];omega
theorem xa {a b d:Int} (ha:PA .i64 a) (hb:PA .i64 b) (hd: -2000≤d∧d≤2000):gz a b d=some (decide (a>b+d)):=by have ha:=gm ha;have hb:=gm hb;unfold gz;by_cases h1:b+d< -9223372036854775808;rw[Gi h1 (by omega)];(have e1:decide (d<0)=true:=by simp;omega);(have e2:decide (b+d+18446744073709551616>b)=true:=by simp;omega);(have e3:decide (a>b+d)=true:=by simp;omega);simp[e1,e2,e3];by_cases h2:9223372036854775807<b+d;rw[Gj h2 (by omega)];(have e1:decide (d<0)=false:=by simp;omega);(have e2:decide (d>0)=true:=by simp;omega);(have e3:decide (b+d - 18446744073709551616<b)=true:=by simp;omega);(have e4:decide (a>b+d)=false:=by simp;omega);rw[e1,e2,e3,e4];rfl;rw[wrap64 (by omega)];(have e1:(decide (d<0)&&decide (b+d>b))=false:=by cases h:decide (d<0)<;>simp at h⊢;omega);(have e2:(decide (d>0)&&decide (b+d<b))=false:=by cases h:decide (d>0)<;>simp at h⊢;omega);rw[e1,e2];rfl
def R7 (m s:Int) (e:aE):Bool:=decide (e.Number>m - s)
def oy (w:aA) (a s:Int):aA×Int:=bif decide (s<1)||decide (s>8)||decide (a<0)||decide (a>4611686018427387904) then(⟨0,[]⟩,2) else bif decide (w.Newest≥a+s)||decide (w.Newest<a - 1024) then(⟨0,[]⟩,161) else(⟨max w.Newest a,w.Epochs.filter (R7 (max w.Newest a) s)⟩,0)
section
variable {w:aA}
theorem BP (m s:Int) (i:Nat):((w.Epochs.take i).filter (R7 m s)).length≤i:=Iq (Ii _ _) (by simp;omega)
theorem BQ {ts:List (List Int)} (h:ts.length≤1048576):je ts=some ts:=by simp[je,aW (show([]:List (List Int)).length+ts.length≤F_ by simp[F_];omega)]
theorem BR (hw:dY w) {a s:Int} (ha:PA .i64 a):kU w a s=some (oy w a s):=by have hl:=hw.len;have he:=hw.eps;have hn:=gm hw.newest;unfold kU oy;cases hc:(decide (s<1)||decide (s>8)||decide (a<0)||decide (a>4611686018427387904)) with|true=>rfl|false=>simp only[Hz,Hy] at hc;obtain⟨⟨⟨c1,c2⟩,c3⟩,c4⟩:=hc;simp only[Hm];rw[wrap64 (x:=0 - s) (by omega),xa ha hw.newest (by omega),Hs];(have c:PA .i64 (max w.Newest a):=by show -9223372036854775808≤max w.Newest a∧max w.Newest a≤9223372036854775807;have:=gm ha;omega);cases h1:decide (a>w.Newest+(0 - s)) with|false=>(have:(decide (w.Newest≥a+s)||decide (w.Newest<a - 1024))=true:=by simp only[Hy] at h1;simp;omega);rw[this];rfl|true=>simp only[HB] at h1;simp only[HU,Hm];rw[xa ha hw.newest (by omega),Hs,Hs];(have e1:(decide (w.Newest≥a+s)||decide (w.Newest<a - 1024))=decide (a>w.Newest+1024):=by (have:decide (w.Newest≥a+s)=false:=by simp;omega);rw[this,Jr];congr 1;exact propext ⟨λh=>by omega,λh=>by omega⟩);rw[e1];cases h2:decide (a>w.Newest+1024) with|true=>rfl|false=>simp only[Hm];rw[LS (st:=λi=>((i:Int),(w.Epochs.take i).filter (R7 (max w.Newest a) s))) (res:=λ_=>(⟨max w.Newest a,w.Epochs.filter (R7 (max w.Newest a) s)⟩:aA)) (n:=w.Epochs.length)];rfl;intro i hi;left;(have h1:(i:Int)<(w.Epochs.length:Int):=by omega);have hf:=BP (w:=w) (max w.Newest a) s i;have d:=tP hi;refine⟨?_,rfl⟩;simp only[h1,Iu,Hn,cq hi,Hs];rw[xa (hw.num _ (HG hi)) c (by omega),Hs,wrap64 (by omega)];(have hk:decide (w.Epochs[i].Number>max w.Newest a+(0 - s))=R7 (max w.Newest a) s w.Epochs[i]:=by unfold R7;congr 1;exact propext ⟨λh=>by omega,λh=>by omega⟩);rw[hk,HA hi,JN];(cases b:R7 (max w.Newest a) s w.Epochs[i] with|true=>rw[BQ (by omega)];simp only[Hn,Hs];rw[aW (by simp[F_];omega)];simp[b]|false=>simp[b]);simp;simp
theorem CT (hw:dY w) {a s:Int} (ha:PA .i64 a):iE w a s=some (oy w a s):=by have hl:=hw.len;have he:=hw.eps;have hn:=gm hw.newest;unfold iE oy;cases hc:(decide (s<1)||decide (s>8)||decide (a<0)||decide (a>4611686018427387904)) with|true=>rfl|false=>simp only[Hz,Hy] at hc;obtain⟨⟨⟨c1,c2⟩,c3⟩,c4⟩:=hc;simp only[Hm];rw[wrap64 (x:=a+s) (by omega),wrap64 (x:=a - 1024) (by omega)];cases h1:(decide (w.Newest≥a+s)||decide (w.Newest<a - 1024)) with|true=>rfl|false=>simp only[Hz,Hy] at h1;simp only[Hm];rw[LS (st:=λi=>((i:Int),(w.Epochs.take i).filter (R7 (max w.Newest a) s))) (res:=λ_=>(⟨max w.Newest a,w.Epochs.filter (R7 (max w.Newest a) s)⟩:aA)) (n:=w.Epochs.length)];rfl;intro i hi;left;(have h1:(i:Int)<(w.Epochs.length:Int):=by omega);have hf:=BP (w:=w) (max w.Newest a) s i;have c:=tP hi;refine⟨?_,rfl⟩;simp only[h1,Iu,Hn,cq hi,Hs];rw[wrap64 (x:=max w.Newest a - s) (by omega),wrap64 (x:=(i:Int)+1) (by omega)];have hk:decide (w.Epochs[i].Number>max w.Newest a - s)=R7 (max w.Newest a) s w.Epochs[i]:=rfl;rw[hk,HA hi,JN];(cases b:R7 (max w.Newest a) s w.Epochs[i] with|true=>simp only[Hn];rw[aW (by simp[F_];omega),Hs,aW (by simp[F_];omega)];simp[b]|false=>simp[b]);simp;simp
end
end Go.Proofs.YtobbmodjdkcdcaaGreatDoor
namespace Go.Proofs.YtobbmodjdkcdcaaGreatDoor
open Go Go.Sim
open Go.IntKind (wrap)
variable [Fu]
section
variable {w:aA}
end
end Go.Proofs.YtobbmodjdkcdcaaGreatDoor
namespace Go.Proofs.YtobbmodjdkcdcaaGreatDoor
open Go Go.Sim
open Go.IntKind (wrap)
variable [Fu]
def Pt (ts:List (List Int)):List (List Int):=ts.mergeSort λx y=> !P9 y x
theorem eQ (ts:List (List Int)):(Pt ts).Perm ts:=List.mergeSort_perm _ _
theorem jP {ts:List (List Int)} (ht:Tags ts) (hn:ts.Nodup):Pw (Pt ts):=by obtain⟨d,hd⟩:=Dm ts (λx hx=>(ht x hx).1) (λx hx=>(ht x hx).2);(have hs:(d.mergeSort λx y=> !ltOf SZ y x).Pairwise λa b=>(!ltOf SZ b a)=true:=by refine List.pairwise_mergeSort (λa b c h1 h2=>?_) (λa b=>?_) d;simp only[IF,Bool.not_eq_eq_eq_not,HU] at*;exact V6.ntrans _ _ _ h2 h1;cases h1:ltOf SZ b a with|false=>simp|true=>cases h2:ltOf SZ a b with|false=>simp|true=>have:=V6.trans _ _ _ h1 h2;rw[V6.irrefl] at this;cases this);(have f:(d.mergeSort λx y=> !ltOf SZ y x).Nodup:=by (have h2:d.Nodup:=by rw[←hd] at hn;exact(Kz.1 hn).imp λh e=>h (by rw[e]));exact(List.mergeSort_perm d _).nodup_iff.2 h2);unfold Pt Pw;rw[←hd,←si,Kz];refine(hs.and f).imp λ{a b} ⟨h1,h2⟩=>?_;rw[←rP];cases h3:ltOf SZ a b with|true=>rfl|false=>simp only[IF,Bool.not_eq_eq_eq_not,HU] at h1;exact absurd (GM a b h3 h1) h2
theorem lT:∀{a b:List (List Int)},Pw a→Pw b→(∀t,t∈a↔t∈b)→a=b|[],[],_,_,_=>rfl|[],y::b,_,_,h=>by have:=(h y).2 (by simp);simp at this|x::a,[],_,_,h=>by have:=(h x).1 (by simp);simp at this|x::a,y::b,ha,hb,h=>by have c:=IQ.1 ha;have d:=IQ.1 hb;(have e:x=y:=by have h1:=(h x).1 (by simp);have h2:=(h y).2 (by simp);rcases H2.1 h1 with h1|h1;exact h1;rcases H2.1 h2 with h2|h2;exact h2.symm;have:=kK (d.1 x h1) (c.1 y h2);rw[iT] at this;cases this);subst e;congr 1;refine lT c.2 d.2 λt=>⟨λht=>?_,λht=>?_⟩;rcases H2.1 ((h t).1 (by simp[ht])) with rfl|h1;have:=c.1 t ht;rw[iT] at this;cases this;exact h1;rcases H2.1 ((h t).2 (by simp[ht])) with rfl|h1;have:=d.1 t ht;rw[iT] at this;cases this;exact h1
theorem vj {a:List (List Int)} (h:Pw a):a.Nodup:=h.imp λ{x y} h e=>by subst e;rw[iT] at h;cases h
theorem Fj {ts:List (List Int)} (ht:Tags ts) (hl:ts.length≤4000000):w4 ts=some (Pt ts):=by unfold w4;rw[Il ⟨λx hx=>(ht x hx).2,by omega⟩];rfl
theorem sE {ts:List (List Int)} (ht:Tags ts) (h:Pw ts):Pt ts=ts:=lT (jP ht (vj h)) h λt=>(eQ ts).mem_iff
def Se (tags:List (List Int)):Nat→List (List Int×Int)|0=>[]|i+1=>match tags[i]? with|some t=>O4 t (i:Int) (Se tags i)|none=>Se tags i
theorem zc {tags:List (List Int)}:∀i,i≤tags.length→(Se tags i).map (·.1)=(tags.take i).foldl PO []|0,_=>by simp[Se]|i+1,h=>by have hi:i<tags.length:=h;(have:tags[i]? =some tags[i]:=by simp[hi]);rw[Se,this,HA hi,I9,←zc i (by omega)];simp[uS]
theorem zd {x:List Int}:∀{ps:List (List Int×Int)},(ps.map (·.1)).Nodup→(mdel x ps).map (·.1)=(ps.map (·.1)).filter (λy=> !(x==y))|[],_=>rfl|p::ps,hn=>by have a:=Jj.1 hn;by_cases h:x=p.1;subst h;(have hf:(ps.map (·.1)).filter (λy=> !(p.1==y))=ps.map (·.1):=Km.2 λy hy=>by have:p.1≠y:=λe=>a.1 (by show p.1∈_;rw[e];exact hy);simpa using this);simp[mdel,hf];(have b:(x==p.1)=false:=by simpa using h);have ih:=zd (x:=x) a.2;simp[mdel,b,ih]
theorem ze:∀{qs ps:List (List Int×Int)},(ps.map (·.1)).Nodup→(qs.foldl (λs q=>mdel q.1 s) ps).map (·.1)=(ps.map (·.1)).filter λy=>decide (y∉qs.map (·.1))|[],ps,_=>by simp only[List.foldl_nil];exact(Km.2 λy _=>by simp).symm|q::qs,ps,hn=>by have h1:=zd (x:=q.1) hn;(have a:((mdel q.1 ps).map (·.1)).Nodup:=by rw[h1];exact hn.filter _);rw[IE,ze a,h1,List.filter_filter];refine List.filter_congr λy _=>?_;by_cases h:q.1=y;subst h;simp;have h':¬y=q.1:=λe=>h e.symm;(have h2:(q.1==y)=false:=by simpa using h);simp only[HX,H2,h',false_or,h2,IT,Bool.and_true]
theorem vk {α β:Type} {f:β→α→β}:∀{l:List α} {s:β},l.foldlM (λs q=>some (f s q)) s=some (l.foldl f s)|[],s=>rfl|a::l,s=>by rw[KO,IE];exact vk
def dL (ep:Int) (ad:List (List Int)) (s:List aE×Bool) (e:aE):List aE×Bool:=bif s.2 then(s.1++[e],true) else bif decide (e.Number≥ep) then bif decide (e.Number>ep) then(s.1++[⟨ep,ad⟩,e],true) else(s.1++[{e with Tags:=ad++e.Tags}],true) else(s.1++[e],false)
def Si (es:List aE) (ep:Int) (ad:List (List Int)):List aE×Bool:=es.foldl (dL ep ad) ([],(ad.length:Int)==0)
def QN (es:List aE) (ep:Int) (ad:List (List Int)):List aE:=bif (Si es ep ad).2 then(Si es ep ad).1 else(Si es ep ad).1++[⟨ep,ad⟩]
theorem Ek {ep:Int} {ad:List (List Int)} {s:List aE×Bool} {e:aE}:(dL ep ad s e).1.length≤s.1.length+2:=by unfold dL;cases s.2<;>cases decide (e.Number≥ep)<;>cases decide (e.Number>ep)<;>simp
theorem pv {ep:Int} {ad:List (List Int)}:∀{es:List aE} {s:List aE×Bool},(es.foldl (dL ep ad) s).1.length≤s.1.length+2*es.length|[],s=>by simp|e::es,s=>by have h1:=Ek (ep:=ep) (ad:=ad) (s:=s) (e:=e);have h2:=pv (ep:=ep) (ad:=ad) (es:=es) (s:=dL ep ad s e);rw[IE,HL];omega
theorem rS {ts:List (List Int)} (h:ts.length≤4000000):cm ts=some ts:=by simp[cm,aW (show([]:List (List Int)).length+ts.length≤F_ by simp[F_];omega)]
def eu (e:aE):aE:={e with Tags:=Pt e.Tags}
theorem El {es:List aE} {n:Int} (hl:es.length≤4000000) (ht:∀e∈es,Tags e.Tags∧e.Tags.length≤4000000):
   Loop.run (S:=((List aE)×Int)) (R:=aA) (λ(x707,x708)=>
     bif decide (x708<(es.length:Int)) then
      (idx x707 x708).bind λx726=>
      (w4 x726.Tags).bind λy735=>
      some (.next (List.set x707 (Int.toNat x708) ({x726 with Tags:=y735}:aE),wrap .i64 (x708+1)))
     else
      some (.done (⟨n,x707⟩:aA))) (es,0)=some ⟨n,es.map eu⟩:=by
 have hat:∀i,(h:i<es.length)→((es.take i).map eu++es.drop i)[i]? =some es[i]:=λi h=>by
   rw[List.getElem?_append_right (by simp;omega)]
   simp[Ij (Nat.le_of_lt h),h]
 rw[LS (st:=λi=>((es.take i).map eu++es.drop i,(i:Int))) (res:=λ_=>(⟨n,es.map eu⟩:aA)) (n:=es.length)]
 · intro i hi
   left
   have h1:(i:Int)<(es.length:Int):=by omega
   have hlen:((es.take i).map eu++es.drop i).length=es.length:=by simp;omega
   refine⟨?_,rfl⟩
   simp only[h1,Iu,Hn]
   rw[cq (show i<((es.take i).map eu++es.drop i).length by omega),Hs]
   have hg : ((es.take i).map eu ++ es.drop i)[i]'(by omega) = es[i] := by
    have:=hat i hi
    rw[H4 (by omega)] at this
    exact Option.some.inj this
   rw[hg,Fj (ht _ (HG hi)).1 (ht _ (HG hi)).2,Hs,wrap64 (by omega)]
   have hset:((es.take i).map eu++es.drop i).set i (eu es[i])=(es.take (i+1)).map eu++es.drop (i+1):=by
    rw[J4 _ _ (by simp;omega),show i - ((es.take i).map eu).length=0 by simp;omega,IU hi,Kv,HA hi,Im,HS]
    rfl
   have hz:Int.toNat (i:Int)=i:=by simp
   rw[hz]
   have:({es[i] with Tags:=Pt es[i].Tags}:aE)=eu es[i]:=rfl
   rw[this,hset]
   simp
 · simp
 · simp
section
variable {w:aA}
theorem Dp {es:List aE} {i:Nat} (hi:i<es.length) {ep:Int} {ad:List (List Int)} {s:List aE×Bool}:(es.take (i+1)).foldl (dL ep ad) s=dL ep ad ((es.take i).foldl (dL ep ad) s) es[i]:=by rw[HA hi,I9];rfl
theorem Fk (hw:dY w) {ep:Int} {ad:List (List Int)} (had:ad.length≤1048576):
   Loop.run (S:=(Int×(List aE)×Bool)) (R:=((List aE)×Bool)) (fun(x226,x228,mode_)=>
       bif mode_ then
        bif decide (x226<(w.Epochs.length:Int)) then
         (idx w.Epochs x226).bind λx467=>
         ((some ()
          :Option Unit)).bind λ_=>
         (cm x467.Tags).bind λy476=>
         (app x228 [(⟨x467.Number,y476⟩:aE)]).bind λz479=>
         some (.next (wrap .i64 (x226+1),z479,true))
        else
         some (.done (x228,true))
       else
        bif decide (x226<(w.Epochs.length:Int)) then
         (idx w.Epochs x226).bind λx292=>
         bif decide (x292.Number≥ep) then
          bif decide (x292.Number>ep) then
           (app x228 [(⟨ep,ad⟩:aE)]).bind λz299=>
           (cm x292.Tags).bind λy303=>
           (app z299 [(⟨x292.Number,y303⟩:aE)]).bind λz306=>
           some (.next (wrap .i64 (x226+1),z306,true))
          else
           (app ad x292.Tags).bind λz310=>
           (cm (({x292 with Tags:=z310}:aE).Tags)).bind λy313=>
           (app x228 [(⟨({x292 with Tags:=z310}:aE).Number,y313⟩:aE)]).bind λz316=>
           some (.next (wrap .i64 (x226+1),z316,true))
         else
          (cm x292.Tags).bind λy320=>
          (app x228 [(⟨x292.Number,y320⟩:aE)]).bind λz323=>
          some (.next (wrap .i64 (x226+1),z323,false))
        else
         some (.done (x228,false))) (0,[],(ad.length:Int)==0)=some (Si w.Epochs ep ad):=by
 have hl:=hw.len
 have he:=hw.eps
 rw[LS (st:=λi=>((i:Int),(w.Epochs.take i).foldl (dL ep ad) ([],(ad.length:Int)==0))) (res:=λ_=>Si w.Epochs ep ad) (n:=w.Epochs.length)]
 · intro i hi
   left
   have h1:(i:Int)<(w.Epochs.length:Int):=by omega
   have hep:=tP hi
   have hlen:=pv (ep:=ep) (ad:=ad) (es:=w.Epochs.take i) (s:=([],(ad.length:Int)==0))
   simp only[H1,HN] at hlen
   refine⟨?_,rfl⟩
   simp only[Dp hi]
   generalize (w.Epochs.take i).foldl (dL ep ad) ([],(ad.length:Int)==0)=s at hlen⊢
   obtain⟨acc,m⟩:=s
   simp only at hlen
   have hs:((i:Int)+1)=((i+1:Nat):Int):=by simp
   cases m with
   |true=>
    simp only[h1,Iu,Hn,cq hi,Hs]
    rw[rS (by omega),Hs,aW (by simp[F_];omega),Hs,wrap64 (by omega),hs]
    rfl
   |false=>
    simp only[h1,Iu,Hn,Hm,cq hi,Hs]
    unfold dL
    simp only[Hm]
    cases hge:decide (w.Epochs[i].Number≥ep) with
    |false=>
     simp only[Hm]
     rw[rS (by omega),Hs,aW (by simp[F_];omega),Hs,wrap64 (by omega),hs]
    |true=>
     simp only[Hn]
     cases hgt:decide (w.Epochs[i].Number>ep) with
     |true=>
      simp only[Hn]
      rw[aW (by simp[F_];omega),Hs,rS (by omega),Hs,aW (by simp[F_];omega),Hs,wrap64 (by omega),hs]
      simp
     |false=>
      simp only[Hm]
      rw[aW (by simp[F_];omega),Hs,rS (by simp;omega),Hs,aW (by simp[F_];omega),Hs,wrap64 (by omega),hs]
 · have h2:¬((w.Epochs.length:Int)<(w.Epochs.length:Int)):=by omega
   simp only[HY,Si]
   generalize w.Epochs.foldl (dL ep ad) ([],(ad.length:Int)==0)=s
   obtain⟨acc,m⟩:=s
   cases m<;>simp
 · simp
end
end Go.Proofs.YtobbmodjdkcdcaaGreatDoor
namespace Go.Proofs.YtobbmodjdkcdcaaGreatDoor
open Go Go.Sim
open Go.IntKind (wrap)
variable [Fu]
def jE (w:aA) (tags:List (List Int)):List (List Int):=(tags.foldl PO []).filter λy=>decide (y∉cY w)
def fh (w:aA) (tags:List (List Int)):List (List Int):=Pt (jE w tags)
def UN (w:aA):Bool:=c1 8 4096&&c2 w 4096&&c3 w&&kT (TG w 8) w.Epochs.length 0
def Rg (w:aA) (ep:Int) (tags:List (List Int)) (r:Int):aA×Int:=bif decide (r<0)||decide (r>4096)|| !UN w then(⟨0,[]⟩,2) else bif decide (ep<0)|| !(decide (ep≤w.Newest)&&decide (w.Newest - ep<8)) then(⟨0,[]⟩,161) else bif decide ((lenOf w:Int)+((fh w tags).length:Int)>r) then(⟨0,[]⟩,160) else(⟨w.Newest,(QN w.Epochs ep (fh w tags)).map eu⟩,0)
theorem nn {w:aA} {tags:List (List Int)}:(jE w tags).Nodup:=(rx Ld).filter _
theorem nT {w:aA} {tags:List (List Int)} {t:List Int}:t∈jE w tags↔t∈tags∧t∉cY w:=by unfold jE;rw[I0,uR];simp
theorem oz {w:aA} {tags:List (List Int)} (ht:Tags tags):Tags (jE w tags):=λt h=>ht t (nT.1 h).1
theorem rh {a b:List (List Int)} (ht:Tags a) (hn:a.Nodup) (hp:a.Perm b):Pt a=Pt b:=lT (jP ht hn) (jP (λt h=>ht t (hp.mem_iff.2 h)) (hp.nodup_iff.1 hn)) λt=>by rw[(eQ a).mem_iff,(eQ b).mem_iff];exact hp.mem_iff
theorem CU {ep:Int} {a b:List (List Int)} {s s':List aE×Bool} {e:aE} (h1:s.1.map eu=s'.1.map eu) (h2:s.2=s'.2) (ha:Pt a=Pt b) (hc:Pt (a++e.Tags)=Pt (b++e.Tags)): (dL ep a s e).1.map eu=(dL ep b s' e).1.map eu∧(dL ep a s e).2=(dL ep b s' e).2:=by obtain⟨x,m⟩:=s;obtain⟨y,m'⟩:=s';simp only at h1 h2;subst h2;unfold dL;cases m<;>cases decide (e.Number≥ep)<;>cases decide (e.Number>ep)<;>simp[h1,eu,ha,hc]
theorem xb {ep:Int} {a b:List (List Int)} (ha:Pt a=Pt b):∀{es:List aE} {s s':List aE×Bool},(∀e∈es,Pt (a++e.Tags)=Pt (b++e.Tags))→s.1.map eu=s'.1.map eu→s.2=s'.2→ (es.foldl (dL ep a) s).1.map eu=(es.foldl (dL ep b) s').1.map eu∧(es.foldl (dL ep a) s).2=(es.foldl (dL ep b) s').2|[],s,s',_,h1,h2=>⟨h1,h2⟩|e::es,s,s',hc,h1,h2=>by obtain⟨h3,h4⟩:=CU (ep:=ep) h1 h2 ha (hc e (by simp));exact xb (s:=dL ep a s e) (s':=dL ep b s' e) ha (λx hx=>hc x (by simp[hx])) h3 h4
theorem Em {es:List aE} {ep:Int} {a b:List (List Int)} (hl:a.length=b.length) (ha:Pt a=Pt b) (hc:∀e∈es,Pt (a++e.Tags)=Pt (b++e.Tags)):(QN es ep a).map eu=(QN es ep b).map eu:=by obtain⟨h1,h2⟩:=xb (ep:=ep) ha (s:=([],(a.length:Int)==0)) (s':=([],(b.length:Int)==0)) hc rfl (by simp[hl]);unfold QN Si;rw[h2];cases (es.foldl (dL ep b) ([],(b.length:Int)==0)).2<;>simp[h1,eu,ha]
theorem CV {tags:List (List Int)} (hl:tags.length≤1048576):
   Loop.run (S:=(Int×(List ((List Int)×Int)))) (R:=(List ((List Int)×Int))) (λ(x901,x902)=>
    bif decide (x901<(tags.length:Int)) then
     (idx tags x901).bind λx912=>
     some (.next (wrap .i64 (x901+1),O4 x912 x901 x902))
    else
     some (.done x902)) (0,[])=some (Se tags tags.length):=by
 rw[LS (st:=λi=>((i:Int),Se tags i)) (res:=λ_=>Se tags tags.length) (n:=tags.length)]
 · intro i hi
   left
   have h1:(i:Int)<(tags.length:Int):=by omega
   have h2:tags[i]? =some tags[i]:=by simp[hi]
   refine⟨?_,rfl⟩
   simp only[h1,Iu,Hn,cq hi,Hs,Se,h2]
   rw[wrap64 (by omega)];simp
 · simp
 · simp[Se]
section
variable {w:aA}
theorem sF (h:c3 w=true):(cY w).Nodup:=by (have h4:(lR w).length=lenOf w:=by have:=h;simp only[c3,Jg] at this;omega);exact(ya (l:=cY w) (ks:=[]) (by simpa[lR,lenOf] using h4)).1
theorem BS:∀{qs:List (List Int×Int)} {acc:List (List Int)},acc.length+qs.length≤4000000→ qs.foldlM (λa b=>(app a [b.1]).bind λc=>some c) acc=some (acc++qs.map (·.1))|[],acc,_=>by simp|q::qs,acc,h=>by simp only[HL] at h;rw[KO,aW (by simp[F_];omega)];simp only[Hs,Option.bind_eq_bind];rw[BS (by simp;omega)];simp
theorem BU {es:List aE} {ep:Int} {ad:List (List Int)} (P:aE→Prop) (h1:∀e∈es,P e) (h2:P ⟨ep,ad⟩) (h3:∀e∈es,P {e with Tags:=ad++e.Tags}):∀e∈QN es ep ad,P e:=by (have key:∀(l:List aE),(∀e∈l,e∈es)→∀s:List aE×Bool,(∀e∈s.1,P e)→∀e∈(l.foldl (dL ep ad) s).1,P e:=by intro l;induction l with|nil=>intro _ s hs;exact hs| cons x l ih =>intro hl s hs;rw[IE];refine ih (λe he=>hl e (by simp[he])) _ λe he=>?_;have hx:=hl x (by simp);unfold dL at he;cases h4:s.2<;>cases h5:decide (x.Number≥ep)<;>cases h6:decide (x.Number>ep)<;>simp[h4,h5,h6] at he<;>rcases he with he|he<;>first|exact hs e he|(rw[he];first|exact h1 x hx|exact h3 x hx)|(rcases he with he|he<;>rw[he]<;>first|exact h2|exact h1 _ hx));intro e he;have hfold:=key es (λe h=>h) ([],(ad.length:Int)==0) (by simp);unfold QN Si at he;cases hm:(es.foldl (dL ep ad) ([],(ad.length:Int)==0)).2<;>rw[hm] at he<;>simp only[Hn,Hm] at he;rcases HO.1 he with he|he;exact hfold e he;simp at he;subst he;exact h2;exact hfold e he
theorem Fl {es:List aE} {ep:Int} {ad:List (List Int)}:(QN es ep ad).length≤2*es.length+1:=by have:=pv (ep:=ep) (ad:=ad) (es:=es) (s:=([],(ad.length:Int)==0));unfold QN Si;cases (es.foldl (dL ep ad) ([],(ad.length:Int)==0)).2<;>simp at this⊢<;>omega
end
end Go.Proofs.YtobbmodjdkcdcaaGreatDoor
namespace Go.Proofs.YtobbmodjdkcdcaaGreatDoor
open Go Go.Sim
open Go.IntKind (wrap)
variable [Fu]
theorem lU {α β:Type} {o:Option α} {a:α} {k:α→Option β} {r:Option β} (h:o=some a) (hk:k a=r):o.bind k=r:=by rw[h];exact hk
section
variable {w:aA}
theorem xc (hw:dY w) (hn:(cY w).Nodup) {ep:Int} {tags ad:List (List Int)} (ht:Tags tags) (hl:tags.length≤1048576) (hp:ad.Perm (jE w tags)): (QN w.Epochs ep ad).map eu=(QN w.Epochs ep (fh w tags)).map eu∧ad.length=(fh w tags).length∧ad.length≤1048576∧∀e∈QN w.Epochs ep ad,Tags e.Tags∧e.Tags.length≤4000000:=by have hF:=(eQ (jE w tags));have d:ad.Perm (fh w tags):=hp.trans hF.symm;have hK:=oz (w:=w) ht;have c:Tags ad:=λt h=>hK t (hp.mem_iff.1 h);have f:ad.Nodup:=hp.nodup_iff.2 nn;(have m:(jE w tags).length≤1048576:=by have h1:(jE w tags).length≤(tags.foldl PO []).length:=Ii _ _;have h2:=zy (l:=tags) (ks:=([]:List (List Int)));simp at h2;omega);(have n:ad.length≤1048576:=by rw[hp.length_eq];exact m);have p:=hw.len;(have o:∀e∈w.Epochs,(ad++e.Tags).Nodup:=λe he=>by (have hs:e.Tags.Sublist (cY w):=by obtain⟨j,hj,rfl⟩:=Ix he;rw[my w j,lS hj,Ia];exact((I8 _ _).trans (IL _ _)));refine Ja.2 ⟨f,hn.sublist hs,λa ha b hb e=>?_⟩;subst e;exact(nT.1 (hp.mem_iff.1 ha)).2 (hs.subset hb));(have i:∀e∈w.Epochs,Tags e.Tags:=λe he=>by obtain⟨j,hj,rfl⟩:=Ix he;exact ox hw hj);(have k:∀e∈w.Epochs,e.Tags.length≤1048576:=λe he=>by obtain⟨j,hj,rfl⟩:=Ix he;have:=tP hj;omega);refine⟨Em d.length_eq (rh c f d) λe he=>rh (λt h=>?_) (o e he) (d.append_right _),d.length_eq,n,?_⟩;rcases HO.1 h with h|h;exact c t h;exact i e he t h;refine BU (λe=>Tags e.Tags∧e.Tags.length≤4000000) (λe he=>⟨i e he,by have:=k e he;omega⟩) ⟨c,by simp only;omega⟩ λe he=>⟨λt h=>?_,by have:=k e he;simp;omega⟩;rcases HO.1 h with h|h;exact c t h;exact i e he t h
theorem CW (hw:dY w) {ep r:Int} (hep:PA .i64 ep) {tags:List (List Int)} (ht:Tags tags) (hl:tags.length≤1048576):mf w ep tags r=some (Rg w ep tags r):=by have hwl:=hw.len;have hwe:=hw.eps;have hne:=gm hw.newest;have hepr:=gm hep;unfold mf Rg;cases hr:(decide (r<0)||decide (r>4096)) with|true=>simp|false=>simp only[Hm,Jr];rw[nm hw];have hok:(c1 8 4096&&c2 w 4096&&c3 w&&kT (TG w 8) w.Epochs.length 0)=UN w:=rfl;rw[hok];cases hb:UN w with|false=>simp|true=>have hb':=hb;unfold UN at hb';simp only[Hx] at hb';obtain⟨⟨⟨_,hc2⟩,hc3⟩,_⟩:=hb';(have hN:0≤w.Newest∧w.Newest≤4611686018427387904:=by unfold c2 at hc2;simp at hc2;omega);have hnd:=sF hc3;simp only[Hn,Hs,HJ,Hm,HU];cases h1:decide (ep<0) with|true=>simp|false=>simp only[Hy] at h1;(have hk:iS ep w.Newest 8=some (decide (ep≤w.Newest)&&decide (w.Newest - ep<8)):=by unfold iS;rw[wrap64 (by omega)]);simp only[Hm,hk,Hs,Jr];cases h2:(decide (ep≤w.Newest)&&decide (w.Newest - ep<8)) with|false=>simp|true=>simp only[HU,Hm];rw[CV hl];obtain⟨m,hm,hmk⟩:=tQ hw;rw[hm];simp only[Hs];refine zt λqs hq=>?_;rw[vk (f:=λs (q:List Int×Int)=>mdel q.1 s)];simp only[Hs];have hfk:=zc (tags:=tags) tags.length (HK _);rw[HY] at hfk;(have hkeys:(qs.foldl (λs q=>mdel q.1 s) (Se tags tags.length)).map (·.1)=jE w tags:=by rw[ze (by rw[hfk];exact rx Ld),hfk];unfold jE;refine List.filter_congr λy _=>?_;(have:y∈qs.map (·.1)↔y∈cY w:=by rw[(hq.map _).mem_iff,hmk,lR,uR];simp);simp[this]);generalize qs.foldl (λs q=>mdel q.1 s) (Se tags tags.length)=fm at hkeys;(have hfl:fm.length=(jE w tags).length:=by rw[←hkeys];simp);have hFl:(fh w tags).length=(jE w tags).length:=(eQ _).length_eq;obtain⟨_,_,hKl,_⟩:=xc hw hnd (ep:=ep) ht hl (List.Perm.refl (jE w tags));rw[w6 hw];simp only[Hs];rw[wrap64 (by omega),hfl,hFl];cases h3:decide ((lenOf w:Int)+((jE w tags).length:Int)>r) with|true=>rfl|false=>simp only[Hm];refine zt λps hps=>?_;(have hadp:(ps.map (·.1)).Perm (jE w tags):=by rw[←hkeys];exact hps.map _);obtain⟨t1,t2,t3,t4⟩:=xc hw hnd (ep:=ep) ht hl hadp;have hapl:=BS (qs:=ps) (acc:=[]) (by have:=hps.length_eq;simp;omega);rw[HM] at hapl;rw[hapl];simp only[Hs];refine lU (Fk hw t3) ?_;have hpl:=Fl (es:=w.Epochs) (ep:=ep) (ad:=ps.map (·.1));have hsl:=El (n:=w.Newest) (by omega) t4;rw[←t1];unfold QN at hsl hpl⊢;generalize hI:Si w.Epochs ep (ps.map (·.1))=s at hsl hpl⊢;obtain⟨acc,mo⟩:=s;cases mo with|true=>simp only[Hn] at hsl⊢;exact lU (lU hsl rfl) rfl|false=>simp only[Hm] at hsl hpl⊢;exact lU (lU (aW (by simp at hpl;simp[F_];omega)) rfl)<|lU (lU hsl rfl) rfl
end
end Go.Proofs.YtobbmodjdkcdcaaGreatDoor
namespace Go.Proofs.YtobbmodjdkcdcaaGreatDoor
open Go Go.Sim
open Go.IntKind (wrap)
variable [Fu]
theorem Fm {i:Nat} (h:i≤4000000):IntKind.i64.wrap ((i:Int)+1)=((i+1:Nat):Int):=by rw[wrap64 (by omega)];simp
theorem En {xs:List (List Int)} (ht:Tags xs) (hl:xs.length≤1048576) (hn:xs.Nodup):bV 64 xs=some (Pt xs):=by obtain⟨ys,h1,h2,h3,_⟩:=rR 63 xs ht hl (Iq hl (by decide));rw[h1,lT h2 (jP ht hn) λt=>by rw[h3,(eQ xs).mem_iff]]
theorem Al {a:List (List Int)} {p:List Int→Bool} (h:Pw a):Pw (a.filter p):=h.filter _
section
variable {w:aA}
noncomputable def vW (w:aA) (ep:Int) (ad:List (List Int)):Bool×Int×List aE→Option (Qp (Bool×Int×List aE) aA):=λ(x1417,x1418,x1420)=>bif decide (x1418≤(w.Epochs.length:Int)) then ((((bif !x1417 then ((bif x1418==(w.Epochs.length:Int) then some true else (idx w.Epochs x1418).bind λx1554=>some (decide (x1554.Number>ep)) :Option Bool)).bind λx1553=>some x1553 else some false :Option Bool)).bind λx1550=>bif x1550 then (app x1420 [(⟨ep,ad⟩:aE)]).bind λz1556=>some (true,z1556) else some (x1417,x1420) :Option (Bool×(List aE)))).bind λr1509=>match r1509 with|(x1506,x1508)=>bif x1418==(w.Epochs.length:Int) then some (.done (⟨w.Newest,x1508⟩:aA)) else (idx w.Epochs x1418).bind λx1514=>(app [] x1514.Tags).bind λz1517=>((bif (x1514.Number==ep)&&(!x1506) then (app z1517 ad).bind λz1540=>(bV 64 z1540).bind λy1543=>some (true,y1543) else some (x1506,z1517) :Option (Bool×(List (List Int))))).bind λr1530=>match r1530 with|(x1528,x1529)=>(app x1508 [(⟨x1514.Number,x1529⟩:aE)]).bind λz1533=>some (.next (x1528,wrap .i64 (x1418+1),z1533)) else some (.done (⟨w.Newest,x1420⟩:aA))
theorem Gk (hw:dY w) {ep:Int} {ad:List (List Int)} (hre:∀e∈w.Epochs,Pw e.Tags) (hra:Pw ad) (hta:Tags ad) (hla:ad.length≤4096) (hle:∀e∈w.Epochs,e.Tags.length≤4096) (hnd:∀e∈w.Epochs,(ad++e.Tags).Nodup) {i:Nat} (hi:i<w.Epochs.length) (s:List aE×Bool) (hs:s.1.length≤4000000): vW w ep ad (s.2,(i:Int),s.1.map eu)=some (.next ((dL ep ad s w.Epochs[i]).2,((i+1:Nat):Int),(dL ep ad s w.Epochs[i]).1.map eu)):=by have hwe:=hw.eps;(have h1:decide ((i:Int)≤(w.Epochs.length:Int))=true:=by simp;omega);(have h2:((i:Int)==(w.Epochs.length:Int))=false:=by simp;omega);unfold vW;simp only[h1,h2,Hn,Hm,cq hi,Hs,Fm (show i≤4000000 by omega)];obtain⟨acc,m⟩:=s;simp only at hs;have hm:=HG hi;have hte:=ox hw hi;(have hse:eu w.Epochs[i]=w.Epochs[i]:=by unfold eu;rw[sE hte (hre _ hm)]);(have hsa:eu ⟨ep,ad⟩=⟨ep,ad⟩:=by unfold eu;simp only;rw[sE hta hra]);have hl2:=hle _ hm;(have hap:app [] w.Epochs[i].Tags=some w.Epochs[i].Tags:=by rw[aW (by simp[F_];omega)];rfl);have happ:∀(x:List aE) (y:aE),x.length≤4000001→app x [y]=some (x++[y]):=λx y h=>aW (by simp[F_];omega);cases m with|true=>simp only[HU,Hm,Hs,hap,Le];rw[happ _ _ (by simp;omega)];simp[dL,hse]|false=>simp only[IT,Hn,Hs];cases hgt:decide (w.Epochs[i].Number>ep) with|true=>(have hge:decide (w.Epochs[i].Number≥ep)=true:=by simp at hgt⊢;omega);simp only[Hn];rw[happ _ _ (by simp;omega)];simp only[Hs,hap,HU,Le,Hm];rw[happ _ _ (by simp;omega)];simp[dL,hge,hgt,hse,hsa]|false=>simp only[Hm,Hs,hap,IT,Bool.and_true];cases heq:(w.Epochs[i].Number==ep) with|true=>(have hge:decide (w.Epochs[i].Number≥ep)=true:=by simp at heq⊢;omega);have hnd':(w.Epochs[i].Tags++ad).Nodup:=(List.perm_append_comm.nodup_iff).1 (hnd _ hm);(have htt:Tags (w.Epochs[i].Tags++ad):=λt h=>by rcases HO.1 h with h|h;exact hte t h;exact hta t h);simp only[Hn];rw[aW (by simp[F_];omega),Hs,En htt (by simp;omega) hnd'];simp only[Hs];rw[happ _ _ (by simp;omega)];have:Pt (w.Epochs[i].Tags++ad)=Pt (ad++w.Epochs[i].Tags):=rh htt hnd' List.perm_append_comm;simp[dL,hge,hgt,eu,this]|false=>(have hge:decide (w.Epochs[i].Number≥ep)=false:=by simp at heq hgt⊢;omega);simp only[Hm,Hs];rw[happ _ _ (by simp;omega)];simp[dL,hge,hgt,hse]
theorem Fn (hw:dY w) {ep:Int} {ad:List (List Int)} (hre:∀e∈w.Epochs,Pw e.Tags) (hra:Pw ad) (hta:Tags ad) (hla:ad.length≤4096) (hle:∀e∈w.Epochs,e.Tags.length≤4096) (hnd:∀e∈w.Epochs,(ad++e.Tags).Nodup): Loop.run (vW w ep ad) ((ad.length:Int)==0,0,[])=some ⟨w.Newest,(QN w.Epochs ep ad).map eu⟩:=by have hwe:=hw.eps;rw[LS (st:=λi=>(((w.Epochs.take i).foldl (dL ep ad) ([],(ad.length:Int)==0)).2,(i:Int),((w.Epochs.take i).foldl (dL ep ad) ([],(ad.length:Int)==0)).1.map eu)) (res:=λ_=>(⟨w.Newest,(QN w.Epochs ep ad).map eu⟩:aA)) (n:=w.Epochs.length)];intro i hi;left;have hlen:=pv (ep:=ep) (ad:=ad) (es:=w.Epochs.take i) (s:=([],(ad.length:Int)==0));simp only[H1,HN] at hlen;refine⟨?_,rfl⟩;rw[Gk hw hre hra hta hla hle hnd hi _ (by omega)];simp only[Dp hi];have hlen:=pv (ep:=ep) (ad:=ad) (es:=w.Epochs) (s:=([],(ad.length:Int)==0));(have hsa:eu ⟨ep,ad⟩=⟨ep,ad⟩:=by unfold eu;simp only;rw[sE hta hra]);simp only[HY,QN,Si];simp only[H1] at hlen;generalize w.Epochs.foldl (dL ep ad) ([],(ad.length:Int)==0)=s at hlen⊢;obtain⟨acc,m⟩:=s;simp only at hlen;(have h1:decide ((w.Epochs.length:Int)≤(w.Epochs.length:Int))=true:=by simp);unfold vW;(cases m with|true=>simp[h1]|false=>simp only[h1,Hn,IT,Jz,Hs,Hm];rw[aW (by simp[F_];omega)];simp[hsa]);simp
end
end Go.Proofs.YtobbmodjdkcdcaaGreatDoor
namespace Go.Proofs.YtobbmodjdkcdcaaGreatDoor
open Go Go.Sim
open Go.IntKind (wrap)
variable [Fu]
section
variable {H A:List (List Int)}
theorem VP (hH:Tags H) (hA:Tags A) (hl:H.length≤1048576) {i:Nat} (hi:i<A.length):∀(k j:Nat),H.length - j=k→j≤H.length→ ∃j',Loop.run (S:=Int) (R:=Int) (fun x2491=>((bif decide (x2491<(H.length:Int)) then (idx H x2491).bind λx2510=>(idx A (i:Int)).bind λx2512=>(cX x2510 x2512).bind λy2514=>some y2514 else some false :Option Bool)).bind λx2509=>bif x2509 then some (.next (wrap .i64 (x2491+1))) else some (.done x2491)) (j:Int)=some ((j':Nat):Int)∧j≤j'∧j'≤H.length∧(∀q,j≤q→q<j'→P9 (H.getD q []) A[i]=true)∧(j'<H.length→P9 (H.getD j' []) A[i]=false)|0,j,hk,hj=>by (have:j=H.length:=by omega);subst this;refine⟨H.length,Lr (by simp),HK _,HK _,λq h1 h2=>by omega,λh=>by omega⟩|k+1,j,hk,hj=>by (have hj':j<H.length:=by omega);(have h1:decide ((j:Int)<(H.length:Int))=true:=by simp;omega);(have hg:H.getD j []=H[j]:=by simp[hj']);have hless:cX H[j] A[i]=some (P9 H[j] A[i]):=tS (hH _ (HG hj')).1 (hA _ (HG hi)).1;cases hc:P9 H[j] A[i] with|false=>refine⟨j,Lr ?_,HK _,hj,λq h1 h2=>by omega,λ_=>by rw[hg];exact hc⟩;simp only[h1,Hn,cq hj',cq hi,Hs,hless,hc,Hm]|true=>obtain⟨j',r1,r2,r3,r4,r5⟩:=VP hH hA hl hi k (j+1) (by omega) (by omega);refine⟨j',?_,by omega,r3,λq h1 h2=>?_,r5⟩;rw[Ly (s':=((j+1:Nat):Int))];exact r1;simp only[h1,Hn,cq hj',cq hi,Hs,hless,hc,Fm (show j≤4000000 by omega)];by_cases hq:q=j;subst hq;rw[hg];exact hc;exact r4 q (by omega) h2
theorem CX (a:Pw H) {x:List Int} {j:Nat} (h1:∀q,q<j→P9 (H.getD q []) x=true) (h2:j<H.length→P9 (H.getD j []) x=false):x∈H↔∃h:j<H.length,H[j]=x:=by constructor;intro hm;obtain⟨k,hk,e⟩:=Ix hm;(have c:¬k<j:=λh=>by have:=h1 k h;rw[show H.getD k []=H[k] by simp[hk],e,iT] at this;cases this);by_cases b:k=j;subst b;exact⟨hk,e⟩;exfalso;(have hj:j<H.length:=by omega);have:=h2 hj;have h3:=Jk.1 a j k hj hk (by omega);rw[show H.getD j []=H[j] by simp[hj],←e,h3] at this;cases this;rintro⟨h,rfl⟩;exact HG h
theorem BV {S R:Type} {step:S→Option (Qp S R)} (I:Nat→S→Prop) (n:Nat) (r:R) (hs:∀i s,i<n→I i s→∃s',step s=some (.next s')∧I (i+1) s') (he:∀s,I n s→step s=some (.done r)): ∀k i s,n - i=k→i≤n→I i s→Loop.run step s=some r|0,i,s,hk,hi,h=>by (have:i=n:=by omega);subst this;exact Lr (he s h)|k+1,i,s,hk,hi,h=>by obtain⟨s',h1,h2⟩:=hs i s (by omega) h;rw[Ly h1];exact BV I n r hs he k (i+1) s' (by omega) (by omega) h2
theorem Eo (hH:Tags H) (hA:Tags A) (hHr:Pw H) (hAr:Pw A) (hl:H.length≤1048576) (hlA:A.length≤1048576):
   Loop.run (S:=((List (List Int))×Int×Int)) (R:=(List (List Int))) (fun(x2044,x2045,x2046)=>
         bif decide (x2046<(A.length:Int)) then
          (((((Loop.run (S:=Int) (R:=Int) (λx2491=>
            ((bif decide (x2491<(H.length:Int)) then
             (idx H x2491).bind λx2510=>
             (idx A x2046).bind λx2512=>
             (cX x2510 x2512).bind λy2514=>
             some y2514
            else
             some false
             :Option Bool)).bind λx2509=>
            bif x2509 then
             some (.next (wrap .i64 (x2491+1)))
            else
             some (.done x2491)) x2045).bind λx2501=>
          some x2501
           :Option Int)).bind λx2454=>
          ((bif x2454==(H.length:Int) then
           some true
          else
           (idx H x2454).bind λx2461=>
           (idx A x2046).bind λx2463=>
           some (x2461 != x2463)
           :Option Bool)).bind λx2460=>
          bif x2460 then
           (idx A x2046).bind λx2465=>
           (app x2044 [x2465]).bind λz2467=>
           some (z2467,x2454)
          else
           some (x2044,x2454)
           :Option ((List (List Int))×Int))).bind λr2404=>match r2404 with
           |(x2402,x2403)=>
            some (.next (x2402,x2403,wrap .i64 (x2046+1)))
         else
          some (.done x2044)) ([],0,0)=some (A.filter λy=>decide (y∉H)):=by
 refine BV (I:=λi s=>∃j:Nat,s=((A.take i).filter (λy=>decide (y∉H)),(j:Int),(i:Int))∧j≤H.length∧∀q,q<j→∀p,(h:p<A.length)→i≤p→P9 (H.getD q []) A[p]=true) A.length _ (λi s hi ⟨j,hs,hj,hlt⟩=>?_) (λs ⟨j,hs,_,_⟩=>?_) A.length 0 _ (by omega) (by omega) ⟨0,by simp,by omega,λq h=>by omega⟩
 · subst hs
   obtain⟨j',r1,r2,r3,r4,r5⟩:=VP hH hA hl hi _ j rfl hj
   have hall:∀q,q<j'→P9 (H.getD q []) A[i]=true:=λq hq=>by
     by_cases h:q<j
     · exact hlt q h i hi (HK _)
     · exact r4 q (by omega) hq
   have hmem:=CX hHr hall r5
   have h1:decide ((i:Int)<(A.length:Int))=true:=by simp;omega
   refine⟨((A.take (i+1)).filter (λy=>decide (y∉H)),(j':Int),((i+1:Nat):Int)),?_,j',rfl,r3,λq hq p hp hip=>?_⟩
   · have hlen:((A.take i).filter (λy=>decide (y∉H))).length≤i:=Iq (Ii _ _) (by simp;omega)
     simp only[h1,Hn]
     rw[r1]
     simp only[Hs,Fm (show i≤4000000 by omega)]
     rw[HA hi,JN]
     by_cases hj':j'<H.length
     · have h2:((j':Int)==(H.length:Int))=false:=by simp;omega
       simp only[h2,Hm,cq hj',cq hi,Hs]
       by_cases he:H[j']=A[i]
       · have hin:A[i]∈H:=hmem.2 ⟨hj',he⟩
         have hne:(H[j'] != A[i])=false:=by simp[he]
         simp[hne,hin]
       · have hin:A[i]∉H:=λh=>by obtain⟨_,e⟩:=hmem.1 h;exact he e
         have hne:(H[j'] != A[i])=true:=by simpa using he
         simp only[hne,Hn]
         rw[aW (by simp only[HL,H1,F_];omega)]
         simp[hin]
     · have h2:((j':Int)==(H.length:Int))=true:=by simp;omega
       have hin:A[i]∉H:=λh=>by obtain⟨h3,_⟩:=hmem.1 h;exact hj' h3
       simp only[h2,Hn,cq hi,Hs]
       rw[aW (by simp only[HL,H1,F_];omega)]
       simp[hin]
   · have h3:=hall q hq
     by_cases hpi:p=i
     · subst hpi;exact h3
     · exact kK h3 (Jk.1 hAr i p hi hp (by omega))
 · subst hs;simp
end
end Go.Proofs.YtobbmodjdkcdcaaGreatDoor
namespace Go.Proofs.YtobbmodjdkcdcaaGreatDoor
open Go Go.Sim
open Go.IntKind (wrap)
variable [Fu]
theorem xd {ts:List (List Int)} (h:w9 ts=true):Pw ts:=by have h1:=kj.1 h;(have key:∀d i,(hi:i+d+1<ts.length)→P9 (ts.getD i []) (ts.getD (i+d+1) [])=true:=by intro d;induction d with|zero=>intro i hi;exact h1 i (by omega) (by omega)|succ d ih=>intro i hi;exact kK (ih i (by omega)) (by have:=h1 (i+d+1) (by omega) (by omega);rwa [show i+(d+1)+1=i+d+1+1 by omega]));refine Jk.2 λi j hi hj hij=>?_;have:=key (j - i - 1) i (by omega);rw[show i+(j - i - 1)+1=j by omega] at this;simpa[hi,hj] using this
section
variable {w:aA}
theorem Fo (hw:dY w) (hn:(cY w).Nodup) (h:kT (TG w 8) w.Epochs.length 0=true):∀e∈w.Epochs,Pw e.Tags:=λe he=>by obtain⟨i,hi,rfl⟩:=Ix he;have h1:=kj.1 h i (by omega) (by omega);unfold TG at h1;simp only[Hx] at h1;(have g1:TU w i=w.Epochs[i].Tags:=by simp[TU,hi]);have h2:=h1.2;rw[g1] at h2;(have hs:(w.Epochs[i].Tags).Sublist (cY w):=by rw[my w i,lS hi,Ia];exact((I8 _ _).trans (IL _ _)));rw[vV (ox hw hi) (hn.sublist hs)] at h2;exact xd h2
theorem Ep (hw:dY w) {ep r:Int} (hep:PA .i64 ep) {tags:List (List Int)} (ht:Tags tags) (hl:tags.length≤1048576):jn w ep tags r=some (Rg w ep tags r):=by have hwl:=hw.len;have hwe:=hw.eps;have hne:=gm hw.newest;have hepr:=gm hep;unfold jn Rg;cases hr:(decide (r<0)||decide (r>4096)) with|true=>simp|false=>simp only[Hm,Jr];rw[←vi hw,nm hw];have hok:(c1 8 4096&&c2 w 4096&&c3 w&&kT (TG w 8) w.Epochs.length 0)=UN w:=rfl;rw[hok];cases hb:UN w with|false=>simp|true=>have hb':=hb;unfold UN at hb';simp only[Hx] at hb';obtain⟨⟨⟨_,hc2⟩,hc3⟩,hall⟩:=hb';(have hN:(0≤w.Newest∧w.Newest≤4611686018427387904)∧(lenOf w:Int)≤4096:=by unfold c2 at hc2;simp at hc2;omega);have hnd:=sF hc3;have hre:=Fo hw hnd hall;simp only[Hn,Hs,HJ,Hm,HU];rw[wrap64 (x:=w.Newest - 8) (by omega)];(have hcond:((decide (ep<0)||decide (ep>w.Newest))||decide (ep≤w.Newest - 8))=(decide (ep<0)|| !(decide (ep≤w.Newest)&&decide (w.Newest - ep<8))):=by by_cases a1:ep<0<;>by_cases a2:ep≤w.Newest<;>by_cases a3:w.Newest - ep<8<;>simp[a1,a2,a3]<;>omega);rw[hcond];cases h2:(decide (ep<0)|| !(decide (ep≤w.Newest)&&decide (w.Newest - ep<8))) with|true=>rfl|false=>simp only[Hm];rw[za hw];obtain⟨H,s1,s2,s3,s4⟩:=rR 63 (cY w) hw.tag hwl (Iq hwl (by decide));obtain⟨A,a1,a2,a3,a4⟩:=rR 63 tags ht hl (Iq hl (by decide));simp only[Hs];rw[s1,a1];simp only[Hs];have hTH:Tags H:=λt h=>hw.tag t ((s3 t).1 h);have hTA:Tags A:=λt h=>ht t ((a3 t).1 h);(have hHl:H.length=lenOf w:=by rw[vh s2 s3];have:=hc3;simp only[c3,Jg] at this;omega);(have hfr:(A.filter λy=>decide (y∉H))=fh w tags:=by refine lT (Al a2) (jP (oz ht) nn) λt=>?_;unfold fh;rw[(eQ _).mem_iff,nT,I0,a3,HB,s3]);refine lU (lU (Eo hTH hTA s2 a2 (by omega) (by omega)) rfl) ?_;rw[hfr];obtain⟨_,_,hKl,_⟩:=xc hw hnd (ep:=ep) ht hl (List.Perm.refl (jE w tags));have hFl:(fh w tags).length=(jE w tags).length:=(eQ _).length_eq;rw[wrap64 (by omega),hHl];cases h3:decide ((lenOf w:Int)+((fh w tags).length:Int)>r) with|true=>rfl|false=>simp only[Hm];(have hrr:r≤4096:=by simp at hr;omega);(have hfl:(fh w tags).length≤4096:=by simp at h3;omega);have hTF:Tags (fh w tags):=λt h=>oz (w:=w) ht t ((eQ _).mem_iff.1 h);have hRF:Pw (fh w tags):=jP (oz ht) nn;refine lU (lU (Fn hw hre hRF hTF hfl (λe he=>?_) λe he=>?_) rfl) rfl;obtain⟨j,hj,rfl⟩:=Ix he;have:=tP hj;omega;(have hs:e.Tags.Sublist (cY w):=by obtain⟨j,hj,rfl⟩:=Ix he;rw[my w j,lS hj,Ia];exact((I8 _ _).trans (IL _ _)));refine Ja.2 ⟨vj hRF,hnd.sublist hs,λa ha b hb e=>?_⟩;subst e;exact(nT.1 ((eQ _).mem_iff.1 ha)).2 (hs.subset hb)
end
end Go.Proofs.YtobbmodjdkcdcaaGreatDoor
namespace Go.Proofs.YtobbmodjdkcdcaaGreatDoor
open Go Go.Sim
open Go.IntKind (wrap)
variable [Fu]
theorem xe:dY ⟨0,[]⟩:=⟨⟨by decide,by decide⟩,by simp,by simp[cY],by simp[lenOf,cY],by simp⟩
theorem Fp {xs ys:List aE} (h:List.Sublist xs ys):List.Sublist (xs.flatMap (·.Tags)) (ys.flatMap (·.Tags)):=by induction h with|slnil=>exact List.Sublist.refl _|cons a _ ih=>rw[Ia];exact ih.trans (IL _ _)|cons_cons a _ ih=>rw[Ia,Ia];exact(List.Sublist.refl _).append ih
theorem CY {w:aA} (hw:dY w) {a s:Int} (ha:PA .i64 a):dY (oy w a s).1:=by unfold oy;cases (decide (s<1)||decide (s>8)||decide (a<0)||decide (a>4611686018427387904)) with|true=>exact xe|false=>cases (decide (w.Newest≥a+s)||decide (w.Newest<a - 1024)) with|true=>exact xe|false=>have h1:=gm hw.newest;have h2:=gm ha;have hs:List.Sublist (w.Epochs.filter (R7 (max w.Newest a) s)) w.Epochs:=KV;have ht:List.Sublist ((w.Epochs.filter (R7 (max w.Newest a) s)).flatMap (·.Tags)) (cY w):=Fp hs;exact⟨show -9223372036854775808≤max w.Newest a∧max w.Newest a≤9223372036854775807 by omega,λe he=>hw.num e (hs.subset he),λt h=>hw.tag t (ht.subset h),Iq ht.length_le hw.len,Iq hs.length_le hw.eps⟩
end Go.Proofs.YtobbmodjdkcdcaaGreatDoor
namespace Go.Proofs.YtobbmodjdkcdcaaGreatDoor
open Go Go.Sim
open Go.IntKind (wrap)
variable [Fu]
structure VW (w:aA) (s r:Int):Prop where
 new:0≤w.Newest∧w.Newest≤4611686018427387904
 len:(lenOf w:Int)≤r
 nodup:(cY w).Nodup
 ep:∀e∈w.Epochs,0≤e.Number∧e.Number≤w.Newest∧w.Newest - e.Number<s∧e.Tags≠[]∧Pw e.Tags
 inc:w.Epochs.Pairwise λa b=>a.Number<b.Number
theorem Er {l ks:List (List Int)} (h:l.Nodup) (h2:∀x∈l,x∉ks):l.foldl PO ks=ks++l:=by induction l generalizing ks with|nil=>simp|cons x l ih=>obtain⟨h3,h4⟩:=Jj.1 h;have hx:=h2 x (by simp);(have:PO ks x=ks++[x]:=by simp[PO,hx]);rw[IE,this,ih h4 λy hy hm=>by rcases HO.1 hm with hm|hm;exact h2 y (by simp[hy]) hm;simp at hm;subst hm;exact h3 hy];simp
theorem Fq {w:aA}:c3 w=true↔(cY w).Nodup:=by constructor;exact sF;intro h;have:=Er (ks:=[]) h (by simp);simp[c3,lR,lenOf,this]
theorem nU {α:Type} {xs:List α} {i:Nat} (h:i<xs.length) (d:α):xs.getD i d=xs[i]:=by simp[h]
theorem Fr {ts:List (List Int)} (h:Pw ts):w9 ts=true:=by refine kj.2 λj _ hj=>?_;rw[nU (show j<ts.length by omega),nU (show j+1<ts.length by omega)];exact Jk.1 h j (j+1) (by omega) (by omega) (by omega)
section
variable {w:aA}
theorem ri {e:aE} (he:e∈w.Epochs):e.Tags.Sublist (cY w):=by obtain⟨i,hi,rfl⟩:=Ix he;rw[my w i,lS hi,Ia];exact((I8 _ _).trans (IL _ _))
theorem zf (hw:dY w) {s r:Int}:(c1 s r&&c2 w r&&c3 w&&kT (TG w s) w.Epochs.length 0)=true↔c1 s r=true∧VW w s r:=by simp only[Hx];constructor;rintro⟨⟨⟨h1,h2⟩,h3⟩,h4⟩;have hn:=Fq.1 h3;have hk:=λi (hi:i<w.Epochs.length)=>kj.1 h4 i (by omega) (by omega);simp only[c2,Hx,IF,Hz,Hy] at h2;refine⟨h1,⟨by omega,by omega,hn,λe he=>?_,?_⟩⟩;obtain⟨i,hi,rfl⟩:=Ix he;have h:=hk i hi;have g:w.Epochs.getD i ⟨0,[]⟩=w.Epochs[i]:=nU hi _;simp only[TG,Ua,TU,g,Hx,IF,Hy,HB,List.isEmpty_eq_false_iff] at h;obtain⟨⟨⟨⟨a1,a2⟩,a3⟩,a4⟩,a5⟩:=h;rw[vV (ox hw hi) (hn.sublist (ri (HG hi)))] at a5;exact⟨by omega,a2.1,a2.2,a4,xd a5⟩;(have adj:∀i,(h:i+1<w.Epochs.length)→w.Epochs[i].Number<w.Epochs[i+1].Number:=fun i h=>by have h5:=hk (i+1) h;have g:w.Epochs.getD (i+1) ⟨0,[]⟩=w.Epochs[i+1]:=nU h _;have g2:w.Epochs.getD i ⟨0,[]⟩=w.Epochs[i]:=nU (by omega) _;simp only[TG,Ua,TU,Jp,g,g2,Hx,IF,KJ,Hy,HB] at h5;have:=h5.1.1.2;omega);(have far:∀d i,(h:i+d+1<w.Epochs.length)→w.Epochs[i].Number<w.Epochs[i+d+1].Number:=by intro d;induction d with|zero=>intro i h;exact adj i h|succ d ih=>intro i h;have h1:=ih i (by omega);have h2:=adj (i+d+1) (by omega);simp only[show i+(d+1)+1=i+d+1+1 by omega];omega);refine Jk.2 λi j hi hj hij=>?_;have:=far (j - i - 1) i (by omega);simp only[show i+(j - i - 1)+1=j by omega] at this;exact this;rintro⟨h1,v⟩;have hv1:=v.new;have hv2:=v.len;refine⟨⟨⟨h1,?_⟩,Fq.2 v.nodup⟩,kj.2 λi _ hi=>?_⟩;simp only[c2,Hx,IF,Hz,Hy];omega;(have hi:i<w.Epochs.length:=by omega);have g:w.Epochs.getD i ⟨0,[]⟩=w.Epochs[i]:=nU hi _;obtain⟨a1,a2,a3,a4,a5⟩:=v.ep _ (HG hi);simp only[TG,Ua,TU,g,Hx,IF,Hy,HB,List.isEmpty_eq_false_iff];refine⟨⟨⟨⟨by omega,a2,a3⟩,?_⟩,a4⟩,?_⟩;(cases i with|zero=>simp|succ i=>have g2:w.Epochs.getD i ⟨0,[]⟩=w.Epochs[i]:=nU (by omega) _;have:=Jk.1 v.inc i (i+1) (by omega) hi (by omega);simp only[Jp,g2,KJ,Hy];omega);rw[vV (ox hw hi) (v.nodup.sublist (ri (HG hi)))];exact Fr a5
end
theorem VW.good {w:aA} {s r:Int} (h:VW w s r) (hr:r≤4096) (ht:Tags (cY w)):dY w:=by have h1:=h.new;have h2:=h.len;refine⟨show -9223372036854775808≤w.Newest∧w.Newest≤9223372036854775807 by omega,λe he=>?_,ht,by omega,?_⟩;obtain⟨a,b,_⟩:=h.ep e he;show -9223372036854775808≤e.Number∧e.Number≤9223372036854775807;omega;(have:∀es:List aE,(∀e∈es,e.Tags≠[])→es.length≤(es.flatMap (·.Tags)).length:=by intro es;induction es with|nil=>simp|cons e es ih=>intro h;have h1:=ih λx hx=>h x (by simp[hx]);have h2:0<e.Tags.length:=KY.2 (h e (by simp));simp only[Ia,Hu,HL];omega);have:=this w.Epochs λe he=>(h.ep e he).2.2.2.1;have h3:lenOf w=(w.Epochs.flatMap (·.Tags)).length:=rfl;omega
def TJ (ep:Int) (ad:List (List Int)):List aE→List aE|[]=>[⟨ep,ad⟩]|e::es=>if e.Number<ep then e::TJ ep ad es else if e.Number>ep then⟨ep,ad⟩::e::es else{e with Tags:=ad++e.Tags}::es
theorem rT {ep:Int} {ad:List (List Int)}:∀{es acc:List aE},es.foldl (dL ep ad) (acc,true)=(acc++es,true)|[],acc=>by simp|e::es,acc=>by rw[IE];simp[dL,rT (es:=es)]
theorem xf {ep:Int} {ad:List (List Int)}:∀{es acc:List aE},(bif (es.foldl (dL ep ad) (acc,false)).2 then(es.foldl (dL ep ad) (acc,false)).1 else(es.foldl (dL ep ad) (acc,false)).1++[⟨ep,ad⟩])=acc++TJ ep ad es|[],acc=>by simp[TJ]|e::es,acc=>by rw[IE];by_cases h1:e.Number<ep;(have h2:decide (e.Number≥ep)=false:=by simp;omega);(have:dL ep ad (acc,false) e=(acc++[e],false):=by simp[dL,h2]);rw[this,xf (es:=es),TJ,Il h1];simp;(have h2:decide (e.Number≥ep)=true:=by simp;omega);by_cases h3:e.Number>ep;(have h4:decide (e.Number>ep)=true:=by simpa using h3);(have:dL ep ad (acc,false) e=(acc++[⟨ep,ad⟩,e],true):=by simp[dL,h2,h4]);rw[this,rT,TJ,Ic h1,Il h3];simp;(have h4:decide (e.Number>ep)=false:=by simpa using h3);(have:dL ep ad (acc,false) e=(acc++[{e with Tags:=ad++e.Tags}],true):=by simp[dL,h2,h4]);rw[this,rT,TJ,Ic h1,Ic h3];simp
theorem Am {es:List aE} {ep:Int} {ad:List (List Int)}:QN es ep ad=if ad=[] then es else TJ ep ad es:=by unfold QN Si;by_cases h:ad=[];subst h;simp[rT];(have:((ad.length:Int)==0)=false:=by have:=KY.2 h;simp;omega);rw[this,xf,Ic h];simp
theorem An {ep:Int} {ad:List (List Int)}:∀{es:List aE} {e:aE},e∈TJ ep ad es→e∈es∨e=⟨ep,ad⟩∨∃e0∈es,e0.Number=ep∧e={e0 with Tags:=ad++e0.Tags}|[],e,h=>by simp[TJ] at h;exact .inr (.inl h)|x::es,e,h=>by rw[TJ] at h;split at h;rcases H2.1 h with rfl|h;exact .inl (by simp);rcases An h with h|h|⟨e0,h,k⟩;exact .inl (by simp[h]);exact .inr (.inl h);exact .inr (.inr ⟨e0,by simp[h],k⟩);split at h;rcases H2.1 h with rfl|h;exact .inr (.inl rfl);exact .inl h;rcases H2.1 h with rfl|h;exact .inr (.inr ⟨x,by simp,by omega,rfl⟩);exact .inl (by simp[h])
theorem Fs {ep:Int} {ad:List (List Int)} {es:List aE} {e:aE} (h:e∈TJ ep ad es):e.Number=ep∨∃x∈es,e.Number=x.Number:=by rcases An h with h|rfl|⟨e0,h,k,rfl⟩;exact .inr ⟨e,h,rfl⟩;exact .inl rfl;exact .inl k
theorem Dq {ep:Int} {ad:List (List Int)}:∀{es:List aE},es.Pairwise (λa b=>a.Number<b.Number)→(TJ ep ad es).Pairwise (λa b=>a.Number<b.Number)|[],_=>by simp[TJ]|x::es,h=>by obtain⟨h1,h2⟩:=IQ.1 h;rw[TJ];split;rename_i hx;refine IQ.2 ⟨λy hy=>?_,Dq h2⟩;rcases Fs hy with e|⟨z,hz,e⟩;omega;have:=h1 z hz;omega;split;rename_i hx c;refine IQ.2 ⟨λy hy=>?_,h⟩;rcases H2.1 hy with rfl|hy;exact c;have:=h1 y hy;simp only;omega;exact IQ.2 ⟨λy hy=>h1 y hy,h2⟩
theorem BW {ep:Int} {ad:List (List Int)}:∀{es:List aE},((TJ ep ad es).flatMap (·.Tags)).Perm (ad++es.flatMap (·.Tags))|[]=>by simp[TJ]|x::es=>by rw[TJ];split;rw[Ia,Ia];refine(KG _ (BW (es:=es))).trans ?_;rw[←HS,←HS];exact List.Perm.append_right _ List.perm_append_comm;split;simp;simp
theorem xg:∀{es:List aE},((es.map eu).flatMap (·.Tags)).Perm (es.flatMap (·.Tags))|[]=>by simp|e::es=>by rw[HX,Ia,Ia];exact(eQ _).append xg
section
variable {w:aA}
theorem Gl {ep r:Int} {tags:List (List Int)} (h:(Rg w ep tags r).2=0):0≤r∧r≤4096∧UN w=true∧(0≤ep∧ep≤w.Newest∧w.Newest - ep<8)∧(lenOf w:Int)+((fh w tags).length:Int)≤r∧Rg w ep tags r=(⟨w.Newest,(QN w.Epochs ep (fh w tags)).map eu⟩,0):=by unfold Rg at h⊢;cases h1:(decide (r<0)||decide (r>4096)|| !UN w) with|true=>rw[h1] at h;simp at h|false=>rw[h1] at h;cases h2:(decide (ep<0)|| !(decide (ep≤w.Newest)&&decide (w.Newest - ep<8))) with|true=>rw[h2] at h;simp at h|false=>rw[h2] at h;cases h3:decide ((lenOf w:Int)+((fh w tags).length:Int)>r) with|true=>rw[h3] at h;simp at h|false=>simp only[Hz,Hy,Bool.not_eq_false',Hx,HB] at h1 h2 h3;exact⟨by omega,by omega,h1.2,by omega,by omega,rfl⟩
theorem Ft {ep r:Int} {tags:List (List Int)} (h:(Rg w ep tags r).2≠0):(Rg w ep tags r).1=⟨0,[]⟩:=by unfold Rg at h⊢;cases h1:(decide (r<0)||decide (r>4096)|| !UN w) with|true=>rfl|false=>rw[h1] at h;cases h2:(decide (ep<0)|| !(decide (ep≤w.Newest)&&decide (w.Newest - ep<8))) with|true=>rfl|false=>rw[h2] at h;cases h3:decide ((lenOf w:Int)+((fh w tags).length:Int)>r) with|true=>rfl|false=>rw[h3] at h;simp at h
def put (w:aA) (ep:Int) (tags:List (List Int)):aA:=⟨w.Newest,(QN w.Epochs ep (fh w tags)).map eu⟩
theorem sG {tags:List (List Int)} {t:List Int}:t∈fh w tags↔t∈tags∧t∉cY w:=by unfold fh;rw[(eQ _).mem_iff,nT]
theorem tT {tags:List (List Int)}:(fh w tags).Nodup:=(eQ _).nodup_iff.2 nn
theorem xh {ep:Int} {tags:List (List Int)}:(cY (put w ep tags)).Perm (fh w tags++cY w):=by refine(xg (es:=QN w.Epochs ep (fh w tags))).trans ?_;rw[Am];split;rename_i h;rw[h];exact List.Perm.refl _;exact BW
theorem Fv {ep:Int} {tags:List (List Int)} {t:List Int}:t∈cY (put w ep tags)↔t∈cY w∨t∈tags:=by rw[xh.mem_iff,HO,sG];by_cases h:t∈cY w<;>simp[h]
theorem Gm {ep:Int} {tags:List (List Int)}:lenOf (put w ep tags)=(fh w tags).length+lenOf w:=by have:=(xh (w:=w) (ep:=ep) (tags:=tags)).length_eq;rwa [Hu] at this
theorem Et {ep s s' r r':Int} {tags:List (List Int)} (h:VW w s r) (ht:Tags tags) (hT:Tags (cY w)) (he:0≤ep∧ep≤w.Newest∧w.Newest - ep<s') (hs:s≤s') (hl:(lenOf w:Int)+((fh w tags).length:Int)≤r'):VW (put w ep tags) s' r':=by have l:(fh w tags++cY w).Nodup:=Ja.2 ⟨tT,h.nodup,λa ha b hb e=>by subst e;exact(sG.1 ha).2 hb⟩;have m:Tags (fh w tags):=λt h=>ht t (sG.1 h).1;refine⟨h.new,by rw[Gm];omega,xh.nodup_iff.2 l,λe hm=>?_,?_⟩;obtain⟨x,hx,rfl⟩:=H7.1 hm;(have key:0≤x.Number∧x.Number≤w.Newest∧w.Newest - x.Number<s'∧x.Tags≠[]∧Tags x.Tags∧x.Tags.Nodup:=by (have i:∀y∈w.Epochs,0≤y.Number∧y.Number≤w.Newest∧w.Newest - y.Number<s'∧y.Tags≠[]∧Tags y.Tags∧y.Tags.Nodup:=λy hy=>by obtain⟨a,b,c,d,f⟩:=h.ep y hy;exact⟨a,b,by omega,d,λt j=>hT t ((ri hy).subset j),h.nodup.sublist (ri hy)⟩);rw[Am] at hx;split at hx;exact i x hx;rename_i n;rcases An hx with hx|rfl|⟨y,hy,o,rfl⟩;exact i x hx;exact⟨he.1,he.2.1,he.2.2,n,m,tT⟩;obtain⟨a,b,c,d,f,g⟩:=i y hy;refine⟨a,b,c,by simp[n],λt j=>?_,?_⟩;rcases HO.1 j with k|k;exact m t k;exact f t k;exact l.sublist ((List.Sublist.refl _).append (ri hy)));obtain⟨k1,k2,k3,k4,k5,k6⟩:=key;refine⟨k1,k2,k3,λe=>k4 ?_,jP k5 k6⟩;have:=(eQ x.Tags).length_eq;have e:Pt x.Tags=[]:=e;rw[e] at this;exact HQ this.symm;refine Kz.2 ?_;show List.Pairwise (λa b:aE=>a.Number<b.Number) _;rw[Am];split;exact h.inc;exact Dq h.inc
end
end Go.Proofs.YtobbmodjdkcdcaaGreatDoor
namespace Go.Proofs.YtobbmodjdkcdcaaGreatDoor
open Go Go.Sim
open Go.IntKind (wrap)
variable [Fu]
theorem Ao {α:Type} (xs:List α):(xs.map (PD (α:=α))).sum=xs.length:=by induction xs with|nil=>rfl|cons x xs ih=>simp[PD] at ih⊢;omega
theorem Fw {w:aA} (hg:qj w) (hb:ko w≤1048576):dY w:=by obtain⟨h1,⟨h2,h3⟩,_⟩:=hg;(have hsum:(cY w).length+w.Epochs.length≤(w.Epochs.map jp).sum:=by (have:∀es:List aE,(∀e∈es,oQ e)→(es.flatMap (·.Tags)).length+es.length≤(es.map jp).sum:=by intro es hes;induction es with|nil=>simp|cons e es ih=>have i1:=ih λx hx=>hes x (by simp[hx]);obtain⟨_,⟨g2,_⟩,_⟩:=hes e (by simp);(have h16:e.Tags.length≤(e.Tags.map (SN PD)).sum:=by (have:∀ts:List (List Int),(∀t∈ts,UY 16 (PA .u8) t)→ts.length≤(ts.map (SN PD)).sum:=by intro ts hts;induction ts with|nil=>simp|cons t ts ih2=>have i2:=ih2 λx hx=>hts x (by simp[hx]);have i3:=(hts t (by simp)).2;have:SN PD t=t.length:=Ao t;simp only[HX,Kq,HL,this];omega);exact this _ g2);have hbe:jp e=PD e.Number+(T_ (SN PD) e.Tags+0):=rfl;have hb2:T_ (SN PD) e.Tags=(e.Tags.map (SN PD)).sum+1:=rfl;simp only[Ia,Hu,HX,Kq,HL,hbe,hb2];omega);exact this _ h2);have hbw:ko w=PD w.Newest+(((w.Epochs.map jp).sum+1)+0):=rfl;refine⟨h1,λe he=>(h2 e he).1,λt ht=>?_,by unfold lenOf;omega,by omega⟩;obtain⟨e,he,het⟩:=Kj.1 ht;obtain⟨_,⟨g2,_⟩,_⟩:=h2 e he;exact⟨(g2 t het).2,λb hb=>(g2 t het).1 b hb⟩
end Go.Proofs.YtobbmodjdkcdcaaGreatDoor
namespace Go.Proofs.YtobbmodjdkcdcaaGreatDoor
open Go Go.Sim
open Go.IntKind (wrap)
variable [Fu]
section
variable {w:aA}
theorem Gn (hw:dY w):UN w=true↔VW w 8 4096:=by have:=zf hw (s:=8) (r:=4096);unfold UN;rw[this];exact⟨λh=>h.2,λh=>⟨by decide,h⟩⟩
theorem Fx (hw:dY w) {ep r:Int} {tags:List (List Int)} (ht:Tags tags) (h:(Rg w ep tags r).2=0):VW (put w ep tags) 8 r∧dY (put w ep tags)∧(Rg w ep tags r).1=put w ep tags:=by obtain⟨h1,h2,h3,h4,h5,h6⟩:=Gl h;have v:=Et ((Gn hw).1 h3) ht hw.tag h4 (Int.le_refl _) h5;refine⟨v,v.good h2 λt a=>?_,by rw[h6];rfl⟩;rcases Fv.1 a with k|k;exact hw.tag t k;exact ht t k
theorem Eu (hw:dY w) {ep r:Int} {tags:List (List Int)} (ht:Tags tags):dY (Rg w ep tags r).1:=by by_cases h:(Rg w ep tags r).2=0;obtain⟨_,h2,h3⟩:=Fx hw ht h;rw[h3];exact h2;rw[Ft h];exact xe
end
end Go.Proofs.YtobbmodjdkcdcaaGreatDoor
