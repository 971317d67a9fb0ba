import Derived.Test.YtlkjdchmeihhkaaGreatDoorBf10
import Derived.Test.YtlkjdchmeihhkaaGreatDoorSimC
import Derived.Test.YtlkjdchmeihhkaaGreatDoorLawSrt
set_option autoImplicit true
set_option relaxedAutoImplicit true
set_option linter.all false
namespace Go.Proofs.YtlkjdchmeihhkaaGreatDoor
open Go Go.Sim
open Go.IntKind (wrap)
variable [Fu]
def dj (w:aA):List (List Int):=w.Epochs.flatMap (·.Tags)
def lenOf (w:aA):Nat:=(dj w).length
structure dU (w:aA):Prop where
 newest:kB .i64 w.Newest
 num:∀e∈w.Epochs,kB .i64 e.Number
 tag:∀t∈dj w,t.length=16∧aV t
 len:lenOf w≤1048576
 eps:w.Epochs.length≤1048576
def part (w:aA) (i:Nat):List (List Int):=(w.Epochs.take i).flatMap (·.Tags)
theorem mr {w:aA} {i:Nat} (h:i<w.Epochs.length):part w (i+1)=part w i++w.Epochs[i].Tags:=by unfold part;rw[IA h,List.flatMap_append];simp
theorem vh (w:aA):part w w.Epochs.length=dj w:=by simp[part,dj]
theorem nm (w:aA) (i:Nat):dj w=part w i++(w.Epochs.drop i).flatMap (·.Tags):=by unfold part dj;rw[←List.flatMap_append,Jl]
theorem xc (w:aA) (i:Nat):(part w i).length≤lenOf w:=by unfold lenOf;rw[nm w i,Iu];omega
theorem vi {w:aA} {i:Nat} (h:i<w.Epochs.length):w.Epochs[i].Tags.length≤lenOf w:=by have:=xc w (i+1);rw[mr h,Iu] at this;omega
theorem H0 {w:aA} {i:Nat} (h:i<w.Epochs.length) {t:List Int} (ht:t∈w.Epochs[i].Tags):t∈dj w:=Lr.2 ⟨_,IF h,ht⟩
theorem ig {x:Int} (h:kB .i64 x): -9223372036854775808≤x∧x≤9223372036854775807:=h
section
variable {w:aA}
theorem yr (a:dU w):jW w=some (lenOf w:Int):=by have b:=a.len;have b:=a.eps;unfold jW;rw[MO (st:=λi=>(((part w i).length:Int),(i:Int))) (res:=λ_=>(lenOf w:Int)) (n:=w.Epochs.length)];rfl;intro i a;left;(have b:(i:Int)<(w.Epochs.length:Int):=by omega);have c:=xc w (i+1);rw[mr a,Iu] at c;refine⟨?_,rfl⟩;simp only[b,JA,Im,cu a,Is];rw[wrap64 (by omega),wrap64 (by omega),mr a,Iu];simp;simp[vh,lenOf];simp[part]
theorem Au (a:dU w):gY w=some (lenOf w:Int):=by have b:=a.len;have b:=a.eps;unfold gY;rw[MO (st:=λi=>(((part w i).length:Int),(i:Int))) (res:=λ_=>(lenOf w:Int)) (n:=w.Epochs.length)];rfl;intro i a;left;(have b:(i:Int)<(w.Epochs.length:Int):=by omega);have c:=xc w (i+1);rw[mr a,Iu] at c;refine⟨?_,rfl⟩;simp only[b,JA,Im,cu a,Is];rw[wrap64 (by omega),wrap64 (by omega),mr a,Iu];simp;simp[vh,lenOf];simp[part]
theorem Av (a:dU w):gZ w=some (dj w):=by have b:=a.len;have b:=a.eps;unfold gZ;rw[MO (st:=λi=>(part w i,(i:Int))) (res:=λ_=>dj w) (n:=w.Epochs.length)];rfl;intro i a;left;(have b:(i:Int)<(w.Epochs.length:Int):=by omega);have c:=xc w (i+1);rw[mr a,Iu] at c;refine⟨?_,rfl⟩;simp only[b,JA,Im,cu a,Is];rw[aW (by unfold dJ;omega),Is,wrap64 (by omega),mr a];simp;simp[vh];simp[part]
def mS (w:aA):List (List Int):=(dj w).foldl pC []
theorem CI {a:List (List Int)} (b:a.length≤1048576) {v:Int} {m:List (List Int×Int)}:
   Loop.run (S:=(Int×(List ((List Int)×Int)))) (R:=(List ((List Int)×Int))) (λ(b,c)=>
    bif decide (b<(a.length:Int)) then
     (idx a b).bind λd=>
     some (.next (wrap .i64 (b+1),eC d v c))
    else
     some (.done c)) (0,m)=some (a.foldl (λm t=>eC t v m) m):=by
 rw[MO (st:=λi=>((i:Int),(a.take i).foldl (λm t=>eC t v m) m)) (res:=λ_=>a.foldl (λm t=>eC t v m) m) (n:=a.length)]
 · intro i b
   left
   have c:(i:Int)<(a.length:Int):=by omega
   refine⟨?_,rfl⟩
   simp only[c,JA,Im,cu b,Is]
   rw[wrap64 (by omega),IA b,Ka]
   simp
 · simp
 · simp
theorem Aw (v:Int):∀(a:List (List Int)) (m:List (List Int×Int)),(a.foldl (λm t=>eC t v m) m).map (·.1)=a.foldl pC (m.map (·.1))|[],m=>rfl|t::a,m=>by rw[JK,Aw v a,wh];rfl
def tp (w:aA):Nat→List (List Int×Int)|0=>[]|i+1=>match w.Epochs[i]? with|some e=>e.Tags.foldl (λm t=>eC t (i:Int) m) (tp w i)|none=>tp w i
theorem yt:∀i,i≤w.Epochs.length→(tp w i).map (·.1)=(part w i).foldl pC []|0,_=>by simp[tp,part]|i+1,h=>by have a:i<w.Epochs.length:=h;(have:w.Epochs[i]? =some w.Epochs[i]:=by simp[a]);rw[tp,this,mr a,Ka,←yt i (by omega),←Aw]
theorem vj (a:dU w):∃m,jy w=some m∧m.map (·.1)=mS w:=by
 have b:=a.len
 have b:=a.eps
 refine⟨tp w w.Epochs.length,?_,by rw[yt _ (IL _),vh];rfl⟩
 unfold jy
 rw[MO (st:=λi=>((i:Int),tp w i)) (res:=λ_=>tp w w.Epochs.length) (n:=w.Epochs.length)]
 · rfl
 · intro i a
   left
   have b:(i:Int)<(w.Epochs.length:Int):=by omega
   have c:=vi a
   refine⟨?_,rfl⟩
   simp only[b,JA,Im,cu a,Is]
   rw[CI (by omega)]
   simp only[Is]
   rw[wrap64 (by omega)]
   have b:w.Epochs[i]? =some w.Epochs[i]:=by simp[a]
   simp only[tp,b]
   simp
 · simp
 · simp[tp]
end
theorem vk {a b:List Int} (ha:a.length=16) (hb:b.length=16):dg a b=some (q6 a b):=by unfold dg;(have key:∀i,i<16→(a.drop i=a.getD i 0::a.drop (i+1))∧(b.drop i=b.getD i 0::b.drop (i+1)):=by intro i hi;constructor;rw[J1 (by omega)];simp[show i<a.length by omega];rw[J1 (by omega)];simp[show i<b.length by omega]);rw [MO (st := λi => (i : Int)) (res := λi => if a.drop i = b.drop i then (Sum.inl () : Unit ⊕ Bool) else .inr (q6 (a.drop i) (b.drop i))) (n := 16)];simp only[JX];by_cases h:a=b;subst h;simp[jq];simp[h];intro i hi;obtain⟨k1,k2⟩:=key i hi;(have h1:(i:Int)<16:=by omega);have ia:=cu (xs:=a) (i:=i) (by omega);have ib:=cu (xs:=b) (i:=i) (by omega);(have ea:a.getD i 0=a[i]:=by simp[show i<a.length by omega]);(have eb:b.getD i 0=b[i]:=by simp[show i<b.length by omega]);by_cases c:a[i]=b[i];left;constructor;simp only[h1,JA,Im,ia,ib,Is,c,IH,Il];rw[wrap64 (by omega)];simp;rw[k1,k2,ea,eb,c];generalize a.drop (i+1)=p;generalize b.drop (i+1)=q;generalize b[i]=z;simp[q6];right;(have d:(a[i] != b[i])=true:=by simpa using c);simp only[h1,JA,Im,ia,ib,Is,d];rw[k1,k2,ea,eb];generalize a.drop (i+1)=p;generalize b.drop (i+1)=q;generalize a[i]=y at c⊢;generalize b[i]=z at c⊢;simp[q6,c];simp[Kj (show a.length≤16 by omega),Kj (show b.length≤16 by omega)];rfl
theorem Gs {a b:List Int}:kz a b=some (QP a b):=by simp[kz,l5]
def SY:List (List Int)→Nat→Bool|a,0=>true|a,i+1=>SY a i&& !(q6 (a.getD (i+1) []) (a.getD i []))
theorem CJ {ts:List (List Int)} (ht:∀t∈ts,t.length=16∧aV t) (hl:ts.length≤1048576):cW ts=some (SY ts (ts.length - 1)):=by unfold cW;rcases LK ts.length with h0|h0;have:ts=[]:=IS h0;subst this;rw [Mp (r := (.inl () : Unit ⊕ Bool))];rfl;simp[wrap64];rw[wrap64 (by omega)];rw [MO (st := λj => (ts.length : Int) - 1 - j) (res := λj => if SY ts (ts.length - 1 - j) = true then (Sum.inl () : Unit ⊕ Bool) else .inr false) (n := ts.length - 1)];simp only[Lt];cases SY ts (ts.length - 1)<;>simp;intro j hj;(have e1:(ts.length:Int) - 1 - j=((ts.length - 1 - j:Nat):Int):=by omega);(have e2:(ts.length:Int) - 1 - ((j+1:Nat):Int)=((ts.length - 1 - (j+1):Nat):Int):=by omega);(have e3:ts.length - 1 - j=(ts.length - 1 - (j+1))+1:=by omega);generalize hk:ts.length - 1 - (j+1)=k at e2 e3;(have b:k+1<ts.length:=by omega);(have h1:(((k+1:Nat):Int)>0):=by omega);have t1:=ht ts[k+1] (IF b);have t2:=ht ts[k] (IF (by omega));have hc:=BF t1.2 t2.2 (by rw[t1.1,t2.1]);(have g1:ts.getD (k+1) []=ts[k+1]:=by simp[b]);(have g2:ts.getD k []=ts[k]:=by simp[show k<ts.length by omega]);simp only[e1,e2,e3,h1,JA,Im,cu b,Is,SY,g1,g2];rw[wrap64 (by omega),show(((k+1:Nat):Int) - 1)=(k:Int) by omega,cu (show k<ts.length by omega)];simp only[Is,Gs];by_cases a:q6 ts[k+1] ts[k]=true;right;simp[hc.2 a,a];left;(have c:q6 ts[k+1] ts[k]=false:=by simpa using a);have d:¬QP ts[k+1] ts[k]<0:=λh=>a (hc.1 h);simp[d,c];(have e1:(ts.length:Int) - 1 - ((ts.length - 1:Nat):Int)=0:=by omega);simp[e1,SY];simp
end Go.Proofs.YtlkjdchmeihhkaaGreatDoor
namespace Go.Proofs.YtlkjdchmeihhkaaGreatDoor
open Go Go.Sim
open Go.IntKind (wrap)
variable [Fu]
def P1:List (List Int)→List (List Int)→List (List Int)
 |[],c=>c
 |a::d,[]=>a::d
 |a::d,b::c=>if q6 b a=true then b::P1 (a::d) c else if a=b then a::P1 d c else a::P1 d (b::c)
 termination_by d c=>d.length+c.length
theorem Eh (ps:List (List Int)):P1 ps []=ps:=by cases ps<;>simp[P1]
abbrev mH (l:List (List Int)):Prop:=l.Pairwise λx y=>q6 x y=true
def Tags (l:List (List Int)):Prop:=∀t∈l,t.length=16∧aV t
theorem qZ:∀{ps qs:List (List Int)} {t:List Int},t∈P1 ps qs↔t∈ps∨t∈qs
 |[],qs,t=>by simp[P1]
 |a::ps,[],t=>by simp[P1]
 |a::ps,b::qs,t=>by
  unfold P1
  split
  · have:=qZ (ps:=a::ps) (qs:=qs) (t:=t)
    simp only[I9,this]
    constructor
    · rintro(h|(h|h)|h)<;>simp[h]
    · rintro((h|h)|h|h)<;>simp[h]
  · split
    · rename_i a a
      subst a
      have:=qZ (ps:=ps) (qs:=qs) (t:=t)
      simp only[I9,this]
      constructor
      · rintro(h|h|h)<;>simp[h]
      · rintro((h|h)|h|h)<;>simp[h]
    · have:=qZ (ps:=ps) (qs:=b::qs) (t:=t)
      simp only[I9,this]
      constructor
      · rintro(h|h|h|h)<;>simp[h]
      · rintro((h|h)|h|h)<;>simp[h]
 termination_by ps qs=>ps.length+qs.length
theorem sS:∀{ps qs:List (List Int)},Tags ps→Tags qs→mH ps→mH qs→mH (P1 ps qs)
 |[],qs,_,_,_,h=>by simpa[P1] using h
 |a::ps,[],_,_,h,_=>by simpa[P1] using h
 |a::ps,b::qs,h,i,j,k=>by
  have c:=JU.1 j
  have d:=JU.1 k
  have e:Tags ps:=λt l=>h t (by simp[l])
  have f:Tags qs:=λt l=>i t (by simp[l])
  have l:=(h a (by simp)).1
  have m:=(i b (by simp)).1
  unfold P1
  split
  · rename_i n
    refine JU.2 ⟨λx o=>?_,sS h f j d.2⟩
    rcases qZ.1 o with o|o
    · rcases I9.1 o with rfl|o
      · exact n
      · exact lB n (c.1 x o)
    · exact d.1 x o
  · rename_i n
    split
    · rename_i h
      subst h
      refine JU.2 ⟨λx o=>?_,sS e f c.2 d.2⟩
      rcases qZ.1 o with o|o
      · exact c.1 x o
      · exact d.1 x o
    · rename_i h
      have f:q6 a b=true:=(qF (by rw[l,m]) h).resolve_right n
      refine JU.2 ⟨λx o=>?_,sS e i c.2 k⟩
      rcases qZ.1 o with o|o
      · exact c.1 x o
      · rcases I9.1 o with rfl|o
        · exact f
        · exact lB f (d.1 x o)
 termination_by ps qs=>ps.length+qs.length
theorem xd:∀{ps qs:List (List Int)},(P1 ps qs).length≤ps.length+qs.length
 |[],qs=>by simp[P1]
 |a::ps,[]=>by simp[P1]
 |a::ps,b::qs=>by
  unfold P1
  split
  · have:=xd (ps:=a::ps) (qs:=qs);simp only[IN] at this⊢;omega
  · split
    · have:=xd (ps:=ps) (qs:=qs);simp only[IN] at this⊢;omega
    · have:=xd (ps:=ps) (qs:=b::qs);simp only[IN] at this⊢;omega
 termination_by ps qs=>ps.length+qs.length
theorem mT {α:Type} {xs:List α} {i:Nat} (h:i<xs.length):xs.drop i=xs[i]::xs.drop (i+1):=J1 h
theorem Fd {ps qs:List (List Int)} {step:List (List Int)×Int×Int→Option (tj (List (List Int)×Int×Int) (List (List Int)))} (l:ps.length+qs.length≤1048576) (h1:∀(acc:List (List Int)) (i j:Nat) (n:i<ps.length) (h:j<qs.length),acc.length≤1048576→step (acc,(i:Int),(j:Int))=some (.next (if q6 qs[j] ps[i]=true then(acc++[qs[j]],(i:Int),((j+1:Nat):Int)) else if ps[i]=qs[j] then(acc++[ps[i]],((i+1:Nat):Int),((j+1:Nat):Int)) else(acc++[ps[i]],((i+1:Nat):Int),(j:Int))))) (h2:∀(acc:List (List Int)) (i:Nat) (n:i<ps.length),acc.length≤1048576→step (acc,(i:Int),(qs.length:Int))=some (.next (acc++[ps[i]],((i+1:Nat):Int),(qs.length:Int)))) (o:∀(acc:List (List Int)) (j:Nat) (h:j<qs.length),acc.length≤1048576→step (acc,(ps.length:Int),(j:Int))=some (.next (acc++[qs[j]],(ps.length:Int),((j+1:Nat):Int)))) (p:∀acc:List (List Int),step (acc,(ps.length:Int),(qs.length:Int))=some (.done acc)):Loop.run step ([],0,0)=some (P1 ps qs):=by (have q:∀(k i j:Nat) (acc:List (List Int)),(ps.length - i)+(qs.length - j)=k→i≤ps.length→j≤qs.length→acc.length+k≤1048576→Loop.run step (acc,(i:Int),(j:Int))=some (acc++P1 (ps.drop i) (qs.drop j)):=by intro k;induction k using Nat.strongRecOn with|_ k b=>intro i j acc a n h m;by_cases c:i<ps.length;by_cases a:j<qs.length;have f:=h1 acc i j c a (by omega);rw[mT c,mT a];by_cases d:q6 qs[j] ps[i]=true;rw[Jm d] at f;rw[My f,b (k - 1) (by omega) i (j+1) (acc++[qs[j]]) (by omega) n (by omega) (by simp;omega),P1,Jm d,mT c];simp;rw[Jf d] at f;by_cases e:ps[i]=qs[j];rw[Jm e] at f;rw[My f,b (k - 2) (by omega) (i+1) (j+1) (acc++[ps[i]]) (by omega) (by omega) (by omega) (by simp;omega),P1,Jf d,Jm e];simp;rw[Jf e] at f;rw[My f,b (k - 1) (by omega) (i+1) j (acc++[ps[i]]) (by omega) (by omega) h (by simp;omega),P1,Jf d,Jf e,mT a];simp;(have f:j=qs.length:=by omega);subst f;rw[My (h2 acc i c (by omega)),b (k - 1) (by omega) (i+1) qs.length (acc++[ps[i]]) (by omega) (by omega) h (by simp;omega)];rw[LZ,Eh,Eh,mT c];simp;(have h:i=ps.length:=by omega);subst h;by_cases a:j<qs.length;rw[My (o acc j a (by omega)),b (k - 1) (by omega) ps.length (j+1) (acc++[qs[j]]) (by omega) n (by omega) (by simp;omega)];rw[LZ,mT a];simp[P1];(have f:j=qs.length:=by omega);subst f;rw[Mp (p acc),LZ,LZ];simp[P1]);exact q _ 0 0 [] rfl (by omega) (by omega) (by simp;omega)
theorem sT:∀(a:Nat) (xs:List (List Int)),Tags xs→xs.length≤1048576→xs.length≤2^a→ ∃ys,cd (a+1) xs=some ys∧mH ys∧(∀t,t∈ys↔t∈xs)∧ys.length≤xs.length:=by intro a;induction a with|zero=>(intro xs b c d;(have e:((xs.length:Int)<2):=by omega);refine⟨xs,?_,?_,λt=>Iff.rfl,IL _⟩;rw[cd.eq_2];simp only[e,JA,Im];(have:pJ 0 1=true:=by decide);rw[this,Im];simp[aW (show([]:List (List Int)).length+xs.length≤dJ by simp[dJ];omega)];match xs,d with|[],_=>simp|[x],_=>simp|_::_::_,h=>simp at h)|succ a f=>intro xs b c d;by_cases c:xs.length<2;(have e:((xs.length:Int)<2):=by omega);refine⟨xs,?_,?_,λt=>Iff.rfl,IL _⟩;rw[cd.eq_2];simp only[e,JA,Im];(have:pJ 0 1=true:=by decide);rw[this,Im];simp[aW (show([]:List (List Int)).length+xs.length≤dJ by simp[dJ];omega)];(match xs,c with|[],_=>simp|[x],_=>simp|_::_::_,h=>simp at h;omega);(have e:¬((xs.length:Int)<2):=by omega);(have d:2^(a+1)=2*2^a:=by rw[Nat.pow_succ];omega);(have a:IntKind.i64.wrap (Int.tdiv (xs.length:Int) 2)=((xs.length / 2:Nat):Int):=by rw[Int.tdiv_eq_ediv_of_nonneg (by omega),wrap64 (by omega)];omega);(have s1:sub xs 0 ((xs.length / 2:Nat):Int)=some (xs.take (xs.length / 2)):=by unfold sub;(have:(decide ((0:Int)≤0)&&decide ((0:Int)≤((xs.length / 2:Nat):Int))&&decide (((xs.length / 2:Nat):Int)≤(xs.length:Int)))=true:=by simp;omega);rw[this,Im];rfl);(have s2:sub xs ((xs.length / 2:Nat):Int) (xs.length:Int)=some (xs.drop (xs.length / 2)):=by unfold sub;(have:(decide ((0:Int)≤((xs.length / 2:Nat):Int))&&decide (((xs.length / 2:Nat):Int)≤(xs.length:Int))&&decide ((xs.length:Int)≤(xs.length:Int)))=true:=by simp;omega);rw[this,Im,Iq,Iq,IY]);obtain⟨d,i,j,k,l⟩:=f (xs.take (xs.length / 2)) (λt h=>b t (Jo h)) (by simp;omega) (by simp;omega);obtain⟨m,n,o,p,q⟩:=f (xs.drop (xs.length / 2)) (λt h=>b t (KF h)) (by simp;omega) (by simp;omega);simp only[IM,IZ] at l q;have f:Tags d:=λt h=>b t (Jo ((k t).1 h));have l:Tags m:=λt h=>b t (KF ((p t).1 h));(have b:pJ 0 (xs.length:Int)=true:=by have h:(dJ:Int)=17179869184:=rfl;simp only[pJ,Ix,IB];omega);refine⟨P1 d m,?_,sS f l j o,λt=>?_,?_⟩;rw[cd.eq_2];simp only[e,Ks,Il,a,s1,Is,i,s2,n,b,Im];rw[Jp.2 ⟨P1 d m,?_,rfl⟩];rw[Jp.2 ⟨P1 d m,?_,rfl⟩];simp only[Int.toNat_zero,Kv];refine Fd (ps:=d) (qs:=m) (by omega) ?_ ?_ ?_ ?_;intro acc i j a b h;have n:=cu a;have o:=cu b;(have e:((i:Int)<(d.length:Int)):=by omega);(have c:((j:Int)<(m.length:Int)):=by omega);(have q:((j:Int)==(m.length:Int))=false:=by simp;omega);have r:=f d[i] (IF a);have f:=l m[j] (IF b);(have l:IntKind.i64.wrap ((i:Int)+1)=((i+1:Nat):Int):=by rw[wrap64 (by omega)];rfl);(have s:IntKind.i64.wrap ((j:Int)+1)=((j+1:Nat):Int):=by rw[wrap64 (by omega)];rfl);have u:app acc [d[i]]=some (acc++[d[i]]):=aW (by simp[dJ];omega);have v:app acc [m[j]]=some (acc++[m[j]]):=aW (by simp[dJ];omega);by_cases w:q6 m[j] d[i]=true;simp only[e,c,q,JA,La,Im,Il,o,n,Is,vk f.1 r.1,w,IQ,v,s,LH];(have y:q6 m[j] d[i]=false:=by simpa using w);by_cases w:d[i]=m[j];(have z:(d[i]==m[j])=true:=by simpa using w);simp only[e,c,q,JA,La,Im,Il,o,n,Is,vk f.1 r.1,y,JL,z,u,l,s,Jm w,Kf,LB];(have z:(d[i]==m[j])=false:=by simpa using w);simp only[e,c,q,JA,La,Im,Il,o,n,Is,vk f.1 r.1,y,JL,z,u,l,Jf w,Kf,LB];intro acc i a h;have n:=cu a;(have e:((i:Int)<(d.length:Int)):=by omega);(have c:¬((m.length:Int)<(m.length:Int)):=by omega);(have l:IntKind.i64.wrap ((i:Int)+1)=((i+1:Nat):Int):=by rw[wrap64 (by omega)];rfl);have u:app acc [d[i]]=some (acc++[d[i]]):=aW (by simp[dJ];omega);simp only[e,c,KC,JA,Ks,Bool.true_or,Im,Il,n,Is,u,l];intro acc j b h;have o:=cu b;(have e:¬((d.length:Int)<(d.length:Int)):=by omega);(have c:((j:Int)<(m.length:Int)):=by omega);(have q:((j:Int)==(m.length:Int))=false:=by simp;omega);(have s:IntKind.i64.wrap ((j:Int)+1)=((j+1:Nat):Int):=by rw[wrap64 (by omega)];rfl);have v:app acc [m[j]]=some (acc++[m[j]]):=aW (by simp[dJ];omega);simp only[e,c,q,JA,Ks,La,Im,Il,o,Is,v,s];intro acc;(have e:¬((d.length:Int)<(d.length:Int)):=by omega);(have c:¬((m.length:Int)<(m.length:Int)):=by omega);simp only[e,c,Ks,KL,Il];rw[qZ,k,p];(have:t∈xs↔t∈xs.take (xs.length / 2)++xs.drop (xs.length / 2):=by rw[Jl]);rw[this,IK];have:=xd (ps:=d) (qs:=m);omega
end Go.Proofs.YtlkjdchmeihhkaaGreatDoor
namespace Go.Proofs.YtlkjdchmeihhkaaGreatDoor
open Go Go.Sim
open Go.IntKind (wrap)
variable [Fu]
def lU (p:Nat→Bool):Nat→Nat→Bool|0,_=>true|k+1,i=>p i&&lU p k (i+1)
theorem ly {p:Nat→Bool}:∀{k i:Nat},lU p k i=true↔∀j,i≤j→j<i+k→p j=true|0,i=>by simp[lU];intro j c d;omega|k+1,i=>by rw[lU,Ix,ly];constructor;rintro⟨c,d⟩ j a b;by_cases h:j=i;subst h;exact c;exact d j (by omega) (by omega);intro h;exact⟨h i (by omega) (by omega),λj c d=>h j (by omega) (by omega)⟩
theorem yu {S R:Type} {step:S→Option (tj S R)} (st:Nat→S) (n:Nat) (p:Nat→Bool) (good bad:R) (h:∀i,i<n→step (st i)=some (bif p i then .next (st (i+1)) else .done bad)) (a:step (st n)=some (.done good)) {s0:S} (h0:s0=st 0): Loop.run step s0=some (bif lU p n 0 then good else bad):=by have:=MO (step:=step) (st:=st) (res:=λi=>bif lU p (n - i) i then good else bad) (n:=n) ?_ ?_ h0;rw[this,Lt];intro i b;(have e:n - i=(n - (i+1))+1:=by omega);rw[h i b];(cases b:p i with|true=>left;refine⟨rfl,?_⟩;rw[e];simp[lU,b]|false=>right;rw[e];simp[lU,b]);rw[a,KS];rfl
def R4 (w:aA) (i:Nat):Int:=(w.Epochs.getD i ⟨0,[]⟩).Number
def R1 (w:aA) (i:Nat):List (List Int):=(w.Epochs.getD i ⟨0,[]⟩).Tags
def RP (w:aA) (s:Int) (i:Nat):Bool:=!(decide (R4 w i<0))&&(decide (R4 w i≤w.Newest)&&decide (w.Newest - R4 w i<s))&& !(decide (0<i)&&decide (R4 w i≤R4 w (i - 1)))&& !((R1 w i).isEmpty)&&SY (R1 w i) ((R1 w i).length - 1)
def yv (a:List (List Int)):Bool:=lU (λj=>q6 (a.getD j []) (a.getD (j+1) [])) (a.length - 1) 0
def Ve (w:aA) (s:Int) (i:Nat):Bool:=!(decide (R4 w i<0))&&(decide (R4 w i≤w.Newest)&&decide (w.Newest - R4 w i<s))&& !(decide (0<i)&&decide (R4 w i≤R4 w (i - 1)))&& !((R1 w i).isEmpty)&&yv (R1 w i)
def c1 (s r:Int):Bool:= !((((decide (s<1))||(decide (s>8)))||(decide (r<0)))||(decide (r>4096)))
def c2 (w:aA) (r:Int):Bool:= !((decide (w.Newest<0))||(decide (w.Newest>4611686018427387904)))&& !(decide ((lenOf w:Int)>r))
def c3 (w:aA):Bool:=((mS w).length:Int)==(lenOf w:Int)
section
variable {w:aA}
theorem pX (a:dU w) {i:Nat} (h:i<w.Epochs.length):Tags w.Epochs[i].Tags:=λt b=>a.tag t (H0 h b)
theorem oy (hw:dU w) {s r:Int}:im w s r=some (bif c1 s r&&c2 w r&&c3 w&&lU (RP w s) w.Epochs.length 0 then 0 else 2):=by have hl:=hw.len;have he:=hw.eps;obtain⟨m,hm,hk⟩:=vj hw;(have e:m.length=(mS w).length:=by rw[←hk];simp);unfold im c1;cases h1:((((decide (s<1))||(decide (s>8)))||(decide (r<0)))||(decide (r>4096))) with|true=>simp|false=>simp only[Il,yr hw,Is,hm,e,JL,JE];unfold c2;cases h2:((decide (w.Newest<0))||(decide (w.Newest>4611686018427387904))) with|true=>simp|false=>simp only[Il,Is,JL,JE];cases h3:decide ((lenOf w:Int)>r) with|true=>simp|false=>simp only[Il,Is,JL,JE];unfold c3;cases h4:(((mS w).length:Int)==(lenOf w:Int)) with|false=>simp only[bne,h4,JL,Im,LL,Il]|true=>simp only[bne,h4,IQ,Il,JE];simp only[Iy,Iw] at h1 h2 h3;rw [yu (st := λi => (i : Int)) (n := w.Epochs.length) (p := RP w s) (good := (.inl () : Unit ⊕ Int)) (bad := .inr 2)];cases lU (RP w s) w.Epochs.length 0<;>rfl;intro i hi;(have f:(i:Int)<(w.Epochs.length:Int):=by omega);have t1:=CJ (pX hw hi) (Jv (vi hi) hl);(have g1:w.Epochs.getD i ⟨0,[]⟩=w.Epochs[i]:=by simp[hi]);have n1:=ig (hw.num _ (IF hi));(have w1:IntKind.i64.wrap ((i:Int)+1)=((i+1:Nat):Int):=by rw[wrap64 (by omega)];rfl);(have em:((w.Epochs[i].Tags.length:Int)==0)=w.Epochs[i].Tags.isEmpty:=by cases w.Epochs[i].Tags<;>simp;omega);simp only[f,JA,Im,cu hi,Is,t1,w1,RP,R4,R1,g1,em];(have a:(bif decide ((i:Int)>0) then(idx w.Epochs (wrap .i64 ((i:Int) - 1))).bind λc=>some (decide (w.Epochs[i].Number≤c.Number)) else some false)=some (decide (0<i)&&decide (w.Epochs[i].Number≤(w.Epochs.getD (i - 1) ⟨0,[]⟩).Number)):=by by_cases h0:0<i;(have e1:(i:Int) - 1=((i - 1:Nat):Int):=by omega);(have h5:((i:Int)>0):=by omega);(have b:i - 1<w.Epochs.length:=by omega);rw[wrap64 (by omega),e1,cu b];simp[h5,h0,b];(have h5:¬((i:Int)>0):=by omega);simp[h5,h0]);rw[a];(cases d:decide (w.Epochs[i].Number<0) with|true=>simp|false=>have h:=II d;simp only[Il,jm,Is];rw[wrap64 (by omega)];generalize (decide (w.Epochs[i].Number≤w.Newest)&&decide (w.Newest - w.Epochs[i].Number<s))=b1;generalize (decide (0<i)&&decide (w.Epochs[i].Number≤(w.Epochs.getD (i - 1) ⟨0,[]⟩).Number))=b2;generalize w.Epochs[i].Tags.isEmpty=b3;generalize SY w.Epochs[i].Tags (w.Epochs[i].Tags.length - 1)=b4;cases b1<;>cases b2<;>cases b3<;>cases b4<;>rfl);simp;rfl
theorem wz {ys:List (List Int)} (a:mH ys) (c:∀t,t∈ys↔t∈dj w):ys.length=(mS w).length:=by (have d:ys.Nodup:=a.imp λ{a b} h e=>by subst e;rw[jq] at h;cases h);have a:(mS w).Nodup:=sE Me;exact((Ll d a).2 λt=>by rw[c,mS,wg];simp).length_eq
theorem DI {ts:List (List Int)} (ht:Tags ts) (hl:ts.length≤1048576) (h0:ts≠[]):
   Loop.run (S := Int) (R := (Unit ⊕ Int)) (λx916 =>
    bif decide (x916<(ts.length:Int)) then
     (idx ts (wrap .i64 (x916 - 1))).bind λx928=>
     (idx ts x916).bind λx930=>
     (dg x928 x930).bind λy932=>
     bif !y932 then
      some (.done (.inr 2))
     else
      some (.next (wrap .i64 (x916+1)))
    else
     some (.done (.inl ()))) 1=some (bif yv ts then .inl () else .inr 2):=by
 have hpos:0<ts.length:=L9.2 h0
 rw [yu (st := λi => ((i + 1 : Nat) : Int)) (n := ts.length - 1) (p := λj => q6 (ts.getD j []) (ts.getD (j + 1) [])) (good := (.inl () : Unit ⊕ Int)) (bad := .inr 2)]
 · rfl
 · intro i hi
   have hi1:i+1<ts.length:=by omega
   have hi0:i<ts.length:=by omega
   have hlt:((i+1:Nat):Int)<(ts.length:Int):=by omega
   have e1:wrap .i64 (((i+1:Nat):Int) - 1)=(i:Int):=by rw[wrap64 (by omega)];omega
   have e2:wrap .i64 (((i+1:Nat):Int)+1)=((i+1+1:Nat):Int):=by rw[wrap64 (by omega)];omega
   have t1:=(ht ts[i] (IF hi0)).1
   have t2:=(ht ts[i+1] (IF hi1)).1
   have g1:ts.getD i []=ts[i]:=by simp[hi0]
   have g2:ts.getD (i+1) []=ts[i+1]:=by simp[hi1]
   simp only[hlt,JA,Im,e1,e2,cu hi0,cu hi1,Is,vk t1 t2,g1,g2]
   cases q6 ts[i] ts[i+1]<;>rfl
 · have:¬(((ts.length - 1+1:Nat):Int)<(ts.length:Int)):=by omega
   simp only[this,Ks,Il]
 · rfl
theorem CK (hw:dU w) {s r:Int}:eU w s r=some (bif c1 s r&&c2 w r&&c3 w&&lU (Ve w s) w.Epochs.length 0 then 0 else 2):=by have hl:=hw.len;have he:=hw.eps;have htags:Tags (dj w):=hw.tag;obtain⟨ys,y1,y2,y3,y4⟩:=sT 63 (dj w) htags hl (Jv hl (by decide));have hyl:=wz y2 y3;unfold eU c1 c2;cases h1:((((decide (s<1))||(decide (s>8)))||(decide (r<0)))||(decide (r>4096))) with|true=>simp|false=>cases h2:((decide (w.Newest<0))||(decide (w.Newest>4611686018427387904))) with|true=>simp only[Bool.or_assoc,Kr] at h2⊢;simp[h2]|false=>simp only[Iy] at h2;simp only[h2.1,h2.2,KL,Il,Au hw,Is,JL,JE];cases h3:decide ((lenOf w:Int)>r) with|true=>simp|false=>simp only[Il,Is,JL,JE];simp only[Iy,Iw] at h1 h2 h3;rw [yu (st := λi => (i : Int)) (n := w.Epochs.length) (p := Ve w s) (good := (.inl () : Unit ⊕ Int)) (bad := .inr 2)];(cases lU (Ve w s) w.Epochs.length 0 with|false=>simp|true=>simp only[Im,Is,Av hw,y1,hyl,Au hw,c3,bne,Bool.and_true];cases ((mS w).length:Int)==(lenOf w:Int)<;>rfl);intro i hi;(have hlt:(i:Int)<(w.Epochs.length:Int):=by omega);(have g1:w.Epochs.getD i ⟨0,[]⟩=w.Epochs[i]:=by simp[hi]);have n1:=ig (hw.num _ (IF hi));(have w1:IntKind.i64.wrap ((i:Int)+1)=((i+1:Nat):Int):=by rw[wrap64 (by omega)];rfl);(have em:((w.Epochs[i].Tags.length:Int)==0)=w.Epochs[i].Tags.isEmpty:=by cases w.Epochs[i].Tags<;>simp;omega);(have hprev:(bif decide ((i:Int)>0) then(idx w.Epochs (wrap .i64 ((i:Int) - 1))).bind λx894=>some (decide (x894.Number≥w.Epochs[i].Number)) else some false)=some (decide (0<i)&&decide (w.Epochs[i].Number≤(w.Epochs.getD (i - 1) ⟨0,[]⟩).Number)):=by by_cases h0:0<i;(have e1:(i:Int) - 1=((i - 1:Nat):Int):=by omega);(have h5:((i:Int)>0):=by omega);(have hi1:i - 1<w.Epochs.length:=by omega);rw[wrap64 (by omega),e1,cu hi1];simp[h5,h0,hi1];(have h5:¬((i:Int)>0):=by omega);simp[h5,h0]);simp only[hlt,JA,Im,cu hi,Is,w1,Ve,R4,R1,g1,em,hprev];rw[wrap64 (by omega)];(have k1:decide (w.Epochs[i].Number>w.Newest)= !(decide (w.Epochs[i].Number≤w.Newest)):=by by_cases h:w.Epochs[i].Number≤w.Newest;simp[h];simp[h];omega);(have k2:decide (w.Epochs[i].Number≤w.Newest - s)= !(decide (w.Newest - w.Epochs[i].Number<s)):=by by_cases h:w.Newest - w.Epochs[i].Number<s;simp[h];omega;simp[h];omega);rw[k1,k2];(cases hem:w.Epochs[i].Tags.isEmpty with|true=>simp only[La,Im,Is,IQ,Mf,LL,Il]|false=>(have hne:w.Epochs[i].Tags≠[]:=λh=>by rw[h] at hem;cases hem);rw[DI (pX hw hi) (Jv (vi hi) hl) hne];generalize decide (w.Epochs[i].Number<0)=b0;generalize decide (w.Epochs[i].Number≤w.Newest)=b1;generalize decide (w.Newest - w.Epochs[i].Number<s)=b2;generalize (decide (0<i)&&decide (w.Epochs[i].Number≤(w.Epochs.getD (i - 1) ⟨0,[]⟩).Number))=b3;generalize yv w.Epochs[i].Tags=b4;cases b0<;>cases b1<;>cases b2<;>cases b3<;>cases b4<;>rfl);simp;rfl
theorem Ei {a:List (List Int)}:∀{k:Nat},SY a k=true↔∀i,i<k→q6 (a.getD (i+1) []) (a.getD i [])=false|0=>by simp[SY]|k+1=>by rw[SY,Ix,Ei,JJ];constructor;rintro⟨a,b⟩ i c;by_cases h:i=k;subst h;exact b;exact a i (by omega);intro h;exact⟨λi c=>h i (by omega),h k (by omega)⟩
theorem xe {b:List (List Int)} (ht:Tags b) (c:b.Nodup):SY b (b.length - 1)=yv b:=by (have d:∀i,i+1<b.length→(q6 (b.getD (i+1) []) (b.getD i [])=false↔q6 (b.getD i []) (b.getD (i+1) [])=true):=by intro i f;(have a:b.getD i []=b[i]:=by simp[show i<b.length by omega]);(have e:b.getD (i+1) []=b[i+1]:=by simp[f]);rw[a,e];(have a:b[i]≠b[i+1]:=λe=>by have:=(List.getElem_inj (h₀:=show i<b.length by omega) (h₁:=f) c).1 e;omega);have c:=(ht b[i] (IF _)).1;have e:=(ht b[i+1] (IF _)).1;constructor;intro h;exact(qF (by rw[c,e]) a).resolve_right (by rw[h];simp);intro h;cases a:q6 b[i+1] b[i] with|false=>rfl|true=>have:=lB h a;rw[jq] at this;cases this);rw[Ja,Ei,yv,ly];constructor;intro h j _ a;exact(d j (by omega)).1 (h j (by omega));intro h i f;exact(d i (by omega)).2 (h i (by omega) (by omega))
theorem wF (c:dU w) {s r:Int}:im w s r=eU w s r:=by rw[oy c,CK c];cases b:c3 w with|false=>simp|true=>(have a:(dj w).Nodup:=by (have d:(mS w).length=lenOf w:=by have:=b;simp only[c3,Ke] at this;omega);exact(zm (l:=dj w) (ks:=[]) (by simpa[mS,lenOf] using d)).1);(have b:∀i,i<w.Epochs.length→RP w s i=Ve w s i:=by intro i d;(have e:w.Epochs.getD i ⟨0,[]⟩=w.Epochs[i]:=by simp[d]);(have f:(R1 w i).Nodup:=by (have h:(w.Epochs[i].Tags).Sublist (dj w):=by rw[nm w i,mT d,Jj];exact(J7 _ _).trans (JQ _ _));simp only[R1,e];exact a.sublist h);(have a:Tags (R1 w i):=by simp only[R1,e];exact pX c d);rw[RP,Ve,xe a f]);(have:lU (RP w s) w.Epochs.length 0=lU (Ve w s) w.Epochs.length 0:=by rw[Ja,ly,ly];exact⟨λh j a c=>(b j (by omega))▸h j a c,λh j a c=>(b j (by omega))▸h j a c⟩);rw[this]
end
end Go.Proofs.YtlkjdchmeihhkaaGreatDoor
namespace Go.Proofs.YtlkjdchmeihhkaaGreatDoor
open Go Go.Sim
open Go.IntKind (wrap)
variable [Fu]
theorem Ht {x:Int} (h1:x< -9223372036854775808) (h2: -9223372036854785808≤x):IntKind.i64.wrap x=x+18446744073709551616:=by simp[wrap,IntKind.bits,IntKind.signed];omega
theorem Hu {x:Int} (h1:9223372036854775807<x) (h2:x≤9223372036854785807):IntKind.i64.wrap x=x - 18446744073709551616:=by simp[wrap,IntKind.bits,IntKind.signed];omega
theorem yw {a b d:Int} (c:kB .i64 a) (e:kB .i64 b) (hd: -2000≤d∧d≤2000):ip a b d=some (decide (a>b+d)):=by have c:=ig c;have e:=ig e;unfold ip;by_cases c:b+d< -9223372036854775808;rw[Ht c (by omega)];(have c:decide (d<0)=true:=by simp;omega);(have e:decide (b+d+18446744073709551616>b)=true:=by simp;omega);(have f:decide (a>b+d)=true:=by simp;omega);simp[c,e,f];by_cases h:9223372036854775807<b+d;rw[Hu h (by omega)];(have c:decide (d<0)=false:=by simp;omega);(have e:decide (d>0)=true:=by simp;omega);(have f:decide (b+d - 18446744073709551616<b)=true:=by simp;omega);(have h:decide (a>b+d)=false:=by simp;omega);rw[c,e,f,h];rfl;rw[wrap64 (by omega)];(have c:(decide (d<0)&&decide (b+d>b))=false:=by cases h:decide (d<0)<;>simp at h⊢;omega);(have e:(decide (d>0)&&decide (b+d<b))=false:=by cases h:decide (d>0)<;>simp at h⊢;omega);rw[c,e];rfl
def P_ (m s:Int) (e:aE):Bool:=decide (e.Number>m - s)
def fc (w:aA) (a s:Int):aA×Int:=bif decide (s<1)||decide (s>8)||decide (a<0)||decide (a>4611686018427387904) then(⟨0,[]⟩,2) else bif decide (w.Newest≥a+s)||decide (w.Newest<a - 1024) then(⟨0,[]⟩,161) else(⟨max w.Newest a,w.Epochs.filter (P_ (max w.Newest a) s)⟩,0)
section
variable {w:aA}
theorem CL (m s:Int) (i:Nat):((w.Epochs.take i).filter (P_ m s)).length≤i:=Jv (Jr _ _) (by simp;omega)
theorem CM {a:List (List Int)} (h:a.length≤1048576):jA a=some a:=by simp[jA,aW (show([]:List (List Int)).length+a.length≤dJ by simp[dJ];omega)]
theorem so (b:dU w) {a s:Int} (d:kB .i64 a):ki w a s=some (fc w a s):=by have c:=b.len;have c:=b.eps;have c:=ig b.newest;unfold ki fc;cases c:(decide (s<1)||decide (s>8)||decide (a<0)||decide (a>4611686018427387904)) with|true=>rfl|false=>simp only[Iy,Iw] at c;obtain⟨⟨⟨c1,c2⟩,c3⟩,e⟩:=c;simp only[Il];rw[wrap64 (x:=0 - s) (by omega),yw d b.newest (by omega),Is];(have c:kB .i64 (max w.Newest a):=by show -9223372036854775808≤max w.Newest a∧max w.Newest a≤9223372036854775807;have:=ig d;omega);cases e:decide (a>w.Newest+(0 - s)) with|false=>(have:(decide (w.Newest≥a+s)||decide (w.Newest<a - 1024))=true:=by simp only[Iw] at e;simp;omega);rw[this];rfl|true=>simp only[IB] at e;simp only[IQ,Il];rw[yw d b.newest (by omega),Is,Is];(have d:(decide (w.Newest≥a+s)||decide (w.Newest<a - 1024))=decide (a>w.Newest+1024):=by (have:decide (w.Newest≥a+s)=false:=by simp;omega);rw[this,Kr];congr 1;exact propext ⟨λh=>by omega,λh=>by omega⟩);rw[d];cases d:decide (a>w.Newest+1024) with|true=>rfl|false=>simp only[Il];rw[MO (st:=λi=>((i:Int),(w.Epochs.take i).filter (P_ (max w.Newest a) s))) (res:=λ_=>(⟨max w.Newest a,w.Epochs.filter (P_ (max w.Newest a) s)⟩:aA)) (n:=w.Epochs.length)];rfl;intro i f;left;(have e:(i:Int)<(w.Epochs.length:Int):=by omega);have d:=CL (w:=w) (max w.Newest a) s i;have d:=vi f;refine⟨?_,rfl⟩;simp only[e,JA,Im,cu f,Is];rw[yw (b.num _ (IF f)) c (by omega),Is,wrap64 (by omega)];(have b:decide (w.Epochs[i].Number>max w.Newest a+(0 - s))=P_ (max w.Newest a) s w.Epochs[i]:=by unfold P_;congr 1;exact propext ⟨λh=>by omega,λh=>by omega⟩);rw[b,IA f,KP];(cases b:P_ (max w.Newest a) s w.Epochs[i] with|true=>rw[CM (by omega)];simp only[Im,Is];rw[aW (by simp[dJ];omega)];simp[b]|false=>simp[b]);simp;simp
theorem yx (b:dU w) {a s:Int} (c:kB .i64 a):f9 w a s=some (fc w a s):=by have c:=b.len;have c:=b.eps;have c:=ig b.newest;unfold f9 fc;cases b:(decide (s<1)||decide (s>8)||decide (a<0)||decide (a>4611686018427387904)) with|true=>rfl|false=>simp only[Iy,Iw] at b;obtain⟨⟨⟨c1,c2⟩,c3⟩,c⟩:=b;simp only[Il];rw[wrap64 (x:=a+s) (by omega),wrap64 (x:=a - 1024) (by omega)];cases b:(decide (w.Newest≥a+s)||decide (w.Newest<a - 1024)) with|true=>rfl|false=>simp only[Iy,Iw] at b;simp only[Il];rw[MO (st:=λi=>((i:Int),(w.Epochs.take i).filter (P_ (max w.Newest a) s))) (res:=λ_=>(⟨max w.Newest a,w.Epochs.filter (P_ (max w.Newest a) s)⟩:aA)) (n:=w.Epochs.length)];rfl;intro i d;left;(have b:(i:Int)<(w.Epochs.length:Int):=by omega);have c:=CL (w:=w) (max w.Newest a) s i;have c:=vi d;refine⟨?_,rfl⟩;simp only[b,JA,Im,cu d,Is];rw[wrap64 (x:=max w.Newest a - s) (by omega),wrap64 (x:=(i:Int)+1) (by omega)];have b:decide (w.Epochs[i].Number>max w.Newest a - s)=P_ (max w.Newest a) s w.Epochs[i]:=rfl;rw[b,IA d,KP];(cases b:P_ (max w.Newest a) s w.Epochs[i] with|true=>simp only[Im];rw[aW (by simp[dJ];omega),Is,aW (by simp[dJ];omega)];simp[b]|false=>simp[b]);simp;simp
end
end Go.Proofs.YtlkjdchmeihhkaaGreatDoor
namespace Go.Proofs.YtlkjdchmeihhkaaGreatDoor
open Go Go.Sim
open Go.IntKind (wrap)
variable [Fu]
section
variable {w:aA}
end
end Go.Proofs.YtlkjdchmeihhkaaGreatDoor
namespace Go.Proofs.YtlkjdchmeihhkaaGreatDoor
open Go Go.Sim
open Go.IntKind (wrap)
variable [Fu]
def mD (a:List (List Int)):List (List Int):=a.mergeSort λx y=> !q6 y x
theorem fj (a:List (List Int)):(mD a).Perm a:=List.mergeSort_perm _ _
theorem kX {a:List (List Int)} (ht:Tags a) (e:a.Nodup):mH (mD a):=by obtain⟨d,i⟩:=Eg a (λx a=>(ht x a).1) (λx a=>(ht x a).2);(have j:(d.mergeSort λx y=> !ltOf Rc y x).Pairwise λa b=>(!ltOf Rc b a)=true:=by refine List.pairwise_mergeSort (λa b c c k=>?_) (λa b=>?_) d;simp only[JJ,Bool.not_eq_eq_eq_not,IQ] at*;exact Ux.ntrans _ _ _ k c;cases c:ltOf Rc b a with|false=>simp|true=>cases k:ltOf Rc a b with|false=>simp|true=>have:=Ux.trans _ _ _ c k;rw[Ux.irrefl] at this;cases this);(have f:(d.mergeSort λx y=> !ltOf Rc y x).Nodup:=by (have k:d.Nodup:=by rw[←i] at e;exact(LQ.1 e).imp λh e=>h (by rw[e]));exact(List.mergeSort_perm d _).nodup_iff.2 k);unfold mD mH;rw[←i,←ti,LQ];refine(j.and f).imp λ{a b} ⟨c,k⟩=>?_;rw[←sR];cases d:ltOf Rc a b with|true=>rfl|false=>simp only[JJ,Bool.not_eq_eq_eq_not,IQ] at c;exact absurd (HJ a b d c) k
theorem mU:∀{a b:List (List Int)},mH a→mH b→(∀t,t∈a↔t∈b)→a=b|[],[],_,_,_=>rfl|[],y::b,_,_,h=>by have:=(h y).2 (by simp);simp at this|x::a,[],_,_,h=>by have:=(h x).1 (by simp);simp at this|x::a,y::b,ha,hb,h=>by have c:=JU.1 ha;have d:=JU.1 hb;(have e:x=y:=by have h1:=(h x).1 (by simp);have h2:=(h y).2 (by simp);rcases I9.1 h1 with h1|h1;exact h1;rcases I9.1 h2 with h2|h2;exact h2.symm;have:=lB (d.1 x h1) (c.1 y h2);rw[jq] at this;cases this);subst e;congr 1;refine mU c.2 d.2 λt=>⟨λht=>?_,λht=>?_⟩;rcases I9.1 ((h t).1 (by simp[ht])) with rfl|h1;have:=c.1 t ht;rw[jq] at this;cases this;exact h1;rcases I9.1 ((h t).2 (by simp[ht])) with rfl|h1;have:=d.1 t ht;rw[jq] at this;cases this;exact h1
theorem wK {a:List (List Int)} (h:mH a):a.Nodup:=h.imp λ{x y} h e=>by subst e;rw[jq] at h;cases h
theorem Gt {a:List (List Int)} (ht:Tags a) (b:a.length≤4000000):yp a=some (mD a):=by unfold yp;rw[Jm ⟨λx a=>(ht x a).2,by omega⟩];rfl
theorem tT {a:List (List Int)} (ht:Tags a) (h:mH a):mD a=a:=mU (kX ht (wK h)) h λt=>(fj a).mem_iff
def Qn (tags:List (List Int)):Nat→List (List Int×Int)|0=>[]|i+1=>match tags[i]? with|some t=>eC t (i:Int) (Qn tags i)|none=>Qn tags i
theorem Ax {tags:List (List Int)}:∀i,i≤tags.length→(Qn tags i).map (·.1)=(tags.take i).foldl pC []|0,_=>by simp[Qn]|i+1,h=>by have a:i<tags.length:=h;(have:tags[i]? =some tags[i]:=by simp[a]);rw[Qn,this,IA a,Ka,←Ax i (by omega)];simp[wh]
theorem Ay {x:List Int}:∀{ps:List (List Int×Int)},(ps.map (·.1)).Nodup→(mdel x ps).map (·.1)=(ps.map (·.1)).filter (λy=> !(x==y))|[],_=>rfl|p::ps,b=>by have a:=Ki.1 b;by_cases h:x=p.1;subst h;(have b:(ps.map (·.1)).filter (λy=> !(p.1==y))=ps.map (·.1):=Ly.2 λy c=>by have:p.1≠y:=λe=>a.1 (by show p.1∈_;rw[e];exact c);simpa using this);simp[mdel,b];(have b:(x==p.1)=false:=by simpa using h);have c:=Ay (x:=x) a.2;simp[mdel,b,c]
theorem Az:∀{qs ps:List (List Int×Int)},(ps.map (·.1)).Nodup→(qs.foldl (λs q=>mdel q.1 s) ps).map (·.1)=(ps.map (·.1)).filter λy=>decide (y∉qs.map (·.1))|[],ps,_=>by simp only[List.foldl_nil];exact(Ly.2 λy _=>by simp).symm|q::qs,ps,b=>by have c:=Ay (x:=q.1) b;(have a:((mdel q.1 ps).map (·.1)).Nodup:=by rw[c];exact b.filter _);rw[JK,Az a,c,List.filter_filter];refine List.filter_congr λy _=>?_;by_cases h:q.1=y;subst h;simp;have a:¬y=q.1:=λe=>h e.symm;(have b:(q.1==y)=false:=by simpa using h);simp only[IU,I9,a,false_or,b,JL,Bool.and_true]
theorem wL {α β:Type} {f:β→α→β}:∀{l:List α} {s:β},l.foldlM (λs q=>some (f s q)) s=some (l.foldl f s)|[],s=>rfl|a::l,s=>by rw[L1,JK];exact wL
def dV (ep:Int) (ad:List (List Int)) (s:List aE×Bool) (e:aE):List aE×Bool:=bif s.2 then(s.1++[e],true) else bif decide (e.Number≥ep) then bif decide (e.Number>ep) then(s.1++[⟨ep,ad⟩,e],true) else(s.1++[{e with Tags:=ad++e.Tags}],true) else(s.1++[e],false)
def Qt (es:List aE) (ep:Int) (ad:List (List Int)):List aE×Bool:=es.foldl (dV ep ad) ([],(ad.length:Int)==0)
def vH (es:List aE) (ep:Int) (ad:List (List Int)):List aE:=bif (Qt es ep ad).2 then(Qt es ep ad).1 else(Qt es ep ad).1++[⟨ep,ad⟩]
theorem Fe {ep:Int} {ad:List (List Int)} {s:List aE×Bool} {e:aE}:(dV ep ad s e).1.length≤s.1.length+2:=by unfold dV;cases s.2<;>cases decide (e.Number≥ep)<;>cases decide (e.Number>ep)<;>simp
theorem qp {ep:Int} {ad:List (List Int)}:∀{es:List aE} {s:List aE×Bool},(es.foldl (dV ep ad) s).1.length≤s.1.length+2*es.length|[],s=>by simp|e::es,s=>by have a:=Fe (ep:=ep) (ad:=ad) (s:=s) (e:=e);have a:=qp (ep:=ep) (ad:=ad) (es:=es) (s:=dV ep ad s e);rw[JK,IN];omega
theorem sU {a:List (List Int)} (h:a.length≤4000000):cy a=some a:=by simp[cy,aW (show([]:List (List Int)).length+a.length≤dJ by simp[dJ];omega)]
def eS (e:aE):aE:={e with Tags:=mD e.Tags}
theorem Ff {es:List aE} {n:Int} (a:es.length≤4000000) (ht:∀e∈es,Tags e.Tags∧e.Tags.length≤4000000):
   Loop.run (S:=((List aE)×Int)) (R:=aA) (λ(a,b)=>
     bif decide (b<(es.length:Int)) then
      (idx a b).bind λc=>
      (yp c.Tags).bind λd=>
      some (.next (List.set a (Int.toNat b) ({c with Tags:=d}:aE),wrap .i64 (b+1)))
     else
      some (.done (⟨n,a⟩:aA))) (es,0)=some ⟨n,es.map eS⟩:=by
 have a:∀i,(h:i<es.length)→((es.take i).map eS++es.drop i)[i]? =some es[i]:=λi h=>by
   rw[List.getElem?_append_right (by simp;omega)]
   simp[Jq (Nat.le_of_lt h),h]
 rw[MO (st:=λi=>((es.take i).map eS++es.drop i,(i:Int))) (res:=λ_=>(⟨n,es.map eS⟩:aA)) (n:=es.length)]
 · intro i b
   left
   have c:(i:Int)<(es.length:Int):=by omega
   have d:((es.take i).map eS++es.drop i).length=es.length:=by simp;omega
   refine⟨?_,rfl⟩
   simp only[c,JA,Im]
   rw[cu (show i<((es.take i).map eS++es.drop i).length by omega),Is]
   have c : ((es.take i).map eS ++ es.drop i)[i]'(by omega) = es[i] := by
    have:=a i b
    rw[IW (by omega)] at this
    exact Option.some.inj this
   rw[c,Gt (ht _ (IF b)).1 (ht _ (IF b)).2,Is,wrap64 (by omega)]
   have a:((es.take i).map eS++es.drop i).set i (eS es[i])=(es.take (i+1)).map eS++es.drop (i+1):=by
    rw[Lg _ _ (by simp;omega),show i - ((es.take i).map eS).length=0 by simp;omega,J1 b,LJ,IA b,Jn,IR]
    rfl
   have b:Int.toNat (i:Int)=i:=by simp
   rw[b]
   have:({es[i] with Tags:=mD es[i].Tags}:aE)=eS es[i]:=rfl
   rw[this,a]
   simp
 · simp
 · simp
section
variable {w:aA}
theorem Ej {es:List aE} {i:Nat} (a:i<es.length) {ep:Int} {ad:List (List Int)} {s:List aE×Bool}:(es.take (i+1)).foldl (dV ep ad) s=dV ep ad ((es.take i).foldl (dV ep ad) s) es[i]:=by rw[IA a,Ka];rfl
theorem Gu (a:dU w) {ep:Int} {ad:List (List Int)} (b:ad.length≤1048576):
   Loop.run (S:=(Int×(List aE)×Bool)) (R:=((List aE)×Bool)) (fun(b,c,d)=>
       bif d then
        bif decide (b<(w.Epochs.length:Int)) then
         (idx w.Epochs b).bind λd=>
         ((some ()
          :Option Unit)).bind λ_=>
         (cy d.Tags).bind λe=>
         (app c [(⟨d.Number,e⟩:aE)]).bind λd=>
         some (.next (wrap .i64 (b+1),d,true))
        else
         some (.done (c,true))
       else
        bif decide (b<(w.Epochs.length:Int)) then
         (idx w.Epochs b).bind λd=>
         bif decide (d.Number≥ep) then
          bif decide (d.Number>ep) then
           (app c [(⟨ep,ad⟩:aE)]).bind λe=>
           (cy d.Tags).bind λf=>
           (app e [(⟨d.Number,f⟩:aE)]).bind λe=>
           some (.next (wrap .i64 (b+1),e,true))
          else
           (app ad d.Tags).bind λe=>
           (cy (({d with Tags:=e}:aE).Tags)).bind λf=>
           (app c [(⟨({d with Tags:=e}:aE).Number,f⟩:aE)]).bind λe=>
           some (.next (wrap .i64 (b+1),e,true))
         else
          (cy d.Tags).bind λe=>
          (app c [(⟨d.Number,e⟩:aE)]).bind λd=>
          some (.next (wrap .i64 (b+1),d,false))
        else
         some (.done (c,false))) (0,[],(ad.length:Int)==0)=some (Qt w.Epochs ep ad):=by
 have b:=a.len
 have b:=a.eps
 rw[MO (st:=λi=>((i:Int),(w.Epochs.take i).foldl (dV ep ad) ([],(ad.length:Int)==0))) (res:=λ_=>Qt w.Epochs ep ad) (n:=w.Epochs.length)]
 · intro i a
   left
   have b:(i:Int)<(w.Epochs.length:Int):=by omega
   have c:=vi a
   have c:=qp (ep:=ep) (ad:=ad) (es:=w.Epochs.take i) (s:=([],(ad.length:Int)==0))
   simp only[I7,IM] at c
   refine⟨?_,rfl⟩
   simp only[Ej a]
   generalize (w.Epochs.take i).foldl (dV ep ad) ([],(ad.length:Int)==0)=s at c⊢
   obtain⟨acc,m⟩:=s
   simp only at c
   have c:((i:Int)+1)=((i+1:Nat):Int):=by simp
   cases m with
   |true=>
    simp only[b,JA,Im,cu a,Is]
    rw[sU (by omega),Is,aW (by simp[dJ];omega),Is,wrap64 (by omega),c]
    rfl
   |false=>
    simp only[b,JA,Im,Il,cu a,Is]
    unfold dV
    simp only[Il]
    cases a:decide (w.Epochs[i].Number≥ep) with
    |false=>
     simp only[Il]
     rw[sU (by omega),Is,aW (by simp[dJ];omega),Is,wrap64 (by omega),c]
    |true=>
     simp only[Im]
     cases a:decide (w.Epochs[i].Number>ep) with
     |true=>
      simp only[Im]
      rw[aW (by simp[dJ];omega),Is,sU (by omega),Is,aW (by simp[dJ];omega),Is,wrap64 (by omega),c]
      simp
     |false=>
      simp only[Il]
      rw[aW (by simp[dJ];omega),Is,sU (by simp;omega),Is,aW (by simp[dJ];omega),Is,wrap64 (by omega),c]
 · have a:¬((w.Epochs.length:Int)<(w.Epochs.length:Int)):=by omega
   simp only[IY,Qt]
   generalize w.Epochs.foldl (dV ep ad) ([],(ad.length:Int)==0)=s
   obtain⟨acc,m⟩:=s
   cases m<;>simp
 · simp
end
end Go.Proofs.YtlkjdchmeihhkaaGreatDoor
namespace Go.Proofs.YtlkjdchmeihhkaaGreatDoor
open Go Go.Sim
open Go.IntKind (wrap)
variable [Fu]
def kl (w:aA) (tags:List (List Int)):List (List Int):=(tags.foldl pC []).filter λy=>decide (y∉dj w)
def fJ (w:aA) (tags:List (List Int)):List (List Int):=mD (kl w tags)
def SX (w:aA):Bool:=c1 8 4096&&c2 w 4096&&c3 w&&lU (RP w 8) w.Epochs.length 0
def yD (w:aA) (ep:Int) (tags:List (List Int)) (r:Int):aA×Int:=bif decide (r<0)||decide (r>4096)|| !SX w then(⟨0,[]⟩,2) else bif decide (ep<0)|| !(decide (ep≤w.Newest)&&decide (w.Newest - ep<8)) then(⟨0,[]⟩,161) else bif decide ((lenOf w:Int)+((fJ w tags).length:Int)>r) then(⟨0,[]⟩,160) else(⟨w.Newest,(vH w.Epochs ep (fJ w tags)).map eS⟩,0)
theorem oz {w:aA} {tags:List (List Int)}:(kl w tags).Nodup:=(sE Me).filter _
theorem px {w:aA} {tags:List (List Int)} {t:List Int}:t∈kl w tags↔t∈tags∧t∉dj w:=by unfold kl;rw[J4,wg];simp
theorem pY {w:aA} {tags:List (List Int)} (ht:Tags tags):Tags (kl w tags):=λt h=>ht t (px.1 h).1
theorem su {a b:List (List Int)} (ht:Tags a) (c:a.Nodup) (d:a.Perm b):mD a=mD b:=mU (kX ht c) (kX (λt h=>ht t (d.mem_iff.2 h)) (d.nodup_iff.1 c)) λt=>by rw[(fj a).mem_iff,(fj b).mem_iff];exact d.mem_iff
theorem DJ {ep:Int} {a b:List (List Int)} {s s':List aE×Bool} {e:aE} (h1:s.1.map eS=s'.1.map eS) (h2:s.2=s'.2) (c:mD a=mD b) (d:mD (a++e.Tags)=mD (b++e.Tags)): (dV ep a s e).1.map eS=(dV ep b s' e).1.map eS∧(dV ep a s e).2=(dV ep b s' e).2:=by obtain⟨x,m⟩:=s;obtain⟨y,f⟩:=s';simp only at h1 h2;subst h2;unfold dV;cases m<;>cases decide (e.Number≥ep)<;>cases decide (e.Number>ep)<;>simp[h1,eS,c,d]
theorem yy {ep:Int} {a b:List (List Int)} (c:mD a=mD b):∀{es:List aE} {s s':List aE×Bool},(∀e∈es,mD (a++e.Tags)=mD (b++e.Tags))→s.1.map eS=s'.1.map eS→s.2=s'.2→ (es.foldl (dV ep a) s).1.map eS=(es.foldl (dV ep b) s').1.map eS∧(es.foldl (dV ep a) s).2=(es.foldl (dV ep b) s').2|[],s,s',_,d,f=>⟨d,f⟩|e::es,s,s',h,d,f=>by obtain⟨i,j⟩:=DJ (ep:=ep) d f c (h e (by simp));exact yy (s:=dV ep a s e) (s':=dV ep b s' e) c (λx c=>h x (by simp[c])) i j
theorem Fg {es:List aE} {ep:Int} {a b:List (List Int)} (c:a.length=b.length) (d:mD a=mD b) (f:∀e∈es,mD (a++e.Tags)=mD (b++e.Tags)):(vH es ep a).map eS=(vH es ep b).map eS:=by obtain⟨h,i⟩:=yy (ep:=ep) d (s:=([],(a.length:Int)==0)) (s':=([],(b.length:Int)==0)) f rfl (by simp[c]);unfold vH Qt;rw[i];cases (es.foldl (dV ep b) ([],(b.length:Int)==0)).2<;>simp[h,eS,d]
theorem DK {tags:List (List Int)} (a:tags.length≤1048576):
   Loop.run (S:=(Int×(List ((List Int)×Int)))) (R:=(List ((List Int)×Int))) (λ(a,b)=>
    bif decide (a<(tags.length:Int)) then
     (idx tags a).bind λc=>
     some (.next (wrap .i64 (a+1),eC c a b))
    else
     some (.done b)) (0,[])=some (Qn tags tags.length):=by
 rw[MO (st:=λi=>((i:Int),Qn tags i)) (res:=λ_=>Qn tags tags.length) (n:=tags.length)]
 · intro i a
   left
   have b:(i:Int)<(tags.length:Int):=by omega
   have c:tags[i]? =some tags[i]:=by simp[a]
   refine⟨?_,rfl⟩
   simp only[b,JA,Im,cu a,Is,Qn,c]
   rw[wrap64 (by omega)];simp
 · simp
 · simp[Qn]
section
variable {w:aA}
theorem tU (h:c3 w=true):(dj w).Nodup:=by (have a:(mS w).length=lenOf w:=by have:=h;simp only[c3,Ke] at this;omega);exact(zm (l:=dj w) (ks:=[]) (by simpa[mS,lenOf] using a)).1
theorem CN:∀{qs:List (List Int×Int)} {acc:List (List Int)},acc.length+qs.length≤4000000→ qs.foldlM (λa b=>(app a [b.1]).bind λc=>some c) acc=some (acc++qs.map (·.1))|[],acc,_=>by simp|q::qs,acc,h=>by simp only[IN] at h;rw[L1,aW (by simp[dJ];omega)];simp only[Is,Option.bind_eq_bind];rw[CN (by simp;omega)];simp
theorem CO {es:List aE} {ep:Int} {ad:List (List Int)} (P:aE→Prop) (h1:∀e∈es,P e) (h2:P ⟨ep,ad⟩) (a:∀e∈es,P {e with Tags:=ad++e.Tags}):∀e∈vH es ep ad,P e:=by (have b:∀(l:List aE),(∀e∈l,e∈es)→∀s:List aE×Bool,(∀e∈s.1,P e)→∀e∈(l.foldl (dV ep ad) s).1,P e:=by intro l;induction l with|nil=>intro _ s c;exact c| cons x l d =>intro f s c;rw[JK];refine d (λe d=>f e (by simp[d])) _ λe d=>?_;have h:=f x (by simp);unfold dV at d;cases f:s.2<;>cases i:decide (x.Number≥ep)<;>cases j:decide (x.Number>ep)<;>simp[f,i,j] at d<;>rcases d with d|d<;>first|exact c e d|(rw[d];first|exact h1 x h|exact a x h)|(rcases d with d|d<;>rw[d]<;>first|exact h2|exact h1 _ h));intro e d;have a:=b es (λe h=>h) ([],(ad.length:Int)==0) (by simp);unfold vH Qt at d;cases b:(es.foldl (dV ep ad) ([],(ad.length:Int)==0)).2<;>rw[b] at d<;>simp only[Im,Il] at d;rcases IK.1 d with d|d;exact a e d;simp at d;subst d;exact h2;exact a e d
theorem Gv {es:List aE} {ep:Int} {ad:List (List Int)}:(vH es ep ad).length≤2*es.length+1:=by have:=qp (ep:=ep) (ad:=ad) (es:=es) (s:=([],(ad.length:Int)==0));unfold vH Qt;cases (es.foldl (dV ep ad) ([],(ad.length:Int)==0)).2<;>simp at this⊢<;>omega
end
end Go.Proofs.YtlkjdchmeihhkaaGreatDoor
namespace Go.Proofs.YtlkjdchmeihhkaaGreatDoor
open Go Go.Sim
open Go.IntKind (wrap)
variable [Fu]
theorem mV {α β:Type} {o:Option α} {a:α} {k:α→Option β} {r:Option β} (h:o=some a) (b:k a=r):o.bind k=r:=by rw[h];exact b
section
variable {w:aA}
theorem yz (k:dU w) (a:(dj w).Nodup) {ep:Int} {tags ad:List (List Int)} (ht:Tags tags) (b:tags.length≤1048576) (i:ad.Perm (kl w tags)): (vH w.Epochs ep ad).map eS=(vH w.Epochs ep (fJ w tags)).map eS∧ad.length=(fJ w tags).length∧ad.length≤1048576∧∀e∈vH w.Epochs ep ad,Tags e.Tags∧e.Tags.length≤4000000:=by have b:=(fj (kl w tags));have d:ad.Perm (fJ w tags):=i.trans b.symm;have b:=pY (w:=w) ht;have c:Tags ad:=λt h=>b t (i.mem_iff.1 h);have f:ad.Nodup:=i.nodup_iff.2 oz;(have m:(kl w tags).length≤1048576:=by have b:(kl w tags).length≤(tags.foldl pC []).length:=Jr _ _;have b:=AN (l:=tags) (ks:=([]:List (List Int)));simp at b;omega);(have n:ad.length≤1048576:=by rw[i.length_eq];exact m);have p:=k.len;(have o:∀e∈w.Epochs,(ad++e.Tags).Nodup:=λe l=>by (have m:e.Tags.Sublist (dj w):=by obtain⟨j,p,rfl⟩:=JC l;rw[nm w j,mT p,Jj];exact((J7 _ _).trans (JQ _ _)));refine J9.2 ⟨f,a.sublist m,λa a b b e=>?_⟩;subst e;exact(px.1 (i.mem_iff.1 a)).2 (m.subset b));(have i:∀e∈w.Epochs,Tags e.Tags:=λe l=>by obtain⟨j,p,rfl⟩:=JC l;exact pX k p);(have k:∀e∈w.Epochs,e.Tags.length≤1048576:=λe l=>by obtain⟨j,p,rfl⟩:=JC l;have:=vi p;omega);refine⟨Fg d.length_eq (su c f d) λe l=>su (λt h=>?_) (o e l) (d.append_right _),d.length_eq,n,?_⟩;rcases IK.1 h with h|h;exact c t h;exact i e l t h;refine CO (λe=>Tags e.Tags∧e.Tags.length≤4000000) (λe l=>⟨i e l,by have:=k e l;omega⟩) ⟨c,by simp only;omega⟩ λe l=>⟨λt h=>?_,by have:=k e l;simp;omega⟩;rcases IK.1 h with h|h;exact c t h;exact i e l t h
theorem yF (hw:dU w) {ep r:Int} (o:kB .i64 ep) {tags:List (List Int)} (ht:Tags tags) (hl:tags.length≤1048576):mP w ep tags r=some (yD w ep tags r):=by have A:=hw.len;have B:=hw.eps;have C:=ig hw.newest;have z:=ig o;unfold mP yD;cases hr:(decide (r<0)||decide (r>4096)) with|true=>simp|false=>simp only[Il,Kr];rw[oy hw];have p:(c1 8 4096&&c2 w 4096&&c3 w&&lU (RP w 8) w.Epochs.length 0)=SX w:=rfl;rw[p];cases hb:SX w with|false=>simp|true=>have d:=hb;unfold SX at d;simp only[Ix] at d;obtain⟨⟨⟨_,i⟩,t⟩,_⟩:=d;(have hN:0≤w.Newest∧w.Newest≤4611686018427387904:=by unfold c2 at i;simp at i;omega);have j:=tU t;simp only[Im,Is,IH,Il,IQ];cases h1:decide (ep<0) with|true=>simp|false=>simp only[Iw] at h1;(have hk:jm ep w.Newest 8=some (decide (ep≤w.Newest)&&decide (w.Newest - ep<8)):=by unfold jm;rw[wrap64 (by omega)]);simp only[Il,hk,Is,Kr];cases h2:(decide (ep≤w.Newest)&&decide (w.Newest - ep<8)) with|false=>simp|true=>simp only[IQ,Il];rw[DK hl];obtain⟨m,hm,u⟩:=vj hw;rw[hm];simp only[Is];refine AK λqs hq=>?_;rw[wL (f:=λs (q:List Int×Int)=>mdel q.1 s)];simp only[Is];have e:=Ax (tags:=tags) tags.length (IL _);rw[IY] at e;(have b:(qs.foldl (λs q=>mdel q.1 s) (Qn tags tags.length)).map (·.1)=kl w tags:=by rw[Az (by rw[e];exact sE Me),e];unfold kl;refine List.filter_congr λy _=>?_;(have:y∈qs.map (·.1)↔y∈dj w:=by rw[(hq.map _).mem_iff,u,mS,wg];simp);simp[this]);generalize qs.foldl (λs q=>mdel q.1 s) (Qn tags tags.length)=fm at b;(have v:fm.length=(kl w tags).length:=by rw[←b];simp);have x:(fJ w tags).length=(kl w tags).length:=(fj _).length_eq;obtain⟨_,_,D,_⟩:=yz hw j (ep:=ep) ht hl (List.Perm.refl (kl w tags));rw[yr hw];simp only[Is];rw[wrap64 (by omega),v,x];cases h3:decide ((lenOf w:Int)+((kl w tags).length:Int)>r) with|true=>rfl|false=>simp only[Il];refine AK λps k=>?_;(have l:(ps.map (·.1)).Perm (kl w tags):=by rw[←b];exact k.map _);obtain⟨t1,t2,t3,t4⟩:=yz hw j (ep:=ep) ht hl l;have h:=CN (qs:=ps) (acc:=[]) (by have:=k.length_eq;simp;omega);rw[IP] at h;rw[h];simp only[Is];refine mV (Gu hw t3) ?_;have c:=Gv (es:=w.Epochs) (ep:=ep) (ad:=ps.map (·.1));have a:=Ff (n:=w.Newest) (by omega) t4;rw[←t1];unfold vH at a c⊢;generalize hI:Qt w.Epochs ep (ps.map (·.1))=s at a c⊢;obtain⟨acc,mo⟩:=s;cases mo with|true=>simp only[Im] at a⊢;exact mV (mV a rfl) rfl|false=>simp only[Il] at a c⊢;exact mV (mV (aW (by simp at c;simp[dJ];omega)) rfl)<|mV (mV a rfl) rfl
end
end Go.Proofs.YtlkjdchmeihhkaaGreatDoor
namespace Go.Proofs.YtlkjdchmeihhkaaGreatDoor
open Go Go.Sim
open Go.IntKind (wrap)
variable [Fu]
theorem Gw {i:Nat} (h:i≤4000000):IntKind.i64.wrap ((i:Int)+1)=((i+1:Nat):Int):=by rw[wrap64 (by omega)];simp
theorem Fh {xs:List (List Int)} (ht:Tags xs) (a:xs.length≤1048576) (b:xs.Nodup):cd 64 xs=some (mD xs):=by obtain⟨c,c,d,e,_⟩:=sT 63 xs ht a (Jv a (by decide));rw[c,mU d (kX ht b) λt=>by rw[e,(fj xs).mem_iff]]
theorem Bt {a:List (List Int)} {p:List Int→Bool} (h:mH a):mH (a.filter p):=h.filter _
section
variable {w:aA}
noncomputable def xf (w:aA) (ep:Int) (ad:List (List Int)):Bool×Int×List aE→Option (tj (Bool×Int×List aE) aA):=λ(a,b,c)=>bif decide (b≤(w.Epochs.length:Int)) then ((((bif !a then ((bif b==(w.Epochs.length:Int) then some true else (idx w.Epochs b).bind λd=>some (decide (d.Number>ep)) :Option Bool)).bind λd=>some d else some false :Option Bool)).bind λd=>bif d then (app c [(⟨ep,ad⟩:aE)]).bind λd=>some (true,d) else some (a,c) :Option (Bool×(List aE)))).bind λa=>match a with|(a,d)=>bif b==(w.Epochs.length:Int) then some (.done (⟨w.Newest,d⟩:aA)) else (idx w.Epochs b).bind λe=>(app [] e.Tags).bind λf=>((bif (e.Number==ep)&&(!a) then (app f ad).bind λh=>(cd 64 h).bind λh=>some (true,h) else some (a,f) :Option (Bool×(List (List Int))))).bind λa=>match a with|(a,f)=>(app d [(⟨e.Number,f⟩:aE)]).bind λd=>some (.next (a,wrap .i64 (b+1),d)) else some (.done (⟨w.Newest,c⟩:aA))
theorem Hv (a:dU w) {ep:Int} {ad:List (List Int)} (p:∀e∈w.Epochs,mH e.Tags) (q:mH ad) (k:Tags ad) (z:ad.length≤4096) (r:∀e∈w.Epochs,e.Tags.length≤4096) (u:∀e∈w.Epochs,(ad++e.Tags).Nodup) {i:Nat} (b:i<w.Epochs.length) (s:List aE×Bool) (c:s.1.length≤4000000): xf w ep ad (s.2,(i:Int),s.1.map eS)=some (.next ((dV ep ad s w.Epochs[i]).2,((i+1:Nat):Int),(dV ep ad s w.Epochs[i]).1.map eS)):=by have A:=a.eps;(have d:decide ((i:Int)≤(w.Epochs.length:Int))=true:=by simp;omega);(have f:((i:Int)==(w.Epochs.length:Int))=false:=by simp;omega);unfold xf;simp only[d,f,Im,Il,cu b,Is,Gw (show i≤4000000 by omega)];obtain⟨acc,m⟩:=s;simp only at c;have o:=IF b;have l:=pX a b;(have d:eS w.Epochs[i]=w.Epochs[i]:=by unfold eS;rw[tT l (p _ o)]);(have v:eS ⟨ep,ad⟩=⟨ep,ad⟩:=by unfold eS;simp only;rw[tT k q]);have B:=r _ o;(have f:app [] w.Epochs[i].Tags=some w.Epochs[i].Tags:=by rw[aW (by simp[dJ];omega)];rfl);have a:∀(x:List aE) (y:aE),x.length≤4000001→app x [y]=some (x++[y]):=λx y h=>aW (by simp[dJ];omega);cases m with|true=>simp only[IQ,Il,Is,f,Mf];rw[a _ _ (by simp;omega)];simp[dV,d]|false=>simp only[JL,Im,Is];cases b:decide (w.Epochs[i].Number>ep) with|true=>(have c:decide (w.Epochs[i].Number≥ep)=true:=by simp at b⊢;omega);simp only[Im];rw[a _ _ (by simp;omega)];simp only[Is,f,IQ,Mf,Il];rw[a _ _ (by simp;omega)];simp[dV,c,b,d,v]|false=>simp only[Il,Is,f,JL,Bool.and_true];cases n:(w.Epochs[i].Number==ep) with|true=>(have c:decide (w.Epochs[i].Number≥ep)=true:=by simp at n⊢;omega);have j:(w.Epochs[i].Tags++ad).Nodup:=(List.perm_append_comm.nodup_iff).1 (u _ o);(have o:Tags (w.Epochs[i].Tags++ad):=λt h=>by rcases IK.1 h with h|h;exact l t h;exact k t h);simp only[Im];rw[aW (by simp[dJ];omega),Is,Fh o (by simp;omega) j];simp only[Is];rw[a _ _ (by simp;omega)];have:mD (w.Epochs[i].Tags++ad)=mD (ad++w.Epochs[i].Tags):=su o j List.perm_append_comm;simp[dV,c,b,eS,this]|false=>(have c:decide (w.Epochs[i].Number≥ep)=false:=by simp at n b⊢;omega);simp only[Il,Is];rw[a _ _ (by simp;omega)];simp[dV,c,b,d]
theorem Gx (k:dU w) {ep:Int} {ad:List (List Int)} (d:∀e∈w.Epochs,mH e.Tags) (b:mH ad) (c:Tags ad) (f:ad.length≤4096) (h:∀e∈w.Epochs,e.Tags.length≤4096) (j:∀e∈w.Epochs,(ad++e.Tags).Nodup): Loop.run (xf w ep ad) ((ad.length:Int)==0,0,[])=some ⟨w.Newest,(vH w.Epochs ep ad).map eS⟩:=by have l:=k.eps;rw[MO (st:=λi=>(((w.Epochs.take i).foldl (dV ep ad) ([],(ad.length:Int)==0)).2,(i:Int),((w.Epochs.take i).foldl (dV ep ad) ([],(ad.length:Int)==0)).1.map eS)) (res:=λ_=>(⟨w.Newest,(vH w.Epochs ep ad).map eS⟩:aA)) (n:=w.Epochs.length)];intro i l;left;have a:=qp (ep:=ep) (ad:=ad) (es:=w.Epochs.take i) (s:=([],(ad.length:Int)==0));simp only[I7,IM] at a;refine⟨?_,rfl⟩;rw[Hv k d b c f h j l _ (by omega)];simp only[Ej l];have a:=qp (ep:=ep) (ad:=ad) (es:=w.Epochs) (s:=([],(ad.length:Int)==0));(have k:eS ⟨ep,ad⟩=⟨ep,ad⟩:=by unfold eS;simp only;rw[tT c b]);simp only[IY,vH,Qt];simp only[I7] at a;generalize w.Epochs.foldl (dV ep ad) ([],(ad.length:Int)==0)=s at a⊢;obtain⟨acc,m⟩:=s;simp only at a;(have a:decide ((w.Epochs.length:Int)≤(w.Epochs.length:Int))=true:=by simp);unfold xf;(cases m with|true=>simp[a]|false=>simp only[a,Im,JL,KC,Is,Il];rw[aW (by simp[dJ];omega)];simp[k]);simp
end
end Go.Proofs.YtlkjdchmeihhkaaGreatDoor
namespace Go.Proofs.YtlkjdchmeihhkaaGreatDoor
open Go Go.Sim
open Go.IntKind (wrap)
variable [Fu]
section
variable {H A:List (List Int)}
theorem Tv (a:Tags H) (b:Tags A) (c:H.length≤1048576) {i:Nat} (d:i<A.length):∀(k j:Nat),H.length - j=k→j≤H.length→ ∃e,Loop.run (S:=Int) (R:=Int) (fun f=>((bif decide (f<(H.length:Int)) then (idx H f).bind λh=>(idx A (i:Int)).bind λl=>(dg h l).bind λh=>some h else some false :Option Bool)).bind λh=>bif h then some (.next (wrap .i64 (f+1))) else some (.done f)) (j:Int)=some ((e:Nat):Int)∧j≤e∧e≤H.length∧(∀q,j≤q→q<e→q6 (H.getD q []) A[i]=true)∧(e<H.length→q6 (H.getD e []) A[i]=false)|0,j,f,l=>by (have:j=H.length:=by omega);subst this;refine⟨H.length,Mp (by simp),IL _,IL _,λq m n=>by omega,λh=>by omega⟩|k+1,j,f,l=>by (have f:j<H.length:=by omega);(have m:decide ((j:Int)<(H.length:Int))=true:=by simp;omega);(have h:H.getD j []=H[j]:=by simp[f]);have o:dg H[j] A[i]=some (q6 H[j] A[i]):=vk (a _ (IF f)).1 (b _ (IF d)).1;cases p:q6 H[j] A[i] with|false=>refine⟨j,Mp ?_,IL _,l,λq m n=>by omega,λ_=>by rw[h];exact p⟩;simp only[m,Im,cu f,cu d,Is,o,p,Il]|true=>obtain⟨e,l,r,r,s,t⟩:=Tv a b c d k (j+1) (by omega) (by omega);refine⟨e,?_,by omega,r,λq m n=>?_,t⟩;rw[My (s':=((j+1:Nat):Int))];exact l;simp only[m,Im,cu f,cu d,Is,o,p,Gw (show j≤4000000 by omega)];by_cases a:q=j;subst a;rw[h];exact p;exact s q (by omega) n
theorem DL (a:mH H) {x:List Int} {j:Nat} (h1:∀q,q<j→q6 (H.getD q []) x=true) (h2:j<H.length→q6 (H.getD j []) x=false):x∈H↔∃h:j<H.length,H[j]=x:=by constructor;intro b;obtain⟨k,d,e⟩:=JC b;(have c:¬k<j:=λh=>by have:=h1 k h;rw[show H.getD k []=H[k] by simp[d],e,jq] at this;cases this);by_cases b:k=j;subst b;exact⟨d,e⟩;exfalso;(have b:j<H.length:=by omega);have:=h2 b;have c:=Kl.1 a j k b d (by omega);rw[show H.getD j []=H[j] by simp[b],←e,c] at this;cases this;rintro⟨h,rfl⟩;exact IF h
theorem CP {S R:Type} {step:S→Option (tj S R)} (I:Nat→S→Prop) (n:Nat) (r:R) (a:∀i s,i<n→I i s→∃s',step s=some (.next s')∧I (i+1) s') (b:∀s,I n s→step s=some (.done r)): ∀k i s,n - i=k→i≤n→I i s→Loop.run step s=some r|0,i,s,c,d,h=>by (have:i=n:=by omega);subst this;exact Mp (b s h)|k+1,i,s,c,d,h=>by obtain⟨s',c,d⟩:=a i s (by omega) h;rw[My c];exact CP I n r a b k (i+1) s' (by omega) (by omega) d
theorem Fi (a:Tags H) (b:Tags A) (c:mH H) (d:mH A) (e:H.length≤1048576) (f:A.length≤1048576):
   Loop.run (S:=((List (List Int))×Int×Int)) (R:=(List (List Int))) (fun(f,h,i)=>
         bif decide (i<(A.length:Int)) then
          (((((Loop.run (S:=Int) (R:=Int) (λj=>
            ((bif decide (j<(H.length:Int)) then
             (idx H j).bind λk=>
             (idx A i).bind λl=>
             (dg k l).bind λk=>
             some k
            else
             some false
             :Option Bool)).bind λk=>
            bif k then
             some (.next (wrap .i64 (j+1)))
            else
             some (.done j)) h).bind λh=>
          some h
           :Option Int)).bind λh=>
          ((bif h==(H.length:Int) then
           some true
          else
           (idx H h).bind λj=>
           (idx A i).bind λk=>
           some (j != k)
           :Option Bool)).bind λj=>
          bif j then
           (idx A i).bind λj=>
           (app f [j]).bind λj=>
           some (j,h)
          else
           some (f,h)
           :Option ((List (List Int))×Int))).bind λh=>match h with
           |(h,j)=>
            some (.next (h,j,wrap .i64 (i+1)))
         else
          some (.done f)) ([],0,0)=some (A.filter λy=>decide (y∉H)):=by
 refine CP (I:=λi s=>∃j:Nat,s=((A.take i).filter (λy=>decide (y∉H)),(j:Int),(i:Int))∧j≤H.length∧∀q,q<j→∀p,(h:p<A.length)→i≤p→q6 (H.getD q []) A[p]=true) A.length _ (λi s f ⟨j,k,l,m⟩=>?_) (λs ⟨j,k,_,_⟩=>?_) A.length 0 _ (by omega) (by omega) ⟨0,by simp,by omega,λq h=>by omega⟩
 · subst k
   obtain⟨n,o,r,r,s,t⟩:=Tv a b e f _ j rfl l
   have a:∀q,q<n→q6 (H.getD q []) A[i]=true:=λq b=>by
     by_cases h:q<j
     · exact m q h i f (IL _)
     · exact s q (by omega) b
   have j:=DL c a t
   have c:decide ((i:Int)<(A.length:Int))=true:=by simp;omega
   refine⟨((A.take (i+1)).filter (λy=>decide (y∉H)),(n:Int),((i+1:Nat):Int)),?_,n,rfl,r,λq b p l e=>?_⟩
   · have e:((A.take i).filter (λy=>decide (y∉H))).length≤i:=Jv (Jr _ _) (by simp;omega)
     simp only[c,Im]
     rw[o]
     simp only[Is,Gw (show i≤4000000 by omega)]
     rw[IA f,KP]
     by_cases c:n<H.length
     · have m:((n:Int)==(H.length:Int))=false:=by simp;omega
       simp only[m,Il,cu c,cu f,Is]
       by_cases o:H[n]=A[i]
       · have r:A[i]∈H:=j.2 ⟨c,o⟩
         have s:(H[n] != A[i])=false:=by simp[o]
         simp[s,r]
       · have r:A[i]∉H:=λh=>by obtain⟨_,e⟩:=j.1 h;exact o e
         have s:(H[n] != A[i])=true:=by simpa using o
         simp only[s,Im]
         rw[aW (by simp only[IN,I7,dJ];omega)]
         simp[r]
     · have m:((n:Int)==(H.length:Int))=true:=by simp;omega
       have r:A[i]∉H:=λh=>by obtain⟨e,_⟩:=j.1 h;exact c e
       simp only[m,Im,cu f,Is]
       rw[aW (by simp only[IN,I7,dJ];omega)]
       simp[r]
   · have e:=a q b
     by_cases a:p=i
     · subst a;exact e
     · exact lB e (Kl.1 d i p f l (by omega))
 · subst k;simp
end
end Go.Proofs.YtlkjdchmeihhkaaGreatDoor
namespace Go.Proofs.YtlkjdchmeihhkaaGreatDoor
open Go Go.Sim
open Go.IntKind (wrap)
variable [Fu]
theorem yK {a:List (List Int)} (h:yv a=true):mH a:=by have b:=ly.1 h;(have c:∀d i,(e:i+d+1<a.length)→q6 (a.getD i []) (a.getD (i+d+1) [])=true:=by intro d;induction d with|zero=>intro i e;exact b i (by omega) (by omega)|succ d a=>intro i e;exact lB (a i (by omega)) (by have:=b (i+d+1) (by omega) (by omega);rwa [show i+(d+1)+1=i+d+1+1 by omega]));refine Kl.2 λi j e a b=>?_;have:=c (j - i - 1) i (by omega);rw[show i+(j - i - 1)+1=j by omega] at this;simpa[e,a] using this
section
variable {w:aA}
theorem Gy (a:dU w) (b:(dj w).Nodup) (h:lU (RP w 8) w.Epochs.length 0=true):∀e∈w.Epochs,mH e.Tags:=λe c=>by obtain⟨i,d,rfl⟩:=JC c;have c:=ly.1 h i (by omega) (by omega);unfold RP at c;simp only[Ix] at c;(have f:R1 w i=w.Epochs[i].Tags:=by simp[R1,d]);have j:=c.2;rw[f] at j;(have c:(w.Epochs[i].Tags).Sublist (dj w):=by rw[nm w i,mT d,Jj];exact((J7 _ _).trans (JQ _ _)));rw[xe (pX a d) (b.sublist c)] at j;exact yK j
theorem Fj (hw:dU w) {ep r:Int} (o:kB .i64 ep) {tags:List (List Int)} (ht:Tags tags) (hl:tags.length≤1048576):jJ w ep tags r=some (yD w ep tags r):=by have i:=hw.len;have E:=hw.eps;have F:=ig hw.newest;have D:=ig o;unfold jJ yD;cases hr:(decide (r<0)||decide (r>4096)) with|true=>simp|false=>simp only[Il,Kr];rw[←wF hw,oy hw];have p:(c1 8 4096&&c2 w 4096&&c3 w&&lU (RP w 8) w.Epochs.length 0)=SX w:=rfl;rw[p];cases hb:SX w with|false=>simp|true=>have c:=hb;unfold SX at c;simp only[Ix] at c;obtain⟨⟨⟨_,k⟩,l⟩,n⟩:=c;(have hN:(0≤w.Newest∧w.Newest≤4611686018427387904)∧(lenOf w:Int)≤4096:=by unfold c2 at k;simp at k;omega);have d:=tU l;have q:=Gy hw d n;simp only[Im,Is,IH,Il,IQ];rw[wrap64 (x:=w.Newest - 8) (by omega)];(have f:((decide (ep<0)||decide (ep>w.Newest))||decide (ep≤w.Newest - 8))=(decide (ep<0)|| !(decide (ep≤w.Newest)&&decide (w.Newest - ep<8))):=by by_cases a1:ep<0<;>by_cases a2:ep≤w.Newest<;>by_cases a3:w.Newest - ep<8<;>simp[a1,a2,a3]<;>omega);rw[f];cases h2:(decide (ep<0)|| !(decide (ep≤w.Newest)&&decide (w.Newest - ep<8))) with|true=>rfl|false=>simp only[Il];rw[Av hw];obtain⟨H,s1,s2,s3,s4⟩:=sT 63 (dj w) hw.tag i (Jv i (by decide));obtain⟨A,a1,a2,a3,a4⟩:=sT 63 tags ht hl (Jv hl (by decide));simp only[Is];rw[s1,a1];simp only[Is];have s:Tags H:=λt h=>hw.tag t ((s3 t).1 h);have u:Tags A:=λt h=>ht t ((a3 t).1 h);(have v:H.length=lenOf w:=by rw[wz s2 s3];have:=l;simp only[c3,Ke] at this;omega);(have z:(A.filter λy=>decide (y∉H))=fJ w tags:=by refine mU (Bt a2) (kX (pY ht) oz) λt=>?_;unfold fJ;rw[(fj _).mem_iff,px,J4,a3,IB,s3]);refine mV (mV (Fi s u s2 a2 (by omega) (by omega)) rfl) ?_;rw[z];obtain⟨_,_,G,_⟩:=yz hw d (ep:=ep) ht hl (List.Perm.refl (kl w tags));have I:(fJ w tags).length=(kl w tags).length:=(fj _).length_eq;rw[wrap64 (by omega),v];cases h3:decide ((lenOf w:Int)+((fJ w tags).length:Int)>r) with|true=>rfl|false=>simp only[Il];(have K:r≤4096:=by simp at hr;omega);(have B:(fJ w tags).length≤4096:=by simp at h3;omega);have C:Tags (fJ w tags):=λt h=>pY (w:=w) ht t ((fj _).mem_iff.1 h);have m:mH (fJ w tags):=kX (pY ht) oz;refine mV (mV (Gx hw q m C B (λe he=>?_) λe he=>?_) rfl) rfl;obtain⟨j,hj,rfl⟩:=JC he;have:=vi hj;omega;(have hs:e.Tags.Sublist (dj w):=by obtain⟨j,hj,rfl⟩:=JC he;rw[nm w j,mT hj,Jj];exact((J7 _ _).trans (JQ _ _)));refine J9.2 ⟨wK m,d.sublist hs,λa ha b hb e=>?_⟩;subst e;exact(px.1 ((fj _).mem_iff.1 ha)).2 (hs.subset hb)
end
end Go.Proofs.YtlkjdchmeihhkaaGreatDoor
namespace Go.Proofs.YtlkjdchmeihhkaaGreatDoor
open Go Go.Sim
open Go.IntKind (wrap)
variable [Fu]
theorem yL:dU ⟨0,[]⟩:=⟨⟨by decide,by decide⟩,by simp,by simp[dj],by simp[lenOf,dj],by simp⟩
theorem Gz {xs ys:List aE} (h:List.Sublist xs ys):List.Sublist (xs.flatMap (·.Tags)) (ys.flatMap (·.Tags)):=by induction h with|slnil=>exact List.Sublist.refl _|cons a _ ih=>rw[Jj];exact ih.trans (JQ _ _)|cons_cons a _ ih=>rw[Jj,Jj];exact(List.Sublist.refl _).append ih
theorem q9 {w:aA} (b:dU w) {a s:Int} (c:kB .i64 a):dU (fc w a s).1:=by unfold fc;cases (decide (s<1)||decide (s>8)||decide (a<0)||decide (a>4611686018427387904)) with|true=>exact yL|false=>cases (decide (w.Newest≥a+s)||decide (w.Newest<a - 1024)) with|true=>exact yL|false=>have d:=ig b.newest;have d:=ig c;have c:List.Sublist (w.Epochs.filter (P_ (max w.Newest a) s)) w.Epochs:=Ma;have d:List.Sublist ((w.Epochs.filter (P_ (max w.Newest a) s)).flatMap (·.Tags)) (dj w):=Gz c;exact⟨show -9223372036854775808≤max w.Newest a∧max w.Newest a≤9223372036854775807 by omega,λe f=>b.num e (c.subset f),λt h=>b.tag t (d.subset h),Jv d.length_le b.len,Jv c.length_le b.eps⟩
end Go.Proofs.YtlkjdchmeihhkaaGreatDoor
namespace Go.Proofs.YtlkjdchmeihhkaaGreatDoor
open Go Go.Sim
open Go.IntKind (wrap)
variable [Fu]
structure VW (w:aA) (s r:Int):Prop where
 new:0≤w.Newest∧w.Newest≤4611686018427387904
 len:(lenOf w:Int)≤r
 nodup:(dj w).Nodup
 ep:∀e∈w.Epochs,0≤e.Number∧e.Number≤w.Newest∧w.Newest - e.Number<s∧e.Tags≠[]∧mH e.Tags
 inc:w.Epochs.Pairwise λa b=>a.Number<b.Number
theorem Fk {l ks:List (List Int)} (h:l.Nodup) (h2:∀x∈l,x∉ks):l.foldl pC ks=ks++l:=by induction l generalizing ks with|nil=>simp|cons x l a=>obtain⟨b,c⟩:=Ki.1 h;have d:=h2 x (by simp);(have:pC ks x=ks++[x]:=by simp[pC,d]);rw[JK,this,a c λy a c=>by rcases IK.1 c with c|c;exact h2 y (by simp[a]) c;simp at c;subst c;exact b a];simp
theorem GA {w:aA}:c3 w=true↔(dj w).Nodup:=by constructor;exact tU;intro h;have:=Fk (ks:=[]) h (by simp);simp[c3,mS,lenOf,this]
theorem py {α:Type} {xs:List α} {i:Nat} (h:i<xs.length) (d:α):xs.getD i d=xs[i]:=by simp[h]
theorem GC {a:List (List Int)} (h:mH a):yv a=true:=by refine ly.2 λj _ b=>?_;rw[py (show j<a.length by omega),py (show j+1<a.length by omega)];exact Kl.1 h j (j+1) (by omega) (by omega) (by omega)
section
variable {w:aA}
theorem sw {e:aE} (a:e∈w.Epochs):e.Tags.Sublist (dj w):=by obtain⟨i,b,rfl⟩:=JC a;rw[nm w i,mT b,Jj];exact((J7 _ _).trans (JQ _ _))
theorem AA (a:dU w) {s r:Int}:(c1 s r&&c2 w r&&c3 w&&lU (RP w s) w.Epochs.length 0)=true↔c1 s r=true∧VW w s r:=by simp only[Ix];constructor;rintro⟨⟨⟨b,c⟩,d⟩,e⟩;have f:=GA.1 d;have d:=λi (k:i<w.Epochs.length)=>ly.1 e i (by omega) (by omega);simp only[c2,Ix,JJ,Iy,Iw] at c;refine⟨b,⟨by omega,by omega,f,λe e=>?_,?_⟩⟩;obtain⟨i,k,rfl⟩:=JC e;have h:=d i k;have g:w.Epochs.getD i ⟨0,[]⟩=w.Epochs[i]:=py k _;simp only[RP,R4,R1,g,Ix,JJ,Iw,IB,List.isEmpty_eq_false_iff] at h;obtain⟨⟨⟨⟨e,l⟩,m⟩,n⟩,o⟩:=h;rw[xe (pX a k) (f.sublist (sw (IF k)))] at o;exact⟨by omega,l.1,l.2,n,yK o⟩;(have f:∀i,(h:i+1<w.Epochs.length)→w.Epochs[i].Number<w.Epochs[i+1].Number:=fun i h=>by have j:=d (i+1) h;have g:w.Epochs.getD (i+1) ⟨0,[]⟩=w.Epochs[i+1]:=py h _;have p:w.Epochs.getD i ⟨0,[]⟩=w.Epochs[i]:=py (by omega) _;simp only[RP,R4,R1,Ko,g,p,Ix,JJ,LU,Iw,IB] at j;have:=j.1.1.2;omega);(have q:∀d i,(h:i+d+1<w.Epochs.length)→w.Epochs[i].Number<w.Epochs[i+d+1].Number:=by intro d;induction d with|zero=>intro i h;exact f i h|succ d j=>intro i h;have b:=j i (by omega);have c:=f (i+d+1) (by omega);simp only[show i+(d+1)+1=i+d+1+1 by omega];omega);refine Kl.2 λi j k c c=>?_;have:=q (j - i - 1) i (by omega);simp only[show i+(j - i - 1)+1=j by omega] at this;exact this;rintro⟨b,v⟩;have c:=v.new;have c:=v.len;refine⟨⟨⟨b,?_⟩,GA.2 v.nodup⟩,ly.2 λi _ k=>?_⟩;simp only[c2,Ix,JJ,Iy,Iw];omega;(have k:i<w.Epochs.length:=by omega);have g:w.Epochs.getD i ⟨0,[]⟩=w.Epochs[i]:=py k _;obtain⟨e,l,m,n,o⟩:=v.ep _ (IF k);simp only[RP,R4,R1,g,Ix,JJ,Iw,IB,List.isEmpty_eq_false_iff];refine⟨⟨⟨⟨by omega,l,m⟩,?_⟩,n⟩,?_⟩;(cases i with|zero=>simp|succ i=>have p:w.Epochs.getD i ⟨0,[]⟩=w.Epochs[i]:=py (by omega) _;have:=Kl.1 v.inc i (i+1) (by omega) k (by omega);simp only[Ko,p,LU,Iw];omega);rw[xe (pX a k) (v.nodup.sublist (sw (IF k)))];exact GC o
end
theorem VW.good {w:aA} {s r:Int} (h:VW w s r) (a:r≤4096) (ht:Tags (dj w)):dU w:=by have c:=h.new;have d:=h.len;refine⟨show -9223372036854775808≤w.Newest∧w.Newest≤9223372036854775807 by omega,λe f=>?_,ht,by omega,?_⟩;obtain⟨a,b,_⟩:=h.ep e f;show -9223372036854775808≤e.Number∧e.Number≤9223372036854775807;omega;(have:∀a:List aE,(∀e∈a,e.Tags≠[])→a.length≤(a.flatMap (·.Tags)).length:=by intro a;induction a with|nil=>simp|cons e a a=>intro h;have c:=a λx a=>h x (by simp[a]);have d:0<e.Tags.length:=L9.2 (h e (by simp));simp only[Jj,Iu,IN];omega);have:=this w.Epochs λe f=>(h.ep e f).2.2.2.1;have a:lenOf w=(w.Epochs.flatMap (·.Tags)).length:=rfl;omega
def RZ (ep:Int) (ad:List (List Int)):List aE→List aE|[]=>[⟨ep,ad⟩]|e::a=>if e.Number<ep then e::RZ ep ad a else if e.Number>ep then⟨ep,ad⟩::e::a else{e with Tags:=ad++e.Tags}::a
theorem sV {ep:Int} {ad:List (List Int)}:∀{es acc:List aE},es.foldl (dV ep ad) (acc,true)=(acc++es,true)|[],acc=>by simp|e::es,acc=>by rw[JK];simp[dV,sV (es:=es)]
theorem yM {ep:Int} {ad:List (List Int)}:∀{es acc:List aE},(bif (es.foldl (dV ep ad) (acc,false)).2 then(es.foldl (dV ep ad) (acc,false)).1 else(es.foldl (dV ep ad) (acc,false)).1++[⟨ep,ad⟩])=acc++RZ ep ad es|[],acc=>by simp[RZ]|e::es,acc=>by rw[JK];by_cases a:e.Number<ep;(have b:decide (e.Number≥ep)=false:=by simp;omega);(have:dV ep ad (acc,false) e=(acc++[e],false):=by simp[dV,b]);rw[this,yM (es:=es),RZ,Jm a];simp;(have b:decide (e.Number≥ep)=true:=by simp;omega);by_cases c:e.Number>ep;(have d:decide (e.Number>ep)=true:=by simpa using c);(have:dV ep ad (acc,false) e=(acc++[⟨ep,ad⟩,e],true):=by simp[dV,b,d]);rw[this,sV,RZ,Jf a,Jm c];simp;(have d:decide (e.Number>ep)=false:=by simpa using c);(have:dV ep ad (acc,false) e=(acc++[{e with Tags:=ad++e.Tags}],true):=by simp[dV,b,d]);rw[this,sV,RZ,Jf a,Jf c];simp
theorem Bu {es:List aE} {ep:Int} {ad:List (List Int)}:vH es ep ad=if ad=[] then es else RZ ep ad es:=by unfold vH Qt;by_cases h:ad=[];subst h;simp[sV];(have:((ad.length:Int)==0)=false:=by have:=L9.2 h;simp;omega);rw[this,yM,Jf h];simp
theorem Bv {ep:Int} {ad:List (List Int)}:∀{es:List aE} {e:aE},e∈RZ ep ad es→e∈es∨e=⟨ep,ad⟩∨∃a∈es,a.Number=ep∧e={a with Tags:=ad++a.Tags}|[],e,h=>by simp[RZ] at h;exact .inr (.inl h)|x::es,e,h=>by rw[RZ] at h;split at h;rcases I9.1 h with rfl|h;exact .inl (by simp);rcases Bv h with h|h|⟨a,h,k⟩;exact .inl (by simp[h]);exact .inr (.inl h);exact .inr (.inr ⟨a,by simp[h],k⟩);split at h;rcases I9.1 h with rfl|h;exact .inr (.inl rfl);exact .inl h;rcases I9.1 h with rfl|h;exact .inr (.inr ⟨x,by simp,by omega,rfl⟩);exact .inl (by simp[h])
theorem GD {ep:Int} {ad:List (List Int)} {es:List aE} {e:aE} (h:e∈RZ ep ad es):e.Number=ep∨∃x∈es,e.Number=x.Number:=by rcases Bv h with h|rfl|⟨a,h,k,rfl⟩;exact .inr ⟨e,h,rfl⟩;exact .inl rfl;exact .inl k
theorem Ek {ep:Int} {ad:List (List Int)}:∀{es:List aE},es.Pairwise (λa b=>a.Number<b.Number)→(RZ ep ad es).Pairwise (λa b=>a.Number<b.Number)|[],_=>by simp[RZ]|x::es,h=>by obtain⟨d,f⟩:=JU.1 h;rw[RZ];split;rename_i c;refine JU.2 ⟨λy i=>?_,Ek f⟩;rcases GD i with e|⟨z,j,e⟩;omega;have:=d z j;omega;split;rename_i c c;refine JU.2 ⟨λy i=>?_,h⟩;rcases I9.1 i with rfl|i;exact c;have:=d y i;simp only;omega;exact JU.2 ⟨λy i=>d y i,f⟩
theorem CQ {ep:Int} {ad:List (List Int)}:∀{es:List aE},((RZ ep ad es).flatMap (·.Tags)).Perm (ad++es.flatMap (·.Tags))|[]=>by simp[RZ]|x::es=>by rw[RZ];split;rw[Jj,Jj];refine(LW _ (CQ (es:=es))).trans ?_;rw[←IR,←IR];exact List.Perm.append_right _ List.perm_append_comm;split;simp;simp
theorem yN:∀{es:List aE},((es.map eS).flatMap (·.Tags)).Perm (es.flatMap (·.Tags))|[]=>by simp|e::es=>by rw[IU,Jj,Jj];exact(fj _).append yN
section
variable {w:aA}
theorem Hw {ep r:Int} {tags:List (List Int)} (h:(yD w ep tags r).2=0):0≤r∧r≤4096∧SX w=true∧(0≤ep∧ep≤w.Newest∧w.Newest - ep<8)∧(lenOf w:Int)+((fJ w tags).length:Int)≤r∧yD w ep tags r=(⟨w.Newest,(vH w.Epochs ep (fJ w tags)).map eS⟩,0):=by unfold yD at h⊢;cases a:(decide (r<0)||decide (r>4096)|| !SX w) with|true=>rw[a] at h;simp at h|false=>rw[a] at h;cases b:(decide (ep<0)|| !(decide (ep≤w.Newest)&&decide (w.Newest - ep<8))) with|true=>rw[b] at h;simp at h|false=>rw[b] at h;cases c:decide ((lenOf w:Int)+((fJ w tags).length:Int)>r) with|true=>rw[c] at h;simp at h|false=>simp only[Iy,Iw,Bool.not_eq_false',Ix,IB] at a b c;exact⟨by omega,by omega,a.2,by omega,by omega,rfl⟩
theorem GE {ep r:Int} {tags:List (List Int)} (h:(yD w ep tags r).2≠0):(yD w ep tags r).1=⟨0,[]⟩:=by unfold yD at h⊢;cases a:(decide (r<0)||decide (r>4096)|| !SX w) with|true=>rfl|false=>rw[a] at h;cases a:(decide (ep<0)|| !(decide (ep≤w.Newest)&&decide (w.Newest - ep<8))) with|true=>rfl|false=>rw[a] at h;cases a:decide ((lenOf w:Int)+((fJ w tags).length:Int)>r) with|true=>rfl|false=>rw[a] at h;simp at h
def put (w:aA) (ep:Int) (tags:List (List Int)):aA:=⟨w.Newest,(vH w.Epochs ep (fJ w tags)).map eS⟩
theorem tW {tags:List (List Int)} {t:List Int}:t∈fJ w tags↔t∈tags∧t∉dj w:=by unfold fJ;rw[(fj _).mem_iff,px]
theorem vl {tags:List (List Int)}:(fJ w tags).Nodup:=(fj _).nodup_iff.2 oz
theorem yO {ep:Int} {tags:List (List Int)}:(dj (put w ep tags)).Perm (fJ w tags++dj w):=by refine(yN (es:=vH w.Epochs ep (fJ w tags))).trans ?_;rw[Bu];split;rename_i h;rw[h];exact List.Perm.refl _;exact CQ
theorem GF {ep:Int} {tags:List (List Int)} {t:List Int}:t∈dj (put w ep tags)↔t∈dj w∨t∈tags:=by rw[yO.mem_iff,IK,tW];by_cases h:t∈dj w<;>simp[h]
theorem Hx {ep:Int} {tags:List (List Int)}:lenOf (put w ep tags)=(fJ w tags).length+lenOf w:=by have:=(yO (w:=w) (ep:=ep) (tags:=tags)).length_eq;rwa [Iu] at this
theorem Fl {ep s s' r r':Int} {tags:List (List Int)} (h:VW w s r) (ht:Tags tags) (k:Tags (dj w)) (p:0≤ep∧ep≤w.Newest∧w.Newest - ep<s') (a:s≤s') (a:(lenOf w:Int)+((fJ w tags).length:Int)≤r'):VW (put w ep tags) s' r':=by have l:(fJ w tags++dj w).Nodup:=J9.2 ⟨vl,h.nodup,λa c b d e=>by subst e;exact(tW.1 c).2 d⟩;have m:Tags (fJ w tags):=λt h=>ht t (tW.1 h).1;refine⟨h.new,by rw[Hx];omega,yO.nodup_iff.2 l,λe c=>?_,?_⟩;obtain⟨x,q,rfl⟩:=Jd.1 c;(have u:0≤x.Number∧x.Number≤w.Newest∧w.Newest - x.Number<s'∧x.Tags≠[]∧Tags x.Tags∧x.Tags.Nodup:=by (have i:∀y∈w.Epochs,0≤y.Number∧y.Number≤w.Newest∧w.Newest - y.Number<s'∧y.Tags≠[]∧Tags y.Tags∧y.Tags.Nodup:=λy v=>by obtain⟨a,b,c,d,f⟩:=h.ep y v;exact⟨a,b,by omega,d,λt j=>k t ((sw v).subset j),h.nodup.sublist (sw v)⟩);rw[Bu] at q;split at q;exact i x q;rename_i n;rcases Bv q with q|rfl|⟨y,v,o,rfl⟩;exact i x q;exact⟨p.1,p.2.1,p.2.2,n,m,vl⟩;obtain⟨a,b,c,d,f,g⟩:=i y v;refine⟨a,b,c,by simp[n],λt j=>?_,?_⟩;rcases IK.1 j with k|k;exact m t k;exact f t k;exact l.sublist ((List.Sublist.refl _).append (sw v)));obtain⟨c,d,f,i,j,k⟩:=u;refine⟨c,d,f,λe=>i ?_,kX j k⟩;have:=(fj x.Tags).length_eq;have e:mD x.Tags=[]:=e;rw[e] at this;exact IS this.symm;refine LQ.2 ?_;show List.Pairwise (λa b:aE=>a.Number<b.Number) _;rw[Bu];split;exact h.inc;exact Ek h.inc
end
end Go.Proofs.YtlkjdchmeihhkaaGreatDoor
namespace Go.Proofs.YtlkjdchmeihhkaaGreatDoor
open Go Go.Sim
open Go.IntKind (wrap)
variable [Fu]
theorem Bw {α:Type} (xs:List α):(xs.map (nB (α:=α))).sum=xs.length:=by induction xs with|nil=>rfl|cons x xs a=>simp[nB] at a⊢;omega
theorem GG {w:aA} (a:qO w) (c:li w≤1048576):dU w:=by obtain⟨b,⟨d,e⟩,_⟩:=a;(have a:(dj w).length+w.Epochs.length≤(w.Epochs.map jQ).sum:=by (have:∀a:List aE,(∀e∈a,pP e)→(a.flatMap (·.Tags)).length+a.length≤(a.map jQ).sum:=by intro a f;induction a with|nil=>simp|cons e a a=>have h:=a λx a=>f x (by simp[a]);obtain⟨_,⟨h,_⟩,_⟩:=f e (by simp);(have f:e.Tags.length≤(e.Tags.map (Q5 nB)).sum:=by (have:∀f:List (List Int),(∀t∈f,Tj 16 (kB .u8) t)→f.length≤(f.map (Q5 nB)).sum:=by intro f i;induction f with|nil=>simp|cons t f f=>have j:=f λx a=>i x (by simp[a]);have a:=(i t (by simp)).2;have:Q5 nB t=t.length:=Bw t;simp only[IU,LD,IN,this];omega);exact this _ h);have a:jQ e=nB e.Number+(R_ (Q5 nB) e.Tags+0):=rfl;have f:R_ (Q5 nB) e.Tags=(e.Tags.map (Q5 nB)).sum+1:=rfl;simp only[Jj,Iu,IU,LD,IN,a,f];omega);exact this _ d);have a:li w=nB w.Newest+(((w.Epochs.map jQ).sum+1)+0):=rfl;refine⟨b,λe a=>(d e a).1,λt b=>?_,by unfold lenOf;omega,by omega⟩;obtain⟨e,a,f⟩:=Lr.1 b;obtain⟨_,⟨h,_⟩,_⟩:=d e a;exact⟨(h t f).2,λb c=>(h t f).1 b c⟩
end Go.Proofs.YtlkjdchmeihhkaaGreatDoor
namespace Go.Proofs.YtlkjdchmeihhkaaGreatDoor
open Go Go.Sim
open Go.IntKind (wrap)
variable [Fu]
section
variable {w:aA}
theorem Hy (a:dU w):SX w=true↔VW w 8 4096:=by have:=AA a (s:=8) (r:=4096);unfold SX;rw[this];exact⟨λh=>h.2,λh=>⟨by decide,h⟩⟩
theorem GH (b:dU w) {ep r:Int} {tags:List (List Int)} (ht:Tags tags) (h:(yD w ep tags r).2=0):VW (put w ep tags) 8 r∧dU (put w ep tags)∧(yD w ep tags r).1=put w ep tags:=by obtain⟨a,a,c,d,e,f⟩:=Hw h;have v:=Fl ((Hy b).1 c) ht b.tag d (Int.le_refl _) e;refine⟨v,v.good a λt a=>?_,by rw[f];rfl⟩;rcases GF.1 a with k|k;exact b.tag t k;exact ht t k
theorem Fm (a:dU w) {ep r:Int} {tags:List (List Int)} (ht:Tags tags):dU (yD w ep tags r).1:=by by_cases h:(yD w ep tags r).2=0;obtain⟨_,b,c⟩:=GH a ht h;rw[c];exact b;rw[GE h];exact yL
end
end Go.Proofs.YtlkjdchmeihhkaaGreatDoor
