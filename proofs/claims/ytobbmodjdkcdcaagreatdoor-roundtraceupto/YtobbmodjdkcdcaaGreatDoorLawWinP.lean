import Derived.Test.YtobbmodjdkcdcaaGreatDoorRt8
import Derived.Test.YtobbmodjdkcdcaaGreatDoorSimC
import Derived.Test.YtobbmodjdkcdcaaGreatDoorLawSrt
set_option linter.all false
namespace Go.Proofs.YtobbmodjdkcdcaaGreatDoor
open Go Go.Sim
variable [Fu]
def cL (w:ae):List (List Int):=w.Epochs.flatMap (·.Tags)
def lenOf (w:ae):Nat:=(cL w).length
structure dL (w:ae):Prop where
 newest:gInt .i64 w.Newest
 num:∀e∈w.Epochs,gInt .i64 e.Number
 tag:∀t∈cL w,t.length=16∧aL t
 len:lenOf w≤1048576
 eps:w.Epochs.length≤1048576
def part (w:ae) (i:Nat):List (List Int):=(w.Epochs.take i).flatMap (·.Tags)
theorem jK {w:ae} {i:Nat} (h:i<w.Epochs.length):part w (i+1)=part w i++w.Epochs[i].Tags:=by unfold part;rw[F1 h,List.flatMap_append];simp
theorem qZ (w:ae):part w w.Epochs.length=cL w:=by simp[part,cL]
theorem nO (w:ae) (i:Nat):cL w=part w i++(w.Epochs.drop i).flatMap (·.Tags):=by unfold part cL;rw[←List.flatMap_append,GJ]
theorem tK (w:ae) (i:Nat):(part w i).length≤lenOf w:=by unfold lenOf;rw[nO w i,FM];omega
theorem uQ {w:ae} {i:Nat} (h:i<w.Epochs.length):w.Epochs[i].Tags.length≤lenOf w:=by have:=tK w (i+1);rw[jK h,FM] at this;omega
theorem Fd {w:ae} {i:Nat} (h:i<w.Epochs.length) {t:List Int} (ht:t∈w.Epochs[i].Tags):t∈cL w:=It.2 ⟨_,F7 h,ht⟩
theorem ir {x:Int} (h:gInt .i64 x): -9223372036854775808≤x∧x≤9223372036854775807:=h
section
variable {w:ae}
theorem uR (hw:dL w):ic w=some (lenOf w:Int):=by have hl:=hw.len;have he:=hw.eps;unfold ic;rw[JV (st:=λi=>(((part w i).length:Int),(i:Int))) (res:=λ_=>(lenOf w:Int)) (n:=w.Epochs.length)];rfl;intro i hi;left;(have h1:(i:Int)<(w.Epochs.length:Int):=by omega);have h2:=tK w (i+1);rw[jK hi,FM] at h2;refine⟨?_,rfl⟩;simp only[h1,GQ,FJ,cw hi,FR];rw[wrap64 (by omega),wrap64 (by omega),jK hi,FM];simp;simp[qZ,lenOf];simp[part]
theorem wW (hw:dL w):fD w=some (lenOf w:Int):=by have hl:=hw.len;have he:=hw.eps;unfold fD;rw[JV (st:=λi=>(((part w i).length:Int),(i:Int))) (res:=λ_=>(lenOf w:Int)) (n:=w.Epochs.length)];rfl;intro i hi;left;(have h1:(i:Int)<(w.Epochs.length:Int):=by omega);have h2:=tK w (i+1);rw[jK hi,FM] at h2;refine⟨?_,rfl⟩;simp only[h1,GQ,FJ,cw hi,FR];rw[wrap64 (by omega),wrap64 (by omega),jK hi,FM];simp;simp[qZ,lenOf];simp[part]
theorem CC (hw:dL w):gK w=some (cL w):=by have hl:=hw.len;have he:=hw.eps;unfold gK;rw[JV (st:=λi=>(part w i,(i:Int))) (res:=λ_=>cL w) (n:=w.Epochs.length)];rfl;intro i hi;left;(have h1:(i:Int)<(w.Epochs.length:Int):=by omega);have h2:=tK w (i+1);rw[jK hi,FM] at h2;refine⟨?_,rfl⟩;simp only[h1,GQ,FJ,cw hi,FR];rw[aQ (by unfold room;omega),FR,wrap64 (by omega),jK hi];simp;simp[qZ];simp[part]
def j6 (w:ae):List (List Int):=(cL w).foldl addk []
theorem zV {ts:List (List Int)} (hl:ts.length≤1048576) {v:Int} {m:List (List Int×Int)}:
   Loop.run (S:=(Int×(List ((List Int)×Int)))) (R:=(List ((List Int)×Int))) (λ(x483,x484)=>
    bif decide (x483<(ts.length:Int)) then
     (idx ts x483).bind λx494=>
     some (.next (IntKind.wrap .i64 (x483+1),mset x494 v x484))
    else
     some (.done x484)) (0,m)=some (ts.foldl (λm t=>mset t v m) m):=by
 rw[JV (st:=λi=>((i:Int),(ts.take i).foldl (λm t=>mset t v m) m)) (res:=λ_=>ts.foldl (λm t=>mset t v m) m) (n:=ts.length)]
 · intro i hi
   left
   have h1:(i:Int)<(ts.length:Int):=by omega
   refine⟨?_,rfl⟩
   simp only[h1,GQ,FJ,cw hi,FR]
   rw[wrap64 (by omega),F1 hi,GD]
   simp
 · simp
 · simp
theorem wX (v:Int):∀(ts:List (List Int)) (m:List (List Int×Int)),(ts.foldl (λm t=>mset t v m) m).map (·.1)=ts.foldl addk (m.map (·.1))|[],m=>rfl|t::ts,m=>by rw[GF,wX v ts,sy];rfl
def qb (w:ae):Nat→List (List Int×Int)|0=>[]|i+1=>match w.Epochs[i]? with|some e=>e.Tags.foldl (λm t=>mset t (i:Int) m) (qb w i)|none=>qb w i
theorem uS:∀i,i≤w.Epochs.length→(qb w i).map (·.1)=(part w i).foldl addk []|0,_=>by simp[qb,part]|i+1,h=>by have hi:i<w.Epochs.length:=h;(have:w.Epochs[i]? =some w.Epochs[i]:=by simp[hi]);rw[qb,this,jK hi,GD,←uS i (by omega),←wX]
theorem q9 (hw:dL w):∃m,gw w=some m∧m.map (·.1)=j6 w:=by have hl:=hw.len;have he:=hw.eps;refine⟨qb w w.Epochs.length,?_,by rw[uS _ (F9 _),qZ];rfl⟩;unfold gw;rw[JV (st:=λi=>((i:Int),qb w i)) (res:=λ_=>qb w w.Epochs.length) (n:=w.Epochs.length)];rfl;intro i hi;left;(have h1:(i:Int)<(w.Epochs.length:Int):=by omega);have h2:=uQ hi;refine⟨?_,rfl⟩;simp only[h1,GQ,FJ,cw hi,FR];rw[zV (by omega)];simp only[FR];rw[wrap64 (by omega)];(have h3:w.Epochs[i]? =some w.Epochs[i]:=by simp[hi]);simp only[qb,h3];simp;simp;simp[qb]
end
theorem tL {a b:List Int} (ha:a.length=16) (hb:b.length=16):dT a b=some (ltL a b):=by unfold dT;(have key:∀i,i<16→(a.drop i=a.getD i 0::a.drop (i+1))∧(b.drop i=b.getD i 0::b.drop (i+1)):=by intro i hi;constructor;rw[Hf (by omega)];simp[show i<a.length by omega];rw[Hf (by omega)];simp[show i<b.length by omega]);rw [JV (st := λi => (i : Int)) (res := λi => if a.drop i = b.drop i then (Sum.inl () : Unit ⊕ Bool) else .inr (ltL (a.drop i) (b.drop i))) (n := 16)];simp only[G9];by_cases h:a=b;subst h;simp[iW];simp[h];intro i hi;obtain⟨k1,k2⟩:=key i hi;(have h1:(i:Int)<16:=by omega);have ia:=cw (xs:=a) (i:=i) (by omega);have ib:=cw (xs:=b) (i:=i) (by omega);(have ea:a.getD i 0=a[i]:=by simp[show i<a.length by omega]);(have eb:b.getD i 0=b[i]:=by simp[show i<b.length by omega]);by_cases hne:a[i]=b[i];left;constructor;simp only[h1,GQ,FJ,ia,ib,FR,hne,F4,FI];rw[wrap64 (by omega)];simp;rw[k1,k2,ea,eb,hne];generalize a.drop (i+1)=p;generalize b.drop (i+1)=q;generalize b[i]=z;simp[ltL];right;(have hb':(a[i] != b[i])=true:=by simpa using hne);simp only[h1,GQ,FJ,ia,ib,FR,hb'];rw[k1,k2,ea,eb];generalize a.drop (i+1)=p;generalize b.drop (i+1)=q;generalize a[i]=y at hne⊢;generalize b[i]=z at hne⊢;simp[ltL,hne];simp[HC (show a.length≤16 by omega),HC (show b.length≤16 by omega)];rfl
theorem DF {a b:List Int}:iI a b=some (cmpB a b):=by simp[iI,jA]
def upB:List (List Int)→Nat→Bool|ts,0=>true|ts,i+1=>upB ts i&& !(ltL (ts.getD (i+1) []) (ts.getD i []))
theorem zW {ts:List (List Int)} (ht:∀t∈ts,t.length=16∧aL t) (hl:ts.length≤1048576):cd ts=some (upB ts (ts.length - 1)):=by unfold cd;rcases IH ts.length with h0|h0;have:ts=[]:=Gb h0;subst this;rw [Jv (r := (.inl () : Unit ⊕ Bool))];rfl;simp[wrap64];rw[wrap64 (by omega)];rw [JV (st := λj => (ts.length : Int) - 1 - j) (res := λj => if upB ts (ts.length - 1 - j) = true then (Sum.inl () : Unit ⊕ Bool) else .inr false) (n := ts.length - 1)];simp only[Is];cases upB ts (ts.length - 1)<;>simp;intro j hj;(have e1:(ts.length:Int) - 1 - j=((ts.length - 1 - j:Nat):Int):=by omega);(have e2:(ts.length:Int) - 1 - ((j+1:Nat):Int)=((ts.length - 1 - (j+1):Nat):Int):=by omega);(have e3:ts.length - 1 - j=(ts.length - 1 - (j+1))+1:=by omega);generalize hk:ts.length - 1 - (j+1)=k at e2 e3;(have hk1:k+1<ts.length:=by omega);(have h1:(((k+1:Nat):Int)>0):=by omega);have t1:=ht ts[k+1] (F7 hk1);have t2:=ht ts[k] (F7 (by omega));have hc:=yw t1.2 t2.2 (by rw[t1.1,t2.1]);(have g1:ts.getD (k+1) []=ts[k+1]:=by simp[hk1]);(have g2:ts.getD k []=ts[k]:=by simp[show k<ts.length by omega]);simp only[e1,e2,e3,h1,GQ,FJ,cw hk1,FR,upB,g1,g2];rw[wrap64 (by omega),show(((k+1:Nat):Int) - 1)=(k:Int) by omega,cw (show k<ts.length by omega)];simp only[FR,DF];by_cases hlt:ltL ts[k+1] ts[k]=true;right;simp[hc.2 hlt,hlt];left;(have hlt':ltL ts[k+1] ts[k]=false:=by simpa using hlt);have hc':¬cmpB ts[k+1] ts[k]<0:=λh=>hlt (hc.1 h);simp[hc',hlt'];(have e1:(ts.length:Int) - 1 - ((ts.length - 1:Nat):Int)=0:=by omega);simp[e1,upB];simp
end Go.Proofs.YtobbmodjdkcdcaaGreatDoor
namespace Go.Proofs.YtobbmodjdkcdcaaGreatDoor
open Go Go.Sim
variable [Fu]
def mrg:List (List Int)→List (List Int)→List (List Int)
 |[],qs=>qs
 |a::ps,[]=>a::ps
 |a::ps,b::qs=>if ltL b a=true then b::mrg (a::ps) qs else if a=b then a::mrg ps qs else a::mrg ps (b::qs)
 termination_by ps qs=>ps.length+qs.length
theorem BD (ps:List (List Int)):mrg ps []=ps:=by cases ps<;>simp[mrg]
abbrev Rises (l:List (List Int)):Prop:=l.Pairwise λx y=>ltL x y=true
def Tags (l:List (List Int)):Prop:=∀t∈l,t.length=16∧aL t
theorem nP:∀{ps qs:List (List Int)} {t:List Int},t∈mrg ps qs↔t∈ps∨t∈qs
 |[],qs,t=>by simp[mrg]
 |a::ps,[],t=>by simp[mrg]
 |a::ps,b::qs,t=>by
  unfold mrg
  split
  · have:=nP (ps:=a::ps) (qs:=qs) (t:=t)
    simp only[Gl,this]
    constructor
    · rintro(h|(h|h)|h)<;>simp[h]
    · rintro((h|h)|h|h)<;>simp[h]
  · split
    · rename_i h1 h2
      subst h2
      have:=nP (ps:=ps) (qs:=qs) (t:=t)
      simp only[Gl,this]
      constructor
      · rintro(h|h|h)<;>simp[h]
      · rintro((h|h)|h|h)<;>simp[h]
    · have:=nP (ps:=ps) (qs:=b::qs) (t:=t)
      simp only[Gl,this]
      constructor
      · rintro(h|h|h|h)<;>simp[h]
      · rintro((h|h)|h|h)<;>simp[h]
 termination_by ps qs=>ps.length+qs.length
theorem pL:∀{ps qs:List (List Int)},Tags ps→Tags qs→Rises ps→Rises qs→Rises (mrg ps qs)
 |[],qs,_,_,_,h=>by simpa[mrg] using h
 |a::ps,[],_,_,h,_=>by simpa[mrg] using h
 |a::ps,b::qs,ta,tb,ha,hb=>by
  have ha':=Ha.1 ha
  have hb':=Ha.1 hb
  have ta':Tags ps:=λt ht=>ta t (by simp[ht])
  have tb':Tags qs:=λt ht=>tb t (by simp[ht])
  have la:=(ta a (by simp)).1
  have lb:=(tb b (by simp)).1
  unfold mrg
  split
  · rename_i h1
    refine Ha.2 ⟨λx hx=>?_,pL ta tb' ha hb'.2⟩
    rcases nP.1 hx with hx|hx
    · rcases Gl.1 hx with rfl|hx
      · exact h1
      · exact jV h1 (ha'.1 x hx)
    · exact hb'.1 x hx
  · rename_i h1
    split
    · rename_i h2
      subst h2
      refine Ha.2 ⟨λx hx=>?_,pL ta' tb' ha'.2 hb'.2⟩
      rcases nP.1 hx with hx|hx
      · exact ha'.1 x hx
      · exact hb'.1 x hx
    · rename_i h2
      have h3:ltL a b=true:=(nk (by rw[la,lb]) h2).resolve_right h1
      refine Ha.2 ⟨λx hx=>?_,pL ta' tb ha'.2 hb⟩
      rcases nP.1 hx with hx|hx
      · exact ha'.1 x hx
      · rcases Gl.1 hx with rfl|hx
        · exact h3
        · exact jV h3 (hb'.1 x hx)
 termination_by ps qs=>ps.length+qs.length
theorem tM:∀{ps qs:List (List Int)},(mrg ps qs).length≤ps.length+qs.length
 |[],qs=>by simp[mrg]
 |a::ps,[]=>by simp[mrg]
 |a::ps,b::qs=>by
  unfold mrg
  split
  · have:=tM (ps:=a::ps) (qs:=qs);simp only[F2] at this⊢;omega
  · split
    · have:=tM (ps:=ps) (qs:=qs);simp only[F2] at this⊢;omega
    · have:=tM (ps:=ps) (qs:=b::qs);simp only[F2] at this⊢;omega
 termination_by ps qs=>ps.length+qs.length
theorem lI {α:Type} {xs:List α} {i:Nat} (h:i<xs.length):xs.drop i=xs[i]::xs.drop (i+1):=Hf h
theorem CD {ps qs:List (List Int)} {step:List (List Int)×Int×Int→Option (Ctl (List (List Int)×Int×Int) (List (List Int)))} (hlen:ps.length+qs.length≤1048576) (h1:∀(acc:List (List Int)) (i j:Nat) (hi:i<ps.length) (hj:j<qs.length),acc.length≤1048576→step (acc,(i:Int),(j:Int))=some (.next (if ltL qs[j] ps[i]=true then(acc++[qs[j]],(i:Int),((j+1:Nat):Int)) else if ps[i]=qs[j] then(acc++[ps[i]],((i+1:Nat):Int),((j+1:Nat):Int)) else(acc++[ps[i]],((i+1:Nat):Int),(j:Int))))) (h2:∀(acc:List (List Int)) (i:Nat) (hi:i<ps.length),acc.length≤1048576→step (acc,(i:Int),(qs.length:Int))=some (.next (acc++[ps[i]],((i+1:Nat):Int),(qs.length:Int)))) (h3:∀(acc:List (List Int)) (j:Nat) (hj:j<qs.length),acc.length≤1048576→step (acc,(ps.length:Int),(j:Int))=some (.next (acc++[qs[j]],(ps.length:Int),((j+1:Nat):Int)))) (h4:∀acc:List (List Int),step (acc,(ps.length:Int),(qs.length:Int))=some (.done acc)):Loop.run step ([],0,0)=some (mrg ps qs):=by (have key:∀(k i j:Nat) (acc:List (List Int)),(ps.length - i)+(qs.length - j)=k→i≤ps.length→j≤qs.length→acc.length+k≤1048576→Loop.run step (acc,(i:Int),(j:Int))=some (acc++mrg (ps.drop i) (qs.drop j)):=by intro k;induction k using Nat.strongRecOn with|_ k ihk=>intro i j acc hk hi hj hacc;by_cases hia:i<ps.length;by_cases hjb:j<qs.length;have hs:=h1 acc i j hia hjb (by omega);rw[lI hia,lI hjb];by_cases hlt:ltL qs[j] ps[i]=true;rw[Gz hlt] at hs;rw[JB hs,ihk (k - 1) (by omega) i (j+1) (acc++[qs[j]]) (by omega) hi (by omega) (by simp;omega),mrg,Gz hlt,lI hia];simp;rw[Gt hlt] at hs;by_cases heq:ps[i]=qs[j];rw[Gz heq] at hs;rw[JB hs,ihk (k - 2) (by omega) (i+1) (j+1) (acc++[ps[i]]) (by omega) (by omega) (by omega) (by simp;omega),mrg,Gt hlt,Gz heq];simp;rw[Gt heq] at hs;rw[JB hs,ihk (k - 1) (by omega) (i+1) j (acc++[ps[i]]) (by omega) (by omega) hj (by simp;omega),mrg,Gt hlt,Gt heq,lI hjb];simp;(have hj2:j=qs.length:=by omega);subst hj2;rw[JB (h2 acc i hia (by omega)),ihk (k - 1) (by omega) (i+1) qs.length (acc++[ps[i]]) (by omega) (by omega) hj (by simp;omega)];rw[I7,BD,BD,lI hia];simp;(have hi2:i=ps.length:=by omega);subst hi2;by_cases hjb:j<qs.length;rw[JB (h3 acc j hjb (by omega)),ihk (k - 1) (by omega) ps.length (j+1) (acc++[qs[j]]) (by omega) hi (by omega) (by simp;omega)];rw[I7,lI hjb];simp[mrg];(have hj2:j=qs.length:=by omega);subst hj2;rw[Jv (h4 acc),I7,I7];simp[mrg]);exact key _ 0 0 [] rfl (by omega) (by omega) (by simp;omega)
theorem CE:∀(fuel:Nat) (xs:List (List Int)),Tags xs→xs.length≤1048576→xs.length≤2^fuel→ ∃ys,cu (fuel+1) xs=some ys∧Rises ys∧(∀t,t∈ys↔t∈xs)∧ys.length≤xs.length:=by intro fuel;induction fuel with|zero=>(intro xs ht hl hf;(have h1:((xs.length:Int)<2):=by omega);refine⟨xs,?_,?_,λt=>Iff.rfl,F9 _⟩;rw[cu.eq_2];simp only[h1,GQ,FJ];(have:mkB 0 1=true:=by decide);rw[this,FJ];simp[aQ (show([]:List (List Int)).length+xs.length≤room by simp[room];omega)];match xs,hf with|[],_=>simp|[x],_=>simp|_::_::_,h=>simp at h)|succ fuel ih=>intro xs ht hl hf;by_cases h2:xs.length<2;(have h1:((xs.length:Int)<2):=by omega);refine⟨xs,?_,?_,λt=>Iff.rfl,F9 _⟩;rw[cu.eq_2];simp only[h1,GQ,FJ];(have:mkB 0 1=true:=by decide);rw[this,FJ];simp[aQ (show([]:List (List Int)).length+xs.length≤room by simp[room];omega)];(match xs,h2 with|[],_=>simp|[x],_=>simp|_::_::_,h=>simp at h;omega);(have h1:¬((xs.length:Int)<2):=by omega);(have hp:2^(fuel+1)=2*2^fuel:=by rw[Nat.pow_succ];omega);(have hm:IntKind.i64.wrap (Int.tdiv (xs.length:Int) 2)=((xs.length / 2:Nat):Int):=by rw[Int.tdiv_eq_ediv_of_nonneg (by omega),wrap64 (by omega)];omega);(have s1:sub xs 0 ((xs.length / 2:Nat):Int)=some (xs.take (xs.length / 2)):=by unfold sub;(have:(decide ((0:Int)≤0)&&decide ((0:Int)≤((xs.length / 2:Nat):Int))&&decide (((xs.length / 2:Nat):Int)≤(xs.length:Int)))=true:=by simp;omega);rw[this,FJ];rfl);(have s2:sub xs ((xs.length / 2:Nat):Int) (xs.length:Int)=some (xs.drop (xs.length / 2)):=by unfold sub;(have:(decide ((0:Int)≤((xs.length / 2:Nat):Int))&&decide (((xs.length / 2:Nat):Int)≤(xs.length:Int))&&decide ((xs.length:Int)≤(xs.length:Int)))=true:=by simp;omega);rw[this,FJ,FP,FP,Gm]);obtain⟨ps,a1,a2,a3,a4⟩:=ih (xs.take (xs.length / 2)) (λt h=>ht t (Gv h)) (by simp;omega) (by simp;omega);obtain⟨qs,b1,b2,b3,b4⟩:=ih (xs.drop (xs.length / 2)) (λt h=>ht t (HJ h)) (by simp;omega) (by simp;omega);simp only[Ga,Gh] at a4 b4;have ta:Tags ps:=λt h=>ht t (Gv ((a3 t).1 h));have tb:Tags qs:=λt h=>ht t (HJ ((b3 t).1 h));(have hmk:mkB 0 (xs.length:Int)=true:=by have hr:(room:Int)=17179869184:=rfl;simp only[mkB,FT,FX];omega);refine⟨mrg ps qs,?_,pL ta tb a2 b2,λt=>?_,?_⟩;rw[cu.eq_2];simp only[h1,HD,FI,hm,s1,FR,a1,s2,b1,hmk,FJ];rw[Gw.2 ⟨mrg ps qs,?_,rfl⟩];rw[Gw.2 ⟨mrg ps qs,?_,rfl⟩];simp only[Int.toNat_zero,H7];refine CD (ps:=ps) (qs:=qs) (by omega) ?_ ?_ ?_ ?_;intro acc i j hia hjb hacc;have ia:=cw hia;have ib:=cw hjb;(have h1:((i:Int)<(ps.length:Int)):=by omega);(have h2:((j:Int)<(qs.length:Int)):=by omega);(have h3:((j:Int)==(qs.length:Int))=false:=by simp;omega);have tai:=ta ps[i] (F7 hia);have tbj:=tb qs[j] (F7 hjb);(have w1:IntKind.i64.wrap ((i:Int)+1)=((i+1:Nat):Int):=by rw[wrap64 (by omega)];rfl);(have w2:IntKind.i64.wrap ((j:Int)+1)=((j+1:Nat):Int):=by rw[wrap64 (by omega)];rfl);have r1:app acc [ps[i]]=some (acc++[ps[i]]):=aQ (by simp[room];omega);have r2:app acc [qs[j]]=some (acc++[qs[j]]):=aQ (by simp[room];omega);by_cases hlt:ltL qs[j] ps[i]=true;simp only[h1,h2,h3,GQ,H2,FJ,FI,ib,ia,FR,tL tbj.1 tai.1,hlt,Gr,r2,w2,IE];(have hlt':ltL qs[j] ps[i]=false:=by simpa using hlt);by_cases heq:ps[i]=qs[j];(have heq':(ps[i]==qs[j])=true:=by simpa using heq);simp only[h1,h2,h3,GQ,H2,FJ,FI,ib,ia,FR,tL tbj.1 tai.1,hlt',HB,heq',r1,w1,w2,Gz heq,Hn,IC];(have heq':(ps[i]==qs[j])=false:=by simpa using heq);simp only[h1,h2,h3,GQ,H2,FJ,FI,ib,ia,FR,tL tbj.1 tai.1,hlt',HB,heq',r1,w1,Gt heq,Hn,IC];intro acc i hia hacc;have ia:=cw hia;(have h1:((i:Int)<(ps.length:Int)):=by omega);(have h2:¬((qs.length:Int)<(qs.length:Int)):=by omega);(have w1:IntKind.i64.wrap ((i:Int)+1)=((i+1:Nat):Int):=by rw[wrap64 (by omega)];rfl);have r1:app acc [ps[i]]=some (acc++[ps[i]]):=aQ (by simp[room];omega);simp only[h1,h2,H9,GQ,HD,Ji,FJ,FI,ia,FR,r1,w1];intro acc j hjb hacc;have ib:=cw hjb;(have h1:¬((ps.length:Int)<(ps.length:Int)):=by omega);(have h2:((j:Int)<(qs.length:Int)):=by omega);(have h3:((j:Int)==(qs.length:Int))=false:=by simp;omega);(have w2:IntKind.i64.wrap ((j:Int)+1)=((j+1:Nat):Int):=by rw[wrap64 (by omega)];rfl);have r2:app acc [qs[j]]=some (acc++[qs[j]]):=aQ (by simp[room];omega);simp only[h1,h2,h3,GQ,HD,H2,FJ,FI,ib,FR,r2,w2];intro acc;(have h1:¬((ps.length:Int)<(ps.length:Int)):=by omega);(have h2:¬((qs.length:Int)<(qs.length:Int)):=by omega);simp only[h1,h2,HD,H4,FI];rw[nP,a3,b3];(have:t∈xs↔t∈xs.take (xs.length / 2)++xs.drop (xs.length / 2):=by rw[GJ]);rw[this,Gd];have:=tM (ps:=ps) (qs:=qs);omega
end Go.Proofs.YtobbmodjdkcdcaaGreatDoor
namespace Go.Proofs.YtobbmodjdkcdcaaGreatDoor
open Go Go.Sim
variable [Fu]
def jL (p:Nat→Bool):Nat→Nat→Bool|0,_=>true|k+1,i=>p i&&jL p k (i+1)
theorem jM {p:Nat→Bool}:∀{k i:Nat},jL p k i=true↔∀j,i≤j→j<i+k→p j=true|0,i=>by simp[jL];intro j h1 h2;omega|k+1,i=>by rw[jL,FT,jM];constructor;rintro⟨h1,h2⟩ j hj1 hj2;by_cases h:j=i;subst h;exact h1;exact h2 j (by omega) (by omega);intro h;exact⟨h i (by omega) (by omega),λj h1 h2=>h j (by omega) (by omega)⟩
theorem uT {S R:Type} {step:S→Option (Ctl S R)} (st:Nat→S) (n:Nat) (p:Nat→Bool) (good bad:R) (h:∀i,i<n→step (st i)=some (bif p i then .next (st (i+1)) else .done bad)) (he:step (st n)=some (.done good)) {s0:S} (h0:s0=st 0): Loop.run step s0=some (bif jL p n 0 then good else bad):=by have:=JV (step:=step) (st:=st) (res:=λi=>bif jL p (n - i) i then good else bad) (n:=n) ?_ ?_ h0;rw[this,Is];intro i hi;(have e:n - i=(n - (i+1))+1:=by omega);rw[h i hi];(cases hp:p i with|true=>left;refine⟨rfl,?_⟩;rw[e];simp[jL,hp]|false=>right;rw[e];simp[jL,hp]);rw[he,Iu];rfl
def epN (w:ae) (i:Nat):Int:=(w.Epochs.getD i ⟨0,[]⟩).Number
def epT (w:ae) (i:Nat):List (List Int):=(w.Epochs.getD i ⟨0,[]⟩).Tags
def okW (w:ae) (s:Int) (i:Nat):Bool:=!(decide (epN w i<0))&&(decide (epN w i≤w.Newest)&&decide (w.Newest - epN w i<s))&& !(decide (0<i)&&decide (epN w i≤epN w (i - 1)))&& !((epT w i).isEmpty)&&upB (epT w i) ((epT w i).length - 1)
def uU (ts:List (List Int)):Bool:=jL (λj=>ltL (ts.getD j []) (ts.getD (j+1) [])) (ts.length - 1) 0
def okR (w:ae) (s:Int) (i:Nat):Bool:=!(decide (epN w i<0))&&(decide (epN w i≤w.Newest)&&decide (w.Newest - epN w i<s))&& !(decide (0<i)&&decide (epN w i≤epN w (i - 1)))&& !((epT w i).isEmpty)&&uU (epT w i)
def c1 (s r:Int):Bool:= !((((decide (s<1))||(decide (s>8)))||(decide (r<0)))||(decide (r>4096)))
def c2 (w:ae) (r:Int):Bool:= !((decide (w.Newest<0))||(decide (w.Newest>4611686018427387904)))&& !(decide ((lenOf w:Int)>r))
def c3 (w:ae):Bool:=((j6 w).length:Int)==(lenOf w:Int)
section
variable {w:ae}
theorem pM (hw:dL w) {i:Nat} (h:i<w.Epochs.length):Tags w.Epochs[i].Tags:=λt ht=>hw.tag t (Fd h ht)
theorem lJ (hw:dL w) {s r:Int}:fH w s r=some (bif c1 s r&&c2 w r&&c3 w&&jL (okW w s) w.Epochs.length 0 then 0 else 2):=by have hl:=hw.len;have he:=hw.eps;obtain⟨m,hm,hk⟩:=q9 hw;(have hml:m.length=(j6 w).length:=by rw[←hk];simp);unfold fH c1;cases h1:((((decide (s<1))||(decide (s>8)))||(decide (r<0)))||(decide (r>4096))) with|true=>simp|false=>simp only[FI,uR hw,FR,hm,hml,HB,GV];unfold c2;cases h2:((decide (w.Newest<0))||(decide (w.Newest>4611686018427387904))) with|true=>simp|false=>simp only[FI,FR,HB,GV];cases h3:decide ((lenOf w:Int)>r) with|true=>simp|false=>simp only[FI,FR,HB,GV];unfold c3;cases h4:(((j6 w).length:Int)==(lenOf w:Int)) with|false=>simp only[bne,h4,HB,FJ,IR,FI]|true=>simp only[bne,h4,Gr,FI,GV];simp only[FU,FW] at h1 h2 h3;rw [uT (st := λi => (i : Int)) (n := w.Epochs.length) (p := okW w s) (good := (.inl () : Unit ⊕ Int)) (bad := .inr 2)];cases jL (okW w s) w.Epochs.length 0<;>rfl;intro i hi;(have hlt:(i:Int)<(w.Epochs.length:Int):=by omega);have t1:=zW (pM hw hi) (G7 (uQ hi) hl);(have g1:w.Epochs.getD i ⟨0,[]⟩=w.Epochs[i]:=by simp[hi]);have n1:=ir (hw.num _ (F7 hi));(have w1:IntKind.i64.wrap ((i:Int)+1)=((i+1:Nat):Int):=by rw[wrap64 (by omega)];rfl);(have em:((w.Epochs[i].Tags.length:Int)==0)=w.Epochs[i].Tags.isEmpty:=by cases w.Epochs[i].Tags<;>simp;omega);simp only[hlt,GQ,FJ,cw hi,FR,t1,w1,okW,epN,epT,g1,em];(have hprev:(bif decide ((i:Int)>0) then(idx w.Epochs (IntKind.wrap .i64 ((i:Int) - 1))).bind λx235=>some (decide (w.Epochs[i].Number≤x235.Number)) else some false)=some (decide (0<i)&&decide (w.Epochs[i].Number≤(w.Epochs.getD (i - 1) ⟨0,[]⟩).Number)):=by by_cases h0:0<i;(have e1:(i:Int) - 1=((i - 1:Nat):Int):=by omega);(have h5:((i:Int)>0):=by omega);(have hi1:i - 1<w.Epochs.length:=by omega);rw[wrap64 (by omega),e1,cw hi1];simp[h5,h0,hi1];(have h5:¬((i:Int)>0):=by omega);simp[h5,h0]);rw[hprev];(cases hneg:decide (w.Epochs[i].Number<0) with|true=>simp|false=>have hneg':=F5 hneg;simp only[FI,gl,FR];rw[wrap64 (by omega)];generalize (decide (w.Epochs[i].Number≤w.Newest)&&decide (w.Newest - w.Epochs[i].Number<s))=b1;generalize (decide (0<i)&&decide (w.Epochs[i].Number≤(w.Epochs.getD (i - 1) ⟨0,[]⟩).Number))=b2;generalize w.Epochs[i].Tags.isEmpty=b3;generalize upB w.Epochs[i].Tags (w.Epochs[i].Tags.length - 1)=b4;cases b1<;>cases b2<;>cases b3<;>cases b4<;>rfl);simp;rfl
theorem zX {ys:List (List Int)} (hr:Rises ys) (hm:∀t,t∈ys↔t∈cL w):ys.length=(j6 w).length:=by (have h1:ys.Nodup:=hr.imp λ{a b} h e=>by subst e;rw[iW] at h;cases h);have h2:(j6 w).Nodup:=pt Jl;exact((Im h1 h2).2 λt=>by rw[hm,j6,sx];simp).length_eq
theorem A6 {ts:List (List Int)} (ht:Tags ts) (hl:ts.length≤1048576) (h0:ts≠[]):
   Loop.run (S := Int) (R := (Unit ⊕ Int)) (λx916 =>
    bif decide (x916<(ts.length:Int)) then
     (idx ts (IntKind.wrap .i64 (x916 - 1))).bind λx928=>
     (idx ts x916).bind λx930=>
     (dT x928 x930).bind λy932=>
     bif !y932 then
      some (.done (.inr 2))
     else
      some (.next (IntKind.wrap .i64 (x916+1)))
    else
     some (.done (.inl ()))) 1=some (bif uU ts then .inl () else .inr 2):=by
 have hpos:0<ts.length:=Jd.2 h0
 rw [uT (st := λi => ((i + 1 : Nat) : Int)) (n := ts.length - 1) (p := λj => ltL (ts.getD j []) (ts.getD (j + 1) [])) (good := (.inl () : Unit ⊕ Int)) (bad := .inr 2)]
 · rfl
 · intro i hi
   have hi1:i+1<ts.length:=by omega
   have hi0:i<ts.length:=by omega
   have hlt:((i+1:Nat):Int)<(ts.length:Int):=by omega
   have e1:IntKind.wrap .i64 (((i+1:Nat):Int) - 1)=(i:Int):=by rw[wrap64 (by omega)];omega
   have e2:IntKind.wrap .i64 (((i+1:Nat):Int)+1)=((i+1+1:Nat):Int):=by rw[wrap64 (by omega)];omega
   have t1:=(ht ts[i] (F7 hi0)).1
   have t2:=(ht ts[i+1] (F7 hi1)).1
   have g1:ts.getD i []=ts[i]:=by simp[hi0]
   have g2:ts.getD (i+1) []=ts[i+1]:=by simp[hi1]
   simp only[hlt,GQ,FJ,e1,e2,cw hi0,cw hi1,FR,tL t1 t2,g1,g2]
   cases ltL ts[i] ts[i+1]<;>rfl
 · have:¬(((ts.length - 1+1:Nat):Int)<(ts.length:Int)):=by omega
   simp only[this,HD,FI]
 · rfl
theorem zY (hw:dL w) {s r:Int}:dF w s r=some (bif c1 s r&&c2 w r&&c3 w&&jL (okR w s) w.Epochs.length 0 then 0 else 2):=by have hl:=hw.len;have he:=hw.eps;have htags:Tags (cL w):=hw.tag;obtain⟨ys,y1,y2,y3,y4⟩:=CE 63 (cL w) htags hl (G7 hl (by decide));have hyl:=zX y2 y3;unfold dF c1 c2;cases h1:((((decide (s<1))||(decide (s>8)))||(decide (r<0)))||(decide (r>4096))) with|true=>simp|false=>cases h2:((decide (w.Newest<0))||(decide (w.Newest>4611686018427387904))) with|true=>simp only[Bool.or_assoc,HG] at h2⊢;simp[h2]|false=>simp only[FU] at h2;simp only[h2.1,h2.2,H4,FI,wW hw,FR,HB,GV];cases h3:decide ((lenOf w:Int)>r) with|true=>simp|false=>simp only[FI,FR,HB,GV];simp only[FU,FW] at h1 h2 h3;rw [uT (st := λi => (i : Int)) (n := w.Epochs.length) (p := okR w s) (good := (.inl () : Unit ⊕ Int)) (bad := .inr 2)];(cases jL (okR w s) w.Epochs.length 0 with|false=>simp|true=>simp only[FJ,FR,CC hw,y1,hyl,wW hw,c3,bne,Bool.and_true];cases ((j6 w).length:Int)==(lenOf w:Int)<;>rfl);intro i hi;(have hlt:(i:Int)<(w.Epochs.length:Int):=by omega);(have g1:w.Epochs.getD i ⟨0,[]⟩=w.Epochs[i]:=by simp[hi]);have n1:=ir (hw.num _ (F7 hi));(have w1:IntKind.i64.wrap ((i:Int)+1)=((i+1:Nat):Int):=by rw[wrap64 (by omega)];rfl);(have em:((w.Epochs[i].Tags.length:Int)==0)=w.Epochs[i].Tags.isEmpty:=by cases w.Epochs[i].Tags<;>simp;omega);(have hprev:(bif decide ((i:Int)>0) then(idx w.Epochs (IntKind.wrap .i64 ((i:Int) - 1))).bind λx894=>some (decide (x894.Number≥w.Epochs[i].Number)) else some false)=some (decide (0<i)&&decide (w.Epochs[i].Number≤(w.Epochs.getD (i - 1) ⟨0,[]⟩).Number)):=by by_cases h0:0<i;(have e1:(i:Int) - 1=((i - 1:Nat):Int):=by omega);(have h5:((i:Int)>0):=by omega);(have hi1:i - 1<w.Epochs.length:=by omega);rw[wrap64 (by omega),e1,cw hi1];simp[h5,h0,hi1];(have h5:¬((i:Int)>0):=by omega);simp[h5,h0]);simp only[hlt,GQ,FJ,cw hi,FR,w1,okR,epN,epT,g1,em,hprev];rw[wrap64 (by omega)];(have k1:decide (w.Epochs[i].Number>w.Newest)= !(decide (w.Epochs[i].Number≤w.Newest)):=by by_cases h:w.Epochs[i].Number≤w.Newest;simp[h];simp[h];omega);(have k2:decide (w.Epochs[i].Number≤w.Newest - s)= !(decide (w.Newest - w.Epochs[i].Number<s)):=by by_cases h:w.Newest - w.Epochs[i].Number<s;simp[h];omega;simp[h];omega);rw[k1,k2];(cases hem:w.Epochs[i].Tags.isEmpty with|true=>simp only[H2,FJ,FR,Gr,Bool.and_false,IR,FI]|false=>(have hne:w.Epochs[i].Tags≠[]:=λh=>by rw[h] at hem;cases hem);rw[A6 (pM hw hi) (G7 (uQ hi) hl) hne];generalize decide (w.Epochs[i].Number<0)=b0;generalize decide (w.Epochs[i].Number≤w.Newest)=b1;generalize decide (w.Newest - w.Epochs[i].Number<s)=b2;generalize (decide (0<i)&&decide (w.Epochs[i].Number≤(w.Epochs.getD (i - 1) ⟨0,[]⟩).Number))=b3;generalize uU w.Epochs[i].Tags=b4;cases b0<;>cases b1<;>cases b2<;>cases b3<;>cases b4<;>rfl);simp;rfl
theorem BE {ts:List (List Int)}:∀{k:Nat},upB ts k=true↔∀i,i<k→ltL (ts.getD (i+1) []) (ts.getD i [])=false|0=>by simp[upB]|k+1=>by rw[upB,FT,BE,G8];constructor;rintro⟨h1,h2⟩ i hi;by_cases h:i=k;subst h;exact h2;exact h1 i (by omega);intro h;exact⟨λi hi=>h i (by omega),h k (by omega)⟩
theorem ya {ts:List (List Int)} (ht:Tags ts) (hn:ts.Nodup):upB ts (ts.length - 1)=uU ts:=by (have key:∀i,i+1<ts.length→(ltL (ts.getD (i+1) []) (ts.getD i [])=false↔ltL (ts.getD i []) (ts.getD (i+1) [])=true):=by intro i hi;(have g1:ts.getD i []=ts[i]:=by simp[show i<ts.length by omega]);(have g2:ts.getD (i+1) []=ts[i+1]:=by simp[hi]);rw[g1,g2];(have hne:ts[i]≠ts[i+1]:=λe=>by have:=(List.getElem_inj (h₀:=show i<ts.length by omega) (h₁:=hi) hn).1 e;omega);have l1:=(ht ts[i] (F7 _)).1;have l2:=(ht ts[i+1] (F7 _)).1;constructor;intro h;exact(nk (by rw[l1,l2]) hne).resolve_right (by rw[h];simp);intro h;cases h2:ltL ts[i+1] ts[i] with|false=>rfl|true=>have:=jV h h2;rw[iW] at this;cases this);rw[Gk,BE,uU,jM];constructor;intro h j _ hj;exact(key j (by omega)).1 (h j (by omega));intro h i hi;exact(key i (by omega)).2 (h i (by omega) (by omega))
theorem zZ (hw:dL w) {s r:Int}:fH w s r=dF w s r:=by rw[lJ hw,zY hw];cases h3:c3 w with|false=>simp|true=>(have hfull:(cL w).Nodup:=by (have h4:(j6 w).length=lenOf w:=by have:=h3;simp only[c3,Hj] at this;omega);exact(vY (l:=cL w) (ks:=[]) (by simpa[j6,lenOf] using h4)).1);(have hok:∀i,i<w.Epochs.length→okW w s i=okR w s i:=by intro i hi;(have g1:w.Epochs.getD i ⟨0,[]⟩=w.Epochs[i]:=by simp[hi]);(have hn:(epT w i).Nodup:=by (have h5:(w.Epochs[i].Tags).Sublist (cL w):=by rw[nO w i,lI hi,GC];exact(HI _ _).trans (Hs _ _));simp only[epT,g1];exact hfull.sublist h5);(have ht:Tags (epT w i):=by simp only[epT,g1];exact pM hw hi);rw[okW,okR,ya ht hn]);(have:jL (okW w s) w.Epochs.length 0=jL (okR w s) w.Epochs.length 0:=by rw[Gk,jM,jM];exact⟨λh j h1 h2=>(hok j (by omega))▸h j h1 h2,λh j h1 h2=>(hok j (by omega))▸h j h1 h2⟩);rw[this]
end
end Go.Proofs.YtobbmodjdkcdcaaGreatDoor
namespace Go.Proofs.YtobbmodjdkcdcaaGreatDoor
open Go Go.Sim
variable [Fu]
theorem EB {x:Int} (h1:x< -9223372036854775808) (h2: -9223372036854785808≤x):IntKind.i64.wrap x=x+18446744073709551616:=by simp[IntKind.wrap,IntKind.bits,IntKind.signed];omega
theorem EC {x:Int} (h1:9223372036854775807<x) (h2:x≤9223372036854785807):IntKind.i64.wrap x=x - 18446744073709551616:=by simp[IntKind.wrap,IntKind.bits,IntKind.signed];omega
theorem uV {a b d:Int} (ha:gInt .i64 a) (hb:gInt .i64 b) (hd: -2000≤d∧d≤2000):fJ a b d=some (decide (a>b+d)):=by have ha:=ir ha;have hb:=ir hb;unfold fJ;by_cases h1:b+d< -9223372036854775808;rw[EB h1 (by omega)];(have e1:decide (d<0)=true:=by simp;omega);(have e2:decide (b+d+18446744073709551616>b)=true:=by simp;omega);(have e3:decide (a>b+d)=true:=by simp;omega);simp[e1,e2,e3];by_cases h2:9223372036854775807<b+d;rw[EC h2 (by omega)];(have e1:decide (d<0)=false:=by simp;omega);(have e2:decide (d>0)=true:=by simp;omega);(have e3:decide (b+d - 18446744073709551616<b)=true:=by simp;omega);(have e4:decide (a>b+d)=false:=by simp;omega);rw[e1,e2,e3,e4];rfl;rw[wrap64 (by omega)];(have e1:(decide (d<0)&&decide (b+d>b))=false:=by cases h:decide (d<0)<;>simp at h⊢;omega);(have e2:(decide (d>0)&&decide (b+d<b))=false:=by cases h:decide (d>0)<;>simp at h⊢;omega);rw[e1,e2];rfl
def keep (m s:Int) (e:aj):Bool:=decide (e.Number>m - s)
def oe (w:ae) (a s:Int):ae×Int:=bif decide (s<1)||decide (s>8)||decide (a<0)||decide (a>4611686018427387904) then(⟨0,[]⟩,2) else bif decide (w.Newest≥a+s)||decide (w.Newest<a - 1024) then(⟨0,[]⟩,161) else(⟨max w.Newest a,w.Epochs.filter (keep (max w.Newest a) s)⟩,0)
section
variable {w:ae}
theorem DG (m s:Int) (i:Nat):((w.Epochs.take i).filter (keep m s)).length≤i:=G7 (Hc _ _) (by simp;omega)
theorem Aa {ts:List (List Int)} (h:ts.length≤1048576):gx ts=some ts:=by simp[gx,aQ (show([]:List (List Int)).length+ts.length≤room by simp[room];omega)]
theorem sQ (hw:dL w) {a s:Int} (ha:gInt .i64 a):iw w a s=some (oe w a s):=by have hl:=hw.len;have he:=hw.eps;have hn:=ir hw.newest;unfold iw oe;cases hc:(decide (s<1)||decide (s>8)||decide (a<0)||decide (a>4611686018427387904)) with|true=>rfl|false=>simp only[FU,FW] at hc;obtain⟨⟨⟨c1,c2⟩,c3⟩,c4⟩:=hc;simp only[FI];rw[wrap64 (x:=0 - s) (by omega),uV ha hw.newest (by omega),FR];(have hmax:gInt .i64 (max w.Newest a):=by show -9223372036854775808≤max w.Newest a∧max w.Newest a≤9223372036854775807;have:=ir ha;omega);cases h1:decide (a>w.Newest+(0 - s)) with|false=>(have:(decide (w.Newest≥a+s)||decide (w.Newest<a - 1024))=true:=by simp only[FW] at h1;simp;omega);rw[this];rfl|true=>simp only[FX] at h1;simp only[Gr,FI];rw[uV ha hw.newest (by omega),FR,FR];(have e1:(decide (w.Newest≥a+s)||decide (w.Newest<a - 1024))=decide (a>w.Newest+1024):=by (have:decide (w.Newest≥a+s)=false:=by simp;omega);rw[this,HG];congr 1;exact propext ⟨λh=>by omega,λh=>by omega⟩);rw[e1];cases h2:decide (a>w.Newest+1024) with|true=>rfl|false=>simp only[FI];rw[JV (st:=λi=>((i:Int),(w.Epochs.take i).filter (keep (max w.Newest a) s))) (res:=λ_=>(⟨max w.Newest a,w.Epochs.filter (keep (max w.Newest a) s)⟩:ae)) (n:=w.Epochs.length)];rfl;intro i hi;left;(have h1:(i:Int)<(w.Epochs.length:Int):=by omega);have hf:=DG (w:=w) (max w.Newest a) s i;have hep:=uQ hi;refine⟨?_,rfl⟩;simp only[h1,GQ,FJ,cw hi,FR];rw[uV (hw.num _ (F7 hi)) hmax (by omega),FR,wrap64 (by omega)];(have hk:decide (w.Epochs[i].Number>max w.Newest a+(0 - s))=keep (max w.Newest a) s w.Epochs[i]:=by unfold keep;congr 1;exact propext ⟨λh=>by omega,λh=>by omega⟩);rw[hk,F1 hi,IJ];(cases hkk:keep (max w.Newest a) s w.Epochs[i] with|true=>rw[Aa (by omega)];simp only[FJ,FR];rw[aQ (by simp[room];omega)];simp[hkk]|false=>simp[hkk]);simp;simp
end
end Go.Proofs.YtobbmodjdkcdcaaGreatDoor
namespace Go.Proofs.YtobbmodjdkcdcaaGreatDoor
open Go Go.Sim
variable [Fu]
section
variable {w:ae}
end
end Go.Proofs.YtobbmodjdkcdcaaGreatDoor
namespace Go.Proofs.YtobbmodjdkcdcaaGreatDoor
open Go Go.Sim
variable [Fu]
def msort (ts:List (List Int)):List (List Int):=ts.mergeSort λx y=> !ltL y x
theorem iE (ts:List (List Int)):(msort ts).Perm ts:=List.mergeSort_perm _ _
theorem oV {ts:List (List Int)} (ht:Tags ts) (hn:ts.Nodup):Rises (msort ts):=by obtain⟨d,hd⟩:=BB ts (λx hx=>(ht x hx).1) (λx hx=>(ht x hx).2);(have hs:(d.mergeSort λx y=> !ltOf cfT y x).Pairwise λa b=>(!ltOf cfT b a)=true:=by refine List.pairwise_mergeSort (λa b c h1 h2=>?_) (λa b=>?_) d;simp only[G8,Bool.not_eq_eq_eq_not,Gr] at*;exact swoT.ntrans _ _ _ h2 h1;cases h1:ltOf cfT b a with|false=>simp|true=>cases h2:ltOf cfT a b with|false=>simp|true=>have:=swoT.trans _ _ _ h1 h2;rw[swoT.irrefl] at this;cases this);(have hnd:(d.mergeSort λx y=> !ltOf cfT y x).Nodup:=by (have h2:d.Nodup:=by rw[←hd] at hn;exact(IQ.1 hn).imp λh e=>h (by rw[e]));exact(List.mergeSort_perm d _).nodup_iff.2 h2);unfold msort Rises;rw[←hd,←qa,IQ];refine(hs.and hnd).imp λ{a b} ⟨h1,h2⟩=>?_;rw[←pK];cases h3:ltOf cfT a b with|true=>rfl|false=>simp only[G8,Bool.not_eq_eq_eq_not,Gr] at h1;exact absurd (E3 a b h3 h1) h2
theorem ra:∀{a b:List (List Int)},Rises a→Rises b→(∀t,t∈a↔t∈b)→a=b|[],[],_,_,_=>rfl|[],y::b,_,_,h=>by have:=(h y).2 (by simp);simp at this|x::a,[],_,_,h=>by have:=(h x).1 (by simp);simp at this|x::a,y::b,ha,hb,h=>by have ha':=Ha.1 ha;have hb':=Ha.1 hb;(have hxy:x=y:=by have h1:=(h x).1 (by simp);have h2:=(h y).2 (by simp);rcases Gl.1 h1 with h1|h1;exact h1;rcases Gl.1 h2 with h2|h2;exact h2.symm;have:=jV (hb'.1 x h1) (ha'.1 y h2);rw[iW] at this;cases this);subst hxy;congr 1;refine ra ha'.2 hb'.2 λt=>⟨λht=>?_,λht=>?_⟩;rcases Gl.1 ((h t).1 (by simp[ht])) with rfl|h1;have:=ha'.1 t ht;rw[iW] at this;cases this;exact h1;rcases Gl.1 ((h t).2 (by simp[ht])) with rfl|h1;have:=hb'.1 t ht;rw[iW] at this;cases this;exact h1
theorem DH {ts:List (List Int)} (ht:Tags ts) (hl:ts.length≤4000000):uN ts=some (msort ts):=by unfold uN;rw[Gz ⟨λx hx=>(ht x hx).2,by omega⟩];rfl
def frAt (tags:List (List Int)):Nat→List (List Int×Int)|0=>[]|i+1=>match tags[i]? with|some t=>mset t (i:Int) (frAt tags i)|none=>frAt tags i
theorem wY {tags:List (List Int)}:∀i,i≤tags.length→(frAt tags i).map (·.1)=(tags.take i).foldl addk []|0,_=>by simp[frAt]|i+1,h=>by have hi:i<tags.length:=h;(have:tags[i]? =some tags[i]:=by simp[hi]);rw[frAt,this,F1 hi,GD,←wY i (by omega)];simp[sy]
theorem wZ {x:List Int}:∀{ps:List (List Int×Int)},(ps.map (·.1)).Nodup→(mdel x ps).map (·.1)=(ps.map (·.1)).filter (λy=> !(x==y))|[],_=>rfl|p::ps,hn=>by have hn':=Hq.1 hn;by_cases h:x=p.1;subst h;(have hf:(ps.map (·.1)).filter (λy=> !(p.1==y))=ps.map (·.1):=Ix.2 λy hy=>by have:p.1≠y:=λe=>hn'.1 (by show p.1∈_;rw[e];exact hy);simpa using this);simp[mdel,hf];(have hne:(x==p.1)=false:=by simpa using h);have ih:=wZ (x:=x) hn'.2;simp[mdel,hne,ih]
theorem w4:∀{qs ps:List (List Int×Int)},(ps.map (·.1)).Nodup→(qs.foldl (λs q=>mdel q.1 s) ps).map (·.1)=(ps.map (·.1)).filter λy=>decide (y∉qs.map (·.1))|[],ps,_=>by simp only[Io];exact(Ix.2 λy _=>by simp).symm|q::qs,ps,hn=>by have h1:=wZ (x:=q.1) hn;(have hn2:((mdel q.1 ps).map (·.1)).Nodup:=by rw[h1];exact hn.filter _);rw[GF,w4 hn2,h1,List.filter_filter];refine List.filter_congr λy _=>?_;by_cases h:q.1=y;subst h;simp;have h':¬y=q.1:=λe=>h e.symm;(have h2:(q.1==y)=false:=by simpa using h);simp only[Ge,Gl,h',false_or,h2,HB,Bool.and_true]
theorem sR {α β:Type} {f:β→α→β}:∀{l:List α} {s:β},l.foldlM (λs q=>some (f s q)) s=some (l.foldl f s)|[],s=>rfl|a::l,s=>by rw[IZ,GF];exact sR
def dS (ep:Int) (ad:List (List Int)) (s:List aj×Bool) (e:aj):List aj×Bool:=bif s.2 then(s.1++[e],true) else bif decide (e.Number≥ep) then bif decide (e.Number>ep) then(s.1++[⟨ep,ad⟩,e],true) else(s.1++[{e with Tags:=ad++e.Tags}],true) else(s.1++[e],false)
def insI (es:List aj) (ep:Int) (ad:List (List Int)):List aj×Bool:=es.foldl (dS ep ad) ([],(ad.length:Int)==0)
def putI (es:List aj) (ep:Int) (ad:List (List Int)):List aj:=bif (insI es ep ad).2 then(insI es ep ad).1 else(insI es ep ad).1++[⟨ep,ad⟩]
theorem CF {ep:Int} {ad:List (List Int)} {s:List aj×Bool} {e:aj}:(dS ep ad s e).1.length≤s.1.length+2:=by unfold dS;cases s.2<;>cases decide (e.Number≥ep)<;>cases decide (e.Number>ep)<;>simp
theorem sa {ep:Int} {ad:List (List Int)}:∀{es:List aj} {s:List aj×Bool},(es.foldl (dS ep ad) s).1.length≤s.1.length+2*es.length|[],s=>by simp|e::es,s=>by have h1:=CF (ep:=ep) (ad:=ad) (s:=s) (e:=e);have h2:=sa (ep:=ep) (ad:=ad) (es:=es) (s:=dS ep ad s e);rw[GF,F2];omega
theorem pN {ts:List (List Int)} (h:ts.length≤4000000):bw ts=some ts:=by simp[bw,aQ (show([]:List (List Int)).length+ts.length≤room by simp[room];omega)]
def fR (e:aj):aj:={e with Tags:=msort e.Tags}
theorem CG {es:List aj} {n:Int} (hl:es.length≤4000000) (ht:∀e∈es,Tags e.Tags∧e.Tags.length≤4000000):
   Loop.run (S:=((List aj)×Int)) (R:=ae) (λ(x707,x708)=>
     bif decide (x708<(es.length:Int)) then
      (idx x707 x708).bind λx726=>
      (uN x726.Tags).bind λy735=>
      some (.next (List.set x707 (Int.toNat x708) ({x726 with Tags:=y735}:aj),IntKind.wrap .i64 (x708+1)))
     else
      some (.done (⟨n,x707⟩:ae))) (es,0)=some ⟨n,es.map fR⟩:=by
 have hat:∀i,(h:i<es.length)→((es.take i).map fR++es.drop i)[i]? =some es[i]:=λi h=>by
   rw[List.getElem?_append_right (by simp;omega)]
   simp[GE (Nat.le_of_lt h),h]
 rw[JV (st:=λi=>((es.take i).map fR++es.drop i,(i:Int))) (res:=λ_=>(⟨n,es.map fR⟩:ae)) (n:=es.length)]
 · intro i hi
   left
   have h1:(i:Int)<(es.length:Int):=by omega
   have hlen:((es.take i).map fR++es.drop i).length=es.length:=by simp;omega
   refine⟨?_,rfl⟩
   simp only[h1,GQ,FJ]
   rw[cw (show i<((es.take i).map fR++es.drop i).length by omega),FR]
   have hg : ((es.take i).map fR ++ es.drop i)[i]'(by omega) = es[i] := by
    have:=hat i hi
    rw[GP (by omega)] at this
    exact Option.some.inj this
   rw[hg,DH (ht _ (F7 hi)).1 (ht _ (F7 hi)).2,FR,wrap64 (by omega)]
   have hset:((es.take i).map fR++es.drop i).set i (fR es[i])=(es.take (i+1)).map fR++es.drop (i+1):=by
    rw[Ih _ _ (by simp;omega),show i - ((es.take i).map fR).length=0 by simp;omega,Hf hi,IK,F1 hi,Gy,F6]
    rfl
   have hz:Int.toNat (i:Int)=i:=by simp
   rw[hz]
   have:({es[i] with Tags:=msort es[i].Tags}:aj)=fR es[i]:=rfl
   rw[this,hset]
   simp
 · simp
 · simp
section
variable {w:ae}
theorem ED {es:List aj} {i:Nat} (hi:i<es.length) {ep:Int} {ad:List (List Int)} {s:List aj×Bool}:(es.take (i+1)).foldl (dS ep ad) s=dS ep ad ((es.take i).foldl (dS ep ad) s) es[i]:=by rw[F1 hi,GD];rfl
theorem DI (hw:dL w) {ep:Int} {ad:List (List Int)} (had:ad.length≤1048576):
   Loop.run (S:=(Int×(List aj)×Bool)) (R:=((List aj)×Bool)) (fun(x226,x228,mode_)=>
       bif mode_ then
        bif decide (x226<(w.Epochs.length:Int)) then
         (idx w.Epochs x226).bind λx467=>
         ((some ()
          :Option Unit)).bind λ_=>
         (bw x467.Tags).bind λy476=>
         (app x228 [(⟨x467.Number,y476⟩:aj)]).bind λz479=>
         some (.next (IntKind.wrap .i64 (x226+1),z479,true))
        else
         some (.done (x228,true))
       else
        bif decide (x226<(w.Epochs.length:Int)) then
         (idx w.Epochs x226).bind λx292=>
         bif decide (x292.Number≥ep) then
          bif decide (x292.Number>ep) then
           (app x228 [(⟨ep,ad⟩:aj)]).bind λz299=>
           (bw x292.Tags).bind λy303=>
           (app z299 [(⟨x292.Number,y303⟩:aj)]).bind λz306=>
           some (.next (IntKind.wrap .i64 (x226+1),z306,true))
          else
           (app ad x292.Tags).bind λz310=>
           (bw (({x292 with Tags:=z310}:aj).Tags)).bind λy313=>
           (app x228 [(⟨({x292 with Tags:=z310}:aj).Number,y313⟩:aj)]).bind λz316=>
           some (.next (IntKind.wrap .i64 (x226+1),z316,true))
         else
          (bw x292.Tags).bind λy320=>
          (app x228 [(⟨x292.Number,y320⟩:aj)]).bind λz323=>
          some (.next (IntKind.wrap .i64 (x226+1),z323,false))
        else
         some (.done (x228,false))) (0,[],(ad.length:Int)==0)=some (insI w.Epochs ep ad):=by
 have hl:=hw.len
 have he:=hw.eps
 rw[JV (st:=λi=>((i:Int),(w.Epochs.take i).foldl (dS ep ad) ([],(ad.length:Int)==0))) (res:=λ_=>insI w.Epochs ep ad) (n:=w.Epochs.length)]
 · intro i hi
   left
   have h1:(i:Int)<(w.Epochs.length:Int):=by omega
   have hep:=uQ hi
   have hlen:=sa (ep:=ep) (ad:=ad) (es:=w.Epochs.take i) (s:=([],(ad.length:Int)==0))
   simp only[Gg,Ga] at hlen
   refine⟨?_,rfl⟩
   simp only[ED hi]
   generalize (w.Epochs.take i).foldl (dS ep ad) ([],(ad.length:Int)==0)=s at hlen⊢
   obtain⟨acc,m⟩:=s
   simp only at hlen
   have hs:((i:Int)+1)=((i+1:Nat):Int):=by simp
   cases m with
   |true=>
    simp only[h1,GQ,FJ,cw hi,FR]
    rw[pN (by omega),FR,aQ (by simp[room];omega),FR,wrap64 (by omega),hs]
    rfl
   |false=>
    simp only[h1,GQ,FJ,FI,cw hi,FR]
    unfold dS
    simp only[FI]
    cases hge:decide (w.Epochs[i].Number≥ep) with
    |false=>
     simp only[FI]
     rw[pN (by omega),FR,aQ (by simp[room];omega),FR,wrap64 (by omega),hs]
    |true=>
     simp only[FJ]
     cases hgt:decide (w.Epochs[i].Number>ep) with
     |true=>
      simp only[FJ]
      rw[aQ (by simp[room];omega),FR,pN (by omega),FR,aQ (by simp[room];omega),FR,wrap64 (by omega),hs]
      simp
     |false=>
      simp only[FI]
      rw[aQ (by simp[room];omega),FR,pN (by simp;omega),FR,aQ (by simp[room];omega),FR,wrap64 (by omega),hs]
 · have h2:¬((w.Epochs.length:Int)<(w.Epochs.length:Int)):=by omega
   simp only[Gm,insI]
   generalize w.Epochs.foldl (dS ep ad) ([],(ad.length:Int)==0)=s
   obtain⟨acc,m⟩:=s
   cases m<;>simp
 · simp
end
end Go.Proofs.YtobbmodjdkcdcaaGreatDoor
namespace Go.Proofs.YtobbmodjdkcdcaaGreatDoor
open Go Go.Sim
variable [Fu]
def jh (w:ae) (tags:List (List Int)):List (List Int):=(tags.foldl addk []).filter λy=>decide (y∉cL w)
def gr (w:ae) (tags:List (List Int)):List (List Int):=msort (jh w tags)
def okB (w:ae):Bool:=c1 8 4096&&c2 w 4096&&c3 w&&jL (okW w 8) w.Epochs.length 0
def addW (w:ae) (ep:Int) (tags:List (List Int)) (r:Int):ae×Int:=bif decide (r<0)||decide (r>4096)|| !okB w then(⟨0,[]⟩,2) else bif decide (ep<0)|| !(decide (ep≤w.Newest)&&decide (w.Newest - ep<8)) then(⟨0,[]⟩,161) else bif decide ((lenOf w:Int)+((gr w tags).length:Int)>r) then(⟨0,[]⟩,160) else(⟨w.Newest,(putI w.Epochs ep (gr w tags)).map fR⟩,0)
theorem re {w:ae} {tags:List (List Int)}:(jh w tags).Nodup:=(pt Jl).filter _
theorem qk {w:ae} {tags:List (List Int)} {t:List Int}:t∈jh w tags↔t∈tags∧t∉cL w:=by unfold jh;rw[Hg,sx];simp
theorem Ab {w:ae} {tags:List (List Int)} (ht:Tags tags):Tags (jh w tags):=λt h=>ht t (qk.1 h).1
theorem sS {a b:List (List Int)} (ht:Tags a) (hn:a.Nodup) (hp:a.Perm b):msort a=msort b:=ra (oV ht hn) (oV (λt h=>ht t (hp.mem_iff.2 h)) (hp.nodup_iff.1 hn)) λt=>by rw[(iE a).mem_iff,(iE b).mem_iff];exact hp.mem_iff
theorem A7 {ep:Int} {a b:List (List Int)} {s s':List aj×Bool} {e:aj} (h1:s.1.map fR=s'.1.map fR) (h2:s.2=s'.2) (ha:msort a=msort b) (hc:msort (a++e.Tags)=msort (b++e.Tags)): (dS ep a s e).1.map fR=(dS ep b s' e).1.map fR∧(dS ep a s e).2=(dS ep b s' e).2:=by obtain⟨x,m⟩:=s;obtain⟨y,m'⟩:=s';simp only at h1 h2;subst h2;unfold dS;cases m<;>cases decide (e.Number≥ep)<;>cases decide (e.Number>ep)<;>simp[h1,fR,ha,hc]
theorem uX {ep:Int} {a b:List (List Int)} (ha:msort a=msort b):∀{es:List aj} {s s':List aj×Bool},(∀e∈es,msort (a++e.Tags)=msort (b++e.Tags))→s.1.map fR=s'.1.map fR→s.2=s'.2→ (es.foldl (dS ep a) s).1.map fR=(es.foldl (dS ep b) s').1.map fR∧(es.foldl (dS ep a) s).2=(es.foldl (dS ep b) s').2|[],s,s',_,h1,h2=>⟨h1,h2⟩|e::es,s,s',hc,h1,h2=>by obtain⟨h3,h4⟩:=A7 (ep:=ep) h1 h2 ha (hc e (by simp));exact uX (s:=dS ep a s e) (s':=dS ep b s' e) ha (λx hx=>hc x (by simp[hx])) h3 h4
theorem CI {es:List aj} {ep:Int} {a b:List (List Int)} (hl:a.length=b.length) (ha:msort a=msort b) (hc:∀e∈es,msort (a++e.Tags)=msort (b++e.Tags)):(putI es ep a).map fR=(putI es ep b).map fR:=by obtain⟨h1,h2⟩:=uX (ep:=ep) ha (s:=([],(a.length:Int)==0)) (s':=([],(b.length:Int)==0)) hc rfl (by simp[hl]);unfold putI insI;rw[h2];cases (es.foldl (dS ep b) ([],(b.length:Int)==0)).2<;>simp[h1,fR,ha]
theorem A8 {tags:List (List Int)} (hl:tags.length≤1048576):
   Loop.run (S:=(Int×(List ((List Int)×Int)))) (R:=(List ((List Int)×Int))) (λ(x901,x902)=>
    bif decide (x901<(tags.length:Int)) then
     (idx tags x901).bind λx912=>
     some (.next (IntKind.wrap .i64 (x901+1),mset x912 x901 x902))
    else
     some (.done x902)) (0,[])=some (frAt tags tags.length):=by
 rw[JV (st:=λi=>((i:Int),frAt tags i)) (res:=λ_=>frAt tags tags.length) (n:=tags.length)]
 · intro i hi
   left
   have h1:(i:Int)<(tags.length:Int):=by omega
   have h2:tags[i]? =some tags[i]:=by simp[hi]
   refine⟨?_,rfl⟩
   simp only[h1,GQ,FJ,cw hi,FR,frAt,h2]
   rw[wrap64 (by omega)];simp
 · simp
 · simp[frAt]
section
variable {w:ae}
theorem uY (h:c3 w=true):(cL w).Nodup:=by (have h4:(j6 w).length=lenOf w:=by have:=h;simp only[c3,Hj] at this;omega);exact(vY (l:=cL w) (ks:=[]) (by simpa[j6,lenOf] using h4)).1
theorem Ac:∀{qs:List (List Int×Int)} {acc:List (List Int)},acc.length+qs.length≤4000000→ qs.foldlM (λx103 p106=>(app x103 [p106.1]).bind λz885=>some z885) acc=some (acc++qs.map (·.1))|[],acc,_=>by simp|q::qs,acc,h=>by simp only[F2] at h;rw[IZ,aQ (by simp[room];omega)];simp only[FR,Option.bind_eq_bind];rw[Ac (by simp;omega)];simp
theorem Ad {es:List aj} {ep:Int} {ad:List (List Int)} (P:aj→Prop) (h1:∀e∈es,P e) (h2:P ⟨ep,ad⟩) (h3:∀e∈es,P {e with Tags:=ad++e.Tags}):∀e∈putI es ep ad,P e:=by (have key:∀(l:List aj),(∀e∈l,e∈es)→∀s:List aj×Bool,(∀e∈s.1,P e)→∀e∈(l.foldl (dS ep ad) s).1,P e:=by intro l;induction l with|nil=>intro _ s hs;exact hs| cons x l ih =>intro hl s hs;rw[GF];refine ih (λe he=>hl e (by simp[he])) _ λe he=>?_;have hx:=hl x (by simp);unfold dS at he;cases h4:s.2<;>cases h5:decide (x.Number≥ep)<;>cases h6:decide (x.Number>ep)<;>simp[h4,h5,h6] at he<;>rcases he with he|he<;>first|exact hs e he|(rw[he];first|exact h1 x hx|exact h3 x hx)|(rcases he with he|he<;>rw[he]<;>first|exact h2|exact h1 _ hx));intro e he;have hfold:=key es (λe h=>h) ([],(ad.length:Int)==0) (by simp);unfold putI insI at he;cases hm:(es.foldl (dS ep ad) ([],(ad.length:Int)==0)).2<;>rw[hm] at he<;>simp only[FJ,FI] at he;rcases Gd.1 he with he|he;exact hfold e he;simp at he;subst he;exact h2;exact hfold e he
theorem DJ {es:List aj} {ep:Int} {ad:List (List Int)}:(putI es ep ad).length≤2*es.length+1:=by have:=sa (ep:=ep) (ad:=ad) (es:=es) (s:=([],(ad.length:Int)==0));unfold putI insI;cases (es.foldl (dS ep ad) ([],(ad.length:Int)==0)).2<;>simp at this⊢<;>omega
end
end Go.Proofs.YtobbmodjdkcdcaaGreatDoor
namespace Go.Proofs.YtobbmodjdkcdcaaGreatDoor
open Go Go.Sim
variable [Fu]
theorem nQ {α β:Type} {o:Option α} {a:α} {k:α→Option β} {r:Option β} (h:o=some a) (hk:k a=r):o.bind k=r:=by rw[h];exact hk
section
variable {w:ae}
theorem Ae (hw:dL w) (hn:(cL w).Nodup) {ep:Int} {tags ad:List (List Int)} (ht:Tags tags) (hl:tags.length≤1048576) (hp:ad.Perm (jh w tags)): (putI w.Epochs ep ad).map fR=(putI w.Epochs ep (gr w tags)).map fR∧ad.length=(gr w tags).length∧ad.length≤1048576∧∀e∈putI w.Epochs ep ad,Tags e.Tags∧e.Tags.length≤4000000:=by have hF:=(iE (jh w tags));have hp2:ad.Perm (gr w tags):=hp.trans hF.symm;have hK:=Ab (w:=w) ht;have hTad:Tags ad:=λt h=>hK t (hp.mem_iff.1 h);have hNad:ad.Nodup:=hp.nodup_iff.2 re;(have hlen:(jh w tags).length≤1048576:=by have h1:(jh w tags).length≤(tags.foldl addk []).length:=Hc _ _;have h2:=xj (l:=tags) (ks:=([]:List (List Int)));simp at h2;omega);(have hlad:ad.length≤1048576:=by rw[hp.length_eq];exact hlen);have hwl:=hw.len;(have hNe:∀e∈w.Epochs,(ad++e.Tags).Nodup:=λe he=>by (have hs:e.Tags.Sublist (cL w):=by obtain⟨j,hj,rfl⟩:=Ht he;rw[nO w j,lI hj,GC];exact((HI _ _).trans (Hs _ _)));refine Hu.2 ⟨hNad,hn.sublist hs,λa ha b hb e=>?_⟩;subst e;exact(qk.1 (hp.mem_iff.1 ha)).2 (hs.subset hb));(have hTe:∀e∈w.Epochs,Tags e.Tags:=λe he=>by obtain⟨j,hj,rfl⟩:=Ht he;exact pM hw hj);(have hLe:∀e∈w.Epochs,e.Tags.length≤1048576:=λe he=>by obtain⟨j,hj,rfl⟩:=Ht he;have:=uQ hj;omega);refine⟨CI hp2.length_eq (sS hTad hNad hp2) λe he=>sS (λt h=>?_) (hNe e he) (hp2.append_right _),hp2.length_eq,hlad,?_⟩;rcases Gd.1 h with h|h;exact hTad t h;exact hTe e he t h;refine Ad (λe=>Tags e.Tags∧e.Tags.length≤4000000) (λe he=>⟨hTe e he,by have:=hLe e he;omega⟩) ⟨hTad,by simp only;omega⟩ λe he=>⟨λt h=>?_,by have:=hLe e he;simp;omega⟩;rcases Gd.1 h with h|h;exact hTad t h;exact hTe e he t h
theorem A9 (hw:dL w) {ep r:Int} (hep:gInt .i64 ep) {tags:List (List Int)} (ht:Tags tags) (hl:tags.length≤1048576):kj w ep tags r=some (addW w ep tags r):=by have hwl:=hw.len;have hwe:=hw.eps;have hne:=ir hw.newest;have hepr:=ir hep;unfold kj addW;cases hr:(decide (r<0)||decide (r>4096)) with|true=>simp|false=>simp only[FI,HG];rw[lJ hw];have hok:(c1 8 4096&&c2 w 4096&&c3 w&&jL (okW w 8) w.Epochs.length 0)=okB w:=rfl;rw[hok];cases hb:okB w with|false=>simp|true=>have hb':=hb;unfold okB at hb';simp only[FT] at hb';obtain⟨⟨⟨_,hc2⟩,hc3⟩,_⟩:=hb';(have hN:0≤w.Newest∧w.Newest≤4611686018427387904:=by unfold c2 at hc2;simp at hc2;omega);have hnd:=uY hc3;simp only[FJ,FR,F4,FI,Gr];cases h1:decide (ep<0) with|true=>simp|false=>simp only[FW] at h1;(have hk:gl ep w.Newest 8=some (decide (ep≤w.Newest)&&decide (w.Newest - ep<8)):=by unfold gl;rw[wrap64 (by omega)]);simp only[FI,hk,FR,HG];cases h2:(decide (ep≤w.Newest)&&decide (w.Newest - ep<8)) with|false=>simp|true=>simp only[Gr,FI];rw[A8 hl];obtain⟨m,hm,hmk⟩:=q9 hw;rw[hm];simp only[FR];refine xf λqs hq=>?_;rw[sR (f:=λs (q:List Int×Int)=>mdel q.1 s)];simp only[FR];have hfk:=wY (tags:=tags) tags.length (F9 _);rw[Gm] at hfk;(have hkeys:(qs.foldl (λs q=>mdel q.1 s) (frAt tags tags.length)).map (·.1)=jh w tags:=by rw[w4 (by rw[hfk];exact pt Jl),hfk];unfold jh;refine List.filter_congr λy _=>?_;(have:y∈qs.map (·.1)↔y∈cL w:=by rw[(hq.map _).mem_iff,hmk,j6,sx];simp);simp[this]);generalize qs.foldl (λs q=>mdel q.1 s) (frAt tags tags.length)=fm at hkeys;(have hfl:fm.length=(jh w tags).length:=by rw[←hkeys];simp);have hFl:(gr w tags).length=(jh w tags).length:=(iE _).length_eq;obtain⟨_,_,hKl,_⟩:=Ae hw hnd (ep:=ep) ht hl (List.Perm.refl (jh w tags));rw[uR hw];simp only[FR];rw[wrap64 (by omega),hfl,hFl];cases h3:decide ((lenOf w:Int)+((jh w tags).length:Int)>r) with|true=>rfl|false=>simp only[FI];refine xf λps hps=>?_;(have hadp:(ps.map (·.1)).Perm (jh w tags):=by rw[←hkeys];exact hps.map _);obtain⟨t1,t2,t3,t4⟩:=Ae hw hnd (ep:=ep) ht hl hadp;have hapl:=Ac (qs:=ps) (acc:=[]) (by have:=hps.length_eq;simp;omega);rw[F8] at hapl;rw[hapl];simp only[FR];refine nQ (DI hw t3) ?_;have hpl:=DJ (es:=w.Epochs) (ep:=ep) (ad:=ps.map (·.1));have hsl:=CG (n:=w.Newest) (by omega) t4;rw[←t1];unfold putI at hsl hpl⊢;generalize hI:insI w.Epochs ep (ps.map (·.1))=s at hsl hpl⊢;obtain⟨acc,mo⟩:=s;cases mo with|true=>simp only[FJ] at hsl⊢;exact nQ (nQ hsl rfl) rfl|false=>simp only[FI] at hsl hpl⊢;exact nQ (nQ (aQ (by simp at hpl;simp[room];omega)) rfl)<|nQ (nQ hsl rfl) rfl
end
end Go.Proofs.YtobbmodjdkcdcaaGreatDoor
namespace Go.Proofs.YtobbmodjdkcdcaaGreatDoor
open Go Go.Sim
variable [Fu]
section
variable {w:ae}
end
end Go.Proofs.YtobbmodjdkcdcaaGreatDoor
namespace Go.Proofs.YtobbmodjdkcdcaaGreatDoor
open Go Go.Sim
variable [Fu]
section
variable {H A:List (List Int)}
end
end Go.Proofs.YtobbmodjdkcdcaaGreatDoor
namespace Go.Proofs.YtobbmodjdkcdcaaGreatDoor
open Go Go.Sim
variable [Fu]
theorem Ba {ts:List (List Int)} (h:uU ts=true):Rises ts:=by have h1:=jM.1 h;(have key:∀d i,(hi:i+d+1<ts.length)→ltL (ts.getD i []) (ts.getD (i+d+1) [])=true:=by intro d;induction d with|zero=>intro i hi;exact h1 i (by omega) (by omega)|succ d ih=>intro i hi;exact jV (ih i (by omega)) (by have:=h1 (i+d+1) (by omega) (by omega);rwa [show i+(d+1)+1=i+d+1+1 by omega]));refine HZ.2 λi j hi hj hij=>?_;have:=key (j - i - 1) i (by omega);rw[show i+(j - i - 1)+1=j by omega] at this;simpa[hi,hj] using this
section
variable {w:ae}
end
end Go.Proofs.YtobbmodjdkcdcaaGreatDoor
namespace Go.Proofs.YtobbmodjdkcdcaaGreatDoor
open Go Go.Sim
variable [Fu]
theorem uZ:dL ⟨0,[]⟩:=⟨⟨by decide,by decide⟩,by simp,by simp[cL],by simp[lenOf,cL],by simp⟩
theorem DK {xs ys:List aj} (h:List.Sublist xs ys):List.Sublist (xs.flatMap (·.Tags)) (ys.flatMap (·.Tags)):=by induction h with|slnil=>exact List.Sublist.refl _|cons a _ ih=>rw[GC];exact ih.trans (Hs _ _)|cons_cons a _ ih=>rw[GC,GC];exact(List.Sublist.refl _).append ih
theorem Bb {w:ae} (hw:dL w) {a s:Int} (ha:gInt .i64 a):dL (oe w a s).1:=by unfold oe;cases (decide (s<1)||decide (s>8)||decide (a<0)||decide (a>4611686018427387904)) with|true=>exact uZ|false=>cases (decide (w.Newest≥a+s)||decide (w.Newest<a - 1024)) with|true=>exact uZ|false=>have h1:=ir hw.newest;have h2:=ir ha;have hs:List.Sublist (w.Epochs.filter (keep (max w.Newest a) s)) w.Epochs:=Jf;have ht:List.Sublist ((w.Epochs.filter (keep (max w.Newest a) s)).flatMap (·.Tags)) (cL w):=DK hs;exact⟨show -9223372036854775808≤max w.Newest a∧max w.Newest a≤9223372036854775807 by omega,λe he=>hw.num e (hs.subset he),λt h=>hw.tag t (ht.subset h),G7 ht.length_le hw.len,G7 hs.length_le hw.eps⟩
end Go.Proofs.YtobbmodjdkcdcaaGreatDoor
namespace Go.Proofs.YtobbmodjdkcdcaaGreatDoor
open Go Go.Sim
variable [Fu]
structure VW (w:ae) (s r:Int):Prop where
 new:0≤w.Newest∧w.Newest≤4611686018427387904
 len:(lenOf w:Int)≤r
 nodup:(cL w).Nodup
 ep:∀e∈w.Epochs,0≤e.Number∧e.Number≤w.Newest∧w.Newest - e.Number<s∧e.Tags≠[]∧Rises e.Tags
 inc:w.Epochs.Pairwise λa b=>a.Number<b.Number
theorem CJ {l ks:List (List Int)} (h:l.Nodup) (h2:∀x∈l,x∉ks):l.foldl addk ks=ks++l:=by induction l generalizing ks with|nil=>simp|cons x l ih=>obtain⟨h3,h4⟩:=Hq.1 h;have hx:=h2 x (by simp);(have:addk ks x=ks++[x]:=by simp[addk,hx]);rw[GF,this,ih h4 λy hy hm=>by rcases Gd.1 hm with hm|hm;exact h2 y (by simp[hy]) hm;simp at hm;subst hm;exact h3 hy];simp
theorem DL {w:ae}:c3 w=true↔(cL w).Nodup:=by constructor;exact uY;intro h;have:=CJ (ks:=[]) h (by simp);simp[c3,j6,lenOf,this]
theorem l8 {α:Type} {xs:List α} {i:Nat} (h:i<xs.length) (d:α):xs.getD i d=xs[i]:=by simp[h]
theorem DM {ts:List (List Int)} (h:Rises ts):uU ts=true:=by refine jM.2 λj _ hj=>?_;rw[l8 (show j<ts.length by omega),l8 (show j+1<ts.length by omega)];exact HZ.1 h j (j+1) (by omega) (by omega) (by omega)
section
variable {w:ae}
theorem oW {e:aj} (he:e∈w.Epochs):e.Tags.Sublist (cL w):=by obtain⟨i,hi,rfl⟩:=Ht he;rw[nO w i,lI hi,GC];exact((HI _ _).trans (Hs _ _))
theorem sd (hw:dL w) {s r:Int}:(c1 s r&&c2 w r&&c3 w&&jL (okW w s) w.Epochs.length 0)=true↔c1 s r=true∧VW w s r:=by simp only[FT];constructor;rintro⟨⟨⟨h1,h2⟩,h3⟩,h4⟩;have hn:=DL.1 h3;have hk:=λi (hi:i<w.Epochs.length)=>jM.1 h4 i (by omega) (by omega);simp only[c2,FT,G8,FU,FW] at h2;refine⟨h1,⟨by omega,by omega,hn,λe he=>?_,?_⟩⟩;obtain⟨i,hi,rfl⟩:=Ht he;have h:=hk i hi;have g:w.Epochs.getD i ⟨0,[]⟩=w.Epochs[i]:=l8 hi _;simp only[okW,epN,epT,g,FT,G8,FW,FX,List.isEmpty_eq_false_iff] at h;obtain⟨⟨⟨⟨a1,a2⟩,a3⟩,a4⟩,a5⟩:=h;rw[ya (pM hw hi) (hn.sublist (oW (F7 hi)))] at a5;exact⟨by omega,a2.1,a2.2,a4,Ba a5⟩;(have adj:∀i,(h:i+1<w.Epochs.length)→w.Epochs[i].Number<w.Epochs[i+1].Number:=fun i h=>by have h5:=hk (i+1) h;have g:w.Epochs.getD (i+1) ⟨0,[]⟩=w.Epochs[i+1]:=l8 h _;have g2:w.Epochs.getD i ⟨0,[]⟩=w.Epochs[i]:=l8 (by omega) _;simp only[okW,epN,epT,Hz,g,g2,FT,G8,IW,FW,FX] at h5;have:=h5.1.1.2;omega);(have far:∀d i,(h:i+d+1<w.Epochs.length)→w.Epochs[i].Number<w.Epochs[i+d+1].Number:=by intro d;induction d with|zero=>intro i h;exact adj i h|succ d ih=>intro i h;have h1:=ih i (by omega);have h2:=adj (i+d+1) (by omega);simp only[show i+(d+1)+1=i+d+1+1 by omega];omega);refine HZ.2 λi j hi hj hij=>?_;have:=far (j - i - 1) i (by omega);simp only[show i+(j - i - 1)+1=j by omega] at this;exact this;rintro⟨h1,v⟩;have hv1:=v.new;have hv2:=v.len;refine⟨⟨⟨h1,?_⟩,DL.2 v.nodup⟩,jM.2 λi _ hi=>?_⟩;simp only[c2,FT,G8,FU,FW];omega;(have hi:i<w.Epochs.length:=by omega);have g:w.Epochs.getD i ⟨0,[]⟩=w.Epochs[i]:=l8 hi _;obtain⟨a1,a2,a3,a4,a5⟩:=v.ep _ (F7 hi);simp only[okW,epN,epT,g,FT,G8,FW,FX,List.isEmpty_eq_false_iff];refine⟨⟨⟨⟨by omega,a2,a3⟩,?_⟩,a4⟩,?_⟩;(cases i with|zero=>simp|succ i=>have g2:w.Epochs.getD i ⟨0,[]⟩=w.Epochs[i]:=l8 (by omega) _;have:=HZ.1 v.inc i (i+1) (by omega) hi (by omega);simp only[Hz,g2,IW,FW];omega);rw[ya (pM hw hi) (v.nodup.sublist (oW (F7 hi)))];exact DM a5
theorem CK (hw:dL w) {s r:Int}:∃c,dF w s r=some c∧(c=0↔c1 s r=true∧VW w s r):=by rw[←zZ hw,lJ hw];refine⟨_,rfl,?_⟩;rw[←sd hw];cases (c1 s r&&c2 w r&&c3 w&&jL (okW w s) w.Epochs.length 0)<;>simp
end
theorem VW.good {w:ae} {s r:Int} (h:VW w s r) (hr:r≤4096) (ht:Tags (cL w)):dL w:=by have h1:=h.new;have h2:=h.len;refine⟨show -9223372036854775808≤w.Newest∧w.Newest≤9223372036854775807 by omega,λe he=>?_,ht,by omega,?_⟩;obtain⟨a,b,_⟩:=h.ep e he;show -9223372036854775808≤e.Number∧e.Number≤9223372036854775807;omega;(have:∀es:List aj,(∀e∈es,e.Tags≠[])→es.length≤(es.flatMap (·.Tags)).length:=by intro es;induction es with|nil=>simp|cons e es ih=>intro h;have h1:=ih λx hx=>h x (by simp[hx]);have h2:0<e.Tags.length:=Jd.2 (h e (by simp));simp only[GC,FM,F2];omega);have:=this w.Epochs λe he=>(h.ep e he).2.2.2.1;have h3:lenOf w=(w.Epochs.flatMap (·.Tags)).length:=rfl;omega
def ins (ep:Int) (ad:List (List Int)):List aj→List aj|[]=>[⟨ep,ad⟩]|e::es=>if e.Number<ep then e::ins ep ad es else if e.Number>ep then⟨ep,ad⟩::e::es else{e with Tags:=ad++e.Tags}::es
theorem pO {ep:Int} {ad:List (List Int)}:∀{es acc:List aj},es.foldl (dS ep ad) (acc,true)=(acc++es,true)|[],acc=>by simp|e::es,acc=>by rw[GF];simp[dS,pO (es:=es)]
theorem vc {ep:Int} {ad:List (List Int)}:∀{es acc:List aj},(bif (es.foldl (dS ep ad) (acc,false)).2 then(es.foldl (dS ep ad) (acc,false)).1 else(es.foldl (dS ep ad) (acc,false)).1++[⟨ep,ad⟩])=acc++ins ep ad es|[],acc=>by simp[ins]|e::es,acc=>by rw[GF];by_cases h1:e.Number<ep;(have h2:decide (e.Number≥ep)=false:=by simp;omega);(have:dS ep ad (acc,false) e=(acc++[e],false):=by simp[dS,h2]);rw[this,vc (es:=es),ins,Gz h1];simp;(have h2:decide (e.Number≥ep)=true:=by simp;omega);by_cases h3:e.Number>ep;(have h4:decide (e.Number>ep)=true:=by simpa using h3);(have:dS ep ad (acc,false) e=(acc++[⟨ep,ad⟩,e],true):=by simp[dS,h2,h4]);rw[this,pO,ins,Gt h1,Gz h3];simp;(have h4:decide (e.Number>ep)=false:=by simpa using h3);(have:dS ep ad (acc,false) e=(acc++[{e with Tags:=ad++e.Tags}],true):=by simp[dS,h2,h4]);rw[this,pO,ins,Gt h1,Gt h3];simp
theorem yb {es:List aj} {ep:Int} {ad:List (List Int)}:putI es ep ad=if ad=[] then es else ins ep ad es:=by unfold putI insI;by_cases h:ad=[];subst h;simp[pO];(have:((ad.length:Int)==0)=false:=by have:=Jd.2 h;simp;omega);rw[this,vc,Gt h];simp
theorem yc {ep:Int} {ad:List (List Int)}:∀{es:List aj} {e:aj},e∈ins ep ad es→e∈es∨e=⟨ep,ad⟩∨∃e0∈es,e0.Number=ep∧e={e0 with Tags:=ad++e0.Tags}|[],e,h=>by simp[ins] at h;exact .inr (.inl h)|x::es,e,h=>by rw[ins] at h;split at h;rcases Gl.1 h with rfl|h;exact .inl (by simp);rcases yc h with h|h|⟨e0,h,k⟩;exact .inl (by simp[h]);exact .inr (.inl h);exact .inr (.inr ⟨e0,by simp[h],k⟩);split at h;rcases Gl.1 h with rfl|h;exact .inr (.inl rfl);exact .inl h;rcases Gl.1 h with rfl|h;exact .inr (.inr ⟨x,by simp,by omega,rfl⟩);exact .inl (by simp[h])
theorem DN {ep:Int} {ad:List (List Int)} {es:List aj} {e:aj} (h:e∈ins ep ad es):e.Number=ep∨∃x∈es,e.Number=x.Number:=by rcases yc h with h|rfl|⟨e0,h,k,rfl⟩;exact .inr ⟨e,h,rfl⟩;exact .inl rfl;exact .inl k
theorem BF {ep:Int} {ad:List (List Int)}:∀{es:List aj},es.Pairwise (λa b=>a.Number<b.Number)→(ins ep ad es).Pairwise (λa b=>a.Number<b.Number)|[],_=>by simp[ins]|x::es,h=>by obtain⟨h1,h2⟩:=Ha.1 h;rw[ins];split;rename_i hx;refine Ha.2 ⟨λy hy=>?_,BF h2⟩;rcases DN hy with e|⟨z,hz,e⟩;omega;have:=h1 z hz;omega;split;rename_i hx hx2;refine Ha.2 ⟨λy hy=>?_,h⟩;rcases Gl.1 hy with rfl|hy;exact hx2;have:=h1 y hy;simp only;omega;exact Ha.2 ⟨λy hy=>h1 y hy,h2⟩
theorem Af {ep:Int} {ad:List (List Int)}:∀{es:List aj},((ins ep ad es).flatMap (·.Tags)).Perm (ad++es.flatMap (·.Tags))|[]=>by simp[ins]|x::es=>by rw[ins];split;rw[GC,GC];refine(IT _ (Af (es:=es))).trans ?_;rw[←F6,←F6];exact List.Perm.append_right _ List.perm_append_comm;split;simp;simp
theorem vd:∀{es:List aj},((es.map fR).flatMap (·.Tags)).Perm (es.flatMap (·.Tags))|[]=>by simp|e::es=>by rw[Ge,GC,GC];exact(iE _).append vd
section
variable {w:ae}
theorem EE {ep r:Int} {tags:List (List Int)} (h:(addW w ep tags r).2=0):0≤r∧r≤4096∧okB w=true∧(0≤ep∧ep≤w.Newest∧w.Newest - ep<8)∧(lenOf w:Int)+((gr w tags).length:Int)≤r∧addW w ep tags r=(⟨w.Newest,(putI w.Epochs ep (gr w tags)).map fR⟩,0):=by unfold addW at h⊢;cases h1:(decide (r<0)||decide (r>4096)|| !okB w) with|true=>rw[h1] at h;simp at h|false=>rw[h1] at h;cases h2:(decide (ep<0)|| !(decide (ep≤w.Newest)&&decide (w.Newest - ep<8))) with|true=>rw[h2] at h;simp at h|false=>rw[h2] at h;cases h3:decide ((lenOf w:Int)+((gr w tags).length:Int)>r) with|true=>rw[h3] at h;simp at h|false=>simp only[FU,FW,Bool.not_eq_false',FT,FX] at h1 h2 h3;exact⟨by omega,by omega,h1.2,by omega,by omega,rfl⟩
theorem DO {ep r:Int} {tags:List (List Int)} (h:(addW w ep tags r).2≠0):(addW w ep tags r).1=⟨0,[]⟩:=by unfold addW at h⊢;cases h1:(decide (r<0)||decide (r>4096)|| !okB w) with|true=>rfl|false=>rw[h1] at h;cases h2:(decide (ep<0)|| !(decide (ep≤w.Newest)&&decide (w.Newest - ep<8))) with|true=>rfl|false=>rw[h2] at h;cases h3:decide ((lenOf w:Int)+((gr w tags).length:Int)>r) with|true=>rfl|false=>rw[h3] at h;simp at h
def put (w:ae) (ep:Int) (tags:List (List Int)):ae:=⟨w.Newest,(putI w.Epochs ep (gr w tags)).map fR⟩
theorem ql {tags:List (List Int)} {t:List Int}:t∈gr w tags↔t∈tags∧t∉cL w:=by unfold gr;rw[(iE _).mem_iff,qk]
theorem rh {tags:List (List Int)}:(gr w tags).Nodup:=(iE _).nodup_iff.2 re
theorem ve {ep:Int} {tags:List (List Int)}:(cL (put w ep tags)).Perm (gr w tags++cL w):=by refine(vd (es:=putI w.Epochs ep (gr w tags))).trans ?_;rw[yb];split;rename_i h;rw[h];exact List.Perm.refl _;exact Af
theorem DP {ep:Int} {tags:List (List Int)} {t:List Int}:t∈cL (put w ep tags)↔t∈cL w∨t∈tags:=by rw[ve.mem_iff,Gd,ql];by_cases h:t∈cL w<;>simp[h]
theorem EF {ep:Int} {tags:List (List Int)}:lenOf (put w ep tags)=(gr w tags).length+lenOf w:=by have:=(ve (w:=w) (ep:=ep) (tags:=tags)).length_eq;rwa [FM] at this
theorem CL {ep s s' r r':Int} {tags:List (List Int)} (h:VW w s r) (ht:Tags tags) (hT:Tags (cL w)) (he:0≤ep∧ep≤w.Newest∧w.Newest - ep<s') (hs:s≤s') (hl:(lenOf w:Int)+((gr w tags).length:Int)≤r'):VW (put w ep tags) s' r':=by have hnd:(gr w tags++cL w).Nodup:=Hu.2 ⟨rh,h.nodup,λa ha b hb e=>by subst e;exact(ql.1 ha).2 hb⟩;have hTf:Tags (gr w tags):=λt h=>ht t (ql.1 h).1;refine⟨h.new,by rw[EF];omega,ve.nodup_iff.2 hnd,λe hm=>?_,?_⟩;obtain⟨x,hx,rfl⟩:=Gu.1 hm;(have key:0≤x.Number∧x.Number≤w.Newest∧w.Newest - x.Number<s'∧x.Tags≠[]∧Tags x.Tags∧x.Tags.Nodup:=by (have old:∀y∈w.Epochs,0≤y.Number∧y.Number≤w.Newest∧w.Newest - y.Number<s'∧y.Tags≠[]∧Tags y.Tags∧y.Tags.Nodup:=λy hy=>by obtain⟨a,b,c,d,f⟩:=h.ep y hy;exact⟨a,b,by omega,d,λt htt=>hT t ((oW hy).subset htt),h.nodup.sublist (oW hy)⟩);rw[yb] at hx;split at hx;exact old x hx;rename_i hne;rcases yc hx with hx|rfl|⟨y,hy,hyn,rfl⟩;exact old x hx;exact⟨he.1,he.2.1,he.2.2,hne,hTf,rh⟩;obtain⟨a,b,c,d,f,g⟩:=old y hy;refine⟨a,b,c,by simp[hne],λt htt=>?_,?_⟩;rcases Gd.1 htt with k|k;exact hTf t k;exact f t k;exact hnd.sublist ((List.Sublist.refl _).append (oW hy)));obtain⟨k1,k2,k3,k4,k5,k6⟩:=key;refine⟨k1,k2,k3,λe=>k4 ?_,oV k5 k6⟩;have:=(iE x.Tags).length_eq;have e:msort x.Tags=[]:=e;rw[e] at this;exact Gb this.symm;refine IQ.2 ?_;show List.Pairwise (λa b:aj=>a.Number<b.Number) _;rw[yb];split;exact h.inc;exact BF h.inc
end
end Go.Proofs.YtobbmodjdkcdcaaGreatDoor
namespace Go.Proofs.YtobbmodjdkcdcaaGreatDoor
open Go Go.Sim
variable [Fu]
theorem yd {α:Type} (xs:List α):(xs.map (bOne (α:=α))).sum=xs.length:=by induction xs with|nil=>rfl|cons x xs ih=>simp[bOne] at ih⊢;omega
theorem DQ {w:ae} (hg:nU w) (hb:i8 w≤1048576):dL w:=by obtain⟨h1,⟨h2,h3⟩,_⟩:=hg;(have hsum:(cL w).length+w.Epochs.length≤(w.Epochs.map gQ).sum:=by (have:∀es:List aj,(∀e∈es,mL e)→(es.flatMap (·.Tags)).length+es.length≤(es.map gQ).sum:=by intro es hes;induction es with|nil=>simp|cons e es ih=>have i1:=ih λx hx=>hes x (by simp[hx]);obtain⟨_,⟨g2,_⟩,_⟩:=hes e (by simp);(have h16:e.Tags.length≤(e.Tags.map (bArr bOne)).sum:=by (have:∀ts:List (List Int),(∀t∈ts,gArr 16 (gInt .u8) t)→ts.length≤(ts.map (bArr bOne)).sum:=by intro ts hts;induction ts with|nil=>simp|cons t ts ih2=>have i2:=ih2 λx hx=>hts x (by simp[hx]);have i3:=(hts t (by simp)).2;have:bArr bOne t=t.length:=yd t;simp only[Ge,ID,F2,this];omega);exact this _ g2);have hbe:gQ e=bOne e.Number+(bSl (bArr bOne) e.Tags+0):=rfl;have hb2:bSl (bArr bOne) e.Tags=(e.Tags.map (bArr bOne)).sum+1:=rfl;simp only[GC,FM,Ge,ID,F2,hbe,hb2];omega);exact this _ h2);have hbw:i8 w=bOne w.Newest+(((w.Epochs.map gQ).sum+1)+0):=rfl;refine⟨h1,λe he=>(h2 e he).1,λt ht=>?_,by unfold lenOf;omega,by omega⟩;obtain⟨e,he,het⟩:=It.1 ht;obtain⟨_,⟨g2,_⟩,_⟩:=h2 e he;exact⟨(g2 t het).2,λb hb=>(g2 t het).1 b hb⟩
end Go.Proofs.YtobbmodjdkcdcaaGreatDoor
namespace Go.Proofs.YtobbmodjdkcdcaaGreatDoor
open Go Go.Sim
variable [Fu]
section
variable {w:ae}
theorem EG (hw:dL w):okB w=true↔VW w 8 4096:=by have:=sd hw (s:=8) (r:=4096);unfold okB;rw[this];exact⟨λh=>h.2,λh=>⟨by decide,h⟩⟩
theorem DR (hw:dL w) {ep r:Int} {tags:List (List Int)} (ht:Tags tags) (h:(addW w ep tags r).2=0):VW (put w ep tags) 8 r∧dL (put w ep tags)∧(addW w ep tags r).1=put w ep tags:=by obtain⟨h1,h2,h3,h4,h5,h6⟩:=EE h;have v:=CL ((EG hw).1 h3) ht hw.tag h4 (Int.le_refl _) h5;refine⟨v,v.good h2 λt htt=>?_,by rw[h6];rfl⟩;rcases DP.1 htt with k|k;exact hw.tag t k;exact ht t k
theorem CM (hw:dL w) {ep r:Int} {tags:List (List Int)} (ht:Tags tags):dL (addW w ep tags r).1:=by by_cases h:(addW w ep tags r).2=0;obtain⟨_,h2,h3⟩:=DR hw ht h;rw[h3];exact h2;rw[DO h];exact uZ
end
end Go.Proofs.YtobbmodjdkcdcaaGreatDoor
